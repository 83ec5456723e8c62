/- Abstract states, and the rules of the walk told on them: sequences, branches, loops, regions in the text's order. No conditions. -/
import Derived.Test.YtnakkelglbcecaaGreatPm
namespace Go.Proofs.YtnakkelglbcecaaGreat
set_option linter.unusedSimpArgs false
set_option linter.unusedVariables false
open Go.RowKit

structure AS where
  env : List (Nat × PV)
  st : Sto
def AS.lk (s : AS) (i : Nat) : Option PV := s.env.lookup i
def AS.put (s : AS) (d : Nat) (p : PV) : AS := ⟨(d, p) :: s.env, s.st⟩
def AS.putO (s : AS) : Option Nat → PV → AS
  | none, _ => s
  | some d, p => s.put d p
def AS.delO (s : AS) : Option Nat → AS
  | none => s
  | some d => ⟨s.env.filter (fun x => x.1 != d), s.st⟩
def constPV : Value → Option PV
  | .int k n => if (Lit.int k n).wf then some (.t (.leaf (.int k n))) else none
  | .bool b => some (.t (.leaf (.bool b)))
  | .string s => if s.size ≤ maxLen then some (.t (.leaf (.string s))) else none
  | .slice none 0 0 => some .nil
  | _ => none
def AS.ev (s : AS) : Operand → Option PV
  | .tmp i => s.lk i
  | .const v => constPV v
  | .global _ => none
  | .func f => some (.fn f [])

/-- What stood at the entry. -/
structure Ctx where
  av : Nat → Nat → Prop
  st : Sto
  m : Lay
  w : World

structure RA (C : Ctx) (n : Nat) (s : AS) (m : Lay) (a : Act) (w : World) : Prop where
  dfr : a.defers = []
  tsz : a.tmps.size = n
  sto : StoOk C.av s.st m w
  env : ∀ i p, s.lk i = some p → ∃ v, a.tmps[i]? = some v ∧ RV (okA C.av s.st m) s.st m w p v
  ev : Ev C.st C.m C.w s.st m w

theorem constPV_rv {ok : Nat → Nat → Prop} {st : Sto} {m : Lay} {w : World} {v : Value} {p : PV} (h : constPV v = some p) : RV ok st m w p v := by
  unfold constPV at h
  split at h
  · split at h
    · rename_i hw
      cases h
      exact RepM.leaf hw
    · cases h
  · cases h
    exact RepM.leaf trivial
  · split at h
    · rename_i hw
      cases h
      exact RepM.leaf hw
    · cases h
  · cases h
    rfl
  · cases h

section
variable {C : Ctx} {n : Nat} {s : AS} {m : Lay} {a : Act} {w : World}

theorem RA.eval (h : RA C n s m a w) {x : Operand} {p : PV} (hx : s.ev x = some p) : RV (okA C.av s.st m) s.st m w p (a.eval x) := by
  cases x with
  | tmp i =>
    obtain ⟨v, hv, hr⟩ := h.env i p hx
    simpa [Act.eval, Array.getD_eq_getD_getElem?, hv] using hr
  | const v => exact constPV_rv hx
  | global g => cases hx
  | func f =>
    cases hx
    exact ⟨[], rfl, trivial⟩

theorem AS.lk_put (s : AS) (d i : Nat) (p : PV) : (s.put d p).lk i = if i = d then some p else s.lk i := by
  unfold AS.lk AS.put
  rw [List.lookup_cons]
  by_cases h : i = d
  · simp [h]
  · rw [if_neg h, show (i == d) = false by simp [h]]

theorem RA.put (h : RA C n s m a w) {d : Option Nat} {p : PV} {v : Value} (hd : ∀ x, d = some x → x < n) (hr : RV (okA C.av s.st m) s.st m w p v) : RA C n (s.putO d p) m (a.put d v) w := by
  cases d with
  | none => exact h
  | some d =>
    refine ⟨h.dfr, by simp [Act.put, h.tsz], h.sto, fun i q hq => ?_, h.ev⟩
    have hq' : (s.put d p).lk i = some q := hq
    rw [AS.lk_put] at hq'
    have hdn := hd d rfl
    by_cases hi : i = d
    · rw [if_pos hi] at hq'
      cases hq'
      subst hi
      exact ⟨v, by simp [Act.put, h.tsz, hdn], hr⟩
    · rw [if_neg hi] at hq'
      obtain ⟨u, hu, hru⟩ := h.env i q hq'
      exact ⟨u, by simp only [Act.put]; rw [Array.getElem?_setIfInBounds_ne (fun e => hi e.symm)]; exact hu, hru⟩

theorem lookup_filter_ne {d i : Nat} {q : PV} : ∀ (l : List (Nat × PV)), (l.filter (fun x => x.1 != d)).lookup i = some q → i ≠ d ∧ l.lookup i = some q
  | [], h => by simp at h
  | (k, p) :: l, h => by
    by_cases hk : k = d
    · have h' : (l.filter (fun x => x.1 != d)).lookup i = some q := by simpa [List.filter_cons, hk] using h
      obtain ⟨h1, h2⟩ := lookup_filter_ne l h'
      refine ⟨h1, ?_⟩
      rw [List.lookup_cons, show (i == k) = false by simp [hk, h1]]
      exact h2
    · have h' : ((k, p) :: l.filter (fun x => x.1 != d)).lookup i = some q := by simpa [List.filter_cons, hk] using h
      rw [List.lookup_cons] at h' ⊢
      by_cases hik : i = k
      · subst hik
        simp only [BEq.rfl] at h' ⊢
        exact ⟨hk, h'⟩
      · rw [show (i == k) = false by simp [hik]] at h' ⊢
        exact lookup_filter_ne l h'

theorem RA.del (h : RA C n s m a w) (d : Option Nat) (v : Value) : RA C n (s.delO d) m (a.put d v) w := by
  cases d with
  | none => exact h
  | some d =>
    refine ⟨h.dfr, by simp [Act.put, h.tsz], h.sto, fun i q hq => ?_, h.ev⟩
    obtain ⟨h1, h2⟩ := lookup_filter_ne s.env hq
    obtain ⟨u, hu, hru⟩ := h.env i q h2
    exact ⟨u, by simp only [Act.put]; rw [Array.getElem?_setIfInBounds_ne (fun e => h1 e.symm)]; exact hu, hru⟩

theorem RA.step (h : RA C n s m a w) {st1 : Sto} {m1 : Lay} {w1 : World} (e : Ev s.st m w st1 m1 w1) (k : StoOk C.av st1 m1 w1) : RA C n ⟨s.env, st1⟩ m1 a w1 :=
  ⟨h.dfr, h.tsz, k, fun i p hp => by obtain ⟨v, hv, hr⟩ := h.env i p hp; exact ⟨v, hv, RV.mono e p v hr⟩, h.ev.trans e⟩
end

/-- A state that says less. -/
def Wk (C : Ctx) (n : Nat) (s s' : AS) : Prop := ∀ m a w, RA C n s m a w → ∃ m', RA C n s' m' a w
theorem Wk.refl (C : Ctx) (n : Nat) (s : AS) : Wk C n s s := fun m _ _ h => ⟨m, h⟩
theorem Wk.trans {C : Ctx} {n : Nat} {s s' s'' : AS} (h : Wk C n s s') (k : Wk C n s' s'') : Wk C n s s'' := fun m a w hr => by
  obtain ⟨m', h'⟩ := h m a w hr
  exact k m' a w h'

def AWP (P : Program) (C : Ctx) (n : Nat) (c : Code) (Q : Exit → AS → Prop) (s : AS) : Prop :=
  ∀ m a w, RA C n s m a w → c.wp P (fun e a' w' => ∃ s' m', Q e s' ∧ RA C n s' m' a' w') a w
def AL (P : Program) (C : Ctx) (n : Nat) (ops : Array Oper) (l : List Oper) (Q : Exit → AS → Prop) (s : AS) : Prop :=
  ∀ m a w, RA C n s m a w → wpList P ops (fun e a' w' => ∃ s' m', Q e s' ∧ RA C n s' m' a' w') l a w
def AOp (P : Program) (C : Ctx) (n : Nat) (o : Oper) (s s1 : AS) : Prop :=
  ∀ m a w, RA C n s m a w → ∀ (K : Act → World → Prop) (Q : Exit → Act → World → Prop), (∀ m' a' w', RA C n s1 m' a' w' → K a' w') → o.wp P a w K Q

def thenA (next : AS → Prop) (Q : Exit → AS → Prop) : Exit → AS → Prop
  | .normal, s => next s
  | e, s => Q e s
def inBlockA (id : Nat) (Q : Exit → AS → Prop) : Exit → AS → Prop
  | .exit id', s => if id' = id then Q .normal s else Q (.exit id') s
  | e, s => Q e s

section
variable {P : Program} {C : Ctx} {n : Nat} {s : AS} {Q : Exit → AS → Prop}

theorem AWP.weak {c : Code} {s' : AS} (hw : Wk C n s s') (h : AWP P C n c Q s') : AWP P C n c Q s := fun m a w hr => by
  obtain ⟨m', h'⟩ := hw m a w hr
  exact h m' a w h'
theorem AL.weak {ops : Array Oper} {l : List Oper} {s' : AS} (hw : Wk C n s s') (h : AL P C n ops l Q s') : AL P C n ops l Q s := fun m a w hr => by
  obtain ⟨m', h'⟩ := hw m a w hr
  exact h m' a w h'
theorem AWP.mono {c : Code} {Q' : Exit → AS → Prop} (h : AWP P C n c Q s) (hq : ∀ e s', Q e s' → Q' e s') : AWP P C n c Q' s := fun m a w hr =>
  wp_mono (h m a w hr) fun e a' w' => by rintro ⟨s', m', h1, h2⟩; exact ⟨s', m', hq e s' h1, h2⟩

theorem AWP.skip (h : Q .normal s) : AWP P C n .skip Q s := fun m _ _ hr => wp_skip ⟨s, m, h, hr⟩
theorem AWP.exit {id : Nat} (h : Q (.exit id) s) : AWP P C n (.exit id) Q s := fun m _ _ hr => wp_exit ⟨s, m, h, hr⟩
theorem AWP.ret (h : Q .ret s) : AWP P C n .ret Q s := fun m _ _ hr => wp_ret ⟨s, m, h, hr⟩
theorem AWP.seq {x y : Code} (h : AWP P C n x (thenA (AWP P C n y Q) Q) s) : AWP P C n (.seq x y) Q s := fun m a w hr =>
  wp_seq (wp_mono (h m a w hr) fun e a' w' => by
    rintro ⟨s', m', h1, h2⟩
    cases e with
    | normal => exact h1 m' a' w' h2
    | _ => exact ⟨s', m', h1, h2⟩)
theorem AWP.block {id : Nat} {c : Code} (h : AWP P C n c (inBlockA id Q) s) : AWP P C n (.block id c) Q s := fun m a w hr =>
  wp_block (wp_mono (h m a w hr) fun e a' w' => by
    rintro ⟨s', m', h1, h2⟩
    cases e with
    | exit id' =>
      simp only [inBlockA] at h1
      simp only [Exit.inBlock]
      split <;> rename_i hid
      · rw [if_pos hid] at h1; exact ⟨s', m', h1, h2⟩
      · rw [if_neg hid] at h1; exact ⟨s', m', h1, h2⟩
    | _ => exact ⟨s', m', h1, h2⟩)
theorem AWP.cond {c : Operand} {x y : Code} {b : Bool} (hc : s.ev c = some (.t (.leaf (.bool b)))) (ht : b = true → AWP P C n x Q s) (hf : b = false → AWP P C n y Q s) : AWP P C n (.cond c x y) Q s := fun m a w hr => by
  have hv := (RepM.leaf_eq (hr.eval hc)).1
  exact wp_cond_split hv (fun h => ht h m a w hr) (fun h => hf h m a w hr)

theorem wp_loop_ix {c : Code} {R : Exit → Act → World → Prop} {ι : Type} (I : ι → Act → World → Prop) (μ : ι → Nat) (i0 : ι) {a : Act} {w : World} (h₀ : I i0 a w)
    (round : ∀ i a w, I i a w → c.wp P (Exit.then (fun a' w' => ∃ j, I j a' w' ∧ μ j < μ i) R) a w) : (Code.loop c).wp P R a w := by
  intro b k cs
  have key : ∀ n i a w, μ i = n → I i a w → ∃ e a' w', R e a' w' ∧ Arrives P (lone (b.at a (.code c :: .inLoop c :: k)) cs w) b k cs e a' w' := by
    intro n
    induction n using Nat.strongRecOn with
    | _ n ih =>
      intro i a w hn hI
      obtain ⟨e, a₁, w₁, hq, harr⟩ := round i a w hI b (.inLoop c :: k) cs
      cases e with
      | normal =>
        obtain ⟨j, hI₁, hlt⟩ := hq
        obtain ⟨e₂, a₂, w₂, hq₂, harr₂⟩ := ih (μ j) (hn ▸ hlt) j a₁ w₁ rfl hI₁
        exact ⟨e₂, a₂, w₂, hq₂, .of_steps (Steps.trans harr (.one step_inLoop)) harr₂⟩
      | exit id => exact ⟨_, a₁, w₁, hq, .pass (x := .inLoop c) rfl (fun _ _ => .inl (by simp)) harr⟩
      | goto l => exact ⟨_, a₁, w₁, hq, .pass (x := .inLoop c) rfl (fun _ _ => .inl (by simp)) harr⟩
      | ret => exact ⟨_, a₁, w₁, hq, .pass (x := .inLoop c) rfl (fun _ _ => .inl (by simp)) harr⟩
      | panic ch => exact ⟨_, a₁, w₁, hq, .pass (x := .inLoop c) rfl (fun _ _ => .inl (by simp)) harr⟩
      | outgrown => exact ⟨_, a₁, w₁, hq, .pass (x := .inLoop c) rfl (fun _ _ => .inl (by simp)) harr⟩
  obtain ⟨e, a', w', hq, harr⟩ := key _ i0 a w rfl h₀
  exact ⟨e, a', w', hq, .of_steps (.one step_loop) harr⟩

/-- A loop: at its head the state is 'I i' for some i. -/
theorem AWP.loop {c : Code} {ι : Type} (I : ι → AS) (μ : ι → Nat) (i0 : ι) (h0 : Wk C n s (I i0)) (round : ∀ i, AWP P C n c (thenA (fun s' => ∃ j, Wk C n s' (I j) ∧ μ j < μ i) Q) (I i)) : AWP P C n (.loop c) Q s := fun m a w hr => by
  refine wp_loop_ix (fun i a w => ∃ m, RA C n (I i) m a w) μ i0 (h0 m a w hr) fun i a w hi => ?_
  obtain ⟨m1, h1⟩ := hi
  refine wp_mono (round i m1 a w h1) fun e a' w' => ?_
  rintro ⟨s', m', h2, h3⟩
  cases e with
  | normal =>
    obtain ⟨j, hj, hlt⟩ := h2
    exact ⟨j, hj m' a' w' h3, hlt⟩
  | _ => exact ⟨s', m', h2, h3⟩

theorem AWP.region {id : Nat} {ops : Array Oper} (h : AL P C n ops ops.toList Q s) : AWP P C n (.region id ops false) Q s := fun m a w hr => wp_region_list (h m a w hr)
theorem AWP.region_lit {id : Nat} {l : List Oper} (h : AL P C n l.toArray l Q s) : AWP P C n (.region id l.toArray false) Q s := AWP.region (by simpa using h)
theorem AL.nil {ops : Array Oper} (h : Q .normal s) : AL P C n ops [] Q s := fun m _ _ hr => wpList_nil ⟨s, m, h, hr⟩
theorem AL.cons {ops : Array Oper} {o : Oper} {rest : List Oper} {s1 : AS} (hg : o.guard = none) (ho : AOp P C n o s s1) (h : AL P C n ops rest Q s1) : AL P C n ops (o :: rest) Q s := fun m a w hr =>
  wpList_plain hg fun K hK => ho m a w hr K _ fun m' a' w' h' => hK a' w' (h m' a' w' h')

theorem RA.yielded {a : Act} {m : Lay} {w : World} (hr : RA C n s m a w) {ops : Array Oper} {j d : Nat} {b : Bool} (hj : (ops[j]?).bind (·.dst) = some d) (hb : s.lk d = some (.t (.leaf (.bool b)))) : yielded ops a.tmps j = some b := by
  obtain ⟨v, hv, hrv⟩ := hr.env d _ hb
  obtain ⟨rfl, -⟩ := RepM.leaf_eq hrv
  simp [Go.yielded, hj, hv]
theorem AL.cons_g {ops : Array Oper} {o : Oper} {rest : List Oper} {s1 : AS} {j d : Nat} {b : Bool} (hg : o.guard = some (j, b)) (hj : (ops[j]?).bind (·.dst) = some d) (hb : s.lk d = some (.t (.leaf (.bool b)))) (ho : AOp P C n o s s1) (h : AL P C n ops rest Q s1) : AL P C n ops (o :: rest) Q s := fun m a w hr =>
  wpList_step fun K hK => by
    rw [if_pos (by simp [Region.wanted, hg, hr.yielded hj hb])]
    exact ho m a w hr K _ fun m' a' w' h' => hK a' w' (h m' a' w' h')
theorem AL.skip {ops : Array Oper} {o : Oper} {rest : List Oper} {j d : Nat} {b c : Bool} (hg : o.guard = some (j, c)) (hj : (ops[j]?).bind (·.dst) = some d) (hb : s.lk d = some (.t (.leaf (.bool b)))) (hbc : (b == c) = false) (h : AL P C n ops rest Q (s.delO o.dst)) : AL P C n ops (o :: rest) Q s := fun m a w hr =>
  wpList_step fun K hK => by
    rw [if_neg (by simpa [Region.wanted, hg, hr.yielded hj hb] using hbc)]
    exact hK _ _ (h m _ w (hr.del o.dst undef))

/-- An operation that yields a value and leaves the memory alone. -/
theorem AOp.quiet {o : Oper} {p : PV} (hd : ∀ x, o.dst = some x → x < n) (h : ∀ m a w, RA C n s m a w → ∃ v, (execOp a.eval o).run P w = .ok (.value v) w ∧ RV (okA C.av s.st m) s.st m w p v) : AOp P C n o s (s.putO o.dst p) := fun m a w hr K Q hK => by
  obtain ⟨v, hv, hp⟩ := h m a w hr
  unfold Oper.wp
  rw [hv]
  exact hK m _ w (hr.put hd hp)
end

/-- A call: whatever the memory, the function returns 'res', the boxes and rows that it was handed stand as in the new store. -/
def ACalls (P : Program) (f : FuncId) (args : List PV) (pre : Sto) (R : PV → Sto → Prop) : Prop :=
  ∀ av m w vals, StoOk av pre m w → RVL (okA av pre m) pre m w args vals →
    Calls P f ⟨vals⟩ w fun e w' => ∃ res st' m' v, e = .returned v ∧ R res st' ∧ StoOk av st' m' w' ∧ Ev pre m w st' m' w' ∧ RV (okA av st' m') st' m' w' res v

def argEnv : Nat → List PV → List (Nat × PV)
  | _, [] => []
  | i, p :: ps => (i, p) :: argEnv (i + 1) ps
theorem argEnv_lookup {av : Nat → Nat → Prop} {st : Sto} {m : Lay} {w : World} : ∀ (ps : List PV) (vs : List Value) (k i : Nat) (p : PV), RVL (okA av st m) st m w ps vs → (argEnv k ps).lookup i = some p → ∃ v, k ≤ i ∧ vs[i - k]? = some v ∧ RV (okA av st m) st m w p v
  | [], [], _, _, _, _, h => by simp [argEnv] at h
  | q :: ps, u :: vs, k, i, p, hr, h => by
    rw [argEnv, List.lookup_cons] at h
    by_cases hik : i = k
    · subst hik
      simp at h
      subst h
      exact ⟨u, Nat.le_refl _, by simp, hr.1⟩
    · rw [show (i == k) = false by simp [hik]] at h
      obtain ⟨v, h1, h2, h3⟩ := argEnv_lookup ps vs (k + 1) i p hr.2 h
      exact ⟨v, by omega, by rw [show i - k = (i - (k + 1)) + 1 by omega]; simpa using h2, h3⟩
  | [], _ :: _, _, _, _, hr, _ => hr.elim
  | _ :: _, [], _, _, _, hr, _ => hr.elim

/-- What a function's end says: its results, and the boxes and rows that stay. -/
def Ends (P : Program) (C : Ctx) (n : Nat) (fn : Func) (R : PV → Sto → Prop) (e : Exit) (s : AS) : Prop :=
  (e = .normal ∨ e = .ret) ∧ ∀ m a w, RA C n s m a w → ∃ res st' m' v, (results fn a.tmps).run P w = .ok v w ∧ R res st' ∧ StoOk C.av st' m' w ∧ Ev C.st C.m C.w st' m' w ∧ RV (okA C.av st' m') st' m' w res v

theorem ACalls.intro {P : Program} {f : FuncId} {fn : Func} {c : Code} {args : List PV} {pre : Sto} {R : PV → Sto → Prop} (hf : P.funcs[f]? = some fn) (hb : fn.body = some c) (hn : args.length ≤ fn.ntmps)
    (h : ∀ C : Ctx, C.st = pre → AWP P C fn.ntmps c (Ends P C fn.ntmps fn R) ⟨argEnv 0 args, pre⟩) : ACalls P f args pre R := by
  intro av m w vals hst hargs
  refine calls_of_wp hf hb ?_
  have hl : args.length = vals.length := hargs.length
  have hra : RA ⟨av, pre, m, w⟩ fn.ntmps ⟨argEnv 0 args, pre⟩ m { tmps := ⟨vals⟩ ++ Array.replicate (fn.ntmps - (⟨vals⟩ : Array Value).size) undef, defers := [] } w := by
    refine ⟨rfl, by simp; omega, hst, fun i p hp => ?_, Ev.refl _ _ _⟩
    obtain ⟨v, -, h2, h3⟩ := argEnv_lookup args vals 0 i p hargs hp
    refine ⟨v, ?_, h3⟩
    have hi : i < vals.length := (List.getElem?_eq_some_iff.1 (by simpa using h2)).1
    rw [Array.getElem?_append_left (by simpa using hi)]
    simpa using h2
  refine wp_mono (h ⟨av, pre, m, w⟩ rfl m _ w hra) fun e a' w' => ?_
  rintro ⟨s', m', ⟨he, hends⟩, hr⟩
  obtain ⟨res, st', m2, v, h1, h2, h3, h4, h5⟩ := hends m' a' w' hr
  rcases he with rfl | rfl
  · exact ⟨hr.dfr, v, h1, res, st', m2, v, rfl, h2, h3, h4, h5⟩
  · exact ⟨hr.dfr, v, h1, res, st', m2, v, rfl, h2, h3, h4, h5⟩

end Go.Proofs.YtnakkelglbcecaaGreat
