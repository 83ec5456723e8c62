/- Words, rules and walks of several kinds, laid together: Pm9, Pm10, Data, PmD, PmX, PmY, PmZ, PmW, PmV, PmN, PmO, PmDS, PmT. No conditions but those that each theorem states. -/
import Derived.Test.YtoifjkggpanceaaQ1LSupers
import Derived.Test.YtoifjkggpanceaaProg
set_option linter.unusedSimpArgs false
set_option linter.unusedVariables false
namespace Go.Proofs.Ytoifjkggpanceaa
set_option linter.unusedSimpArgs false
set_option linter.unusedVariables false
open Go.RowKit Go.WalkArith Go.IntWalk Go.WideShapes

/-- What an operation is: it leaves the store alone (and may run while between lo and hi of the effects have been); it makes the region's one box; it is effect number j. -/
inductive DK where
  | q (lo hi : Nat)
  | al
  | ef (j : Nat)

structure Draw where
  ops : Array Oper
  env0 : List (Nat × PV)
  F : Nat → Bool → Sto
  out : Nat → Option PV
  kind : Nat → DK
  effs : List Nat
  alloc : Option Nat
  ins : Nat → List (Nat × Option Nat)

/-- i must have come before j. -/
def ancOf (ops : Array Oper) : Nat → Nat → Nat → Bool
  | 0, _, _ => false
  | fuel + 1, i, j => match ops[j]? with
    | some o => o.after.toList.any fun e => Region.binds .any e && (e.on == i || ancOf ops fuel i e.on)
    | none => false
def writerOf (ops : Array Oper) (t : Nat) : Option Nat := (List.range ops.size).find? fun i => match ops[i]? with | some o => o.dst == some t | none => false

def Draw.anc (D : Draw) (i j : Nat) : Bool := ancOf D.ops D.ops.size i j
def Draw.okIns (D : Draw) (i : Nat) (x : Nat × Option Nat) : Bool := match x.2 with
  | some j => writerOf D.ops x.1 == some j && D.anc j i
  | none => match writerOf D.ops x.1 with
    | none => true
    | some j => j == i || D.anc i j
def Draw.okKind (D : Draw) (i : Nat) : Bool := match D.kind i with
  | .q lo hi => decide (lo ≤ hi) && decide (hi ≤ D.effs.length) && ((D.effs.take lo).all fun e => D.anc e i) && ((D.effs.drop hi).all fun e => D.anc i e) && !(D.effs.contains i) && D.alloc != some i
  | .al => D.alloc == some i && !(D.effs.contains i)
  | .ef j => D.effs[j]? == some i && ((D.effs.take j).all fun e => D.anc e i) && ((D.effs.drop (j + 1)).all fun e => D.anc i e && e != i) && D.alloc != some i
def nodupDst (ops : Array Oper) : Bool := ops.toList.zipIdx.all fun (o, i) => match o.dst with
  | some d => writerOf ops d == some i
  | none => true
/-- The whole check, on numbers alone. -/
def Draw.okOp (D : Draw) (i : Nat) : Bool := match D.ops[i]? with
  | some o => (o.after.all fun e => !Region.binds .any e || decide (e.on < i)) && (match o.guard with | some (j, _) => D.anc j i && (match D.ops[j]? with | some oj => oj.dst.isSome | none => false) | none => true)
  | none => true
def Draw.ok (D : Draw) : Bool := (List.range D.ops.size).all D.okOp && nodupDst D.ops && (List.range D.ops.size).all (fun i => D.okKind i && (D.ins i).all (D.okIns i)) && (D.effs.all fun e => decide (e < D.ops.size)) && (match D.alloc with | some i => decide (i < D.ops.size) | none => true)
def Draw.pv (D : Draw) (x : Nat × Option Nat) : Option PV := match x.2 with
  | some j => D.out j
  | none => D.env0.lookup x.1

section
variable (D : Draw)
def Draw.envX (X : Array Bool) : List (Nat × PV) := ((List.range D.ops.size).filterMap fun i => if X.getD i false then (match D.ops[i]? with | some o => (match o.dst, D.out i with | some d, some p => some (d, p) | _, _ => none) | none => none) else none) ++ D.env0
def Draw.cnt (X : Array Bool) : Nat := (D.effs.takeWhile fun e => X.getD e false).length
def Draw.alX (X : Array Bool) : Bool := match D.alloc with | some i => X.getD i false | none => false
def Draw.sX (X : Array Bool) : AS := ⟨D.envX X, D.F (D.cnt X) (D.alX X)⟩
def Draw.closed (X : Array Bool) : Prop := ∀ j o, X.getD j false = true → D.ops[j]? = some o → ∀ e ∈ o.after, Region.binds .any e = true → X.getD e.on false = true
end

theorem anc_mem {D : Draw} {X : Array Bool} (hc : D.closed X) : ∀ (fuel i j : Nat), ancOf D.ops fuel i j = true → (∀ o, D.ops[j]? = some o → ∀ e ∈ o.after, Region.binds .any e = true → X.getD e.on false = true) → X.getD i false = true
  | 0, i, j, h, _ => by simp [ancOf] at h
  | fuel + 1, i, j, h, hd => by
    simp only [ancOf] at h
    split at h
    · rename_i o ho
      rw [List.any_eq_true] at h
      obtain ⟨e, he, h⟩ := h
      simp only [Bool.and_eq_true, Bool.or_eq_true, beq_iff_eq] at h
      have hx := hd o ho e (by simpa using he) h.1
      rcases h.2 with h2 | h2
      · rw [← h2]; exact hx
      · exact anc_mem hc fuel i e.on h2 fun o' ho' => hc e.on o' hx ho'
    · cases h

theorem lookup_filterMap {n t : Nat} {g : Nat → Option (Nat × PV)} {rest : List (Nat × PV)} : ∀ (l : List Nat), (∀ i ∈ l, ∀ p, g i = some (t, p) → ∀ i' ∈ l, ∀ p', g i' = some (t, p') → i = i') →
    (∀ i ∈ l, ∀ p, g i = some (t, p) → (l.filterMap g ++ rest).lookup t = some p) ∧ ((∀ i ∈ l, ∀ p, g i ≠ some (t, p)) → (l.filterMap g ++ rest).lookup t = rest.lookup t)
  | [], _ => ⟨by simp, by simp⟩
  | x :: l, h => by
    obtain ⟨h1, h2⟩ := lookup_filterMap (n := n) l fun i hi p hp i' hi' p' hp' => h i (by simp [hi]) p hp i' (by simp [hi']) p' hp'
    cases hg : g x with
    | none =>
      rw [List.filterMap_cons_none hg]
      refine ⟨fun i hi p hp => ?_, fun hn => h2 fun i hi p => hn i (by simp [hi]) p⟩
      rcases List.mem_cons.1 hi with rfl | hi
      · rw [hg] at hp; cases hp
      · exact h1 i hi p hp
    | some y =>
      obtain ⟨d, q⟩ := y
      rw [List.filterMap_cons_some hg]
      simp only [List.cons_append, List.lookup_cons]
      by_cases htd : t = d
      · subst htd
        simp only [BEq.rfl]
        refine ⟨fun i hi p hp => ?_, fun hn => absurd hg (hn x (by simp) q)⟩
        have := h x (by simp) q hg i hi p hp
        subst this
        rw [hg] at hp
        cases hp
        rfl
      · rw [show (t == d) = false by simp [htd]]
        refine ⟨fun i hi p hp => ?_, fun hn => h2 fun i hi p => hn i (by simp [hi]) p⟩
        rcases List.mem_cons.1 hi with rfl | hi
        · rw [hg] at hp
          cases hp
          exact absurd rfl htd
        · exact h1 i hi p hp

theorem writerOf_spec {ops : Array Oper} {t i : Nat} (h : writerOf ops t = some i) : i < ops.size ∧ ∃ o, ops[i]? = some o ∧ o.dst = some t := by
  unfold writerOf at h
  have h1 := List.find?_some h
  have h2 := List.mem_of_find?_eq_some h
  refine ⟨by simpa using h2, ?_⟩
  cases ho : ops[i]? with
  | none => simp [ho] at h1
  | some o => exact ⟨o, rfl, by simpa [ho] using h1⟩
theorem writerOf_none {ops : Array Oper} {t : Nat} (h : writerOf ops t = none) : ∀ (i : Nat) (o : Oper), ops[i]? = some o → o.dst ≠ some t := fun i o ho hd => by
  unfold writerOf at h
  have := List.find?_eq_none.1 h i (by simp; exact (Array.getElem?_eq_some_iff.1 ho).1)
  simp [ho, hd] at this
theorem nodup_writer {ops : Array Oper} (h : nodupDst ops = true) {i t : Nat} {o : Oper} (ho : ops[i]? = some o) (hd : o.dst = some t) : writerOf ops t = some i := by
  unfold nodupDst at h
  rw [List.all_eq_true] at h
  have := h (o, i) (by rw [List.mem_zipIdx_iff_getElem?]; simpa using ho)
  simpa [hd] using this

section
variable {D : Draw} {X : Array Bool}
def Draw.gX (D : Draw) (X : Array Bool) (i : Nat) : Option (Nat × PV) := if X.getD i false then (match D.ops[i]? with | some o => (match o.dst, D.out i with | some d, some p => some (d, p) | _, _ => none) | none => none) else none
theorem gX_some {i t : Nat} {p : PV} (h : D.gX X i = some (t, p)) : X.getD i false = true ∧ ∃ o, D.ops[i]? = some o ∧ o.dst = some t ∧ D.out i = some p := by
  unfold Draw.gX at h
  split at h
  · rename_i hx
    split at h
    · rename_i o ho
      split at h
      · rename_i d q hd hq
        cases h
        exact ⟨hx, o, ho, hd, hq⟩
      · cases h
    · cases h
  · cases h
theorem lkX_in (hn : nodupDst D.ops = true) {i t : Nat} {o : Oper} {p : PV} (hX : X.getD i false = true) (ho : D.ops[i]? = some o) (hd : o.dst = some t) (hp : D.out i = some p) : (D.sX X).lk t = some p := by
  refine (lookup_filterMap (n := 0) (g := D.gX X) (rest := D.env0) (List.range D.ops.size) fun i _ p hp i' _ p' hp' => ?_).1 i (by simp; exact (Array.getElem?_eq_some_iff.1 ho).1) p ?_
  · obtain ⟨-, o, h1, h2, -⟩ := gX_some hp
    obtain ⟨-, o', h1', h2', -⟩ := gX_some hp'
    have := (nodup_writer hn h1 h2).symm.trans (nodup_writer hn h1' h2')
    exact Option.some.inj this
  · unfold Draw.gX
    simp [hX, ho, hd, hp]
theorem lkX_out (hn : nodupDst D.ops = true) {t : Nat} (h : ∀ i, writerOf D.ops t = some i → X.getD i false = false) : (D.sX X).lk t = D.env0.lookup t := by
  refine (lookup_filterMap (n := 0) (g := D.gX X) (rest := D.env0) (List.range D.ops.size) fun i _ p hp i' _ p' hp' => ?_).2 fun i _ p hp => ?_
  · obtain ⟨-, o, h1, h2, -⟩ := gX_some hp
    obtain ⟨-, o', h1', h2', -⟩ := gX_some hp'
    exact Option.some.inj ((nodup_writer hn h1 h2).symm.trans (nodup_writer hn h1' h2'))
  · obtain ⟨h0, o, h1, h2, -⟩ := gX_some hp
    rw [h i (nodup_writer hn h1 h2)] at h0
    cases h0
end

theorem filterMap_congr' {α β : Type} {f g : α → Option β} : ∀ {l : List α}, (∀ x ∈ l, f x = g x) → l.filterMap f = l.filterMap g
  | [], _ => rfl
  | x :: l, h => by
    have h1 := h x (by simp)
    have h2 := filterMap_congr' (l := l) fun y hy => h y (by simp [hy])
    simp only [List.filterMap_cons, h1, h2]
theorem RA.congr {C : Ctx} {n : Nat} {s s' : AS} {m : Lay} {a : Act} {w : World} (h : RA C n s m a w) (hst : s.st = s'.st) (hl : ∀ i p, s'.lk i = some p → s.lk i = some p) : RA C n s' m a w := by
  obtain ⟨env, st⟩ := s
  obtain ⟨env', st'⟩ := s'
  cases hst
  exact ⟨h.dfr, h.tsz, h.sto, fun i p hp => h.env i p (hl i p hp), h.ev⟩

theorem drawnW {C : Ctx} {n : Nat} {s : AS} {m : Lay} {a : Act} {w : World} (h : RA C n s m a w) : RA C n s m a { w with drawn := w.drawn + 1 } := by
  have hx : Ext w w.drew := .drew (.refl w)
  obtain ⟨env, st⟩ := s
  exact h.step (Ev.later hx) (h.sto.later hx)

theorem getD_upd {X : Array Bool} {i j : Nat} : (X.setIfInBounds i true).getD j false = if j = i ∧ i < X.size then true else X.getD j false := by
  simp only [Array.getD_eq_getD_getElem?, Array.getElem?_setIfInBounds]
  by_cases hij : i = j
  · subst hij
    by_cases hlt : i < X.size
    · simp [hlt]
    · simp [hlt]
  · have : ¬ (j = i ∧ i < X.size) := fun h => hij h.1.symm
    simp [hij, this]

/-- The heads that are met, as a list's beginning. -/
theorem takeWhile_len {l : List Nat} {f : Nat → Bool} : ∀ {k : Nat}, (∀ e ∈ l.take k, f e = true) → (∀ e, l[k]? = some e → f e = false) → k ≤ l.length → (l.takeWhile f).length = k := by
  induction l with
  | nil => intro k _ _ hk; simp at hk ⊢; omega
  | cons x l ih =>
    intro k h1 h2 hk
    cases k with
    | zero => simp [List.takeWhile_cons, h2 x rfl]
    | succ k =>
      rw [List.takeWhile_cons, if_pos (h1 x (by simp)), List.length_cons, ih (k := k) (fun e he => h1 e (by simp [he])) (fun e he => h2 e (by simpa using he)) (by simpa using hk)]

theorem takeWhile_ge {l : List Nat} {f : Nat → Bool} : ∀ {k : Nat}, (∀ e ∈ l.take k, f e = true) → k ≤ l.length → k ≤ (l.takeWhile f).length := by
  induction l with
  | nil => intro k _ hk; simpa using hk
  | cons x l ih =>
    intro k h1 hk
    cases k with
    | zero => omega
    | succ k =>
      rw [List.takeWhile_cons, if_pos (h1 x (by simp)), List.length_cons]
      have := ih (k := k) (fun e he => h1 e (by simp [he])) (by simpa using hk)
      omega
theorem takeWhile_le {l : List Nat} {f : Nat → Bool} : ∀ {k : Nat}, (∀ e, l[k]? = some e → f e = false) → (l.takeWhile f).length ≤ k := by
  induction l with
  | nil => intro k _; simp
  | cons x l ih =>
    intro k h1
    cases k with
    | zero => simp [List.takeWhile_cons, h1 x rfl]
    | succ k =>
      rw [List.takeWhile_cons]
      split
      · have := ih (k := k) (fun e he => h1 e (by simpa using he))
        simpa using this
      · simp

section
variable {P : Program} {C : Ctx} {n : Nat} {s : AS} {Q : Exit → AS → Prop}

/-- Is it carried out? Its guard's value is known. -/
def Draw.want (D : Draw) (o : Oper) : Option Bool := match o.guard with
  | none => some true
  | some (j, b) => match D.out j with
    | some (.t (.leaf (.bool v))) => some (v == b)
    | _ => none
/-- What each operation does, in whatever state its turn comes. -/
def Draw.does (P : Program) (C : Ctx) (n : Nat) (D : Draw) (i : Nat) (o : Oper) : Prop := match D.kind i with
  | .q lo hi => ∀ (s' : AS) (j : Nat) (b : Bool), lo ≤ j → j ≤ hi → s'.st = D.F j b → (∀ t src p, (t, src) ∈ D.ins i → D.pv (t, src) = some p → s'.lk t = some p) → ∃ p, D.out i = some p ∧ AOp P C n o s' (s'.putO o.dst p)
  | .al => ∀ (s' : AS) (j : Nat), s'.st = D.F j false → ∃ p, D.out i = some p ∧ AOp P C n o s' ((⟨s'.env, D.F j true⟩ : AS).putO o.dst p)
  | .ef j => ∀ (s' : AS) (b : Bool), s'.st = D.F j b → (∀ t src p, (t, src) ∈ D.ins i → D.pv (t, src) = some p → s'.lk t = some p) →
      (∃ p, D.out i = some p ∧ AOp P C n o s' ((⟨s'.env, D.F (j + 1) b⟩ : AS).putO o.dst p)) ∨ (o.dst = none ∧ AOp P C n o s' ⟨s'.env, D.F (j + 1) b⟩)

def lkPut (dst : Option Nat) (p : Option PV) (old : Nat → Option PV) (t : Nat) : Option PV := match dst with | none => old t | some d => if t = d then p else old t
def Draw.step (P : Program) (C : Ctx) (n : Nat) (D : Draw) (i : Nat) (o : Oper) : Prop :=
  (D.want o = some true ∧ D.does P C n i o) ∨ (D.want o = some false ∧ D.out i = none ∧ (∃ lo hi, D.kind i = .q lo hi) ∧ ∀ d, o.dst = some d → D.env0.lookup d = none)

theorem AWP.drawn {id : Nat} (D : Draw) (hm : P.follows .mixedOrders = true) (hok : D.ok = true) (henv : s.env = D.env0) (hst : s.st = D.F 0 false)
    (hstep : ∀ i o, D.ops[i]? = some o → D.step P C n i o) (h : Q .normal ⟨((List.range D.ops.size).filterMap (D.gX (Array.replicate D.ops.size true))) ++ D.env0, D.F D.effs.length D.alloc.isSome⟩) : AWP P C n (.region id D.ops true) Q s := fun m a w hr => by
  simp only [Draw.ok, Bool.and_eq_true, List.all_eq_true] at hok
  obtain ⟨⟨⟨⟨hops, hnd⟩, hall⟩, heff⟩, hal⟩ := hok
  refine wp_region_any hm ?_
  -- all have come up
  have fin : ∀ (X : Array Bool) (m : Lay) (a : Act) (w : World), (∀ i, i < D.ops.size → X.getD i false = true) → RA C n (D.sX X) m a w → ∃ s' m', Q .normal s' ∧ RA C n s' m' a w := fun X m a w hX hr => by
    refine ⟨_, m, h, ?_⟩
    have e1 : D.envX X = ((List.range D.ops.size).filterMap (D.gX (Array.replicate D.ops.size true))) ++ D.env0 := by
      unfold Draw.envX
      congr 1
      refine filterMap_congr' fun i hi => ?_
      have hi : i < D.ops.size := by simpa using hi
      unfold Draw.gX
      rw [hX i hi]
      simp [hi]
    have e2 : D.cnt X = D.effs.length := takeWhile_len (fun e he => hX e (by simpa using heff e (List.mem_of_mem_take he))) (fun e he => by simp at he) (Nat.le_refl _)
    have e3 : D.alX X = D.alloc.isSome := by
      unfold Draw.alX
      cases hq : D.alloc with
      | none => rfl
      | some i => rw [hq] at hal; exact hX i (by simpa using hal)
    have e4 : D.sX X = ⟨((List.range D.ops.size).filterMap (D.gX (Array.replicate D.ops.size true))) ++ D.env0, D.F D.effs.length D.alloc.isSome⟩ := by
      unfold Draw.sX
      rw [e1, e2, e3]
    rw [← e4]
    exact hr
  have rdy : ∀ (X : Array Bool), X.size = D.ops.size → Region.ready .any D.ops X = [] → ∀ i, i < D.ops.size → X.getD i false = true := fun X hs hn i => by
    induction i using Nat.strongRecOn with
    | _ i ih =>
      intro hi
      cases hx : X.getD i false with
      | true => rfl
      | false =>
        have : i ∈ Region.ready .any D.ops X := by
          rw [mem_ready]
          have ho := Array.getElem?_eq_getElem hi
          refine ⟨?_, D.ops[i], ho, fun e he hb => ih e.on ?_ ?_⟩
          · simpa [Array.getD_eq_getD_getElem?, hs, hi] using hx
          all_goals
            have := hops i (by simpa using hi)
            simp only [Draw.okOp, ho, Bool.and_eq_true, Array.all_eq_true'] at this
            have h3 := this.1 e he
            simp only [hb, Bool.not_true, Bool.false_or, decide_eq_true_eq] at h3
            omega
        rw [hn] at this
        cases this
  have key : ∀ (fuel : Nat) (X : Array Bool) (m : Lay) (a : Act) (w : World), X.size = D.ops.size → D.ops.size ≤ fuel + X.toList.countP (· = true) → D.closed X → RA C n (D.sX X) m a w → wpAny P .any D.ops (fun e a' w' => ∃ s' m', Q e s' ∧ RA C n s' m' a' w') fuel X a w := by
    intro fuel
    induction fuel with
    | zero =>
      intro X m a w hs hc hcl hr
      have hX : ∀ i, i < D.ops.size → X.getD i false = true := fun i hi => by
        have h9 : X.toList.length = D.ops.size := by simp [hs]
        have h1 : X.toList.countP (· = true) = X.toList.length := Nat.le_antisymm List.countP_le_length (by omega)
        have h2 := List.countP_eq_length.1 h1 X[i] (by simp)
        simpa [Array.getD_eq_getD_getElem?, hs, hi] using h2
      refine ⟨?_, fin X m a w hX hr⟩
      rw [List.eq_nil_iff_forall_not_mem]
      intro i hi
      rw [mem_ready] at hi
      obtain ⟨h1, o, ho, -⟩ := hi
      have hi := (Array.getElem?_eq_some_iff.1 ho).1
      have h2 := hX i hi
      simp [Array.getD_eq_getD_getElem?, hs, hi] at h1 h2
      rw [h1] at h2
      cases h2
    | succ fuel ih =>
      intro X m a w hs hc hcl hr
      refine ⟨fun hn => fin X m a w (rdy X hs hn) hr, fun i hi => ?_⟩
      rw [mem_ready] at hi
      obtain ⟨h1, o, ho, hdep⟩ := hi
      have hi := (Array.getElem?_eq_some_iff.1 ho).1
      have hXi : X.getD i false = false := by
        simp [Array.getD_eq_getD_getElem?, hs, hi] at h1 ⊢
        exact h1
      have hdeps : ∀ o', D.ops[i]? = some o' → ∀ e ∈ o'.after, Region.binds .any e = true → X.getD e.on false = true := fun o' ho' e he hb => by
        rw [ho] at ho'
        cases ho'
        exact hdep e he hb
      have hanc : ∀ j, D.anc j i = true → X.getD j false = true := fun j hj => anc_mem hcl _ j i hj hdeps
      have hnanc : ∀ j, D.anc i j = true → X.getD j false = false := fun j hj => by
        cases hx : X.getD j false with
        | false => rfl
        | true =>
          have := anc_mem hcl _ i j hj (fun o' ho' => hcl j o' hx ho')
          rw [hXi] at this
          cases this
      -- the state behind it
      let X' := X.setIfInBounds i true
      have hX' : ∀ j, X'.getD j false = if j = i then true else X.getD j false := fun j => by
        show (X.setIfInBounds i true).getD j false = _
        rw [getD_upd]
        by_cases hji : j = i <;> simp [hji, hs, hi]
      have hcl' : D.closed X' := fun j o' hj ho' e he hb => by
        rw [hX'] at hj ⊢
        split
        · rfl
        · split at hj
          · rename_i hji
            subst hji
            exact hdeps o' ho' e he hb
          · exact hcl j o' hj ho' e he hb
      have hcnt : D.ops.size ≤ fuel + X'.toList.countP (· = true) := by
        have hlt : i < X.toList.length := by simp [hs, hi]
        have h3 : X'.toList.countP (· = true) = X.toList.countP (· = true) + 1 := by
          show (X.setIfInBounds i true).toList.countP _ = _
          rw [Array.toList_setIfInBounds, List.countP_set hlt]
          have hx : X.toList[i] = false := by
            simp [Array.getD_eq_getD_getElem?, hs, hi] at hXi
            simpa using hXi
          simp [hx]
        omega
      have hs' : X'.size = D.ops.size := by show (X.setIfInBounds i true).size = _; simp [hs]
      have hir := hall i (by simpa using hi)
      obtain ⟨hkind, hins⟩ := hir
      -- what is looked at
      have hlk : ∀ t src p, (t, src) ∈ D.ins i → D.pv (t, src) = some p → (D.sX X).lk t = some p := fun t src p hm hp => by
        have h3 := hins (t, src) hm
        simp only [Draw.okIns] at h3
        cases src with
        | some j =>
          simp only [Bool.and_eq_true, beq_iff_eq] at h3
          obtain ⟨-, oj, h4, h5⟩ := writerOf_spec h3.1
          exact lkX_in hnd (hanc j h3.2) h4 h5 hp
        | none =>
          rw [show p = p from rfl]
          refine (lkX_out hnd fun j hj => ?_).trans hp
          have h3 : (match writerOf D.ops t with | none => true | some j => j == i || D.anc j j && false || D.anc i j) = true := by
            have h4 : (match writerOf D.ops t with | none => true | some j => j == i || D.anc i j) = true := h3
            rw [hj] at h4 ⊢
            simpa using h4
          rw [hj] at h3
          simp only [Bool.or_eq_true, beq_iff_eq, Bool.and_false, Bool.or_false] at h3
          rcases h3 with rfl | h3
          · exact hXi
          · exact hnanc j h3
      -- behind it, by what it has put
      have done : ∀ (s1 : AS) (m1 : Lay) (a1 : Act) (w1 : World) (p : Option PV), RA C n s1 m1 a1 w1 → D.out i = p → s1.st = D.F (D.cnt X') (D.alX X') → (∀ t q, lkPut o.dst p (D.sX X).lk t = some q → s1.lk t = some q) → (p = none → ∀ d, o.dst = some d → D.env0.lookup d = none) → RA C n (D.sX X') m1 a1 w1 := fun s1 m1 a1 w1 p hr1 hp hst1 hl1 hpn => by
        refine RA.congr hr1 hst1 fun t q hq => hl1 t q ?_
        have hother : (∀ d, o.dst = some d → t ≠ d) → (D.sX X).lk t = some q := fun hne => by
          rcases hw : writerOf D.ops t with _ | j
          · rw [lkX_out hnd (fun j hj => by rw [hw] at hj; cases hj)] at hq ⊢
            exact hq
          · obtain ⟨-, oj, h4, h5⟩ := writerOf_spec hw
            have hji : j ≠ i := by
              rintro rfl
              rw [ho] at h4
              cases h4
              exact hne t h5 rfl
            cases hxj : X.getD j false with
            | false =>
              rw [lkX_out hnd (fun j' hj' => by rw [hw] at hj'; cases hj'; rw [hX', if_neg hji]; exact hxj)] at hq
              rw [lkX_out hnd (fun j' hj' => by rw [hw] at hj'; cases hj'; exact hxj)]
              exact hq
            | true =>
              cases hoj : D.out j with
              | none =>
                have hg1 : ∀ Y : Array Bool, ∀ p, D.gX Y j ≠ some (t, p) := fun Y p hg => by
                  obtain ⟨-, o2, -, -, h6⟩ := gX_some hg
                  rw [hoj] at h6
                  cases h6
                have hnone : ∀ Y : Array Bool, (D.sX Y).lk t = D.env0.lookup t := fun Y => by
                  refine (lookup_filterMap (n := 0) (g := D.gX Y) (rest := D.env0) (List.range D.ops.size) fun i _ p hp i' _ p' hp' => ?_).2 fun i' _ p hp => ?_
                  · obtain ⟨-, o2, h6, h7, -⟩ := gX_some hp
                    obtain ⟨-, o2', h6', h7', -⟩ := gX_some hp'
                    exact Option.some.inj ((nodup_writer hnd h6 h7).symm.trans (nodup_writer hnd h6' h7'))
                  · obtain ⟨-, o2, h6, h7, -⟩ := gX_some hp
                    have := nodup_writer hnd h6 h7
                    rw [hw] at this
                    cases this
                    exact hg1 Y p hp
                rw [hnone] at hq ⊢
                exact hq
              | some pj =>
                rw [lkX_in hnd (by rw [hX', if_neg hji]; exact hxj) h4 h5 hoj] at hq
                rw [lkX_in hnd hxj h4 h5 hoj]
                exact hq
        cases hd : o.dst with
        | none => exact hother (fun d hd' => by rw [hd] at hd'; cases hd')
        | some d =>
          by_cases htd : t = d
          · subst htd
            cases p with
            | some p =>
              rw [lkX_in hnd (by rw [hX', if_pos rfl]) ho hd hp] at hq
              simpa [lkPut] using hq
            | none =>
              exfalso
              have hnone : (D.sX X').lk t = D.env0.lookup t := by
                refine (lookup_filterMap (n := 0) (g := D.gX X') (rest := D.env0) (List.range D.ops.size) fun i _ p hp i' _ p' hp' => ?_).2 fun i' _ p hp' => ?_
                · obtain ⟨-, o2, h6, h7, -⟩ := gX_some hp
                  obtain ⟨-, o2', h6', h7', -⟩ := gX_some hp'
                  exact Option.some.inj ((nodup_writer hnd h6 h7).symm.trans (nodup_writer hnd h6' h7'))
                · obtain ⟨-, o2, h6, h7, h8⟩ := gX_some hp'
                  have h9 := (nodup_writer hnd h6 h7).symm.trans (nodup_writer hnd ho hd)
                  cases h9
                  rw [hp] at h8
                  cases h8
              rw [hnone, hpn rfl t hd] at hq
              cases hq
          · have := hother (fun d' hd' => by rw [hd] at hd'; cases hd'; exact htd)
            simp [lkPut, htd, this]
      have cont : ∀ m1 a1 w1, RA C n (D.sX X') m1 a1 w1 → wpAny P .any D.ops (fun e a' w' => ∃ s' m', Q e s' ∧ RA C n s' m' a' w') fuel X' a1 w1 := fun m1 a1 w1 hr1 => ih X' m1 a1 w1 hs' hcnt hcl' hr1
      have hwant : (D.want o = some true → Region.wanted o (yielded D.ops a.tmps) = true) ∧ (D.want o = some false → Region.wanted o (yielded D.ops a.tmps) = false) := by
        unfold Draw.want Region.wanted
        cases hgd : o.guard with
        | none => simp
        | some x =>
          obtain ⟨j, b⟩ := x
          have h3 := hops i (by simpa using hi)
          unfold Draw.okOp at h3
          rw [ho] at h3
          simp only [hgd, Bool.and_eq_true] at h3
          obtain ⟨h4, h5⟩ := h3.2
          cases hoj : D.ops[j]? with
          | none => simp [hoj] at h5
          | some oj =>
            simp only [hoj] at h5
            obtain ⟨d, hd⟩ := Option.isSome_iff_exists.1 h5
            simp only
            split
            · rename_i v hv
              have hlkj := lkX_in hnd (hanc j h4) hoj hd hv
              rw [hr.yielded (ops := D.ops) (j := j) (d := d) (b := v) (by simp [hoj, hd]) hlkj]
              constructor <;> intro h6 <;> simpa using h6
            · simp
      unfold wpOp
      simp only [ho]
      have hsame : ∀ (hne : i ∉ D.effs), D.cnt X' = D.cnt X := fun hne => by
        unfold Draw.cnt
        have : ∀ l : List Nat, i ∉ l → (l.takeWhile fun e => X'.getD e false) = l.takeWhile fun e => X.getD e false := by
          intro l
          induction l with
          | nil => intro _; rfl
          | cons x l ihl =>
            intro hl
            have hx : x ≠ i := fun e => hl (by simp [e])
            rw [List.takeWhile_cons, List.takeWhile_cons, hX', if_neg hx, ihl (fun hm => hl (by simp [hm]))]
        rw [this _ hne]
      have hals : (D.alloc ≠ some i) → D.alX X' = D.alX X := fun hne => by
        unfold Draw.alX
        cases hq : D.alloc with
        | none => rfl
        | some j => simp only; rw [hX', if_neg (fun e => hne (by rw [hq, e]))]
      have hput : ∀ (st : Sto) (p : PV) t q, lkPut o.dst (some p) (D.sX X).lk t = some q → ((⟨(D.sX X).env, st⟩ : AS).putO o.dst p).lk t = some q := fun st p t q hq => by
        cases hd : o.dst with
        | none => rw [hd] at hq; exact hq
        | some d =>
          rw [hd] at hq
          show ((⟨(D.sX X).env, st⟩ : AS).put d p).lk t = some q
          rw [AS.lk_put]
          exact hq
      have hpst : ∀ (st : Sto) (p : PV), ((⟨(D.sX X).env, st⟩ : AS).putO o.dst p).st = st := fun st p => by cases o.dst <;> rfl
      unfold Draw.okKind at hkind
      rcases hstep i o ho with ⟨hw, hdo⟩ | ⟨hw, hout, ⟨lo, hi', hk⟩, hdn⟩
      · rw [if_pos (hwant.1 hw)]
        refine .inl ?_
        unfold Draw.does at hdo
        cases hk : D.kind i with
        | q lo hi' =>
          simp only [hk, Bool.and_eq_true, decide_eq_true_eq, List.all_eq_true, Bool.not_eq_true', bne_iff_ne, ne_eq] at hkind hdo
          obtain ⟨⟨⟨⟨⟨k1, k2⟩, k3⟩, k4⟩, k5⟩, k6⟩ := hkind
          have hlo : lo ≤ D.cnt X := takeWhile_ge (fun e he => hanc e (k3 e he)) (by omega)
          have hhi : D.cnt X ≤ hi' := takeWhile_le fun e he => hnanc e (k4 e (by
            obtain ⟨hlt, rfl⟩ := List.getElem?_eq_some_iff.1 he
            exact List.mem_drop_iff_getElem.2 ⟨0, by simpa using hlt, by simp⟩))
          obtain ⟨p, hp, hop⟩ := hdo (D.sX X) (D.cnt X) (D.alX X) hlo hhi rfl hlk
          refine hop m a w hr _ _ fun m' a' w' h9 => cont m' a' w' (done _ m' a' w' (some p) h9 hp ?_ (hput _ p) (fun e => by cases e))
          rw [hsame (by simpa using k5), hals k6]
          exact hpst _ p
        | al =>
          simp only [hk, Bool.and_eq_true, beq_iff_eq, Bool.not_eq_true'] at hkind hdo
          obtain ⟨k1, k2⟩ := hkind
          have ha : D.alX X = false := by unfold Draw.alX; rw [k1]; exact hXi
          obtain ⟨p, hp, hop⟩ := hdo (D.sX X) (D.cnt X) (by show D.F _ _ = _; rw [ha])
          refine hop m a w hr _ _ fun m' a' w' h9 => cont m' a' w' (done _ m' a' w' (some p) h9 hp ?_ (hput _ p) (fun e => by cases e))
          have ha' : D.alX X' = true := by unfold Draw.alX; rw [k1]; simp only; rw [hX', if_pos rfl]
          rw [hsame (by simpa using k2), ha']
          exact hpst _ p
        | ef j =>
          simp only [hk, Bool.and_eq_true, beq_iff_eq, List.all_eq_true, bne_iff_ne, ne_eq] at hkind hdo
          obtain ⟨⟨⟨k1, k2⟩, k3⟩, k4⟩ := hkind
          have hjl := get_lt k1
          have hc1 : D.cnt X = j := takeWhile_len (fun e he => hanc e (k2 e he)) (fun e he => by rw [k1] at he; cases he; exact hXi) (by omega)
          have hc2 : D.cnt X' = j + 1 := takeWhile_len (fun e he => by
              rw [hX']
              split
              · rfl
              · rename_i hne
                rw [List.take_add_one, k1] at he
                simp only [Option.toList_some, List.mem_append, List.mem_singleton] at he
                rcases he with he | he
                · exact hanc e (k2 e he)
                · exact absurd he hne) (fun e he => by
              have hm : e ∈ D.effs.drop (j + 1) := by
                obtain ⟨hlt, rfl⟩ := List.getElem?_eq_some_iff.1 he
                exact List.mem_drop_iff_getElem.2 ⟨0, by simpa using hlt, by simp⟩
              obtain ⟨h3, h4⟩ := k3 e hm
              rw [hX', if_neg h4]
              exact hnanc e h3) (by omega)
          have ha := hals k4
          rcases hdo (D.sX X) (D.alX X) (by show D.F _ _ = _; rw [hc1]) hlk with ⟨p, hp, hop⟩ | ⟨hd, hop⟩
          · refine hop m a w hr _ _ fun m' a' w' h9 => cont m' a' w' (done _ m' a' w' (some p) h9 hp ?_ (hput _ p) (fun e => by cases e))
            rw [hc2, ha]
            exact hpst _ p
          · refine hop m a w hr _ _ fun m' a' w' h9 => cont m' a' w' (done _ m' a' w' (D.out i) h9 rfl ?_ (fun t q hq => ?_) (fun _ d hd' => by rw [hd] at hd'; cases hd'))
            · rw [hc2, ha]
            · rw [hd] at hq; exact hq
      · rw [if_neg (by rw [hwant.2 hw]; simp)]
        simp only [hk, Bool.and_eq_true, decide_eq_true_eq, List.all_eq_true, Bool.not_eq_true', bne_iff_ne, ne_eq] at hkind
        obtain ⟨⟨⟨⟨⟨k1, k2⟩, k3⟩, k4⟩, k5⟩, k6⟩ := hkind
        refine cont m _ w (done ((D.sX X).delO o.dst) m _ w none (hr.del o.dst undef) hout ?_ (fun t q hq => ?_) (fun _ => hdn))
        · rw [hsame (by simpa using k5), hals k6]
          cases o.dst <;> rfl
        · cases hd : o.dst with
          | none => rw [hd] at hq; exact hq
          | some d =>
            rw [hd] at hq
            simp only [lkPut] at hq
            split at hq
            · cases hq
            · rename_i htd
              show ((D.sX X).env.filter (fun x => x.1 != d)).lookup t = some q
              have hq : (D.sX X).env.lookup t = some q := hq
              revert hq
              generalize (D.sX X).env = l
              induction l with
              | nil => simp
              | cons y l ihl =>
                obtain ⟨k, v⟩ := y
                intro hq
                rw [List.lookup_cons] at hq
                by_cases hkd : k = d
                · subst hkd
                  rw [show (t == k) = false by simp [htd]] at hq
                  rw [List.filter_cons, if_neg (by simp)]
                  exact ihl hq
                · rw [List.filter_cons, if_pos (by simp [hkd]), List.lookup_cons]
                  by_cases htk : t = k
                  · subst htk
                    simpa using hq
                  · rw [show (t == k) = false by simp [htk]] at hq ⊢
                    exact ihl hq
  have h0 : RA C n (D.sX (Array.replicate D.ops.size false)) m a { w with drawn := w.drawn + 1 } := by
    refine RA.congr (drawnW hr) ?_ fun t p hp => ?_
    · show s.st = D.F (D.cnt _) (D.alX _)
      have e1 : D.cnt (Array.replicate D.ops.size false) = 0 := takeWhile_len (by simp) (fun e _ => by simp [Array.getD_eq_getD_getElem?, Array.getElem?_replicate]; split <;> rfl) (Nat.zero_le _)
      have e2 : D.alX (Array.replicate D.ops.size false) = false := by
        unfold Draw.alX
        cases D.alloc with
        | none => rfl
        | some i => simp [Array.getD_eq_getD_getElem?, Array.getElem?_replicate]; split <;> rfl
      rw [e1, e2]
      exact hst
    · rw [lkX_out hnd (fun i _ => by simp [Array.getD_eq_getD_getElem?, Array.getElem?_replicate]; split <;> rfl)] at hp
      unfold AS.lk
      rw [henv]
      exact hp
  exact key D.ops.size (Array.replicate D.ops.size false) m a _ (by simp) (by omega) (fun j o hj => by
    exfalso
    revert hj
    simp [Array.getD_eq_getD_getElem?, Array.getElem?_replicate]
    split <;> simp) h0
end
end Go.Proofs.Ytoifjkggpanceaa

namespace Go.Proofs.Ytoifjkggpanceaa
set_option linter.unusedSimpArgs false
set_option linter.unusedVariables false
open Go.RowKit Go.WalkArith Go.IntWalk Go.WideShapes

mutual
/-- The callee's numbers, told in the caller's. -/
def PV.ren (fb fr : List Nat) : PV → PV
  | .t t => .t t
  | .agg cs => .agg (renL fb fr cs)
  | .tup cs => .tup (renL fb fr cs)
  | .nil => .nil
  | .acc sz es r => .acc sz es (fr.getD r 0)
  | .ptr k d => .ptr (fb.getD k 0) d
  | .eptr cs => .eptr cs
  | .fn f cs => .fn f (renL fb fr cs)
  | .full sz n r => .full sz n (fr.getD r 0)
  | .rptr r i => .rptr (fr.getD r 0) i
def renL (fb fr : List Nat) : List PV → List PV
  | [] => []
  | p :: ps => PV.ren fb fr p :: renL fb fr ps
end
def PBox.ren (fb fr : List Nat) (x : PBox) : PBox := ⟨x.ty, renL fb fr x.cells⟩
def Lay.via (m : Lay) (fb fr : List Nat) : Lay := ⟨fun k => m.ρ (fb.getD k 0), fun r => m.γ (fr.getD r 0)⟩

/-- The store 'pre', as a part of ours. -/
structure Part0 (s pre : Sto) (fb fr : List Nat) : Prop where
  fbl : fb.length = pre.boxes.length
  frl : fr.length = pre.rows.length
  fbn : fb.Nodup
  frn : fr.Nodup
  all : ∀ k, k < pre.boxes.length → ∃ x, pre.boxes[k]? = some (some x)
  box : ∀ k x, pre.boxes[k]? = some (some x) → ∃ y, s.boxes[fb.getD k 0]? = some (some y) ∧ y.ty = x.ty ∧ LeL y.cells (renL fb fr x.cells) ∧ okInL pre x.cells = true
  row : ∀ r row, pre.rows[r]? = some row → s.rows[fr.getD r 0]? = some row
def idx? (l : List Nat) (i : Nat) : Option Nat := l.findIdx? (· == i)
def Sto.over (s st' : Sto) (fb fr : List Nat) : Sto :=
  ⟨s.boxes.zipIdx.map fun (b, i) => match idx? fb i with | some j => (st'.boxes.getD j none).map (PBox.ren fb fr) | none => b,
   s.rows.zipIdx.map fun (row, i) => match idx? fr i with | some j => st'.rows.getD j row | none => row⟩

theorem idx?_some {l : List Nat} {i j : Nat} (h : idx? l i = some j) : l[j]? = some i := by
  unfold idx? at h
  obtain ⟨h1, h2, -⟩ := List.findIdx?_eq_some_iff_getElem.1 h
  rw [List.getElem?_eq_getElem h1]
  simpa using h2
theorem idx?_none {l : List Nat} {i : Nat} (h : idx? l i = none) : ∀ (j : Nat), l[j]? ≠ some i := fun j hj => by
  unfold idx? at h
  rw [List.findIdx?_eq_none_iff] at h
  have := h i (List.mem_of_getElem? hj)
  simp at this
theorem idx?_of {l : List Nat} (hn : l.Nodup) {i j : Nat} (h : l[j]? = some i) : idx? l i = some j := by
  cases hq : idx? l i with
  | none => exact absurd h (idx?_none hq j)
  | some j' =>
    have h2 := idx?_some hq
    obtain ⟨hl, he⟩ := List.getElem?_eq_some_iff.1 h
    obtain ⟨hl', he'⟩ := List.getElem?_eq_some_iff.1 h2
    have hp := List.pairwise_iff_getElem.1 hn
    rcases Nat.lt_trichotomy j' j with hlt | heq | hgt
    · exact absurd (he'.trans he.symm) (hp j' j hl' hl hlt)
    · rw [heq]
    · exact absurd (he.trans he'.symm) (hp j j' hl hl' hgt)
theorem getD_get {l : List Nat} {k : Nat} (h : k < l.length) : l[k]? = some (l.getD k 0) := by
  simp [List.getD_eq_getElem?_getD, List.getElem?_eq_getElem h]

mutual
theorem RV.unren {ok ok' : Nat → Nat → Prop} {s pre : Sto} {m : Lay} {w : World} {fb fr : List Nat} (h : Part0 s pre fb fr) (hk : ∀ b o, b < w.heap.size → ok b o → ok' b o) : ∀ (p : PV) (v : Value), PV.okIn pre p = true → RV ok s m w (PV.ren fb fr p) v → RV ok' pre (m.via fb fr) w p v
  | .t t, v, _, hr => RepM.mono hr (Nat.le_refl _) hk (fun _ _ _ _ => rfl)
  | .agg cs, v, hi, hr => by
    obtain ⟨vs, hv, hl⟩ := hr
    exact ⟨vs, hv, RVL.unren h hk cs vs hi hl⟩
  | .tup cs, v, hi, hr => by
    obtain ⟨vs, hv, hl⟩ := hr
    exact ⟨vs, hv, RVL.unren h hk cs vs hi hl⟩
  | .nil, v, _, hr => hr
  | .acc sz es r, v, hi, hr => by
    obtain ⟨row, h1, h2, h3, h4, h5⟩ := hr
    obtain ⟨row', hr'⟩ := get_of_lt (of_decide_eq_true hi)
    have := h.row r row' hr'
    rw [h1] at this
    cases this
    exact ⟨row, hr', h2, h3, RepM.mono h4 (Nat.le_refl _) hk (fun _ _ _ _ => rfl), h5⟩
  | .ptr k d, v, hi, hr => by
    obtain ⟨-, hv⟩ := hr
    refine ⟨?_, hv⟩
    simp only [PV.okIn] at hi
    split at hi
    · rename_i x hx
      exact ⟨x, hx⟩
    · cases hi
  | .eptr cs, v, _, hr => by
    obtain ⟨b, off, h1, hb, c, h2⟩ := hr
    refine ⟨b, off, h1, hb, c, fun j d hd => ?_⟩
    obtain ⟨k1, k2, k3⟩ := h2 j d hd
    exact ⟨hk _ _ hb k1, k2, RepM.mono k3 (Nat.le_refl _) hk (fun _ _ _ _ => rfl)⟩
  | .fn f cs, v, hi, hr => by
    obtain ⟨vs, hv, hl⟩ := hr
    exact ⟨vs, hv, RVL.unren h hk cs vs hi hl⟩
  | .full sz n r, v, hi, hr => by
    obtain ⟨row, g, h1, h2, h3, h4, h5⟩ := hr
    obtain ⟨row', hr'⟩ := get_of_lt (of_decide_eq_true hi)
    have := h.row r row' hr'
    rw [h1] at this
    cases this
    exact ⟨row, g, hr', h2, h3, h4, h5⟩
  | .rptr r i, v, hi, hr => by
    obtain ⟨row, g, n, h1, h3, h4, h5⟩ := hr
    obtain ⟨row', hr'⟩ := get_of_lt (of_decide_eq_true hi)
    have := h.row r row' hr'
    rw [h1] at this
    cases this
    exact ⟨row, g, n, hr', h3, h4, h5⟩
theorem RVL.unren {ok ok' : Nat → Nat → Prop} {s pre : Sto} {m : Lay} {w : World} {fb fr : List Nat} (h : Part0 s pre fb fr) (hk : ∀ b o, b < w.heap.size → ok b o → ok' b o) : ∀ (ps : List PV) (vs : List Value), okInL pre ps = true → RVL ok s m w (renL fb fr ps) vs → RVL ok' pre (m.via fb fr) w ps vs
  | [], [], _, hr => hr
  | p :: ps, v :: vs, hi, hr => by
    simp only [okInL, Bool.and_eq_true] at hi
    exact ⟨RV.unren h hk p v hi.1 hr.1, RVL.unren h hk ps vs hi.2 hr.2⟩
  | [], _ :: _, _, hr => hr.elim
  | _ :: _, [], _, hr => hr.elim
end

/-- What the callee tells of its numbers holds of ours. -/
structure Back (st' s1 : Sto) (m' m1 : Lay) (fb fr : List Nat) : Prop where
  box : ∀ k x, st'.boxes[k]? = some (some x) → (∃ y, s1.boxes[fb.getD k 0]? = some (some y)) ∧ m1.ρ (fb.getD k 0) = m'.ρ k
  row : ∀ r row, st'.rows[r]? = some row → s1.rows[fr.getD r 0]? = some row ∧ m1.γ (fr.getD r 0) = m'.γ r
mutual
theorem RV.ren {ok ok' : Nat → Nat → Prop} {st' s1 : Sto} {m' m1 : Lay} {w : World} {fb fr : List Nat} (h : Back st' s1 m' m1 fb fr) (hk : ∀ b o, b < w.heap.size → ok b o → ok' b o) : ∀ (p : PV) (v : Value), RV ok st' m' w p v → RV ok' s1 m1 w (PV.ren fb fr p) v
  | .t t, v, hr => RepM.mono hr (Nat.le_refl _) hk (fun _ _ _ _ => rfl)
  | .agg cs, v, hr => by
    obtain ⟨vs, hv, hl⟩ := hr
    exact ⟨vs, hv, RVL.ren h hk cs vs hl⟩
  | .tup cs, v, hr => by
    obtain ⟨vs, hv, hl⟩ := hr
    exact ⟨vs, hv, RVL.ren h hk cs vs hl⟩
  | .nil, v, hr => hr
  | .acc sz es r, v, hr => by
    obtain ⟨row, h1, h2, h3, h4, h5⟩ := hr
    obtain ⟨k1, k2⟩ := h.row r row h1
    exact ⟨row, k1, h2, h3, RepM.mono h4 (Nat.le_refl _) hk (fun _ _ _ _ => rfl), fun e => by rw [k2]; exact h5 e⟩
  | .ptr k d, v, hr => by
    obtain ⟨⟨x, hx⟩, hv⟩ := hr
    obtain ⟨k1, k2⟩ := h.box k x hx
    exact ⟨k1, by rw [k2]; exact hv⟩
  | .eptr cs, v, hr => by
    obtain ⟨b, off, h1, hb, c, h2⟩ := hr
    refine ⟨b, off, h1, hb, c, fun j d hd => ?_⟩
    obtain ⟨k1, k2, k3⟩ := h2 j d hd
    exact ⟨hk _ _ hb k1, k2, RepM.mono k3 (Nat.le_refl _) hk (fun _ _ _ _ => rfl)⟩
  | .fn f cs, v, hr => by
    obtain ⟨vs, hv, hl⟩ := hr
    exact ⟨vs, hv, RVL.ren h hk cs vs hl⟩
  | .full sz n r, v, hr => by
    obtain ⟨row, g, h1, h2, h3, h4, h5⟩ := hr
    obtain ⟨k1, k2⟩ := h.row r row h1
    exact ⟨row, g, k1, h2, h3, by rw [k2]; exact h4, h5⟩
  | .rptr r i, v, hr => by
    obtain ⟨row, g, n, h1, h3, h4, h5⟩ := hr
    obtain ⟨k1, k2⟩ := h.row r row h1
    exact ⟨row, g, n, k1, h3, by rw [k2]; exact h4, h5⟩
theorem RVL.ren {ok ok' : Nat → Nat → Prop} {st' s1 : Sto} {m' m1 : Lay} {w : World} {fb fr : List Nat} (h : Back st' s1 m' m1 fb fr) (hk : ∀ b o, b < w.heap.size → ok b o → ok' b o) : ∀ (ps : List PV) (vs : List Value), RVL ok st' m' w ps vs → RVL ok' s1 m1 w (renL fb fr ps) vs
  | [], [], hr => hr
  | p :: ps, v :: vs, hr => ⟨RV.ren h hk p v hr.1, RVL.ren h hk ps vs hr.2⟩
  | [], _ :: _, hr => hr.elim
  | _ :: _, [], hr => hr.elim
end

/-- The callee's view: what it is not handed is shut. -/
def shutP (av : Nat → Nat → Prop) (s pre : Sto) (m : Lay) (fb fr : List Nat) (w : World) (b o : Nat) : Prop :=
  b < w.heap.size ∧ ¬ okA av s m b o ∧ (∀ k x, pre.boxes[k]? = some (some x) → m.ρ (fb.getD k 0) ≠ b) ∧ (∀ r row g c, pre.rows[r]? = some row → m.γ (fr.getD r 0) = some (g, c) → g ≠ b)

section
variable {av : Nat → Nat → Prop} {s pre : Sto} {m : Lay} {fb fr : List Nat} {w : World}

theorem Part0.ok (h : Part0 s pre fb fr) {b o : Nat} (k : okA av s m b o) : okA (shutP av s pre m fb fr w) pre (m.via fb fr) b o :=
  ⟨fun hs => hs.2.1 k, fun i x hi => by obtain ⟨y, hy, -⟩ := h.box i x hi; exact k.2.1 _ y hy, fun r row g c hr hg e => k.2.2 _ row g c (h.row r row hr) hg e⟩

theorem Part0.sto (h : Part0 s pre fb fr) (hs : StoOk av s m w) : StoOk (shutP av s pre m fb fr w) pre (m.via fb fr) w where
  box := fun k x hk => by
    obtain ⟨y, hy, ht, hl, ho⟩ := h.box k x hk
    obtain ⟨vs, h1, h2⟩ := hs.box _ y hy
    exact ⟨vs, by rw [← ht]; exact h1, RVL.unren h (fun b o _ k => h.ok k) _ _ ho (LeL.rv hl h2)⟩
  binj := fun k k' x x' hk hk' hne => by
    obtain ⟨y, hy, -⟩ := h.box k x hk
    obtain ⟨y', hy', -⟩ := h.box k' x' hk'
    refine hs.binj _ _ y y' hy hy' fun e => hne ?_
    have h1 := getD_get (l := fb) (k := k) (by rw [h.fbl]; exact get_lt hk)
    have h2 := getD_get (l := fb) (k := k') (by rw [h.fbl]; exact get_lt hk')
    rw [e] at h1
    exact Option.some.inj ((idx?_of h.fbn h1).symm.trans (idx?_of h.fbn h2))
  row := fun r row hr => by
    obtain ⟨h1, h2, h3⟩ := hs.row _ row (h.row r row hr)
    refine ⟨h1, h2, ?_⟩
    rcases h3 with h3 | ⟨g, c, cur, q1, q2, q3, q4, q5, q6⟩
    · exact .inl h3
    · exact .inr ⟨g, c, cur, q1, q2, q3, q4, q5, RepM.mono q6 (Nat.le_refl _) (fun b o _ k => h.ok k) (fun _ _ _ _ => rfl)⟩
  rinj := fun r r' row row' g c c' hr hr' hg hg' => by
    have e := hs.rinj _ _ row row' g c c' (h.row r row hr) (h.row r' row' hr') hg hg'
    have h1 := getD_get (l := fr) (k := r) (by rw [h.frl]; exact get_lt hr)
    have h2 := getD_get (l := fr) (k := r') (by rw [h.frl]; exact get_lt hr')
    rw [e] at h1
    exact Option.some.inj ((idx?_of h.frn h1).symm.trans (idx?_of h.frn h2))
  br := fun k x r row g c hk hr hg => by
    obtain ⟨y, hy, -⟩ := h.box k x hk
    exact hs.br _ y _ row g c hy (h.row r row hr) hg
  avlt := fun b o hb => hb.1
  avr := fun r row g c hr hg o ho => ho.2.2.2 r row g c hr hg rfl

variable {st' : Sto} {m' : Lay} {w' : World}
def Lay.over (m m' : Lay) (fr : List Nat) : Lay := ⟨m.ρ, fun i => match idx? fr i with | some j => m'.γ j | none => m.γ i⟩

theorem over_box {i : Nat} {z : PBox} (h : (s.over st' fb fr).boxes[i]? = some (some z)) : (∃ (j : Nat) (x : PBox), fb[j]? = some i ∧ st'.boxes[j]? = some (some x) ∧ z = x.ren fb fr ∧ i < s.boxes.length) ∨ (idx? fb i = none ∧ s.boxes[i]? = some (some z)) := by
  unfold Sto.over at h
  simp only [List.getElem?_map, List.getElem?_zipIdx] at h
  cases hs : s.boxes[i]? with
  | none => simp [hs] at h
  | some b =>
    simp only [hs, Option.map_some, Nat.zero_add, Option.some.injEq] at h
    split at h
    · rename_i j hj
      left
      cases hx : st'.boxes[j]? with
      | none => simp [List.getD_eq_getElem?_getD, hx] at h
      | some ox =>
        cases ox with
        | none => simp [List.getD_eq_getElem?_getD, hx] at h
        | some x =>
          simp [List.getD_eq_getElem?_getD, hx] at h
          exact ⟨j, x, idx?_some hj, hx, h.symm, get_lt hs⟩
    · rename_i hj
      exact .inr ⟨hj, by rw [h]⟩
theorem over_row {i : Nat} {z : PRow} (h : (s.over st' fb fr).rows[i]? = some z) (hl : fr.length ≤ st'.rows.length) : (∃ (j : Nat), fr[j]? = some i ∧ st'.rows[j]? = some z ∧ i < s.rows.length) ∨ (idx? fr i = none ∧ s.rows[i]? = some z) := by
  unfold Sto.over at h
  simp only [List.getElem?_map, List.getElem?_zipIdx] at h
  cases hs : s.rows[i]? with
  | none => simp [hs] at h
  | some b =>
    simp only [hs, Option.map_some, Nat.zero_add, Option.some.injEq] at h
    split at h
    · rename_i j hj
      left
      have hj' := idx?_some hj
      have hlt : j < st'.rows.length := Nat.lt_of_lt_of_le (get_lt hj') hl
      refine ⟨j, hj', ?_, get_lt hs⟩
      rw [List.getElem?_eq_getElem hlt, ← h]
      simp [List.getD_eq_getElem?_getD, hlt]
    · rename_i hj
      exact .inr ⟨hj, by rw [h]⟩

/-- All of it, behind the call. -/
theorem over_all (h : Part0 s pre fb fr) (hs : StoOk av s m w) (hst : StoOk (shutP av s pre m fb fr w) st' m' w') (he : Ev pre (m.via fb fr) w st' m' w') (hbl : st'.boxes.length = pre.boxes.length) (hrl : st'.rows.length = pre.rows.length) :
    Ev s m w (s.over st' fb fr) (m.over m' fr) w' ∧ StoOk av (s.over st' fb fr) (m.over m' fr) w' ∧ Back st' (s.over st' fb fr) m' (m.over m' fr) fb fr ∧ (∀ b o, b < w'.heap.size → okA (shutP av s pre m fb fr w) st' m' b o → okA av (s.over st' fb fr) (m.over m' fr) b o) := by
  have hfrl : fr.length ≤ st'.rows.length := by rw [hrl, h.frl]; exact Nat.le_refl _
  -- boxes that were handed over
  have pb : ∀ (i j : Nat), fb[j]? = some i → ∃ (x y : PBox), pre.boxes[j]? = some (some x) ∧ s.boxes[i]? = some (some y) ∧ fb.getD j 0 = i ∧ m'.ρ j = m.ρ i ∧ ∃ x' : PBox, st'.boxes[j]? = some (some x') := fun i j hj => by
    obtain ⟨x, hx⟩ := h.all j (by rw [← h.fbl]; exact get_lt hj)
    obtain ⟨y, hy, -⟩ := h.box j x hx
    have e : fb.getD j 0 = i := by simp [List.getD_eq_getElem?_getD, hj]
    rw [e] at hy
    obtain ⟨h1, h2⟩ := he.live j x hx
    exact ⟨x, y, hx, hy, e, by rw [h2]; show m.ρ (fb.getD j 0) = _; rw [e], h1⟩
  have pr : ∀ (i j : Nat), fr[j]? = some i → ∃ row : PRow, pre.rows[j]? = some row ∧ s.rows[i]? = some row ∧ fr.getD j 0 = i := fun i j hj => by
    obtain ⟨row, hrow⟩ := get_of_lt (l := pre.rows) (i := j) (by rw [← h.frl]; exact get_lt hj)
    have e : fr.getD j 0 = i := by simp [List.getD_eq_getElem?_getD, hj]
    have := h.row j row hrow
    rw [e] at this
    exact ⟨row, hrow, this, e⟩
  have hγ : ∀ (i j : Nat), fr[j]? = some i → (m.over m' fr).γ i = m'.γ j := fun i j hj => by
    unfold Lay.over
    simp only [idx?_of h.frn hj]
  have hγn : ∀ i, idx? fr i = none → (m.over m' fr).γ i = m.γ i := fun i hi => by
    unfold Lay.over
    simp only [hi]
  have lv : ∀ i z, (s.over st' fb fr).boxes[i]? = some (some z) → ∃ y, s.boxes[i]? = some (some y) := fun i z hi => by
    rcases over_box hi with ⟨j, x, h1, -⟩ | ⟨-, h2⟩
    · obtain ⟨-, y, -, hy, -⟩ := pb i j h1
      exact ⟨y, hy⟩
    · exact ⟨z, h2⟩
  -- where a row lies
  have rp : ∀ i z g c, (s.over st' fb fr).rows[i]? = some z → (m.over m' fr).γ i = some (g, c) → (∃ row c0, s.rows[i]? = some row ∧ m.γ i = some (g, c0)) ∨ w.heap.size ≤ g := fun i z g c hi hg => by
    rcases over_row hi hfrl with ⟨j, h1, h2, -⟩ | ⟨h1, h2⟩
    · rw [hγ i j h1] at hg
      obtain ⟨row, hr1, hr2, e⟩ := pr i j h1
      rcases he.rfresh j z g c h2 hg with ⟨row0, c0, k1, k2⟩ | k
      · refine .inl ⟨row, c0, hr2, ?_⟩
        have k2 : m.γ (fr.getD j 0) = some (g, c0) := k2
        rw [e] at k2
        exact k2
      · exact .inr k
    · rw [hγn i h1] at hg
      exact .inl ⟨z, c, h2, hg⟩
  have okk : ∀ b o, b < w.heap.size → s.ok m b o → (s.over st' fb fr).ok (m.over m' fr) b o := fun b o hb hk => by
    have hp : pre.ok (m.via fb fr) b o := (h.ok (av := fun _ _ => False) (w := w) ⟨id, hk⟩).2
    have hp' := he.okk b o hb hp
    refine ⟨fun i z hi => ?_, fun i z g c hi hg e => ?_⟩
    · obtain ⟨y, hy⟩ := lv i z hi
      exact hk.1 i y hy
    · rcases over_row hi hfrl with ⟨j, h1, h2, -⟩ | ⟨h1, h2⟩
      · rw [hγ i j h1] at hg
        exact hp'.2 j z g c h2 hg e
      · rw [hγn i h1] at hg
        exact hk.2 i z g c h2 hg e
  have ev : Ev s m w (s.over st' fb fr) (m.over m' fr) w' := by
    refine ⟨he.os, he.tape, he.output, he.size, fun b hb h1 h2 => he.blk b hb (fun k x hk => ?_) (fun r row g c hr hg => ?_), fun b o hb hk => he.cell b o hb (h.ok (av := fun _ _ => False) (w := w) ⟨id, hk⟩).2, okk, fun i y hi => ⟨?_, rfl⟩, fun i z hi => .inl (lv i z hi), fun i row hi => ?_, rp⟩
    · obtain ⟨y, hy, -⟩ := h.box k x hk
      exact h1 _ y hy
    · exact h2 _ row g c (h.row r row hr) hg
    · cases hq : idx? fb i with
      | none => exact ⟨y, by unfold Sto.over; simp [List.getElem?_zipIdx, hi, hq]⟩
      | some j =>
        obtain ⟨-, -, -, -, -, -, x', hx'⟩ := pb i j (idx?_some hq)
        exact ⟨x'.ren fb fr, by unfold Sto.over; simp [List.getElem?_zipIdx, hi, hq, List.getD_eq_getElem?_getD, hx']⟩
    · cases hq : idx? fr i with
      | none => exact ⟨row, by unfold Sto.over; simp [List.getElem?_zipIdx, hi, hq], rfl, Nat.le_refl _, fun _ => hγn i hq, fun hw => ⟨hw, hγn i hq⟩⟩
      | some j =>
        have hj := idx?_some hq
        obtain ⟨row0, h1, h2, e⟩ := pr i j hj
        rw [hi] at h2
        cases h2
        obtain ⟨row', k1, k2, k3, k4, k5⟩ := he.rowl j row h1
        have e' : (m.via fb fr).γ j = m.γ i := by show m.γ (fr.getD j 0) = _; rw [e]
        refine ⟨row', by unfold Sto.over; simp [List.getElem?_zipIdx, hi, hq, List.getD_eq_getElem?_getD, k1], k2, k3, fun hl => ?_, fun hw => ⟨(k5 hw).1, ?_⟩⟩
        · rw [hγ i j hj, k4 hl, e']
        · rw [hγ i j hj, (k5 hw).2, e']
  have bk : Back st' (s.over st' fb fr) m' (m.over m' fr) fb fr := by
    refine ⟨fun k x hk => ?_, fun r row hr => ?_⟩
    · have hj := getD_get (l := fb) (k := k) (by rw [h.fbl, ← hbl]; exact get_lt hk)
      obtain ⟨x0, y, h1, h2, h3, h4, -⟩ := pb _ k hj
      clear h3
      generalize fb.getD k 0 = i at *
      exact ⟨⟨x.ren fb fr, by unfold Sto.over; simp [List.getElem?_zipIdx, h2, idx?_of h.fbn hj, List.getD_eq_getElem?_getD, hk]⟩, h4.symm⟩
    · have hj := getD_get (l := fr) (k := r) (by rw [h.frl, ← hrl]; exact get_lt hr)
      obtain ⟨row0, h1, h2, -⟩ := pr _ r hj
      generalize fr.getD r 0 = i at *
      exact ⟨by unfold Sto.over; simp [List.getElem?_zipIdx, h2, idx?_of h.frn hj, List.getD_eq_getElem?_getD, hr], hγ _ r hj⟩
  have hav : ∀ i z g c, (s.over st' fb fr).rows[i]? = some z → (m.over m' fr).γ i = some (g, c) → ∀ o, ¬ av g o := fun i z g c hi hg o ho => by
    rcases rp i z g c hi hg with ⟨row, c0, k1, k2⟩ | k
    · exact hs.avr i row g c0 k1 k2 o ho
    · have := hs.avlt _ _ ho; omega
  have back : ∀ b o, b < w'.heap.size → okA (shutP av s pre m fb fr w) st' m' b o → okA av (s.over st' fb fr) (m.over m' fr) b o := fun b o _ hk => by
    have hrow : ∀ i z g c, (s.over st' fb fr).rows[i]? = some z → (m.over m' fr).γ i = some (g, c) → g = b → idx? fr i ≠ none → o < z.es.length * z.sz := fun i z g c hi hg e hq => by
      rcases over_row hi hfrl with ⟨j, h1, h2, -⟩ | ⟨h1, -⟩
      · rw [hγ i j h1] at hg
        exact hk.2.2 j z g c h2 hg e
      · exact absurd h1 hq
    rcases Nat.lt_or_ge b w.heap.size with hlt | hge
    · by_cases hA : okA av s m b o
      · exact ⟨hA.1, okk b o hlt hA.2⟩
      · by_cases hB : ∃ k x, pre.boxes[k]? = some (some x) ∧ m.ρ (fb.getD k 0) = b
        · obtain ⟨k, x, h1, h2⟩ := hB
          obtain ⟨⟨x', h3⟩, h4⟩ := he.live k x h1
          exact absurd (h4.trans h2) (hk.2.1 k x' h3)
        · by_cases hR : ∃ r row g c, pre.rows[r]? = some row ∧ m.γ (fr.getD r 0) = some (g, c) ∧ g = b
          · obtain ⟨r, row, g, c, h1, h2, rfl⟩ := hR
            have hsr := h.row r row h1
            refine ⟨hs.avr _ row g c hsr h2 o, fun i z hi => ?_, fun i z g' c' hi hg e => ?_⟩
            · obtain ⟨y, hy⟩ := lv i z hi
              exact hs.br i y _ row g c hy hsr h2
            · refine hrow i z g' c' hi hg e fun hq => ?_
              rcases over_row hi hfrl with ⟨j, k1, -⟩ | ⟨k1, k2⟩
              · exact absurd k1 (idx?_none hq j)
              · rw [hγn i hq] at hg
                have := hs.rinj i _ z row g c' c k2 hsr (by rw [hg, e]) h2
                have hj := getD_get (l := fr) (k := r) (by rw [h.frl]; exact get_lt h1)
                rw [← this] at hj
                exact idx?_none hq r hj
          · exact absurd ⟨hlt, hA, fun k x h1 h2 => hB ⟨k, x, h1, h2⟩, fun r row g c h1 h2 h3 => hR ⟨r, row, g, c, h1, h2, h3⟩⟩ hk.1
    · refine ⟨fun ho => by have := hs.avlt _ _ ho; omega, fun i z hi => ?_, fun i z g c hi hg e => ?_⟩
      · obtain ⟨y, hy⟩ := lv i z hi
        have := hs.box_lt hy
        show m.ρ i ≠ b
        omega
      · refine hrow i z g c hi hg e fun hq => ?_
        rcases over_row hi hfrl with ⟨j, k1, -⟩ | ⟨k1, k2⟩
        · exact absurd k1 (idx?_none hq j)
        · rw [hγn i hq] at hg
          have := hs.row_lt k2 hg
          omega
  refine ⟨ev, ⟨fun i z hi => ?_, fun i i' z z' hi hi' hne => ?_, fun i z hi => ?_, fun i i' z z' g c c' hi hi' hg hg' => ?_, fun i z r row g c hi hr hg => ?_, fun b o hb => Nat.lt_of_lt_of_le (hs.avlt b o hb) he.size, hav⟩, bk, back⟩
  · rcases over_box hi with ⟨j, x, h1, h2, rfl, -⟩ | ⟨h1, h2⟩
    · obtain ⟨-, -, -, -, -, h4, -⟩ := pb i j h1
      obtain ⟨vs, k1, k2⟩ := hst.box j x h2
      refine ⟨vs, ?_, RVL.ren bk back _ _ k2⟩
      show OB w' (m.ρ i) _ _
      rw [← h4]
      exact k1
    · obtain ⟨vs, k1, k2⟩ := hs.box i z h2
      refine ⟨vs, (he.blk _ k1.lt (fun k x hk => ?_) (fun r row g c hr hg e => ?_)).trans k1, RVL.mono ev _ _ k2⟩
      · obtain ⟨y, hy, -⟩ := h.box k x hk
        have hj := getD_get (l := fb) (k := k) (by rw [h.fbl]; exact get_lt hk)
        exact hs.binj _ _ y z hy h2 (fun e => idx?_none h1 k (by rw [hj, e]))
      · exact hs.br i z _ row g c h2 (h.row r row hr) hg e.symm
  · obtain ⟨y, hy⟩ := lv i z hi
    obtain ⟨y', hy'⟩ := lv i' z' hi'
    exact hs.binj i i' y y' hy hy' hne
  · rcases over_row hi hfrl with ⟨j, h1, h2, -⟩ | ⟨h1, h2⟩
    · obtain ⟨k1, k2, k3⟩ := hst.row j z h2
      refine ⟨k1, k2, ?_⟩
      rw [hγ i j h1]
      rcases k3 with k3 | ⟨g, c, cur, q1, q2, q3, q4, q5, q6⟩
      · exact .inl k3
      · exact .inr ⟨g, c, cur, q1, q2, q3, q4, q5, RepM.mono q6 (Nat.le_refl _) back (fun _ _ _ _ => rfl)⟩
    · obtain ⟨k1, k2, k3⟩ := hs.row i z h2
      refine ⟨k1, k2, ?_⟩
      rw [hγn i h1]
      rcases k3 with k3 | ⟨g, c, cur, q1, q2, q3, q4, q5, q6⟩
      · exact .inl k3
      · refine .inr ⟨g, c, cur, q1, (he.blk g q2.lt (fun k x hk e => ?_) (fun r row g' c' hr hg e => ?_)).trans q2, q3, q4, q5, RV.mono ev (.t _) _ q6⟩
        · obtain ⟨y, hy, -⟩ := h.box k x hk
          exact hs.br _ y i z g c hy h2 q1 e
        · subst e
          have := hs.rinj i _ z row g' c c' h2 (h.row r row hr) q1 hg
          have hj := getD_get (l := fr) (k := r) (by rw [h.frl]; exact get_lt hr)
          rw [← this] at hj
          exact idx?_none h1 r hj
  · rcases over_row hi hfrl with ⟨j, h1, h2, -⟩ | ⟨h1, h2⟩ <;> rcases over_row hi' hfrl with ⟨j', h1', h2', -⟩ | ⟨h1', h2'⟩
    · rw [hγ i j h1] at hg
      rw [hγ i' j' h1'] at hg'
      have := hst.rinj j j' z z' g c c' h2 h2' hg hg'
      subst this
      rw [h1] at h1'
      exact Option.some.inj h1'
    · rcases rp i z g c hi hg with ⟨row, c0, k1, k2⟩ | k
      · rw [hγn i' h1'] at hg'
        exact hs.rinj i i' row z' g c0 c' k1 h2' k2 hg'
      · rw [hγn i' h1'] at hg'
        have := hs.row_lt h2' hg'
        omega
    · rcases rp i' z' g c' hi' hg' with ⟨row, c0, k1, k2⟩ | k
      · rw [hγn i h1] at hg
        exact hs.rinj i i' z row g c c0 h2 k1 hg k2
      · rw [hγn i h1] at hg
        have := hs.row_lt h2 hg
        omega
    · rw [hγn i h1] at hg
      rw [hγn i' h1'] at hg'
      exact hs.rinj i i' z z' g c c' h2 h2' hg hg'
  · obtain ⟨y, hy⟩ := lv i z hi
    rcases rp r row g c hr hg with ⟨row0, c0, k1, k2⟩ | k
    · exact hs.br i y r row0 g c0 hy k1 k2
    · have := hs.box_lt hy
      show m.ρ i ≠ g
      omega
end

section
variable {P : Program} {C : Ctx} {n : Nat} {s : AS} {o : Oper}
theorem AOp.enterP {f : FuncId} {ps qs : List PV} {res : PV} {pre st' : Sto} (fb fr : List Nat) (hd : dstOk o.dst n = true)
    (hrun : ∀ m a w, RA C n s m a w → ∃ vals, (execOp a.eval o).run P w = .ok (.enter f ⟨vals⟩) w ∧ RVL (okA C.av s.st m) s.st m w ps vals) (hp : Part0 s.st pre fb fr) (hle : LeL ps (renL fb fr qs)) (hok : okInL pre qs = true)
    (hbl : st'.boxes.length = pre.boxes.length) (hrl : st'.rows.length = pre.rows.length) (hc : ACalls P f qs pre (fun r t => r = res ∧ t = st')) :
    AOp P C n o s ((⟨s.env, s.st.over st' fb fr⟩ : AS).putO o.dst (PV.ren fb fr res)) := fun m a w h K Q hK => by
  obtain ⟨vals, h1, h2⟩ := hrun m a w h
  unfold Oper.wp
  rw [h1]
  have h3 := hc (shutP C.av s.st pre m fb fr w) (m.via fb fr) w vals (hp.sto h.sto) (RVL.unren hp (fun b o _ k => hp.ok k) _ _ hok (LeL.rv hle h2))
  refine Calls.mono h3 fun e w' => ?_
  rintro ⟨r, t, m', v, rfl, ⟨rfl, rfl⟩, h4, h5, h6⟩
  obtain ⟨k1, k2, k3, k4⟩ := over_all hp h.sto h4 h5 hbl hrl
  have hr := h.step k1 k2
  exact hK _ _ w' (hr.put (dstOk_lt hd) (RV.ren k3 k4 _ _ h6))
theorem AOp.callP {f : FuncId} {fn : Func} {xs : List Operand} {ts : Array TypeId} {ps qs : List PV} {res : PV} {pre st' : Sto} (fb fr : List Nat) (ho : o.op = .call { callee := .value (.func f), args := ⟨xs⟩, argTypes := ts }) (hd : dstOk o.dst n = true) (hf : P.funcs[f]? = some fn) (hnm : (fn.name == "runtime.NumGoroutine") = false) (hb : fn.body.isNone = false)
    (hx : xs.map s.ev = ps.map some) (hp : Part0 s.st pre fb fr) (hle : LeL ps (renL fb fr qs)) (hok : okInL pre qs = true) (hbl : st'.boxes.length = pre.boxes.length) (hrl : st'.rows.length = pre.rows.length) (hc : ACalls P f qs pre (fun r t => r = res ∧ t = st')) :
    AOp P C n o s ((⟨s.env, s.st.over st' fb fr⟩ : AS).putO o.dst (PV.ren fb fr res)) :=
  AOp.enterP fb fr hd (fun m a w h => ⟨xs.map a.eval, by
    have hcf := run_callFunc_body (P := P) hf hnm hb
    unfold execOp
    simp only [ho]
    simp [resolve, invoke, Deferred.ofValue, Act.eval, hcf], evL h hx⟩) hp hle hok hbl hrl hc
end
end Go.Proofs.Ytoifjkggpanceaa

namespace Go.Proofs.Ytoifjkggpanceaa
open Go.RowKit

def strTrs (l : List ByteArray) : List (List Tr) := l.map fun s => [.leaf (.string s)]
def intTrs (l : List Int) : List (List Tr) := l.map fun n => [.leaf (.int .i64 n)]
theorem strTrs_len (l : List ByteArray) : (strTrs l).length = l.length := by simp [strTrs]
theorem intTrs_len (l : List Int) : (intTrs l).length = l.length := by simp [intTrs]
theorem strTrs_get {l : List ByteArray} {k : Nat} (h : k < l.length) : (strTrs l)[k]? = some [.leaf (.string l[k])] := by
  unfold strTrs
  rw [List.getElem?_map, List.getElem?_eq_getElem h]; rfl
theorem intTrs_get {l : List Int} {k : Nat} (h : k < l.length) : (intTrs l)[k]? = some [.leaf (.int .i64 l[k])] := by
  unfold intTrs
  rw [List.getElem?_map, List.getElem?_eq_getElem h]; rfl
theorem strTrs_sz (l : List ByteArray) : ∀ e ∈ strTrs l, e.length = 1 := by
  intro e he
  obtain ⟨x, -, rfl⟩ := List.mem_map.1 he
  rfl
theorem intTrs_sz (l : List Int) : ∀ e ∈ intTrs l, e.length = 1 := by
  intro e he
  obtain ⟨x, -, rfl⟩ := List.mem_map.1 he
  rfl
theorem intTrs_bulk : ∀ l : List Int, Tr.bulkAll (intTrs l) = 0
  | [] => rfl
  | a :: l => by
    have := intTrs_bulk l
    simp only [intTrs] at this
    simp [intTrs, Tr.bulkAll, Tr.bulkL, Tr.bulk, this]
/-- Element k of a slice of strings, of integers. -/
theorem Rep.str {w : World} {l : List ByteArray} {a : Option Addr} {len cap k : Nat} (h : Rep w (.row 1 (strTrs l)) (.slice a len cap)) (hk : k < l.length) :
    ∃ b off, a = some ⟨b, off, none⟩ ∧ b < w.heap.size ∧ l[k].size ≤ maxLen ∧ w.cell? ⟨b, off + k, none⟩ = some (.string l[k]) := by
  obtain ⟨b, off, cs, rfl, hb, hcs, hc⟩ := h.at2 (strTrs_get hk)
  obtain ⟨v, rfl⟩ := list1 hcs.length.symm
  obtain ⟨rfl, hl⟩ := hcs.1.leaf_eq
  have := hc 0 _ rfl
  rw [Nat.mul_one, Nat.add_zero] at this
  exact ⟨b, off, rfl, hb, hl, this⟩
theorem Rep.int {w : World} {l : List Int} {a : Option Addr} {len cap k : Nat} (h : Rep w (.row 1 (intTrs l)) (.slice a len cap)) (hk : k < l.length) :
    ∃ b off, a = some ⟨b, off, none⟩ ∧ b < w.heap.size ∧ (Lit.int .i64 l[k]).wf = true ∧ w.cell? ⟨b, off + k, none⟩ = some (.int .i64 l[k]) := by
  obtain ⟨b, off, cs, rfl, hb, hcs, hc⟩ := h.at2 (intTrs_get hk)
  obtain ⟨v, rfl⟩ := list1 hcs.length.symm
  obtain ⟨rfl, hl⟩ := hcs.1.leaf_eq
  have := hc 0 _ rfl
  rw [Nat.mul_one, Nat.add_zero] at this
  exact ⟨b, off, rfl, hb, hl, this⟩

inductive GInstanceRef where
  | mk (package_ : Int) (at_ : Int)
def GInstanceRef.tr : GInstanceRef → List Tr
  | .mk v0 v1 => [.leaf (.int .i64 v0)] ++ ([.leaf (.int .i64 v1)] ++ ([]))
def GInstanceRef.trs (l : List GInstanceRef) : List (List Tr) := l.map GInstanceRef.tr
theorem GInstanceRef.trs_map (l : List GInstanceRef) : GInstanceRef.trs l = l.map GInstanceRef.tr := rfl
theorem GInstanceRef.trs_len (l : List GInstanceRef) : (GInstanceRef.trs l).length = l.length := by rw [GInstanceRef.trs_map, List.length_map]
def GInstanceRef.gPackage : GInstanceRef → Int
  | .mk v _ => v
@[simp] theorem GInstanceRef.gPackage_mk (v0 : Int) (v1 : Int) : GInstanceRef.gPackage (.mk v0 v1) = v0 := rfl
def GInstanceRef.gAt : GInstanceRef → Int
  | .mk _ v => v
@[simp] theorem GInstanceRef.gAt_mk (v0 : Int) (v1 : Int) : GInstanceRef.gAt (.mk v0 v1) = v1 := rfl
theorem GInstanceRef.tr_len (x : GInstanceRef) : x.tr.length = 2 := by
  obtain ⟨v0, v1⟩ := x
  simp [GInstanceRef.tr]
theorem GInstanceRef.opened {w : World} {cs : List Value} {v0 : Int} {v1 : Int} (h : RepL w (GInstanceRef.tr (.mk v0 v1)) cs) :
    cs = [.int .i64 v0] ++ ([.int .i64 v1] ++ ([])) ∧ LeafOk (.int .i64 v0) ∧ LeafOk (.int .i64 v1) := by
  obtain ⟨b0, r0, rfl, g0, n0⟩ := RepL.split h
  obtain ⟨y0, rfl⟩ := list1 g0.length.symm
  obtain ⟨rfl, k0⟩ := g0.1.leaf_eq
  obtain ⟨b1, r1, rfl, g1, n1⟩ := RepL.split n0
  obtain ⟨y1, rfl⟩ := list1 g1.length.symm
  obtain ⟨rfl, k1⟩ := g1.1.leaf_eq
  obtain rfl := RepL.nil_eq n1
  exact ⟨rfl, k0, k1⟩

theorem GInstanceRef.sz (l : List GInstanceRef) : ∀ e ∈ GInstanceRef.trs l, e.length = 2 := by
  intro e he
  rw [GInstanceRef.trs_map] at he
  obtain ⟨x, -, rfl⟩ := List.mem_map.1 he
  exact GInstanceRef.tr_len x
theorem GInstanceRef.all {l : List GInstanceRef} {Q : List Tr → Prop} (h : ∀ x ∈ l, Q x.tr) : ∀ e ∈ GInstanceRef.trs l, Q e := by
  intro e he
  rw [GInstanceRef.trs_map] at he
  obtain ⟨x, hx, rfl⟩ := List.mem_map.1 he
  exact h x hx
theorem GInstanceRef.trs_get {l : List GInstanceRef} {k : Nat} (h : k < l.length) : (GInstanceRef.trs l)[k]? = some (l[k]).tr := by
  rw [GInstanceRef.trs_map, List.getElem?_map, List.getElem?_eq_getElem h]; rfl
inductive GSExpr where
  | mk (atom_ : ByteArray) (list_ : List GSExpr)
mutual
def GSExpr.tr : GSExpr → List Tr
  | .mk v0 v1 => [.leaf (.string v0)] ++ ([.row 2 (GSExpr.trs v1)] ++ ([]))
def GSExpr.trs : List GSExpr → List (List Tr)
  | [] => []
  | e :: r => GSExpr.tr e :: GSExpr.trs r
end
theorem GSExpr.trs_map (l : List GSExpr) : GSExpr.trs l = l.map GSExpr.tr := by induction l <;> simp_all [GSExpr.trs]
theorem GSExpr.trs_len (l : List GSExpr) : (GSExpr.trs l).length = l.length := by rw [GSExpr.trs_map, List.length_map]
def GSExpr.gAtom : GSExpr → ByteArray
  | .mk v _ => v
@[simp] theorem GSExpr.gAtom_mk (v0 : ByteArray) (v1 : List GSExpr) : GSExpr.gAtom (.mk v0 v1) = v0 := rfl
def GSExpr.gList : GSExpr → List GSExpr
  | .mk _ v => v
@[simp] theorem GSExpr.gList_mk (v0 : ByteArray) (v1 : List GSExpr) : GSExpr.gList (.mk v0 v1) = v1 := rfl
theorem GSExpr.tr_len (x : GSExpr) : x.tr.length = 2 := by
  obtain ⟨v0, v1⟩ := x
  simp [GSExpr.tr]
theorem GSExpr.opened {w : World} {cs : List Value} {v0 : ByteArray} {v1 : List GSExpr} (h : RepL w (GSExpr.tr (.mk v0 v1)) cs) :
    ∃ (a1 : Option Addr) (c1 : Nat), cs = [.string v0] ++ ([.slice a1 v1.length c1] ++ ([])) ∧ LeafOk (.string v0) ∧ Rep w (.row 2 (GSExpr.trs v1)) (.slice a1 v1.length c1) := by
  obtain ⟨b0, r0, rfl, g0, n0⟩ := RepL.split h
  obtain ⟨y0, rfl⟩ := list1 g0.length.symm
  obtain ⟨rfl, k0⟩ := g0.1.leaf_eq
  obtain ⟨b1, r1, rfl, g1, n1⟩ := RepL.split n0
  obtain ⟨y1, rfl⟩ := list1 g1.length.symm
  obtain ⟨a1, c1, e1, -, -⟩ := g1.1.shape
  rw [GSExpr.trs_len] at e1
  subst e1
  obtain rfl := RepL.nil_eq n1
  exact ⟨a1, c1, rfl, k0, g1.1⟩

theorem GSExpr.sz (l : List GSExpr) : ∀ e ∈ GSExpr.trs l, e.length = 2 := by
  intro e he
  rw [GSExpr.trs_map] at he
  obtain ⟨x, -, rfl⟩ := List.mem_map.1 he
  exact GSExpr.tr_len x
theorem GSExpr.all {l : List GSExpr} {Q : List Tr → Prop} (h : ∀ x ∈ l, Q x.tr) : ∀ e ∈ GSExpr.trs l, Q e := by
  intro e he
  rw [GSExpr.trs_map] at he
  obtain ⟨x, hx, rfl⟩ := List.mem_map.1 he
  exact h x hx
theorem GSExpr.trs_get {l : List GSExpr} {k : Nat} (h : k < l.length) : (GSExpr.trs l)[k]? = some (l[k]).tr := by
  rw [GSExpr.trs_map, List.getElem?_map, List.getElem?_eq_getElem h]; rfl
theorem GSExpr.ind {A : GSExpr → Prop} (h : ∀ v0 v1, (∀ x ∈ v1, A x) → A (.mk v0 v1)) : ∀ e, A e := by
  have key : ∀ (N : Nat) (e : GSExpr), SizeOf.sizeOf e < N → A e := by
    intro N
    induction N with
    | zero => intro e he; omega
    | succ N ih =>
      intro e he
      obtain ⟨v0, v1⟩ := e
      refine h v0 v1 fun x hx => ih x ?_
      have := List.sizeOf_lt_of_mem hx
      simp at he
      omega
  exact fun e => key _ e (Nat.lt_succ_self _)

inductive GType where
  | mk (kind_ : Int) (name_ : ByteArray) (args_ : List GType)
mutual
def GType.tr : GType → List Tr
  | .mk v0 v1 v2 => [.leaf (.int .i64 v0)] ++ ([.leaf (.string v1)] ++ ([.row 3 (GType.trs v2)] ++ ([])))
def GType.trs : List GType → List (List Tr)
  | [] => []
  | e :: r => GType.tr e :: GType.trs r
end
theorem GType.trs_map (l : List GType) : GType.trs l = l.map GType.tr := by induction l <;> simp_all [GType.trs]
theorem GType.trs_len (l : List GType) : (GType.trs l).length = l.length := by rw [GType.trs_map, List.length_map]
def GType.gKind : GType → Int
  | .mk v _ _ => v
@[simp] theorem GType.gKind_mk (v0 : Int) (v1 : ByteArray) (v2 : List GType) : GType.gKind (.mk v0 v1 v2) = v0 := rfl
def GType.gName : GType → ByteArray
  | .mk _ v _ => v
@[simp] theorem GType.gName_mk (v0 : Int) (v1 : ByteArray) (v2 : List GType) : GType.gName (.mk v0 v1 v2) = v1 := rfl
def GType.gArgs : GType → List GType
  | .mk _ _ v => v
@[simp] theorem GType.gArgs_mk (v0 : Int) (v1 : ByteArray) (v2 : List GType) : GType.gArgs (.mk v0 v1 v2) = v2 := rfl
theorem GType.tr_len (x : GType) : x.tr.length = 3 := by
  obtain ⟨v0, v1, v2⟩ := x
  simp [GType.tr]
theorem GType.opened {w : World} {cs : List Value} {v0 : Int} {v1 : ByteArray} {v2 : List GType} (h : RepL w (GType.tr (.mk v0 v1 v2)) cs) :
    ∃ (a2 : Option Addr) (c2 : Nat), cs = [.int .i64 v0] ++ ([.string v1] ++ ([.slice a2 v2.length c2] ++ ([]))) ∧ LeafOk (.int .i64 v0) ∧ LeafOk (.string v1) ∧ Rep w (.row 3 (GType.trs v2)) (.slice a2 v2.length c2) := by
  obtain ⟨b0, r0, rfl, g0, n0⟩ := RepL.split h
  obtain ⟨y0, rfl⟩ := list1 g0.length.symm
  obtain ⟨rfl, k0⟩ := g0.1.leaf_eq
  obtain ⟨b1, r1, rfl, g1, n1⟩ := RepL.split n0
  obtain ⟨y1, rfl⟩ := list1 g1.length.symm
  obtain ⟨rfl, k1⟩ := g1.1.leaf_eq
  obtain ⟨b2, r2, rfl, g2, n2⟩ := RepL.split n1
  obtain ⟨y2, rfl⟩ := list1 g2.length.symm
  obtain ⟨a2, c2, e2, -, -⟩ := g2.1.shape
  rw [GType.trs_len] at e2
  subst e2
  obtain rfl := RepL.nil_eq n2
  exact ⟨a2, c2, rfl, k0, k1, g2.1⟩

theorem GType.sz (l : List GType) : ∀ e ∈ GType.trs l, e.length = 3 := by
  intro e he
  rw [GType.trs_map] at he
  obtain ⟨x, -, rfl⟩ := List.mem_map.1 he
  exact GType.tr_len x
theorem GType.all {l : List GType} {Q : List Tr → Prop} (h : ∀ x ∈ l, Q x.tr) : ∀ e ∈ GType.trs l, Q e := by
  intro e he
  rw [GType.trs_map] at he
  obtain ⟨x, hx, rfl⟩ := List.mem_map.1 he
  exact h x hx
theorem GType.trs_get {l : List GType} {k : Nat} (h : k < l.length) : (GType.trs l)[k]? = some (l[k]).tr := by
  rw [GType.trs_map, List.getElem?_map, List.getElem?_eq_getElem h]; rfl
theorem GType.ind {A : GType → Prop} (h : ∀ v0 v1 v2, (∀ x ∈ v2, A x) → A (.mk v0 v1 v2)) : ∀ e, A e := by
  have key : ∀ (N : Nat) (e : GType), SizeOf.sizeOf e < N → A e := by
    intro N
    induction N with
    | zero => intro e he; omega
    | succ N ih =>
      intro e he
      obtain ⟨v0, v1, v2⟩ := e
      refine h v0 v1 v2 fun x hx => ih x ?_
      have := List.sizeOf_lt_of_mem hx
      simp at he
      omega
  exact fun e => key _ e (Nat.lt_succ_self _)

inductive GBinding where
  | mk (var_ : ByteArray) (type_ : GType)
def GBinding.tr : GBinding → List Tr
  | .mk v0 v1 => [.leaf (.string v0)] ++ (GType.tr v1 ++ ([]))
def GBinding.trs (l : List GBinding) : List (List Tr) := l.map GBinding.tr
theorem GBinding.trs_map (l : List GBinding) : GBinding.trs l = l.map GBinding.tr := rfl
theorem GBinding.trs_len (l : List GBinding) : (GBinding.trs l).length = l.length := by rw [GBinding.trs_map, List.length_map]
def GBinding.gVar : GBinding → ByteArray
  | .mk v _ => v
@[simp] theorem GBinding.gVar_mk (v0 : ByteArray) (v1 : GType) : GBinding.gVar (.mk v0 v1) = v0 := rfl
def GBinding.gType : GBinding → GType
  | .mk _ v => v
@[simp] theorem GBinding.gType_mk (v0 : ByteArray) (v1 : GType) : GBinding.gType (.mk v0 v1) = v1 := rfl
theorem GBinding.tr_len (x : GBinding) : x.tr.length = 4 := by
  obtain ⟨v0, v1⟩ := x
  simp [GBinding.tr, GType.tr_len]
theorem GBinding.opened {w : World} {cs : List Value} {v0 : ByteArray} {v1 : GType} (h : RepL w (GBinding.tr (.mk v0 v1)) cs) :
    ∃ (x1 : List Value), cs = [.string v0] ++ (x1 ++ ([])) ∧ LeafOk (.string v0) ∧ RepL w (GType.tr v1) x1 := by
  obtain ⟨b0, r0, rfl, g0, n0⟩ := RepL.split h
  obtain ⟨y0, rfl⟩ := list1 g0.length.symm
  obtain ⟨rfl, k0⟩ := g0.1.leaf_eq
  obtain ⟨b1, r1, rfl, g1, n1⟩ := RepL.split n0
  obtain rfl := RepL.nil_eq n1
  exact ⟨b1, rfl, k0, g1⟩

theorem GBinding.sz (l : List GBinding) : ∀ e ∈ GBinding.trs l, e.length = 4 := by
  intro e he
  rw [GBinding.trs_map] at he
  obtain ⟨x, -, rfl⟩ := List.mem_map.1 he
  exact GBinding.tr_len x
theorem GBinding.all {l : List GBinding} {Q : List Tr → Prop} (h : ∀ x ∈ l, Q x.tr) : ∀ e ∈ GBinding.trs l, Q e := by
  intro e he
  rw [GBinding.trs_map] at he
  obtain ⟨x, hx, rfl⟩ := List.mem_map.1 he
  exact h x hx
theorem GBinding.trs_get {l : List GBinding} {k : Nat} (h : k < l.length) : (GBinding.trs l)[k]? = some (l[k]).tr := by
  rw [GBinding.trs_map, List.getElem?_map, List.getElem?_eq_getElem h]; rfl
mutual
inductive GArm where
  | mk (constructor_ : ByteArray) (vars_ : List ByteArray) (body_ : GExpr)
inductive GExpr where
  | mk (kind_ : Int) (trait_ : ByteArray) (name_ : ByteArray) (n_ : Int) (type_ : GType) (args_ : List GExpr) (arms_ : List GArm)
end
mutual
def GArm.tr : GArm → List Tr
  | .mk v0 v1 v2 => [.leaf (.string v0)] ++ ([.row 1 (strTrs v1)] ++ (GExpr.tr v2 ++ ([])))
def GArm.trs : List GArm → List (List Tr)
  | [] => []
  | e :: r => GArm.tr e :: GArm.trs r
def GExpr.tr : GExpr → List Tr
  | .mk v0 v1 v2 v3 v4 v5 v6 => [.leaf (.int .i64 v0)] ++ ([.leaf (.string v1)] ++ ([.leaf (.string v2)] ++ ([.leaf (.int .i64 v3)] ++ (GType.tr v4 ++ ([.row 9 (GExpr.trs v5)] ++ ([.row 11 (GArm.trs v6)] ++ ([])))))))
def GExpr.trs : List GExpr → List (List Tr)
  | [] => []
  | e :: r => GExpr.tr e :: GExpr.trs r
end
theorem GArm.trs_map (l : List GArm) : GArm.trs l = l.map GArm.tr := by induction l <;> simp_all [GArm.trs]
theorem GExpr.trs_map (l : List GExpr) : GExpr.trs l = l.map GExpr.tr := by induction l <;> simp_all [GExpr.trs]
theorem GArm.trs_len (l : List GArm) : (GArm.trs l).length = l.length := by rw [GArm.trs_map, List.length_map]
theorem GExpr.trs_len (l : List GExpr) : (GExpr.trs l).length = l.length := by rw [GExpr.trs_map, List.length_map]
def GArm.gConstructor : GArm → ByteArray
  | .mk v _ _ => v
@[simp] theorem GArm.gConstructor_mk (v0 : ByteArray) (v1 : List ByteArray) (v2 : GExpr) : GArm.gConstructor (.mk v0 v1 v2) = v0 := rfl
def GArm.gVars : GArm → List ByteArray
  | .mk _ v _ => v
@[simp] theorem GArm.gVars_mk (v0 : ByteArray) (v1 : List ByteArray) (v2 : GExpr) : GArm.gVars (.mk v0 v1 v2) = v1 := rfl
def GArm.gBody : GArm → GExpr
  | .mk _ _ v => v
@[simp] theorem GArm.gBody_mk (v0 : ByteArray) (v1 : List ByteArray) (v2 : GExpr) : GArm.gBody (.mk v0 v1 v2) = v2 := rfl

def GExpr.gKind : GExpr → Int
  | .mk v _ _ _ _ _ _ => v
@[simp] theorem GExpr.gKind_mk (v0 : Int) (v1 : ByteArray) (v2 : ByteArray) (v3 : Int) (v4 : GType) (v5 : List GExpr) (v6 : List GArm) : GExpr.gKind (.mk v0 v1 v2 v3 v4 v5 v6) = v0 := rfl
def GExpr.gTrait : GExpr → ByteArray
  | .mk _ v _ _ _ _ _ => v
@[simp] theorem GExpr.gTrait_mk (v0 : Int) (v1 : ByteArray) (v2 : ByteArray) (v3 : Int) (v4 : GType) (v5 : List GExpr) (v6 : List GArm) : GExpr.gTrait (.mk v0 v1 v2 v3 v4 v5 v6) = v1 := rfl
def GExpr.gName : GExpr → ByteArray
  | .mk _ _ v _ _ _ _ => v
@[simp] theorem GExpr.gName_mk (v0 : Int) (v1 : ByteArray) (v2 : ByteArray) (v3 : Int) (v4 : GType) (v5 : List GExpr) (v6 : List GArm) : GExpr.gName (.mk v0 v1 v2 v3 v4 v5 v6) = v2 := rfl
def GExpr.gN : GExpr → Int
  | .mk _ _ _ v _ _ _ => v
@[simp] theorem GExpr.gN_mk (v0 : Int) (v1 : ByteArray) (v2 : ByteArray) (v3 : Int) (v4 : GType) (v5 : List GExpr) (v6 : List GArm) : GExpr.gN (.mk v0 v1 v2 v3 v4 v5 v6) = v3 := rfl
def GExpr.gType : GExpr → GType
  | .mk _ _ _ _ v _ _ => v
@[simp] theorem GExpr.gType_mk (v0 : Int) (v1 : ByteArray) (v2 : ByteArray) (v3 : Int) (v4 : GType) (v5 : List GExpr) (v6 : List GArm) : GExpr.gType (.mk v0 v1 v2 v3 v4 v5 v6) = v4 := rfl
def GExpr.gArgs : GExpr → List GExpr
  | .mk _ _ _ _ _ v _ => v
@[simp] theorem GExpr.gArgs_mk (v0 : Int) (v1 : ByteArray) (v2 : ByteArray) (v3 : Int) (v4 : GType) (v5 : List GExpr) (v6 : List GArm) : GExpr.gArgs (.mk v0 v1 v2 v3 v4 v5 v6) = v5 := rfl
def GExpr.gArms : GExpr → List GArm
  | .mk _ _ _ _ _ _ v => v
@[simp] theorem GExpr.gArms_mk (v0 : Int) (v1 : ByteArray) (v2 : ByteArray) (v3 : Int) (v4 : GType) (v5 : List GExpr) (v6 : List GArm) : GExpr.gArms (.mk v0 v1 v2 v3 v4 v5 v6) = v6 := rfl
theorem GExpr.tr_len (x : GExpr) : x.tr.length = 9 := by
  obtain ⟨v0, v1, v2, v3, v4, v5, v6⟩ := x
  simp [GExpr.tr, GType.tr_len]
theorem GArm.tr_len (x : GArm) : x.tr.length = 11 := by
  obtain ⟨v0, v1, v2⟩ := x
  simp [GArm.tr, GExpr.tr_len]
theorem GArm.opened {w : World} {cs : List Value} {v0 : ByteArray} {v1 : List ByteArray} {v2 : GExpr} (h : RepL w (GArm.tr (.mk v0 v1 v2)) cs) :
    ∃ (a1 : Option Addr) (c1 : Nat) (x2 : List Value), cs = [.string v0] ++ ([.slice a1 v1.length c1] ++ (x2 ++ ([]))) ∧ LeafOk (.string v0) ∧ Rep w (.row 1 (strTrs v1)) (.slice a1 v1.length c1) ∧ RepL w (GExpr.tr v2) x2 := by
  obtain ⟨b0, r0, rfl, g0, n0⟩ := RepL.split h
  obtain ⟨y0, rfl⟩ := list1 g0.length.symm
  obtain ⟨rfl, k0⟩ := g0.1.leaf_eq
  obtain ⟨b1, r1, rfl, g1, n1⟩ := RepL.split n0
  obtain ⟨y1, rfl⟩ := list1 g1.length.symm
  obtain ⟨a1, c1, e1, -, -⟩ := g1.1.shape
  rw [strTrs_len] at e1
  subst e1
  obtain ⟨b2, r2, rfl, g2, n2⟩ := RepL.split n1
  obtain rfl := RepL.nil_eq n2
  exact ⟨a1, c1, b2, rfl, k0, g1.1, g2⟩

theorem GExpr.opened {w : World} {cs : List Value} {v0 : Int} {v1 : ByteArray} {v2 : ByteArray} {v3 : Int} {v4 : GType} {v5 : List GExpr} {v6 : List GArm} (h : RepL w (GExpr.tr (.mk v0 v1 v2 v3 v4 v5 v6)) cs) :
    ∃ (x4 : List Value) (a5 : Option Addr) (c5 : Nat) (a6 : Option Addr) (c6 : Nat), cs = [.int .i64 v0] ++ ([.string v1] ++ ([.string v2] ++ ([.int .i64 v3] ++ (x4 ++ ([.slice a5 v5.length c5] ++ ([.slice a6 v6.length c6] ++ ([]))))))) ∧ LeafOk (.int .i64 v0) ∧ LeafOk (.string v1) ∧ LeafOk (.string v2) ∧ LeafOk (.int .i64 v3) ∧ RepL w (GType.tr v4) x4 ∧ Rep w (.row 9 (GExpr.trs v5)) (.slice a5 v5.length c5) ∧ Rep w (.row 11 (GArm.trs v6)) (.slice a6 v6.length c6) := by
  obtain ⟨b0, r0, rfl, g0, n0⟩ := RepL.split h
  obtain ⟨y0, rfl⟩ := list1 g0.length.symm
  obtain ⟨rfl, k0⟩ := g0.1.leaf_eq
  obtain ⟨b1, r1, rfl, g1, n1⟩ := RepL.split n0
  obtain ⟨y1, rfl⟩ := list1 g1.length.symm
  obtain ⟨rfl, k1⟩ := g1.1.leaf_eq
  obtain ⟨b2, r2, rfl, g2, n2⟩ := RepL.split n1
  obtain ⟨y2, rfl⟩ := list1 g2.length.symm
  obtain ⟨rfl, k2⟩ := g2.1.leaf_eq
  obtain ⟨b3, r3, rfl, g3, n3⟩ := RepL.split n2
  obtain ⟨y3, rfl⟩ := list1 g3.length.symm
  obtain ⟨rfl, k3⟩ := g3.1.leaf_eq
  obtain ⟨b4, r4, rfl, g4, n4⟩ := RepL.split n3
  obtain ⟨b5, r5, rfl, g5, n5⟩ := RepL.split n4
  obtain ⟨y5, rfl⟩ := list1 g5.length.symm
  obtain ⟨a5, c5, e5, -, -⟩ := g5.1.shape
  rw [GExpr.trs_len] at e5
  subst e5
  obtain ⟨b6, r6, rfl, g6, n6⟩ := RepL.split n5
  obtain ⟨y6, rfl⟩ := list1 g6.length.symm
  obtain ⟨a6, c6, e6, -, -⟩ := g6.1.shape
  rw [GArm.trs_len] at e6
  subst e6
  obtain rfl := RepL.nil_eq n6
  exact ⟨b4, a5, c5, a6, c6, rfl, k0, k1, k2, k3, g4, g5.1, g6.1⟩

theorem GArm.sz (l : List GArm) : ∀ e ∈ GArm.trs l, e.length = 11 := by
  intro e he
  rw [GArm.trs_map] at he
  obtain ⟨x, -, rfl⟩ := List.mem_map.1 he
  exact GArm.tr_len x
theorem GArm.all {l : List GArm} {Q : List Tr → Prop} (h : ∀ x ∈ l, Q x.tr) : ∀ e ∈ GArm.trs l, Q e := by
  intro e he
  rw [GArm.trs_map] at he
  obtain ⟨x, hx, rfl⟩ := List.mem_map.1 he
  exact h x hx
theorem GArm.trs_get {l : List GArm} {k : Nat} (h : k < l.length) : (GArm.trs l)[k]? = some (l[k]).tr := by
  rw [GArm.trs_map, List.getElem?_map, List.getElem?_eq_getElem h]; rfl
theorem GExpr.sz (l : List GExpr) : ∀ e ∈ GExpr.trs l, e.length = 9 := by
  intro e he
  rw [GExpr.trs_map] at he
  obtain ⟨x, -, rfl⟩ := List.mem_map.1 he
  exact GExpr.tr_len x
theorem GExpr.all {l : List GExpr} {Q : List Tr → Prop} (h : ∀ x ∈ l, Q x.tr) : ∀ e ∈ GExpr.trs l, Q e := by
  intro e he
  rw [GExpr.trs_map] at he
  obtain ⟨x, hx, rfl⟩ := List.mem_map.1 he
  exact h x hx
theorem GExpr.trs_get {l : List GExpr} {k : Nat} (h : k < l.length) : (GExpr.trs l)[k]? = some (l[k]).tr := by
  rw [GExpr.trs_map, List.getElem?_map, List.getElem?_eq_getElem h]; rfl
theorem GExpr.ind {A : GExpr → Prop} (h : ∀ v0 v1 v2 v3 v4 v5 v6, (∀ x ∈ v5, A x) → (∀ x ∈ v6, A (GArm.gBody x)) → A (.mk v0 v1 v2 v3 v4 v5 v6)) : ∀ e, A e := by
  have key : ∀ (N : Nat) (e : GExpr), SizeOf.sizeOf e < N → A e := by
    intro N
    induction N with
    | zero => intro e he; omega
    | succ N ih =>
      intro e he
      obtain ⟨v0, v1, v2, v3, v4, v5, v6⟩ := e
      refine h v0 v1 v2 v3 v4 v5 v6 (fun x hx => ih x ?_) (fun x hx => ih _ ?_)
      · have := List.sizeOf_lt_of_mem hx
        simp at he
        omega
      · have := List.sizeOf_lt_of_mem hx
        obtain ⟨y0, y1, y2⟩ := x
        simp at he this ⊢
        omega
  exact fun e => key _ e (Nat.lt_succ_self _)

inductive GSignature where
  | mk (name_ : ByteArray) (params_ : List GType) (result_ : GType) (hasdefault_ : Bool) (vars_ : List ByteArray) (body_ : GExpr)
def GSignature.tr : GSignature → List Tr
  | .mk v0 v1 v2 v3 v4 v5 => [.leaf (.string v0)] ++ ([.row 3 (GType.trs v1)] ++ (GType.tr v2 ++ ([.leaf (.bool v3)] ++ ([.row 1 (strTrs v4)] ++ (GExpr.tr v5 ++ ([]))))))
def GSignature.trs (l : List GSignature) : List (List Tr) := l.map GSignature.tr
theorem GSignature.trs_map (l : List GSignature) : GSignature.trs l = l.map GSignature.tr := rfl
theorem GSignature.trs_len (l : List GSignature) : (GSignature.trs l).length = l.length := by rw [GSignature.trs_map, List.length_map]
def GSignature.gName : GSignature → ByteArray
  | .mk v _ _ _ _ _ => v
@[simp] theorem GSignature.gName_mk (v0 : ByteArray) (v1 : List GType) (v2 : GType) (v3 : Bool) (v4 : List ByteArray) (v5 : GExpr) : GSignature.gName (.mk v0 v1 v2 v3 v4 v5) = v0 := rfl
def GSignature.gParams : GSignature → List GType
  | .mk _ v _ _ _ _ => v
@[simp] theorem GSignature.gParams_mk (v0 : ByteArray) (v1 : List GType) (v2 : GType) (v3 : Bool) (v4 : List ByteArray) (v5 : GExpr) : GSignature.gParams (.mk v0 v1 v2 v3 v4 v5) = v1 := rfl
def GSignature.gResult : GSignature → GType
  | .mk _ _ v _ _ _ => v
@[simp] theorem GSignature.gResult_mk (v0 : ByteArray) (v1 : List GType) (v2 : GType) (v3 : Bool) (v4 : List ByteArray) (v5 : GExpr) : GSignature.gResult (.mk v0 v1 v2 v3 v4 v5) = v2 := rfl
def GSignature.gHasDefault : GSignature → Bool
  | .mk _ _ _ v _ _ => v
@[simp] theorem GSignature.gHasDefault_mk (v0 : ByteArray) (v1 : List GType) (v2 : GType) (v3 : Bool) (v4 : List ByteArray) (v5 : GExpr) : GSignature.gHasDefault (.mk v0 v1 v2 v3 v4 v5) = v3 := rfl
def GSignature.gVars : GSignature → List ByteArray
  | .mk _ _ _ _ v _ => v
@[simp] theorem GSignature.gVars_mk (v0 : ByteArray) (v1 : List GType) (v2 : GType) (v3 : Bool) (v4 : List ByteArray) (v5 : GExpr) : GSignature.gVars (.mk v0 v1 v2 v3 v4 v5) = v4 := rfl
def GSignature.gBody : GSignature → GExpr
  | .mk _ _ _ _ _ v => v
@[simp] theorem GSignature.gBody_mk (v0 : ByteArray) (v1 : List GType) (v2 : GType) (v3 : Bool) (v4 : List ByteArray) (v5 : GExpr) : GSignature.gBody (.mk v0 v1 v2 v3 v4 v5) = v5 := rfl
theorem GSignature.tr_len (x : GSignature) : x.tr.length = 16 := by
  obtain ⟨v0, v1, v2, v3, v4, v5⟩ := x
  simp [GSignature.tr, GType.tr_len, GExpr.tr_len]
theorem GSignature.opened {w : World} {cs : List Value} {v0 : ByteArray} {v1 : List GType} {v2 : GType} {v3 : Bool} {v4 : List ByteArray} {v5 : GExpr} (h : RepL w (GSignature.tr (.mk v0 v1 v2 v3 v4 v5)) cs) :
    ∃ (a1 : Option Addr) (c1 : Nat) (x2 : List Value) (a4 : Option Addr) (c4 : Nat) (x5 : List Value), cs = [.string v0] ++ ([.slice a1 v1.length c1] ++ (x2 ++ ([.bool v3] ++ ([.slice a4 v4.length c4] ++ (x5 ++ ([])))))) ∧ LeafOk (.string v0) ∧ Rep w (.row 3 (GType.trs v1)) (.slice a1 v1.length c1) ∧ RepL w (GType.tr v2) x2 ∧ LeafOk (.bool v3) ∧ Rep w (.row 1 (strTrs v4)) (.slice a4 v4.length c4) ∧ RepL w (GExpr.tr v5) x5 := by
  obtain ⟨b0, r0, rfl, g0, n0⟩ := RepL.split h
  obtain ⟨y0, rfl⟩ := list1 g0.length.symm
  obtain ⟨rfl, k0⟩ := g0.1.leaf_eq
  obtain ⟨b1, r1, rfl, g1, n1⟩ := RepL.split n0
  obtain ⟨y1, rfl⟩ := list1 g1.length.symm
  obtain ⟨a1, c1, e1, -, -⟩ := g1.1.shape
  rw [GType.trs_len] at e1
  subst e1
  obtain ⟨b2, r2, rfl, g2, n2⟩ := RepL.split n1
  obtain ⟨b3, r3, rfl, g3, n3⟩ := RepL.split n2
  obtain ⟨y3, rfl⟩ := list1 g3.length.symm
  obtain ⟨rfl, k3⟩ := g3.1.leaf_eq
  obtain ⟨b4, r4, rfl, g4, n4⟩ := RepL.split n3
  obtain ⟨y4, rfl⟩ := list1 g4.length.symm
  obtain ⟨a4, c4, e4, -, -⟩ := g4.1.shape
  rw [strTrs_len] at e4
  subst e4
  obtain ⟨b5, r5, rfl, g5, n5⟩ := RepL.split n4
  obtain rfl := RepL.nil_eq n5
  exact ⟨a1, c1, b2, a4, c4, b5, rfl, k0, g1.1, g2, k3, g4.1, g5⟩

theorem GSignature.sz (l : List GSignature) : ∀ e ∈ GSignature.trs l, e.length = 16 := by
  intro e he
  rw [GSignature.trs_map] at he
  obtain ⟨x, -, rfl⟩ := List.mem_map.1 he
  exact GSignature.tr_len x
theorem GSignature.all {l : List GSignature} {Q : List Tr → Prop} (h : ∀ x ∈ l, Q x.tr) : ∀ e ∈ GSignature.trs l, Q e := by
  intro e he
  rw [GSignature.trs_map] at he
  obtain ⟨x, hx, rfl⟩ := List.mem_map.1 he
  exact h x hx
theorem GSignature.trs_get {l : List GSignature} {k : Nat} (h : k < l.length) : (GSignature.trs l)[k]? = some (l[k]).tr := by
  rw [GSignature.trs_map, List.getElem?_map, List.getElem?_eq_getElem h]; rfl
inductive GTrait where
  | mk (name_ : ByteArray) (supertraits_ : List ByteArray) (auto_ : Bool) (assoc_ : Bool) (signatures_ : List GSignature)
def GTrait.tr : GTrait → List Tr
  | .mk v0 v1 v2 v3 v4 => [.leaf (.string v0)] ++ ([.row 1 (strTrs v1)] ++ ([.leaf (.bool v2)] ++ ([.leaf (.bool v3)] ++ ([.row 16 (GSignature.trs v4)] ++ ([])))))
def GTrait.trs (l : List GTrait) : List (List Tr) := l.map GTrait.tr
theorem GTrait.trs_map (l : List GTrait) : GTrait.trs l = l.map GTrait.tr := rfl
theorem GTrait.trs_len (l : List GTrait) : (GTrait.trs l).length = l.length := by rw [GTrait.trs_map, List.length_map]
def GTrait.gName : GTrait → ByteArray
  | .mk v _ _ _ _ => v
@[simp] theorem GTrait.gName_mk (v0 : ByteArray) (v1 : List ByteArray) (v2 : Bool) (v3 : Bool) (v4 : List GSignature) : GTrait.gName (.mk v0 v1 v2 v3 v4) = v0 := rfl
def GTrait.gSupertraits : GTrait → List ByteArray
  | .mk _ v _ _ _ => v
@[simp] theorem GTrait.gSupertraits_mk (v0 : ByteArray) (v1 : List ByteArray) (v2 : Bool) (v3 : Bool) (v4 : List GSignature) : GTrait.gSupertraits (.mk v0 v1 v2 v3 v4) = v1 := rfl
def GTrait.gAuto : GTrait → Bool
  | .mk _ _ v _ _ => v
@[simp] theorem GTrait.gAuto_mk (v0 : ByteArray) (v1 : List ByteArray) (v2 : Bool) (v3 : Bool) (v4 : List GSignature) : GTrait.gAuto (.mk v0 v1 v2 v3 v4) = v2 := rfl
def GTrait.gAssoc : GTrait → Bool
  | .mk _ _ _ v _ => v
@[simp] theorem GTrait.gAssoc_mk (v0 : ByteArray) (v1 : List ByteArray) (v2 : Bool) (v3 : Bool) (v4 : List GSignature) : GTrait.gAssoc (.mk v0 v1 v2 v3 v4) = v3 := rfl
def GTrait.gSignatures : GTrait → List GSignature
  | .mk _ _ _ _ v => v
@[simp] theorem GTrait.gSignatures_mk (v0 : ByteArray) (v1 : List ByteArray) (v2 : Bool) (v3 : Bool) (v4 : List GSignature) : GTrait.gSignatures (.mk v0 v1 v2 v3 v4) = v4 := rfl
theorem GTrait.tr_len (x : GTrait) : x.tr.length = 5 := by
  obtain ⟨v0, v1, v2, v3, v4⟩ := x
  simp [GTrait.tr]
theorem GTrait.opened {w : World} {cs : List Value} {v0 : ByteArray} {v1 : List ByteArray} {v2 : Bool} {v3 : Bool} {v4 : List GSignature} (h : RepL w (GTrait.tr (.mk v0 v1 v2 v3 v4)) cs) :
    ∃ (a1 : Option Addr) (c1 : Nat) (a4 : Option Addr) (c4 : Nat), cs = [.string v0] ++ ([.slice a1 v1.length c1] ++ ([.bool v2] ++ ([.bool v3] ++ ([.slice a4 v4.length c4] ++ ([]))))) ∧ LeafOk (.string v0) ∧ Rep w (.row 1 (strTrs v1)) (.slice a1 v1.length c1) ∧ LeafOk (.bool v2) ∧ LeafOk (.bool v3) ∧ Rep w (.row 16 (GSignature.trs v4)) (.slice a4 v4.length c4) := by
  obtain ⟨b0, r0, rfl, g0, n0⟩ := RepL.split h
  obtain ⟨y0, rfl⟩ := list1 g0.length.symm
  obtain ⟨rfl, k0⟩ := g0.1.leaf_eq
  obtain ⟨b1, r1, rfl, g1, n1⟩ := RepL.split n0
  obtain ⟨y1, rfl⟩ := list1 g1.length.symm
  obtain ⟨a1, c1, e1, -, -⟩ := g1.1.shape
  rw [strTrs_len] at e1
  subst e1
  obtain ⟨b2, r2, rfl, g2, n2⟩ := RepL.split n1
  obtain ⟨y2, rfl⟩ := list1 g2.length.symm
  obtain ⟨rfl, k2⟩ := g2.1.leaf_eq
  obtain ⟨b3, r3, rfl, g3, n3⟩ := RepL.split n2
  obtain ⟨y3, rfl⟩ := list1 g3.length.symm
  obtain ⟨rfl, k3⟩ := g3.1.leaf_eq
  obtain ⟨b4, r4, rfl, g4, n4⟩ := RepL.split n3
  obtain ⟨y4, rfl⟩ := list1 g4.length.symm
  obtain ⟨a4, c4, e4, -, -⟩ := g4.1.shape
  rw [GSignature.trs_len] at e4
  subst e4
  obtain rfl := RepL.nil_eq n4
  exact ⟨a1, c1, a4, c4, rfl, k0, g1.1, k2, k3, g4.1⟩

theorem GTrait.sz (l : List GTrait) : ∀ e ∈ GTrait.trs l, e.length = 5 := by
  intro e he
  rw [GTrait.trs_map] at he
  obtain ⟨x, -, rfl⟩ := List.mem_map.1 he
  exact GTrait.tr_len x
theorem GTrait.all {l : List GTrait} {Q : List Tr → Prop} (h : ∀ x ∈ l, Q x.tr) : ∀ e ∈ GTrait.trs l, Q e := by
  intro e he
  rw [GTrait.trs_map] at he
  obtain ⟨x, hx, rfl⟩ := List.mem_map.1 he
  exact h x hx
theorem GTrait.trs_get {l : List GTrait} {k : Nat} (h : k < l.length) : (GTrait.trs l)[k]? = some (l[k]).tr := by
  rw [GTrait.trs_map, List.getElem?_map, List.getElem?_eq_getElem h]; rfl
inductive GConstructor where
  | mk (name_ : ByteArray) (fields_ : List GType)
def GConstructor.tr : GConstructor → List Tr
  | .mk v0 v1 => [.leaf (.string v0)] ++ ([.row 3 (GType.trs v1)] ++ ([]))
def GConstructor.trs (l : List GConstructor) : List (List Tr) := l.map GConstructor.tr
theorem GConstructor.trs_map (l : List GConstructor) : GConstructor.trs l = l.map GConstructor.tr := rfl
theorem GConstructor.trs_len (l : List GConstructor) : (GConstructor.trs l).length = l.length := by rw [GConstructor.trs_map, List.length_map]
def GConstructor.gName : GConstructor → ByteArray
  | .mk v _ => v
@[simp] theorem GConstructor.gName_mk (v0 : ByteArray) (v1 : List GType) : GConstructor.gName (.mk v0 v1) = v0 := rfl
def GConstructor.gFields : GConstructor → List GType
  | .mk _ v => v
@[simp] theorem GConstructor.gFields_mk (v0 : ByteArray) (v1 : List GType) : GConstructor.gFields (.mk v0 v1) = v1 := rfl
theorem GConstructor.tr_len (x : GConstructor) : x.tr.length = 2 := by
  obtain ⟨v0, v1⟩ := x
  simp [GConstructor.tr]
theorem GConstructor.opened {w : World} {cs : List Value} {v0 : ByteArray} {v1 : List GType} (h : RepL w (GConstructor.tr (.mk v0 v1)) cs) :
    ∃ (a1 : Option Addr) (c1 : Nat), cs = [.string v0] ++ ([.slice a1 v1.length c1] ++ ([])) ∧ LeafOk (.string v0) ∧ Rep w (.row 3 (GType.trs v1)) (.slice a1 v1.length c1) := by
  obtain ⟨b0, r0, rfl, g0, n0⟩ := RepL.split h
  obtain ⟨y0, rfl⟩ := list1 g0.length.symm
  obtain ⟨rfl, k0⟩ := g0.1.leaf_eq
  obtain ⟨b1, r1, rfl, g1, n1⟩ := RepL.split n0
  obtain ⟨y1, rfl⟩ := list1 g1.length.symm
  obtain ⟨a1, c1, e1, -, -⟩ := g1.1.shape
  rw [GType.trs_len] at e1
  subst e1
  obtain rfl := RepL.nil_eq n1
  exact ⟨a1, c1, rfl, k0, g1.1⟩

theorem GConstructor.sz (l : List GConstructor) : ∀ e ∈ GConstructor.trs l, e.length = 2 := by
  intro e he
  rw [GConstructor.trs_map] at he
  obtain ⟨x, -, rfl⟩ := List.mem_map.1 he
  exact GConstructor.tr_len x
theorem GConstructor.all {l : List GConstructor} {Q : List Tr → Prop} (h : ∀ x ∈ l, Q x.tr) : ∀ e ∈ GConstructor.trs l, Q e := by
  intro e he
  rw [GConstructor.trs_map] at he
  obtain ⟨x, hx, rfl⟩ := List.mem_map.1 he
  exact h x hx
theorem GConstructor.trs_get {l : List GConstructor} {k : Nat} (h : k < l.length) : (GConstructor.trs l)[k]? = some (l[k]).tr := by
  rw [GConstructor.trs_map, List.getElem?_map, List.getElem?_eq_getElem h]; rfl
inductive GDataType where
  | mk (name_ : ByteArray) (vars_ : List ByteArray) (constructors_ : List GConstructor)
def GDataType.tr : GDataType → List Tr
  | .mk v0 v1 v2 => [.leaf (.string v0)] ++ ([.row 1 (strTrs v1)] ++ ([.row 2 (GConstructor.trs v2)] ++ ([])))
def GDataType.trs (l : List GDataType) : List (List Tr) := l.map GDataType.tr
theorem GDataType.trs_map (l : List GDataType) : GDataType.trs l = l.map GDataType.tr := rfl
theorem GDataType.trs_len (l : List GDataType) : (GDataType.trs l).length = l.length := by rw [GDataType.trs_map, List.length_map]
def GDataType.gName : GDataType → ByteArray
  | .mk v _ _ => v
@[simp] theorem GDataType.gName_mk (v0 : ByteArray) (v1 : List ByteArray) (v2 : List GConstructor) : GDataType.gName (.mk v0 v1 v2) = v0 := rfl
def GDataType.gVars : GDataType → List ByteArray
  | .mk _ v _ => v
@[simp] theorem GDataType.gVars_mk (v0 : ByteArray) (v1 : List ByteArray) (v2 : List GConstructor) : GDataType.gVars (.mk v0 v1 v2) = v1 := rfl
def GDataType.gConstructors : GDataType → List GConstructor
  | .mk _ _ v => v
@[simp] theorem GDataType.gConstructors_mk (v0 : ByteArray) (v1 : List ByteArray) (v2 : List GConstructor) : GDataType.gConstructors (.mk v0 v1 v2) = v2 := rfl
theorem GDataType.tr_len (x : GDataType) : x.tr.length = 3 := by
  obtain ⟨v0, v1, v2⟩ := x
  simp [GDataType.tr]
theorem GDataType.opened {w : World} {cs : List Value} {v0 : ByteArray} {v1 : List ByteArray} {v2 : List GConstructor} (h : RepL w (GDataType.tr (.mk v0 v1 v2)) cs) :
    ∃ (a1 : Option Addr) (c1 : Nat) (a2 : Option Addr) (c2 : Nat), cs = [.string v0] ++ ([.slice a1 v1.length c1] ++ ([.slice a2 v2.length c2] ++ ([]))) ∧ LeafOk (.string v0) ∧ Rep w (.row 1 (strTrs v1)) (.slice a1 v1.length c1) ∧ Rep w (.row 2 (GConstructor.trs v2)) (.slice a2 v2.length c2) := by
  obtain ⟨b0, r0, rfl, g0, n0⟩ := RepL.split h
  obtain ⟨y0, rfl⟩ := list1 g0.length.symm
  obtain ⟨rfl, k0⟩ := g0.1.leaf_eq
  obtain ⟨b1, r1, rfl, g1, n1⟩ := RepL.split n0
  obtain ⟨y1, rfl⟩ := list1 g1.length.symm
  obtain ⟨a1, c1, e1, -, -⟩ := g1.1.shape
  rw [strTrs_len] at e1
  subst e1
  obtain ⟨b2, r2, rfl, g2, n2⟩ := RepL.split n1
  obtain ⟨y2, rfl⟩ := list1 g2.length.symm
  obtain ⟨a2, c2, e2, -, -⟩ := g2.1.shape
  rw [GConstructor.trs_len] at e2
  subst e2
  obtain rfl := RepL.nil_eq n2
  exact ⟨a1, c1, a2, c2, rfl, k0, g1.1, g2.1⟩

theorem GDataType.sz (l : List GDataType) : ∀ e ∈ GDataType.trs l, e.length = 3 := by
  intro e he
  rw [GDataType.trs_map] at he
  obtain ⟨x, -, rfl⟩ := List.mem_map.1 he
  exact GDataType.tr_len x
theorem GDataType.all {l : List GDataType} {Q : List Tr → Prop} (h : ∀ x ∈ l, Q x.tr) : ∀ e ∈ GDataType.trs l, Q e := by
  intro e he
  rw [GDataType.trs_map] at he
  obtain ⟨x, hx, rfl⟩ := List.mem_map.1 he
  exact h x hx
theorem GDataType.trs_get {l : List GDataType} {k : Nat} (h : k < l.length) : (GDataType.trs l)[k]? = some (l[k]).tr := by
  rw [GDataType.trs_map, List.getElem?_map, List.getElem?_eq_getElem h]; rfl
inductive GBound where
  | mk (trait_ : ByteArray) (type_ : GType)
def GBound.tr : GBound → List Tr
  | .mk v0 v1 => [.leaf (.string v0)] ++ (GType.tr v1 ++ ([]))
def GBound.trs (l : List GBound) : List (List Tr) := l.map GBound.tr
theorem GBound.trs_map (l : List GBound) : GBound.trs l = l.map GBound.tr := rfl
theorem GBound.trs_len (l : List GBound) : (GBound.trs l).length = l.length := by rw [GBound.trs_map, List.length_map]
def GBound.gTrait : GBound → ByteArray
  | .mk v _ => v
@[simp] theorem GBound.gTrait_mk (v0 : ByteArray) (v1 : GType) : GBound.gTrait (.mk v0 v1) = v0 := rfl
def GBound.gType : GBound → GType
  | .mk _ v => v
@[simp] theorem GBound.gType_mk (v0 : ByteArray) (v1 : GType) : GBound.gType (.mk v0 v1) = v1 := rfl
theorem GBound.tr_len (x : GBound) : x.tr.length = 4 := by
  obtain ⟨v0, v1⟩ := x
  simp [GBound.tr, GType.tr_len]
theorem GBound.opened {w : World} {cs : List Value} {v0 : ByteArray} {v1 : GType} (h : RepL w (GBound.tr (.mk v0 v1)) cs) :
    ∃ (x1 : List Value), cs = [.string v0] ++ (x1 ++ ([])) ∧ LeafOk (.string v0) ∧ RepL w (GType.tr v1) x1 := by
  obtain ⟨b0, r0, rfl, g0, n0⟩ := RepL.split h
  obtain ⟨y0, rfl⟩ := list1 g0.length.symm
  obtain ⟨rfl, k0⟩ := g0.1.leaf_eq
  obtain ⟨b1, r1, rfl, g1, n1⟩ := RepL.split n0
  obtain rfl := RepL.nil_eq n1
  exact ⟨b1, rfl, k0, g1⟩

theorem GBound.sz (l : List GBound) : ∀ e ∈ GBound.trs l, e.length = 4 := by
  intro e he
  rw [GBound.trs_map] at he
  obtain ⟨x, -, rfl⟩ := List.mem_map.1 he
  exact GBound.tr_len x
theorem GBound.all {l : List GBound} {Q : List Tr → Prop} (h : ∀ x ∈ l, Q x.tr) : ∀ e ∈ GBound.trs l, Q e := by
  intro e he
  rw [GBound.trs_map] at he
  obtain ⟨x, hx, rfl⟩ := List.mem_map.1 he
  exact h x hx
theorem GBound.trs_get {l : List GBound} {k : Nat} (h : k < l.length) : (GBound.trs l)[k]? = some (l[k]).tr := by
  rw [GBound.trs_map, List.getElem?_map, List.getElem?_eq_getElem h]; rfl
inductive GMethod where
  | mk (name_ : ByteArray) (vars_ : List ByteArray) (body_ : GExpr)
def GMethod.tr : GMethod → List Tr
  | .mk v0 v1 v2 => [.leaf (.string v0)] ++ ([.row 1 (strTrs v1)] ++ (GExpr.tr v2 ++ ([])))
def GMethod.trs (l : List GMethod) : List (List Tr) := l.map GMethod.tr
theorem GMethod.trs_map (l : List GMethod) : GMethod.trs l = l.map GMethod.tr := rfl
theorem GMethod.trs_len (l : List GMethod) : (GMethod.trs l).length = l.length := by rw [GMethod.trs_map, List.length_map]
def GMethod.gName : GMethod → ByteArray
  | .mk v _ _ => v
@[simp] theorem GMethod.gName_mk (v0 : ByteArray) (v1 : List ByteArray) (v2 : GExpr) : GMethod.gName (.mk v0 v1 v2) = v0 := rfl
def GMethod.gVars : GMethod → List ByteArray
  | .mk _ v _ => v
@[simp] theorem GMethod.gVars_mk (v0 : ByteArray) (v1 : List ByteArray) (v2 : GExpr) : GMethod.gVars (.mk v0 v1 v2) = v1 := rfl
def GMethod.gBody : GMethod → GExpr
  | .mk _ _ v => v
@[simp] theorem GMethod.gBody_mk (v0 : ByteArray) (v1 : List ByteArray) (v2 : GExpr) : GMethod.gBody (.mk v0 v1 v2) = v2 := rfl
theorem GMethod.tr_len (x : GMethod) : x.tr.length = 11 := by
  obtain ⟨v0, v1, v2⟩ := x
  simp [GMethod.tr, GExpr.tr_len]
theorem GMethod.opened {w : World} {cs : List Value} {v0 : ByteArray} {v1 : List ByteArray} {v2 : GExpr} (h : RepL w (GMethod.tr (.mk v0 v1 v2)) cs) :
    ∃ (a1 : Option Addr) (c1 : Nat) (x2 : List Value), cs = [.string v0] ++ ([.slice a1 v1.length c1] ++ (x2 ++ ([]))) ∧ LeafOk (.string v0) ∧ Rep w (.row 1 (strTrs v1)) (.slice a1 v1.length c1) ∧ RepL w (GExpr.tr v2) x2 := by
  obtain ⟨b0, r0, rfl, g0, n0⟩ := RepL.split h
  obtain ⟨y0, rfl⟩ := list1 g0.length.symm
  obtain ⟨rfl, k0⟩ := g0.1.leaf_eq
  obtain ⟨b1, r1, rfl, g1, n1⟩ := RepL.split n0
  obtain ⟨y1, rfl⟩ := list1 g1.length.symm
  obtain ⟨a1, c1, e1, -, -⟩ := g1.1.shape
  rw [strTrs_len] at e1
  subst e1
  obtain ⟨b2, r2, rfl, g2, n2⟩ := RepL.split n1
  obtain rfl := RepL.nil_eq n2
  exact ⟨a1, c1, b2, rfl, k0, g1.1, g2⟩

theorem GMethod.sz (l : List GMethod) : ∀ e ∈ GMethod.trs l, e.length = 11 := by
  intro e he
  rw [GMethod.trs_map] at he
  obtain ⟨x, -, rfl⟩ := List.mem_map.1 he
  exact GMethod.tr_len x
theorem GMethod.all {l : List GMethod} {Q : List Tr → Prop} (h : ∀ x ∈ l, Q x.tr) : ∀ e ∈ GMethod.trs l, Q e := by
  intro e he
  rw [GMethod.trs_map] at he
  obtain ⟨x, hx, rfl⟩ := List.mem_map.1 he
  exact h x hx
theorem GMethod.trs_get {l : List GMethod} {k : Nat} (h : k < l.length) : (GMethod.trs l)[k]? = some (l[k]).tr := by
  rw [GMethod.trs_map, List.getElem?_map, List.getElem?_eq_getElem h]; rfl
inductive GInstance where
  | mk (trait_ : ByteArray) (vars_ : List ByteArray) (head_ : GType) (where_ : List GBound) (default_ : Bool) (hasassoc_ : Bool) (assoc_ : GType) (methods_ : List GMethod)
def GInstance.tr : GInstance → List Tr
  | .mk v0 v1 v2 v3 v4 v5 v6 v7 => [.leaf (.string v0)] ++ ([.row 1 (strTrs v1)] ++ (GType.tr v2 ++ ([.row 4 (GBound.trs v3)] ++ ([.leaf (.bool v4)] ++ ([.leaf (.bool v5)] ++ (GType.tr v6 ++ ([.row 11 (GMethod.trs v7)] ++ ([]))))))))
def GInstance.trs (l : List GInstance) : List (List Tr) := l.map GInstance.tr
theorem GInstance.trs_map (l : List GInstance) : GInstance.trs l = l.map GInstance.tr := rfl
theorem GInstance.trs_len (l : List GInstance) : (GInstance.trs l).length = l.length := by rw [GInstance.trs_map, List.length_map]
def GInstance.gTrait : GInstance → ByteArray
  | .mk v _ _ _ _ _ _ _ => v
@[simp] theorem GInstance.gTrait_mk (v0 : ByteArray) (v1 : List ByteArray) (v2 : GType) (v3 : List GBound) (v4 : Bool) (v5 : Bool) (v6 : GType) (v7 : List GMethod) : GInstance.gTrait (.mk v0 v1 v2 v3 v4 v5 v6 v7) = v0 := rfl
def GInstance.gVars : GInstance → List ByteArray
  | .mk _ v _ _ _ _ _ _ => v
@[simp] theorem GInstance.gVars_mk (v0 : ByteArray) (v1 : List ByteArray) (v2 : GType) (v3 : List GBound) (v4 : Bool) (v5 : Bool) (v6 : GType) (v7 : List GMethod) : GInstance.gVars (.mk v0 v1 v2 v3 v4 v5 v6 v7) = v1 := rfl
def GInstance.gHead : GInstance → GType
  | .mk _ _ v _ _ _ _ _ => v
@[simp] theorem GInstance.gHead_mk (v0 : ByteArray) (v1 : List ByteArray) (v2 : GType) (v3 : List GBound) (v4 : Bool) (v5 : Bool) (v6 : GType) (v7 : List GMethod) : GInstance.gHead (.mk v0 v1 v2 v3 v4 v5 v6 v7) = v2 := rfl
def GInstance.gWhere : GInstance → List GBound
  | .mk _ _ _ v _ _ _ _ => v
@[simp] theorem GInstance.gWhere_mk (v0 : ByteArray) (v1 : List ByteArray) (v2 : GType) (v3 : List GBound) (v4 : Bool) (v5 : Bool) (v6 : GType) (v7 : List GMethod) : GInstance.gWhere (.mk v0 v1 v2 v3 v4 v5 v6 v7) = v3 := rfl
def GInstance.gDefault : GInstance → Bool
  | .mk _ _ _ _ v _ _ _ => v
@[simp] theorem GInstance.gDefault_mk (v0 : ByteArray) (v1 : List ByteArray) (v2 : GType) (v3 : List GBound) (v4 : Bool) (v5 : Bool) (v6 : GType) (v7 : List GMethod) : GInstance.gDefault (.mk v0 v1 v2 v3 v4 v5 v6 v7) = v4 := rfl
def GInstance.gHasAssoc : GInstance → Bool
  | .mk _ _ _ _ _ v _ _ => v
@[simp] theorem GInstance.gHasAssoc_mk (v0 : ByteArray) (v1 : List ByteArray) (v2 : GType) (v3 : List GBound) (v4 : Bool) (v5 : Bool) (v6 : GType) (v7 : List GMethod) : GInstance.gHasAssoc (.mk v0 v1 v2 v3 v4 v5 v6 v7) = v5 := rfl
def GInstance.gAssoc : GInstance → GType
  | .mk _ _ _ _ _ _ v _ => v
@[simp] theorem GInstance.gAssoc_mk (v0 : ByteArray) (v1 : List ByteArray) (v2 : GType) (v3 : List GBound) (v4 : Bool) (v5 : Bool) (v6 : GType) (v7 : List GMethod) : GInstance.gAssoc (.mk v0 v1 v2 v3 v4 v5 v6 v7) = v6 := rfl
def GInstance.gMethods : GInstance → List GMethod
  | .mk _ _ _ _ _ _ _ v => v
@[simp] theorem GInstance.gMethods_mk (v0 : ByteArray) (v1 : List ByteArray) (v2 : GType) (v3 : List GBound) (v4 : Bool) (v5 : Bool) (v6 : GType) (v7 : List GMethod) : GInstance.gMethods (.mk v0 v1 v2 v3 v4 v5 v6 v7) = v7 := rfl
theorem GInstance.tr_len (x : GInstance) : x.tr.length = 12 := by
  obtain ⟨v0, v1, v2, v3, v4, v5, v6, v7⟩ := x
  simp [GInstance.tr, GType.tr_len, GType.tr_len]
theorem GInstance.opened {w : World} {cs : List Value} {v0 : ByteArray} {v1 : List ByteArray} {v2 : GType} {v3 : List GBound} {v4 : Bool} {v5 : Bool} {v6 : GType} {v7 : List GMethod} (h : RepL w (GInstance.tr (.mk v0 v1 v2 v3 v4 v5 v6 v7)) cs) :
    ∃ (a1 : Option Addr) (c1 : Nat) (x2 : List Value) (a3 : Option Addr) (c3 : Nat) (x6 : List Value) (a7 : Option Addr) (c7 : Nat), cs = [.string v0] ++ ([.slice a1 v1.length c1] ++ (x2 ++ ([.slice a3 v3.length c3] ++ ([.bool v4] ++ ([.bool v5] ++ (x6 ++ ([.slice a7 v7.length c7] ++ ([])))))))) ∧ LeafOk (.string v0) ∧ Rep w (.row 1 (strTrs v1)) (.slice a1 v1.length c1) ∧ RepL w (GType.tr v2) x2 ∧ Rep w (.row 4 (GBound.trs v3)) (.slice a3 v3.length c3) ∧ LeafOk (.bool v4) ∧ LeafOk (.bool v5) ∧ RepL w (GType.tr v6) x6 ∧ Rep w (.row 11 (GMethod.trs v7)) (.slice a7 v7.length c7) := by
  obtain ⟨b0, r0, rfl, g0, n0⟩ := RepL.split h
  obtain ⟨y0, rfl⟩ := list1 g0.length.symm
  obtain ⟨rfl, k0⟩ := g0.1.leaf_eq
  obtain ⟨b1, r1, rfl, g1, n1⟩ := RepL.split n0
  obtain ⟨y1, rfl⟩ := list1 g1.length.symm
  obtain ⟨a1, c1, e1, -, -⟩ := g1.1.shape
  rw [strTrs_len] at e1
  subst e1
  obtain ⟨b2, r2, rfl, g2, n2⟩ := RepL.split n1
  obtain ⟨b3, r3, rfl, g3, n3⟩ := RepL.split n2
  obtain ⟨y3, rfl⟩ := list1 g3.length.symm
  obtain ⟨a3, c3, e3, -, -⟩ := g3.1.shape
  rw [GBound.trs_len] at e3
  subst e3
  obtain ⟨b4, r4, rfl, g4, n4⟩ := RepL.split n3
  obtain ⟨y4, rfl⟩ := list1 g4.length.symm
  obtain ⟨rfl, k4⟩ := g4.1.leaf_eq
  obtain ⟨b5, r5, rfl, g5, n5⟩ := RepL.split n4
  obtain ⟨y5, rfl⟩ := list1 g5.length.symm
  obtain ⟨rfl, k5⟩ := g5.1.leaf_eq
  obtain ⟨b6, r6, rfl, g6, n6⟩ := RepL.split n5
  obtain ⟨b7, r7, rfl, g7, n7⟩ := RepL.split n6
  obtain ⟨y7, rfl⟩ := list1 g7.length.symm
  obtain ⟨a7, c7, e7, -, -⟩ := g7.1.shape
  rw [GMethod.trs_len] at e7
  subst e7
  obtain rfl := RepL.nil_eq n7
  exact ⟨a1, c1, b2, a3, c3, b6, a7, c7, rfl, k0, g1.1, g2, g3.1, k4, k5, g6, g7.1⟩

theorem GInstance.sz (l : List GInstance) : ∀ e ∈ GInstance.trs l, e.length = 12 := by
  intro e he
  rw [GInstance.trs_map] at he
  obtain ⟨x, -, rfl⟩ := List.mem_map.1 he
  exact GInstance.tr_len x
theorem GInstance.all {l : List GInstance} {Q : List Tr → Prop} (h : ∀ x ∈ l, Q x.tr) : ∀ e ∈ GInstance.trs l, Q e := by
  intro e he
  rw [GInstance.trs_map] at he
  obtain ⟨x, hx, rfl⟩ := List.mem_map.1 he
  exact h x hx
theorem GInstance.trs_get {l : List GInstance} {k : Nat} (h : k < l.length) : (GInstance.trs l)[k]? = some (l[k]).tr := by
  rw [GInstance.trs_map, List.getElem?_map, List.getElem?_eq_getElem h]; rfl
inductive GParam where
  | mk (name_ : ByteArray) (type_ : GType)
def GParam.tr : GParam → List Tr
  | .mk v0 v1 => [.leaf (.string v0)] ++ (GType.tr v1 ++ ([]))
def GParam.trs (l : List GParam) : List (List Tr) := l.map GParam.tr
theorem GParam.trs_map (l : List GParam) : GParam.trs l = l.map GParam.tr := rfl
theorem GParam.trs_len (l : List GParam) : (GParam.trs l).length = l.length := by rw [GParam.trs_map, List.length_map]
def GParam.gName : GParam → ByteArray
  | .mk v _ => v
@[simp] theorem GParam.gName_mk (v0 : ByteArray) (v1 : GType) : GParam.gName (.mk v0 v1) = v0 := rfl
def GParam.gType : GParam → GType
  | .mk _ v => v
@[simp] theorem GParam.gType_mk (v0 : ByteArray) (v1 : GType) : GParam.gType (.mk v0 v1) = v1 := rfl
theorem GParam.tr_len (x : GParam) : x.tr.length = 4 := by
  obtain ⟨v0, v1⟩ := x
  simp [GParam.tr, GType.tr_len]
theorem GParam.opened {w : World} {cs : List Value} {v0 : ByteArray} {v1 : GType} (h : RepL w (GParam.tr (.mk v0 v1)) cs) :
    ∃ (x1 : List Value), cs = [.string v0] ++ (x1 ++ ([])) ∧ LeafOk (.string v0) ∧ RepL w (GType.tr v1) x1 := by
  obtain ⟨b0, r0, rfl, g0, n0⟩ := RepL.split h
  obtain ⟨y0, rfl⟩ := list1 g0.length.symm
  obtain ⟨rfl, k0⟩ := g0.1.leaf_eq
  obtain ⟨b1, r1, rfl, g1, n1⟩ := RepL.split n0
  obtain rfl := RepL.nil_eq n1
  exact ⟨b1, rfl, k0, g1⟩

theorem GParam.sz (l : List GParam) : ∀ e ∈ GParam.trs l, e.length = 4 := by
  intro e he
  rw [GParam.trs_map] at he
  obtain ⟨x, -, rfl⟩ := List.mem_map.1 he
  exact GParam.tr_len x
theorem GParam.all {l : List GParam} {Q : List Tr → Prop} (h : ∀ x ∈ l, Q x.tr) : ∀ e ∈ GParam.trs l, Q e := by
  intro e he
  rw [GParam.trs_map] at he
  obtain ⟨x, hx, rfl⟩ := List.mem_map.1 he
  exact h x hx
theorem GParam.trs_get {l : List GParam} {k : Nat} (h : k < l.length) : (GParam.trs l)[k]? = some (l[k]).tr := by
  rw [GParam.trs_map, List.getElem?_map, List.getElem?_eq_getElem h]; rfl
inductive GFunction where
  | mk (name_ : ByteArray) (vars_ : List ByteArray) (where_ : List GBound) (params_ : List GParam) (result_ : GType) (body_ : GExpr)
def GFunction.tr : GFunction → List Tr
  | .mk v0 v1 v2 v3 v4 v5 => [.leaf (.string v0)] ++ ([.row 1 (strTrs v1)] ++ ([.row 4 (GBound.trs v2)] ++ ([.row 4 (GParam.trs v3)] ++ (GType.tr v4 ++ (GExpr.tr v5 ++ ([]))))))
def GFunction.trs (l : List GFunction) : List (List Tr) := l.map GFunction.tr
theorem GFunction.trs_map (l : List GFunction) : GFunction.trs l = l.map GFunction.tr := rfl
theorem GFunction.trs_len (l : List GFunction) : (GFunction.trs l).length = l.length := by rw [GFunction.trs_map, List.length_map]
def GFunction.gName : GFunction → ByteArray
  | .mk v _ _ _ _ _ => v
@[simp] theorem GFunction.gName_mk (v0 : ByteArray) (v1 : List ByteArray) (v2 : List GBound) (v3 : List GParam) (v4 : GType) (v5 : GExpr) : GFunction.gName (.mk v0 v1 v2 v3 v4 v5) = v0 := rfl
def GFunction.gVars : GFunction → List ByteArray
  | .mk _ v _ _ _ _ => v
@[simp] theorem GFunction.gVars_mk (v0 : ByteArray) (v1 : List ByteArray) (v2 : List GBound) (v3 : List GParam) (v4 : GType) (v5 : GExpr) : GFunction.gVars (.mk v0 v1 v2 v3 v4 v5) = v1 := rfl
def GFunction.gWhere : GFunction → List GBound
  | .mk _ _ v _ _ _ => v
@[simp] theorem GFunction.gWhere_mk (v0 : ByteArray) (v1 : List ByteArray) (v2 : List GBound) (v3 : List GParam) (v4 : GType) (v5 : GExpr) : GFunction.gWhere (.mk v0 v1 v2 v3 v4 v5) = v2 := rfl
def GFunction.gParams : GFunction → List GParam
  | .mk _ _ _ v _ _ => v
@[simp] theorem GFunction.gParams_mk (v0 : ByteArray) (v1 : List ByteArray) (v2 : List GBound) (v3 : List GParam) (v4 : GType) (v5 : GExpr) : GFunction.gParams (.mk v0 v1 v2 v3 v4 v5) = v3 := rfl
def GFunction.gResult : GFunction → GType
  | .mk _ _ _ _ v _ => v
@[simp] theorem GFunction.gResult_mk (v0 : ByteArray) (v1 : List ByteArray) (v2 : List GBound) (v3 : List GParam) (v4 : GType) (v5 : GExpr) : GFunction.gResult (.mk v0 v1 v2 v3 v4 v5) = v4 := rfl
def GFunction.gBody : GFunction → GExpr
  | .mk _ _ _ _ _ v => v
@[simp] theorem GFunction.gBody_mk (v0 : ByteArray) (v1 : List ByteArray) (v2 : List GBound) (v3 : List GParam) (v4 : GType) (v5 : GExpr) : GFunction.gBody (.mk v0 v1 v2 v3 v4 v5) = v5 := rfl
theorem GFunction.tr_len (x : GFunction) : x.tr.length = 16 := by
  obtain ⟨v0, v1, v2, v3, v4, v5⟩ := x
  simp [GFunction.tr, GType.tr_len, GExpr.tr_len]
theorem GFunction.opened {w : World} {cs : List Value} {v0 : ByteArray} {v1 : List ByteArray} {v2 : List GBound} {v3 : List GParam} {v4 : GType} {v5 : GExpr} (h : RepL w (GFunction.tr (.mk v0 v1 v2 v3 v4 v5)) cs) :
    ∃ (a1 : Option Addr) (c1 : Nat) (a2 : Option Addr) (c2 : Nat) (a3 : Option Addr) (c3 : Nat) (x4 : List Value) (x5 : List Value), cs = [.string v0] ++ ([.slice a1 v1.length c1] ++ ([.slice a2 v2.length c2] ++ ([.slice a3 v3.length c3] ++ (x4 ++ (x5 ++ ([])))))) ∧ LeafOk (.string v0) ∧ Rep w (.row 1 (strTrs v1)) (.slice a1 v1.length c1) ∧ Rep w (.row 4 (GBound.trs v2)) (.slice a2 v2.length c2) ∧ Rep w (.row 4 (GParam.trs v3)) (.slice a3 v3.length c3) ∧ RepL w (GType.tr v4) x4 ∧ RepL w (GExpr.tr v5) x5 := by
  obtain ⟨b0, r0, rfl, g0, n0⟩ := RepL.split h
  obtain ⟨y0, rfl⟩ := list1 g0.length.symm
  obtain ⟨rfl, k0⟩ := g0.1.leaf_eq
  obtain ⟨b1, r1, rfl, g1, n1⟩ := RepL.split n0
  obtain ⟨y1, rfl⟩ := list1 g1.length.symm
  obtain ⟨a1, c1, e1, -, -⟩ := g1.1.shape
  rw [strTrs_len] at e1
  subst e1
  obtain ⟨b2, r2, rfl, g2, n2⟩ := RepL.split n1
  obtain ⟨y2, rfl⟩ := list1 g2.length.symm
  obtain ⟨a2, c2, e2, -, -⟩ := g2.1.shape
  rw [GBound.trs_len] at e2
  subst e2
  obtain ⟨b3, r3, rfl, g3, n3⟩ := RepL.split n2
  obtain ⟨y3, rfl⟩ := list1 g3.length.symm
  obtain ⟨a3, c3, e3, -, -⟩ := g3.1.shape
  rw [GParam.trs_len] at e3
  subst e3
  obtain ⟨b4, r4, rfl, g4, n4⟩ := RepL.split n3
  obtain ⟨b5, r5, rfl, g5, n5⟩ := RepL.split n4
  obtain rfl := RepL.nil_eq n5
  exact ⟨a1, c1, a2, c2, a3, c3, b4, b5, rfl, k0, g1.1, g2.1, g3.1, g4, g5⟩

theorem GFunction.sz (l : List GFunction) : ∀ e ∈ GFunction.trs l, e.length = 16 := by
  intro e he
  rw [GFunction.trs_map] at he
  obtain ⟨x, -, rfl⟩ := List.mem_map.1 he
  exact GFunction.tr_len x
theorem GFunction.all {l : List GFunction} {Q : List Tr → Prop} (h : ∀ x ∈ l, Q x.tr) : ∀ e ∈ GFunction.trs l, Q e := by
  intro e he
  rw [GFunction.trs_map] at he
  obtain ⟨x, hx, rfl⟩ := List.mem_map.1 he
  exact h x hx
theorem GFunction.trs_get {l : List GFunction} {k : Nat} (h : k < l.length) : (GFunction.trs l)[k]? = some (l[k]).tr := by
  rw [GFunction.trs_map, List.getElem?_map, List.getElem?_eq_getElem h]; rfl
inductive GPackage where
  | mk (name_ : ByteArray) (deps_ : List ByteArray) (traits_ : List GTrait) (datatypes_ : List GDataType) (instances_ : List GInstance) (functions_ : List GFunction)
def GPackage.tr : GPackage → List Tr
  | .mk v0 v1 v2 v3 v4 v5 => [.leaf (.string v0)] ++ ([.row 1 (strTrs v1)] ++ ([.row 5 (GTrait.trs v2)] ++ ([.row 3 (GDataType.trs v3)] ++ ([.row 12 (GInstance.trs v4)] ++ ([.row 16 (GFunction.trs v5)] ++ ([]))))))
def GPackage.trs (l : List GPackage) : List (List Tr) := l.map GPackage.tr
theorem GPackage.trs_map (l : List GPackage) : GPackage.trs l = l.map GPackage.tr := rfl
theorem GPackage.trs_len (l : List GPackage) : (GPackage.trs l).length = l.length := by rw [GPackage.trs_map, List.length_map]
def GPackage.gName : GPackage → ByteArray
  | .mk v _ _ _ _ _ => v
@[simp] theorem GPackage.gName_mk (v0 : ByteArray) (v1 : List ByteArray) (v2 : List GTrait) (v3 : List GDataType) (v4 : List GInstance) (v5 : List GFunction) : GPackage.gName (.mk v0 v1 v2 v3 v4 v5) = v0 := rfl
def GPackage.gDeps : GPackage → List ByteArray
  | .mk _ v _ _ _ _ => v
@[simp] theorem GPackage.gDeps_mk (v0 : ByteArray) (v1 : List ByteArray) (v2 : List GTrait) (v3 : List GDataType) (v4 : List GInstance) (v5 : List GFunction) : GPackage.gDeps (.mk v0 v1 v2 v3 v4 v5) = v1 := rfl
def GPackage.gTraits : GPackage → List GTrait
  | .mk _ _ v _ _ _ => v
@[simp] theorem GPackage.gTraits_mk (v0 : ByteArray) (v1 : List ByteArray) (v2 : List GTrait) (v3 : List GDataType) (v4 : List GInstance) (v5 : List GFunction) : GPackage.gTraits (.mk v0 v1 v2 v3 v4 v5) = v2 := rfl
def GPackage.gDataTypes : GPackage → List GDataType
  | .mk _ _ _ v _ _ => v
@[simp] theorem GPackage.gDataTypes_mk (v0 : ByteArray) (v1 : List ByteArray) (v2 : List GTrait) (v3 : List GDataType) (v4 : List GInstance) (v5 : List GFunction) : GPackage.gDataTypes (.mk v0 v1 v2 v3 v4 v5) = v3 := rfl
def GPackage.gInstances : GPackage → List GInstance
  | .mk _ _ _ _ v _ => v
@[simp] theorem GPackage.gInstances_mk (v0 : ByteArray) (v1 : List ByteArray) (v2 : List GTrait) (v3 : List GDataType) (v4 : List GInstance) (v5 : List GFunction) : GPackage.gInstances (.mk v0 v1 v2 v3 v4 v5) = v4 := rfl
def GPackage.gFunctions : GPackage → List GFunction
  | .mk _ _ _ _ _ v => v
@[simp] theorem GPackage.gFunctions_mk (v0 : ByteArray) (v1 : List ByteArray) (v2 : List GTrait) (v3 : List GDataType) (v4 : List GInstance) (v5 : List GFunction) : GPackage.gFunctions (.mk v0 v1 v2 v3 v4 v5) = v5 := rfl
theorem GPackage.tr_len (x : GPackage) : x.tr.length = 6 := by
  obtain ⟨v0, v1, v2, v3, v4, v5⟩ := x
  simp [GPackage.tr]
theorem GPackage.opened {w : World} {cs : List Value} {v0 : ByteArray} {v1 : List ByteArray} {v2 : List GTrait} {v3 : List GDataType} {v4 : List GInstance} {v5 : List GFunction} (h : RepL w (GPackage.tr (.mk v0 v1 v2 v3 v4 v5)) cs) :
    ∃ (a1 : Option Addr) (c1 : Nat) (a2 : Option Addr) (c2 : Nat) (a3 : Option Addr) (c3 : Nat) (a4 : Option Addr) (c4 : Nat) (a5 : Option Addr) (c5 : Nat), cs = [.string v0] ++ ([.slice a1 v1.length c1] ++ ([.slice a2 v2.length c2] ++ ([.slice a3 v3.length c3] ++ ([.slice a4 v4.length c4] ++ ([.slice a5 v5.length c5] ++ ([])))))) ∧ LeafOk (.string v0) ∧ Rep w (.row 1 (strTrs v1)) (.slice a1 v1.length c1) ∧ Rep w (.row 5 (GTrait.trs v2)) (.slice a2 v2.length c2) ∧ Rep w (.row 3 (GDataType.trs v3)) (.slice a3 v3.length c3) ∧ Rep w (.row 12 (GInstance.trs v4)) (.slice a4 v4.length c4) ∧ Rep w (.row 16 (GFunction.trs v5)) (.slice a5 v5.length c5) := by
  obtain ⟨b0, r0, rfl, g0, n0⟩ := RepL.split h
  obtain ⟨y0, rfl⟩ := list1 g0.length.symm
  obtain ⟨rfl, k0⟩ := g0.1.leaf_eq
  obtain ⟨b1, r1, rfl, g1, n1⟩ := RepL.split n0
  obtain ⟨y1, rfl⟩ := list1 g1.length.symm
  obtain ⟨a1, c1, e1, -, -⟩ := g1.1.shape
  rw [strTrs_len] at e1
  subst e1
  obtain ⟨b2, r2, rfl, g2, n2⟩ := RepL.split n1
  obtain ⟨y2, rfl⟩ := list1 g2.length.symm
  obtain ⟨a2, c2, e2, -, -⟩ := g2.1.shape
  rw [GTrait.trs_len] at e2
  subst e2
  obtain ⟨b3, r3, rfl, g3, n3⟩ := RepL.split n2
  obtain ⟨y3, rfl⟩ := list1 g3.length.symm
  obtain ⟨a3, c3, e3, -, -⟩ := g3.1.shape
  rw [GDataType.trs_len] at e3
  subst e3
  obtain ⟨b4, r4, rfl, g4, n4⟩ := RepL.split n3
  obtain ⟨y4, rfl⟩ := list1 g4.length.symm
  obtain ⟨a4, c4, e4, -, -⟩ := g4.1.shape
  rw [GInstance.trs_len] at e4
  subst e4
  obtain ⟨b5, r5, rfl, g5, n5⟩ := RepL.split n4
  obtain ⟨y5, rfl⟩ := list1 g5.length.symm
  obtain ⟨a5, c5, e5, -, -⟩ := g5.1.shape
  rw [GFunction.trs_len] at e5
  subst e5
  obtain rfl := RepL.nil_eq n5
  exact ⟨a1, c1, a2, c2, a3, c3, a4, c4, a5, c5, rfl, k0, g1.1, g2.1, g3.1, g4.1, g5.1⟩

theorem GPackage.sz (l : List GPackage) : ∀ e ∈ GPackage.trs l, e.length = 6 := by
  intro e he
  rw [GPackage.trs_map] at he
  obtain ⟨x, -, rfl⟩ := List.mem_map.1 he
  exact GPackage.tr_len x
theorem GPackage.all {l : List GPackage} {Q : List Tr → Prop} (h : ∀ x ∈ l, Q x.tr) : ∀ e ∈ GPackage.trs l, Q e := by
  intro e he
  rw [GPackage.trs_map] at he
  obtain ⟨x, hx, rfl⟩ := List.mem_map.1 he
  exact h x hx
theorem GPackage.trs_get {l : List GPackage} {k : Nat} (h : k < l.length) : (GPackage.trs l)[k]? = some (l[k]).tr := by
  rw [GPackage.trs_map, List.getElem?_map, List.getElem?_eq_getElem h]; rfl
inductive GProgram where
  | mk (packages_ : List GPackage)
def GProgram.tr : GProgram → List Tr
  | .mk v0 => [.row 6 (GPackage.trs v0)] ++ ([])
def GProgram.trs (l : List GProgram) : List (List Tr) := l.map GProgram.tr
theorem GProgram.trs_map (l : List GProgram) : GProgram.trs l = l.map GProgram.tr := rfl
theorem GProgram.trs_len (l : List GProgram) : (GProgram.trs l).length = l.length := by rw [GProgram.trs_map, List.length_map]
def GProgram.gPackages : GProgram → List GPackage
  | .mk v => v
@[simp] theorem GProgram.gPackages_mk (v0 : List GPackage) : GProgram.gPackages (.mk v0) = v0 := rfl
theorem GProgram.tr_len (x : GProgram) : x.tr.length = 1 := by
  obtain ⟨v0⟩ := x
  simp [GProgram.tr]
theorem GProgram.opened {w : World} {cs : List Value} {v0 : List GPackage} (h : RepL w (GProgram.tr (.mk v0)) cs) :
    ∃ (a0 : Option Addr) (c0 : Nat), cs = [.slice a0 v0.length c0] ++ ([]) ∧ Rep w (.row 6 (GPackage.trs v0)) (.slice a0 v0.length c0) := by
  obtain ⟨b0, r0, rfl, g0, n0⟩ := RepL.split h
  obtain ⟨y0, rfl⟩ := list1 g0.length.symm
  obtain ⟨a0, c0, e0, -, -⟩ := g0.1.shape
  rw [GPackage.trs_len] at e0
  subst e0
  obtain rfl := RepL.nil_eq n0
  exact ⟨a0, c0, rfl, g0.1⟩

theorem GProgram.sz (l : List GProgram) : ∀ e ∈ GProgram.trs l, e.length = 1 := by
  intro e he
  rw [GProgram.trs_map] at he
  obtain ⟨x, -, rfl⟩ := List.mem_map.1 he
  exact GProgram.tr_len x
theorem GProgram.all {l : List GProgram} {Q : List Tr → Prop} (h : ∀ x ∈ l, Q x.tr) : ∀ e ∈ GProgram.trs l, Q e := by
  intro e he
  rw [GProgram.trs_map] at he
  obtain ⟨x, hx, rfl⟩ := List.mem_map.1 he
  exact h x hx
theorem GProgram.trs_get {l : List GProgram} {k : Nat} (h : k < l.length) : (GProgram.trs l)[k]? = some (l[k]).tr := by
  rw [GProgram.trs_map, List.getElem?_map, List.getElem?_eq_getElem h]; rfl
inductive GEvidence where
  | mk (kind_ : Int) (n_ : Int) (at_ : GInstanceRef) (args_ : List GEvidence)
mutual
def GEvidence.tr : GEvidence → List Tr
  | .mk v0 v1 v2 v3 => [.leaf (.int .i64 v0)] ++ ([.leaf (.int .i64 v1)] ++ (GInstanceRef.tr v2 ++ ([.row 5 (GEvidence.trs v3)] ++ ([]))))
def GEvidence.trs : List GEvidence → List (List Tr)
  | [] => []
  | e :: r => GEvidence.tr e :: GEvidence.trs r
end
theorem GEvidence.trs_map (l : List GEvidence) : GEvidence.trs l = l.map GEvidence.tr := by induction l <;> simp_all [GEvidence.trs]
theorem GEvidence.trs_len (l : List GEvidence) : (GEvidence.trs l).length = l.length := by rw [GEvidence.trs_map, List.length_map]
def GEvidence.gKind : GEvidence → Int
  | .mk v _ _ _ => v
@[simp] theorem GEvidence.gKind_mk (v0 : Int) (v1 : Int) (v2 : GInstanceRef) (v3 : List GEvidence) : GEvidence.gKind (.mk v0 v1 v2 v3) = v0 := rfl
def GEvidence.gN : GEvidence → Int
  | .mk _ v _ _ => v
@[simp] theorem GEvidence.gN_mk (v0 : Int) (v1 : Int) (v2 : GInstanceRef) (v3 : List GEvidence) : GEvidence.gN (.mk v0 v1 v2 v3) = v1 := rfl
def GEvidence.gAt : GEvidence → GInstanceRef
  | .mk _ _ v _ => v
@[simp] theorem GEvidence.gAt_mk (v0 : Int) (v1 : Int) (v2 : GInstanceRef) (v3 : List GEvidence) : GEvidence.gAt (.mk v0 v1 v2 v3) = v2 := rfl
def GEvidence.gArgs : GEvidence → List GEvidence
  | .mk _ _ _ v => v
@[simp] theorem GEvidence.gArgs_mk (v0 : Int) (v1 : Int) (v2 : GInstanceRef) (v3 : List GEvidence) : GEvidence.gArgs (.mk v0 v1 v2 v3) = v3 := rfl
theorem GEvidence.tr_len (x : GEvidence) : x.tr.length = 5 := by
  obtain ⟨v0, v1, v2, v3⟩ := x
  simp [GEvidence.tr, GInstanceRef.tr_len]
theorem GEvidence.opened {w : World} {cs : List Value} {v0 : Int} {v1 : Int} {v2 : GInstanceRef} {v3 : List GEvidence} (h : RepL w (GEvidence.tr (.mk v0 v1 v2 v3)) cs) :
    ∃ (x2 : List Value) (a3 : Option Addr) (c3 : Nat), cs = [.int .i64 v0] ++ ([.int .i64 v1] ++ (x2 ++ ([.slice a3 v3.length c3] ++ ([])))) ∧ LeafOk (.int .i64 v0) ∧ LeafOk (.int .i64 v1) ∧ RepL w (GInstanceRef.tr v2) x2 ∧ Rep w (.row 5 (GEvidence.trs v3)) (.slice a3 v3.length c3) := by
  obtain ⟨b0, r0, rfl, g0, n0⟩ := RepL.split h
  obtain ⟨y0, rfl⟩ := list1 g0.length.symm
  obtain ⟨rfl, k0⟩ := g0.1.leaf_eq
  obtain ⟨b1, r1, rfl, g1, n1⟩ := RepL.split n0
  obtain ⟨y1, rfl⟩ := list1 g1.length.symm
  obtain ⟨rfl, k1⟩ := g1.1.leaf_eq
  obtain ⟨b2, r2, rfl, g2, n2⟩ := RepL.split n1
  obtain ⟨b3, r3, rfl, g3, n3⟩ := RepL.split n2
  obtain ⟨y3, rfl⟩ := list1 g3.length.symm
  obtain ⟨a3, c3, e3, -, -⟩ := g3.1.shape
  rw [GEvidence.trs_len] at e3
  subst e3
  obtain rfl := RepL.nil_eq n3
  exact ⟨b2, a3, c3, rfl, k0, k1, g2, g3.1⟩

theorem GEvidence.sz (l : List GEvidence) : ∀ e ∈ GEvidence.trs l, e.length = 5 := by
  intro e he
  rw [GEvidence.trs_map] at he
  obtain ⟨x, -, rfl⟩ := List.mem_map.1 he
  exact GEvidence.tr_len x
theorem GEvidence.all {l : List GEvidence} {Q : List Tr → Prop} (h : ∀ x ∈ l, Q x.tr) : ∀ e ∈ GEvidence.trs l, Q e := by
  intro e he
  rw [GEvidence.trs_map] at he
  obtain ⟨x, hx, rfl⟩ := List.mem_map.1 he
  exact h x hx
theorem GEvidence.trs_get {l : List GEvidence} {k : Nat} (h : k < l.length) : (GEvidence.trs l)[k]? = some (l[k]).tr := by
  rw [GEvidence.trs_map, List.getElem?_map, List.getElem?_eq_getElem h]; rfl
theorem GEvidence.ind {A : GEvidence → Prop} (h : ∀ v0 v1 v2 v3, (∀ x ∈ v3, A x) → A (.mk v0 v1 v2 v3)) : ∀ e, A e := by
  have key : ∀ (N : Nat) (e : GEvidence), SizeOf.sizeOf e < N → A e := by
    intro N
    induction N with
    | zero => intro e he; omega
    | succ N ih =>
      intro e he
      obtain ⟨v0, v1, v2, v3⟩ := e
      refine h v0 v1 v2 v3 fun x hx => ih x ?_
      have := List.sizeOf_lt_of_mem hx
      simp at he
      omega
  exact fun e => key _ e (Nat.lt_succ_self _)

inductive GAssumption where
  | mk (goal_ : GBound) (from_ : Int) (steps_ : List Int)
def GAssumption.tr : GAssumption → List Tr
  | .mk v0 v1 v2 => GBound.tr v0 ++ ([.leaf (.int .i64 v1)] ++ ([.row 1 (intTrs v2)] ++ ([])))
def GAssumption.trs (l : List GAssumption) : List (List Tr) := l.map GAssumption.tr
theorem GAssumption.trs_map (l : List GAssumption) : GAssumption.trs l = l.map GAssumption.tr := rfl
theorem GAssumption.trs_len (l : List GAssumption) : (GAssumption.trs l).length = l.length := by rw [GAssumption.trs_map, List.length_map]
def GAssumption.gGoal : GAssumption → GBound
  | .mk v _ _ => v
@[simp] theorem GAssumption.gGoal_mk (v0 : GBound) (v1 : Int) (v2 : List Int) : GAssumption.gGoal (.mk v0 v1 v2) = v0 := rfl
def GAssumption.gFrom : GAssumption → Int
  | .mk _ v _ => v
@[simp] theorem GAssumption.gFrom_mk (v0 : GBound) (v1 : Int) (v2 : List Int) : GAssumption.gFrom (.mk v0 v1 v2) = v1 := rfl
def GAssumption.gSteps : GAssumption → List Int
  | .mk _ _ v => v
@[simp] theorem GAssumption.gSteps_mk (v0 : GBound) (v1 : Int) (v2 : List Int) : GAssumption.gSteps (.mk v0 v1 v2) = v2 := rfl
theorem GAssumption.tr_len (x : GAssumption) : x.tr.length = 6 := by
  obtain ⟨v0, v1, v2⟩ := x
  simp [GAssumption.tr, GBound.tr_len]
theorem GAssumption.opened {w : World} {cs : List Value} {v0 : GBound} {v1 : Int} {v2 : List Int} (h : RepL w (GAssumption.tr (.mk v0 v1 v2)) cs) :
    ∃ (x0 : List Value) (a2 : Option Addr) (c2 : Nat), cs = x0 ++ ([.int .i64 v1] ++ ([.slice a2 v2.length c2] ++ ([]))) ∧ RepL w (GBound.tr v0) x0 ∧ LeafOk (.int .i64 v1) ∧ Rep w (.row 1 (intTrs v2)) (.slice a2 v2.length c2) := by
  obtain ⟨b0, r0, rfl, g0, n0⟩ := RepL.split h
  obtain ⟨b1, r1, rfl, g1, n1⟩ := RepL.split n0
  obtain ⟨y1, rfl⟩ := list1 g1.length.symm
  obtain ⟨rfl, k1⟩ := g1.1.leaf_eq
  obtain ⟨b2, r2, rfl, g2, n2⟩ := RepL.split n1
  obtain ⟨y2, rfl⟩ := list1 g2.length.symm
  obtain ⟨a2, c2, e2, -, -⟩ := g2.1.shape
  rw [intTrs_len] at e2
  subst e2
  obtain rfl := RepL.nil_eq n2
  exact ⟨b0, a2, c2, rfl, g0, k1, g2.1⟩

theorem GAssumption.sz (l : List GAssumption) : ∀ e ∈ GAssumption.trs l, e.length = 6 := by
  intro e he
  rw [GAssumption.trs_map] at he
  obtain ⟨x, -, rfl⟩ := List.mem_map.1 he
  exact GAssumption.tr_len x
theorem GAssumption.all {l : List GAssumption} {Q : List Tr → Prop} (h : ∀ x ∈ l, Q x.tr) : ∀ e ∈ GAssumption.trs l, Q e := by
  intro e he
  rw [GAssumption.trs_map] at he
  obtain ⟨x, hx, rfl⟩ := List.mem_map.1 he
  exact h x hx
theorem GAssumption.trs_get {l : List GAssumption} {k : Nat} (h : k < l.length) : (GAssumption.trs l)[k]? = some (l[k]).tr := by
  rw [GAssumption.trs_map, List.getElem?_map, List.getElem?_eq_getElem h]; rfl
inductive GCache where
  | mk (goals_ : List GBound) (codes_ : List Int) (evidence_ : List GEvidence)
def GCache.tr : GCache → List Tr
  | .mk v0 v1 v2 => [.row 4 (GBound.trs v0)] ++ ([.row 1 (intTrs v1)] ++ ([.row 5 (GEvidence.trs v2)] ++ ([])))
def GCache.trs (l : List GCache) : List (List Tr) := l.map GCache.tr
theorem GCache.trs_map (l : List GCache) : GCache.trs l = l.map GCache.tr := rfl
theorem GCache.trs_len (l : List GCache) : (GCache.trs l).length = l.length := by rw [GCache.trs_map, List.length_map]
def GCache.gGoals : GCache → List GBound
  | .mk v _ _ => v
@[simp] theorem GCache.gGoals_mk (v0 : List GBound) (v1 : List Int) (v2 : List GEvidence) : GCache.gGoals (.mk v0 v1 v2) = v0 := rfl
def GCache.gCodes : GCache → List Int
  | .mk _ v _ => v
@[simp] theorem GCache.gCodes_mk (v0 : List GBound) (v1 : List Int) (v2 : List GEvidence) : GCache.gCodes (.mk v0 v1 v2) = v1 := rfl
def GCache.gEvidence : GCache → List GEvidence
  | .mk _ _ v => v
@[simp] theorem GCache.gEvidence_mk (v0 : List GBound) (v1 : List Int) (v2 : List GEvidence) : GCache.gEvidence (.mk v0 v1 v2) = v2 := rfl
theorem GCache.tr_len (x : GCache) : x.tr.length = 3 := by
  obtain ⟨v0, v1, v2⟩ := x
  simp [GCache.tr]
theorem GCache.opened {w : World} {cs : List Value} {v0 : List GBound} {v1 : List Int} {v2 : List GEvidence} (h : RepL w (GCache.tr (.mk v0 v1 v2)) cs) :
    ∃ (a0 : Option Addr) (c0 : Nat) (a1 : Option Addr) (c1 : Nat) (a2 : Option Addr) (c2 : Nat), cs = [.slice a0 v0.length c0] ++ ([.slice a1 v1.length c1] ++ ([.slice a2 v2.length c2] ++ ([]))) ∧ Rep w (.row 4 (GBound.trs v0)) (.slice a0 v0.length c0) ∧ Rep w (.row 1 (intTrs v1)) (.slice a1 v1.length c1) ∧ Rep w (.row 5 (GEvidence.trs v2)) (.slice a2 v2.length c2) := by
  obtain ⟨b0, r0, rfl, g0, n0⟩ := RepL.split h
  obtain ⟨y0, rfl⟩ := list1 g0.length.symm
  obtain ⟨a0, c0, e0, -, -⟩ := g0.1.shape
  rw [GBound.trs_len] at e0
  subst e0
  obtain ⟨b1, r1, rfl, g1, n1⟩ := RepL.split n0
  obtain ⟨y1, rfl⟩ := list1 g1.length.symm
  obtain ⟨a1, c1, e1, -, -⟩ := g1.1.shape
  rw [intTrs_len] at e1
  subst e1
  obtain ⟨b2, r2, rfl, g2, n2⟩ := RepL.split n1
  obtain ⟨y2, rfl⟩ := list1 g2.length.symm
  obtain ⟨a2, c2, e2, -, -⟩ := g2.1.shape
  rw [GEvidence.trs_len] at e2
  subst e2
  obtain rfl := RepL.nil_eq n2
  exact ⟨a0, c0, a1, c1, a2, c2, rfl, g0.1, g1.1, g2.1⟩

theorem GCache.sz (l : List GCache) : ∀ e ∈ GCache.trs l, e.length = 3 := by
  intro e he
  rw [GCache.trs_map] at he
  obtain ⟨x, -, rfl⟩ := List.mem_map.1 he
  exact GCache.tr_len x
theorem GCache.all {l : List GCache} {Q : List Tr → Prop} (h : ∀ x ∈ l, Q x.tr) : ∀ e ∈ GCache.trs l, Q e := by
  intro e he
  rw [GCache.trs_map] at he
  obtain ⟨x, hx, rfl⟩ := List.mem_map.1 he
  exact h x hx
theorem GCache.trs_get {l : List GCache} {k : Nat} (h : k < l.length) : (GCache.trs l)[k]? = some (l[k]).tr := by
  rw [GCache.trs_map, List.getElem?_map, List.getElem?_eq_getElem h]; rfl
end Go.Proofs.Ytoifjkggpanceaa

namespace Go.Proofs.Ytoifjkggpanceaa
open Go.RowKit

theorem LeL.refl : ∀ ps : List PV, LeL ps ps
  | [] => .nil
  | p :: ps => .cons (.refl p) (LeL.refl ps)
theorem PV.Le.of_eq {p q : PV} (h : p = q) : PV.Le p q := h ▸ .refl p
theorem strTrs_cs {l : List ByteArray} {k : Nat} (h : k < l.length) : (strTrs l)[k]? = some [.leaf (.string l[k])] := strTrs_get h
theorem intTrs_cs {l : List Int} {k : Nat} (h : k < l.length) : (intTrs l)[k]? = some [.leaf (.int .i64 l[k])] := intTrs_get h
theorem strTrs_snoc (l : List ByteArray) (x : ByteArray) : strTrs l ++ [[.leaf (.string x)]] = strTrs (l ++ [x]) := by simp [strTrs]
theorem intTrs_snoc (l : List Int) (x : Int) : intTrs l ++ [[.leaf (.int .i64 x)]] = intTrs (l ++ [x]) := by simp [intTrs]

def GInstanceRef.cs (x : GInstanceRef) : List Tr := [.leaf (.int .i64 x.gPackage), .leaf (.int .i64 x.gAt)]
def GInstanceRef.pv (x : GInstanceRef) : PV := .agg [.t (.leaf (.int .i64 x.gPackage)), .t (.leaf (.int .i64 x.gAt))]
theorem GInstanceRef.tr_cs (x : GInstanceRef) : x.tr = x.cs := by
  obtain ⟨v0, v1⟩ := x
  simp [GInstanceRef.tr, GInstanceRef.cs]
theorem GInstanceRef.trs_cs {l : List GInstanceRef} {k : Nat} (h : k < l.length) : (GInstanceRef.trs l)[k]? = some (l[k]).cs := by rw [← GInstanceRef.tr_cs]; exact GInstanceRef.trs_get h
theorem GInstanceRef.trs_snoc' (l : List GInstanceRef) (x : GInstanceRef) : GInstanceRef.trs l ++ [x.cs] = GInstanceRef.trs (l ++ [x]) := by rw [GInstanceRef.trs_map, GInstanceRef.trs_map, ← GInstanceRef.tr_cs]; simp
theorem GInstanceRef.cs_len (x : GInstanceRef) : x.cs.length = 2 := rfl
def GSExpr.cs (x : GSExpr) : List Tr := [.leaf (.string x.gAtom), .row 2 (GSExpr.trs (x.gList))]
def GSExpr.pv (x : GSExpr) : PV := .agg [.t (.leaf (.string x.gAtom)), .t (.row 2 (GSExpr.trs (x.gList)))]
theorem GSExpr.tr_cs (x : GSExpr) : x.tr = x.cs := by
  obtain ⟨v0, v1⟩ := x
  simp [GSExpr.tr, GSExpr.cs]
theorem GSExpr.trs_cs {l : List GSExpr} {k : Nat} (h : k < l.length) : (GSExpr.trs l)[k]? = some (l[k]).cs := by rw [← GSExpr.tr_cs]; exact GSExpr.trs_get h
theorem GSExpr.trs_snoc' (l : List GSExpr) (x : GSExpr) : GSExpr.trs l ++ [x.cs] = GSExpr.trs (l ++ [x]) := by rw [GSExpr.trs_map, GSExpr.trs_map, ← GSExpr.tr_cs]; simp
theorem GSExpr.cs_len (x : GSExpr) : x.cs.length = 2 := rfl
def GType.cs (x : GType) : List Tr := [.leaf (.int .i64 x.gKind), .leaf (.string x.gName), .row 3 (GType.trs (x.gArgs))]
def GType.pv (x : GType) : PV := .agg [.t (.leaf (.int .i64 x.gKind)), .t (.leaf (.string x.gName)), .t (.row 3 (GType.trs (x.gArgs)))]
theorem GType.tr_cs (x : GType) : x.tr = x.cs := by
  obtain ⟨v0, v1, v2⟩ := x
  simp [GType.tr, GType.cs]
theorem GType.trs_cs {l : List GType} {k : Nat} (h : k < l.length) : (GType.trs l)[k]? = some (l[k]).cs := by rw [← GType.tr_cs]; exact GType.trs_get h
theorem GType.trs_snoc' (l : List GType) (x : GType) : GType.trs l ++ [x.cs] = GType.trs (l ++ [x]) := by rw [GType.trs_map, GType.trs_map, ← GType.tr_cs]; simp
theorem GType.cs_len (x : GType) : x.cs.length = 3 := rfl
def GBinding.cs (x : GBinding) : List Tr := [.leaf (.string x.gVar), .leaf (.int .i64 x.gType.gKind), .leaf (.string x.gType.gName), .row 3 (GType.trs (x.gType.gArgs))]
def GBinding.pv (x : GBinding) : PV := .agg [.t (.leaf (.string x.gVar)), .t (.leaf (.int .i64 x.gType.gKind)), .t (.leaf (.string x.gType.gName)), .t (.row 3 (GType.trs (x.gType.gArgs)))]
theorem GBinding.tr_cs (x : GBinding) : x.tr = x.cs := by
  obtain ⟨v0, v1⟩ := x
  simp [GBinding.tr, GBinding.cs, GType.tr_cs, GType.cs]
theorem GBinding.trs_cs {l : List GBinding} {k : Nat} (h : k < l.length) : (GBinding.trs l)[k]? = some (l[k]).cs := by rw [← GBinding.tr_cs]; exact GBinding.trs_get h
theorem GBinding.trs_snoc' (l : List GBinding) (x : GBinding) : GBinding.trs l ++ [x.cs] = GBinding.trs (l ++ [x]) := by rw [GBinding.trs_map, GBinding.trs_map, ← GBinding.tr_cs]; simp
theorem GBinding.cs_len (x : GBinding) : x.cs.length = 4 := rfl
def GExpr.cs (x : GExpr) : List Tr := [.leaf (.int .i64 x.gKind), .leaf (.string x.gTrait), .leaf (.string x.gName), .leaf (.int .i64 x.gN), .leaf (.int .i64 x.gType.gKind), .leaf (.string x.gType.gName), .row 3 (GType.trs (x.gType.gArgs)), .row 9 (GExpr.trs (x.gArgs)), .row 11 (GArm.trs (x.gArms))]
def GExpr.pv (x : GExpr) : PV := .agg [.t (.leaf (.int .i64 x.gKind)), .t (.leaf (.string x.gTrait)), .t (.leaf (.string x.gName)), .t (.leaf (.int .i64 x.gN)), .t (.leaf (.int .i64 x.gType.gKind)), .t (.leaf (.string x.gType.gName)), .t (.row 3 (GType.trs (x.gType.gArgs))), .t (.row 9 (GExpr.trs (x.gArgs))), .t (.row 11 (GArm.trs (x.gArms)))]
theorem GExpr.tr_cs (x : GExpr) : x.tr = x.cs := by
  obtain ⟨v0, v1, v2, v3, v4, v5, v6⟩ := x
  simp [GExpr.tr, GExpr.cs, GType.tr_cs, GType.cs]
theorem GExpr.trs_cs {l : List GExpr} {k : Nat} (h : k < l.length) : (GExpr.trs l)[k]? = some (l[k]).cs := by rw [← GExpr.tr_cs]; exact GExpr.trs_get h
theorem GExpr.trs_snoc' (l : List GExpr) (x : GExpr) : GExpr.trs l ++ [x.cs] = GExpr.trs (l ++ [x]) := by rw [GExpr.trs_map, GExpr.trs_map, ← GExpr.tr_cs]; simp
theorem GExpr.cs_len (x : GExpr) : x.cs.length = 9 := rfl
def GArm.cs (x : GArm) : List Tr := [.leaf (.string x.gConstructor), .row 1 (strTrs (x.gVars)), .leaf (.int .i64 x.gBody.gKind), .leaf (.string x.gBody.gTrait), .leaf (.string x.gBody.gName), .leaf (.int .i64 x.gBody.gN), .leaf (.int .i64 x.gBody.gType.gKind), .leaf (.string x.gBody.gType.gName), .row 3 (GType.trs (x.gBody.gType.gArgs)), .row 9 (GExpr.trs (x.gBody.gArgs)), .row 11 (GArm.trs (x.gBody.gArms))]
def GArm.pv (x : GArm) : PV := .agg [.t (.leaf (.string x.gConstructor)), .t (.row 1 (strTrs (x.gVars))), .t (.leaf (.int .i64 x.gBody.gKind)), .t (.leaf (.string x.gBody.gTrait)), .t (.leaf (.string x.gBody.gName)), .t (.leaf (.int .i64 x.gBody.gN)), .t (.leaf (.int .i64 x.gBody.gType.gKind)), .t (.leaf (.string x.gBody.gType.gName)), .t (.row 3 (GType.trs (x.gBody.gType.gArgs))), .t (.row 9 (GExpr.trs (x.gBody.gArgs))), .t (.row 11 (GArm.trs (x.gBody.gArms)))]
theorem GArm.tr_cs (x : GArm) : x.tr = x.cs := by
  obtain ⟨v0, v1, v2⟩ := x
  simp [GArm.tr, GArm.cs, GExpr.tr_cs, GExpr.cs]
theorem GArm.trs_cs {l : List GArm} {k : Nat} (h : k < l.length) : (GArm.trs l)[k]? = some (l[k]).cs := by rw [← GArm.tr_cs]; exact GArm.trs_get h
theorem GArm.trs_snoc' (l : List GArm) (x : GArm) : GArm.trs l ++ [x.cs] = GArm.trs (l ++ [x]) := by rw [GArm.trs_map, GArm.trs_map, ← GArm.tr_cs]; simp
theorem GArm.cs_len (x : GArm) : x.cs.length = 11 := rfl
def GSignature.cs (x : GSignature) : List Tr := [.leaf (.string x.gName), .row 3 (GType.trs (x.gParams)), .leaf (.int .i64 x.gResult.gKind), .leaf (.string x.gResult.gName), .row 3 (GType.trs (x.gResult.gArgs)), .leaf (.bool x.gHasDefault), .row 1 (strTrs (x.gVars)), .leaf (.int .i64 x.gBody.gKind), .leaf (.string x.gBody.gTrait), .leaf (.string x.gBody.gName), .leaf (.int .i64 x.gBody.gN), .leaf (.int .i64 x.gBody.gType.gKind), .leaf (.string x.gBody.gType.gName), .row 3 (GType.trs (x.gBody.gType.gArgs)), .row 9 (GExpr.trs (x.gBody.gArgs)), .row 11 (GArm.trs (x.gBody.gArms))]
def GSignature.pv (x : GSignature) : PV := .agg [.t (.leaf (.string x.gName)), .t (.row 3 (GType.trs (x.gParams))), .t (.leaf (.int .i64 x.gResult.gKind)), .t (.leaf (.string x.gResult.gName)), .t (.row 3 (GType.trs (x.gResult.gArgs))), .t (.leaf (.bool x.gHasDefault)), .t (.row 1 (strTrs (x.gVars))), .t (.leaf (.int .i64 x.gBody.gKind)), .t (.leaf (.string x.gBody.gTrait)), .t (.leaf (.string x.gBody.gName)), .t (.leaf (.int .i64 x.gBody.gN)), .t (.leaf (.int .i64 x.gBody.gType.gKind)), .t (.leaf (.string x.gBody.gType.gName)), .t (.row 3 (GType.trs (x.gBody.gType.gArgs))), .t (.row 9 (GExpr.trs (x.gBody.gArgs))), .t (.row 11 (GArm.trs (x.gBody.gArms)))]
theorem GSignature.tr_cs (x : GSignature) : x.tr = x.cs := by
  obtain ⟨v0, v1, v2, v3, v4, v5⟩ := x
  simp [GSignature.tr, GSignature.cs, GType.tr_cs, GType.cs, GExpr.tr_cs, GExpr.cs]
theorem GSignature.trs_cs {l : List GSignature} {k : Nat} (h : k < l.length) : (GSignature.trs l)[k]? = some (l[k]).cs := by rw [← GSignature.tr_cs]; exact GSignature.trs_get h
theorem GSignature.trs_snoc' (l : List GSignature) (x : GSignature) : GSignature.trs l ++ [x.cs] = GSignature.trs (l ++ [x]) := by rw [GSignature.trs_map, GSignature.trs_map, ← GSignature.tr_cs]; simp
theorem GSignature.cs_len (x : GSignature) : x.cs.length = 16 := rfl
def GTrait.cs (x : GTrait) : List Tr := [.leaf (.string x.gName), .row 1 (strTrs (x.gSupertraits)), .leaf (.bool x.gAuto), .leaf (.bool x.gAssoc), .row 16 (GSignature.trs (x.gSignatures))]
def GTrait.pv (x : GTrait) : PV := .agg [.t (.leaf (.string x.gName)), .t (.row 1 (strTrs (x.gSupertraits))), .t (.leaf (.bool x.gAuto)), .t (.leaf (.bool x.gAssoc)), .t (.row 16 (GSignature.trs (x.gSignatures)))]
theorem GTrait.tr_cs (x : GTrait) : x.tr = x.cs := by
  obtain ⟨v0, v1, v2, v3, v4⟩ := x
  simp [GTrait.tr, GTrait.cs]
theorem GTrait.trs_cs {l : List GTrait} {k : Nat} (h : k < l.length) : (GTrait.trs l)[k]? = some (l[k]).cs := by rw [← GTrait.tr_cs]; exact GTrait.trs_get h
theorem GTrait.trs_snoc' (l : List GTrait) (x : GTrait) : GTrait.trs l ++ [x.cs] = GTrait.trs (l ++ [x]) := by rw [GTrait.trs_map, GTrait.trs_map, ← GTrait.tr_cs]; simp
theorem GTrait.cs_len (x : GTrait) : x.cs.length = 5 := rfl
def GConstructor.cs (x : GConstructor) : List Tr := [.leaf (.string x.gName), .row 3 (GType.trs (x.gFields))]
def GConstructor.pv (x : GConstructor) : PV := .agg [.t (.leaf (.string x.gName)), .t (.row 3 (GType.trs (x.gFields)))]
theorem GConstructor.tr_cs (x : GConstructor) : x.tr = x.cs := by
  obtain ⟨v0, v1⟩ := x
  simp [GConstructor.tr, GConstructor.cs]
theorem GConstructor.trs_cs {l : List GConstructor} {k : Nat} (h : k < l.length) : (GConstructor.trs l)[k]? = some (l[k]).cs := by rw [← GConstructor.tr_cs]; exact GConstructor.trs_get h
theorem GConstructor.trs_snoc' (l : List GConstructor) (x : GConstructor) : GConstructor.trs l ++ [x.cs] = GConstructor.trs (l ++ [x]) := by rw [GConstructor.trs_map, GConstructor.trs_map, ← GConstructor.tr_cs]; simp
theorem GConstructor.cs_len (x : GConstructor) : x.cs.length = 2 := rfl
def GDataType.cs (x : GDataType) : List Tr := [.leaf (.string x.gName), .row 1 (strTrs (x.gVars)), .row 2 (GConstructor.trs (x.gConstructors))]
def GDataType.pv (x : GDataType) : PV := .agg [.t (.leaf (.string x.gName)), .t (.row 1 (strTrs (x.gVars))), .t (.row 2 (GConstructor.trs (x.gConstructors)))]
theorem GDataType.tr_cs (x : GDataType) : x.tr = x.cs := by
  obtain ⟨v0, v1, v2⟩ := x
  simp [GDataType.tr, GDataType.cs]
theorem GDataType.trs_cs {l : List GDataType} {k : Nat} (h : k < l.length) : (GDataType.trs l)[k]? = some (l[k]).cs := by rw [← GDataType.tr_cs]; exact GDataType.trs_get h
theorem GDataType.trs_snoc' (l : List GDataType) (x : GDataType) : GDataType.trs l ++ [x.cs] = GDataType.trs (l ++ [x]) := by rw [GDataType.trs_map, GDataType.trs_map, ← GDataType.tr_cs]; simp
theorem GDataType.cs_len (x : GDataType) : x.cs.length = 3 := rfl
def GBound.cs (x : GBound) : List Tr := [.leaf (.string x.gTrait), .leaf (.int .i64 x.gType.gKind), .leaf (.string x.gType.gName), .row 3 (GType.trs (x.gType.gArgs))]
def GBound.pv (x : GBound) : PV := .agg [.t (.leaf (.string x.gTrait)), .t (.leaf (.int .i64 x.gType.gKind)), .t (.leaf (.string x.gType.gName)), .t (.row 3 (GType.trs (x.gType.gArgs)))]
theorem GBound.tr_cs (x : GBound) : x.tr = x.cs := by
  obtain ⟨v0, v1⟩ := x
  simp [GBound.tr, GBound.cs, GType.tr_cs, GType.cs]
theorem GBound.trs_cs {l : List GBound} {k : Nat} (h : k < l.length) : (GBound.trs l)[k]? = some (l[k]).cs := by rw [← GBound.tr_cs]; exact GBound.trs_get h
theorem GBound.trs_snoc' (l : List GBound) (x : GBound) : GBound.trs l ++ [x.cs] = GBound.trs (l ++ [x]) := by rw [GBound.trs_map, GBound.trs_map, ← GBound.tr_cs]; simp
theorem GBound.cs_len (x : GBound) : x.cs.length = 4 := rfl
def GMethod.cs (x : GMethod) : List Tr := [.leaf (.string x.gName), .row 1 (strTrs (x.gVars)), .leaf (.int .i64 x.gBody.gKind), .leaf (.string x.gBody.gTrait), .leaf (.string x.gBody.gName), .leaf (.int .i64 x.gBody.gN), .leaf (.int .i64 x.gBody.gType.gKind), .leaf (.string x.gBody.gType.gName), .row 3 (GType.trs (x.gBody.gType.gArgs)), .row 9 (GExpr.trs (x.gBody.gArgs)), .row 11 (GArm.trs (x.gBody.gArms))]
def GMethod.pv (x : GMethod) : PV := .agg [.t (.leaf (.string x.gName)), .t (.row 1 (strTrs (x.gVars))), .t (.leaf (.int .i64 x.gBody.gKind)), .t (.leaf (.string x.gBody.gTrait)), .t (.leaf (.string x.gBody.gName)), .t (.leaf (.int .i64 x.gBody.gN)), .t (.leaf (.int .i64 x.gBody.gType.gKind)), .t (.leaf (.string x.gBody.gType.gName)), .t (.row 3 (GType.trs (x.gBody.gType.gArgs))), .t (.row 9 (GExpr.trs (x.gBody.gArgs))), .t (.row 11 (GArm.trs (x.gBody.gArms)))]
theorem GMethod.tr_cs (x : GMethod) : x.tr = x.cs := by
  obtain ⟨v0, v1, v2⟩ := x
  simp [GMethod.tr, GMethod.cs, GExpr.tr_cs, GExpr.cs]
theorem GMethod.trs_cs {l : List GMethod} {k : Nat} (h : k < l.length) : (GMethod.trs l)[k]? = some (l[k]).cs := by rw [← GMethod.tr_cs]; exact GMethod.trs_get h
theorem GMethod.trs_snoc' (l : List GMethod) (x : GMethod) : GMethod.trs l ++ [x.cs] = GMethod.trs (l ++ [x]) := by rw [GMethod.trs_map, GMethod.trs_map, ← GMethod.tr_cs]; simp
theorem GMethod.cs_len (x : GMethod) : x.cs.length = 11 := rfl
def GInstance.cs (x : GInstance) : List Tr := [.leaf (.string x.gTrait), .row 1 (strTrs (x.gVars)), .leaf (.int .i64 x.gHead.gKind), .leaf (.string x.gHead.gName), .row 3 (GType.trs (x.gHead.gArgs)), .row 4 (GBound.trs (x.gWhere)), .leaf (.bool x.gDefault), .leaf (.bool x.gHasAssoc), .leaf (.int .i64 x.gAssoc.gKind), .leaf (.string x.gAssoc.gName), .row 3 (GType.trs (x.gAssoc.gArgs)), .row 11 (GMethod.trs (x.gMethods))]
def GInstance.pv (x : GInstance) : PV := .agg [.t (.leaf (.string x.gTrait)), .t (.row 1 (strTrs (x.gVars))), .t (.leaf (.int .i64 x.gHead.gKind)), .t (.leaf (.string x.gHead.gName)), .t (.row 3 (GType.trs (x.gHead.gArgs))), .t (.row 4 (GBound.trs (x.gWhere))), .t (.leaf (.bool x.gDefault)), .t (.leaf (.bool x.gHasAssoc)), .t (.leaf (.int .i64 x.gAssoc.gKind)), .t (.leaf (.string x.gAssoc.gName)), .t (.row 3 (GType.trs (x.gAssoc.gArgs))), .t (.row 11 (GMethod.trs (x.gMethods)))]
theorem GInstance.tr_cs (x : GInstance) : x.tr = x.cs := by
  obtain ⟨v0, v1, v2, v3, v4, v5, v6, v7⟩ := x
  simp [GInstance.tr, GInstance.cs, GType.tr_cs, GType.cs]
theorem GInstance.trs_cs {l : List GInstance} {k : Nat} (h : k < l.length) : (GInstance.trs l)[k]? = some (l[k]).cs := by rw [← GInstance.tr_cs]; exact GInstance.trs_get h
theorem GInstance.trs_snoc' (l : List GInstance) (x : GInstance) : GInstance.trs l ++ [x.cs] = GInstance.trs (l ++ [x]) := by rw [GInstance.trs_map, GInstance.trs_map, ← GInstance.tr_cs]; simp
theorem GInstance.cs_len (x : GInstance) : x.cs.length = 12 := rfl
def GParam.cs (x : GParam) : List Tr := [.leaf (.string x.gName), .leaf (.int .i64 x.gType.gKind), .leaf (.string x.gType.gName), .row 3 (GType.trs (x.gType.gArgs))]
def GParam.pv (x : GParam) : PV := .agg [.t (.leaf (.string x.gName)), .t (.leaf (.int .i64 x.gType.gKind)), .t (.leaf (.string x.gType.gName)), .t (.row 3 (GType.trs (x.gType.gArgs)))]
theorem GParam.tr_cs (x : GParam) : x.tr = x.cs := by
  obtain ⟨v0, v1⟩ := x
  simp [GParam.tr, GParam.cs, GType.tr_cs, GType.cs]
theorem GParam.trs_cs {l : List GParam} {k : Nat} (h : k < l.length) : (GParam.trs l)[k]? = some (l[k]).cs := by rw [← GParam.tr_cs]; exact GParam.trs_get h
theorem GParam.trs_snoc' (l : List GParam) (x : GParam) : GParam.trs l ++ [x.cs] = GParam.trs (l ++ [x]) := by rw [GParam.trs_map, GParam.trs_map, ← GParam.tr_cs]; simp
theorem GParam.cs_len (x : GParam) : x.cs.length = 4 := rfl
def GFunction.cs (x : GFunction) : List Tr := [.leaf (.string x.gName), .row 1 (strTrs (x.gVars)), .row 4 (GBound.trs (x.gWhere)), .row 4 (GParam.trs (x.gParams)), .leaf (.int .i64 x.gResult.gKind), .leaf (.string x.gResult.gName), .row 3 (GType.trs (x.gResult.gArgs)), .leaf (.int .i64 x.gBody.gKind), .leaf (.string x.gBody.gTrait), .leaf (.string x.gBody.gName), .leaf (.int .i64 x.gBody.gN), .leaf (.int .i64 x.gBody.gType.gKind), .leaf (.string x.gBody.gType.gName), .row 3 (GType.trs (x.gBody.gType.gArgs)), .row 9 (GExpr.trs (x.gBody.gArgs)), .row 11 (GArm.trs (x.gBody.gArms))]
def GFunction.pv (x : GFunction) : PV := .agg [.t (.leaf (.string x.gName)), .t (.row 1 (strTrs (x.gVars))), .t (.row 4 (GBound.trs (x.gWhere))), .t (.row 4 (GParam.trs (x.gParams))), .t (.leaf (.int .i64 x.gResult.gKind)), .t (.leaf (.string x.gResult.gName)), .t (.row 3 (GType.trs (x.gResult.gArgs))), .t (.leaf (.int .i64 x.gBody.gKind)), .t (.leaf (.string x.gBody.gTrait)), .t (.leaf (.string x.gBody.gName)), .t (.leaf (.int .i64 x.gBody.gN)), .t (.leaf (.int .i64 x.gBody.gType.gKind)), .t (.leaf (.string x.gBody.gType.gName)), .t (.row 3 (GType.trs (x.gBody.gType.gArgs))), .t (.row 9 (GExpr.trs (x.gBody.gArgs))), .t (.row 11 (GArm.trs (x.gBody.gArms)))]
theorem GFunction.tr_cs (x : GFunction) : x.tr = x.cs := by
  obtain ⟨v0, v1, v2, v3, v4, v5⟩ := x
  simp [GFunction.tr, GFunction.cs, GType.tr_cs, GType.cs, GExpr.tr_cs, GExpr.cs]
theorem GFunction.trs_cs {l : List GFunction} {k : Nat} (h : k < l.length) : (GFunction.trs l)[k]? = some (l[k]).cs := by rw [← GFunction.tr_cs]; exact GFunction.trs_get h
theorem GFunction.trs_snoc' (l : List GFunction) (x : GFunction) : GFunction.trs l ++ [x.cs] = GFunction.trs (l ++ [x]) := by rw [GFunction.trs_map, GFunction.trs_map, ← GFunction.tr_cs]; simp
theorem GFunction.cs_len (x : GFunction) : x.cs.length = 16 := rfl
def GPackage.cs (x : GPackage) : List Tr := [.leaf (.string x.gName), .row 1 (strTrs (x.gDeps)), .row 5 (GTrait.trs (x.gTraits)), .row 3 (GDataType.trs (x.gDataTypes)), .row 12 (GInstance.trs (x.gInstances)), .row 16 (GFunction.trs (x.gFunctions))]
def GPackage.pv (x : GPackage) : PV := .agg [.t (.leaf (.string x.gName)), .t (.row 1 (strTrs (x.gDeps))), .t (.row 5 (GTrait.trs (x.gTraits))), .t (.row 3 (GDataType.trs (x.gDataTypes))), .t (.row 12 (GInstance.trs (x.gInstances))), .t (.row 16 (GFunction.trs (x.gFunctions)))]
theorem GPackage.tr_cs (x : GPackage) : x.tr = x.cs := by
  obtain ⟨v0, v1, v2, v3, v4, v5⟩ := x
  simp [GPackage.tr, GPackage.cs]
theorem GPackage.trs_cs {l : List GPackage} {k : Nat} (h : k < l.length) : (GPackage.trs l)[k]? = some (l[k]).cs := by rw [← GPackage.tr_cs]; exact GPackage.trs_get h
theorem GPackage.trs_snoc' (l : List GPackage) (x : GPackage) : GPackage.trs l ++ [x.cs] = GPackage.trs (l ++ [x]) := by rw [GPackage.trs_map, GPackage.trs_map, ← GPackage.tr_cs]; simp
theorem GPackage.cs_len (x : GPackage) : x.cs.length = 6 := rfl
def GProgram.cs (x : GProgram) : List Tr := [.row 6 (GPackage.trs (x.gPackages))]
def GProgram.pv (x : GProgram) : PV := .agg [.t (.row 6 (GPackage.trs (x.gPackages)))]
theorem GProgram.tr_cs (x : GProgram) : x.tr = x.cs := by
  obtain ⟨v0⟩ := x
  simp [GProgram.tr, GProgram.cs]
theorem GProgram.trs_cs {l : List GProgram} {k : Nat} (h : k < l.length) : (GProgram.trs l)[k]? = some (l[k]).cs := by rw [← GProgram.tr_cs]; exact GProgram.trs_get h
theorem GProgram.trs_snoc' (l : List GProgram) (x : GProgram) : GProgram.trs l ++ [x.cs] = GProgram.trs (l ++ [x]) := by rw [GProgram.trs_map, GProgram.trs_map, ← GProgram.tr_cs]; simp
theorem GProgram.cs_len (x : GProgram) : x.cs.length = 1 := rfl
def GEvidence.cs (x : GEvidence) : List Tr := [.leaf (.int .i64 x.gKind), .leaf (.int .i64 x.gN), .leaf (.int .i64 x.gAt.gPackage), .leaf (.int .i64 x.gAt.gAt), .row 5 (GEvidence.trs (x.gArgs))]
def GEvidence.pv (x : GEvidence) : PV := .agg [.t (.leaf (.int .i64 x.gKind)), .t (.leaf (.int .i64 x.gN)), .t (.leaf (.int .i64 x.gAt.gPackage)), .t (.leaf (.int .i64 x.gAt.gAt)), .t (.row 5 (GEvidence.trs (x.gArgs)))]
theorem GEvidence.tr_cs (x : GEvidence) : x.tr = x.cs := by
  obtain ⟨v0, v1, v2, v3⟩ := x
  simp [GEvidence.tr, GEvidence.cs, GInstanceRef.tr_cs, GInstanceRef.cs]
theorem GEvidence.trs_cs {l : List GEvidence} {k : Nat} (h : k < l.length) : (GEvidence.trs l)[k]? = some (l[k]).cs := by rw [← GEvidence.tr_cs]; exact GEvidence.trs_get h
theorem GEvidence.trs_snoc' (l : List GEvidence) (x : GEvidence) : GEvidence.trs l ++ [x.cs] = GEvidence.trs (l ++ [x]) := by rw [GEvidence.trs_map, GEvidence.trs_map, ← GEvidence.tr_cs]; simp
theorem GEvidence.cs_len (x : GEvidence) : x.cs.length = 5 := rfl
def GAssumption.cs (x : GAssumption) : List Tr := [.leaf (.string x.gGoal.gTrait), .leaf (.int .i64 x.gGoal.gType.gKind), .leaf (.string x.gGoal.gType.gName), .row 3 (GType.trs (x.gGoal.gType.gArgs)), .leaf (.int .i64 x.gFrom), .row 1 (intTrs (x.gSteps))]
def GAssumption.pv (x : GAssumption) : PV := .agg [.t (.leaf (.string x.gGoal.gTrait)), .t (.leaf (.int .i64 x.gGoal.gType.gKind)), .t (.leaf (.string x.gGoal.gType.gName)), .t (.row 3 (GType.trs (x.gGoal.gType.gArgs))), .t (.leaf (.int .i64 x.gFrom)), .t (.row 1 (intTrs (x.gSteps)))]
theorem GAssumption.tr_cs (x : GAssumption) : x.tr = x.cs := by
  obtain ⟨v0, v1, v2⟩ := x
  simp [GAssumption.tr, GAssumption.cs, GBound.tr_cs, GBound.cs]
theorem GAssumption.trs_cs {l : List GAssumption} {k : Nat} (h : k < l.length) : (GAssumption.trs l)[k]? = some (l[k]).cs := by rw [← GAssumption.tr_cs]; exact GAssumption.trs_get h
theorem GAssumption.trs_snoc' (l : List GAssumption) (x : GAssumption) : GAssumption.trs l ++ [x.cs] = GAssumption.trs (l ++ [x]) := by rw [GAssumption.trs_map, GAssumption.trs_map, ← GAssumption.tr_cs]; simp
theorem GAssumption.cs_len (x : GAssumption) : x.cs.length = 6 := rfl
def GCache.cs (x : GCache) : List Tr := [.row 4 (GBound.trs (x.gGoals)), .row 1 (intTrs (x.gCodes)), .row 5 (GEvidence.trs (x.gEvidence))]
def GCache.pv (x : GCache) : PV := .agg [.t (.row 4 (GBound.trs (x.gGoals))), .t (.row 1 (intTrs (x.gCodes))), .t (.row 5 (GEvidence.trs (x.gEvidence)))]
theorem GCache.tr_cs (x : GCache) : x.tr = x.cs := by
  obtain ⟨v0, v1, v2⟩ := x
  simp [GCache.tr, GCache.cs]
theorem GCache.trs_cs {l : List GCache} {k : Nat} (h : k < l.length) : (GCache.trs l)[k]? = some (l[k]).cs := by rw [← GCache.tr_cs]; exact GCache.trs_get h
theorem GCache.trs_snoc' (l : List GCache) (x : GCache) : GCache.trs l ++ [x.cs] = GCache.trs (l ++ [x]) := by rw [GCache.trs_map, GCache.trs_map, ← GCache.tr_cs]; simp
theorem GCache.cs_len (x : GCache) : x.cs.length = 3 := rfl
end Go.Proofs.Ytoifjkggpanceaa

namespace Go.Proofs.Ytoifjkggpanceaa
set_option linter.unusedSimpArgs false
set_option linter.unusedVariables false
open Go.RowKit Go.WalkArith Go.IntWalk Go.WideShapes

section
variable {P : Program} {C : Ctx} {n : Nat} {s : AS} {Q : Exit → AS → Prop} {o : Oper} {ops : Array Oper} {rest : List Oper}
theorem AL.splitB (d : Nat) {b : Bool} {l : List Oper} (_hb : s.lk d = some (.t (.leaf (.bool b)))) (h1 : b = true → AL P C n ops l Q s) (h2 : b = false → AL P C n ops l Q s) : AL P C n ops l Q s := by
  cases b
  · exact h2 rfl
  · exact h1 rfl
theorem AL.cons_gv {s1 : AS} {j d : Nat} {b c : Bool} (hg : o.guard = some (j, c)) (hj : (ops[j]?).bind (·.dst) = some d) (hb : s.lk d = some (.t (.leaf (.bool b)))) (hv : b = c) (ho : AOp P C n o s s1) (h : AL P C n ops rest Q s1) : AL P C n ops (o :: rest) Q s := by
  subst hv
  exact AL.cons_g hg hj hb ho h
theorem AL.skip_v {j d : Nat} {b c e : Bool} (hg : o.guard = some (j, c)) (hj : (ops[j]?).bind (·.dst) = some d) (hb : s.lk d = some (.t (.leaf (.bool b)))) (hv : b = e) (hne : (e == c) = false) (h : AL P C n ops rest Q (s.delO o.dst)) : AL P C n ops (o :: rest) Q s := by
  subst hv
  exact AL.skip hg hj hb hne h
theorem AOp.pickT {x y z : Operand} {b : Bool} {p : PV} (ho : o.op = .pick x y z) (hd : dstOk o.dst n = true) (hx : s.ev x = some (.t (.leaf (.bool b)))) (hb : b = true) (hy : s.ev y = some p) : AOp P C n o s (s.putO o.dst p) :=
  AOp.pick ho hd hx (fun _ => hy) (q := p) (fun h => by rw [hb] at h; cases h)
theorem AOp.pickF {x y z : Operand} {b : Bool} {p : PV} (ho : o.op = .pick x y z) (hd : dstOk o.dst n = true) (hx : s.ev x = some (.t (.leaf (.bool b)))) (hb : b = false) (hz : s.ev z = some p) : AOp P C n o s (s.putO o.dst p) :=
  AOp.pick ho hd hx (fun h => by rw [hb] at h; cases h) (q := p) (fun _ => hz)
theorem AOp.lenN {T : TypeId} {x : Operand} {p : PV} {sz N : Nat} {es : List (List Tr)} {E : Nat × Nat × Nat} (ho : o.op = .call { callee := .builtin .len, args := #[x], argTypes := #[T] }) (hd : dstOk o.dst n = true) (hx : s.ev x = some p) (hp : rowOf p = some (sz, es)) (hT : elemOf? P T = some E) (hl : es.length = N) :
    AOp P C n o s (s.putO o.dst (.t (.leaf (.int .i64 (N : Int))))) := by
  subst hl
  exact AOp.len (ty := 0) ho hd hx hp hT
theorem lk_lenN (i : Nat) {p : PV} {sz N : Nat} {es : List (List Tr)} (hx : s.lk i = some p) (hp : rowOf p = some (sz, es)) (hl : es.length = N) : ∀ m a w, RA C n s m a w → N ≤ 9223372036854775807 := by
  subst hl
  exact lk_len i hx hp
theorem keeps_nil {st' : Sto} (h : C.st = ⟨[], []⟩) : Keeps0 C.st st' := by rw [h]; exact Keeps0.nil
end
theorem nat_lt_of {a b : Nat} (h : decide ((a : Int) < (b : Int)) = true) : a < b := by
  have := of_decide_eq_true h
  omega
theorem nat_ge_of {a b : Nat} (h : decide ((a : Int) < (b : Int)) = false) : b ≤ a := by
  have := of_decide_eq_false h
  omega
end Go.Proofs.Ytoifjkggpanceaa

namespace Go.Proofs.Ytoifjkggpanceaa
set_option linter.unusedSimpArgs false
set_option linter.unusedVariables false
open Go.RowKit Go.WalkArith Go.IntWalk Go.WideShapes

section
variable {P : Program} {C : Ctx} {n : Nat} {s : AS} {Q : Exit → AS → Prop} {o : Oper}
theorem AOp.congr {s1 s2 : AS} (h : AOp P C n o s s1) (e : s1 = s2) : AOp P C n o s s2 := e ▸ h
theorem AOp.quietX {p : PV} (hd : dstOk o.dst n = true) (h : ∀ m a w, RA C n s m a w → ∃ v w1, (execOp a.eval o).run P w = .ok (.value v) w1 ∧ Ext w w1 ∧ RV (okA C.av s.st m) s.st m w1 p v) : AOp P C n o s (s.putO o.dst p) :=
  AOp.run hd (s1 := s) (fun m a w hr => by
    obtain ⟨v, w1, h1, h2, h3⟩ := h m a w hr
    exact ⟨v, m, w1, h1, Ev.later h2, hr.sto.later h2, h3⟩) rfl
theorem evs_cons {x : Operand} {p : PV} {xs : List Operand} {ps : List PV} (h : s.ev x = some p) (k : xs.map s.ev = ps.map some) : (x :: xs).map s.ev = (p :: ps).map some := by simp [h, k]
theorem parts_cons {i : Nat} {x : Operand} {p : PV} {l : List (Nat × Operand)} {r : List (Nat × List PV)} {cs : List PV} (h : s.ev x = some p) (ht : notTup p = true) (hc : cellsP p = cs) (k : partsP s l = some r) : partsP s ((i, x) :: l) = some ((i, cs) :: r) := by
  subst hc
  simp [partsP, h, k, ht]

/-- A literal of data, its row forgotten. -/
theorem AOp.buildSliceQ {T E sz by_ len : Nat} {parts : Array (Nat × Operand)} {ps : List (Nat × List PV)} {zs cs : List PV} {es : List (List Tr)} (ho : o.op = .buildSlice T len parts) (hd : dstOk o.dst n = true) (hT : elemOf? P T = some (E, sz, by_)) (hz : zerosOf P E = some zs) (hp : partsP s parts.toList = some ps)
    (hc : fillP (fun i => some (i * sz, sz)) (List.replicate len zs).flatten ps = some cs) (hle : LeL cs (es.flatten.map PV.t)) (hel : es.length = len) (hes : ∀ e ∈ es, e.length = sz) (hsz : 0 < sz) (hzl : zs.length = sz) (hsm : len * sz ≤ 16777216) :
    AOp P C n o s (s.putO o.dst (.t (.row sz es))) := by
  refine AOp.quietX hd fun m a w h => ?_
  have h1 := AOp.buildSlice (P := P) (C := C) (n := n) (s := s) ho hd hT hz hp hc hle hel hes hsz hzl hsm m a w h
  -- the operation itself
  obtain ⟨i, hu, hi, hs, hby⟩ := elemOf?.spec hT
  obtain ⟨i', z, hi', hzz, hr⟩ := zerosOf.spec hz
  rw [hi] at hi'
  cases hi'
  have hzv := hr (okA C.av s.st m) s.st m w
  have hzs : z.cells.size = sz := by have := hzv.length; rw [hzl] at this; simpa using this.symm
  have hrl : ∀ e ∈ List.replicate len zs, e.length = sz := fun e he => by rw [(List.mem_replicate.1 he).2]; exact hzl
  have hzero : RVL (okA C.av s.st m) s.st m w (List.replicate len zs).flatten ((List.range (len * sz)).map (fun q => z.cells[q % z.cells.size]!)) := by
    refine RVL.of_get (by rw [flatten_len hrl]; simp) fun j p hj => ?_
    have hjl : j < len * sz := by have := get_lt hj; rw [flatten_len hrl] at this; simpa using this
    have hj1 : j / sz < len := by rw [Nat.div_lt_iff_lt_mul hsz]; exact hjl
    have hj2 : j % sz < zs.length := by rw [hzl]; exact Nat.mod_lt _ hsz
    have hpj := flatten_get (i := j / sz) (j := j % sz) (e := zs) (d := zs[j % sz]) hrl (by rw [List.getElem?_replicate, if_pos hj1]) (List.getElem?_eq_getElem hj2)
    rw [show j / sz * sz + j % sz = j by rw [Nat.mul_comm]; exact Nat.div_add_mod j sz, hj] at hpj
    cases hpj
    obtain ⟨v, hv, hrv⟩ := hzv.get (List.getElem?_eq_getElem hj2)
    refine ⟨v, ?_, hrv⟩
    rw [List.getElem?_map, List.getElem?_range hjl]
    simp only [Option.map_some, hzs]
    rw [Array.getElem?_toList] at hv
    obtain ⟨hlt, hve⟩ := Array.getElem?_eq_some_iff.1 hv
    rw [getElem!_pos z.cells _ hlt, hve]
  obtain ⟨us, h2, h3⟩ := fillP_ok (partsP_ok h hp) hzero hc
  have h4 := LeL.rv hle h3
  have hul : us.length = len * sz := by have := h4.length; rw [List.length_map, flatten_len hes, hel] at this; exact this.symm
  have hrun : (Instr.buildSlice T len (parts.map fun (i, x) => (i, a.eval x))).run P w = .ok (.slice (some ⟨w.heap.size, 0, none⟩) len len) (w.alloc (.cells ⟨us⟩ E)) := by
    have hfill : Instr.fill (fun i => some (i * sz, sz)) ((Array.range (len * sz)).map (z.cells[· % z.cells.size]!)) (parts.map fun (i, x) => (i, a.eval x)).toList = some ⟨us⟩ := by
      rw [Array.toList_map, ← h2]
      congr 1
      apply Array.ext'
      simp
    by_cases h0 : len * sz = 0
    · have hl0 : len = 0 := by
        rcases Nat.mul_eq_zero.1 h0 with h | h
        · exact h
        · omega
      subst hl0
      rw [Nat.zero_mul] at hfill
      simp [Instr.buildSlice, run_underlying hu, Go.sizeOf, typeInfo, hi, hs, newRow]
      have e0 : (Array.range 0).map (fun q => z.cells[q % z.cells.size]!) = #[] := by simp
      rw [e0] at hfill
      simp at hfill
      have e1 : (Array.range 0).map (fun _ => (default : Value)) = #[] := by simp
      rw [e1, hfill]
      simp
    · exact run_buildSlice w T E len _ ⟨us⟩ i z hu hi hzz (by rw [hs]; omega) (by rw [hs]; exact h0) (by rw [hs]; exact hfill)
  have hx : Ext w (w.alloc (.cells ⟨us⟩ E)) := .alloc (.refl _) _
  have hm : len ≤ maxLen := by have := Nat.le_mul_of_pos_right len hsz; unfold maxLen; omega
  refine ⟨.slice (some ⟨w.heap.size, 0, none⟩) len len, w.alloc (.cells ⟨us⟩ E), ?_, hx, ?_⟩
  · unfold execOp
    simp [ho, hrun]
  have hget : ∀ q e, es[q]? = some e → ∀ j d, e[j]? = some d → ∃ v, us[q * sz + j]? = some v ∧ RepM (okA C.av s.st m) (w.alloc (.cells ⟨us⟩ E)) d v := fun q e hq j d hj => by
    have hf := flatten_get (sz := sz) hes hq hj
    obtain ⟨v, hv, hrv⟩ := h4.get (j := q * sz + j) (p := .t d) (by rw [List.getElem?_map, hf]; rfl)
    exact ⟨v, hv, RepM.ext hrv hx⟩
  have := RepM.row (ok := okA C.av s.st m) (w := w.alloc (.cells ⟨us⟩ E)) (es := es) (sz := sz) (a := some ⟨w.heap.size, 0, none⟩) (cap := len) (fun q j => (us[q * sz + j]?).getD undef) (by omega) hm (fun _ => ⟨w.heap.size, 0, rfl, by simp, fun q e hq j d hd => ⟨okA_new h.sto (Nat.le_refl _) _, ?_⟩⟩) (fun q e hq j d hd => ?_)
  · rw [hel] at this
    exact this
  · obtain ⟨v, hv, -⟩ := hget q e hq j d hd
    rw [Nat.zero_add, (OB.new w E ⟨us⟩).cell, hv]
    simpa using hv
  · obtain ⟨v, hv, hr⟩ := hget q e hq j d hd
    rw [hv]
    exact hr

def Draw.steps (P : Program) (C : Ctx) (n : Nat) (D : Draw) : Nat → List Oper → Prop
  | _, [] => True
  | i, o :: l => D.step P C n i o ∧ Draw.steps P C n D (i + 1) l
theorem Draw.steps_get {D : Draw} : ∀ {l : List Oper} {k : Nat}, D.steps P C n k l → ∀ (i : Nat) (o : Oper), l[i]? = some o → D.step P C n (k + i) o
  | [], _, _, i, o, h => by simp at h
  | x :: l, k, hs, 0, o, h => by simp at h; subst h; exact hs.1
  | x :: l, k, hs, i + 1, o, h => by
    have := Draw.steps_get (l := l) (k := k + 1) hs.2 i o (by simpa using h)
    rwa [show k + 1 + i = k + (i + 1) by omega] at this
/-- The region as a list; the state behind it told by the caller. -/
theorem AWP.drawnL {id : Nat} {l : List Oper} {s1 : AS} (D : Draw) (hD : D.ops = l.toArray) (hm : P.follows .mixedOrders = true) (hok : D.ok = true) (henv : s.env = D.env0) (hst : s.st = D.F 0 false) (hsteps : D.steps P C n 0 l)
    (h1 : (⟨((List.range D.ops.size).filterMap (D.gX (Array.replicate D.ops.size true))) ++ D.env0, D.F D.effs.length D.alloc.isSome⟩ : AS) = s1) (h : Q .normal s1) : AWP P C n (.region id l.toArray true) Q s := by
  subst h1
  rw [← hD]
  refine AWP.drawn D hm hok henv hst (fun i o ho => ?_) h
  have := Draw.steps_get hsteps i o (by rw [hD] at ho; simpa using ho)
  rwa [Nat.zero_add] at this
end
end Go.Proofs.Ytoifjkggpanceaa

namespace Go.Proofs.Ytoifjkggpanceaa
set_option linter.unusedSimpArgs false
set_option linter.unusedVariables false
open Go.RowKit

def lay0 : Lay := ⟨fun _ => 0, fun _ => none⟩
def av0 : Nat → Nat → Prop := fun _ _ => False
theorem ok0 (b o : Nat) : okA av0 ⟨[], []⟩ lay0 b o := ⟨fun h => h, fun k x h => by simp at h, fun r row g c h => by simp at h⟩
theorem sto0 (w : World) : StoOk av0 ⟨[], []⟩ lay0 w where
  box := fun k x h => by simp at h
  binj := fun k k' x x' h => by simp at h
  row := fun r row h => by simp at h
  rinj := fun r r' row row' g c c' h => by simp at h
  br := fun k x r row g c h => by simp at h
  avlt := fun b o h => h.elim
  avr := fun r row g c h => by simp at h
theorem Ev.ext {m m' : Lay} {w w' : World} {st' : Sto} (h : Ev ⟨[], []⟩ m w st' m' w') : Ext w w' where
  os := h.os
  tape := h.tape
  output := h.output
  size := h.size
  block := fun b hb => h.blk b hb (fun k x h => by simp at h) (fun r row g c h => by simp at h)
/-- The values stand for plain data. -/
abbrev RVL0 (w : World) (ps : List PV) (vs : List Value) : Prop := RVL (okA av0 ⟨[], []⟩ lay0) ⟨[], []⟩ lay0 w ps vs
abbrev RV0 (w : World) (p : PV) (v : Value) : Prop := RV (okA av0 ⟨[], []⟩ lay0) ⟨[], []⟩ lay0 w p v
theorem RV0.agg {w : World} {ts : List Tr} {cs : List Value} (h : RepL w ts cs) : RV0 w (.agg (ts.map PV.t)) (.agg ⟨cs⟩) := ⟨cs, rfl, h.toRVL fun b o _ => ok0 b o⟩
theorem RV0.t {w : World} {t : Tr} {v : Value} (h : Rep w t v) : RV0 w (.t t) v := h.repM fun b o _ => ok0 b o
theorem AFun.plain {P : Program} {f : FuncId} {args : List PV} {d : Value} (h : AFun P f args (.t (.leaf d))) {w : World} {vals : List Value} (hv : RVL0 w args vals) : Calls P f ⟨vals⟩ w fun e w' => e = .returned d ∧ Ext w w' :=
  (h av0 lay0 w vals (sto0 w) hv).mono fun e w' => by
    rintro ⟨res, st', m', v, rfl, ⟨rfl, rfl⟩, -, he, hr⟩
    exact ⟨by rw [(RepM.leaf_eq hr).1], he.ext⟩

end Go.Proofs.Ytoifjkggpanceaa

namespace Go.Proofs.Ytoifjkggpanceaa
set_option linter.unusedSimpArgs false
set_option linter.unusedVariables false
open Go.RowKit Go.WalkArith Go.IntWalk Go.WideShapes

theorem strTrs_all (l : List ByteArray) : ∀ e ∈ strTrs l, e.length = 1 := fun e he => by
  unfold strTrs at he
  obtain ⟨x, _, rfl⟩ := List.mem_map.1 he
  rfl
theorem intTrs_all (l : List Int) : ∀ e ∈ intTrs l, e.length = 1 := fun e he => by
  unfold intTrs at he
  obtain ⟨x, _, rfl⟩ := List.mem_map.1 he
  rfl
theorem strTrs_append (a b : List ByteArray) : strTrs a ++ strTrs b = strTrs (a ++ b) := by simp [strTrs]
theorem intTrs_append (a b : List Int) : intTrs a ++ intTrs b = intTrs (a ++ b) := by simp [intTrs]

section
variable {P : Program} {C : Ctx} {n : Nat} {s : AS} {Q : Exit → AS → Prop} {o : Oper}
theorem AWP.wk {s' : AS} {c : Code} (hw : Wk C n s s') (h : AWP P C n c Q s') : AWP P C n c Q s := fun m a w hr => by
  obtain ⟨m', h'⟩ := hw m a w hr
  exact h m' a w h'
theorem AOp.appendE {T E sz by_ : Nat} {x y : Operand} {es es2 es3 : List (List Tr)} {r : Nat} {row : PRow} {p : PV} (ho : o.op = .call { callee := .builtin .append, args := #[x, y], argTypes := #[T, T] }) (hd : dstOk o.dst n = true)
    (hx : s.ev x = some (.acc sz es r)) (hrow : s.st.rows[r]? = some row) (hes : row.es = es) (hE : row.E = E) (hw : row.whole = false) (hy : s.ev y = some p) (hp : rowOf p = some (sz, es2)) (h2 : ∀ e ∈ es2, e.length = sz)
    (hT : elemOf? P T = some (E, sz, by_)) (hz : (P.info? E).bind (fun i => i.zero.map (fun z => z.cells.size)) = some sz) (hb : 0 < by_) (hlen : (es.length + es2.length) * by_ ≤ 140737488355328) (h3 : es ++ es2 = es3) :
    AOp P C n o s ((⟨s.env, s.st.setRow r { row with es := es3 }⟩ : AS).putO o.dst (.acc sz es3 r)) := by
  subst h3
  exact AOp.append ho hd hx hrow hes hE hw hy hp h2 hT hz hb hlen
theorem AOp.callPE {f : FuncId} {fn : Func} {xs : List Operand} {ts : Array TypeId} {ps qs : List PV} {res : PV} {pre st' S : Sto} (fb fr : List Nat) (ho : o.op = .call { callee := .value (.func f), args := ⟨xs⟩, argTypes := ts }) (hd : dstOk o.dst n = true) (hf : P.funcs[f]? = some fn) (hnm : (fn.name == "runtime.NumGoroutine") = false) (hb : fn.body.isNone = false)
    (hx : xs.map s.ev = ps.map some) (hS : s.st = S) (hp : Part0 S pre fb fr) (hle : LeL ps (renL fb fr qs)) (hok : okInL pre qs = true) (hbl : st'.boxes.length = pre.boxes.length) (hrl : st'.rows.length = pre.rows.length) (hc : ACalls P f qs pre (fun r t => r = res ∧ t = st')) :
    AOp P C n o s ((⟨s.env, S.over st' fb fr⟩ : AS).putO o.dst (PV.ren fb fr res)) := by
  subst hS
  exact AOp.callP fb fr ho hd hf hnm hb hx hp hle hok hbl hrl hc
end

/-- A nil slice is a slice of ours that has not grown yet. -/
theorem ACalls.regNil {P : Program} {f : FuncId} {l1 l2 : List PV} {E sz : Nat} {q res : PV} {t : Sto} (hsz : 0 < sz) (h : ACalls P f (l1 ++ .acc sz [] 0 :: l2) ⟨[], [⟨E, sz, [], false⟩]⟩ (fun r st' => r = res ∧ st' = t)) (hle : PV.Le res q) (hk : PV.okIn ⟨[], []⟩ q = true) : AFun P f (l1 ++ .nil :: l2) q := fun av m w vals hst hv => by
  have hE := ev_addRow (row := ⟨E, sz, [], false⟩) hst
  have hS := sto_addRow (row := ⟨E, sz, [], false⟩) hst hsz rfl
  have hargs : RVL (okA av (Sto.addRow ⟨[], []⟩ ⟨E, sz, [], false⟩) ⟨m.ρ, upd m.γ 0 none⟩) (Sto.addRow ⟨[], []⟩ ⟨E, sz, [], false⟩) ⟨m.ρ, upd m.γ 0 none⟩ w (l1 ++ .acc sz [] 0 :: l2) vals := by
    have h0 := RVL.mono hE _ _ hv
    have hlen := h0.length
    have key : ∀ (l : List PV) (vs : List Value), RVL (okA av (Sto.addRow ⟨[], []⟩ ⟨E, sz, [], false⟩) ⟨m.ρ, upd m.γ 0 none⟩) (Sto.addRow ⟨[], []⟩ ⟨E, sz, [], false⟩) ⟨m.ρ, upd m.γ 0 none⟩ w (l ++ .nil :: l2) vs →
        RVL (okA av (Sto.addRow ⟨[], []⟩ ⟨E, sz, [], false⟩) ⟨m.ρ, upd m.γ 0 none⟩) (Sto.addRow ⟨[], []⟩ ⟨E, sz, [], false⟩) ⟨m.ρ, upd m.γ 0 none⟩ w (l ++ .acc sz [] 0 :: l2) vs := by
      intro l
      induction l with
      | nil =>
        intro vs hh
        match vs, hh with
        | v :: vs, hh =>
          refine ⟨?_, hh.2⟩
          obtain rfl := (show v = _ from hh.1)
          exact ⟨⟨E, sz, [], false⟩, rfl, rfl, Nat.le_refl _, RepM.row (es := []) (fun _ _ => undef) (by simp) (by unfold maxLen; omega) (by simp) (by simp), fun _ => by simp [upd, rowVal]⟩
        | [], hh => exact hh.elim
      | cons p l ih =>
        intro vs hh
        match vs, hh with
        | v :: vs, hh => exact ⟨hh.1, ih vs hh.2⟩
        | [], hh => exact hh.elim
    exact key l1 vals h0
  refine (h av _ w vals hS hargs).mono fun e w' => ?_
  rintro ⟨r, st', m', v, k1, ⟨rfl, rfl⟩, k3, k4, k5⟩
  have hl : StLe st' ⟨[], []⟩ := ⟨fun k x' hx => by simp at hx, fun r row' hr => by simp at hr⟩
  exact ⟨q, ⟨[], []⟩, m', v, k1, ⟨rfl, rfl⟩, hl.sto k3, hl.ev (hE.trans k4) Keeps0.nil, hl.rv q _ hk (hle.rv k5)⟩
end Go.Proofs.Ytoifjkggpanceaa

namespace Go.Proofs.Ytoifjkggpanceaa
set_option linter.unusedSimpArgs false
set_option linter.unusedVariables false
open Go.RowKit Go.WalkArith Go.IntWalk Go.WideShapes

theorem bool2 (b : Bool) : b = true ∨ b = false := by cases b <;> simp
section
variable {P : Program} {C : Ctx} {n : Nat} {s : AS} {o : Oper}
theorem box_lenN (k j : Nat) {bx : PBox} {p : PV} {sz N : Nat} {es : List (List Tr)} (hb : s.st.boxes[k]? = some (some bx)) (hx : bx.cells[j]? = some p) (hp : rowOf p = some (sz, es)) (hl : es.length = N) : ∀ m a w, RA C n s m a w → N ≤ 9223372036854775807 := by
  subst hl
  exact box_len k j hb hx hp
theorem box_len2 (k j : Nat) {bx : PBox} {p : PV} {sz sz2 i j2 N : Nat} {es es2 : List (List Tr)} {e : List Tr} (hb : s.st.boxes[k]? = some (some bx)) (hx : bx.cells[j]? = some p) (hp : rowOf p = some (sz, es)) (he : es[i]? = some e) (h2 : e[j2]? = some (.row sz2 es2)) (hl : es2.length = N) : ∀ m a w, RA C n s m a w → N ≤ 9223372036854775807 := fun m a w h => by
  subst hl
  obtain ⟨vs, -, h1⟩ := h.sto.box k bx hb
  obtain ⟨v, -, hr⟩ := h1.get hx
  have hr := rowOf_rv hp hr
  cases hr with
  | row c h3 h4 h5 h6 =>
    obtain ⟨ad, cap, -, k2, k3⟩ := (h6 i e he j2 _ h2).shape
    unfold maxLen at k3
    omega
theorem AOp.indexI {T E sz by_ : Nat} {x i : Operand} {p : PV} {es : List (List Tr)} {e : List Tr} {y : Int} (ho : o.op = .indexAddr T x i) (hd : dstOk o.dst n = true) (hx : s.ev x = some p) (hp : rowOf p = some (sz, es)) (hi : s.ev i = some (.t (.leaf (.int .i64 y)))) (h0 : 0 ≤ y)
    (he : es[y.toNat]? = some e) (hT : elemOf? P T = some (E, sz, by_)) : AOp P C n o s (s.putO o.dst (.eptr e)) :=
  AOp.index (k := y.toNat) ho hd hx hp (by rw [hi, Int.toNat_of_nonneg h0]) he hT
end
end Go.Proofs.Ytoifjkggpanceaa

namespace Go.Proofs.Ytoifjkggpanceaa
set_option linter.unusedSimpArgs false
set_option linter.unusedVariables false
open Go.RowKit Go.WalkArith Go.IntWalk Go.WideShapes

theorem ev_newBox {st : Sto} {m : Lay} {w w' : World} {x : PBox} {b : Nat} (hx : Ext w w') (hb : w.heap.size ≤ b) : Ev st m w (st.addBox x) ⟨upd m.ρ st.boxes.length b, m.γ⟩ w' := by
  refine ⟨hx.os, hx.tape, hx.output, hx.size, fun b hb _ _ => hx.block b hb, fun b o hb _ => heap_other_cell (hx.block b hb), fun c o hc h => ⟨fun k y hk => ?_, h.2⟩, fun k y hk => ⟨⟨y, ?_⟩, ?_⟩, fun k y hk => ?_, fun _ row h => ⟨row, h, rfl, Nat.le_refl _, fun _ => rfl, fun h => ⟨h, rfl⟩⟩, fun _ row _ c h h' => .inl ⟨row, c, h, h'⟩⟩
  · rcases addBox_live hk with ⟨h1, h2⟩ | ⟨rfl, rfl⟩
    · simp only [upd_ne (show k ≠ st.boxes.length by omega)]
      exact h.1 k y h2
    · simp only [upd_same]
      omega
  · show (st.boxes ++ [some x])[k]? = _
    rw [List.getElem?_append_left (get_lt hk)]; exact hk
  · exact upd_ne (by have := get_lt hk; omega)
  · rcases addBox_live hk with ⟨h1, h2⟩ | ⟨rfl, rfl⟩
    · exact .inl ⟨y, h2⟩
    · exact .inr (by simpa [upd_same] using hb)
theorem sto_newBox {av : Nat → Nat → Prop} {st : Sto} {m : Lay} {w w' : World} {x : PBox} {b : Nat} {vs : List Value} (h : StoOk av st m w) (hx : Ext w w') (hb : w.heap.size ≤ b) (ho : OB w' b x.ty ⟨vs⟩)
    (hc : RVL (okA av (st.addBox x) ⟨upd m.ρ st.boxes.length b, m.γ⟩) (st.addBox x) ⟨upd m.ρ st.boxes.length b, m.γ⟩ w' x.cells vs) : StoOk av (st.addBox x) ⟨upd m.ρ st.boxes.length b, m.γ⟩ w' := by
  have he : Ev st m w (st.addBox x) ⟨upd m.ρ st.boxes.length b, m.γ⟩ w' := ev_newBox hx hb
  have hw := fun k y (hk : st.boxes[k]? = some (some y)) => h.box_lt hk
  refine ⟨fun k y hk => ?_, fun k k' y y' hk hk' hne => ?_, fun r row hr => ?_, h.rinj, fun k y r row g c hk hr hg => ?_, fun b o hb => Nat.lt_of_lt_of_le (h.avlt b o hb) hx.size, h.avr⟩
  · rcases addBox_live hk with ⟨h1, h2⟩ | ⟨rfl, rfl⟩
    · obtain ⟨us, k1, k2⟩ := h.box k y h2
      simp only [upd_ne (show k ≠ st.boxes.length by omega)]
      exact ⟨us, k1.ext hx, RVL.mono he _ _ k2⟩
    · simp only [upd_same]
      exact ⟨vs, ho, hc⟩
  · rcases addBox_live hk with ⟨h1, h2⟩ | ⟨rfl, rfl⟩ <;> rcases addBox_live hk' with ⟨h1', h2'⟩ | ⟨rfl, rfl⟩
    · simp only [upd_ne (show k ≠ st.boxes.length by omega), upd_ne (show k' ≠ st.boxes.length by omega)]
      exact h.binj k k' y y' h2 h2' hne
    · simp only [upd_ne (show k ≠ st.boxes.length by omega), upd_same]
      have := hw k y h2
      omega
    · simp only [upd_ne (show k' ≠ st.boxes.length by omega), upd_same]
      have := hw k' y' h2'
      omega
    · exact absurd rfl hne
  · obtain ⟨k1, k2, k3⟩ := h.row r row hr
    refine ⟨k1, k2, ?_⟩
    rcases k3 with k3 | ⟨g, c, cur, q1, q2, q3, q4, q5, q6⟩
    · exact .inl k3
    · exact .inr ⟨g, c, cur, q1, q2.ext hx, q3, q4, q5, RV.mono he (.t _) _ q6⟩
  · rcases addBox_live hk with ⟨h1, h2⟩ | ⟨rfl, rfl⟩
    · simp only [upd_ne (show k ≠ st.boxes.length by omega)]
      exact h.br k y r row g c h2 hr hg
    · simp only [upd_same]
      have := h.row_lt hr hg
      omega

/-- The function is handed data, and returns a pointer to a box of its own making, of type T, that holds cs. -/
def ANew (P : Program) (f : FuncId) (args : List PV) (T : TypeId) (cs : List PV) : Prop := ACalls P f args ⟨[], []⟩ (fun r st' => ∃ k, r = .ptr k 0 ∧ st'.rows = [] ∧ (∀ i x, st'.boxes[i]? = some (some x) → i = k) ∧ st'.boxes[k]? = some (some ⟨T, cs⟩))

section
variable {P : Program} {C : Ctx} {n : Nat} {s : AS} {o : Oper}
theorem AOp.callNew {f : FuncId} {fn : Func} {xs : List Operand} {ts : Array TypeId} {ps qs cs : List PV} {T : TypeId} (ho : o.op = .call { callee := .value (.func f), args := ⟨xs⟩, argTypes := ts }) (hd : dstOk o.dst n = true) (hf : P.funcs[f]? = some fn) (hnm : (fn.name == "runtime.NumGoroutine") = false) (hb : fn.body.isNone = false)
    (hx : xs.map s.ev = ps.map some) (hle : LeL ps qs) (hfr : freeL qs = true) (hfr' : freeL cs = true) (hc : ANew P f qs T cs) : AOp P C n o s ((⟨s.env, s.st.addBox ⟨T, cs⟩⟩ : AS).putO o.dst (.ptr s.st.boxes.length 0)) := fun m a w h K Q hK => by
  have h2 := evL h hx
  have h1 : (execOp a.eval o).run P w = .ok (.enter f ⟨xs.map a.eval⟩) w := by
    have hcf := run_callFunc_body (P := P) hf hnm hb
    unfold execOp
    simp only [ho]
    simp [resolve, invoke, Deferred.ofValue, Act.eval, hcf]
  unfold Oper.wp
  rw [h1]
  have h3 := hc (shut C s m w) m w _ (StoOk.nil fun b o hb => hb.1) (freeL.rv (fun b o hb hk => ⟨fun hs => hs.2 hk, fun _ _ h => by simp at h, fun _ _ _ _ h => by simp at h⟩) _ _ hfr (LeL.rv hle h2))
  refine Calls.mono h3 fun e w' => ?_
  rintro ⟨r, st', m', v, rfl, ⟨k, rfl, hrows, honly, hbox⟩, h4, h5, h6⟩
  have hx : Ext w w' := ⟨h5.os, h5.tape, h5.output, h5.size, fun b hb => h5.blk b hb (fun _ _ h => by simp at h) (fun _ _ _ _ h => by simp at h)⟩
  have hfresh : w.heap.size ≤ m'.ρ k := by
    rcases h5.fresh k _ hbox with ⟨x, hx0⟩ | hf
    · simp at hx0
    · exact hf
  obtain ⟨vs, hob, hcs⟩ := h4.box k _ hbox
  have hk : ∀ b o, b < w'.heap.size → okA (shut C s m w) st' m' b o → okA C.av (s.st.addBox ⟨T, cs⟩) ⟨upd m.ρ s.st.boxes.length (m'.ρ k), m.γ⟩ b o := fun b o hb hk => by
    have hnew : m'.ρ k ≠ b := hk.2.1 k _ hbox
    have h0 : okA C.av s.st m b o := by
      rcases Nat.lt_or_ge b w.heap.size with hlt | hge
      · exact Classical.byContradiction fun hn => hk.1 ⟨hlt, hn⟩
      · exact okA_new h.sto hge o
    refine ⟨h0.1, fun i y hi => ?_, h0.2.2⟩
    rcases addBox_live hi with ⟨q1, q2⟩ | ⟨rfl, rfl⟩
    · simp only [upd_ne (show i ≠ s.st.boxes.length by omega)]
      exact h0.2.1 i y q2
    · simp only [upd_same]
      exact hnew
  have hE : Ev s.st m w (s.st.addBox ⟨T, cs⟩) ⟨upd m.ρ s.st.boxes.length (m'.ρ k), m.γ⟩ w' := ev_newBox hx hfresh
  have hS : StoOk C.av (s.st.addBox ⟨T, cs⟩) ⟨upd m.ρ s.st.boxes.length (m'.ρ k), m.γ⟩ w' := sto_newBox h.sto hx hfresh hob (freeL.rv hk _ _ hfr' hcs)
  have hv : v = .pointer (some ⟨m'.ρ k, 0, none⟩) := h6.2
  exact hK _ _ w' ((h.step hE hS).put (dstOk_lt hd) ⟨⟨⟨T, cs⟩, by simp [Sto.addBox]⟩, by simp [upd_same, hv]⟩)
end
end Go.Proofs.Ytoifjkggpanceaa

namespace Go.Proofs.Ytoifjkggpanceaa
set_option linter.unusedSimpArgs false
set_option linter.unusedVariables false
open Go.RowKit Go.WalkArith Go.IntWalk Go.WideShapes

def iAnd (x y : Int) : Int := IntKind.wrap .i64 ((BitVec.ofInt 64 x &&& BitVec.ofInt 64 y).toNat : Int)
def iXor (x y : Int) : Int := IntKind.wrap .i64 ((BitVec.ofInt 64 x ^^^ BitVec.ofInt 64 y).toNat : Int)
def iShr (x y : Int) : Int := x.fdiv (2 ^ (min y.toNat 64))
def wrap64 (x : Int) : Int := IntKind.wrap .i64 x

section
variable {P : Program} {C : Ctx} {n : Nat} {s : AS} {o : Oper}
/-- A constant of which nothing is said. -/
theorem AOp.moveAny {v : Value} (ho : o.op = .assign (.const v) ∨ o.op = .move (.const v)) : AOp P C n o s (s.delO o.dst) := fun m a w h K Q hK => by
  have h1 : (execOp a.eval o).run P w = .ok (.value v) w := by
    unfold execOp
    rcases ho with ho | ho <;> simp [ho, Act.eval]
  unfold Oper.wp
  rw [h1]
  exact hK m _ w (h.del o.dst v)
theorem AOp.andI {T yT : TypeId} {x y : Operand} {a b : Int} (ho : o.op = .binOp .and T x y yT) (hd : dstOk o.dst n = true) (hx : s.ev x = some (.t (.leaf (.int .i64 a)))) (hy : s.ev y = some (.t (.leaf (.int .i64 b)))) :
    AOp P C n o s (s.putO o.dst (.t (.leaf (.int .i64 (iAnd a b))))) := AOp.bin ho hd hx hy (fun w => by rfl) (wf_wrap .i64 _)
theorem AOp.xorI {T yT : TypeId} {x y : Operand} {a b : Int} (ho : o.op = .binOp .xor T x y yT) (hd : dstOk o.dst n = true) (hx : s.ev x = some (.t (.leaf (.int .i64 a)))) (hy : s.ev y = some (.t (.leaf (.int .i64 b)))) :
    AOp P C n o s (s.putO o.dst (.t (.leaf (.int .i64 (iXor a b))))) := AOp.bin ho hd hx hy (fun w => by rfl) (wf_wrap .i64 _)
theorem AOp.shrI {T yT : TypeId} {x y : Operand} {a b : Int} {k : IntKind} (ho : o.op = .binOp .shr T x y yT) (hd : dstOk o.dst n = true) (hx : s.ev x = some (.t (.leaf (.int .i64 a)))) (hy : s.ev y = some (.t (.leaf (.int k b)))) (hb : 0 ≤ b) (h1 : -9223372036854775808 ≤ iShr a b) (h2 : iShr a b ≤ 9223372036854775807) :
    AOp P C n o s (s.putO o.dst (.t (.leaf (.int .i64 (iShr a b))))) := AOp.bin ho hd hx hy (fun w => by
      have : ¬ b < 0 := by omega
      simp [eqGuard, binOp, Op.shift, iShr, IntKind.bits, this]) (wf_i64 (by omega))
theorem AOp.remN {T yT : TypeId} {x y : Operand} {a b : Nat} (ho : o.op = .binOp .rem T x y yT) (hd : dstOk o.dst n = true) (hx : s.ev x = some (.t (.leaf (.int .i64 (a : Int))))) (hy : s.ev y = some (.t (.leaf (.int .i64 (b : Int))))) (hb : 0 < b) (ha : a ≤ 9223372036854775807) :
    AOp P C n o s (s.putO o.dst (.t (.leaf (.int .i64 ((a % b : Nat) : Int))))) := AOp.bin ho hd hx hy (fun w => by
      have : ¬ (b : Int) = 0 := by omega
      have : ¬ b = 0 := by omega
      simp [eqGuard, binOp, Op.intDiv, this, Int.tmod_eq_emod_of_nonneg]) (wf_i64 (by have := Nat.mod_le a b; omega))
theorem AOp.convI {S T : TypeId} {x : Operand} {k : IntKind} {a : Int} (ho : o.op = .convert S T x) (hd : dstOk o.dst n = true) (hx : s.ev x = some (.t (.leaf (.int k a)))) (hS : ∃ k', P.underlying S = some (.int k')) (hT : P.underlying T = some (.int .i64)) (h1 : -9223372036854775808 ≤ a) (h2 : a ≤ 9223372036854775807) :
    AOp P C n o s (s.putO o.dst (.t (.leaf (.int .i64 a)))) :=
  AOp.quiet (dstOk_lt hd) fun m ac w h => ⟨.int .i64 a, by
    have h3 := (RepM.leaf_eq (h.eval hx)).1
    obtain ⟨k', hS⟩ := hS
    have hw : IntKind.wrap .i64 a = a := by unfold IntKind.wrap; simp [IntKind.bits, IntKind.signed]; omega
    unfold execOp
    simp [ho, h3, convert, run_underlying hS, run_underlying hT, Conv.intToInt, hw], RepM.leaf (wf_i64 (by omega))⟩
end
end Go.Proofs.Ytoifjkggpanceaa

namespace Go.Proofs.Ytoifjkggpanceaa
open Go.RowKit Go.Proofs
set_option linter.unusedSimpArgs false
set_option linter.unusedVariables false


def byteTrs (l : List UInt8) : List (List Tr) := l.map fun b => [.leaf (.int .u8 (b.toNat : Int))]
theorem byteTrs_len (l : List UInt8) : (byteTrs l).length = l.length := by simp [byteTrs]
theorem byteTrs_cs {l : List UInt8} {k : Nat} (h : k < l.length) : (byteTrs l)[k]? = some [.leaf (.int .u8 ((l[k]).toNat : Int))] := by simp [byteTrs, h]
/-- The state of the source: the bytes, the place, the number. -/
structure DS where
  code : List UInt8
  p : Nat
  h : Int
def DS.cells (d : DS) : List PV := [.t (.row 1 (byteTrs d.code)), .t (.leaf (.int .i64 (d.p : Int))), .t (.leaf (.int .i64 d.h))]
abbrev DS.box (T : TypeId) (d : DS) : Sto := ⟨[some ⟨T, d.cells⟩], []⟩
def nextH (h : Int) : Int := wrap64 (wrap64 (h * 6364136223846793005) + 1442695040888963407)
theorem wrap64_in (x : Int) : -9223372036854775808 ≤ wrap64 x ∧ wrap64 x ≤ 9223372036854775807 := by
  unfold wrap64 IntKind.wrap
  simp [IntKind.bits, IntKind.signed]
  omega
theorem iShr_in {x y : Int} (h : -9223372036854775808 ≤ x ∧ x ≤ 9223372036854775807) : -9223372036854775808 ≤ iShr x y ∧ iShr x y ≤ 9223372036854775807 := by
  unfold iShr
  generalize min y.toNat 64 = k
  have hp : (1 : Int) ≤ 2 ^ k := by
    have := Nat.one_le_two_pow (n := k)
    exact_mod_cast this
  generalize (2 : Int) ^ k = d at hp
  rw [Int.fdiv_eq_ediv_of_nonneg _ (by omega)]
  have h1 : x / d ≤ 9223372036854775807 := by
    have : x / d ≤ 9223372036854775807 / d := Int.ediv_le_ediv (by omega) h.2
    have : (9223372036854775807 : Int) / d ≤ 9223372036854775807 := Int.ediv_le_self _ (by omega)
    omega
  have h2 : -9223372036854775808 ≤ x / d := by
    rw [Int.le_ediv_iff_mul_le (by omega)]
    omega
  exact ⟨h2, h1⟩
def DS.byte (d : DS) : Int := let x := iAnd (iXor (iShr (nextH d.h) 33) (iShr (nextH d.h) 45)) 255; if h : d.p < d.code.length then iAnd (wrap64 (x + (d.code[d.p].toNat : Int))) 255 else x
def DS.next (d : DS) : DS := ⟨d.code, if d.p < d.code.length then d.p + 1 else d.p, nextH d.h⟩
theorem iAnd_255 (x : Int) : 0 ≤ iAnd x 255 ∧ iAnd x 255 ≤ 255 := by
  unfold iAnd
  have h : (BitVec.ofInt 64 x &&& BitVec.ofInt 64 255).toNat ≤ 255 := by
    rw [BitVec.toNat_and]
    exact Nat.le_trans Nat.and_le_right (by decide)
  generalize (BitVec.ofInt 64 x &&& BitVec.ofInt 64 255).toNat = k at h
  unfold IntKind.wrap
  simp [IntKind.bits, IntKind.signed]
  omega
theorem DS.byte_in (d : DS) : 0 ≤ d.byte ∧ d.byte ≤ 255 := by
  unfold DS.byte
  split
  · exact iAnd_255 _
  · exact iAnd_255 _
def DS.byteN (d : DS) : Nat := d.byte.toNat
theorem DS.byteN_le (d : DS) : d.byteN ≤ 255 := by have := d.byte_in; unfold DS.byteN; omega
theorem DS.byteN_eq (d : DS) : ((d.byteN : Nat) : Int) = d.byte := by have := d.byte_in; unfold DS.byteN; omega
def DS.below (d : DS) (n : Nat) : Nat := if n = 0 then 0 else if n ≤ 256 then d.byteN % n else (d.byteN * 16777216 + d.next.byteN * 65536 + d.next.next.byteN * 256 + d.next.next.next.byteN) % n
def DS.after (d : DS) (n : Nat) : DS := if n = 0 then d else if n ≤ 256 then d.next else d.next.next.next.next
theorem DS.below_lt (d : DS) {n : Nat} (h : 0 < n) : d.below n < n := by
  unfold DS.below
  rw [if_neg (by omega)]
  split
  · exact Nat.mod_lt _ h
  · exact Nat.mod_lt _ h
def DS.pick (d : DS) (l : List ByteArray) : ByteArray := (l[d.below l.length]?).getD ⟨#[]⟩
theorem DS.pick_eq {d : DS} {l : List ByteArray} (h : d.below l.length < l.length) : d.pick l = l[d.below l.length] := by simp [DS.pick, h]
def newStep (h : Int) (b : UInt8) : Int := iAnd (wrap64 (wrap64 (wrap64 (h * 131) + (b.toNat : Int)) + 7)) 1073741823
def newH (code : List UInt8) : Int := (code.take 4000).foldl newStep (28803 + (code.length : Int))
def DS.start (code : List UInt8) : DS := ⟨code, 0, newH code⟩
theorem newH_next {code : List UInt8} {i : Nat} {h h' r : Int} (h1 : i < code.length) (h2 : i < 4000) (hr : r = ((code.take 4000).drop i).foldl newStep h) (hs : newStep h code[i] = h') : r = ((code.take 4000).drop (i + 1)).foldl newStep h' := by
  have hl : i < (code.take 4000).length := by simp; omega
  rw [hr, List.drop_eq_getElem_cons hl, List.foldl_cons, List.getElem_take, hs]
theorem newH_end {code : List UInt8} {i : Nat} {h r : Int} (h1 : code.length ≤ i ∨ 4000 ≤ i) (hr : r = ((code.take 4000).drop i).foldl newStep h) : r = h := by
  rw [hr, List.drop_of_length_le (by simp; omega), List.foldl_nil]
theorem keeps_box {C : Ctx} {x : PBox} {S : Sto} (h : C.st = ⟨[some x], []⟩) (hs : ∃ y, S.boxes[0]? = some (some y)) : Keeps0 C.st S := by
  rw [h]
  exact ⟨fun k z hz => by
    rcases k with _ | k
    · exact hs
    · simp at hz, fun r row hr => by simp at hr⟩

end Go.Proofs.Ytoifjkggpanceaa

namespace Go.Proofs.Ytoifjkggpanceaa
open Go.RowKit Go.Proofs

theorem sh3 : shapeOf Try.prog 3 = some (false, 1) := by kernel_rfl
theorem sz3 : (Try.prog.info? 3).map (·.size) = some 1 := by kernel_rfl
theorem zr3 : zerosOf Try.prog 3 = some [.t (.leaf (.int .i64 0))] := by kernel_rfl
theorem sh4 : shapeOf Try.prog 4 = some (false, 1) := by kernel_rfl
theorem sz4 : (Try.prog.info? 4).map (·.size) = some 1 := by kernel_rfl
theorem zr4 : zerosOf Try.prog 4 = some [.t (.leaf (.bool false))] := by kernel_rfl
theorem sh5 : shapeOf Try.prog 5 = some (false, 1) := by kernel_rfl
theorem sz5 : (Try.prog.info? 5).map (·.size) = some 1 := by kernel_rfl
theorem zr5 : zerosOf Try.prog 5 = some [.t (.leaf (.int .u8 0))] := by kernel_rfl
theorem sh9 : shapeOf Try.prog 9 = some (false, 1) := by kernel_rfl
theorem sz9 : (Try.prog.info? 9).map (·.size) = some 1 := by kernel_rfl
theorem zr9 : zerosOf Try.prog 9 = some [.t (.leaf (.string ⟨#[]⟩))] := by kernel_rfl
theorem sh22 : shapeOf Try.prog 22 = some (false, 1) := by kernel_rfl
theorem sz22 : (Try.prog.info? 22).map (·.size) = some 1 := by kernel_rfl
theorem el22 : elemOf? Try.prog 22 = some (24, 3, 48) := by kernel_rfl
theorem ze22 : (Try.prog.info? 24).bind (fun i => i.zero.map (fun z => z.cells.size)) = some 3 := by kernel_rfl
theorem zr22 : zerosOf Try.prog 22 = some [.nil] := by kernel_rfl
theorem sh24 : shapeOf Try.prog 24 = some (true, 3) := by kernel_rfl
theorem sz24 : (Try.prog.info? 24).map (·.size) = some 3 := by kernel_rfl
theorem zr24 : zerosOf Try.prog 24 = some [.t (.leaf (.int .i64 0)), .t (.leaf (.string ⟨#[]⟩)), .nil] := by kernel_rfl
theorem sh26 : shapeOf Try.prog 26 = some (true, 4) := by kernel_rfl
theorem sz26 : (Try.prog.info? 26).map (·.size) = some 4 := by kernel_rfl
theorem zr26 : zerosOf Try.prog 26 = some [.t (.leaf (.string ⟨#[]⟩)), .t (.leaf (.int .i64 0)), .t (.leaf (.string ⟨#[]⟩)), .nil] := by kernel_rfl
theorem sh30 : shapeOf Try.prog 30 = some (false, 1) := by kernel_rfl
theorem sz30 : (Try.prog.info? 30).map (·.size) = some 1 := by kernel_rfl
theorem el30 : elemOf? Try.prog 30 = some (32, 3, 48) := by kernel_rfl
theorem ze30 : (Try.prog.info? 32).bind (fun i => i.zero.map (fun z => z.cells.size)) = some 3 := by kernel_rfl
theorem zr30 : zerosOf Try.prog 30 = some [.nil] := by kernel_rfl
theorem sh32 : shapeOf Try.prog 32 = some (true, 3) := by kernel_rfl
theorem sz32 : (Try.prog.info? 32).map (·.size) = some 3 := by kernel_rfl
theorem zr32 : zerosOf Try.prog 32 = some [.t (.leaf (.int .i64 0)), .t (.leaf (.string ⟨#[]⟩)), .nil] := by kernel_rfl
theorem pl32 : placesOf Try.prog 32 = some [(0, 1), (1, 1), (2, 1)] := by kernel_rfl
theorem sh34 : shapeOf Try.prog 34 = some (true, 4) := by kernel_rfl
theorem sz34 : (Try.prog.info? 34).map (·.size) = some 4 := by kernel_rfl
theorem zr34 : zerosOf Try.prog 34 = some [.t (.leaf (.string ⟨#[]⟩)), .t (.leaf (.int .i64 0)), .t (.leaf (.string ⟨#[]⟩)), .nil] := by kernel_rfl
theorem pl34 : placesOf Try.prog 34 = some [(0, 1), (1, 3)] := by kernel_rfl
theorem sh38 : shapeOf Try.prog 38 = some (false, 1) := by kernel_rfl
theorem sz38 : (Try.prog.info? 38).map (·.size) = some 1 := by kernel_rfl
theorem sh41 : shapeOf Try.prog 41 = some (true, 2) := by kernel_rfl
theorem sz41 : (Try.prog.info? 41).map (·.size) = some 2 := by kernel_rfl
theorem zr41 : zerosOf Try.prog 41 = some [.t (.leaf (.int .i64 0)), .t (.leaf (.int .i64 0))] := by kernel_rfl
theorem sh42 : shapeOf Try.prog 42 = some (false, 1) := by kernel_rfl
theorem sz42 : (Try.prog.info? 42).map (·.size) = some 1 := by kernel_rfl
theorem el42 : elemOf? Try.prog 42 = some (44, 5, 56) := by kernel_rfl
theorem ze42 : (Try.prog.info? 44).bind (fun i => i.zero.map (fun z => z.cells.size)) = some 5 := by kernel_rfl
theorem zr42 : zerosOf Try.prog 42 = some [.nil] := by kernel_rfl
theorem sh44 : shapeOf Try.prog 44 = some (true, 5) := by kernel_rfl
theorem sz44 : (Try.prog.info? 44).map (·.size) = some 5 := by kernel_rfl
theorem zr44 : zerosOf Try.prog 44 = some [.t (.leaf (.int .i64 0)), .t (.leaf (.int .i64 0)), .t (.leaf (.int .i64 0)), .t (.leaf (.int .i64 0)), .nil] := by kernel_rfl
theorem sh45 : shapeOf Try.prog 45 = some (false, 1) := by kernel_rfl
theorem sz45 : (Try.prog.info? 45).map (·.size) = some 1 := by kernel_rfl
theorem el45 : elemOf? Try.prog 45 = some (3, 1, 8) := by kernel_rfl
theorem ze45 : (Try.prog.info? 3).bind (fun i => i.zero.map (fun z => z.cells.size)) = some 1 := by kernel_rfl
theorem zr45 : zerosOf Try.prog 45 = some [.nil] := by kernel_rfl
theorem sh47 : shapeOf Try.prog 47 = some (true, 2) := by kernel_rfl
theorem sz47 : (Try.prog.info? 47).map (·.size) = some 2 := by kernel_rfl
theorem zr47 : zerosOf Try.prog 47 = some [.t (.leaf (.int .i64 0)), .t (.leaf (.int .i64 0))] := by kernel_rfl
theorem sh48 : shapeOf Try.prog 48 = some (false, 1) := by kernel_rfl
theorem sz48 : (Try.prog.info? 48).map (·.size) = some 1 := by kernel_rfl
theorem el48 : elemOf? Try.prog 48 = some (50, 5, 56) := by kernel_rfl
theorem ze48 : (Try.prog.info? 50).bind (fun i => i.zero.map (fun z => z.cells.size)) = some 5 := by kernel_rfl
theorem zr48 : zerosOf Try.prog 48 = some [.nil] := by kernel_rfl
theorem sh50 : shapeOf Try.prog 50 = some (true, 5) := by kernel_rfl
theorem sz50 : (Try.prog.info? 50).map (·.size) = some 5 := by kernel_rfl
theorem zr50 : zerosOf Try.prog 50 = some [.t (.leaf (.int .i64 0)), .t (.leaf (.int .i64 0)), .t (.leaf (.int .i64 0)), .t (.leaf (.int .i64 0)), .nil] := by kernel_rfl
theorem pl50 : placesOf Try.prog 50 = some [(0, 1), (1, 1), (2, 2), (4, 1)] := by kernel_rfl
theorem sh59 : shapeOf Try.prog 59 = some (false, 1) := by kernel_rfl
theorem sz59 : (Try.prog.info? 59).map (·.size) = some 1 := by kernel_rfl
theorem el59 : elemOf? Try.prog 59 = some (5, 1, 1) := by kernel_rfl
theorem ze59 : (Try.prog.info? 5).bind (fun i => i.zero.map (fun z => z.cells.size)) = some 1 := by kernel_rfl
theorem zr59 : zerosOf Try.prog 59 = some [.nil] := by kernel_rfl
theorem sh61 : shapeOf Try.prog 61 = some (false, 1) := by kernel_rfl
theorem sz61 : (Try.prog.info? 61).map (·.size) = some 1 := by kernel_rfl
theorem el61 : elemOf? Try.prog 61 = some (151, 6, 136) := by kernel_rfl
theorem ze61 : (Try.prog.info? 151).bind (fun i => i.zero.map (fun z => z.cells.size)) = some 6 := by kernel_rfl
theorem zr61 : zerosOf Try.prog 61 = some [.nil] := by kernel_rfl
theorem sh63 : shapeOf Try.prog 63 = some (true, 1) := by kernel_rfl
theorem sz63 : (Try.prog.info? 63).map (·.size) = some 1 := by kernel_rfl
theorem zr63 : zerosOf Try.prog 63 = some [.nil] := by kernel_rfl
theorem pl63 : placesOf Try.prog 63 = some [(0, 1)] := by kernel_rfl
theorem sh66 : shapeOf Try.prog 66 = some (false, 1) := by kernel_rfl
theorem sz66 : (Try.prog.info? 66).map (·.size) = some 1 := by kernel_rfl
theorem el66 : elemOf? Try.prog 66 = some (9, 1, 16) := by kernel_rfl
theorem ze66 : (Try.prog.info? 9).bind (fun i => i.zero.map (fun z => z.cells.size)) = some 1 := by kernel_rfl
theorem zr66 : zerosOf Try.prog 66 = some [.nil] := by kernel_rfl
theorem sh73 : shapeOf Try.prog 73 = some (false, 1) := by kernel_rfl
theorem sz73 : (Try.prog.info? 73).map (·.size) = some 1 := by kernel_rfl
theorem el73 : elemOf? Try.prog 73 = some (214, 16, 264) := by kernel_rfl
theorem ze73 : (Try.prog.info? 214).bind (fun i => i.zero.map (fun z => z.cells.size)) = some 16 := by kernel_rfl
theorem zr73 : zerosOf Try.prog 73 = some [.nil] := by kernel_rfl
theorem sh75 : shapeOf Try.prog 75 = some (true, 5) := by kernel_rfl
theorem sz75 : (Try.prog.info? 75).map (·.size) = some 5 := by kernel_rfl
theorem zr75 : zerosOf Try.prog 75 = some [.t (.leaf (.string ⟨#[]⟩)), .nil, .t (.leaf (.bool false)), .t (.leaf (.bool false)), .nil] := by kernel_rfl
theorem pl75 : placesOf Try.prog 75 = some [(0, 1), (1, 1), (2, 1), (3, 1), (4, 1)] := by kernel_rfl
theorem sh79 : shapeOf Try.prog 79 = some (false, 1) := by kernel_rfl
theorem sz79 : (Try.prog.info? 79).map (·.size) = some 1 := by kernel_rfl
theorem el79 : elemOf? Try.prog 79 = some (157, 6, 96) := by kernel_rfl
theorem ze79 : (Try.prog.info? 157).bind (fun i => i.zero.map (fun z => z.cells.size)) = some 6 := by kernel_rfl
theorem zr79 : zerosOf Try.prog 79 = some [.nil] := by kernel_rfl
theorem sh82 : shapeOf Try.prog 82 = some (false, 1) := by kernel_rfl
theorem sz82 : (Try.prog.info? 82).map (·.size) = some 1 := by kernel_rfl
theorem el82 : elemOf? Try.prog 82 = some (159, 6, 96) := by kernel_rfl
theorem ze82 : (Try.prog.info? 159).bind (fun i => i.zero.map (fun z => z.cells.size)) = some 6 := by kernel_rfl
theorem zr82 : zerosOf Try.prog 82 = some [.nil] := by kernel_rfl
theorem sh86 : shapeOf Try.prog 86 = some (false, 1) := by kernel_rfl
theorem sz86 : (Try.prog.info? 86).map (·.size) = some 1 := by kernel_rfl
theorem el86 : elemOf? Try.prog 86 = some (34, 4, 64) := by kernel_rfl
theorem ze86 : (Try.prog.info? 34).bind (fun i => i.zero.map (fun z => z.cells.size)) = some 4 := by kernel_rfl
theorem zr86 : zerosOf Try.prog 86 = some [.nil] := by kernel_rfl
theorem sh92 : shapeOf Try.prog 92 = some (false, 1) := by kernel_rfl
theorem sz92 : (Try.prog.info? 92).map (·.size) = some 1 := by kernel_rfl
theorem el92 : elemOf? Try.prog 92 = some (219, 11, 184) := by kernel_rfl
theorem ze92 : (Try.prog.info? 219).bind (fun i => i.zero.map (fun z => z.cells.size)) = some 11 := by kernel_rfl
theorem zr92 : zerosOf Try.prog 92 = some [.nil] := by kernel_rfl
theorem sh94 : shapeOf Try.prog 94 = some (true, 12) := by kernel_rfl
theorem sz94 : (Try.prog.info? 94).map (·.size) = some 12 := by kernel_rfl
theorem zr94 : zerosOf Try.prog 94 = some [.t (.leaf (.string ⟨#[]⟩)), .nil, .t (.leaf (.int .i64 0)), .t (.leaf (.string ⟨#[]⟩)), .nil, .nil, .t (.leaf (.bool false)), .t (.leaf (.bool false)), .t (.leaf (.int .i64 0)), .t (.leaf (.string ⟨#[]⟩)), .nil, .nil] := by kernel_rfl
theorem pl94 : placesOf Try.prog 94 = some [(0, 1), (1, 1), (2, 3), (5, 1), (6, 1), (7, 1), (8, 3), (11, 1)] := by kernel_rfl
theorem sh97 : shapeOf Try.prog 97 = some (false, 1) := by kernel_rfl
theorem sz97 : (Try.prog.info? 97).map (·.size) = some 1 := by kernel_rfl
theorem sh98 : shapeOf Try.prog 98 = some (false, 1) := by kernel_rfl
theorem sz98 : (Try.prog.info? 98).map (·.size) = some 1 := by kernel_rfl
theorem el98 : elemOf? Try.prog 98 = some (26, 4, 64) := by kernel_rfl
theorem ze98 : (Try.prog.info? 26).bind (fun i => i.zero.map (fun z => z.cells.size)) = some 4 := by kernel_rfl
theorem zr98 : zerosOf Try.prog 98 = some [.nil] := by kernel_rfl
theorem sh100 : shapeOf Try.prog 100 = some (true, 3) := by kernel_rfl
theorem sz100 : (Try.prog.info? 100).map (·.size) = some 3 := by kernel_rfl
theorem zr100 : zerosOf Try.prog 100 = some [.nil, .nil, .nil] := by kernel_rfl
theorem sh104 : shapeOf Try.prog 104 = some (true, 3) := by kernel_rfl
theorem sz104 : (Try.prog.info? 104).map (·.size) = some 3 := by kernel_rfl
theorem zr104 : zerosOf Try.prog 104 = some [.nil, .nil, .nil] := by kernel_rfl
theorem sh108 : shapeOf Try.prog 108 = some (false, 1) := by kernel_rfl
theorem sz108 : (Try.prog.info? 108).map (·.size) = some 1 := by kernel_rfl
theorem el108 : elemOf? Try.prog 108 = some (226, 4, 64) := by kernel_rfl
theorem ze108 : (Try.prog.info? 226).bind (fun i => i.zero.map (fun z => z.cells.size)) = some 4 := by kernel_rfl
theorem zr108 : zerosOf Try.prog 108 = some [.nil] := by kernel_rfl
theorem sh116 : shapeOf Try.prog 116 = some (false, 1) := by kernel_rfl
theorem sz116 : (Try.prog.info? 116).map (·.size) = some 1 := by kernel_rfl
theorem el116 : elemOf? Try.prog 116 = some (240, 11, 184) := by kernel_rfl
theorem ze116 : (Try.prog.info? 240).bind (fun i => i.zero.map (fun z => z.cells.size)) = some 11 := by kernel_rfl
theorem zr116 : zerosOf Try.prog 116 = some [.nil] := by kernel_rfl
theorem sh118 : shapeOf Try.prog 118 = some (true, 12) := by kernel_rfl
theorem sz118 : (Try.prog.info? 118).map (·.size) = some 12 := by kernel_rfl
theorem zr118 : zerosOf Try.prog 118 = some [.t (.leaf (.string ⟨#[]⟩)), .nil, .t (.leaf (.int .i64 0)), .t (.leaf (.string ⟨#[]⟩)), .nil, .nil, .t (.leaf (.bool false)), .t (.leaf (.bool false)), .t (.leaf (.int .i64 0)), .t (.leaf (.string ⟨#[]⟩)), .nil, .nil] := by kernel_rfl
theorem sh139 : shapeOf Try.prog 139 = some (false, 1) := by kernel_rfl
theorem sz139 : (Try.prog.info? 139).map (·.size) = some 1 := by kernel_rfl
theorem sh146 : shapeOf Try.prog 146 = some (false, 1) := by kernel_rfl
theorem sz146 : (Try.prog.info? 146).map (·.size) = some 1 := by kernel_rfl
theorem el146 : elemOf? Try.prog 146 = some (75, 5, 72) := by kernel_rfl
theorem ze146 : (Try.prog.info? 75).bind (fun i => i.zero.map (fun z => z.cells.size)) = some 5 := by kernel_rfl
theorem zr146 : zerosOf Try.prog 146 = some [.nil] := by kernel_rfl
theorem sh151 : shapeOf Try.prog 151 = some (true, 6) := by kernel_rfl
theorem sz151 : (Try.prog.info? 151).map (·.size) = some 6 := by kernel_rfl
theorem zr151 : zerosOf Try.prog 151 = some [.t (.leaf (.string ⟨#[]⟩)), .nil, .nil, .nil, .nil, .nil] := by kernel_rfl
theorem pl151 : placesOf Try.prog 151 = some [(0, 1), (1, 1), (2, 1), (3, 1), (4, 1), (5, 1)] := by kernel_rfl
theorem sh157 : shapeOf Try.prog 157 = some (true, 6) := by kernel_rfl
theorem sz157 : (Try.prog.info? 157).map (·.size) = some 6 := by kernel_rfl
theorem zr157 : zerosOf Try.prog 157 = some [.t (.leaf (.string ⟨#[]⟩)), .t (.leaf (.int .i64 0)), .t (.leaf (.string ⟨#[]⟩)), .nil, .t (.leaf (.int .i64 0)), .nil] := by kernel_rfl
theorem sh159 : shapeOf Try.prog 159 = some (true, 6) := by kernel_rfl
theorem sz159 : (Try.prog.info? 159).map (·.size) = some 6 := by kernel_rfl
theorem zr159 : zerosOf Try.prog 159 = some [.t (.leaf (.string ⟨#[]⟩)), .t (.leaf (.int .i64 0)), .t (.leaf (.string ⟨#[]⟩)), .nil, .t (.leaf (.int .i64 0)), .nil] := by kernel_rfl
theorem sh162 : shapeOf Try.prog 162 = some (false, 1) := by kernel_rfl
theorem sz162 : (Try.prog.info? 162).map (·.size) = some 1 := by kernel_rfl
theorem sh168 : shapeOf Try.prog 168 = some (false, 1) := by kernel_rfl
theorem sz168 : (Try.prog.info? 168).map (·.size) = some 1 := by kernel_rfl
theorem sh177 : shapeOf Try.prog 177 = some (false, 1) := by kernel_rfl
theorem sz177 : (Try.prog.info? 177).map (·.size) = some 1 := by kernel_rfl
theorem sh188 : shapeOf Try.prog 188 = some (false, 1) := by kernel_rfl
theorem sz188 : (Try.prog.info? 188).map (·.size) = some 1 := by kernel_rfl
theorem el188 : elemOf? Try.prog 188 = some (190, 2, 40) := by kernel_rfl
theorem ze188 : (Try.prog.info? 190).bind (fun i => i.zero.map (fun z => z.cells.size)) = some 2 := by kernel_rfl
theorem zr188 : zerosOf Try.prog 188 = some [.nil] := by kernel_rfl
theorem sh190 : shapeOf Try.prog 190 = some (true, 2) := by kernel_rfl
theorem sz190 : (Try.prog.info? 190).map (·.size) = some 2 := by kernel_rfl
theorem zr190 : zerosOf Try.prog 190 = some [.t (.leaf (.string ⟨#[]⟩)), .nil] := by kernel_rfl
theorem pl190 : placesOf Try.prog 190 = some [(0, 1), (1, 1)] := by kernel_rfl
theorem sh206 : shapeOf Try.prog 206 = some (true, 3) := by kernel_rfl
theorem sz206 : (Try.prog.info? 206).map (·.size) = some 3 := by kernel_rfl
theorem zr206 : zerosOf Try.prog 206 = some [.nil, .t (.leaf (.int .i64 0)), .t (.leaf (.int .i64 0))] := by kernel_rfl
theorem pl206 : placesOf Try.prog 206 = some [(0, 1), (1, 1), (2, 1)] := by kernel_rfl
theorem sh209 : shapeOf Try.prog 209 = some (false, 1) := by kernel_rfl
theorem sz209 : (Try.prog.info? 209).map (·.size) = some 1 := by kernel_rfl
theorem el209 : elemOf? Try.prog 209 = some (212, 9, 144) := by kernel_rfl
theorem ze209 : (Try.prog.info? 212).bind (fun i => i.zero.map (fun z => z.cells.size)) = some 9 := by kernel_rfl
theorem zr209 : zerosOf Try.prog 209 = some [.nil] := by kernel_rfl
theorem sh210 : shapeOf Try.prog 210 = some (false, 1) := by kernel_rfl
theorem sz210 : (Try.prog.info? 210).map (·.size) = some 1 := by kernel_rfl
theorem el210 : elemOf? Try.prog 210 = some (258, 11, 184) := by kernel_rfl
theorem ze210 : (Try.prog.info? 258).bind (fun i => i.zero.map (fun z => z.cells.size)) = some 11 := by kernel_rfl
theorem zr210 : zerosOf Try.prog 210 = some [.nil] := by kernel_rfl
theorem sh212 : shapeOf Try.prog 212 = some (true, 9) := by kernel_rfl
theorem sz212 : (Try.prog.info? 212).map (·.size) = some 9 := by kernel_rfl
theorem zr212 : zerosOf Try.prog 212 = some [.t (.leaf (.int .i64 0)), .t (.leaf (.string ⟨#[]⟩)), .t (.leaf (.string ⟨#[]⟩)), .t (.leaf (.int .i64 0)), .t (.leaf (.int .i64 0)), .t (.leaf (.string ⟨#[]⟩)), .nil, .nil, .nil] := by kernel_rfl
theorem pl212 : placesOf Try.prog 212 = some [(0, 1), (1, 1), (2, 1), (3, 1), (4, 3), (7, 1), (8, 1)] := by kernel_rfl
theorem sh214 : shapeOf Try.prog 214 = some (true, 16) := by kernel_rfl
theorem sz214 : (Try.prog.info? 214).map (·.size) = some 16 := by kernel_rfl
theorem zr214 : zerosOf Try.prog 214 = some [.t (.leaf (.string ⟨#[]⟩)), .nil, .t (.leaf (.int .i64 0)), .t (.leaf (.string ⟨#[]⟩)), .nil, .t (.leaf (.bool false)), .nil, .t (.leaf (.int .i64 0)), .t (.leaf (.string ⟨#[]⟩)), .t (.leaf (.string ⟨#[]⟩)), .t (.leaf (.int .i64 0)), .t (.leaf (.int .i64 0)), .t (.leaf (.string ⟨#[]⟩)), .nil, .nil, .nil] := by kernel_rfl
theorem sh219 : shapeOf Try.prog 219 = some (true, 11) := by kernel_rfl
theorem sz219 : (Try.prog.info? 219).map (·.size) = some 11 := by kernel_rfl
theorem zr219 : zerosOf Try.prog 219 = some [.t (.leaf (.string ⟨#[]⟩)), .nil, .t (.leaf (.int .i64 0)), .t (.leaf (.string ⟨#[]⟩)), .t (.leaf (.string ⟨#[]⟩)), .t (.leaf (.int .i64 0)), .t (.leaf (.int .i64 0)), .t (.leaf (.string ⟨#[]⟩)), .nil, .nil, .nil] := by kernel_rfl
theorem pl219 : placesOf Try.prog 219 = some [(0, 1), (1, 1), (2, 9)] := by kernel_rfl
theorem sh226 : shapeOf Try.prog 226 = some (true, 4) := by kernel_rfl
theorem sz226 : (Try.prog.info? 226).map (·.size) = some 4 := by kernel_rfl
theorem zr226 : zerosOf Try.prog 226 = some [.t (.leaf (.string ⟨#[]⟩)), .t (.leaf (.int .i64 0)), .t (.leaf (.string ⟨#[]⟩)), .nil] := by kernel_rfl
theorem pl226 : placesOf Try.prog 226 = some [(0, 1), (1, 3)] := by kernel_rfl
theorem sh227 : shapeOf Try.prog 227 = some (false, 1) := by kernel_rfl
theorem sz227 : (Try.prog.info? 227).map (·.size) = some 1 := by kernel_rfl
theorem sh228 : shapeOf Try.prog 228 = some (false, 1) := by kernel_rfl
theorem sz228 : (Try.prog.info? 228).map (·.size) = some 1 := by kernel_rfl
theorem sh230 : shapeOf Try.prog 230 = some (true, 2) := by kernel_rfl
theorem sz230 : (Try.prog.info? 230).map (·.size) = some 2 := by kernel_rfl
theorem pl230 : placesOf Try.prog 230 = some [(0, 1), (1, 1)] := by kernel_rfl
theorem sh235 : shapeOf Try.prog 235 = some (false, 1) := by kernel_rfl
theorem sz235 : (Try.prog.info? 235).map (·.size) = some 1 := by kernel_rfl
theorem el235 : elemOf? Try.prog 235 = some (238, 9, 144) := by kernel_rfl
theorem ze235 : (Try.prog.info? 238).bind (fun i => i.zero.map (fun z => z.cells.size)) = some 9 := by kernel_rfl
theorem zr235 : zerosOf Try.prog 235 = some [.nil] := by kernel_rfl
theorem sh236 : shapeOf Try.prog 236 = some (false, 1) := by kernel_rfl
theorem sz236 : (Try.prog.info? 236).map (·.size) = some 1 := by kernel_rfl
theorem el236 : elemOf? Try.prog 236 = some (290, 11, 184) := by kernel_rfl
theorem ze236 : (Try.prog.info? 290).bind (fun i => i.zero.map (fun z => z.cells.size)) = some 11 := by kernel_rfl
theorem zr236 : zerosOf Try.prog 236 = some [.nil] := by kernel_rfl
theorem sh238 : shapeOf Try.prog 238 = some (true, 9) := by kernel_rfl
theorem sz238 : (Try.prog.info? 238).map (·.size) = some 9 := by kernel_rfl
theorem zr238 : zerosOf Try.prog 238 = some [.t (.leaf (.int .i64 0)), .t (.leaf (.string ⟨#[]⟩)), .t (.leaf (.string ⟨#[]⟩)), .t (.leaf (.int .i64 0)), .t (.leaf (.int .i64 0)), .t (.leaf (.string ⟨#[]⟩)), .nil, .nil, .nil] := by kernel_rfl
theorem sh240 : shapeOf Try.prog 240 = some (true, 11) := by kernel_rfl
theorem sz240 : (Try.prog.info? 240).map (·.size) = some 11 := by kernel_rfl
theorem zr240 : zerosOf Try.prog 240 = some [.t (.leaf (.string ⟨#[]⟩)), .nil, .t (.leaf (.int .i64 0)), .t (.leaf (.string ⟨#[]⟩)), .t (.leaf (.string ⟨#[]⟩)), .t (.leaf (.int .i64 0)), .t (.leaf (.int .i64 0)), .t (.leaf (.string ⟨#[]⟩)), .nil, .nil, .nil] := by kernel_rfl
theorem sh243 : shapeOf Try.prog 243 = some (false, 1) := by kernel_rfl
theorem sz243 : (Try.prog.info? 243).map (·.size) = some 1 := by kernel_rfl
theorem sh245 : shapeOf Try.prog 245 = some (true, 5) := by kernel_rfl
theorem sz245 : (Try.prog.info? 245).map (·.size) = some 5 := by kernel_rfl
theorem zr245 : zerosOf Try.prog 245 = some [.t (.leaf (.string ⟨#[]⟩)), .t (.leaf (.int .i64 0)), .t (.leaf (.int .i64 0)), .t (.leaf (.int .i64 0)), .t (.leaf (.bool false))] := by kernel_rfl
theorem pl245 : placesOf Try.prog 245 = some [(0, 1), (1, 1), (2, 1), (3, 1), (4, 1)] := by kernel_rfl
theorem sh248 : shapeOf Try.prog 248 = some (false, 1) := by kernel_rfl
theorem sz248 : (Try.prog.info? 248).map (·.size) = some 1 := by kernel_rfl
theorem el248 : elemOf? Try.prog 248 = some (188, 1, 24) := by kernel_rfl
theorem ze248 : (Try.prog.info? 188).bind (fun i => i.zero.map (fun z => z.cells.size)) = some 1 := by kernel_rfl
theorem zr248 : zerosOf Try.prog 248 = some [.nil] := by kernel_rfl
theorem sh258 : shapeOf Try.prog 258 = some (true, 11) := by kernel_rfl
theorem sz258 : (Try.prog.info? 258).map (·.size) = some 11 := by kernel_rfl
theorem zr258 : zerosOf Try.prog 258 = some [.t (.leaf (.string ⟨#[]⟩)), .nil, .t (.leaf (.int .i64 0)), .t (.leaf (.string ⟨#[]⟩)), .t (.leaf (.string ⟨#[]⟩)), .t (.leaf (.int .i64 0)), .t (.leaf (.int .i64 0)), .t (.leaf (.string ⟨#[]⟩)), .nil, .nil, .nil] := by kernel_rfl
theorem pl258 : placesOf Try.prog 258 = some [(0, 1), (1, 1), (2, 9)] := by kernel_rfl
theorem sh266 : shapeOf Try.prog 266 = some (false, 1) := by kernel_rfl
theorem sz266 : (Try.prog.info? 266).map (·.size) = some 1 := by kernel_rfl
theorem sh286 : shapeOf Try.prog 286 = some (false, 1) := by kernel_rfl
theorem sz286 : (Try.prog.info? 286).map (·.size) = some 1 := by kernel_rfl
theorem sh290 : shapeOf Try.prog 290 = some (true, 11) := by kernel_rfl
theorem sz290 : (Try.prog.info? 290).map (·.size) = some 11 := by kernel_rfl
theorem zr290 : zerosOf Try.prog 290 = some [.t (.leaf (.string ⟨#[]⟩)), .nil, .t (.leaf (.int .i64 0)), .t (.leaf (.string ⟨#[]⟩)), .t (.leaf (.string ⟨#[]⟩)), .t (.leaf (.int .i64 0)), .t (.leaf (.int .i64 0)), .t (.leaf (.string ⟨#[]⟩)), .nil, .nil, .nil] := by kernel_rfl
theorem fo24_0 : fieldOff Try.prog 24 0 = some 0 := by kernel_rfl
theorem fo24_1 : fieldOff Try.prog 24 1 = some 1 := by kernel_rfl
theorem fo24_2 : fieldOff Try.prog 24 2 = some 2 := by kernel_rfl
theorem fo26_0 : fieldOff Try.prog 26 0 = some 0 := by kernel_rfl
theorem fo26_1 : fieldOff Try.prog 26 1 = some 1 := by kernel_rfl
theorem fo32_0 : fieldOff Try.prog 32 0 = some 0 := by kernel_rfl
theorem fo32_1 : fieldOff Try.prog 32 1 = some 1 := by kernel_rfl
theorem fo32_2 : fieldOff Try.prog 32 2 = some 2 := by kernel_rfl
theorem fo34_0 : fieldOff Try.prog 34 0 = some 0 := by kernel_rfl
theorem fo34_1 : fieldOff Try.prog 34 1 = some 1 := by kernel_rfl
theorem fo41_0 : fieldOff Try.prog 41 0 = some 0 := by kernel_rfl
theorem fo41_1 : fieldOff Try.prog 41 1 = some 1 := by kernel_rfl
theorem fo44_0 : fieldOff Try.prog 44 0 = some 0 := by kernel_rfl
theorem fo44_1 : fieldOff Try.prog 44 1 = some 1 := by kernel_rfl
theorem fo44_2 : fieldOff Try.prog 44 2 = some 2 := by kernel_rfl
theorem fo44_3 : fieldOff Try.prog 44 3 = some 4 := by kernel_rfl
theorem fo47_0 : fieldOff Try.prog 47 0 = some 0 := by kernel_rfl
theorem fo47_1 : fieldOff Try.prog 47 1 = some 1 := by kernel_rfl
theorem fo50_0 : fieldOff Try.prog 50 0 = some 0 := by kernel_rfl
theorem fo50_1 : fieldOff Try.prog 50 1 = some 1 := by kernel_rfl
theorem fo50_2 : fieldOff Try.prog 50 2 = some 2 := by kernel_rfl
theorem fo50_3 : fieldOff Try.prog 50 3 = some 4 := by kernel_rfl
theorem fo63_0 : fieldOff Try.prog 63 0 = some 0 := by kernel_rfl
theorem fo75_0 : fieldOff Try.prog 75 0 = some 0 := by kernel_rfl
theorem fo75_1 : fieldOff Try.prog 75 1 = some 1 := by kernel_rfl
theorem fo75_4 : fieldOff Try.prog 75 4 = some 4 := by kernel_rfl
theorem fo94_0 : fieldOff Try.prog 94 0 = some 0 := by kernel_rfl
theorem fo94_1 : fieldOff Try.prog 94 1 = some 1 := by kernel_rfl
theorem fo94_2 : fieldOff Try.prog 94 2 = some 2 := by kernel_rfl
theorem fo94_3 : fieldOff Try.prog 94 3 = some 5 := by kernel_rfl
theorem fo94_4 : fieldOff Try.prog 94 4 = some 6 := by kernel_rfl
theorem fo94_5 : fieldOff Try.prog 94 5 = some 7 := by kernel_rfl
theorem fo94_6 : fieldOff Try.prog 94 6 = some 8 := by kernel_rfl
theorem fo94_7 : fieldOff Try.prog 94 7 = some 11 := by kernel_rfl
theorem fo100_0 : fieldOff Try.prog 100 0 = some 0 := by kernel_rfl
theorem fo100_1 : fieldOff Try.prog 100 1 = some 1 := by kernel_rfl
theorem fo100_2 : fieldOff Try.prog 100 2 = some 2 := by kernel_rfl
theorem fo104_0 : fieldOff Try.prog 104 0 = some 0 := by kernel_rfl
theorem fo104_1 : fieldOff Try.prog 104 1 = some 1 := by kernel_rfl
theorem fo104_2 : fieldOff Try.prog 104 2 = some 2 := by kernel_rfl
theorem fo118_0 : fieldOff Try.prog 118 0 = some 0 := by kernel_rfl
theorem fo118_1 : fieldOff Try.prog 118 1 = some 1 := by kernel_rfl
theorem fo118_2 : fieldOff Try.prog 118 2 = some 2 := by kernel_rfl
theorem fo118_3 : fieldOff Try.prog 118 3 = some 5 := by kernel_rfl
theorem fo118_4 : fieldOff Try.prog 118 4 = some 6 := by kernel_rfl
theorem fo118_5 : fieldOff Try.prog 118 5 = some 7 := by kernel_rfl
theorem fo118_6 : fieldOff Try.prog 118 6 = some 8 := by kernel_rfl
theorem fo118_7 : fieldOff Try.prog 118 7 = some 11 := by kernel_rfl
theorem fo151_2 : fieldOff Try.prog 151 2 = some 2 := by kernel_rfl
theorem fo157_0 : fieldOff Try.prog 157 0 = some 0 := by kernel_rfl
theorem fo157_1 : fieldOff Try.prog 157 1 = some 4 := by kernel_rfl
theorem fo157_2 : fieldOff Try.prog 157 2 = some 5 := by kernel_rfl
theorem fo159_0 : fieldOff Try.prog 159 0 = some 0 := by kernel_rfl
theorem fo159_1 : fieldOff Try.prog 159 1 = some 4 := by kernel_rfl
theorem fo159_2 : fieldOff Try.prog 159 2 = some 5 := by kernel_rfl
theorem fo190_0 : fieldOff Try.prog 190 0 = some 0 := by kernel_rfl
theorem fo190_1 : fieldOff Try.prog 190 1 = some 1 := by kernel_rfl
theorem fo206_0 : fieldOff Try.prog 206 0 = some 0 := by kernel_rfl
theorem fo206_1 : fieldOff Try.prog 206 1 = some 1 := by kernel_rfl
theorem fo206_2 : fieldOff Try.prog 206 2 = some 2 := by kernel_rfl
theorem fo212_0 : fieldOff Try.prog 212 0 = some 0 := by kernel_rfl
theorem fo212_1 : fieldOff Try.prog 212 1 = some 1 := by kernel_rfl
theorem fo212_2 : fieldOff Try.prog 212 2 = some 2 := by kernel_rfl
theorem fo212_3 : fieldOff Try.prog 212 3 = some 3 := by kernel_rfl
theorem fo212_4 : fieldOff Try.prog 212 4 = some 4 := by kernel_rfl
theorem fo212_5 : fieldOff Try.prog 212 5 = some 7 := by kernel_rfl
theorem fo212_6 : fieldOff Try.prog 212 6 = some 8 := by kernel_rfl
theorem fo214_1 : fieldOff Try.prog 214 1 = some 1 := by kernel_rfl
theorem fo214_2 : fieldOff Try.prog 214 2 = some 2 := by kernel_rfl
theorem fo214_4 : fieldOff Try.prog 214 4 = some 6 := by kernel_rfl
theorem fo214_5 : fieldOff Try.prog 214 5 = some 7 := by kernel_rfl
theorem fo219_0 : fieldOff Try.prog 219 0 = some 0 := by kernel_rfl
theorem fo219_1 : fieldOff Try.prog 219 1 = some 1 := by kernel_rfl
theorem fo219_2 : fieldOff Try.prog 219 2 = some 2 := by kernel_rfl
theorem fo226_0 : fieldOff Try.prog 226 0 = some 0 := by kernel_rfl
theorem fo226_1 : fieldOff Try.prog 226 1 = some 1 := by kernel_rfl
theorem fo230_0 : fieldOff Try.prog 230 0 = some 0 := by kernel_rfl
theorem fo230_1 : fieldOff Try.prog 230 1 = some 1 := by kernel_rfl
theorem fo238_0 : fieldOff Try.prog 238 0 = some 0 := by kernel_rfl
theorem fo238_1 : fieldOff Try.prog 238 1 = some 1 := by kernel_rfl
theorem fo238_2 : fieldOff Try.prog 238 2 = some 2 := by kernel_rfl
theorem fo238_3 : fieldOff Try.prog 238 3 = some 3 := by kernel_rfl
theorem fo238_4 : fieldOff Try.prog 238 4 = some 4 := by kernel_rfl
theorem fo238_5 : fieldOff Try.prog 238 5 = some 7 := by kernel_rfl
theorem fo238_6 : fieldOff Try.prog 238 6 = some 8 := by kernel_rfl
theorem fo240_0 : fieldOff Try.prog 240 0 = some 0 := by kernel_rfl
theorem fo240_1 : fieldOff Try.prog 240 1 = some 1 := by kernel_rfl
theorem fo240_2 : fieldOff Try.prog 240 2 = some 2 := by kernel_rfl
theorem fo245_0 : fieldOff Try.prog 245 0 = some 0 := by kernel_rfl
theorem fo245_1 : fieldOff Try.prog 245 1 = some 1 := by kernel_rfl
theorem fo245_2 : fieldOff Try.prog 245 2 = some 2 := by kernel_rfl
theorem fo245_3 : fieldOff Try.prog 245 3 = some 3 := by kernel_rfl
theorem fo245_4 : fieldOff Try.prog 245 4 = some 4 := by kernel_rfl
theorem fo258_0 : fieldOff Try.prog 258 0 = some 0 := by kernel_rfl
theorem fo258_1 : fieldOff Try.prog 258 1 = some 1 := by kernel_rfl
theorem fo258_2 : fieldOff Try.prog 258 2 = some 2 := by kernel_rfl
theorem fo290_0 : fieldOff Try.prog 290 0 = some 0 := by kernel_rfl
theorem fo290_1 : fieldOff Try.prog 290 1 = some 1 := by kernel_rfl
theorem fo290_2 : fieldOff Try.prog 290 2 = some 2 := by kernel_rfl
theorem mixed : Try.prog.follows .mixedOrders = true := by kernel_rfl
end Go.Proofs.Ytoifjkggpanceaa
