/- Regions that draw their order, on abstract states: whatever the order, the state at the end is that of the text's order. No conditions. -/
import Derived.Test.YtnakkelglbcecaaGreatPm8
namespace Go.Proofs.YtnakkelglbcecaaGreat
set_option linter.unusedSimpArgs false
set_option linter.unusedVariables false
open Go.RowKit Go.WalkArith Go.IntWalk Go.WideShapes

/-- What an operation is: it leaves the store alone (and may run while between lo and hi of the effects have been); it makes the region's one box; it is effect number j. -/
inductive DK where
  | q (lo hi : Nat)
  | al
  | ef (j : Nat)

structure Draw where
  ops : Array Oper
  env0 : List (Nat × PV)
  F : Nat → Bool → Sto
  out : Nat → Option PV
  kind : Nat → DK
  effs : List Nat
  alloc : Option Nat
  ins : Nat → List (Nat × Option Nat)

/-- i must have come before j. -/
def ancOf (ops : Array Oper) : Nat → Nat → Nat → Bool
  | 0, _, _ => false
  | fuel + 1, i, j => match ops[j]? with
    | some o => o.after.toList.any fun e => Region.binds .any e && (e.on == i || ancOf ops fuel i e.on)
    | none => false
def writerOf (ops : Array Oper) (t : Nat) : Option Nat := (List.range ops.size).find? fun i => match ops[i]? with | some o => o.dst == some t | none => false

def Draw.anc (D : Draw) (i j : Nat) : Bool := ancOf D.ops D.ops.size i j
def Draw.okIns (D : Draw) (i : Nat) (x : Nat × Option Nat) : Bool := match x.2 with
  | some j => writerOf D.ops x.1 == some j && D.anc j i
  | none => match writerOf D.ops x.1 with
    | none => true
    | some j => j == i || D.anc i j
def Draw.okKind (D : Draw) (i : Nat) : Bool := match D.kind i with
  | .q lo hi => decide (lo ≤ hi) && decide (hi ≤ D.effs.length) && ((D.effs.take lo).all fun e => D.anc e i) && ((D.effs.drop hi).all fun e => D.anc i e) && !(D.effs.contains i) && D.alloc != some i
  | .al => D.alloc == some i && !(D.effs.contains i)
  | .ef j => D.effs[j]? == some i && ((D.effs.take j).all fun e => D.anc e i) && ((D.effs.drop (j + 1)).all fun e => D.anc i e && e != i) && D.alloc != some i
def nodupDst (ops : Array Oper) : Bool := ops.toList.zipIdx.all fun (o, i) => match o.dst with
  | some d => writerOf ops d == some i
  | none => true
/-- The whole check, on numbers alone. -/
def Draw.okOp (D : Draw) (i : Nat) : Bool := match D.ops[i]? with
  | some o => (o.after.all fun e => !Region.binds .any e || decide (e.on < i)) && (match o.guard with | some (j, _) => D.anc j i && (match D.ops[j]? with | some oj => oj.dst.isSome | none => false) | none => true)
  | none => true
def Draw.ok (D : Draw) : Bool := (List.range D.ops.size).all D.okOp && nodupDst D.ops && (List.range D.ops.size).all (fun i => D.okKind i && (D.ins i).all (D.okIns i)) && (D.effs.all fun e => decide (e < D.ops.size)) && (match D.alloc with | some i => decide (i < D.ops.size) | none => true)
def Draw.pv (D : Draw) (x : Nat × Option Nat) : Option PV := match x.2 with
  | some j => D.out j
  | none => D.env0.lookup x.1

section
variable (D : Draw)
def Draw.envX (X : Array Bool) : List (Nat × PV) := ((List.range D.ops.size).filterMap fun i => if X.getD i false then (match D.ops[i]? with | some o => (match o.dst, D.out i with | some d, some p => some (d, p) | _, _ => none) | none => none) else none) ++ D.env0
def Draw.cnt (X : Array Bool) : Nat := (D.effs.takeWhile fun e => X.getD e false).length
def Draw.alX (X : Array Bool) : Bool := match D.alloc with | some i => X.getD i false | none => false
def Draw.sX (X : Array Bool) : AS := ⟨D.envX X, D.F (D.cnt X) (D.alX X)⟩
def Draw.closed (X : Array Bool) : Prop := ∀ j o, X.getD j false = true → D.ops[j]? = some o → ∀ e ∈ o.after, Region.binds .any e = true → X.getD e.on false = true
end

theorem anc_mem {D : Draw} {X : Array Bool} (hc : D.closed X) : ∀ (fuel i j : Nat), ancOf D.ops fuel i j = true → (∀ o, D.ops[j]? = some o → ∀ e ∈ o.after, Region.binds .any e = true → X.getD e.on false = true) → X.getD i false = true
  | 0, i, j, h, _ => by simp [ancOf] at h
  | fuel + 1, i, j, h, hd => by
    simp only [ancOf] at h
    split at h
    · rename_i o ho
      rw [List.any_eq_true] at h
      obtain ⟨e, he, h⟩ := h
      simp only [Bool.and_eq_true, Bool.or_eq_true, beq_iff_eq] at h
      have hx := hd o ho e (by simpa using he) h.1
      rcases h.2 with h2 | h2
      · rw [← h2]; exact hx
      · exact anc_mem hc fuel i e.on h2 fun o' ho' => hc e.on o' hx ho'
    · cases h

theorem lookup_filterMap {n t : Nat} {g : Nat → Option (Nat × PV)} {rest : List (Nat × PV)} : ∀ (l : List Nat), (∀ i ∈ l, ∀ p, g i = some (t, p) → ∀ i' ∈ l, ∀ p', g i' = some (t, p') → i = i') →
    (∀ i ∈ l, ∀ p, g i = some (t, p) → (l.filterMap g ++ rest).lookup t = some p) ∧ ((∀ i ∈ l, ∀ p, g i ≠ some (t, p)) → (l.filterMap g ++ rest).lookup t = rest.lookup t)
  | [], _ => ⟨by simp, by simp⟩
  | x :: l, h => by
    obtain ⟨h1, h2⟩ := lookup_filterMap (n := n) l fun i hi p hp i' hi' p' hp' => h i (by simp [hi]) p hp i' (by simp [hi']) p' hp'
    cases hg : g x with
    | none =>
      rw [List.filterMap_cons_none hg]
      refine ⟨fun i hi p hp => ?_, fun hn => h2 fun i hi p => hn i (by simp [hi]) p⟩
      rcases List.mem_cons.1 hi with rfl | hi
      · rw [hg] at hp; cases hp
      · exact h1 i hi p hp
    | some y =>
      obtain ⟨d, q⟩ := y
      rw [List.filterMap_cons_some hg]
      simp only [List.cons_append, List.lookup_cons]
      by_cases htd : t = d
      · subst htd
        simp only [BEq.rfl]
        refine ⟨fun i hi p hp => ?_, fun hn => absurd hg (hn x (by simp) q)⟩
        have := h x (by simp) q hg i hi p hp
        subst this
        rw [hg] at hp
        cases hp
        rfl
      · rw [show (t == d) = false by simp [htd]]
        refine ⟨fun i hi p hp => ?_, fun hn => h2 fun i hi p => hn i (by simp [hi]) p⟩
        rcases List.mem_cons.1 hi with rfl | hi
        · rw [hg] at hp
          cases hp
          exact absurd rfl htd
        · exact h1 i hi p hp

theorem writerOf_spec {ops : Array Oper} {t i : Nat} (h : writerOf ops t = some i) : i < ops.size ∧ ∃ o, ops[i]? = some o ∧ o.dst = some t := by
  unfold writerOf at h
  have h1 := List.find?_some h
  have h2 := List.mem_of_find?_eq_some h
  refine ⟨by simpa using h2, ?_⟩
  cases ho : ops[i]? with
  | none => simp [ho] at h1
  | some o => exact ⟨o, rfl, by simpa [ho] using h1⟩
theorem writerOf_none {ops : Array Oper} {t : Nat} (h : writerOf ops t = none) : ∀ (i : Nat) (o : Oper), ops[i]? = some o → o.dst ≠ some t := fun i o ho hd => by
  unfold writerOf at h
  have := List.find?_eq_none.1 h i (by simp; exact (Array.getElem?_eq_some_iff.1 ho).1)
  simp [ho, hd] at this
theorem nodup_writer {ops : Array Oper} (h : nodupDst ops = true) {i t : Nat} {o : Oper} (ho : ops[i]? = some o) (hd : o.dst = some t) : writerOf ops t = some i := by
  unfold nodupDst at h
  rw [List.all_eq_true] at h
  have := h (o, i) (by rw [List.mem_zipIdx_iff_getElem?]; simpa using ho)
  simpa [hd] using this

section
variable {D : Draw} {X : Array Bool}
def Draw.gX (D : Draw) (X : Array Bool) (i : Nat) : Option (Nat × PV) := if X.getD i false then (match D.ops[i]? with | some o => (match o.dst, D.out i with | some d, some p => some (d, p) | _, _ => none) | none => none) else none
theorem gX_some {i t : Nat} {p : PV} (h : D.gX X i = some (t, p)) : X.getD i false = true ∧ ∃ o, D.ops[i]? = some o ∧ o.dst = some t ∧ D.out i = some p := by
  unfold Draw.gX at h
  split at h
  · rename_i hx
    split at h
    · rename_i o ho
      split at h
      · rename_i d q hd hq
        cases h
        exact ⟨hx, o, ho, hd, hq⟩
      · cases h
    · cases h
  · cases h
theorem lkX_in (hn : nodupDst D.ops = true) {i t : Nat} {o : Oper} {p : PV} (hX : X.getD i false = true) (ho : D.ops[i]? = some o) (hd : o.dst = some t) (hp : D.out i = some p) : (D.sX X).lk t = some p := by
  refine (lookup_filterMap (n := 0) (g := D.gX X) (rest := D.env0) (List.range D.ops.size) fun i _ p hp i' _ p' hp' => ?_).1 i (by simp; exact (Array.getElem?_eq_some_iff.1 ho).1) p ?_
  · obtain ⟨-, o, h1, h2, -⟩ := gX_some hp
    obtain ⟨-, o', h1', h2', -⟩ := gX_some hp'
    have := (nodup_writer hn h1 h2).symm.trans (nodup_writer hn h1' h2')
    exact Option.some.inj this
  · unfold Draw.gX
    simp [hX, ho, hd, hp]
theorem lkX_out (hn : nodupDst D.ops = true) {t : Nat} (h : ∀ i, writerOf D.ops t = some i → X.getD i false = false) : (D.sX X).lk t = D.env0.lookup t := by
  refine (lookup_filterMap (n := 0) (g := D.gX X) (rest := D.env0) (List.range D.ops.size) fun i _ p hp i' _ p' hp' => ?_).2 fun i _ p hp => ?_
  · obtain ⟨-, o, h1, h2, -⟩ := gX_some hp
    obtain ⟨-, o', h1', h2', -⟩ := gX_some hp'
    exact Option.some.inj ((nodup_writer hn h1 h2).symm.trans (nodup_writer hn h1' h2'))
  · obtain ⟨h0, o, h1, h2, -⟩ := gX_some hp
    rw [h i (nodup_writer hn h1 h2)] at h0
    cases h0
end

theorem filterMap_congr' {α β : Type} {f g : α → Option β} : ∀ {l : List α}, (∀ x ∈ l, f x = g x) → l.filterMap f = l.filterMap g
  | [], _ => rfl
  | x :: l, h => by
    have h1 := h x (by simp)
    have h2 := filterMap_congr' (l := l) fun y hy => h y (by simp [hy])
    simp only [List.filterMap_cons, h1, h2]
theorem RA.congr {C : Ctx} {n : Nat} {s s' : AS} {m : Lay} {a : Act} {w : World} (h : RA C n s m a w) (hst : s.st = s'.st) (hl : ∀ i p, s'.lk i = some p → s.lk i = some p) : RA C n s' m a w := by
  obtain ⟨env, st⟩ := s
  obtain ⟨env', st'⟩ := s'
  cases hst
  exact ⟨h.dfr, h.tsz, h.sto, fun i p hp => h.env i p (hl i p hp), h.ev⟩

theorem drawnW {C : Ctx} {n : Nat} {s : AS} {m : Lay} {a : Act} {w : World} (h : RA C n s m a w) : RA C n s m a { w with drawn := w.drawn + 1 } := by
  have hx : Ext w w.drew := .drew (.refl w)
  obtain ⟨env, st⟩ := s
  exact h.step (Ev.later hx) (h.sto.later hx)

theorem getD_upd {X : Array Bool} {i j : Nat} : (X.setIfInBounds i true).getD j false = if j = i ∧ i < X.size then true else X.getD j false := by
  simp only [Array.getD_eq_getD_getElem?, Array.getElem?_setIfInBounds]
  by_cases hij : i = j
  · subst hij
    by_cases hlt : i < X.size
    · simp [hlt]
    · simp [hlt]
  · have : ¬ (j = i ∧ i < X.size) := fun h => hij h.1.symm
    simp [hij, this]

/-- The heads that are met, as a list's beginning. -/
theorem takeWhile_len {l : List Nat} {f : Nat → Bool} : ∀ {k : Nat}, (∀ e ∈ l.take k, f e = true) → (∀ e, l[k]? = some e → f e = false) → k ≤ l.length → (l.takeWhile f).length = k := by
  induction l with
  | nil => intro k _ _ hk; simp at hk ⊢; omega
  | cons x l ih =>
    intro k h1 h2 hk
    cases k with
    | zero => simp [List.takeWhile_cons, h2 x rfl]
    | succ k =>
      rw [List.takeWhile_cons, if_pos (h1 x (by simp)), List.length_cons, ih (k := k) (fun e he => h1 e (by simp [he])) (fun e he => h2 e (by simpa using he)) (by simpa using hk)]

theorem takeWhile_ge {l : List Nat} {f : Nat → Bool} : ∀ {k : Nat}, (∀ e ∈ l.take k, f e = true) → k ≤ l.length → k ≤ (l.takeWhile f).length := by
  induction l with
  | nil => intro k _ hk; simpa using hk
  | cons x l ih =>
    intro k h1 hk
    cases k with
    | zero => omega
    | succ k =>
      rw [List.takeWhile_cons, if_pos (h1 x (by simp)), List.length_cons]
      have := ih (k := k) (fun e he => h1 e (by simp [he])) (by simpa using hk)
      omega
theorem takeWhile_le {l : List Nat} {f : Nat → Bool} : ∀ {k : Nat}, (∀ e, l[k]? = some e → f e = false) → (l.takeWhile f).length ≤ k := by
  induction l with
  | nil => intro k _; simp
  | cons x l ih =>
    intro k h1
    cases k with
    | zero => simp [List.takeWhile_cons, h1 x rfl]
    | succ k =>
      rw [List.takeWhile_cons]
      split
      · have := ih (k := k) (fun e he => h1 e (by simpa using he))
        simpa using this
      · simp

section
variable {P : Program} {C : Ctx} {n : Nat} {s : AS} {Q : Exit → AS → Prop}

/-- Is it carried out? Its guard's value is known. -/
def Draw.want (D : Draw) (o : Oper) : Option Bool := match o.guard with
  | none => some true
  | some (j, b) => match D.out j with
    | some (.t (.leaf (.bool v))) => some (v == b)
    | _ => none
/-- What each operation does, in whatever state its turn comes. -/
def Draw.does (P : Program) (C : Ctx) (n : Nat) (D : Draw) (i : Nat) (o : Oper) : Prop := match D.kind i with
  | .q lo hi => ∀ (s' : AS) (j : Nat) (b : Bool), lo ≤ j → j ≤ hi → s'.st = D.F j b → (∀ t src p, (t, src) ∈ D.ins i → D.pv (t, src) = some p → s'.lk t = some p) → ∃ p, D.out i = some p ∧ AOp P C n o s' (s'.putO o.dst p)
  | .al => ∀ (s' : AS) (j : Nat), s'.st = D.F j false → ∃ p, D.out i = some p ∧ AOp P C n o s' ((⟨s'.env, D.F j true⟩ : AS).putO o.dst p)
  | .ef j => ∀ (s' : AS) (b : Bool), s'.st = D.F j b → (∀ t src p, (t, src) ∈ D.ins i → D.pv (t, src) = some p → s'.lk t = some p) →
      (∃ p, D.out i = some p ∧ AOp P C n o s' ((⟨s'.env, D.F (j + 1) b⟩ : AS).putO o.dst p)) ∨ (o.dst = none ∧ AOp P C n o s' ⟨s'.env, D.F (j + 1) b⟩)

def lkPut (dst : Option Nat) (p : Option PV) (old : Nat → Option PV) (t : Nat) : Option PV := match dst with | none => old t | some d => if t = d then p else old t
def Draw.step (P : Program) (C : Ctx) (n : Nat) (D : Draw) (i : Nat) (o : Oper) : Prop :=
  (D.want o = some true ∧ D.does P C n i o) ∨ (D.want o = some false ∧ D.out i = none ∧ (∃ lo hi, D.kind i = .q lo hi) ∧ ∀ d, o.dst = some d → D.env0.lookup d = none)

theorem AWP.drawn {id : Nat} (D : Draw) (hm : P.follows .mixedOrders = true) (hok : D.ok = true) (henv : s.env = D.env0) (hst : s.st = D.F 0 false)
    (hstep : ∀ i o, D.ops[i]? = some o → D.step P C n i o) (h : Q .normal ⟨((List.range D.ops.size).filterMap (D.gX (Array.replicate D.ops.size true))) ++ D.env0, D.F D.effs.length D.alloc.isSome⟩) : AWP P C n (.region id D.ops true) Q s := fun m a w hr => by
  simp only [Draw.ok, Bool.and_eq_true, List.all_eq_true] at hok
  obtain ⟨⟨⟨⟨hops, hnd⟩, hall⟩, heff⟩, hal⟩ := hok
  refine wp_region_any hm ?_
  -- all have come up
  have fin : ∀ (X : Array Bool) (m : Lay) (a : Act) (w : World), (∀ i, i < D.ops.size → X.getD i false = true) → RA C n (D.sX X) m a w → ∃ s' m', Q .normal s' ∧ RA C n s' m' a w := fun X m a w hX hr => by
    refine ⟨_, m, h, ?_⟩
    have e1 : D.envX X = ((List.range D.ops.size).filterMap (D.gX (Array.replicate D.ops.size true))) ++ D.env0 := by
      unfold Draw.envX
      congr 1
      refine filterMap_congr' fun i hi => ?_
      have hi : i < D.ops.size := by simpa using hi
      unfold Draw.gX
      rw [hX i hi]
      simp [hi]
    have e2 : D.cnt X = D.effs.length := takeWhile_len (fun e he => hX e (by simpa using heff e (List.mem_of_mem_take he))) (fun e he => by simp at he) (Nat.le_refl _)
    have e3 : D.alX X = D.alloc.isSome := by
      unfold Draw.alX
      cases hq : D.alloc with
      | none => rfl
      | some i => rw [hq] at hal; exact hX i (by simpa using hal)
    have e4 : D.sX X = ⟨((List.range D.ops.size).filterMap (D.gX (Array.replicate D.ops.size true))) ++ D.env0, D.F D.effs.length D.alloc.isSome⟩ := by
      unfold Draw.sX
      rw [e1, e2, e3]
    rw [← e4]
    exact hr
  have rdy : ∀ (X : Array Bool), X.size = D.ops.size → Region.ready .any D.ops X = [] → ∀ i, i < D.ops.size → X.getD i false = true := fun X hs hn i => by
    induction i using Nat.strongRecOn with
    | _ i ih =>
      intro hi
      cases hx : X.getD i false with
      | true => rfl
      | false =>
        have : i ∈ Region.ready .any D.ops X := by
          rw [mem_ready]
          have ho := Array.getElem?_eq_getElem hi
          refine ⟨?_, D.ops[i], ho, fun e he hb => ih e.on ?_ ?_⟩
          · simpa [Array.getD_eq_getD_getElem?, hs, hi] using hx
          all_goals
            have := hops i (by simpa using hi)
            simp only [Draw.okOp, ho, Bool.and_eq_true, Array.all_eq_true'] at this
            have h3 := this.1 e he
            simp only [hb, Bool.not_true, Bool.false_or, decide_eq_true_eq] at h3
            omega
        rw [hn] at this
        cases this
  have key : ∀ (fuel : Nat) (X : Array Bool) (m : Lay) (a : Act) (w : World), X.size = D.ops.size → D.ops.size ≤ fuel + X.toList.countP (· = true) → D.closed X → RA C n (D.sX X) m a w → wpAny P .any D.ops (fun e a' w' => ∃ s' m', Q e s' ∧ RA C n s' m' a' w') fuel X a w := by
    intro fuel
    induction fuel with
    | zero =>
      intro X m a w hs hc hcl hr
      have hX : ∀ i, i < D.ops.size → X.getD i false = true := fun i hi => by
        have h9 : X.toList.length = D.ops.size := by simp [hs]
        have h1 : X.toList.countP (· = true) = X.toList.length := Nat.le_antisymm List.countP_le_length (by omega)
        have h2 := List.countP_eq_length.1 h1 X[i] (by simp)
        simpa [Array.getD_eq_getD_getElem?, hs, hi] using h2
      refine ⟨?_, fin X m a w hX hr⟩
      rw [List.eq_nil_iff_forall_not_mem]
      intro i hi
      rw [mem_ready] at hi
      obtain ⟨h1, o, ho, -⟩ := hi
      have hi := (Array.getElem?_eq_some_iff.1 ho).1
      have h2 := hX i hi
      simp [Array.getD_eq_getD_getElem?, hs, hi] at h1 h2
      rw [h1] at h2
      cases h2
    | succ fuel ih =>
      intro X m a w hs hc hcl hr
      refine ⟨fun hn => fin X m a w (rdy X hs hn) hr, fun i hi => ?_⟩
      rw [mem_ready] at hi
      obtain ⟨h1, o, ho, hdep⟩ := hi
      have hi := (Array.getElem?_eq_some_iff.1 ho).1
      have hXi : X.getD i false = false := by
        simp [Array.getD_eq_getD_getElem?, hs, hi] at h1 ⊢
        exact h1
      have hdeps : ∀ o', D.ops[i]? = some o' → ∀ e ∈ o'.after, Region.binds .any e = true → X.getD e.on false = true := fun o' ho' e he hb => by
        rw [ho] at ho'
        cases ho'
        exact hdep e he hb
      have hanc : ∀ j, D.anc j i = true → X.getD j false = true := fun j hj => anc_mem hcl _ j i hj hdeps
      have hnanc : ∀ j, D.anc i j = true → X.getD j false = false := fun j hj => by
        cases hx : X.getD j false with
        | false => rfl
        | true =>
          have := anc_mem hcl _ i j hj (fun o' ho' => hcl j o' hx ho')
          rw [hXi] at this
          cases this
      -- the state behind it
      let X' := X.setIfInBounds i true
      have hX' : ∀ j, X'.getD j false = if j = i then true else X.getD j false := fun j => by
        show (X.setIfInBounds i true).getD j false = _
        rw [getD_upd]
        by_cases hji : j = i <;> simp [hji, hs, hi]
      have hcl' : D.closed X' := fun j o' hj ho' e he hb => by
        rw [hX'] at hj ⊢
        split
        · rfl
        · split at hj
          · rename_i hji
            subst hji
            exact hdeps o' ho' e he hb
          · exact hcl j o' hj ho' e he hb
      have hcnt : D.ops.size ≤ fuel + X'.toList.countP (· = true) := by
        have hlt : i < X.toList.length := by simp [hs, hi]
        have h3 : X'.toList.countP (· = true) = X.toList.countP (· = true) + 1 := by
          show (X.setIfInBounds i true).toList.countP _ = _
          rw [Array.toList_setIfInBounds, List.countP_set hlt]
          have hx : X.toList[i] = false := by
            simp [Array.getD_eq_getD_getElem?, hs, hi] at hXi
            simpa using hXi
          simp [hx]
        omega
      have hs' : X'.size = D.ops.size := by show (X.setIfInBounds i true).size = _; simp [hs]
      have hir := hall i (by simpa using hi)
      obtain ⟨hkind, hins⟩ := hir
      -- what is looked at
      have hlk : ∀ t src p, (t, src) ∈ D.ins i → D.pv (t, src) = some p → (D.sX X).lk t = some p := fun t src p hm hp => by
        have h3 := hins (t, src) hm
        simp only [Draw.okIns] at h3
        cases src with
        | some j =>
          simp only [Bool.and_eq_true, beq_iff_eq] at h3
          obtain ⟨-, oj, h4, h5⟩ := writerOf_spec h3.1
          exact lkX_in hnd (hanc j h3.2) h4 h5 hp
        | none =>
          rw [show p = p from rfl]
          refine (lkX_out hnd fun j hj => ?_).trans hp
          have h3 : (match writerOf D.ops t with | none => true | some j => j == i || D.anc j j && false || D.anc i j) = true := by
            have h4 : (match writerOf D.ops t with | none => true | some j => j == i || D.anc i j) = true := h3
            rw [hj] at h4 ⊢
            simpa using h4
          rw [hj] at h3
          simp only [Bool.or_eq_true, beq_iff_eq, Bool.and_false, Bool.or_false] at h3
          rcases h3 with rfl | h3
          · exact hXi
          · exact hnanc j h3
      -- behind it, by what it has put
      have done : ∀ (s1 : AS) (m1 : Lay) (a1 : Act) (w1 : World) (p : Option PV), RA C n s1 m1 a1 w1 → D.out i = p → s1.st = D.F (D.cnt X') (D.alX X') → (∀ t q, lkPut o.dst p (D.sX X).lk t = some q → s1.lk t = some q) → (p = none → ∀ d, o.dst = some d → D.env0.lookup d = none) → RA C n (D.sX X') m1 a1 w1 := fun s1 m1 a1 w1 p hr1 hp hst1 hl1 hpn => by
        refine RA.congr hr1 hst1 fun t q hq => hl1 t q ?_
        have hother : (∀ d, o.dst = some d → t ≠ d) → (D.sX X).lk t = some q := fun hne => by
          rcases hw : writerOf D.ops t with _ | j
          · rw [lkX_out hnd (fun j hj => by rw [hw] at hj; cases hj)] at hq ⊢
            exact hq
          · obtain ⟨-, oj, h4, h5⟩ := writerOf_spec hw
            have hji : j ≠ i := by
              rintro rfl
              rw [ho] at h4
              cases h4
              exact hne t h5 rfl
            cases hxj : X.getD j false with
            | false =>
              rw [lkX_out hnd (fun j' hj' => by rw [hw] at hj'; cases hj'; rw [hX', if_neg hji]; exact hxj)] at hq
              rw [lkX_out hnd (fun j' hj' => by rw [hw] at hj'; cases hj'; exact hxj)]
              exact hq
            | true =>
              cases hoj : D.out j with
              | none =>
                have hg1 : ∀ Y : Array Bool, ∀ p, D.gX Y j ≠ some (t, p) := fun Y p hg => by
                  obtain ⟨-, o2, -, -, h6⟩ := gX_some hg
                  rw [hoj] at h6
                  cases h6
                have hnone : ∀ Y : Array Bool, (D.sX Y).lk t = D.env0.lookup t := fun Y => by
                  refine (lookup_filterMap (n := 0) (g := D.gX Y) (rest := D.env0) (List.range D.ops.size) fun i _ p hp i' _ p' hp' => ?_).2 fun i' _ p hp => ?_
                  · obtain ⟨-, o2, h6, h7, -⟩ := gX_some hp
                    obtain ⟨-, o2', h6', h7', -⟩ := gX_some hp'
                    exact Option.some.inj ((nodup_writer hnd h6 h7).symm.trans (nodup_writer hnd h6' h7'))
                  · obtain ⟨-, o2, h6, h7, -⟩ := gX_some hp
                    have := nodup_writer hnd h6 h7
                    rw [hw] at this
                    cases this
                    exact hg1 Y p hp
                rw [hnone] at hq ⊢
                exact hq
              | some pj =>
                rw [lkX_in hnd (by rw [hX', if_neg hji]; exact hxj) h4 h5 hoj] at hq
                rw [lkX_in hnd hxj h4 h5 hoj]
                exact hq
        cases hd : o.dst with
        | none => exact hother (fun d hd' => by rw [hd] at hd'; cases hd')
        | some d =>
          by_cases htd : t = d
          · subst htd
            cases p with
            | some p =>
              rw [lkX_in hnd (by rw [hX', if_pos rfl]) ho hd hp] at hq
              simpa [lkPut] using hq
            | none =>
              exfalso
              have hnone : (D.sX X').lk t = D.env0.lookup t := by
                refine (lookup_filterMap (n := 0) (g := D.gX X') (rest := D.env0) (List.range D.ops.size) fun i _ p hp i' _ p' hp' => ?_).2 fun i' _ p hp' => ?_
                · obtain ⟨-, o2, h6, h7, -⟩ := gX_some hp
                  obtain ⟨-, o2', h6', h7', -⟩ := gX_some hp'
                  exact Option.some.inj ((nodup_writer hnd h6 h7).symm.trans (nodup_writer hnd h6' h7'))
                · obtain ⟨-, o2, h6, h7, h8⟩ := gX_some hp'
                  have h9 := (nodup_writer hnd h6 h7).symm.trans (nodup_writer hnd ho hd)
                  cases h9
                  rw [hp] at h8
                  cases h8
              rw [hnone, hpn rfl t hd] at hq
              cases hq
          · have := hother (fun d' hd' => by rw [hd] at hd'; cases hd'; exact htd)
            simp [lkPut, htd, this]
      have cont : ∀ m1 a1 w1, RA C n (D.sX X') m1 a1 w1 → wpAny P .any D.ops (fun e a' w' => ∃ s' m', Q e s' ∧ RA C n s' m' a' w') fuel X' a1 w1 := fun m1 a1 w1 hr1 => ih X' m1 a1 w1 hs' hcnt hcl' hr1
      have hwant : (D.want o = some true → Region.wanted o (yielded D.ops a.tmps) = true) ∧ (D.want o = some false → Region.wanted o (yielded D.ops a.tmps) = false) := by
        unfold Draw.want Region.wanted
        cases hgd : o.guard with
        | none => simp
        | some x =>
          obtain ⟨j, b⟩ := x
          have h3 := hops i (by simpa using hi)
          unfold Draw.okOp at h3
          rw [ho] at h3
          simp only [hgd, Bool.and_eq_true] at h3
          obtain ⟨h4, h5⟩ := h3.2
          cases hoj : D.ops[j]? with
          | none => simp [hoj] at h5
          | some oj =>
            simp only [hoj] at h5
            obtain ⟨d, hd⟩ := Option.isSome_iff_exists.1 h5
            simp only
            split
            · rename_i v hv
              have hlkj := lkX_in hnd (hanc j h4) hoj hd hv
              rw [hr.yielded (ops := D.ops) (j := j) (d := d) (b := v) (by simp [hoj, hd]) hlkj]
              constructor <;> intro h6 <;> simpa using h6
            · simp
      unfold wpOp
      simp only [ho]
      have hsame : ∀ (hne : i ∉ D.effs), D.cnt X' = D.cnt X := fun hne => by
        unfold Draw.cnt
        have : ∀ l : List Nat, i ∉ l → (l.takeWhile fun e => X'.getD e false) = l.takeWhile fun e => X.getD e false := by
          intro l
          induction l with
          | nil => intro _; rfl
          | cons x l ihl =>
            intro hl
            have hx : x ≠ i := fun e => hl (by simp [e])
            rw [List.takeWhile_cons, List.takeWhile_cons, hX', if_neg hx, ihl (fun hm => hl (by simp [hm]))]
        rw [this _ hne]
      have hals : (D.alloc ≠ some i) → D.alX X' = D.alX X := fun hne => by
        unfold Draw.alX
        cases hq : D.alloc with
        | none => rfl
        | some j => simp only; rw [hX', if_neg (fun e => hne (by rw [hq, e]))]
      have hput : ∀ (st : Sto) (p : PV) t q, lkPut o.dst (some p) (D.sX X).lk t = some q → ((⟨(D.sX X).env, st⟩ : AS).putO o.dst p).lk t = some q := fun st p t q hq => by
        cases hd : o.dst with
        | none => rw [hd] at hq; exact hq
        | some d =>
          rw [hd] at hq
          show ((⟨(D.sX X).env, st⟩ : AS).put d p).lk t = some q
          rw [AS.lk_put]
          exact hq
      have hpst : ∀ (st : Sto) (p : PV), ((⟨(D.sX X).env, st⟩ : AS).putO o.dst p).st = st := fun st p => by cases o.dst <;> rfl
      unfold Draw.okKind at hkind
      rcases hstep i o ho with ⟨hw, hdo⟩ | ⟨hw, hout, ⟨lo, hi', hk⟩, hdn⟩
      · rw [if_pos (hwant.1 hw)]
        refine .inl ?_
        unfold Draw.does at hdo
        cases hk : D.kind i with
        | q lo hi' =>
          simp only [hk, Bool.and_eq_true, decide_eq_true_eq, List.all_eq_true, Bool.not_eq_true', bne_iff_ne, ne_eq] at hkind hdo
          obtain ⟨⟨⟨⟨⟨k1, k2⟩, k3⟩, k4⟩, k5⟩, k6⟩ := hkind
          have hlo : lo ≤ D.cnt X := takeWhile_ge (fun e he => hanc e (k3 e he)) (by omega)
          have hhi : D.cnt X ≤ hi' := takeWhile_le fun e he => hnanc e (k4 e (by
            obtain ⟨hlt, rfl⟩ := List.getElem?_eq_some_iff.1 he
            exact List.mem_drop_iff_getElem.2 ⟨0, by simpa using hlt, by simp⟩))
          obtain ⟨p, hp, hop⟩ := hdo (D.sX X) (D.cnt X) (D.alX X) hlo hhi rfl hlk
          refine hop m a w hr _ _ fun m' a' w' h9 => cont m' a' w' (done _ m' a' w' (some p) h9 hp ?_ (hput _ p) (fun e => by cases e))
          rw [hsame (by simpa using k5), hals k6]
          exact hpst _ p
        | al =>
          simp only [hk, Bool.and_eq_true, beq_iff_eq, Bool.not_eq_true'] at hkind hdo
          obtain ⟨k1, k2⟩ := hkind
          have ha : D.alX X = false := by unfold Draw.alX; rw [k1]; exact hXi
          obtain ⟨p, hp, hop⟩ := hdo (D.sX X) (D.cnt X) (by show D.F _ _ = _; rw [ha])
          refine hop m a w hr _ _ fun m' a' w' h9 => cont m' a' w' (done _ m' a' w' (some p) h9 hp ?_ (hput _ p) (fun e => by cases e))
          have ha' : D.alX X' = true := by unfold Draw.alX; rw [k1]; simp only; rw [hX', if_pos rfl]
          rw [hsame (by simpa using k2), ha']
          exact hpst _ p
        | ef j =>
          simp only [hk, Bool.and_eq_true, beq_iff_eq, List.all_eq_true, bne_iff_ne, ne_eq] at hkind hdo
          obtain ⟨⟨⟨k1, k2⟩, k3⟩, k4⟩ := hkind
          have hjl := get_lt k1
          have hc1 : D.cnt X = j := takeWhile_len (fun e he => hanc e (k2 e he)) (fun e he => by rw [k1] at he; cases he; exact hXi) (by omega)
          have hc2 : D.cnt X' = j + 1 := takeWhile_len (fun e he => by
              rw [hX']
              split
              · rfl
              · rename_i hne
                rw [List.take_add_one, k1] at he
                simp only [Option.toList_some, List.mem_append, List.mem_singleton] at he
                rcases he with he | he
                · exact hanc e (k2 e he)
                · exact absurd he hne) (fun e he => by
              have hm : e ∈ D.effs.drop (j + 1) := by
                obtain ⟨hlt, rfl⟩ := List.getElem?_eq_some_iff.1 he
                exact List.mem_drop_iff_getElem.2 ⟨0, by simpa using hlt, by simp⟩
              obtain ⟨h3, h4⟩ := k3 e hm
              rw [hX', if_neg h4]
              exact hnanc e h3) (by omega)
          have ha := hals k4
          rcases hdo (D.sX X) (D.alX X) (by show D.F _ _ = _; rw [hc1]) hlk with ⟨p, hp, hop⟩ | ⟨hd, hop⟩
          · refine hop m a w hr _ _ fun m' a' w' h9 => cont m' a' w' (done _ m' a' w' (some p) h9 hp ?_ (hput _ p) (fun e => by cases e))
            rw [hc2, ha]
            exact hpst _ p
          · refine hop m a w hr _ _ fun m' a' w' h9 => cont m' a' w' (done _ m' a' w' (D.out i) h9 rfl ?_ (fun t q hq => ?_) (fun _ d hd' => by rw [hd] at hd'; cases hd'))
            · rw [hc2, ha]
            · rw [hd] at hq; exact hq
      · rw [if_neg (by rw [hwant.2 hw]; simp)]
        simp only [hk, Bool.and_eq_true, decide_eq_true_eq, List.all_eq_true, Bool.not_eq_true', bne_iff_ne, ne_eq] at hkind
        obtain ⟨⟨⟨⟨⟨k1, k2⟩, k3⟩, k4⟩, k5⟩, k6⟩ := hkind
        refine cont m _ w (done ((D.sX X).delO o.dst) m _ w none (hr.del o.dst undef) hout ?_ (fun t q hq => ?_) (fun _ => hdn))
        · rw [hsame (by simpa using k5), hals k6]
          cases o.dst <;> rfl
        · cases hd : o.dst with
          | none => rw [hd] at hq; exact hq
          | some d =>
            rw [hd] at hq
            simp only [lkPut] at hq
            split at hq
            · cases hq
            · rename_i htd
              show ((D.sX X).env.filter (fun x => x.1 != d)).lookup t = some q
              have hq : (D.sX X).env.lookup t = some q := hq
              revert hq
              generalize (D.sX X).env = l
              induction l with
              | nil => simp
              | cons y l ihl =>
                obtain ⟨k, v⟩ := y
                intro hq
                rw [List.lookup_cons] at hq
                by_cases hkd : k = d
                · subst hkd
                  rw [show (t == k) = false by simp [htd]] at hq
                  rw [List.filter_cons, if_neg (by simp)]
                  exact ihl hq
                · rw [List.filter_cons, if_pos (by simp [hkd]), List.lookup_cons]
                  by_cases htk : t = k
                  · subst htk
                    simpa using hq
                  · rw [show (t == k) = false by simp [htk]] at hq ⊢
                    exact ihl hq
  have h0 : RA C n (D.sX (Array.replicate D.ops.size false)) m a { w with drawn := w.drawn + 1 } := by
    refine RA.congr (drawnW hr) ?_ fun t p hp => ?_
    · show s.st = D.F (D.cnt _) (D.alX _)
      have e1 : D.cnt (Array.replicate D.ops.size false) = 0 := takeWhile_len (by simp) (fun e _ => by simp [Array.getD_eq_getD_getElem?, Array.getElem?_replicate]; split <;> rfl) (Nat.zero_le _)
      have e2 : D.alX (Array.replicate D.ops.size false) = false := by
        unfold Draw.alX
        cases D.alloc with
        | none => rfl
        | some i => simp [Array.getD_eq_getD_getElem?, Array.getElem?_replicate]; split <;> rfl
      rw [e1, e2]
      exact hst
    · rw [lkX_out hnd (fun i _ => by simp [Array.getD_eq_getD_getElem?, Array.getElem?_replicate]; split <;> rfl)] at hp
      unfold AS.lk
      rw [henv]
      exact hp
  exact key D.ops.size (Array.replicate D.ops.size false) m a _ (by simp) (by omega) (fun j o hj => by
    exfalso
    revert hj
    simp [Array.getD_eq_getD_getElem?, Array.getElem?_replicate]
    split <;> simp) h0
end
end Go.Proofs.YtnakkelglbcecaaGreat
