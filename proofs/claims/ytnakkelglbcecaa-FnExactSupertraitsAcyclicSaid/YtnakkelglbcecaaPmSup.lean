/- All supertraits, on both sides. No conditions. -/
import Derived.Test.YtnakkelglbcecaaPmFind
import Derived.Test.YtnakkelglbcecaaPmW
namespace Go.Proofs.Ytnakkelglbcecaa
open Go.RowKit Go.Proofs
set_option linter.unusedSimpArgs false
set_option linter.unusedVariables false


instance memDec (s : ByteArray) (l : List ByteArray) : Decidable (s ∈ l) := decidable_of_iff (l.any (fun x => decide (x = s)) = true) (by simp)
def idxS (l : List ByteArray) (s : ByteArray) : Int := match l.findIdx? (fun x => decide (x = s)) with | some i => (i : Int) | none => -1
theorem idxS_hit {l : List ByteArray} {s : ByteArray} {i : Nat} (h : i < l.length) (hm : ∀ (j : Nat) (hj : j < l.length), j < i → ¬ l[j] = s) (he : l[i] = s) : idxS l s = (i : Int) := by
  have : l.findIdx? (fun x => decide (x = s)) = some i := by
    rw [List.findIdx?_eq_some_iff_getElem]
    exact ⟨h, by simpa using he, fun j hj => by simpa using hm j (by omega) hj⟩
  simp [idxS, this]
theorem idxS_miss {l : List ByteArray} {s : ByteArray} (hm : ∀ (j : Nat) (hj : j < l.length), ¬ l[j] = s) : idxS l s = -1 := by
  have : l.findIdx? (fun x => decide (x = s)) = none := by
    rw [List.findIdx?_eq_none_iff]
    intro x hx
    obtain ⟨j, hj, rfl⟩ := List.mem_iff_getElem.1 hx
    simpa using hm j hj
  simp [idxS, this]
theorem idxS_mem (l : List ByteArray) (s : ByteArray) : decide (idxS l s ≥ 0) = decide (s ∈ l) := by
  by_cases h : s ∈ l
  · cases hq : l.findIdx? (fun x => decide (x = s)) with
    | none =>
      rw [List.findIdx?_eq_none_iff] at hq
      have := hq s h
      simp at this
    | some i => simp [idxS, hq, h]
  · have : l.findIdx? (fun x => decide (x = s)) = none := by
      rw [List.findIdx?_eq_none_iff]
      intro x hx
      simp only [decide_eq_false_iff_not]
      rintro rfl
      exact h hx
    simp [idxS, this, h]
theorem mem_hit {l : List ByteArray} {s : ByteArray} {i : Nat} (h : i < l.length) (he : l[i] = s) : decide (s ∈ l) = true := by
  subst he
  simp
theorem mem_miss {l : List ByteArray} {s : ByteArray} (hm : ∀ (j : Nat) (hj : j < l.length), ¬ l[j] = s) : decide (s ∈ l) = false := by
  simp only [decide_eq_false_iff_not]
  intro h
  obtain ⟨j, hj, he⟩ := List.mem_iff_getElem.1 h
  exact hm j hj he
theorem miss_next {l : List ByteArray} {s : ByteArray} {i : Nat} (hm : ∀ (j : Nat) (hj : j < l.length), j < i → ¬ l[j] = s) (h : i < l.length) (he : ¬ l[i] = s) : ∀ (j : Nat) (hj : j < l.length), j < i + 1 → ¬ l[j] = s := fun j hj hji => by
  rcases Nat.lt_or_ge j i with h1 | h1
  · exact hm j hj h1
  · have : j = i := by omega
    subst this
    exact he

theorem findP_mem {α : Type} {key : α → ByteArray} {items : GPackage → List α} {s : ByteArray} {x : α × Nat} : ∀ {ps : List GPackage} {i : Nat}, findP key items s i ps = some x → ∃ p ∈ ps, x.1 ∈ items p
  | [], _, h => by simp [findP] at h
  | p :: ps, i, h => by
    rw [findP] at h
    split at h
    · rename_i y hy
      cases h
      exact ⟨p, by simp, List.mem_of_find?_eq_some hy⟩
    · obtain ⟨q, hq, hx⟩ := findP_mem h
      exact ⟨q, by simp [hq], hx⟩
theorem traitAt_mem {w : GProgram} {s : ByteArray} {x : GTrait × Nat} (h : w.traitAt s = some x) : ∃ p ∈ w.gPackages, x.1 ∈ p.gTraits := findP_mem h

def GProgram.allSup (w : GProgram) : List ByteArray := (w.gPackages.flatMap (fun p => p.gTraits)).flatMap (fun t => t.gSupertraits)
def supM (w : GProgram) (out : List ByteArray) : Nat := w.allSup.countP (fun s => decide (¬ s ∈ out))
def supF (w : GProgram) : Nat → ByteArray → List ByteArray → List ByteArray
  | 0, _, out => out
  | n + 1, name, out => ((oTrait (w.traitAt name)).gSupertraits).foldl (fun o s => if s ∈ o then o else supF w n s (o ++ [s])) out
def GProgram.supers (w : GProgram) (name : ByteArray) : List ByteArray := supF w (supM w [] + 1) name []
theorem sup_mem {w : GProgram} {name s : ByteArray} (h : s ∈ (oTrait (w.traitAt name)).gSupertraits) : s ∈ w.allSup := by
  cases hq : w.traitAt name with
  | none =>
    rw [hq] at h
    simp [oTrait, GTrait.zero] at h
  | some x =>
    rw [hq] at h
    have h : s ∈ x.1.gSupertraits := h
    have hm : ∃ p ∈ w.gPackages, x.1 ∈ p.gTraits := traitAt_mem hq
    obtain ⟨p, hp, hx⟩ := hm
    exact List.mem_flatMap.2 ⟨x.1, List.mem_flatMap.2 ⟨p, hp, hx⟩, h⟩
theorem countP_lt {α : Type} {p q : α → Bool} {l : List α} (h : ∀ x, q x = true → p x = true) {a : α} (ha : a ∈ l) (hp : p a = true) (hq : q a = false) : l.countP q + 1 ≤ l.countP p := by
  induction l with
  | nil => cases ha
  | cons b l ih =>
    rw [List.countP_cons, List.countP_cons]
    have hle : l.countP q ≤ l.countP p := List.countP_mono_left fun x _ => h x
    rcases List.mem_cons.1 ha with rfl | ha
    · simp [hp, hq]; omega
    · have := ih ha
      have : (if q b = true then 1 else 0) ≤ (if p b = true then 1 else 0) := by
        split
        · rw [if_pos (h b (by assumption))]; omega
        · omega
      omega
theorem sup_step {w : GProgram} {name : ByteArray} {o : List ByteArray} {s : ByteArray} (hs : s ∈ (oTrait (w.traitAt name)).gSupertraits) (hn : ¬ s ∈ o) : supM w (o ++ [s]) + 1 ≤ supM w o := by
  unfold supM
  refine countP_lt (fun x hx => ?_) (sup_mem hs) (by simpa using hn) (by simp)
  simp only [decide_eq_true_eq, List.mem_append, not_or] at hx ⊢
  exact hx.1
theorem supM_le {w : GProgram} (h : w.allSup.length ≤ 1099511627776) : ([] : List ByteArray).length + supM w [] ≤ 1099511627776 := by
  have := List.countP_le_length (p := fun s => decide (¬ s ∈ ([] : List ByteArray))) (l := w.allSup)
  unfold supM
  simp only [List.length_nil]
  omega
/-- What the run has put in stays within what there is. -/
theorem supF_inv (w : GProgram) : ∀ (n : Nat) (name : ByteArray) (out : List ByteArray), supM w (supF w n name out) ≤ supM w out ∧ (supF w n name out).length + supM w (supF w n name out) ≤ out.length + supM w out
  | 0, name, out => ⟨Nat.le_refl _, Nat.le_refl _⟩
  | n + 1, name, out => by
    rw [supF]
    have key : ∀ (l : List ByteArray) (o : List ByteArray), (∀ s ∈ l, s ∈ (oTrait (w.traitAt name)).gSupertraits) → supM w (l.foldl (fun o s => if s ∈ o then o else supF w n s (o ++ [s])) o) ≤ supM w o ∧ (l.foldl (fun o s => if s ∈ o then o else supF w n s (o ++ [s])) o).length + supM w (l.foldl (fun o s => if s ∈ o then o else supF w n s (o ++ [s])) o) ≤ o.length + supM w o := by
      intro l
      induction l with
      | nil => intro o _; exact ⟨Nat.le_refl _, Nat.le_refl _⟩
      | cons s l ih =>
        intro o hl
        rw [List.foldl_cons]
        have h1 := ih (if s ∈ o then o else supF w n s (o ++ [s])) (fun x hx => hl x (by simp [hx]))
        split at h1
        · rename_i hso
          rw [if_pos hso]
          exact h1
        · rename_i hso
          rw [if_neg hso]
          have h2 := supF_inv w n s (o ++ [s])
          have h3 := sup_step (w := w) (name := name) (hl s (by simp)) hso
          have h4 : (o ++ [s]).length = o.length + 1 := by simp
          omega
    exact key _ _ fun s hs => hs
theorem fold_next {α β : Type} {f : β → α → β} {o o' r : β} {l : List α} {i : Nat} (h : i < l.length) (hr : r = (l.drop i).foldl f o) (hs : f o l[i] = o') : r = (l.drop (i + 1)).foldl f o' := by
  rw [hr, List.drop_eq_getElem_cons h, List.foldl_cons, hs]
theorem fold_end {α β : Type} {f : β → α → β} {o r : β} {l : List α} {i : Nat} (h : l.length ≤ i) (hr : r = (l.drop i).foldl f o) : r = o := by
  rw [hr, List.drop_of_length_le h, List.foldl_nil]
theorem supJ_has {w : GProgram} {n : Nat} {name : ByteArray} {out o r : List ByteArray} {i : Nat} (h : i < (oTrait (w.traitAt name)).gSupertraits.length) (h2 : r = (((oTrait (w.traitAt name)).gSupertraits).drop i).foldl (fun o s => if s ∈ o then o else supF w n s (o ++ [s])) o)
    (h3 : supM w o ≤ supM w out) (h4 : o.length + supM w o ≤ out.length + supM w out) (hm : (oTrait (w.traitAt name)).gSupertraits[i] ∈ o) :
    i + 1 ≤ (oTrait (w.traitAt name)).gSupertraits.length ∧ r = (((oTrait (w.traitAt name)).gSupertraits).drop (i + 1)).foldl (fun o s => if s ∈ o then o else supF w n s (o ++ [s])) o ∧ supM w o ≤ supM w out ∧ o.length + supM w o ≤ out.length + supM w out :=
  ⟨h, fold_next h h2 (by simp [hm]), h3, h4⟩
theorem supJ_new {w : GProgram} {n : Nat} {name : ByteArray} {out o r : List ByteArray} {i : Nat} (h : i < (oTrait (w.traitAt name)).gSupertraits.length) (h2 : r = (((oTrait (w.traitAt name)).gSupertraits).drop i).foldl (fun o s => if s ∈ o then o else supF w n s (o ++ [s])) o)
    (h3 : supM w o ≤ supM w out) (h4 : o.length + supM w o ≤ out.length + supM w out) (hm : ¬ (oTrait (w.traitAt name)).gSupertraits[i] ∈ o) {o' : List ByteArray} (ho : supF w n (oTrait (w.traitAt name)).gSupertraits[i] (o ++ [(oTrait (w.traitAt name)).gSupertraits[i]]) = o') :
    i + 1 ≤ (oTrait (w.traitAt name)).gSupertraits.length ∧ r = (((oTrait (w.traitAt name)).gSupertraits).drop (i + 1)).foldl (fun o s => if s ∈ o then o else supF w n s (o ++ [s])) o' ∧ supM w o' ≤ supM w out ∧ o'.length + supM w o' ≤ out.length + supM w out := by
  have h5 := supF_inv w n (oTrait (w.traitAt name)).gSupertraits[i] (o ++ [(oTrait (w.traitAt name)).gSupertraits[i]])
  have h6 := sup_step (w := w) (name := name) (o := o) (List.getElem_mem h) hm
  have h7 : (o ++ [(oTrait (w.traitAt name)).gSupertraits[i]]).length = o.length + 1 := by simp
  subst ho
  exact ⟨h, fold_next h h2 (by simp [hm]), by omega, by omega⟩
theorem keeps_rows {C : Ctx} {r : PRow} {S : Sto} (h : C.st = ⟨[], [r]⟩) (hl : 1 ≤ S.rows.length) : Keeps0 C.st S := by
  rw [h]
  exact ⟨fun k x hx => by simp at hx, fun k row hk => by
    rcases k with _ | k
    · exact ⟨S.rows[0], List.getElem?_eq_getElem hl⟩
    · simp at hk⟩

set_option maxRecDepth 100000 in
theorem idxS_ok (l : List ByteArray) (s : ByteArray) : AFun Try.prog 33 [.t (.row 1 (strTrs (l))), .t (.leaf (.string (s)))] (.t (.leaf (.int .i64 (idxS l s)))) := by
  refine ACalls.intro Try.func33 rfl (by first | decide | (simp; done) | (simp; decide)) ?_
  intro C hC
  refine AWP.fact (lk_lenN 0 rfl rfl (strTrs_len _)) (fun hl1 => ?_)
  refine AWP.seq ?_
  refine AWP.region_lit ?_
  refine AL.cons rfl (AOp.move (.inr rfl) rfl rfl) ?_
  refine AL.nil ?_
  refine AWP.seq ?_
  refine AWP.seq ?_
  refine AWP.region_lit ?_
  refine AL.cons rfl (AOp.move (.inl rfl) rfl rfl) ?_
  refine AL.cons rfl (AOp.lenN rfl rfl rfl rfl el47 (strTrs_len _)) ?_
  refine AL.cons rfl (AOp.move (.inl rfl) rfl rfl) ?_
  refine AL.nil ?_
  refine AWP.block ?_
  refine AWP.loopJ (ι := Nat) (fun i => i ≤ l.length ∧ ∀ (j : Nat) (hj : j < l.length), j < i → ¬ l[j] = s) (fun i => ⟨[(0, .t (.row 1 (strTrs (l)))), (1, .t (.leaf (.string (s)))), (7, .t (.leaf (.int .i64 (((l.length : Nat) : Int))))), (8, .t (.leaf (.int .i64 (((i : Nat) : Int)))))], ⟨[], []⟩⟩) (fun i => l.length - i) 0 ?_ ?_ ?_
  · exact ⟨Nat.zero_le _, fun j hj h => absurd h (Nat.not_lt_zero _)⟩
  · skip
    exact Wk.mk (StLe.mk' trivial rfl) (keeps_nil hC) ⟨⟨_, rfl, .refl _, rfl⟩, ⟨⟨_, rfl, .refl _, rfl⟩, ⟨⟨_, rfl, .refl _, rfl⟩, ⟨⟨_, rfl, by (repeat' (first | exact PV.Le.refl _ | exact LeL.nil | exact PV.Le.nil _ | exact PV.Le.acc _ _ _ | apply LeL.cons | apply PV.Le.agg | apply PV.Le.tup)), rfl⟩, trivial⟩⟩⟩⟩
  rintro i hJ2
  obtain ⟨hi1, hi2⟩ := hJ2
  refine AWP.seq ?_
  refine AWP.region_lit ?_
  refine AL.cons rfl (AOp.lss rfl rfl rfl rfl) ?_
  refine AL.nil ?_
  refine AWP.seq ?_
  refine AWP.cond rfl (fun h3 => ?_) (fun h3 => ?_)
  · skip
    have h3b := h3
    try simp only [decide_eq_true_eq, decide_eq_false_iff_not, Bool.not_eq_true', Bool.not_eq_false', Bool.not_eq_eq_eq_not, Bool.not_true, Bool.not_false, ge_iff_le, gt_iff_lt, Int.not_lt, Int.not_le] at h3b
    have h3n : i < l.length := by omega
    refine AWP.skip ?_
    refine AWP.seq ?_
    refine AWP.block ?_
    refine AWP.seq ?_
    refine AWP.region_lit ?_
    refine AL.cons rfl (AOp.move (.inl rfl) rfl rfl) ?_
    refine AL.cons rfl (AOp.move (.inr rfl) rfl rfl) ?_
    refine AL.nil ?_
    refine AWP.seq ?_
    refine AWP.region_lit ?_
    refine AL.cons rfl (AOp.move (.inl rfl) rfl rfl) ?_
    refine AL.cons rfl (AOp.move (.inl rfl) rfl rfl) ?_
    refine AL.cons rfl (AOp.move (.inl rfl) rfl rfl) ?_
    refine AL.cons rfl (AOp.index (k := i) rfl rfl rfl rfl rfl (strTrs_cs h3n) el47) ?_
    refine AL.cons rfl (AOp.loadEptr1 (d := .leaf (.string (l[i]))) rfl rfl rfl sh9 rfl) ?_
    refine AL.cons rfl (AOp.eqlS rfl rfl rfl rfl) ?_
    refine AL.nil ?_
    refine AWP.cond rfl (fun h4 => ?_) (fun h4 => ?_)
    · skip
      have h4b := h4
      try simp only [decide_eq_true_eq, decide_eq_false_iff_not, Bool.not_eq_true', Bool.not_eq_false', Bool.not_eq_eq_eq_not, Bool.not_true, Bool.not_false, ge_iff_le, gt_iff_lt, Int.not_lt, Int.not_le] at h4b
      refine AWP.seq ?_
      refine AWP.region_lit ?_
      refine AL.cons rfl (AOp.move (.inl rfl) rfl rfl) ?_
      refine AL.cons rfl (AOp.move (.inr rfl) rfl rfl) ?_
      refine AL.nil ?_
      refine AWP.ret ?_
      exact Ends.mk (ps := [_]) (.inr rfl) ⟨rfl, trivial⟩ rfl (StLe.mk' (st' := ⟨[], []⟩) trivial rfl) (keeps_nil hC) (q := (.t (.leaf (.int .i64 (((i : Nat) : Int)))) : PV)) (by (repeat' (first | exact PV.Le.refl _ | exact LeL.nil | exact PV.Le.nil _ | exact PV.Le.acc _ _ _ | apply LeL.cons | apply PV.Le.agg | apply PV.Le.tup))) rfl ⟨by rw [idxS_hit (by omega) hi2 (by first | assumption | (apply Eq.symm; assumption))], rfl⟩
    · skip
      have h4b := h4
      try simp only [decide_eq_true_eq, decide_eq_false_iff_not, Bool.not_eq_true', Bool.not_eq_false', Bool.not_eq_eq_eq_not, Bool.not_true, Bool.not_false, ge_iff_le, gt_iff_lt, Int.not_lt, Int.not_le] at h4b
      refine AWP.skip ?_
      refine AWP.region_lit ?_
      refine AL.cons rfl (AOp.addI rfl rfl rfl rfl (c := ((i + 1 : Nat) : Int)) (by omega) (by omega)) ?_
      refine AL.cons rfl (AOp.move (.inl rfl) rfl rfl) ?_
      refine AL.nil ?_
      refine ⟨i + 1, ?_, ?_, ?_⟩
      · exact ⟨by omega, miss_next hi2 (by omega) (by first | assumption | (intro hx; exact absurd hx.symm (by assumption)))⟩
      · skip
        exact Wk.mk (StLe.mk' trivial rfl) (keeps_nil hC) ⟨⟨_, rfl, .refl _, rfl⟩, ⟨⟨_, rfl, .refl _, rfl⟩, ⟨⟨_, rfl, .refl _, rfl⟩, ⟨⟨_, rfl, by (repeat' (first | exact PV.Le.refl _ | exact LeL.nil | exact PV.Le.nil _ | exact PV.Le.acc _ _ _ | apply LeL.cons | apply PV.Le.agg | apply PV.Le.tup)), rfl⟩, trivial⟩⟩⟩⟩
      · omega
  · skip
    have h3b := h3
    try simp only [decide_eq_true_eq, decide_eq_false_iff_not, Bool.not_eq_true', Bool.not_eq_false', Bool.not_eq_eq_eq_not, Bool.not_true, Bool.not_false, ge_iff_le, gt_iff_lt, Int.not_lt, Int.not_le] at h3b
    have h3n : i ≥ l.length := by omega
    refine AWP.exit ?_
    refine AWP.seq ?_
    refine AWP.region_lit ?_
    refine AL.cons rfl (AOp.move (.inr rfl) rfl rfl) ?_
    refine AL.nil ?_
    refine AWP.ret ?_
    exact Ends.mk (ps := [_]) (.inr rfl) ⟨rfl, trivial⟩ rfl (StLe.mk' (st' := ⟨[], []⟩) trivial rfl) (keeps_nil hC) (q := (.t (.leaf (.int .i64 (-1))) : PV)) (by (repeat' (first | exact PV.Le.refl _ | exact LeL.nil | exact PV.Le.nil _ | exact PV.Le.acc _ _ _ | apply LeL.cons | apply PV.Le.agg | apply PV.Le.tup))) rfl ⟨by rw [idxS_miss (fun j hj => hi2 j hj (by omega))], rfl⟩

set_option maxRecDepth 100000 in
theorem has_spec (l : List ByteArray) (s : ByteArray) : AFun Try.prog 25 [.t (.row 1 (strTrs (l))), .t (.leaf (.string (s)))] (.t (.leaf (.bool (decide (s ∈ l))))) := by
  refine ACalls.intro Try.func25 rfl (by first | decide | (simp; done) | (simp; decide)) ?_
  intro C hC
  refine AWP.fact (lk_lenN 0 rfl rfl (strTrs_len _)) (fun hl1 => ?_)
  refine AWP.seq ?_
  refine AWP.region_lit ?_
  refine AL.cons rfl (AOp.move (.inr rfl) rfl rfl) ?_
  refine AL.nil ?_
  refine AWP.seq ?_
  refine AWP.seq ?_
  refine AWP.region_lit ?_
  refine AL.cons rfl (AOp.move (.inr rfl) rfl rfl) ?_
  refine AL.nil ?_
  refine AWP.block ?_
  refine AWP.loopJ (ι := Nat) (fun i => i ≤ l.length ∧ ∀ (j : Nat) (hj : j < l.length), j < i → ¬ l[j] = s) (fun i => ⟨[(0, .t (.row 1 (strTrs (l)))), (1, .t (.leaf (.string (s)))), (5, .t (.leaf (.int .i64 (((i : Nat) : Int)))))], ⟨[], []⟩⟩) (fun i => l.length - i) 0 ?_ ?_ ?_
  · exact ⟨Nat.zero_le _, fun j hj h => absurd h (Nat.not_lt_zero _)⟩
  · skip
    exact Wk.mk (StLe.mk' trivial rfl) (keeps_nil hC) ⟨⟨_, rfl, .refl _, rfl⟩, ⟨⟨_, rfl, .refl _, rfl⟩, ⟨⟨_, rfl, by (repeat' (first | exact PV.Le.refl _ | exact LeL.nil | exact PV.Le.nil _ | exact PV.Le.acc _ _ _ | apply LeL.cons | apply PV.Le.agg | apply PV.Le.tup)), rfl⟩, trivial⟩⟩⟩
  rintro i hJ2
  obtain ⟨hi1, hi2⟩ := hJ2
  refine AWP.seq ?_
  refine AWP.seq ?_
  refine AWP.region_lit ?_
  refine AL.cons rfl (AOp.move (.inl rfl) rfl rfl) ?_
  refine AL.cons rfl (AOp.move (.inl rfl) rfl rfl) ?_
  refine AL.cons rfl (AOp.lenN rfl rfl rfl rfl el47 (strTrs_len _)) ?_
  refine AL.cons rfl (AOp.lss rfl rfl rfl rfl) ?_
  refine AL.nil ?_
  refine AWP.cond rfl (fun h3 => ?_) (fun h3 => ?_)
  · skip
    have h3b := h3
    try simp only [decide_eq_true_eq, decide_eq_false_iff_not, Bool.not_eq_true', Bool.not_eq_false', Bool.not_eq_eq_eq_not, Bool.not_true, Bool.not_false, ge_iff_le, gt_iff_lt, Int.not_lt, Int.not_le] at h3b
    have h3n : i < l.length := by omega
    refine AWP.skip ?_
    refine AWP.seq ?_
    refine AWP.block ?_
    refine AWP.seq ?_
    refine AWP.region_lit ?_
    refine AL.cons rfl (AOp.move (.inl rfl) rfl rfl) ?_
    refine AL.cons rfl (AOp.move (.inl rfl) rfl rfl) ?_
    refine AL.cons rfl (AOp.index (k := i) rfl rfl rfl rfl rfl (strTrs_cs h3n) el47) ?_
    refine AL.cons rfl (AOp.loadEptr1 (d := .leaf (.string (l[i]))) rfl rfl rfl sh9 rfl) ?_
    refine AL.cons rfl (AOp.move (.inl rfl) rfl rfl) ?_
    refine AL.cons rfl (AOp.eqlS rfl rfl rfl rfl) ?_
    refine AL.nil ?_
    refine AWP.cond rfl (fun h4 => ?_) (fun h4 => ?_)
    · skip
      have h4b := h4
      try simp only [decide_eq_true_eq, decide_eq_false_iff_not, Bool.not_eq_true', Bool.not_eq_false', Bool.not_eq_eq_eq_not, Bool.not_true, Bool.not_false, ge_iff_le, gt_iff_lt, Int.not_lt, Int.not_le] at h4b
      refine AWP.seq ?_
      refine AWP.region_lit ?_
      refine AL.cons rfl (AOp.move (.inr rfl) rfl rfl) ?_
      refine AL.nil ?_
      refine AWP.ret ?_
      exact Ends.mk (ps := [_]) (.inr rfl) ⟨rfl, trivial⟩ rfl (StLe.mk' (st' := ⟨[], []⟩) trivial rfl) (keeps_nil hC) (q := (.t (.leaf (.bool (true))) : PV)) (by (repeat' (first | exact PV.Le.refl _ | exact LeL.nil | exact PV.Le.nil _ | exact PV.Le.acc _ _ _ | apply LeL.cons | apply PV.Le.agg | apply PV.Le.tup))) rfl ⟨by rw [mem_hit (by omega) (by first | assumption | (apply Eq.symm; assumption))], rfl⟩
    · skip
      have h4b := h4
      try simp only [decide_eq_true_eq, decide_eq_false_iff_not, Bool.not_eq_true', Bool.not_eq_false', Bool.not_eq_eq_eq_not, Bool.not_true, Bool.not_false, ge_iff_le, gt_iff_lt, Int.not_lt, Int.not_le] at h4b
      refine AWP.skip ?_
      refine AWP.region_lit ?_
      refine AL.cons rfl (AOp.move (.inl rfl) rfl rfl) ?_
      refine AL.cons rfl (AOp.addI rfl rfl rfl rfl (c := ((i + 1 : Nat) : Int)) (by omega) (by omega)) ?_
      refine AL.cons rfl (AOp.move (.inr rfl) rfl rfl) ?_
      refine AL.nil ?_
      refine ⟨i + 1, ?_, ?_, ?_⟩
      · exact ⟨by omega, miss_next hi2 (by omega) (by first | assumption | (intro hx; exact absurd hx.symm (by assumption)))⟩
      · skip
        exact Wk.mk (StLe.mk' trivial rfl) (keeps_nil hC) ⟨⟨_, rfl, .refl _, rfl⟩, ⟨⟨_, rfl, .refl _, rfl⟩, ⟨⟨_, rfl, by (repeat' (first | exact PV.Le.refl _ | exact LeL.nil | exact PV.Le.nil _ | exact PV.Le.acc _ _ _ | apply LeL.cons | apply PV.Le.agg | apply PV.Le.tup)), rfl⟩, trivial⟩⟩⟩
      · omega
  · skip
    have h3b := h3
    try simp only [decide_eq_true_eq, decide_eq_false_iff_not, Bool.not_eq_true', Bool.not_eq_false', Bool.not_eq_eq_eq_not, Bool.not_true, Bool.not_false, ge_iff_le, gt_iff_lt, Int.not_lt, Int.not_le] at h3b
    have h3n : i ≥ l.length := by omega
    refine AWP.exit ?_
    refine AWP.seq ?_
    refine AWP.region_lit ?_
    refine AL.cons rfl (AOp.move (.inr rfl) rfl rfl) ?_
    refine AL.nil ?_
    refine AWP.ret ?_
    exact Ends.mk (ps := [_]) (.inr rfl) ⟨rfl, trivial⟩ rfl (StLe.mk' (st' := ⟨[], []⟩) trivial rfl) (keeps_nil hC) (q := (.t (.leaf (.bool (false))) : PV)) (by (repeat' (first | exact PV.Le.refl _ | exact LeL.nil | exact PV.Le.nil _ | exact PV.Le.acc _ _ _ | apply LeL.cons | apply PV.Le.agg | apply PV.Le.tup))) rfl ⟨by rw [mem_miss (fun j hj => hi2 j hj (by omega))], rfl⟩

set_option maxRecDepth 100000 in
theorem contS_ok (l : List ByteArray) (s : ByteArray) : AFun Try.prog 27 [.t (.row 1 (strTrs (l))), .t (.leaf (.string (s)))] (.t (.leaf (.bool (decide (s ∈ l))))) := by
  refine ACalls.intro Try.func27 rfl (by first | decide | (simp; done) | (simp; decide)) ?_
  intro C hC
  refine AWP.fact (lk_lenN 0 rfl rfl (strTrs_len _)) (fun hl1 => ?_)
  refine AWP.seq ?_
  refine AWP.region_lit ?_
  refine AL.cons rfl (AOp.move (.inr rfl) rfl rfl) ?_
  refine AL.nil ?_
  refine AWP.seq ?_
  refine AWP.region_lit ?_
  refine AL.cons rfl (AOp.move (.inl rfl) rfl rfl) ?_
  refine AL.cons rfl (AOp.move (.inl rfl) rfl rfl) ?_
  refine AL.cons rfl (AOp.callF (ps := [_, _]) rfl rfl Try.func33 (by kernel_rfl) rfl rfl (by (repeat' (first | exact PV.Le.refl _ | exact LeL.nil | exact PV.Le.nil _ | exact PV.Le.acc _ _ _ | apply LeL.cons | apply PV.Le.agg | apply PV.Le.tup))) rfl rfl (idxS_ok l s)) ?_
  refine AL.cons rfl (AOp.geq rfl rfl rfl rfl) ?_
  refine AL.cons rfl (AOp.move (.inr rfl) rfl rfl) ?_
  refine AL.nil ?_
  refine AWP.ret ?_
  exact Ends.mk (ps := [_]) (.inr rfl) ⟨rfl, trivial⟩ rfl (StLe.mk' (st' := ⟨[], []⟩) trivial rfl) (keeps_nil hC) (q := (.t (.leaf (.bool (decide ((idxS l s : Int) ≥ 0)))) : PV)) (by (repeat' (first | exact PV.Le.refl _ | exact LeL.nil | exact PV.Le.nil _ | exact PV.Le.acc _ _ _ | apply LeL.cons | apply PV.Le.agg | apply PV.Le.tup))) rfl ⟨by rw [← idxS_mem], rfl⟩

set_option maxRecDepth 100000 in
theorem supers_impl (w : GProgram) : ∀ (n : Nat) (name : ByteArray) (out : List ByteArray), supM w out < n → out.length + supM w out ≤ 1099511627776 → ACalls Try.prog 34 [(GProgram.pv w), .acc 1 (strTrs (out)) 0, .t (.leaf (.string (name)))] ⟨[], [⟨9, 1, strTrs (out), false⟩]⟩ (fun r t => r = .acc 1 (strTrs (supF w n name out)) 0 ∧ t = ⟨[], [⟨9, 1, strTrs (supF w n name out), false⟩]⟩) := by
  intro n
  induction n with
  | zero => intro name out h; exact absurd h (Nat.not_lt_zero _)
  | succ n ih =>
  intro name out hm hbd
  refine ACalls.intro Try.func34 rfl (by first | decide | (simp; done) | (simp; decide)) ?_
  intro C hC
  refine AWP.fact (lk_lenN 1 rfl rfl (strTrs_len _)) (fun hl1 => ?_)
  refine AWP.seq ?_
  refine AWP.region_lit ?_
  refine AL.cons rfl (AOp.box (cs := [.t (.row 6 (GPackage.trs (w.gPackages)))]) rfl rfl rfl rfl rfl) ?_
  refine AL.cons rfl (AOp.move (.inr rfl) rfl rfl) ?_
  refine AL.nil ?_
  refine AWP.seq ?_
  refine AWP.region_lit ?_
  refine AL.cons rfl (AOp.loadPtr (cs := [.t (.row 6 (GPackage.trs (w.gPackages)))]) rfl rfl rfl rfl sh33 rfl rfl) ?_
  refine AL.cons rfl (AOp.move (.inl rfl) rfl rfl) ?_
  refine AL.cons rfl (AOp.callF (ps := [_, _]) rfl rfl Try.func51 (by kernel_rfl) rfl rfl (by (repeat' (first | exact PV.Le.refl _ | exact LeL.nil | exact PV.Le.nil _ | exact PV.Le.acc _ _ _ | apply LeL.cons | apply PV.Le.agg | apply PV.Le.tup))) rfl rfl (trait_impl w name)) ?_
  refine AL.cons rfl (AOp.move (.inl rfl) rfl rfl) ?_
  refine AL.cons rfl (AOp.extract rfl rfl rfl rfl) ?_
  refine AL.cons rfl (AOp.extract rfl rfl rfl rfl) ?_
  refine AL.cons rfl (AOp.extract rfl rfl rfl rfl) ?_
  refine AL.cons rfl (AOp.alloc rfl rfl zr68) ?_
  refine AL.cons rfl (AOp.storePtr (cs := [.t (.leaf (.string ((oTrait (w.traitAt name)).gName))), .t (.row 1 (strTrs ((oTrait (w.traitAt name)).gSupertraits))), .t (.leaf (.bool ((oTrait (w.traitAt name)).gAuto))), .t (.leaf (.bool ((oTrait (w.traitAt name)).gAssoc))), .t (.row 16 (GSignature.trs ((oTrait (w.traitAt name)).gSignatures)))]) (ds := [.t (.leaf (.string ((oTrait (w.traitAt name)).gName))), .t (.row 1 (strTrs ((oTrait (w.traitAt name)).gSupertraits))), .t (.leaf (.bool ((oTrait (w.traitAt name)).gAuto))), .t (.leaf (.bool ((oTrait (w.traitAt name)).gAssoc))), .t (.row 16 (GSignature.trs ((oTrait (w.traitAt name)).gSignatures)))]) rfl rfl rfl rfl rfl rfl rfl sz68 (Nat.le_of_ble_eq_true rfl) rfl) ?_
  refine AL.cons rfl (AOp.move (.inr rfl) rfl rfl) ?_
  refine AL.cons rfl (AOp.move (.inr rfl) rfl rfl) ?_
  refine AL.nil ?_
  refine AWP.seq ?_
  refine AWP.seq ?_
  refine AWP.region_lit ?_
  refine AL.cons rfl (AOp.fieldPtr (k := 1) (d := 0) (e := 1) rfl rfl rfl fo68_1) ?_
  refine AL.cons rfl (AOp.loadPtr1 rfl rfl rfl rfl sh47 rfl) ?_
  refine AL.fact (lk_lenN 20 rfl rfl (strTrs_len _)) (fun hl2 => ?_)
  refine AL.cons rfl (AOp.lenN rfl rfl rfl rfl el47 (strTrs_len _)) ?_
  refine AL.cons rfl (AOp.move (.inl rfl) rfl rfl) ?_
  refine AL.nil ?_
  refine AWP.block ?_
  refine AWP.loopJ (ι := Nat × List ByteArray) (fun ⟨i, o⟩ => i ≤ (oTrait (w.traitAt name)).gSupertraits.length ∧ supF w (n + 1) name out = ((oTrait (w.traitAt name)).gSupertraits.drop i).foldl (fun o s => if s ∈ o then o else supF w n s (o ++ [s])) o ∧ supM w o ≤ supM w out ∧ o.length + supM w o ≤ out.length + supM w out) (fun ⟨i, o⟩ => ⟨[(0, (GProgram.pv w)), (1, .acc 1 (strTrs (o)) 0), (2, .t (.leaf (.string (name)))), (3, .ptr 0 0), (6, .nil), (7, .ptr 1 0), (8, .t (.leaf (.int .i64 (oInt (w.traitAt name))))), (9, .t (.leaf (.bool ((w.traitAt name).isSome)))), (20, .t (.row 1 (strTrs ((oTrait (w.traitAt name)).gSupertraits)))), (21, .t (.leaf (.int .i64 (((((oTrait (w.traitAt name)).gSupertraits).length : Nat) : Int))))), (22, .t (.leaf (.int .i64 (((i : Nat) : Int)))))], ⟨[some ⟨33, [.t (.row 6 (GPackage.trs (w.gPackages)))]⟩, some ⟨68, [.t (.leaf (.string ((oTrait (w.traitAt name)).gName))), .t (.row 1 (strTrs ((oTrait (w.traitAt name)).gSupertraits))), .t (.leaf (.bool ((oTrait (w.traitAt name)).gAuto))), .t (.leaf (.bool ((oTrait (w.traitAt name)).gAssoc))), .t (.row 16 (GSignature.trs ((oTrait (w.traitAt name)).gSignatures)))]⟩], [⟨9, 1, strTrs (o), false⟩]⟩⟩) (fun ⟨i, o⟩ => (oTrait (w.traitAt name)).gSupertraits.length - i) ((0, out)) ?_ ?_ ?_
  · exact ⟨Nat.zero_le _, rfl, Nat.le_refl _, Nat.le_refl _⟩
  · skip
    exact Wk.mk (StLe.mk' ⟨⟨rfl, by (repeat' (first | exact PV.Le.refl _ | exact LeL.nil | exact PV.Le.nil _ | exact PV.Le.acc _ _ _ | apply LeL.cons | apply PV.Le.agg | apply PV.Le.tup)), rfl⟩, ⟨⟨rfl, by (repeat' (first | exact PV.Le.refl _ | exact LeL.nil | exact PV.Le.nil _ | exact PV.Le.acc _ _ _ | apply LeL.cons | apply PV.Le.agg | apply PV.Le.tup)), rfl⟩, trivial⟩⟩ (by first | rfl | simp)) (keeps_rows hC (Nat.le_of_ble_eq_true rfl)) ⟨⟨_, rfl, .refl _, rfl⟩, ⟨⟨_, rfl, by (repeat' (first | exact PV.Le.refl _ | exact LeL.nil | exact PV.Le.nil _ | exact PV.Le.acc _ _ _ | apply LeL.cons | apply PV.Le.agg | apply PV.Le.tup)), rfl⟩, ⟨⟨_, rfl, .refl _, rfl⟩, ⟨⟨_, rfl, .refl _, rfl⟩, ⟨⟨_, rfl, .refl _, rfl⟩, ⟨⟨_, rfl, .refl _, rfl⟩, ⟨⟨_, rfl, .refl _, rfl⟩, ⟨⟨_, rfl, .refl _, rfl⟩, ⟨⟨_, rfl, .refl _, rfl⟩, ⟨⟨_, rfl, .refl _, rfl⟩, ⟨⟨_, rfl, by (repeat' (first | exact PV.Le.refl _ | exact LeL.nil | exact PV.Le.nil _ | exact PV.Le.acc _ _ _ | apply LeL.cons | apply PV.Le.agg | apply PV.Le.tup)), rfl⟩, trivial⟩⟩⟩⟩⟩⟩⟩⟩⟩⟩⟩
  rintro ⟨i, o⟩ hJ3
  obtain ⟨hi1, hi2, hi3, hi4⟩ := hJ3
  refine AWP.seq ?_
  refine AWP.region_lit ?_
  refine AL.cons rfl (AOp.lss rfl rfl rfl rfl) ?_
  refine AL.nil ?_
  refine AWP.seq ?_
  refine AWP.cond rfl (fun h4 => ?_) (fun h4 => ?_)
  · skip
    have h4b := h4
    try simp only [decide_eq_true_eq, decide_eq_false_iff_not, Bool.not_eq_true', Bool.not_eq_false', Bool.not_eq_eq_eq_not, Bool.not_true, Bool.not_false, ge_iff_le, gt_iff_lt, Int.not_lt, Int.not_le] at h4b
    have h4n : i < ((oTrait (w.traitAt name)).gSupertraits).length := by omega
    refine AWP.skip ?_
    refine AWP.seq ?_
    refine AWP.block ?_
    refine AWP.seq ?_
    refine AWP.region_lit ?_
    refine AL.cons rfl (AOp.index (k := i) rfl rfl rfl rfl rfl (strTrs_cs h4n) el47) ?_
    refine AL.cons rfl (AOp.loadEptr1 (d := .leaf (.string (((oTrait (w.traitAt name)).gSupertraits)[i]))) rfl rfl rfl sh9 rfl) ?_
    refine AL.cons rfl (AOp.move (.inr rfl) rfl rfl) ?_
    refine AL.nil ?_
    refine AWP.seq ?_
    refine AWP.region_lit ?_
    refine AL.cons rfl (AOp.move (.inl rfl) rfl rfl) ?_
    refine AL.cons rfl (AOp.move (.inl rfl) rfl rfl) ?_
    refine AL.cons rfl (AOp.callF (ps := [_, _]) rfl rfl Try.func27 (by kernel_rfl) rfl rfl (by (repeat' (first | exact PV.Le.refl _ | exact LeL.nil | exact PV.Le.nil _ | exact PV.Le.acc _ _ _ | apply LeL.cons | apply PV.Le.agg | apply PV.Le.tup))) rfl rfl (contS_ok o (((oTrait (w.traitAt name)).gSupertraits)[i]))) ?_
    refine AL.cons rfl (AOp.notB rfl rfl rfl) ?_
    refine AL.nil ?_
    refine AWP.cond rfl (fun h5 => ?_) (fun h5 => ?_)
    · skip
      have h5b := h5
      try simp only [decide_eq_true_eq, decide_eq_false_iff_not, Bool.not_eq_true', Bool.not_eq_false', Bool.not_eq_eq_eq_not, Bool.not_true, Bool.not_false, ge_iff_le, gt_iff_lt, Int.not_lt, Int.not_le] at h5b
      refine AWP.drawnL ⟨_, _, fun j' _ => ([(⟨[some ⟨33, [.t (.row 6 (GPackage.trs (w.gPackages)))]⟩, some ⟨68, [.t (.leaf (.string ((oTrait (w.traitAt name)).gName))), .t (.row 1 (strTrs ((oTrait (w.traitAt name)).gSupertraits))), .t (.leaf (.bool ((oTrait (w.traitAt name)).gAuto))), .t (.leaf (.bool ((oTrait (w.traitAt name)).gAssoc))), .t (.row 16 (GSignature.trs ((oTrait (w.traitAt name)).gSignatures)))]⟩], [⟨9, 1, strTrs (o), false⟩]⟩ : Sto), (⟨[some ⟨33, [.t (.row 6 (GPackage.trs (w.gPackages)))]⟩, some ⟨68, [.t (.leaf (.string ((oTrait (w.traitAt name)).gName))), .t (.row 1 (strTrs ((oTrait (w.traitAt name)).gSupertraits))), .t (.leaf (.bool ((oTrait (w.traitAt name)).gAuto))), .t (.leaf (.bool ((oTrait (w.traitAt name)).gAssoc))), .t (.row 16 (GSignature.trs ((oTrait (w.traitAt name)).gSignatures)))]⟩], [⟨9, 1, strTrs (o ++ [(((oTrait (w.traitAt name)).gSupertraits)[i])]), false⟩]⟩ : Sto), (⟨[some ⟨33, [.t (.row 6 (GPackage.trs (w.gPackages)))]⟩, some ⟨68, [.t (.leaf (.string ((oTrait (w.traitAt name)).gName))), .t (.row 1 (strTrs ((oTrait (w.traitAt name)).gSupertraits))), .t (.leaf (.bool ((oTrait (w.traitAt name)).gAuto))), .t (.leaf (.bool ((oTrait (w.traitAt name)).gAssoc))), .t (.row 16 (GSignature.trs ((oTrait (w.traitAt name)).gSignatures)))]⟩], [⟨9, 1, strTrs (supF w n (((oTrait (w.traitAt name)).gSupertraits)[i]) (o ++ [(((oTrait (w.traitAt name)).gSupertraits)[i])])), false⟩]⟩ : Sto)] : List Sto).getD j' (⟨[some ⟨33, [.t (.row 6 (GPackage.trs (w.gPackages)))]⟩, some ⟨68, [.t (.leaf (.string ((oTrait (w.traitAt name)).gName))), .t (.row 1 (strTrs ((oTrait (w.traitAt name)).gSupertraits))), .t (.leaf (.bool ((oTrait (w.traitAt name)).gAuto))), .t (.leaf (.bool ((oTrait (w.traitAt name)).gAssoc))), .t (.row 16 (GSignature.trs ((oTrait (w.traitAt name)).gSignatures)))]⟩], [⟨9, 1, strTrs (supF w n (((oTrait (w.traitAt name)).gSupertraits)[i]) (o ++ [(((oTrait (w.traitAt name)).gSupertraits)[i])])), false⟩]⟩ : Sto), fun q' => ([some ((GProgram.pv w)), some (.acc 1 (strTrs (o)) 0), some (.t (.leaf (.string (((oTrait (w.traitAt name)).gSupertraits)[i])))), some (.t (.row 1 (strTrs ([(((oTrait (w.traitAt name)).gSupertraits)[i])])))), some (.acc 1 (strTrs (o ++ [(((oTrait (w.traitAt name)).gSupertraits)[i])])) 0), some (.t (.leaf (.string (((oTrait (w.traitAt name)).gSupertraits)[i])))), some (.acc 1 (strTrs (supF w n (((oTrait (w.traitAt name)).gSupertraits)[i]) (o ++ [(((oTrait (w.traitAt name)).gSupertraits)[i])]))) 0), some (.acc 1 (strTrs (supF w n (((oTrait (w.traitAt name)).gSupertraits)[i]) (o ++ [(((oTrait (w.traitAt name)).gSupertraits)[i])]))) 0)] : List (Option PV)).getD q' none, fun q' => ([.q 0 1, .q 0 0, .q 0 0, .q 0 0, .ef 0, .q 0 1, .ef 1, .q 2 2] : List DK).getD q' (.q 0 0), [4, 6], none, fun q' => ([[(3, none)], [(1, none)], [(11, none)], [(32, some 2)], [(31, some 1), (33, some 3)], [(11, none)], [(35, some 5), (34, some 4), (30, some 0)], [(36, some 6)]] : List (List (Nat × Option Nat))).getD q' []⟩ rfl mixed (by kernel_rfl) rfl rfl ⟨?_, ?_, ?_, ?_, ?_, ?_, ?_, ?_, trivial⟩ rfl ?_
      · refine .inl ⟨rfl, fun s' j b (h1 : 0 ≤ j) (h2 : j ≤ 1) hs hl => ?_⟩
        rcases (by omega : j = 0 ∨ j = 1) with rfl | rfl <;> exact ⟨_, rfl, AOp.loadPtr (cs := [.t (.row 6 (GPackage.trs (w.gPackages)))]) rfl rfl (hl 3 none _ (.head _) rfl) (by rw [hs]; rfl) sh33 rfl rfl⟩
      · refine .inl ⟨rfl, fun s' j b (h1 : 0 ≤ j) (h2 : j ≤ 0) hs hl => ?_⟩
        obtain rfl : j = 0 := by omega
        exact ⟨_, rfl, AOp.move (.inl rfl) rfl (hl 1 none _ (.head _) rfl)⟩
      · refine .inl ⟨rfl, fun s' j b (h1 : 0 ≤ j) (h2 : j ≤ 0) hs hl => ?_⟩
        obtain rfl : j = 0 := by omega
        exact ⟨_, rfl, AOp.move (.inl rfl) rfl (hl 11 none _ (.head _) rfl)⟩
      · refine .inl ⟨rfl, fun s' j b (h1 : 0 ≤ j) (h2 : j ≤ 0) hs hl => ?_⟩
        obtain rfl : j = 0 := by omega
        exact ⟨_, rfl, AOp.buildSliceQ (es := strTrs ([(((oTrait (w.traitAt name)).gSupertraits)[i])])) (cs := [.t (.leaf (.string (((oTrait (w.traitAt name)).gSupertraits)[i])))]) rfl rfl el47 zr9 (parts_cons (hl 32 (some 2) _ (.head _) rfl) rfl rfl rfl) rfl (by (repeat' (first | exact PV.Le.refl _ | exact LeL.nil | exact PV.Le.nil _ | exact PV.Le.acc _ _ _ | apply LeL.cons | apply PV.Le.agg | apply PV.Le.tup))) rfl (by simp [strTrs]) (by decide) rfl (by decide)⟩
      · refine .inl ⟨rfl, fun s' b hs hl => ?_⟩
        refine .inl ⟨_, rfl, AOp.congr (AOp.appendE (es3 := strTrs (o ++ [(((oTrait (w.traitAt name)).gSupertraits)[i])])) rfl rfl (hl 31 (some 1) _ (.head _) rfl) (by rw [hs]; rfl) rfl rfl rfl (hl 33 (some 3) _ (.tail _ (.head _)) rfl) rfl (strTrs_all _) el47 ze47 (by decide) (by rw [strTrs_len, strTrs_len]; simp; omega) (strTrs_append _ _)) ?_⟩
        first | (rw [hs]; rfl) | rfl
      · refine .inl ⟨rfl, fun s' j b (h1 : 0 ≤ j) (h2 : j ≤ 1) hs hl => ?_⟩
        rcases (by omega : j = 0 ∨ j = 1) with rfl | rfl <;> exact ⟨_, rfl, AOp.move (.inl rfl) rfl (hl 11 none _ (.head _) rfl)⟩
      · refine .inl ⟨rfl, fun s' b hs hl => ?_⟩
        refine .inl ⟨_, rfl, AOp.congr (AOp.callPE (pre := ⟨[], [⟨9, 1, strTrs (o ++ [(((oTrait (w.traitAt name)).gSupertraits)[i])]), false⟩]⟩) (st' := ⟨[], [⟨9, 1, strTrs (supF w n (((oTrait (w.traitAt name)).gSupertraits)[i]) (o ++ [(((oTrait (w.traitAt name)).gSupertraits)[i])])), false⟩]⟩) (ps := [_, _, _]) (qs := [(GProgram.pv w), .acc 1 (strTrs (o ++ [(((oTrait (w.traitAt name)).gSupertraits)[i])])) 0, .t (.leaf (.string (((oTrait (w.traitAt name)).gSupertraits)[i])))]) [] [0] rfl rfl Try.func34 (by kernel_rfl) rfl (evs_cons (hl 30 (some 0) _ (.tail _ (.tail _ (.head _))) rfl) (evs_cons (hl 34 (some 4) _ (.tail _ (.head _)) rfl) (evs_cons (hl 35 (some 5) _ (.head _) rfl) rfl))) hs (by (try rw [hs]); exact ⟨rfl, rfl, by decide, by decide, fun k h => absurd h (Nat.not_lt_zero _), fun k x h => by simp at h, fun r row h => by rcases r with _ | r <;> simp at h; subst h; rfl⟩) (by (repeat' (first | exact PV.Le.refl _ | exact LeL.nil | exact PV.Le.nil _ | exact PV.Le.acc _ _ _ | apply LeL.cons | apply PV.Le.agg | apply PV.Le.tup))) rfl rfl rfl (ih _ _ (by have := sup_step (w := w) (name := name) (o := o) (List.getElem_mem (show i < (oTrait (w.traitAt name)).gSupertraits.length by omega)) (by assumption); omega) (by have := sup_step (w := w) (name := name) (o := o) (List.getElem_mem (show i < (oTrait (w.traitAt name)).gSupertraits.length by omega)) (by assumption); have h4 : (o ++ [((oTrait (w.traitAt name)).gSupertraits)[i]]).length = o.length + 1 := (by simp); omega))) ?_⟩
        first | (rw [hs]; rfl) | rfl
      · refine .inl ⟨rfl, fun s' j b (h1 : 2 ≤ j) (h2 : j ≤ 2) hs hl => ?_⟩
        obtain rfl : j = 2 := by omega
        exact ⟨_, rfl, AOp.move (.inr rfl) rfl (hl 36 (some 6) _ (.head _) rfl)⟩
      refine AWP.region_lit ?_
      refine AL.cons rfl (AOp.addI rfl rfl rfl rfl (c := ((i + 1 : Nat) : Int)) (by omega) (by omega)) ?_
      refine AL.cons rfl (AOp.move (.inl rfl) rfl rfl) ?_
      refine AL.nil ?_
      refine ⟨(i + 1, supF w n (((oTrait (w.traitAt name)).gSupertraits)[i]) (o ++ [(((oTrait (w.traitAt name)).gSupertraits)[i])])), ?_, ?_, ?_⟩
      · first | exact supJ_has (by omega) hi2 hi3 hi4 (by assumption) | exact supJ_new (by omega) hi2 hi3 hi4 (by assumption) rfl
      · skip
        exact Wk.mk (StLe.mk' ⟨⟨rfl, by (repeat' (first | exact PV.Le.refl _ | exact LeL.nil | exact PV.Le.nil _ | exact PV.Le.acc _ _ _ | apply LeL.cons | apply PV.Le.agg | apply PV.Le.tup)), rfl⟩, ⟨⟨rfl, by (repeat' (first | exact PV.Le.refl _ | exact LeL.nil | exact PV.Le.nil _ | exact PV.Le.acc _ _ _ | apply LeL.cons | apply PV.Le.agg | apply PV.Le.tup)), rfl⟩, trivial⟩⟩ (by first | rfl | simp)) (keeps_rows hC (Nat.le_of_ble_eq_true rfl)) ⟨⟨_, rfl, .refl _, rfl⟩, ⟨⟨_, rfl, by (repeat' (first | exact PV.Le.refl _ | exact LeL.nil | exact PV.Le.nil _ | exact PV.Le.acc _ _ _ | apply LeL.cons | apply PV.Le.agg | apply PV.Le.tup)), rfl⟩, ⟨⟨_, rfl, .refl _, rfl⟩, ⟨⟨_, rfl, .refl _, rfl⟩, ⟨⟨_, rfl, .refl _, rfl⟩, ⟨⟨_, rfl, .refl _, rfl⟩, ⟨⟨_, rfl, .refl _, rfl⟩, ⟨⟨_, rfl, .refl _, rfl⟩, ⟨⟨_, rfl, .refl _, rfl⟩, ⟨⟨_, rfl, .refl _, rfl⟩, ⟨⟨_, rfl, by (repeat' (first | exact PV.Le.refl _ | exact LeL.nil | exact PV.Le.nil _ | exact PV.Le.acc _ _ _ | apply LeL.cons | apply PV.Le.agg | apply PV.Le.tup)), rfl⟩, trivial⟩⟩⟩⟩⟩⟩⟩⟩⟩⟩⟩
      · dsimp only; omega
    · skip
      have h5b := h5
      try simp only [decide_eq_true_eq, decide_eq_false_iff_not, Bool.not_eq_true', Bool.not_eq_false', Bool.not_eq_eq_eq_not, Bool.not_true, Bool.not_false, ge_iff_le, gt_iff_lt, Int.not_lt, Int.not_le] at h5b
      refine AWP.skip ?_
      refine AWP.region_lit ?_
      refine AL.cons rfl (AOp.addI rfl rfl rfl rfl (c := ((i + 1 : Nat) : Int)) (by omega) (by omega)) ?_
      refine AL.cons rfl (AOp.move (.inl rfl) rfl rfl) ?_
      refine AL.nil ?_
      refine ⟨(i + 1, o), ?_, ?_, ?_⟩
      · first | exact supJ_has (by omega) hi2 hi3 hi4 (by assumption) | exact supJ_new (by omega) hi2 hi3 hi4 (by assumption) rfl
      · skip
        exact Wk.mk (StLe.mk' ⟨⟨rfl, by (repeat' (first | exact PV.Le.refl _ | exact LeL.nil | exact PV.Le.nil _ | exact PV.Le.acc _ _ _ | apply LeL.cons | apply PV.Le.agg | apply PV.Le.tup)), rfl⟩, ⟨⟨rfl, by (repeat' (first | exact PV.Le.refl _ | exact LeL.nil | exact PV.Le.nil _ | exact PV.Le.acc _ _ _ | apply LeL.cons | apply PV.Le.agg | apply PV.Le.tup)), rfl⟩, trivial⟩⟩ (by first | rfl | simp)) (keeps_rows hC (Nat.le_of_ble_eq_true rfl)) ⟨⟨_, rfl, .refl _, rfl⟩, ⟨⟨_, rfl, .refl _, rfl⟩, ⟨⟨_, rfl, .refl _, rfl⟩, ⟨⟨_, rfl, .refl _, rfl⟩, ⟨⟨_, rfl, .refl _, rfl⟩, ⟨⟨_, rfl, .refl _, rfl⟩, ⟨⟨_, rfl, .refl _, rfl⟩, ⟨⟨_, rfl, .refl _, rfl⟩, ⟨⟨_, rfl, .refl _, rfl⟩, ⟨⟨_, rfl, .refl _, rfl⟩, ⟨⟨_, rfl, by (repeat' (first | exact PV.Le.refl _ | exact LeL.nil | exact PV.Le.nil _ | exact PV.Le.acc _ _ _ | apply LeL.cons | apply PV.Le.agg | apply PV.Le.tup)), rfl⟩, trivial⟩⟩⟩⟩⟩⟩⟩⟩⟩⟩⟩
      · dsimp only; omega
  · skip
    have h4b := h4
    try simp only [decide_eq_true_eq, decide_eq_false_iff_not, Bool.not_eq_true', Bool.not_eq_false', Bool.not_eq_eq_eq_not, Bool.not_true, Bool.not_false, ge_iff_le, gt_iff_lt, Int.not_lt, Int.not_le] at h4b
    have h4n : i ≥ ((oTrait (w.traitAt name)).gSupertraits).length := by omega
    refine AWP.exit ?_
    refine AWP.seq ?_
    refine AWP.region_lit ?_
    refine AL.cons rfl (AOp.move (.inl rfl) rfl rfl) ?_
    refine AL.cons rfl (AOp.move (.inr rfl) rfl rfl) ?_
    refine AL.nil ?_
    refine AWP.ret ?_
    obtain rfl := fold_end (by omega) hi2
    exact Ends.mk (ps := [_]) (.inr rfl) ⟨rfl, trivial⟩ rfl (StLe.mk' (st' := ⟨[], [⟨9, 1, strTrs (supF w (n + 1) name out), false⟩]⟩) trivial rfl) (keeps_rows hC (Nat.le_of_ble_eq_true rfl)) (q := .acc 1 (strTrs (supF w (n + 1) name out)) 0) (.refl _) rfl ⟨rfl, rfl⟩

theorem supersNil_impl (w : GProgram) (name : ByteArray) (hb : w.allSup.length ≤ 1099511627776) : AFun Try.prog 34 [(GProgram.pv w), .nil, .t (.leaf (.string name))] (.t (.row 1 (strTrs (w.supers name)))) :=
  ACalls.regNil (l1 := [GProgram.pv w]) (l2 := [.t (.leaf (.string name))]) (E := 9) (sz := 1) (by decide) (supers_impl w (supM w [] + 1) name [] (Nat.lt_succ_self _) (supM_le hb)) (.acc 1 _ 0) rfl
set_option maxRecDepth 100000 in
theorem supers_spec (w : GProgram) : ∀ (n : Nat) (name : ByteArray) (out : List ByteArray), supM w out < n → out.length + supM w out ≤ 1099511627776 → ACalls Try.prog 32 [(GProgram.pv w), .t (.leaf (.string (name))), .acc 1 (strTrs (out)) 0] ⟨[], [⟨9, 1, strTrs (out), false⟩]⟩ (fun r t => r = .acc 1 (strTrs (supF w n name out)) 0 ∧ t = ⟨[], [⟨9, 1, strTrs (supF w n name out), false⟩]⟩) := by
  intro n
  induction n with
  | zero => intro name out h; exact absurd h (Nat.not_lt_zero _)
  | succ n ih =>
  intro name out hm hbd
  refine ACalls.intro Try.func32 rfl (by first | decide | (simp; done) | (simp; decide)) ?_
  intro C hC
  refine AWP.fact (lk_lenN 2 rfl rfl (strTrs_len _)) (fun hl1 => ?_)
  refine AWP.seq ?_
  refine AWP.region_lit ?_
  refine AL.cons rfl (AOp.box (cs := [.t (.row 6 (GPackage.trs (w.gPackages)))]) rfl rfl rfl rfl rfl) ?_
  refine AL.cons rfl (AOp.move (.inr rfl) rfl rfl) ?_
  refine AL.nil ?_
  refine AWP.seq ?_
  refine AWP.region_lit ?_
  refine AL.cons rfl (AOp.loadPtr (cs := [.t (.row 6 (GPackage.trs (w.gPackages)))]) rfl rfl rfl rfl sh33 rfl rfl) ?_
  refine AL.cons rfl (AOp.move (.inl rfl) rfl rfl) ?_
  refine AL.cons rfl (AOp.callF (ps := [_, _]) rfl rfl Try.func50 (by kernel_rfl) rfl rfl (by (repeat' (first | exact PV.Le.refl _ | exact LeL.nil | exact PV.Le.nil _ | exact PV.Le.acc _ _ _ | apply LeL.cons | apply PV.Le.agg | apply PV.Le.tup))) rfl rfl (trait_spec w name)) ?_
  refine AL.cons rfl (AOp.move (.inl rfl) rfl rfl) ?_
  refine AL.cons rfl (AOp.extract rfl rfl rfl rfl) ?_
  refine AL.cons rfl (AOp.extract rfl rfl rfl rfl) ?_
  refine AL.cons rfl (AOp.extract rfl rfl rfl rfl) ?_
  refine AL.cons rfl (AOp.alloc rfl rfl zr68) ?_
  refine AL.cons rfl (AOp.storePtr (cs := [.t (.leaf (.string ((oTrait (w.traitAt name)).gName))), .t (.row 1 (strTrs ((oTrait (w.traitAt name)).gSupertraits))), .t (.leaf (.bool ((oTrait (w.traitAt name)).gAuto))), .t (.leaf (.bool ((oTrait (w.traitAt name)).gAssoc))), .t (.row 16 (GSignature.trs ((oTrait (w.traitAt name)).gSignatures)))]) (ds := [.t (.leaf (.string ((oTrait (w.traitAt name)).gName))), .t (.row 1 (strTrs ((oTrait (w.traitAt name)).gSupertraits))), .t (.leaf (.bool ((oTrait (w.traitAt name)).gAuto))), .t (.leaf (.bool ((oTrait (w.traitAt name)).gAssoc))), .t (.row 16 (GSignature.trs ((oTrait (w.traitAt name)).gSignatures)))]) rfl rfl rfl rfl rfl rfl rfl sz68 (Nat.le_of_ble_eq_true rfl) rfl) ?_
  refine AL.cons rfl (AOp.move (.inr rfl) rfl rfl) ?_
  refine AL.cons rfl (AOp.move (.inr rfl) rfl rfl) ?_
  refine AL.nil ?_
  refine AWP.seq ?_
  refine AWP.seq ?_
  refine AWP.region_lit ?_
  refine AL.cons rfl (AOp.move (.inr rfl) rfl rfl) ?_
  refine AL.nil ?_
  refine AWP.block ?_
  refine AWP.loopJ (ι := Nat × List ByteArray) (fun ⟨i, o⟩ => i ≤ (oTrait (w.traitAt name)).gSupertraits.length ∧ supF w (n + 1) name out = ((oTrait (w.traitAt name)).gSupertraits.drop i).foldl (fun o s => if s ∈ o then o else supF w n s (o ++ [s])) o ∧ supM w o ≤ supM w out ∧ o.length + supM w o ≤ out.length + supM w out) (fun ⟨i, o⟩ => ⟨[(0, (GProgram.pv w)), (1, .t (.leaf (.string (name)))), (2, .acc 1 (strTrs (o)) 0), (3, .ptr 0 0), (6, .nil), (7, .ptr 1 0), (8, .t (.leaf (.int .i64 (oInt (w.traitAt name))))), (9, .t (.leaf (.bool ((w.traitAt name).isSome)))), (10, .t (.leaf (.int .i64 (((i : Nat) : Int)))))], ⟨[some ⟨33, [.t (.row 6 (GPackage.trs (w.gPackages)))]⟩, some ⟨68, [.t (.leaf (.string ((oTrait (w.traitAt name)).gName))), .t (.row 1 (strTrs ((oTrait (w.traitAt name)).gSupertraits))), .t (.leaf (.bool ((oTrait (w.traitAt name)).gAuto))), .t (.leaf (.bool ((oTrait (w.traitAt name)).gAssoc))), .t (.row 16 (GSignature.trs ((oTrait (w.traitAt name)).gSignatures)))]⟩], [⟨9, 1, strTrs (o), false⟩]⟩⟩) (fun ⟨i, o⟩ => (oTrait (w.traitAt name)).gSupertraits.length - i) ((0, out)) ?_ ?_ ?_
  · exact ⟨Nat.zero_le _, rfl, Nat.le_refl _, Nat.le_refl _⟩
  · skip
    exact Wk.mk (StLe.mk' ⟨⟨rfl, by (repeat' (first | exact PV.Le.refl _ | exact LeL.nil | exact PV.Le.nil _ | exact PV.Le.acc _ _ _ | apply LeL.cons | apply PV.Le.agg | apply PV.Le.tup)), rfl⟩, ⟨⟨rfl, by (repeat' (first | exact PV.Le.refl _ | exact LeL.nil | exact PV.Le.nil _ | exact PV.Le.acc _ _ _ | apply LeL.cons | apply PV.Le.agg | apply PV.Le.tup)), rfl⟩, trivial⟩⟩ (by first | rfl | simp)) (keeps_rows hC (Nat.le_of_ble_eq_true rfl)) ⟨⟨_, rfl, .refl _, rfl⟩, ⟨⟨_, rfl, .refl _, rfl⟩, ⟨⟨_, rfl, by (repeat' (first | exact PV.Le.refl _ | exact LeL.nil | exact PV.Le.nil _ | exact PV.Le.acc _ _ _ | apply LeL.cons | apply PV.Le.agg | apply PV.Le.tup)), rfl⟩, ⟨⟨_, rfl, .refl _, rfl⟩, ⟨⟨_, rfl, .refl _, rfl⟩, ⟨⟨_, rfl, .refl _, rfl⟩, ⟨⟨_, rfl, .refl _, rfl⟩, ⟨⟨_, rfl, .refl _, rfl⟩, ⟨⟨_, rfl, by (repeat' (first | exact PV.Le.refl _ | exact LeL.nil | exact PV.Le.nil _ | exact PV.Le.acc _ _ _ | apply LeL.cons | apply PV.Le.agg | apply PV.Le.tup)), rfl⟩, trivial⟩⟩⟩⟩⟩⟩⟩⟩⟩
  rintro ⟨i, o⟩ hJ2
  obtain ⟨hi1, hi2, hi3, hi4⟩ := hJ2
  refine AWP.seq ?_
  refine AWP.seq ?_
  refine AWP.region_lit ?_
  refine AL.cons rfl (AOp.move (.inl rfl) rfl rfl) ?_
  refine AL.cons rfl (AOp.fieldPtr (k := 1) (d := 0) (e := 1) rfl rfl rfl fo68_1) ?_
  refine AL.cons rfl (AOp.loadPtr1 rfl rfl rfl rfl sh47 rfl) ?_
  refine AL.fact (lk_lenN 20 rfl rfl (strTrs_len _)) (fun hl3 => ?_)
  refine AL.cons rfl (AOp.lenN rfl rfl rfl rfl el47 (strTrs_len _)) ?_
  refine AL.cons rfl (AOp.lss rfl rfl rfl rfl) ?_
  refine AL.nil ?_
  refine AWP.cond rfl (fun h4 => ?_) (fun h4 => ?_)
  · skip
    have h4b := h4
    try simp only [decide_eq_true_eq, decide_eq_false_iff_not, Bool.not_eq_true', Bool.not_eq_false', Bool.not_eq_eq_eq_not, Bool.not_true, Bool.not_false, ge_iff_le, gt_iff_lt, Int.not_lt, Int.not_le] at h4b
    have h4n : i < ((oTrait (w.traitAt name)).gSupertraits).length := by omega
    refine AWP.skip ?_
    refine AWP.seq ?_
    refine AWP.block ?_
    refine AWP.seq ?_
    refine AWP.region_lit ?_
    refine AL.cons rfl (AOp.move (.inl rfl) rfl rfl) ?_
    refine AL.cons rfl (AOp.fieldPtr (k := 1) (d := 0) (e := 1) rfl rfl rfl fo68_1) ?_
    refine AL.cons rfl (AOp.loadPtr1 rfl rfl rfl rfl sh47 rfl) ?_
    refine AL.cons rfl (AOp.move (.inl rfl) rfl rfl) ?_
    refine AL.cons rfl (AOp.index (k := i) rfl rfl rfl rfl rfl (strTrs_cs h4n) el47) ?_
    refine AL.cons rfl (AOp.loadEptr1 (d := .leaf (.string (((oTrait (w.traitAt name)).gSupertraits)[i]))) rfl rfl rfl sh9 rfl) ?_
    refine AL.cons rfl (AOp.callF (ps := [_, _]) rfl rfl Try.func25 (by kernel_rfl) rfl rfl (by (repeat' (first | exact PV.Le.refl _ | exact LeL.nil | exact PV.Le.nil _ | exact PV.Le.acc _ _ _ | apply LeL.cons | apply PV.Le.agg | apply PV.Le.tup))) rfl rfl (has_spec o (((oTrait (w.traitAt name)).gSupertraits)[i]))) ?_
    refine AL.cons rfl (AOp.notB rfl rfl rfl) ?_
    refine AL.nil ?_
    refine AWP.cond rfl (fun h5 => ?_) (fun h5 => ?_)
    · skip
      have h5b := h5
      try simp only [decide_eq_true_eq, decide_eq_false_iff_not, Bool.not_eq_true', Bool.not_eq_false', Bool.not_eq_eq_eq_not, Bool.not_true, Bool.not_false, ge_iff_le, gt_iff_lt, Int.not_lt, Int.not_le] at h5b
      refine AWP.drawnL ⟨_, _, fun j' _ => ([(⟨[some ⟨33, [.t (.row 6 (GPackage.trs (w.gPackages)))]⟩, some ⟨68, [.t (.leaf (.string ((oTrait (w.traitAt name)).gName))), .t (.row 1 (strTrs ((oTrait (w.traitAt name)).gSupertraits))), .t (.leaf (.bool ((oTrait (w.traitAt name)).gAuto))), .t (.leaf (.bool ((oTrait (w.traitAt name)).gAssoc))), .t (.row 16 (GSignature.trs ((oTrait (w.traitAt name)).gSignatures)))]⟩], [⟨9, 1, strTrs (o), false⟩]⟩ : Sto), (⟨[some ⟨33, [.t (.row 6 (GPackage.trs (w.gPackages)))]⟩, some ⟨68, [.t (.leaf (.string ((oTrait (w.traitAt name)).gName))), .t (.row 1 (strTrs ((oTrait (w.traitAt name)).gSupertraits))), .t (.leaf (.bool ((oTrait (w.traitAt name)).gAuto))), .t (.leaf (.bool ((oTrait (w.traitAt name)).gAssoc))), .t (.row 16 (GSignature.trs ((oTrait (w.traitAt name)).gSignatures)))]⟩], [⟨9, 1, strTrs (o ++ [(((oTrait (w.traitAt name)).gSupertraits)[i])]), false⟩]⟩ : Sto), (⟨[some ⟨33, [.t (.row 6 (GPackage.trs (w.gPackages)))]⟩, some ⟨68, [.t (.leaf (.string ((oTrait (w.traitAt name)).gName))), .t (.row 1 (strTrs ((oTrait (w.traitAt name)).gSupertraits))), .t (.leaf (.bool ((oTrait (w.traitAt name)).gAuto))), .t (.leaf (.bool ((oTrait (w.traitAt name)).gAssoc))), .t (.row 16 (GSignature.trs ((oTrait (w.traitAt name)).gSignatures)))]⟩], [⟨9, 1, strTrs (supF w n (((oTrait (w.traitAt name)).gSupertraits)[i]) (o ++ [(((oTrait (w.traitAt name)).gSupertraits)[i])])), false⟩]⟩ : Sto)] : List Sto).getD j' (⟨[some ⟨33, [.t (.row 6 (GPackage.trs (w.gPackages)))]⟩, some ⟨68, [.t (.leaf (.string ((oTrait (w.traitAt name)).gName))), .t (.row 1 (strTrs ((oTrait (w.traitAt name)).gSupertraits))), .t (.leaf (.bool ((oTrait (w.traitAt name)).gAuto))), .t (.leaf (.bool ((oTrait (w.traitAt name)).gAssoc))), .t (.row 16 (GSignature.trs ((oTrait (w.traitAt name)).gSignatures)))]⟩], [⟨9, 1, strTrs (supF w n (((oTrait (w.traitAt name)).gSupertraits)[i]) (o ++ [(((oTrait (w.traitAt name)).gSupertraits)[i])])), false⟩]⟩ : Sto), fun q' => ([some ((GProgram.pv w)), some (.ptr 1 1), some (.t (.row 1 (strTrs ((oTrait (w.traitAt name)).gSupertraits)))), some (.t (.leaf (.int .i64 (((i : Nat) : Int))))), some (.eptr ([.leaf (.string (((oTrait (w.traitAt name)).gSupertraits)[i]))])), some (.t (.leaf (.string (((oTrait (w.traitAt name)).gSupertraits)[i])))), some (.acc 1 (strTrs (o)) 0), some (.ptr 1 1), some (.t (.row 1 (strTrs ((oTrait (w.traitAt name)).gSupertraits)))), some (.t (.leaf (.int .i64 (((i : Nat) : Int))))), some (.eptr ([.leaf (.string (((oTrait (w.traitAt name)).gSupertraits)[i]))])), some (.t (.leaf (.string (((oTrait (w.traitAt name)).gSupertraits)[i])))), some (.t (.row 1 (strTrs ([(((oTrait (w.traitAt name)).gSupertraits)[i])])))), some (.acc 1 (strTrs (o ++ [(((oTrait (w.traitAt name)).gSupertraits)[i])])) 0), some (.acc 1 (strTrs (supF w n (((oTrait (w.traitAt name)).gSupertraits)[i]) (o ++ [(((oTrait (w.traitAt name)).gSupertraits)[i])]))) 0), some (.acc 1 (strTrs (supF w n (((oTrait (w.traitAt name)).gSupertraits)[i]) (o ++ [(((oTrait (w.traitAt name)).gSupertraits)[i])]))) 0)] : List (Option PV)).getD q' none, fun q' => ([.q 0 1, .q 0 1, .q 0 1, .q 0 1, .q 0 1, .q 0 1, .q 0 0, .q 0 0, .q 0 0, .q 0 0, .q 0 0, .q 0 0, .q 0 0, .ef 0, .ef 1, .q 2 2] : List DK).getD q' (.q 0 0), [13, 14], none, fun q' => ([[(3, none)], [(7, none)], [(34, some 1)], [(10, none)], [(35, some 2), (36, some 3)], [(37, some 4)], [(2, none)], [(7, none)], [(40, some 7)], [(10, none)], [(41, some 8), (42, some 9)], [(43, some 10)], [(44, some 11)], [(39, some 6), (45, some 12)], [(46, some 13), (38, some 5), (33, some 0)], [(47, some 14)]] : List (List (Nat × Option Nat))).getD q' []⟩ rfl mixed (by kernel_rfl) rfl rfl ⟨?_, ?_, ?_, ?_, ?_, ?_, ?_, ?_, ?_, ?_, ?_, ?_, ?_, ?_, ?_, ?_, trivial⟩ rfl ?_
      · refine .inl ⟨rfl, fun s' j b (h1 : 0 ≤ j) (h2 : j ≤ 1) hs hl => ?_⟩
        rcases (by omega : j = 0 ∨ j = 1) with rfl | rfl <;> exact ⟨_, rfl, AOp.loadPtr (cs := [.t (.row 6 (GPackage.trs (w.gPackages)))]) rfl rfl (hl 3 none _ (.head _) rfl) (by rw [hs]; rfl) sh33 rfl rfl⟩
      · refine .inl ⟨rfl, fun s' j b (h1 : 0 ≤ j) (h2 : j ≤ 1) hs hl => ?_⟩
        rcases (by omega : j = 0 ∨ j = 1) with rfl | rfl <;> exact ⟨_, rfl, AOp.fieldPtr (k := 1) (d := 0) (e := 1) rfl rfl (hl 7 none _ (.head _) rfl) fo68_1⟩
      · refine .inl ⟨rfl, fun s' j b (h1 : 0 ≤ j) (h2 : j ≤ 1) hs hl => ?_⟩
        rcases (by omega : j = 0 ∨ j = 1) with rfl | rfl <;> exact ⟨_, rfl, AOp.loadPtr1 rfl rfl (hl 34 (some 1) _ (.head _) rfl) (by rw [hs]; rfl) sh47 rfl⟩
      · refine .inl ⟨rfl, fun s' j b (h1 : 0 ≤ j) (h2 : j ≤ 1) hs hl => ?_⟩
        rcases (by omega : j = 0 ∨ j = 1) with rfl | rfl <;> exact ⟨_, rfl, AOp.move (.inl rfl) rfl (hl 10 none _ (.head _) rfl)⟩
      · refine .inl ⟨rfl, fun s' j b (h1 : 0 ≤ j) (h2 : j ≤ 1) hs hl => ?_⟩
        rcases (by omega : j = 0 ∨ j = 1) with rfl | rfl <;> exact ⟨_, rfl, AOp.index (k := i) rfl rfl (hl 35 (some 2) _ (.head _) rfl) rfl (hl 36 (some 3) _ (.tail _ (.head _)) rfl) (strTrs_cs h4n) el47⟩
      · refine .inl ⟨rfl, fun s' j b (h1 : 0 ≤ j) (h2 : j ≤ 1) hs hl => ?_⟩
        rcases (by omega : j = 0 ∨ j = 1) with rfl | rfl <;> exact ⟨_, rfl, AOp.loadEptr1 (d := .leaf (.string (((oTrait (w.traitAt name)).gSupertraits)[i]))) rfl rfl (hl 37 (some 4) _ (.head _) rfl) sh9 rfl⟩
      · refine .inl ⟨rfl, fun s' j b (h1 : 0 ≤ j) (h2 : j ≤ 0) hs hl => ?_⟩
        obtain rfl : j = 0 := by omega
        exact ⟨_, rfl, AOp.move (.inl rfl) rfl (hl 2 none _ (.head _) rfl)⟩
      · refine .inl ⟨rfl, fun s' j b (h1 : 0 ≤ j) (h2 : j ≤ 0) hs hl => ?_⟩
        obtain rfl : j = 0 := by omega
        exact ⟨_, rfl, AOp.fieldPtr (k := 1) (d := 0) (e := 1) rfl rfl (hl 7 none _ (.head _) rfl) fo68_1⟩
      · refine .inl ⟨rfl, fun s' j b (h1 : 0 ≤ j) (h2 : j ≤ 0) hs hl => ?_⟩
        obtain rfl : j = 0 := by omega
        exact ⟨_, rfl, AOp.loadPtr1 rfl rfl (hl 40 (some 7) _ (.head _) rfl) (by rw [hs]; rfl) sh47 rfl⟩
      · refine .inl ⟨rfl, fun s' j b (h1 : 0 ≤ j) (h2 : j ≤ 0) hs hl => ?_⟩
        obtain rfl : j = 0 := by omega
        exact ⟨_, rfl, AOp.move (.inl rfl) rfl (hl 10 none _ (.head _) rfl)⟩
      · refine .inl ⟨rfl, fun s' j b (h1 : 0 ≤ j) (h2 : j ≤ 0) hs hl => ?_⟩
        obtain rfl : j = 0 := by omega
        exact ⟨_, rfl, AOp.index (k := i) rfl rfl (hl 41 (some 8) _ (.head _) rfl) rfl (hl 42 (some 9) _ (.tail _ (.head _)) rfl) (strTrs_cs h4n) el47⟩
      · refine .inl ⟨rfl, fun s' j b (h1 : 0 ≤ j) (h2 : j ≤ 0) hs hl => ?_⟩
        obtain rfl : j = 0 := by omega
        exact ⟨_, rfl, AOp.loadEptr1 (d := .leaf (.string (((oTrait (w.traitAt name)).gSupertraits)[i]))) rfl rfl (hl 43 (some 10) _ (.head _) rfl) sh9 rfl⟩
      · refine .inl ⟨rfl, fun s' j b (h1 : 0 ≤ j) (h2 : j ≤ 0) hs hl => ?_⟩
        obtain rfl : j = 0 := by omega
        exact ⟨_, rfl, AOp.buildSliceQ (es := strTrs ([(((oTrait (w.traitAt name)).gSupertraits)[i])])) (cs := [.t (.leaf (.string (((oTrait (w.traitAt name)).gSupertraits)[i])))]) rfl rfl el47 zr9 (parts_cons (hl 44 (some 11) _ (.head _) rfl) rfl rfl rfl) rfl (by (repeat' (first | exact PV.Le.refl _ | exact LeL.nil | exact PV.Le.nil _ | exact PV.Le.acc _ _ _ | apply LeL.cons | apply PV.Le.agg | apply PV.Le.tup))) rfl (by simp [strTrs]) (by decide) rfl (by decide)⟩
      · refine .inl ⟨rfl, fun s' b hs hl => ?_⟩
        refine .inl ⟨_, rfl, AOp.congr (AOp.appendE (es3 := strTrs (o ++ [(((oTrait (w.traitAt name)).gSupertraits)[i])])) rfl rfl (hl 39 (some 6) _ (.head _) rfl) (by rw [hs]; rfl) rfl rfl rfl (hl 45 (some 12) _ (.tail _ (.head _)) rfl) rfl (strTrs_all _) el47 ze47 (by decide) (by rw [strTrs_len, strTrs_len]; simp; omega) (strTrs_append _ _)) ?_⟩
        first | (rw [hs]; rfl) | rfl
      · refine .inl ⟨rfl, fun s' b hs hl => ?_⟩
        refine .inl ⟨_, rfl, AOp.congr (AOp.callPE (pre := ⟨[], [⟨9, 1, strTrs (o ++ [(((oTrait (w.traitAt name)).gSupertraits)[i])]), false⟩]⟩) (st' := ⟨[], [⟨9, 1, strTrs (supF w n (((oTrait (w.traitAt name)).gSupertraits)[i]) (o ++ [(((oTrait (w.traitAt name)).gSupertraits)[i])])), false⟩]⟩) (ps := [_, _, _]) (qs := [(GProgram.pv w), .t (.leaf (.string (((oTrait (w.traitAt name)).gSupertraits)[i]))), .acc 1 (strTrs (o ++ [(((oTrait (w.traitAt name)).gSupertraits)[i])])) 0]) [] [0] rfl rfl Try.func32 (by kernel_rfl) rfl (evs_cons (hl 33 (some 0) _ (.tail _ (.tail _ (.head _))) rfl) (evs_cons (hl 38 (some 5) _ (.tail _ (.head _)) rfl) (evs_cons (hl 46 (some 13) _ (.head _) rfl) rfl))) hs (by (try rw [hs]); exact ⟨rfl, rfl, by decide, by decide, fun k h => absurd h (Nat.not_lt_zero _), fun k x h => by simp at h, fun r row h => by rcases r with _ | r <;> simp at h; subst h; rfl⟩) (by (repeat' (first | exact PV.Le.refl _ | exact LeL.nil | exact PV.Le.nil _ | exact PV.Le.acc _ _ _ | apply LeL.cons | apply PV.Le.agg | apply PV.Le.tup))) rfl rfl rfl (ih _ _ (by have := sup_step (w := w) (name := name) (o := o) (List.getElem_mem (show i < (oTrait (w.traitAt name)).gSupertraits.length by omega)) (by assumption); omega) (by have := sup_step (w := w) (name := name) (o := o) (List.getElem_mem (show i < (oTrait (w.traitAt name)).gSupertraits.length by omega)) (by assumption); have h4 : (o ++ [((oTrait (w.traitAt name)).gSupertraits)[i]]).length = o.length + 1 := (by simp); omega))) ?_⟩
        first | (rw [hs]; rfl) | rfl
      · refine .inl ⟨rfl, fun s' j b (h1 : 2 ≤ j) (h2 : j ≤ 2) hs hl => ?_⟩
        obtain rfl : j = 2 := by omega
        exact ⟨_, rfl, AOp.move (.inr rfl) rfl (hl 47 (some 14) _ (.head _) rfl)⟩
      refine AWP.region_lit ?_
      refine AL.cons rfl (AOp.move (.inl rfl) rfl rfl) ?_
      refine AL.cons rfl (AOp.addI rfl rfl rfl rfl (c := ((i + 1 : Nat) : Int)) (by omega) (by omega)) ?_
      refine AL.cons rfl (AOp.move (.inr rfl) rfl rfl) ?_
      refine AL.nil ?_
      refine ⟨(i + 1, supF w n (((oTrait (w.traitAt name)).gSupertraits)[i]) (o ++ [(((oTrait (w.traitAt name)).gSupertraits)[i])])), ?_, ?_, ?_⟩
      · first | exact supJ_has (by omega) hi2 hi3 hi4 (by assumption) | exact supJ_new (by omega) hi2 hi3 hi4 (by assumption) rfl
      · skip
        exact Wk.mk (StLe.mk' ⟨⟨rfl, by (repeat' (first | exact PV.Le.refl _ | exact LeL.nil | exact PV.Le.nil _ | exact PV.Le.acc _ _ _ | apply LeL.cons | apply PV.Le.agg | apply PV.Le.tup)), rfl⟩, ⟨⟨rfl, by (repeat' (first | exact PV.Le.refl _ | exact LeL.nil | exact PV.Le.nil _ | exact PV.Le.acc _ _ _ | apply LeL.cons | apply PV.Le.agg | apply PV.Le.tup)), rfl⟩, trivial⟩⟩ (by first | rfl | simp)) (keeps_rows hC (Nat.le_of_ble_eq_true rfl)) ⟨⟨_, rfl, .refl _, rfl⟩, ⟨⟨_, rfl, .refl _, rfl⟩, ⟨⟨_, rfl, by (repeat' (first | exact PV.Le.refl _ | exact LeL.nil | exact PV.Le.nil _ | exact PV.Le.acc _ _ _ | apply LeL.cons | apply PV.Le.agg | apply PV.Le.tup)), rfl⟩, ⟨⟨_, rfl, .refl _, rfl⟩, ⟨⟨_, rfl, .refl _, rfl⟩, ⟨⟨_, rfl, .refl _, rfl⟩, ⟨⟨_, rfl, .refl _, rfl⟩, ⟨⟨_, rfl, .refl _, rfl⟩, ⟨⟨_, rfl, by (repeat' (first | exact PV.Le.refl _ | exact LeL.nil | exact PV.Le.nil _ | exact PV.Le.acc _ _ _ | apply LeL.cons | apply PV.Le.agg | apply PV.Le.tup)), rfl⟩, trivial⟩⟩⟩⟩⟩⟩⟩⟩⟩
      · dsimp only; omega
    · skip
      have h5b := h5
      try simp only [decide_eq_true_eq, decide_eq_false_iff_not, Bool.not_eq_true', Bool.not_eq_false', Bool.not_eq_eq_eq_not, Bool.not_true, Bool.not_false, ge_iff_le, gt_iff_lt, Int.not_lt, Int.not_le] at h5b
      refine AWP.skip ?_
      refine AWP.region_lit ?_
      refine AL.cons rfl (AOp.move (.inl rfl) rfl rfl) ?_
      refine AL.cons rfl (AOp.addI rfl rfl rfl rfl (c := ((i + 1 : Nat) : Int)) (by omega) (by omega)) ?_
      refine AL.cons rfl (AOp.move (.inr rfl) rfl rfl) ?_
      refine AL.nil ?_
      refine ⟨(i + 1, o), ?_, ?_, ?_⟩
      · first | exact supJ_has (by omega) hi2 hi3 hi4 (by assumption) | exact supJ_new (by omega) hi2 hi3 hi4 (by assumption) rfl
      · skip
        exact Wk.mk (StLe.mk' ⟨⟨rfl, by (repeat' (first | exact PV.Le.refl _ | exact LeL.nil | exact PV.Le.nil _ | exact PV.Le.acc _ _ _ | apply LeL.cons | apply PV.Le.agg | apply PV.Le.tup)), rfl⟩, ⟨⟨rfl, by (repeat' (first | exact PV.Le.refl _ | exact LeL.nil | exact PV.Le.nil _ | exact PV.Le.acc _ _ _ | apply LeL.cons | apply PV.Le.agg | apply PV.Le.tup)), rfl⟩, trivial⟩⟩ (by first | rfl | simp)) (keeps_rows hC (Nat.le_of_ble_eq_true rfl)) ⟨⟨_, rfl, .refl _, rfl⟩, ⟨⟨_, rfl, .refl _, rfl⟩, ⟨⟨_, rfl, .refl _, rfl⟩, ⟨⟨_, rfl, .refl _, rfl⟩, ⟨⟨_, rfl, .refl _, rfl⟩, ⟨⟨_, rfl, .refl _, rfl⟩, ⟨⟨_, rfl, .refl _, rfl⟩, ⟨⟨_, rfl, .refl _, rfl⟩, ⟨⟨_, rfl, by (repeat' (first | exact PV.Le.refl _ | exact LeL.nil | exact PV.Le.nil _ | exact PV.Le.acc _ _ _ | apply LeL.cons | apply PV.Le.agg | apply PV.Le.tup)), rfl⟩, trivial⟩⟩⟩⟩⟩⟩⟩⟩⟩
      · dsimp only; omega
  · skip
    have h4b := h4
    try simp only [decide_eq_true_eq, decide_eq_false_iff_not, Bool.not_eq_true', Bool.not_eq_false', Bool.not_eq_eq_eq_not, Bool.not_true, Bool.not_false, ge_iff_le, gt_iff_lt, Int.not_lt, Int.not_le] at h4b
    have h4n : i ≥ ((oTrait (w.traitAt name)).gSupertraits).length := by omega
    refine AWP.exit ?_
    refine AWP.seq ?_
    refine AWP.region_lit ?_
    refine AL.cons rfl (AOp.move (.inl rfl) rfl rfl) ?_
    refine AL.cons rfl (AOp.move (.inr rfl) rfl rfl) ?_
    refine AL.nil ?_
    refine AWP.ret ?_
    obtain rfl := fold_end (by omega) hi2
    exact Ends.mk (ps := [_]) (.inr rfl) ⟨rfl, trivial⟩ rfl (StLe.mk' (st' := ⟨[], [⟨9, 1, strTrs (supF w (n + 1) name out), false⟩]⟩) trivial rfl) (keeps_rows hC (Nat.le_of_ble_eq_true rfl)) (q := .acc 1 (strTrs (supF w (n + 1) name out)) 0) (.refl _) rfl ⟨rfl, rfl⟩

set_option maxRecDepth 100000 in
theorem allSup_impl (w : GProgram) (name : ByteArray) (hb : w.allSup.length ≤ 1099511627776) : AFun Try.prog 28 [(GProgram.pv w), .t (.leaf (.string (name)))] (.t (.row 1 (strTrs (GProgram.supers w name)))) := by
  refine ACalls.intro Try.func28 rfl (by first | decide | (simp; done) | (simp; decide)) ?_
  intro C hC
  refine AWP.seq ?_
  refine AWP.region_lit ?_
  refine AL.cons rfl (AOp.box (cs := [.t (.row 6 (GPackage.trs (w.gPackages)))]) rfl rfl rfl rfl rfl) ?_
  refine AL.cons rfl (AOp.move (.inr rfl) rfl rfl) ?_
  refine AL.nil ?_
  refine AWP.seq ?_
  refine AWP.region_lit ?_
  refine AL.cons rfl (AOp.loadPtr (cs := [.t (.row 6 (GPackage.trs (w.gPackages)))]) rfl rfl rfl rfl sh33 rfl rfl) ?_
  refine AL.cons rfl (AOp.move (.inl rfl) rfl rfl) ?_
  refine AL.cons rfl (AOp.callF (ps := [_, _, _]) rfl rfl Try.func34 (by kernel_rfl) rfl rfl (by (repeat' (first | exact PV.Le.refl _ | exact LeL.nil | exact PV.Le.nil _ | exact PV.Le.acc _ _ _ | apply LeL.cons | apply PV.Le.agg | apply PV.Le.tup))) rfl rfl (supersNil_impl w name (by assumption))) ?_
  refine AL.cons rfl (AOp.move (.inr rfl) rfl rfl) ?_
  refine AL.nil ?_
  refine AWP.ret ?_
  exact Ends.mk (ps := [_]) (.inr rfl) ⟨rfl, trivial⟩ rfl (StLe.mk' (st' := ⟨[], []⟩) trivial rfl) (keeps_nil hC) (q := (.t (.row 1 (strTrs (GProgram.supers w name))) : PV)) (by (repeat' (first | exact PV.Le.refl _ | exact LeL.nil | exact PV.Le.nil _ | exact PV.Le.acc _ _ _ | apply LeL.cons | apply PV.Le.agg | apply PV.Le.tup))) rfl ⟨by rfl, rfl⟩

set_option maxRecDepth 100000 in
theorem allSup_spec (w : GProgram) (name : ByteArray) (hb : w.allSup.length ≤ 1099511627776) : AFun Try.prog 26 [(GProgram.pv w), .t (.leaf (.string (name)))] (.t (.row 1 (strTrs (GProgram.supers w name)))) := by
  refine ACalls.intro Try.func26 rfl (by first | decide | (simp; done) | (simp; decide)) ?_
  intro C hC
  refine AWP.seq ?_
  refine AWP.region_lit ?_
  refine AL.cons rfl (AOp.box (cs := [.t (.row 6 (GPackage.trs (w.gPackages)))]) rfl rfl rfl rfl rfl) ?_
  refine AL.cons rfl (AOp.move (.inr rfl) rfl rfl) ?_
  refine AL.nil ?_
  refine AWP.seq ?_
  refine AWP.region_lit ?_
  refine AL.cons rfl (AOp.loadPtr (cs := [.t (.row 6 (GPackage.trs (w.gPackages)))]) rfl rfl rfl rfl sh33 rfl rfl) ?_
  refine AL.cons rfl (AOp.move (.inl rfl) rfl rfl) ?_
  refine AL.cons rfl (AOp.buildSlice (es := strTrs ([])) (cs := []) rfl rfl el47 zr9 rfl rfl (by (repeat' (first | exact PV.Le.refl _ | exact LeL.nil | exact PV.Le.nil _ | exact PV.Le.acc _ _ _ | apply LeL.cons | apply PV.Le.agg | apply PV.Le.tup))) rfl (by simp [strTrs]) (by decide) rfl (by decide)) ?_
  refine AL.cons rfl (AOp.callPE (pre := ⟨[], [⟨9, 1, strTrs ([]), false⟩]⟩) (st' := ⟨[], [⟨9, 1, strTrs (GProgram.supers w name), false⟩]⟩) (ps := [_, _, _]) (qs := [(GProgram.pv w), .t (.leaf (.string (name))), .acc 1 (strTrs ([])) 0]) [] [0] rfl rfl Try.func32 (by kernel_rfl) rfl rfl rfl (by (try rw [hs]); exact ⟨rfl, rfl, by decide, by decide, fun k h => absurd h (Nat.not_lt_zero _), fun k x h => by simp at h, fun r row h => by rcases r with _ | r <;> simp at h; subst h; rfl⟩) (by (repeat' (first | exact PV.Le.refl _ | exact LeL.nil | exact PV.Le.nil _ | exact PV.Le.acc _ _ _ | apply LeL.cons | apply PV.Le.agg | apply PV.Le.tup))) rfl rfl rfl (supers_spec w (supM w [] + 1) name [] (Nat.lt_succ_self _) (supM_le (by assumption)))) ?_
  refine AL.cons rfl (AOp.move (.inr rfl) rfl rfl) ?_
  refine AL.nil ?_
  refine AWP.ret ?_
  exact Ends.mk (ps := [_]) (.inr rfl) ⟨rfl, trivial⟩ rfl (StLe.mk' (st' := ⟨[], []⟩) trivial rfl) (keeps_nil hC) (q := (.t (.row 1 (strTrs (GProgram.supers w name))) : PV)) (by (repeat' (first | exact PV.Le.refl _ | exact LeL.nil | exact PV.Le.nil _ | exact PV.Le.acc _ _ _ | apply LeL.cons | apply PV.Le.agg | apply PV.Le.tup))) rfl ⟨by rfl, rfl⟩

end Go.Proofs.Ytnakkelglbcecaa
