/- Words, rules and walks of several kinds, laid together: PmSup, PmStrs, Pl, PlPath, PlZ, Cnt, PmPathK. No conditions but those that each theorem states. -/
import Derived.Test.YtnakkelglbcecaaGreatQ6LExactSupertraitPath
import Derived.Test.YtnakkelglbcecaaGreatQ5LExactSupertraitPath
import Derived.Test.YtnakkelglbcecaaGreatQ1LExactSupertraitPath
import Derived.Test.YtnakkelglbcecaaGreatQ3LExactSupertraitPath
import Derived.Test.YtnakkelglbcecaaGreatQ2LExactSupertraitPath
import Derived.Test.YtnakkelglbcecaaGreatQ4LExactSupertraitPath
set_option linter.unusedSimpArgs false
set_option linter.unusedVariables false
namespace Go.Proofs.YtnakkelglbcecaaGreat
open Go.RowKit Go.Proofs
set_option linter.unusedSimpArgs false
set_option linter.unusedVariables false


instance memDec (s : ByteArray) (l : List ByteArray) : Decidable (s ∈ l) := decidable_of_iff (l.any (fun x => decide (x = s)) = true) (by simp)
def idxS (l : List ByteArray) (s : ByteArray) : Int := match l.findIdx? (fun x => decide (x = s)) with | some i => (i : Int) | none => -1
theorem idxS_hit {l : List ByteArray} {s : ByteArray} {i : Nat} (h : i < l.length) (hm : ∀ (j : Nat) (hj : j < l.length), j < i → ¬ l[j] = s) (he : l[i] = s) : idxS l s = (i : Int) := by
  have : l.findIdx? (fun x => decide (x = s)) = some i := by
    rw [List.findIdx?_eq_some_iff_getElem]
    exact ⟨h, by simpa using he, fun j hj => by simpa using hm j (by omega) hj⟩
  simp [idxS, this]
theorem idxS_miss {l : List ByteArray} {s : ByteArray} (hm : ∀ (j : Nat) (hj : j < l.length), ¬ l[j] = s) : idxS l s = -1 := by
  have : l.findIdx? (fun x => decide (x = s)) = none := by
    rw [List.findIdx?_eq_none_iff]
    intro x hx
    obtain ⟨j, hj, rfl⟩ := List.mem_iff_getElem.1 hx
    simpa using hm j hj
  simp [idxS, this]
theorem idxS_mem (l : List ByteArray) (s : ByteArray) : decide (idxS l s ≥ 0) = decide (s ∈ l) := by
  by_cases h : s ∈ l
  · cases hq : l.findIdx? (fun x => decide (x = s)) with
    | none =>
      rw [List.findIdx?_eq_none_iff] at hq
      have := hq s h
      simp at this
    | some i => simp [idxS, hq, h]
  · have : l.findIdx? (fun x => decide (x = s)) = none := by
      rw [List.findIdx?_eq_none_iff]
      intro x hx
      simp only [decide_eq_false_iff_not]
      rintro rfl
      exact h hx
    simp [idxS, this, h]
theorem mem_hit {l : List ByteArray} {s : ByteArray} {i : Nat} (h : i < l.length) (he : l[i] = s) : decide (s ∈ l) = true := by
  subst he
  simp
theorem mem_miss {l : List ByteArray} {s : ByteArray} (hm : ∀ (j : Nat) (hj : j < l.length), ¬ l[j] = s) : decide (s ∈ l) = false := by
  simp only [decide_eq_false_iff_not]
  intro h
  obtain ⟨j, hj, he⟩ := List.mem_iff_getElem.1 h
  exact hm j hj he
theorem miss_next {l : List ByteArray} {s : ByteArray} {i : Nat} (hm : ∀ (j : Nat) (hj : j < l.length), j < i → ¬ l[j] = s) (h : i < l.length) (he : ¬ l[i] = s) : ∀ (j : Nat) (hj : j < l.length), j < i + 1 → ¬ l[j] = s := fun j hj hji => by
  rcases Nat.lt_or_ge j i with h1 | h1
  · exact hm j hj h1
  · have : j = i := by omega
    subst this
    exact he

theorem findP_mem {α : Type} {key : α → ByteArray} {items : GPackage → List α} {s : ByteArray} {x : α × Nat} : ∀ {ps : List GPackage} {i : Nat}, findP key items s i ps = some x → ∃ p ∈ ps, x.1 ∈ items p
  | [], _, h => by simp [findP] at h
  | p :: ps, i, h => by
    rw [findP] at h
    split at h
    · rename_i y hy
      cases h
      exact ⟨p, by simp, List.mem_of_find?_eq_some hy⟩
    · obtain ⟨q, hq, hx⟩ := findP_mem h
      exact ⟨q, by simp [hq], hx⟩
theorem traitAt_mem {w : GProgram} {s : ByteArray} {x : GTrait × Nat} (h : w.traitAt s = some x) : ∃ p ∈ w.gPackages, x.1 ∈ p.gTraits := findP_mem h

def GProgram.allSup (w : GProgram) : List ByteArray := (w.gPackages.flatMap (fun p => p.gTraits)).flatMap (fun t => t.gSupertraits)
def supM (w : GProgram) (out : List ByteArray) : Nat := w.allSup.countP (fun s => decide (¬ s ∈ out))
def supF (w : GProgram) : Nat → ByteArray → List ByteArray → List ByteArray
  | 0, _, out => out
  | n + 1, name, out => ((oTrait (w.traitAt name)).gSupertraits).foldl (fun o s => if s ∈ o then o else supF w n s (o ++ [s])) out
def GProgram.supers (w : GProgram) (name : ByteArray) : List ByteArray := supF w (supM w [] + 1) name []
theorem sup_mem {w : GProgram} {name s : ByteArray} (h : s ∈ (oTrait (w.traitAt name)).gSupertraits) : s ∈ w.allSup := by
  cases hq : w.traitAt name with
  | none =>
    rw [hq] at h
    simp [oTrait, GTrait.zero] at h
  | some x =>
    rw [hq] at h
    have h : s ∈ x.1.gSupertraits := h
    have hm : ∃ p ∈ w.gPackages, x.1 ∈ p.gTraits := traitAt_mem hq
    obtain ⟨p, hp, hx⟩ := hm
    exact List.mem_flatMap.2 ⟨x.1, List.mem_flatMap.2 ⟨p, hp, hx⟩, h⟩
theorem countP_lt {α : Type} {p q : α → Bool} {l : List α} (h : ∀ x, q x = true → p x = true) {a : α} (ha : a ∈ l) (hp : p a = true) (hq : q a = false) : l.countP q + 1 ≤ l.countP p := by
  induction l with
  | nil => cases ha
  | cons b l ih =>
    rw [List.countP_cons, List.countP_cons]
    have hle : l.countP q ≤ l.countP p := List.countP_mono_left fun x _ => h x
    rcases List.mem_cons.1 ha with rfl | ha
    · simp [hp, hq]; omega
    · have := ih ha
      have : (if q b = true then 1 else 0) ≤ (if p b = true then 1 else 0) := by
        split
        · rw [if_pos (h b (by assumption))]; omega
        · omega
      omega
theorem sup_step {w : GProgram} {name : ByteArray} {o : List ByteArray} {s : ByteArray} (hs : s ∈ (oTrait (w.traitAt name)).gSupertraits) (hn : ¬ s ∈ o) : supM w (o ++ [s]) + 1 ≤ supM w o := by
  unfold supM
  refine countP_lt (fun x hx => ?_) (sup_mem hs) (by simpa using hn) (by simp)
  simp only [decide_eq_true_eq, List.mem_append, not_or] at hx ⊢
  exact hx.1
theorem supM_le {w : GProgram} (h : w.allSup.length ≤ 1099511627776) : ([] : List ByteArray).length + supM w [] ≤ 1099511627776 := by
  have := List.countP_le_length (p := fun s => decide (¬ s ∈ ([] : List ByteArray))) (l := w.allSup)
  unfold supM
  simp only [List.length_nil]
  omega
/-- What the run has put in stays within what there is. -/
theorem supF_inv (w : GProgram) : ∀ (n : Nat) (name : ByteArray) (out : List ByteArray), supM w (supF w n name out) ≤ supM w out ∧ (supF w n name out).length + supM w (supF w n name out) ≤ out.length + supM w out
  | 0, name, out => ⟨Nat.le_refl _, Nat.le_refl _⟩
  | n + 1, name, out => by
    rw [supF]
    have key : ∀ (l : List ByteArray) (o : List ByteArray), (∀ s ∈ l, s ∈ (oTrait (w.traitAt name)).gSupertraits) → supM w (l.foldl (fun o s => if s ∈ o then o else supF w n s (o ++ [s])) o) ≤ supM w o ∧ (l.foldl (fun o s => if s ∈ o then o else supF w n s (o ++ [s])) o).length + supM w (l.foldl (fun o s => if s ∈ o then o else supF w n s (o ++ [s])) o) ≤ o.length + supM w o := by
      intro l
      induction l with
      | nil => intro o _; exact ⟨Nat.le_refl _, Nat.le_refl _⟩
      | cons s l ih =>
        intro o hl
        rw [List.foldl_cons]
        have h1 := ih (if s ∈ o then o else supF w n s (o ++ [s])) (fun x hx => hl x (by simp [hx]))
        split at h1
        · rename_i hso
          rw [if_pos hso]
          exact h1
        · rename_i hso
          rw [if_neg hso]
          have h2 := supF_inv w n s (o ++ [s])
          have h3 := sup_step (w := w) (name := name) (hl s (by simp)) hso
          have h4 : (o ++ [s]).length = o.length + 1 := by simp
          omega
    exact key _ _ fun s hs => hs
theorem fold_next {α β : Type} {f : β → α → β} {o o' r : β} {l : List α} {i : Nat} (h : i < l.length) (hr : r = (l.drop i).foldl f o) (hs : f o l[i] = o') : r = (l.drop (i + 1)).foldl f o' := by
  rw [hr, List.drop_eq_getElem_cons h, List.foldl_cons, hs]
theorem fold_end {α β : Type} {f : β → α → β} {o r : β} {l : List α} {i : Nat} (h : l.length ≤ i) (hr : r = (l.drop i).foldl f o) : r = o := by
  rw [hr, List.drop_of_length_le h, List.foldl_nil]
theorem supJ_has {w : GProgram} {n : Nat} {name : ByteArray} {out o r : List ByteArray} {i : Nat} (h : i < (oTrait (w.traitAt name)).gSupertraits.length) (h2 : r = (((oTrait (w.traitAt name)).gSupertraits).drop i).foldl (fun o s => if s ∈ o then o else supF w n s (o ++ [s])) o)
    (h3 : supM w o ≤ supM w out) (h4 : o.length + supM w o ≤ out.length + supM w out) (hm : (oTrait (w.traitAt name)).gSupertraits[i] ∈ o) :
    i + 1 ≤ (oTrait (w.traitAt name)).gSupertraits.length ∧ r = (((oTrait (w.traitAt name)).gSupertraits).drop (i + 1)).foldl (fun o s => if s ∈ o then o else supF w n s (o ++ [s])) o ∧ supM w o ≤ supM w out ∧ o.length + supM w o ≤ out.length + supM w out :=
  ⟨h, fold_next h h2 (by simp [hm]), h3, h4⟩
theorem supJ_new {w : GProgram} {n : Nat} {name : ByteArray} {out o r : List ByteArray} {i : Nat} (h : i < (oTrait (w.traitAt name)).gSupertraits.length) (h2 : r = (((oTrait (w.traitAt name)).gSupertraits).drop i).foldl (fun o s => if s ∈ o then o else supF w n s (o ++ [s])) o)
    (h3 : supM w o ≤ supM w out) (h4 : o.length + supM w o ≤ out.length + supM w out) (hm : ¬ (oTrait (w.traitAt name)).gSupertraits[i] ∈ o) {o' : List ByteArray} (ho : supF w n (oTrait (w.traitAt name)).gSupertraits[i] (o ++ [(oTrait (w.traitAt name)).gSupertraits[i]]) = o') :
    i + 1 ≤ (oTrait (w.traitAt name)).gSupertraits.length ∧ r = (((oTrait (w.traitAt name)).gSupertraits).drop (i + 1)).foldl (fun o s => if s ∈ o then o else supF w n s (o ++ [s])) o' ∧ supM w o' ≤ supM w out ∧ o'.length + supM w o' ≤ out.length + supM w out := by
  have h5 := supF_inv w n (oTrait (w.traitAt name)).gSupertraits[i] (o ++ [(oTrait (w.traitAt name)).gSupertraits[i]])
  have h6 := sup_step (w := w) (name := name) (o := o) (List.getElem_mem h) hm
  have h7 : (o ++ [(oTrait (w.traitAt name)).gSupertraits[i]]).length = o.length + 1 := by simp
  subst ho
  exact ⟨h, fold_next h h2 (by simp [hm]), by omega, by omega⟩
theorem keeps_rows {C : Ctx} {r : PRow} {S : Sto} (h : C.st = ⟨[], [r]⟩) (hl : 1 ≤ S.rows.length) : Keeps0 C.st S := by
  rw [h]
  exact ⟨fun k x hx => by simp at hx, fun k row hk => by
    rcases k with _ | k
    · exact ⟨S.rows[0], List.getElem?_eq_getElem hl⟩
    · simp at hk⟩

set_option maxRecDepth 100000 in
set_option maxHeartbeats 4000000 in
theorem idxS_ok (l : List ByteArray) (s : ByteArray) : AFun Tryz.prog 196 [.t (.row 1 (strTrs (l))), .t (.leaf (.string (s)))] (.t (.leaf (.int .i64 (idxS l s)))) := by
  refine ACalls.intro Tryz.func196 rfl (by first | decide | (simp; done) | (simp; decide)) ?_
  intro C hC
  refine AWP.fact (lk_lenN 0 rfl rfl (strTrs_len _)) (fun hl1 => ?_)
  refine AWP.seq ?_
  refine AWP.region_lit ?_
  refine AL.cons rfl (AOp.move (.inr rfl) rfl rfl) ?_
  refine AL.nil ?_
  refine AWP.seq ?_
  refine AWP.seq ?_
  refine AWP.region_lit ?_
  refine AL.cons rfl (AOp.move (.inl rfl) rfl rfl) ?_
  refine AL.cons rfl (AOp.lenN rfl rfl rfl rfl el54 (strTrs_len _)) ?_
  refine AL.cons rfl (AOp.move (.inl rfl) rfl rfl) ?_
  refine AL.nil ?_
  refine AWP.block ?_
  refine AWP.loopJ (ι := Nat) (fun i => i ≤ l.length ∧ ∀ (j : Nat) (hj : j < l.length), j < i → ¬ l[j] = s) (fun i => ⟨[(0, .t (.row 1 (strTrs (l)))), (1, .t (.leaf (.string (s)))), (7, .t (.leaf (.int .i64 (((l.length : Nat) : Int))))), (8, .t (.leaf (.int .i64 (((i : Nat) : Int)))))], ⟨[], []⟩⟩) (fun i => l.length - i) 0 ?_ ?_ ?_
  · exact ⟨Nat.zero_le _, fun j hj h => absurd h (Nat.not_lt_zero _)⟩
  · skip
    exact Wk.mk (StLe.mk' trivial rfl) (keeps_nil hC) ⟨⟨_, rfl, .refl _, rfl⟩, ⟨⟨_, rfl, .refl _, rfl⟩, ⟨⟨_, rfl, .refl _, rfl⟩, ⟨⟨_, rfl, by (repeat' (first | exact PV.Le.refl _ | exact LeL.nil | exact PV.Le.nil _ | exact PV.Le.acc _ _ _ | apply LeL.cons | apply PV.Le.agg | apply PV.Le.tup)), rfl⟩, trivial⟩⟩⟩⟩
  rintro i hJ2
  obtain ⟨hi1, hi2⟩ := hJ2
  refine AWP.seq ?_
  refine AWP.region_lit ?_
  refine AL.cons rfl (AOp.lss rfl rfl rfl rfl) ?_
  refine AL.nil ?_
  refine AWP.seq ?_
  refine AWP.cond rfl (fun h3 => ?_) (fun h3 => ?_)
  · skip
    have h3b := h3
    try simp only [Bool.and_eq_true, Bool.or_eq_true, Bool.and_eq_false_iff, Bool.or_eq_false_iff, decide_eq_true_eq, decide_eq_false_iff_not, Bool.not_eq_true', Bool.not_eq_false', Bool.not_eq_eq_eq_not, Bool.not_true, Bool.not_false, ge_iff_le, gt_iff_lt, Int.not_lt, Int.not_le] at h3b
    have h3n : i < l.length := by omega
    refine AWP.skip ?_
    refine AWP.seq ?_
    refine AWP.block ?_
    refine AWP.seq ?_
    refine AWP.region_lit ?_
    refine AL.cons rfl (AOp.move (.inl rfl) rfl rfl) ?_
    refine AL.cons rfl (AOp.move (.inr rfl) rfl rfl) ?_
    refine AL.nil ?_
    refine AWP.seq ?_
    refine AWP.region_lit ?_
    refine AL.cons rfl (AOp.move (.inl rfl) rfl rfl) ?_
    refine AL.cons rfl (AOp.move (.inl rfl) rfl rfl) ?_
    refine AL.cons rfl (AOp.move (.inl rfl) rfl rfl) ?_
    refine AL.cons rfl (AOp.index (k := i) rfl rfl rfl rfl rfl (strTrs_cs h3n) el54) ?_
    refine AL.cons rfl (AOp.loadEptr1 (d := .leaf (.string (l[i]))) rfl rfl rfl sh9 rfl) ?_
    refine AL.cons rfl (AOp.eqlS rfl rfl rfl rfl) ?_
    refine AL.nil ?_
    refine AWP.cond rfl (fun h4 => ?_) (fun h4 => ?_)
    · skip
      have h4b := h4
      try simp only [Bool.and_eq_true, Bool.or_eq_true, Bool.and_eq_false_iff, Bool.or_eq_false_iff, decide_eq_true_eq, decide_eq_false_iff_not, Bool.not_eq_true', Bool.not_eq_false', Bool.not_eq_eq_eq_not, Bool.not_true, Bool.not_false, ge_iff_le, gt_iff_lt, Int.not_lt, Int.not_le] at h4b
      refine AWP.seq ?_
      refine AWP.region_lit ?_
      refine AL.cons rfl (AOp.move (.inl rfl) rfl rfl) ?_
      refine AL.cons rfl (AOp.move (.inr rfl) rfl rfl) ?_
      refine AL.nil ?_
      refine AWP.ret ?_
      exact Ends.mk (ps := [_]) (.inr rfl) ⟨rfl, trivial⟩ rfl (StLe.mk' (st' := ⟨[], []⟩) trivial rfl) (keeps_nil hC) (q := (.t (.leaf (.int .i64 (((i : Nat) : Int)))) : PV)) (by (repeat' (first | exact PV.Le.refl _ | exact LeL.nil | exact PV.Le.nil _ | exact PV.Le.acc _ _ _ | apply LeL.cons | apply PV.Le.agg | apply PV.Le.tup))) rfl ⟨by rw [idxS_hit (by omega) hi2 (by first | assumption | (apply Eq.symm; assumption))], rfl⟩
    · skip
      have h4b := h4
      try simp only [Bool.and_eq_true, Bool.or_eq_true, Bool.and_eq_false_iff, Bool.or_eq_false_iff, decide_eq_true_eq, decide_eq_false_iff_not, Bool.not_eq_true', Bool.not_eq_false', Bool.not_eq_eq_eq_not, Bool.not_true, Bool.not_false, ge_iff_le, gt_iff_lt, Int.not_lt, Int.not_le] at h4b
      refine AWP.skip ?_
      refine AWP.region_lit ?_
      refine AL.cons rfl (AOp.addI rfl rfl rfl rfl (c := ((i + 1 : Nat) : Int)) (by omega) (by omega)) ?_
      refine AL.cons rfl (AOp.move (.inl rfl) rfl rfl) ?_
      refine AL.nil ?_
      refine ⟨i + 1, ?_, ?_, ?_⟩
      · exact ⟨by omega, miss_next hi2 (by omega) (by first | assumption | (intro hx; exact absurd hx.symm (by assumption)))⟩
      · skip
        exact Wk.mk (StLe.mk' trivial rfl) (keeps_nil hC) ⟨⟨_, rfl, .refl _, rfl⟩, ⟨⟨_, rfl, .refl _, rfl⟩, ⟨⟨_, rfl, .refl _, rfl⟩, ⟨⟨_, rfl, by (repeat' (first | exact PV.Le.refl _ | exact LeL.nil | exact PV.Le.nil _ | exact PV.Le.acc _ _ _ | apply LeL.cons | apply PV.Le.agg | apply PV.Le.tup)), rfl⟩, trivial⟩⟩⟩⟩
      · omega
  · skip
    have h3b := h3
    try simp only [Bool.and_eq_true, Bool.or_eq_true, Bool.and_eq_false_iff, Bool.or_eq_false_iff, decide_eq_true_eq, decide_eq_false_iff_not, Bool.not_eq_true', Bool.not_eq_false', Bool.not_eq_eq_eq_not, Bool.not_true, Bool.not_false, ge_iff_le, gt_iff_lt, Int.not_lt, Int.not_le] at h3b
    have h3n : i ≥ l.length := by omega
    refine AWP.exit ?_
    refine AWP.seq ?_
    refine AWP.region_lit ?_
    refine AL.cons rfl (AOp.move (.inr rfl) rfl rfl) ?_
    refine AL.nil ?_
    refine AWP.ret ?_
    exact Ends.mk (ps := [_]) (.inr rfl) ⟨rfl, trivial⟩ rfl (StLe.mk' (st' := ⟨[], []⟩) trivial rfl) (keeps_nil hC) (q := (.t (.leaf (.int .i64 (-1))) : PV)) (by (repeat' (first | exact PV.Le.refl _ | exact LeL.nil | exact PV.Le.nil _ | exact PV.Le.acc _ _ _ | apply LeL.cons | apply PV.Le.agg | apply PV.Le.tup))) rfl ⟨by rw [idxS_miss (fun j hj => hi2 j hj (by omega))], rfl⟩

set_option maxRecDepth 100000 in
set_option maxHeartbeats 4000000 in
theorem has_spec (l : List ByteArray) (s : ByteArray) : AFun Tryz.prog 150 [.t (.row 1 (strTrs (l))), .t (.leaf (.string (s)))] (.t (.leaf (.bool (decide (s ∈ l))))) := by
  refine ACalls.intro Tryz.func150 rfl (by first | decide | (simp; done) | (simp; decide)) ?_
  intro C hC
  refine AWP.fact (lk_lenN 0 rfl rfl (strTrs_len _)) (fun hl1 => ?_)
  refine AWP.seq ?_
  refine AWP.region_lit ?_
  refine AL.cons rfl (AOp.move (.inr rfl) rfl rfl) ?_
  refine AL.nil ?_
  refine AWP.seq ?_
  refine AWP.seq ?_
  refine AWP.region_lit ?_
  refine AL.cons rfl (AOp.move (.inr rfl) rfl rfl) ?_
  refine AL.nil ?_
  refine AWP.block ?_
  refine AWP.loopJ (ι := Nat) (fun i => i ≤ l.length ∧ ∀ (j : Nat) (hj : j < l.length), j < i → ¬ l[j] = s) (fun i => ⟨[(0, .t (.row 1 (strTrs (l)))), (1, .t (.leaf (.string (s)))), (5, .t (.leaf (.int .i64 (((i : Nat) : Int)))))], ⟨[], []⟩⟩) (fun i => l.length - i) 0 ?_ ?_ ?_
  · exact ⟨Nat.zero_le _, fun j hj h => absurd h (Nat.not_lt_zero _)⟩
  · skip
    exact Wk.mk (StLe.mk' trivial rfl) (keeps_nil hC) ⟨⟨_, rfl, .refl _, rfl⟩, ⟨⟨_, rfl, .refl _, rfl⟩, ⟨⟨_, rfl, by (repeat' (first | exact PV.Le.refl _ | exact LeL.nil | exact PV.Le.nil _ | exact PV.Le.acc _ _ _ | apply LeL.cons | apply PV.Le.agg | apply PV.Le.tup)), rfl⟩, trivial⟩⟩⟩
  rintro i hJ2
  obtain ⟨hi1, hi2⟩ := hJ2
  refine AWP.seq ?_
  refine AWP.seq ?_
  refine AWP.region_lit ?_
  refine AL.cons rfl (AOp.move (.inl rfl) rfl rfl) ?_
  refine AL.cons rfl (AOp.move (.inl rfl) rfl rfl) ?_
  refine AL.cons rfl (AOp.lenN rfl rfl rfl rfl el54 (strTrs_len _)) ?_
  refine AL.cons rfl (AOp.lss rfl rfl rfl rfl) ?_
  refine AL.nil ?_
  refine AWP.cond rfl (fun h3 => ?_) (fun h3 => ?_)
  · skip
    have h3b := h3
    try simp only [Bool.and_eq_true, Bool.or_eq_true, Bool.and_eq_false_iff, Bool.or_eq_false_iff, decide_eq_true_eq, decide_eq_false_iff_not, Bool.not_eq_true', Bool.not_eq_false', Bool.not_eq_eq_eq_not, Bool.not_true, Bool.not_false, ge_iff_le, gt_iff_lt, Int.not_lt, Int.not_le] at h3b
    have h3n : i < l.length := by omega
    refine AWP.skip ?_
    refine AWP.seq ?_
    refine AWP.block ?_
    refine AWP.seq ?_
    refine AWP.region_lit ?_
    refine AL.cons rfl (AOp.move (.inl rfl) rfl rfl) ?_
    refine AL.cons rfl (AOp.move (.inl rfl) rfl rfl) ?_
    refine AL.cons rfl (AOp.index (k := i) rfl rfl rfl rfl rfl (strTrs_cs h3n) el54) ?_
    refine AL.cons rfl (AOp.loadEptr1 (d := .leaf (.string (l[i]))) rfl rfl rfl sh9 rfl) ?_
    refine AL.cons rfl (AOp.move (.inl rfl) rfl rfl) ?_
    refine AL.cons rfl (AOp.eqlS rfl rfl rfl rfl) ?_
    refine AL.nil ?_
    refine AWP.cond rfl (fun h4 => ?_) (fun h4 => ?_)
    · skip
      have h4b := h4
      try simp only [Bool.and_eq_true, Bool.or_eq_true, Bool.and_eq_false_iff, Bool.or_eq_false_iff, decide_eq_true_eq, decide_eq_false_iff_not, Bool.not_eq_true', Bool.not_eq_false', Bool.not_eq_eq_eq_not, Bool.not_true, Bool.not_false, ge_iff_le, gt_iff_lt, Int.not_lt, Int.not_le] at h4b
      refine AWP.seq ?_
      refine AWP.region_lit ?_
      refine AL.cons rfl (AOp.move (.inr rfl) rfl rfl) ?_
      refine AL.nil ?_
      refine AWP.ret ?_
      exact Ends.mk (ps := [_]) (.inr rfl) ⟨rfl, trivial⟩ rfl (StLe.mk' (st' := ⟨[], []⟩) trivial rfl) (keeps_nil hC) (q := (.t (.leaf (.bool (true))) : PV)) (by (repeat' (first | exact PV.Le.refl _ | exact LeL.nil | exact PV.Le.nil _ | exact PV.Le.acc _ _ _ | apply LeL.cons | apply PV.Le.agg | apply PV.Le.tup))) rfl ⟨by rw [mem_hit (by omega) (by first | assumption | (apply Eq.symm; assumption))], rfl⟩
    · skip
      have h4b := h4
      try simp only [Bool.and_eq_true, Bool.or_eq_true, Bool.and_eq_false_iff, Bool.or_eq_false_iff, decide_eq_true_eq, decide_eq_false_iff_not, Bool.not_eq_true', Bool.not_eq_false', Bool.not_eq_eq_eq_not, Bool.not_true, Bool.not_false, ge_iff_le, gt_iff_lt, Int.not_lt, Int.not_le] at h4b
      refine AWP.skip ?_
      refine AWP.region_lit ?_
      refine AL.cons rfl (AOp.move (.inl rfl) rfl rfl) ?_
      refine AL.cons rfl (AOp.addI rfl rfl rfl rfl (c := ((i + 1 : Nat) : Int)) (by omega) (by omega)) ?_
      refine AL.cons rfl (AOp.move (.inr rfl) rfl rfl) ?_
      refine AL.nil ?_
      refine ⟨i + 1, ?_, ?_, ?_⟩
      · exact ⟨by omega, miss_next hi2 (by omega) (by first | assumption | (intro hx; exact absurd hx.symm (by assumption)))⟩
      · skip
        exact Wk.mk (StLe.mk' trivial rfl) (keeps_nil hC) ⟨⟨_, rfl, .refl _, rfl⟩, ⟨⟨_, rfl, .refl _, rfl⟩, ⟨⟨_, rfl, by (repeat' (first | exact PV.Le.refl _ | exact LeL.nil | exact PV.Le.nil _ | exact PV.Le.acc _ _ _ | apply LeL.cons | apply PV.Le.agg | apply PV.Le.tup)), rfl⟩, trivial⟩⟩⟩
      · omega
  · skip
    have h3b := h3
    try simp only [Bool.and_eq_true, Bool.or_eq_true, Bool.and_eq_false_iff, Bool.or_eq_false_iff, decide_eq_true_eq, decide_eq_false_iff_not, Bool.not_eq_true', Bool.not_eq_false', Bool.not_eq_eq_eq_not, Bool.not_true, Bool.not_false, ge_iff_le, gt_iff_lt, Int.not_lt, Int.not_le] at h3b
    have h3n : i ≥ l.length := by omega
    refine AWP.exit ?_
    refine AWP.seq ?_
    refine AWP.region_lit ?_
    refine AL.cons rfl (AOp.move (.inr rfl) rfl rfl) ?_
    refine AL.nil ?_
    refine AWP.ret ?_
    exact Ends.mk (ps := [_]) (.inr rfl) ⟨rfl, trivial⟩ rfl (StLe.mk' (st' := ⟨[], []⟩) trivial rfl) (keeps_nil hC) (q := (.t (.leaf (.bool (false))) : PV)) (by (repeat' (first | exact PV.Le.refl _ | exact LeL.nil | exact PV.Le.nil _ | exact PV.Le.acc _ _ _ | apply LeL.cons | apply PV.Le.agg | apply PV.Le.tup))) rfl ⟨by rw [mem_miss (fun j hj => hi2 j hj (by omega))], rfl⟩

set_option maxRecDepth 100000 in
set_option maxHeartbeats 4000000 in
theorem contS_ok (l : List ByteArray) (s : ByteArray) : AFun Tryz.prog 151 [.t (.row 1 (strTrs (l))), .t (.leaf (.string (s)))] (.t (.leaf (.bool (decide (s ∈ l))))) := by
  refine ACalls.intro Tryz.func151 rfl (by first | decide | (simp; done) | (simp; decide)) ?_
  intro C hC
  refine AWP.fact (lk_lenN 0 rfl rfl (strTrs_len _)) (fun hl1 => ?_)
  refine AWP.seq ?_
  refine AWP.region_lit ?_
  refine AL.cons rfl (AOp.move (.inr rfl) rfl rfl) ?_
  refine AL.nil ?_
  refine AWP.seq ?_
  refine AWP.region_lit ?_
  refine AL.cons rfl (AOp.move (.inl rfl) rfl rfl) ?_
  refine AL.cons rfl (AOp.move (.inl rfl) rfl rfl) ?_
  refine AL.cons rfl (AOp.callF (ps := [_, _]) rfl rfl Tryz.func196 (by kernel_rfl) rfl rfl (by (repeat' (first | exact PV.Le.refl _ | exact LeL.nil | exact PV.Le.nil _ | exact PV.Le.acc _ _ _ | apply LeL.cons | apply PV.Le.agg | apply PV.Le.tup))) rfl rfl (idxS_ok l s)) ?_
  refine AL.cons rfl (AOp.geq rfl rfl rfl rfl) ?_
  refine AL.cons rfl (AOp.move (.inr rfl) rfl rfl) ?_
  refine AL.nil ?_
  refine AWP.ret ?_
  exact Ends.mk (ps := [_]) (.inr rfl) ⟨rfl, trivial⟩ rfl (StLe.mk' (st' := ⟨[], []⟩) trivial rfl) (keeps_nil hC) (q := (.t (.leaf (.bool (decide ((idxS l s : Int) ≥ 0)))) : PV)) (by (repeat' (first | exact PV.Le.refl _ | exact LeL.nil | exact PV.Le.nil _ | exact PV.Le.acc _ _ _ | apply LeL.cons | apply PV.Le.agg | apply PV.Le.tup))) rfl ⟨by rw [← idxS_mem], rfl⟩

set_option maxRecDepth 100000 in
set_option maxHeartbeats 4000000 in
theorem supers_impl (w : GProgram) : ∀ (n : Nat) (name : ByteArray) (out : List ByteArray), supM w out < n → out.length + supM w out ≤ 1099511627776 → ACalls Tryz.prog 92 [(GProgram.pv w), .acc 1 (strTrs (out)) 0, .t (.leaf (.string (name)))] ⟨[], [⟨9, 1, strTrs (out), false⟩]⟩ (fun r t => r = .acc 1 (strTrs (supF w n name out)) 0 ∧ t = ⟨[], [⟨9, 1, strTrs (supF w n name out), false⟩]⟩) := by
  intro n
  induction n with
  | zero => intro name out h; exact absurd h (Nat.not_lt_zero _)
  | succ n ih =>
  intro name out hm hbd
  refine ACalls.intro Tryz.func92 rfl (by first | decide | (simp; done) | (simp; decide)) ?_
  intro C hC
  refine AWP.fact (lk_lenN 1 rfl rfl (strTrs_len _)) (fun hl1 => ?_)
  refine AWP.seq ?_
  refine AWP.region_lit ?_
  refine AL.cons rfl (AOp.box (cs := [.t (.row 6 (GPackage.trs (w.gPackages)))]) rfl rfl rfl rfl rfl) ?_
  refine AL.cons rfl (AOp.move (.inr rfl) rfl rfl) ?_
  refine AL.nil ?_
  refine AWP.seq ?_
  refine AWP.region_lit ?_
  refine AL.cons rfl (AOp.loadPtr (cs := [.t (.row 6 (GPackage.trs (w.gPackages)))]) rfl rfl rfl rfl sh31 rfl rfl) ?_
  refine AL.cons rfl (AOp.move (.inl rfl) rfl rfl) ?_
  refine AL.cons rfl (AOp.callF (ps := [_, _]) rfl rfl Tryz.func82 (by kernel_rfl) rfl rfl (by (repeat' (first | exact PV.Le.refl _ | exact LeL.nil | exact PV.Le.nil _ | exact PV.Le.acc _ _ _ | apply LeL.cons | apply PV.Le.agg | apply PV.Le.tup))) rfl rfl (trait_impl w name)) ?_
  refine AL.cons rfl (AOp.move (.inl rfl) rfl rfl) ?_
  refine AL.cons rfl (AOp.extract rfl rfl rfl rfl) ?_
  refine AL.cons rfl (AOp.extract rfl rfl rfl rfl) ?_
  refine AL.cons rfl (AOp.extract rfl rfl rfl rfl) ?_
  refine AL.cons rfl (AOp.alloc rfl rfl zr94) ?_
  refine AL.cons rfl (AOp.storePtr (cs := [.t (.leaf (.string ((oTrait (w.traitAt name)).gName))), .t (.row 1 (strTrs ((oTrait (w.traitAt name)).gSupertraits))), .t (.leaf (.bool ((oTrait (w.traitAt name)).gAuto))), .t (.leaf (.bool ((oTrait (w.traitAt name)).gAssoc))), .t (.row 16 (GSignature.trs ((oTrait (w.traitAt name)).gSignatures)))]) (ds := [.t (.leaf (.string ((oTrait (w.traitAt name)).gName))), .t (.row 1 (strTrs ((oTrait (w.traitAt name)).gSupertraits))), .t (.leaf (.bool ((oTrait (w.traitAt name)).gAuto))), .t (.leaf (.bool ((oTrait (w.traitAt name)).gAssoc))), .t (.row 16 (GSignature.trs ((oTrait (w.traitAt name)).gSignatures)))]) rfl rfl rfl rfl rfl rfl rfl sz94 (Nat.le_of_ble_eq_true rfl) rfl) ?_
  refine AL.cons rfl (AOp.move (.inr rfl) rfl rfl) ?_
  refine AL.cons rfl (AOp.move (.inr rfl) rfl rfl) ?_
  refine AL.nil ?_
  refine AWP.seq ?_
  refine AWP.seq ?_
  refine AWP.region_lit ?_
  refine AL.cons rfl (AOp.fieldPtr (k := 1) (d := 0) (e := 1) rfl rfl rfl fo94_1) ?_
  refine AL.cons rfl (AOp.loadPtr1 rfl rfl rfl rfl sh54 rfl) ?_
  refine AL.fact (lk_lenN 20 rfl rfl (strTrs_len _)) (fun hl2 => ?_)
  refine AL.cons rfl (AOp.lenN rfl rfl rfl rfl el54 (strTrs_len _)) ?_
  refine AL.cons rfl (AOp.move (.inl rfl) rfl rfl) ?_
  refine AL.nil ?_
  refine AWP.block ?_
  refine AWP.loopJ (ι := Nat × List ByteArray) (fun ⟨i, o⟩ => i ≤ (oTrait (w.traitAt name)).gSupertraits.length ∧ supF w (n + 1) name out = ((oTrait (w.traitAt name)).gSupertraits.drop i).foldl (fun o s => if s ∈ o then o else supF w n s (o ++ [s])) o ∧ supM w o ≤ supM w out ∧ o.length + supM w o ≤ out.length + supM w out) (fun ⟨i, o⟩ => ⟨[(0, (GProgram.pv w)), (1, .acc 1 (strTrs (o)) 0), (2, .t (.leaf (.string (name)))), (3, .ptr 0 0), (6, .nil), (7, .ptr 1 0), (8, .t (.leaf (.int .i64 (oInt (w.traitAt name))))), (9, .t (.leaf (.bool ((w.traitAt name).isSome)))), (20, .t (.row 1 (strTrs ((oTrait (w.traitAt name)).gSupertraits)))), (21, .t (.leaf (.int .i64 (((((oTrait (w.traitAt name)).gSupertraits).length : Nat) : Int))))), (22, .t (.leaf (.int .i64 (((i : Nat) : Int)))))], ⟨[some ⟨31, [.t (.row 6 (GPackage.trs (w.gPackages)))]⟩, some ⟨94, [.t (.leaf (.string ((oTrait (w.traitAt name)).gName))), .t (.row 1 (strTrs ((oTrait (w.traitAt name)).gSupertraits))), .t (.leaf (.bool ((oTrait (w.traitAt name)).gAuto))), .t (.leaf (.bool ((oTrait (w.traitAt name)).gAssoc))), .t (.row 16 (GSignature.trs ((oTrait (w.traitAt name)).gSignatures)))]⟩], [⟨9, 1, strTrs (o), false⟩]⟩⟩) (fun ⟨i, o⟩ => (oTrait (w.traitAt name)).gSupertraits.length - i) (0, out) ?_ ?_ ?_
  · exact ⟨Nat.zero_le _, rfl, Nat.le_refl _, Nat.le_refl _⟩
  · skip
    exact Wk.mk (StLe.mk' ⟨⟨rfl, by (repeat' (first | exact PV.Le.refl _ | exact LeL.nil | exact PV.Le.nil _ | exact PV.Le.acc _ _ _ | apply LeL.cons | apply PV.Le.agg | apply PV.Le.tup)), rfl⟩, ⟨⟨rfl, by (repeat' (first | exact PV.Le.refl _ | exact LeL.nil | exact PV.Le.nil _ | exact PV.Le.acc _ _ _ | apply LeL.cons | apply PV.Le.agg | apply PV.Le.tup)), rfl⟩, trivial⟩⟩ (by first | rfl | simp)) (keeps_rows hC (Nat.le_of_ble_eq_true rfl)) ⟨⟨_, rfl, .refl _, rfl⟩, ⟨⟨_, rfl, by (repeat' (first | exact PV.Le.refl _ | exact LeL.nil | exact PV.Le.nil _ | exact PV.Le.acc _ _ _ | apply LeL.cons | apply PV.Le.agg | apply PV.Le.tup)), rfl⟩, ⟨⟨_, rfl, .refl _, rfl⟩, ⟨⟨_, rfl, .refl _, rfl⟩, ⟨⟨_, rfl, .refl _, rfl⟩, ⟨⟨_, rfl, .refl _, rfl⟩, ⟨⟨_, rfl, .refl _, rfl⟩, ⟨⟨_, rfl, .refl _, rfl⟩, ⟨⟨_, rfl, .refl _, rfl⟩, ⟨⟨_, rfl, .refl _, rfl⟩, ⟨⟨_, rfl, by (repeat' (first | exact PV.Le.refl _ | exact LeL.nil | exact PV.Le.nil _ | exact PV.Le.acc _ _ _ | apply LeL.cons | apply PV.Le.agg | apply PV.Le.tup)), rfl⟩, trivial⟩⟩⟩⟩⟩⟩⟩⟩⟩⟩⟩
  rintro ⟨i, o⟩ hJ3
  obtain ⟨hi1, hi2, hi3, hi4⟩ := hJ3
  refine AWP.seq ?_
  refine AWP.region_lit ?_
  refine AL.cons rfl (AOp.lss rfl rfl rfl rfl) ?_
  refine AL.nil ?_
  refine AWP.seq ?_
  refine AWP.cond rfl (fun h4 => ?_) (fun h4 => ?_)
  · skip
    have h4b := h4
    try simp only [Bool.and_eq_true, Bool.or_eq_true, Bool.and_eq_false_iff, Bool.or_eq_false_iff, decide_eq_true_eq, decide_eq_false_iff_not, Bool.not_eq_true', Bool.not_eq_false', Bool.not_eq_eq_eq_not, Bool.not_true, Bool.not_false, ge_iff_le, gt_iff_lt, Int.not_lt, Int.not_le] at h4b
    have h4n : i < ((oTrait (w.traitAt name)).gSupertraits).length := by omega
    refine AWP.skip ?_
    refine AWP.seq ?_
    refine AWP.block ?_
    refine AWP.seq ?_
    refine AWP.region_lit ?_
    refine AL.cons rfl (AOp.index (k := i) rfl rfl rfl rfl rfl (strTrs_cs h4n) el54) ?_
    refine AL.cons rfl (AOp.loadEptr1 (d := .leaf (.string (((oTrait (w.traitAt name)).gSupertraits)[i]))) rfl rfl rfl sh9 rfl) ?_
    refine AL.cons rfl (AOp.move (.inr rfl) rfl rfl) ?_
    refine AL.nil ?_
    refine AWP.seq ?_
    refine AWP.region_lit ?_
    refine AL.cons rfl (AOp.move (.inl rfl) rfl rfl) ?_
    refine AL.cons rfl (AOp.move (.inl rfl) rfl rfl) ?_
    refine AL.cons rfl (AOp.callF (ps := [_, _]) rfl rfl Tryz.func151 (by kernel_rfl) rfl rfl (by (repeat' (first | exact PV.Le.refl _ | exact LeL.nil | exact PV.Le.nil _ | exact PV.Le.acc _ _ _ | apply LeL.cons | apply PV.Le.agg | apply PV.Le.tup))) rfl rfl (contS_ok o (((oTrait (w.traitAt name)).gSupertraits)[i]))) ?_
    refine AL.cons rfl (AOp.notB rfl rfl rfl) ?_
    refine AL.nil ?_
    refine AWP.cond rfl (fun h5 => ?_) (fun h5 => ?_)
    · skip
      have h5b := h5
      try simp only [Bool.and_eq_true, Bool.or_eq_true, Bool.and_eq_false_iff, Bool.or_eq_false_iff, decide_eq_true_eq, decide_eq_false_iff_not, Bool.not_eq_true', Bool.not_eq_false', Bool.not_eq_eq_eq_not, Bool.not_true, Bool.not_false, ge_iff_le, gt_iff_lt, Int.not_lt, Int.not_le] at h5b
      refine AWP.drawnL ⟨_, _, fun j' _ => ([(⟨[some ⟨31, [.t (.row 6 (GPackage.trs (w.gPackages)))]⟩, some ⟨94, [.t (.leaf (.string ((oTrait (w.traitAt name)).gName))), .t (.row 1 (strTrs ((oTrait (w.traitAt name)).gSupertraits))), .t (.leaf (.bool ((oTrait (w.traitAt name)).gAuto))), .t (.leaf (.bool ((oTrait (w.traitAt name)).gAssoc))), .t (.row 16 (GSignature.trs ((oTrait (w.traitAt name)).gSignatures)))]⟩], [⟨9, 1, strTrs (o), false⟩]⟩ : Sto), (⟨[some ⟨31, [.t (.row 6 (GPackage.trs (w.gPackages)))]⟩, some ⟨94, [.t (.leaf (.string ((oTrait (w.traitAt name)).gName))), .t (.row 1 (strTrs ((oTrait (w.traitAt name)).gSupertraits))), .t (.leaf (.bool ((oTrait (w.traitAt name)).gAuto))), .t (.leaf (.bool ((oTrait (w.traitAt name)).gAssoc))), .t (.row 16 (GSignature.trs ((oTrait (w.traitAt name)).gSignatures)))]⟩], [⟨9, 1, strTrs (o ++ [(((oTrait (w.traitAt name)).gSupertraits)[i])]), false⟩]⟩ : Sto), (⟨[some ⟨31, [.t (.row 6 (GPackage.trs (w.gPackages)))]⟩, some ⟨94, [.t (.leaf (.string ((oTrait (w.traitAt name)).gName))), .t (.row 1 (strTrs ((oTrait (w.traitAt name)).gSupertraits))), .t (.leaf (.bool ((oTrait (w.traitAt name)).gAuto))), .t (.leaf (.bool ((oTrait (w.traitAt name)).gAssoc))), .t (.row 16 (GSignature.trs ((oTrait (w.traitAt name)).gSignatures)))]⟩], [⟨9, 1, strTrs (supF w n (((oTrait (w.traitAt name)).gSupertraits)[i]) (o ++ [(((oTrait (w.traitAt name)).gSupertraits)[i])])), false⟩]⟩ : Sto)] : List Sto).getD j' (⟨[some ⟨31, [.t (.row 6 (GPackage.trs (w.gPackages)))]⟩, some ⟨94, [.t (.leaf (.string ((oTrait (w.traitAt name)).gName))), .t (.row 1 (strTrs ((oTrait (w.traitAt name)).gSupertraits))), .t (.leaf (.bool ((oTrait (w.traitAt name)).gAuto))), .t (.leaf (.bool ((oTrait (w.traitAt name)).gAssoc))), .t (.row 16 (GSignature.trs ((oTrait (w.traitAt name)).gSignatures)))]⟩], [⟨9, 1, strTrs (supF w n (((oTrait (w.traitAt name)).gSupertraits)[i]) (o ++ [(((oTrait (w.traitAt name)).gSupertraits)[i])])), false⟩]⟩ : Sto), fun q' => ([some ((GProgram.pv w)), some (.acc 1 (strTrs (o)) 0), some (.t (.leaf (.string (((oTrait (w.traitAt name)).gSupertraits)[i])))), some (.t (.row 1 (strTrs ([(((oTrait (w.traitAt name)).gSupertraits)[i])])))), some (.acc 1 (strTrs (o ++ [(((oTrait (w.traitAt name)).gSupertraits)[i])])) 0), some (.t (.leaf (.string (((oTrait (w.traitAt name)).gSupertraits)[i])))), some (.acc 1 (strTrs (supF w n (((oTrait (w.traitAt name)).gSupertraits)[i]) (o ++ [(((oTrait (w.traitAt name)).gSupertraits)[i])]))) 0), some (.acc 1 (strTrs (supF w n (((oTrait (w.traitAt name)).gSupertraits)[i]) (o ++ [(((oTrait (w.traitAt name)).gSupertraits)[i])]))) 0)] : List (Option PV)).getD q' none, fun q' => ([.q 0 1, .q 0 0, .q 0 0, .q 0 0, .ef 0, .q 0 1, .ef 1, .q 2 2] : List DK).getD q' (.q 0 0), [4, 6], none, fun q' => ([[(3, none)], [(1, none)], [(11, none)], [(32, some 2)], [(31, some 1), (33, some 3)], [(11, none)], [(35, some 5), (34, some 4), (30, some 0)], [(36, some 6)]] : List (List (Nat × Option Nat))).getD q' []⟩ rfl mixed (by kernel_rfl) rfl rfl ⟨?_, ?_, ?_, ?_, ?_, ?_, ?_, ?_, trivial⟩ rfl ?_
      · refine .inl ⟨rfl, fun s' jj bb (h1 : 0 ≤ jj) (h2 : jj ≤ 1) hs hl => ?_⟩
        rcases (by omega : jj = 0 ∨ jj = 1) with rfl | rfl <;> exact ⟨_, rfl, AOp.loadPtr (cs := [.t (.row 6 (GPackage.trs (w.gPackages)))]) rfl rfl (hl 3 none _ (.head _) rfl) (by rw [hs]; rfl) sh31 rfl rfl⟩
      · refine .inl ⟨rfl, fun s' jj bb (h1 : 0 ≤ jj) (h2 : jj ≤ 0) hs hl => ?_⟩
        obtain rfl : jj = 0 := by omega
        exact ⟨_, rfl, AOp.move (.inl rfl) rfl (hl 1 none _ (.head _) rfl)⟩
      · refine .inl ⟨rfl, fun s' jj bb (h1 : 0 ≤ jj) (h2 : jj ≤ 0) hs hl => ?_⟩
        obtain rfl : jj = 0 := by omega
        exact ⟨_, rfl, AOp.move (.inl rfl) rfl (hl 11 none _ (.head _) rfl)⟩
      · refine .inl ⟨rfl, fun s' jj bb (h1 : 0 ≤ jj) (h2 : jj ≤ 0) hs hl => ?_⟩
        obtain rfl : jj = 0 := by omega
        exact ⟨_, rfl, AOp.buildSliceQ (es := strTrs ([(((oTrait (w.traitAt name)).gSupertraits)[i])])) (cs := [.t (.leaf (.string (((oTrait (w.traitAt name)).gSupertraits)[i])))]) rfl rfl el54 zr9 (parts_cons (hl 32 (some 2) _ (.head _) rfl) rfl rfl rfl) rfl (by (repeat' (first | exact PV.Le.refl _ | exact LeL.nil | exact PV.Le.nil _ | exact PV.Le.acc _ _ _ | apply LeL.cons | apply PV.Le.agg | apply PV.Le.tup))) rfl (by simp [strTrs]) (by decide) rfl (by decide)⟩
      · refine .inl ⟨rfl, fun s' bb hs hl => ?_⟩
        refine .inl ⟨_, rfl, AOp.congr (AOp.appendE (es3 := strTrs (o ++ [(((oTrait (w.traitAt name)).gSupertraits)[i])])) rfl rfl (hl 31 (some 1) _ (.head _) rfl) (by rw [hs]; rfl) rfl rfl rfl (hl 33 (some 3) _ (.tail _ (.head _)) rfl) rfl (strTrs_all _) el54 ze54 (by decide) (by rw [strTrs_len, strTrs_len]; simp; omega) (strTrs_append _ _)) ?_⟩
        first | (rw [hs]; rfl) | rfl
      · refine .inl ⟨rfl, fun s' jj bb (h1 : 0 ≤ jj) (h2 : jj ≤ 1) hs hl => ?_⟩
        rcases (by omega : jj = 0 ∨ jj = 1) with rfl | rfl <;> exact ⟨_, rfl, AOp.move (.inl rfl) rfl (hl 11 none _ (.head _) rfl)⟩
      · refine .inl ⟨rfl, fun s' bb hs hl => ?_⟩
        refine .inl ⟨_, rfl, AOp.congr (AOp.callPE (pre := ⟨[], [⟨9, 1, strTrs (o ++ [(((oTrait (w.traitAt name)).gSupertraits)[i])]), false⟩]⟩) (st' := ⟨[], [⟨9, 1, strTrs (supF w n (((oTrait (w.traitAt name)).gSupertraits)[i]) (o ++ [(((oTrait (w.traitAt name)).gSupertraits)[i])])), false⟩]⟩) (ps := [_, _, _]) (qs := [(GProgram.pv w), .acc 1 (strTrs (o ++ [(((oTrait (w.traitAt name)).gSupertraits)[i])])) 0, .t (.leaf (.string (((oTrait (w.traitAt name)).gSupertraits)[i])))]) [] [0] rfl rfl Tryz.func92 (by kernel_rfl) rfl (evs_cons (hl 30 (some 0) _ (.tail _ (.tail _ (.head _))) rfl) (evs_cons (hl 34 (some 4) _ (.tail _ (.head _)) rfl) (evs_cons (hl 35 (some 5) _ (.head _) rfl) rfl))) hs (by (try rw [hs]); exact ⟨rfl, rfl, by decide, by decide, fun k h => absurd h (Nat.not_lt_zero _), fun k x h => by simp at h, fun r row h => by rcases r with _ | r <;> simp at h; subst h; rfl⟩) (by (repeat' (first | exact PV.Le.refl _ | exact LeL.nil | exact PV.Le.nil _ | exact PV.Le.acc _ _ _ | apply LeL.cons | apply PV.Le.agg | apply PV.Le.tup))) rfl rfl rfl (ih _ _ (by have := sup_step (w := w) (name := name) (o := o) (List.getElem_mem (show i < (oTrait (w.traitAt name)).gSupertraits.length by omega)) (by assumption); omega) (by have := sup_step (w := w) (name := name) (o := o) (List.getElem_mem (show i < (oTrait (w.traitAt name)).gSupertraits.length by omega)) (by assumption); have h4 : (o ++ [((oTrait (w.traitAt name)).gSupertraits)[i]]).length = o.length + 1 := (by simp); omega))) ?_⟩
        first | (rw [hs]; rfl) | rfl
      · refine .inl ⟨rfl, fun s' jj bb (h1 : 2 ≤ jj) (h2 : jj ≤ 2) hs hl => ?_⟩
        obtain rfl : jj = 2 := by omega
        exact ⟨_, rfl, AOp.move (.inr rfl) rfl (hl 36 (some 6) _ (.head _) rfl)⟩
      refine AWP.region_lit ?_
      refine AL.cons rfl (AOp.addI rfl rfl rfl rfl (c := ((i + 1 : Nat) : Int)) (by omega) (by omega)) ?_
      refine AL.cons rfl (AOp.move (.inl rfl) rfl rfl) ?_
      refine AL.nil ?_
      refine ⟨(i + 1, supF w n (((oTrait (w.traitAt name)).gSupertraits)[i]) (o ++ [(((oTrait (w.traitAt name)).gSupertraits)[i])])), ?_, ?_, ?_⟩
      · first | exact supJ_has (by omega) hi2 hi3 hi4 (by assumption) | exact supJ_new (by omega) hi2 hi3 hi4 (by assumption) rfl
      · skip
        exact Wk.mk (StLe.mk' ⟨⟨rfl, by (repeat' (first | exact PV.Le.refl _ | exact LeL.nil | exact PV.Le.nil _ | exact PV.Le.acc _ _ _ | apply LeL.cons | apply PV.Le.agg | apply PV.Le.tup)), rfl⟩, ⟨⟨rfl, by (repeat' (first | exact PV.Le.refl _ | exact LeL.nil | exact PV.Le.nil _ | exact PV.Le.acc _ _ _ | apply LeL.cons | apply PV.Le.agg | apply PV.Le.tup)), rfl⟩, trivial⟩⟩ (by first | rfl | simp)) (keeps_rows hC (Nat.le_of_ble_eq_true rfl)) ⟨⟨_, rfl, .refl _, rfl⟩, ⟨⟨_, rfl, by (repeat' (first | exact PV.Le.refl _ | exact LeL.nil | exact PV.Le.nil _ | exact PV.Le.acc _ _ _ | apply LeL.cons | apply PV.Le.agg | apply PV.Le.tup)), rfl⟩, ⟨⟨_, rfl, .refl _, rfl⟩, ⟨⟨_, rfl, .refl _, rfl⟩, ⟨⟨_, rfl, .refl _, rfl⟩, ⟨⟨_, rfl, .refl _, rfl⟩, ⟨⟨_, rfl, .refl _, rfl⟩, ⟨⟨_, rfl, .refl _, rfl⟩, ⟨⟨_, rfl, .refl _, rfl⟩, ⟨⟨_, rfl, .refl _, rfl⟩, ⟨⟨_, rfl, by (repeat' (first | exact PV.Le.refl _ | exact LeL.nil | exact PV.Le.nil _ | exact PV.Le.acc _ _ _ | apply LeL.cons | apply PV.Le.agg | apply PV.Le.tup)), rfl⟩, trivial⟩⟩⟩⟩⟩⟩⟩⟩⟩⟩⟩
      · dsimp only; omega
    · skip
      have h5b := h5
      try simp only [Bool.and_eq_true, Bool.or_eq_true, Bool.and_eq_false_iff, Bool.or_eq_false_iff, decide_eq_true_eq, decide_eq_false_iff_not, Bool.not_eq_true', Bool.not_eq_false', Bool.not_eq_eq_eq_not, Bool.not_true, Bool.not_false, ge_iff_le, gt_iff_lt, Int.not_lt, Int.not_le] at h5b
      refine AWP.skip ?_
      refine AWP.region_lit ?_
      refine AL.cons rfl (AOp.addI rfl rfl rfl rfl (c := ((i + 1 : Nat) : Int)) (by omega) (by omega)) ?_
      refine AL.cons rfl (AOp.move (.inl rfl) rfl rfl) ?_
      refine AL.nil ?_
      refine ⟨(i + 1, o), ?_, ?_, ?_⟩
      · first | exact supJ_has (by omega) hi2 hi3 hi4 (by assumption) | exact supJ_new (by omega) hi2 hi3 hi4 (by assumption) rfl
      · skip
        exact Wk.mk (StLe.mk' ⟨⟨rfl, by (repeat' (first | exact PV.Le.refl _ | exact LeL.nil | exact PV.Le.nil _ | exact PV.Le.acc _ _ _ | apply LeL.cons | apply PV.Le.agg | apply PV.Le.tup)), rfl⟩, ⟨⟨rfl, by (repeat' (first | exact PV.Le.refl _ | exact LeL.nil | exact PV.Le.nil _ | exact PV.Le.acc _ _ _ | apply LeL.cons | apply PV.Le.agg | apply PV.Le.tup)), rfl⟩, trivial⟩⟩ (by first | rfl | simp)) (keeps_rows hC (Nat.le_of_ble_eq_true rfl)) ⟨⟨_, rfl, .refl _, rfl⟩, ⟨⟨_, rfl, .refl _, rfl⟩, ⟨⟨_, rfl, .refl _, rfl⟩, ⟨⟨_, rfl, .refl _, rfl⟩, ⟨⟨_, rfl, .refl _, rfl⟩, ⟨⟨_, rfl, .refl _, rfl⟩, ⟨⟨_, rfl, .refl _, rfl⟩, ⟨⟨_, rfl, .refl _, rfl⟩, ⟨⟨_, rfl, .refl _, rfl⟩, ⟨⟨_, rfl, .refl _, rfl⟩, ⟨⟨_, rfl, by (repeat' (first | exact PV.Le.refl _ | exact LeL.nil | exact PV.Le.nil _ | exact PV.Le.acc _ _ _ | apply LeL.cons | apply PV.Le.agg | apply PV.Le.tup)), rfl⟩, trivial⟩⟩⟩⟩⟩⟩⟩⟩⟩⟩⟩
      · dsimp only; omega
  · skip
    have h4b := h4
    try simp only [Bool.and_eq_true, Bool.or_eq_true, Bool.and_eq_false_iff, Bool.or_eq_false_iff, decide_eq_true_eq, decide_eq_false_iff_not, Bool.not_eq_true', Bool.not_eq_false', Bool.not_eq_eq_eq_not, Bool.not_true, Bool.not_false, ge_iff_le, gt_iff_lt, Int.not_lt, Int.not_le] at h4b
    have h4n : i ≥ ((oTrait (w.traitAt name)).gSupertraits).length := by omega
    refine AWP.exit ?_
    refine AWP.seq ?_
    refine AWP.region_lit ?_
    refine AL.cons rfl (AOp.move (.inl rfl) rfl rfl) ?_
    refine AL.cons rfl (AOp.move (.inr rfl) rfl rfl) ?_
    refine AL.nil ?_
    refine AWP.ret ?_
    obtain rfl := fold_end (by omega) hi2
    exact Ends.mk (ps := [_]) (.inr rfl) ⟨rfl, trivial⟩ rfl (StLe.mk' (st' := ⟨[], [⟨9, 1, strTrs (supF w (n + 1) name out), false⟩]⟩) trivial rfl) (keeps_rows hC (Nat.le_of_ble_eq_true rfl)) (q := .acc 1 (strTrs (supF w (n + 1) name out)) 0) (.refl _) rfl ⟨rfl, rfl⟩

theorem supersNil_impl (w : GProgram) (name : ByteArray) (hb : w.allSup.length ≤ 1099511627776) : AFun Tryz.prog 92 [(GProgram.pv w), .nil, .t (.leaf (.string name))] (.t (.row 1 (strTrs (w.supers name)))) :=
  ACalls.regNil (l1 := [GProgram.pv w]) (l2 := [.t (.leaf (.string name))]) (E := 9) (sz := 1) (by decide) (supers_impl w (supM w [] + 1) name [] (Nat.lt_succ_self _) (supM_le hb)) (.acc 1 _ 0) rfl
set_option maxRecDepth 100000 in
set_option maxHeartbeats 4000000 in
theorem supers_spec (w : GProgram) : ∀ (n : Nat) (name : ByteArray) (out : List ByteArray), supM w out < n → out.length + supM w out ≤ 1099511627776 → ACalls Tryz.prog 91 [(GProgram.pv w), .t (.leaf (.string (name))), .acc 1 (strTrs (out)) 0] ⟨[], [⟨9, 1, strTrs (out), false⟩]⟩ (fun r t => r = .acc 1 (strTrs (supF w n name out)) 0 ∧ t = ⟨[], [⟨9, 1, strTrs (supF w n name out), false⟩]⟩) := by
  intro n
  induction n with
  | zero => intro name out h; exact absurd h (Nat.not_lt_zero _)
  | succ n ih =>
  intro name out hm hbd
  refine ACalls.intro Tryz.func91 rfl (by first | decide | (simp; done) | (simp; decide)) ?_
  intro C hC
  refine AWP.fact (lk_lenN 2 rfl rfl (strTrs_len _)) (fun hl1 => ?_)
  refine AWP.seq ?_
  refine AWP.region_lit ?_
  refine AL.cons rfl (AOp.box (cs := [.t (.row 6 (GPackage.trs (w.gPackages)))]) rfl rfl rfl rfl rfl) ?_
  refine AL.cons rfl (AOp.move (.inr rfl) rfl rfl) ?_
  refine AL.nil ?_
  refine AWP.seq ?_
  refine AWP.region_lit ?_
  refine AL.cons rfl (AOp.loadPtr (cs := [.t (.row 6 (GPackage.trs (w.gPackages)))]) rfl rfl rfl rfl sh31 rfl rfl) ?_
  refine AL.cons rfl (AOp.move (.inl rfl) rfl rfl) ?_
  refine AL.cons rfl (AOp.callF (ps := [_, _]) rfl rfl Tryz.func78 (by kernel_rfl) rfl rfl (by (repeat' (first | exact PV.Le.refl _ | exact LeL.nil | exact PV.Le.nil _ | exact PV.Le.acc _ _ _ | apply LeL.cons | apply PV.Le.agg | apply PV.Le.tup))) rfl rfl (trait_spec w name)) ?_
  refine AL.cons rfl (AOp.move (.inl rfl) rfl rfl) ?_
  refine AL.cons rfl (AOp.extract rfl rfl rfl rfl) ?_
  refine AL.cons rfl (AOp.extract rfl rfl rfl rfl) ?_
  refine AL.cons rfl (AOp.extract rfl rfl rfl rfl) ?_
  refine AL.cons rfl (AOp.alloc rfl rfl zr94) ?_
  refine AL.cons rfl (AOp.storePtr (cs := [.t (.leaf (.string ((oTrait (w.traitAt name)).gName))), .t (.row 1 (strTrs ((oTrait (w.traitAt name)).gSupertraits))), .t (.leaf (.bool ((oTrait (w.traitAt name)).gAuto))), .t (.leaf (.bool ((oTrait (w.traitAt name)).gAssoc))), .t (.row 16 (GSignature.trs ((oTrait (w.traitAt name)).gSignatures)))]) (ds := [.t (.leaf (.string ((oTrait (w.traitAt name)).gName))), .t (.row 1 (strTrs ((oTrait (w.traitAt name)).gSupertraits))), .t (.leaf (.bool ((oTrait (w.traitAt name)).gAuto))), .t (.leaf (.bool ((oTrait (w.traitAt name)).gAssoc))), .t (.row 16 (GSignature.trs ((oTrait (w.traitAt name)).gSignatures)))]) rfl rfl rfl rfl rfl rfl rfl sz94 (Nat.le_of_ble_eq_true rfl) rfl) ?_
  refine AL.cons rfl (AOp.move (.inr rfl) rfl rfl) ?_
  refine AL.cons rfl (AOp.move (.inr rfl) rfl rfl) ?_
  refine AL.nil ?_
  refine AWP.seq ?_
  refine AWP.seq ?_
  refine AWP.region_lit ?_
  refine AL.cons rfl (AOp.move (.inr rfl) rfl rfl) ?_
  refine AL.nil ?_
  refine AWP.block ?_
  refine AWP.loopJ (ι := Nat × List ByteArray) (fun ⟨i, o⟩ => i ≤ (oTrait (w.traitAt name)).gSupertraits.length ∧ supF w (n + 1) name out = ((oTrait (w.traitAt name)).gSupertraits.drop i).foldl (fun o s => if s ∈ o then o else supF w n s (o ++ [s])) o ∧ supM w o ≤ supM w out ∧ o.length + supM w o ≤ out.length + supM w out) (fun ⟨i, o⟩ => ⟨[(0, (GProgram.pv w)), (1, .t (.leaf (.string (name)))), (2, .acc 1 (strTrs (o)) 0), (3, .ptr 0 0), (6, .nil), (7, .ptr 1 0), (8, .t (.leaf (.int .i64 (oInt (w.traitAt name))))), (9, .t (.leaf (.bool ((w.traitAt name).isSome)))), (10, .t (.leaf (.int .i64 (((i : Nat) : Int)))))], ⟨[some ⟨31, [.t (.row 6 (GPackage.trs (w.gPackages)))]⟩, some ⟨94, [.t (.leaf (.string ((oTrait (w.traitAt name)).gName))), .t (.row 1 (strTrs ((oTrait (w.traitAt name)).gSupertraits))), .t (.leaf (.bool ((oTrait (w.traitAt name)).gAuto))), .t (.leaf (.bool ((oTrait (w.traitAt name)).gAssoc))), .t (.row 16 (GSignature.trs ((oTrait (w.traitAt name)).gSignatures)))]⟩], [⟨9, 1, strTrs (o), false⟩]⟩⟩) (fun ⟨i, o⟩ => (oTrait (w.traitAt name)).gSupertraits.length - i) (0, out) ?_ ?_ ?_
  · exact ⟨Nat.zero_le _, rfl, Nat.le_refl _, Nat.le_refl _⟩
  · skip
    exact Wk.mk (StLe.mk' ⟨⟨rfl, by (repeat' (first | exact PV.Le.refl _ | exact LeL.nil | exact PV.Le.nil _ | exact PV.Le.acc _ _ _ | apply LeL.cons | apply PV.Le.agg | apply PV.Le.tup)), rfl⟩, ⟨⟨rfl, by (repeat' (first | exact PV.Le.refl _ | exact LeL.nil | exact PV.Le.nil _ | exact PV.Le.acc _ _ _ | apply LeL.cons | apply PV.Le.agg | apply PV.Le.tup)), rfl⟩, trivial⟩⟩ (by first | rfl | simp)) (keeps_rows hC (Nat.le_of_ble_eq_true rfl)) ⟨⟨_, rfl, .refl _, rfl⟩, ⟨⟨_, rfl, .refl _, rfl⟩, ⟨⟨_, rfl, by (repeat' (first | exact PV.Le.refl _ | exact LeL.nil | exact PV.Le.nil _ | exact PV.Le.acc _ _ _ | apply LeL.cons | apply PV.Le.agg | apply PV.Le.tup)), rfl⟩, ⟨⟨_, rfl, .refl _, rfl⟩, ⟨⟨_, rfl, .refl _, rfl⟩, ⟨⟨_, rfl, .refl _, rfl⟩, ⟨⟨_, rfl, .refl _, rfl⟩, ⟨⟨_, rfl, .refl _, rfl⟩, ⟨⟨_, rfl, by (repeat' (first | exact PV.Le.refl _ | exact LeL.nil | exact PV.Le.nil _ | exact PV.Le.acc _ _ _ | apply LeL.cons | apply PV.Le.agg | apply PV.Le.tup)), rfl⟩, trivial⟩⟩⟩⟩⟩⟩⟩⟩⟩
  rintro ⟨i, o⟩ hJ2
  obtain ⟨hi1, hi2, hi3, hi4⟩ := hJ2
  refine AWP.seq ?_
  refine AWP.seq ?_
  refine AWP.region_lit ?_
  refine AL.cons rfl (AOp.move (.inl rfl) rfl rfl) ?_
  refine AL.cons rfl (AOp.fieldPtr (k := 1) (d := 0) (e := 1) rfl rfl rfl fo94_1) ?_
  refine AL.cons rfl (AOp.loadPtr1 rfl rfl rfl rfl sh54 rfl) ?_
  refine AL.fact (lk_lenN 20 rfl rfl (strTrs_len _)) (fun hl3 => ?_)
  refine AL.cons rfl (AOp.lenN rfl rfl rfl rfl el54 (strTrs_len _)) ?_
  refine AL.cons rfl (AOp.lss rfl rfl rfl rfl) ?_
  refine AL.nil ?_
  refine AWP.cond rfl (fun h4 => ?_) (fun h4 => ?_)
  · skip
    have h4b := h4
    try simp only [Bool.and_eq_true, Bool.or_eq_true, Bool.and_eq_false_iff, Bool.or_eq_false_iff, decide_eq_true_eq, decide_eq_false_iff_not, Bool.not_eq_true', Bool.not_eq_false', Bool.not_eq_eq_eq_not, Bool.not_true, Bool.not_false, ge_iff_le, gt_iff_lt, Int.not_lt, Int.not_le] at h4b
    have h4n : i < ((oTrait (w.traitAt name)).gSupertraits).length := by omega
    refine AWP.skip ?_
    refine AWP.seq ?_
    refine AWP.block ?_
    refine AWP.seq ?_
    refine AWP.region_lit ?_
    refine AL.cons rfl (AOp.move (.inl rfl) rfl rfl) ?_
    refine AL.cons rfl (AOp.fieldPtr (k := 1) (d := 0) (e := 1) rfl rfl rfl fo94_1) ?_
    refine AL.cons rfl (AOp.loadPtr1 rfl rfl rfl rfl sh54 rfl) ?_
    refine AL.cons rfl (AOp.move (.inl rfl) rfl rfl) ?_
    refine AL.cons rfl (AOp.index (k := i) rfl rfl rfl rfl rfl (strTrs_cs h4n) el54) ?_
    refine AL.cons rfl (AOp.loadEptr1 (d := .leaf (.string (((oTrait (w.traitAt name)).gSupertraits)[i]))) rfl rfl rfl sh9 rfl) ?_
    refine AL.cons rfl (AOp.callF (ps := [_, _]) rfl rfl Tryz.func150 (by kernel_rfl) rfl rfl (by (repeat' (first | exact PV.Le.refl _ | exact LeL.nil | exact PV.Le.nil _ | exact PV.Le.acc _ _ _ | apply LeL.cons | apply PV.Le.agg | apply PV.Le.tup))) rfl rfl (has_spec o (((oTrait (w.traitAt name)).gSupertraits)[i]))) ?_
    refine AL.cons rfl (AOp.notB rfl rfl rfl) ?_
    refine AL.nil ?_
    refine AWP.cond rfl (fun h5 => ?_) (fun h5 => ?_)
    · skip
      have h5b := h5
      try simp only [Bool.and_eq_true, Bool.or_eq_true, Bool.and_eq_false_iff, Bool.or_eq_false_iff, decide_eq_true_eq, decide_eq_false_iff_not, Bool.not_eq_true', Bool.not_eq_false', Bool.not_eq_eq_eq_not, Bool.not_true, Bool.not_false, ge_iff_le, gt_iff_lt, Int.not_lt, Int.not_le] at h5b
      refine AWP.drawnL ⟨_, _, fun j' _ => ([(⟨[some ⟨31, [.t (.row 6 (GPackage.trs (w.gPackages)))]⟩, some ⟨94, [.t (.leaf (.string ((oTrait (w.traitAt name)).gName))), .t (.row 1 (strTrs ((oTrait (w.traitAt name)).gSupertraits))), .t (.leaf (.bool ((oTrait (w.traitAt name)).gAuto))), .t (.leaf (.bool ((oTrait (w.traitAt name)).gAssoc))), .t (.row 16 (GSignature.trs ((oTrait (w.traitAt name)).gSignatures)))]⟩], [⟨9, 1, strTrs (o), false⟩]⟩ : Sto), (⟨[some ⟨31, [.t (.row 6 (GPackage.trs (w.gPackages)))]⟩, some ⟨94, [.t (.leaf (.string ((oTrait (w.traitAt name)).gName))), .t (.row 1 (strTrs ((oTrait (w.traitAt name)).gSupertraits))), .t (.leaf (.bool ((oTrait (w.traitAt name)).gAuto))), .t (.leaf (.bool ((oTrait (w.traitAt name)).gAssoc))), .t (.row 16 (GSignature.trs ((oTrait (w.traitAt name)).gSignatures)))]⟩], [⟨9, 1, strTrs (o ++ [(((oTrait (w.traitAt name)).gSupertraits)[i])]), false⟩]⟩ : Sto), (⟨[some ⟨31, [.t (.row 6 (GPackage.trs (w.gPackages)))]⟩, some ⟨94, [.t (.leaf (.string ((oTrait (w.traitAt name)).gName))), .t (.row 1 (strTrs ((oTrait (w.traitAt name)).gSupertraits))), .t (.leaf (.bool ((oTrait (w.traitAt name)).gAuto))), .t (.leaf (.bool ((oTrait (w.traitAt name)).gAssoc))), .t (.row 16 (GSignature.trs ((oTrait (w.traitAt name)).gSignatures)))]⟩], [⟨9, 1, strTrs (supF w n (((oTrait (w.traitAt name)).gSupertraits)[i]) (o ++ [(((oTrait (w.traitAt name)).gSupertraits)[i])])), false⟩]⟩ : Sto)] : List Sto).getD j' (⟨[some ⟨31, [.t (.row 6 (GPackage.trs (w.gPackages)))]⟩, some ⟨94, [.t (.leaf (.string ((oTrait (w.traitAt name)).gName))), .t (.row 1 (strTrs ((oTrait (w.traitAt name)).gSupertraits))), .t (.leaf (.bool ((oTrait (w.traitAt name)).gAuto))), .t (.leaf (.bool ((oTrait (w.traitAt name)).gAssoc))), .t (.row 16 (GSignature.trs ((oTrait (w.traitAt name)).gSignatures)))]⟩], [⟨9, 1, strTrs (supF w n (((oTrait (w.traitAt name)).gSupertraits)[i]) (o ++ [(((oTrait (w.traitAt name)).gSupertraits)[i])])), false⟩]⟩ : Sto), fun q' => ([some ((GProgram.pv w)), some (.ptr 1 1), some (.t (.row 1 (strTrs ((oTrait (w.traitAt name)).gSupertraits)))), some (.t (.leaf (.int .i64 (((i : Nat) : Int))))), some (.eptr ([.leaf (.string (((oTrait (w.traitAt name)).gSupertraits)[i]))])), some (.t (.leaf (.string (((oTrait (w.traitAt name)).gSupertraits)[i])))), some (.acc 1 (strTrs (o)) 0), some (.ptr 1 1), some (.t (.row 1 (strTrs ((oTrait (w.traitAt name)).gSupertraits)))), some (.t (.leaf (.int .i64 (((i : Nat) : Int))))), some (.eptr ([.leaf (.string (((oTrait (w.traitAt name)).gSupertraits)[i]))])), some (.t (.leaf (.string (((oTrait (w.traitAt name)).gSupertraits)[i])))), some (.t (.row 1 (strTrs ([(((oTrait (w.traitAt name)).gSupertraits)[i])])))), some (.acc 1 (strTrs (o ++ [(((oTrait (w.traitAt name)).gSupertraits)[i])])) 0), some (.acc 1 (strTrs (supF w n (((oTrait (w.traitAt name)).gSupertraits)[i]) (o ++ [(((oTrait (w.traitAt name)).gSupertraits)[i])]))) 0), some (.acc 1 (strTrs (supF w n (((oTrait (w.traitAt name)).gSupertraits)[i]) (o ++ [(((oTrait (w.traitAt name)).gSupertraits)[i])]))) 0)] : List (Option PV)).getD q' none, fun q' => ([.q 0 1, .q 0 1, .q 0 1, .q 0 1, .q 0 1, .q 0 1, .q 0 0, .q 0 0, .q 0 0, .q 0 0, .q 0 0, .q 0 0, .q 0 0, .ef 0, .ef 1, .q 2 2] : List DK).getD q' (.q 0 0), [13, 14], none, fun q' => ([[(3, none)], [(7, none)], [(34, some 1)], [(10, none)], [(35, some 2), (36, some 3)], [(37, some 4)], [(2, none)], [(7, none)], [(40, some 7)], [(10, none)], [(41, some 8), (42, some 9)], [(43, some 10)], [(44, some 11)], [(39, some 6), (45, some 12)], [(46, some 13), (38, some 5), (33, some 0)], [(47, some 14)]] : List (List (Nat × Option Nat))).getD q' []⟩ rfl mixed (by kernel_rfl) rfl rfl ⟨?_, ?_, ?_, ?_, ?_, ?_, ?_, ?_, ?_, ?_, ?_, ?_, ?_, ?_, ?_, ?_, trivial⟩ rfl ?_
      · refine .inl ⟨rfl, fun s' jj bb (h1 : 0 ≤ jj) (h2 : jj ≤ 1) hs hl => ?_⟩
        rcases (by omega : jj = 0 ∨ jj = 1) with rfl | rfl <;> exact ⟨_, rfl, AOp.loadPtr (cs := [.t (.row 6 (GPackage.trs (w.gPackages)))]) rfl rfl (hl 3 none _ (.head _) rfl) (by rw [hs]; rfl) sh31 rfl rfl⟩
      · refine .inl ⟨rfl, fun s' jj bb (h1 : 0 ≤ jj) (h2 : jj ≤ 1) hs hl => ?_⟩
        rcases (by omega : jj = 0 ∨ jj = 1) with rfl | rfl <;> exact ⟨_, rfl, AOp.fieldPtr (k := 1) (d := 0) (e := 1) rfl rfl (hl 7 none _ (.head _) rfl) fo94_1⟩
      · refine .inl ⟨rfl, fun s' jj bb (h1 : 0 ≤ jj) (h2 : jj ≤ 1) hs hl => ?_⟩
        rcases (by omega : jj = 0 ∨ jj = 1) with rfl | rfl <;> exact ⟨_, rfl, AOp.loadPtr1 rfl rfl (hl 34 (some 1) _ (.head _) rfl) (by rw [hs]; rfl) sh54 rfl⟩
      · refine .inl ⟨rfl, fun s' jj bb (h1 : 0 ≤ jj) (h2 : jj ≤ 1) hs hl => ?_⟩
        rcases (by omega : jj = 0 ∨ jj = 1) with rfl | rfl <;> exact ⟨_, rfl, AOp.move (.inl rfl) rfl (hl 10 none _ (.head _) rfl)⟩
      · refine .inl ⟨rfl, fun s' jj bb (h1 : 0 ≤ jj) (h2 : jj ≤ 1) hs hl => ?_⟩
        rcases (by omega : jj = 0 ∨ jj = 1) with rfl | rfl <;> exact ⟨_, rfl, AOp.index (k := i) rfl rfl (hl 35 (some 2) _ (.head _) rfl) rfl (hl 36 (some 3) _ (.tail _ (.head _)) rfl) (strTrs_cs h4n) el54⟩
      · refine .inl ⟨rfl, fun s' jj bb (h1 : 0 ≤ jj) (h2 : jj ≤ 1) hs hl => ?_⟩
        rcases (by omega : jj = 0 ∨ jj = 1) with rfl | rfl <;> exact ⟨_, rfl, AOp.loadEptr1 (d := .leaf (.string (((oTrait (w.traitAt name)).gSupertraits)[i]))) rfl rfl (hl 37 (some 4) _ (.head _) rfl) sh9 rfl⟩
      · refine .inl ⟨rfl, fun s' jj bb (h1 : 0 ≤ jj) (h2 : jj ≤ 0) hs hl => ?_⟩
        obtain rfl : jj = 0 := by omega
        exact ⟨_, rfl, AOp.move (.inl rfl) rfl (hl 2 none _ (.head _) rfl)⟩
      · refine .inl ⟨rfl, fun s' jj bb (h1 : 0 ≤ jj) (h2 : jj ≤ 0) hs hl => ?_⟩
        obtain rfl : jj = 0 := by omega
        exact ⟨_, rfl, AOp.fieldPtr (k := 1) (d := 0) (e := 1) rfl rfl (hl 7 none _ (.head _) rfl) fo94_1⟩
      · refine .inl ⟨rfl, fun s' jj bb (h1 : 0 ≤ jj) (h2 : jj ≤ 0) hs hl => ?_⟩
        obtain rfl : jj = 0 := by omega
        exact ⟨_, rfl, AOp.loadPtr1 rfl rfl (hl 40 (some 7) _ (.head _) rfl) (by rw [hs]; rfl) sh54 rfl⟩
      · refine .inl ⟨rfl, fun s' jj bb (h1 : 0 ≤ jj) (h2 : jj ≤ 0) hs hl => ?_⟩
        obtain rfl : jj = 0 := by omega
        exact ⟨_, rfl, AOp.move (.inl rfl) rfl (hl 10 none _ (.head _) rfl)⟩
      · refine .inl ⟨rfl, fun s' jj bb (h1 : 0 ≤ jj) (h2 : jj ≤ 0) hs hl => ?_⟩
        obtain rfl : jj = 0 := by omega
        exact ⟨_, rfl, AOp.index (k := i) rfl rfl (hl 41 (some 8) _ (.head _) rfl) rfl (hl 42 (some 9) _ (.tail _ (.head _)) rfl) (strTrs_cs h4n) el54⟩
      · refine .inl ⟨rfl, fun s' jj bb (h1 : 0 ≤ jj) (h2 : jj ≤ 0) hs hl => ?_⟩
        obtain rfl : jj = 0 := by omega
        exact ⟨_, rfl, AOp.loadEptr1 (d := .leaf (.string (((oTrait (w.traitAt name)).gSupertraits)[i]))) rfl rfl (hl 43 (some 10) _ (.head _) rfl) sh9 rfl⟩
      · refine .inl ⟨rfl, fun s' jj bb (h1 : 0 ≤ jj) (h2 : jj ≤ 0) hs hl => ?_⟩
        obtain rfl : jj = 0 := by omega
        exact ⟨_, rfl, AOp.buildSliceQ (es := strTrs ([(((oTrait (w.traitAt name)).gSupertraits)[i])])) (cs := [.t (.leaf (.string (((oTrait (w.traitAt name)).gSupertraits)[i])))]) rfl rfl el54 zr9 (parts_cons (hl 44 (some 11) _ (.head _) rfl) rfl rfl rfl) rfl (by (repeat' (first | exact PV.Le.refl _ | exact LeL.nil | exact PV.Le.nil _ | exact PV.Le.acc _ _ _ | apply LeL.cons | apply PV.Le.agg | apply PV.Le.tup))) rfl (by simp [strTrs]) (by decide) rfl (by decide)⟩
      · refine .inl ⟨rfl, fun s' bb hs hl => ?_⟩
        refine .inl ⟨_, rfl, AOp.congr (AOp.appendE (es3 := strTrs (o ++ [(((oTrait (w.traitAt name)).gSupertraits)[i])])) rfl rfl (hl 39 (some 6) _ (.head _) rfl) (by rw [hs]; rfl) rfl rfl rfl (hl 45 (some 12) _ (.tail _ (.head _)) rfl) rfl (strTrs_all _) el54 ze54 (by decide) (by rw [strTrs_len, strTrs_len]; simp; omega) (strTrs_append _ _)) ?_⟩
        first | (rw [hs]; rfl) | rfl
      · refine .inl ⟨rfl, fun s' bb hs hl => ?_⟩
        refine .inl ⟨_, rfl, AOp.congr (AOp.callPE (pre := ⟨[], [⟨9, 1, strTrs (o ++ [(((oTrait (w.traitAt name)).gSupertraits)[i])]), false⟩]⟩) (st' := ⟨[], [⟨9, 1, strTrs (supF w n (((oTrait (w.traitAt name)).gSupertraits)[i]) (o ++ [(((oTrait (w.traitAt name)).gSupertraits)[i])])), false⟩]⟩) (ps := [_, _, _]) (qs := [(GProgram.pv w), .t (.leaf (.string (((oTrait (w.traitAt name)).gSupertraits)[i]))), .acc 1 (strTrs (o ++ [(((oTrait (w.traitAt name)).gSupertraits)[i])])) 0]) [] [0] rfl rfl Tryz.func91 (by kernel_rfl) rfl (evs_cons (hl 33 (some 0) _ (.tail _ (.tail _ (.head _))) rfl) (evs_cons (hl 38 (some 5) _ (.tail _ (.head _)) rfl) (evs_cons (hl 46 (some 13) _ (.head _) rfl) rfl))) hs (by (try rw [hs]); exact ⟨rfl, rfl, by decide, by decide, fun k h => absurd h (Nat.not_lt_zero _), fun k x h => by simp at h, fun r row h => by rcases r with _ | r <;> simp at h; subst h; rfl⟩) (by (repeat' (first | exact PV.Le.refl _ | exact LeL.nil | exact PV.Le.nil _ | exact PV.Le.acc _ _ _ | apply LeL.cons | apply PV.Le.agg | apply PV.Le.tup))) rfl rfl rfl (ih _ _ (by have := sup_step (w := w) (name := name) (o := o) (List.getElem_mem (show i < (oTrait (w.traitAt name)).gSupertraits.length by omega)) (by assumption); omega) (by have := sup_step (w := w) (name := name) (o := o) (List.getElem_mem (show i < (oTrait (w.traitAt name)).gSupertraits.length by omega)) (by assumption); have h4 : (o ++ [((oTrait (w.traitAt name)).gSupertraits)[i]]).length = o.length + 1 := (by simp); omega))) ?_⟩
        first | (rw [hs]; rfl) | rfl
      · refine .inl ⟨rfl, fun s' jj bb (h1 : 2 ≤ jj) (h2 : jj ≤ 2) hs hl => ?_⟩
        obtain rfl : jj = 2 := by omega
        exact ⟨_, rfl, AOp.move (.inr rfl) rfl (hl 47 (some 14) _ (.head _) rfl)⟩
      refine AWP.region_lit ?_
      refine AL.cons rfl (AOp.move (.inl rfl) rfl rfl) ?_
      refine AL.cons rfl (AOp.addI rfl rfl rfl rfl (c := ((i + 1 : Nat) : Int)) (by omega) (by omega)) ?_
      refine AL.cons rfl (AOp.move (.inr rfl) rfl rfl) ?_
      refine AL.nil ?_
      refine ⟨(i + 1, supF w n (((oTrait (w.traitAt name)).gSupertraits)[i]) (o ++ [(((oTrait (w.traitAt name)).gSupertraits)[i])])), ?_, ?_, ?_⟩
      · first | exact supJ_has (by omega) hi2 hi3 hi4 (by assumption) | exact supJ_new (by omega) hi2 hi3 hi4 (by assumption) rfl
      · skip
        exact Wk.mk (StLe.mk' ⟨⟨rfl, by (repeat' (first | exact PV.Le.refl _ | exact LeL.nil | exact PV.Le.nil _ | exact PV.Le.acc _ _ _ | apply LeL.cons | apply PV.Le.agg | apply PV.Le.tup)), rfl⟩, ⟨⟨rfl, by (repeat' (first | exact PV.Le.refl _ | exact LeL.nil | exact PV.Le.nil _ | exact PV.Le.acc _ _ _ | apply LeL.cons | apply PV.Le.agg | apply PV.Le.tup)), rfl⟩, trivial⟩⟩ (by first | rfl | simp)) (keeps_rows hC (Nat.le_of_ble_eq_true rfl)) ⟨⟨_, rfl, .refl _, rfl⟩, ⟨⟨_, rfl, .refl _, rfl⟩, ⟨⟨_, rfl, by (repeat' (first | exact PV.Le.refl _ | exact LeL.nil | exact PV.Le.nil _ | exact PV.Le.acc _ _ _ | apply LeL.cons | apply PV.Le.agg | apply PV.Le.tup)), rfl⟩, ⟨⟨_, rfl, .refl _, rfl⟩, ⟨⟨_, rfl, .refl _, rfl⟩, ⟨⟨_, rfl, .refl _, rfl⟩, ⟨⟨_, rfl, .refl _, rfl⟩, ⟨⟨_, rfl, .refl _, rfl⟩, ⟨⟨_, rfl, by (repeat' (first | exact PV.Le.refl _ | exact LeL.nil | exact PV.Le.nil _ | exact PV.Le.acc _ _ _ | apply LeL.cons | apply PV.Le.agg | apply PV.Le.tup)), rfl⟩, trivial⟩⟩⟩⟩⟩⟩⟩⟩⟩
      · dsimp only; omega
    · skip
      have h5b := h5
      try simp only [Bool.and_eq_true, Bool.or_eq_true, Bool.and_eq_false_iff, Bool.or_eq_false_iff, decide_eq_true_eq, decide_eq_false_iff_not, Bool.not_eq_true', Bool.not_eq_false', Bool.not_eq_eq_eq_not, Bool.not_true, Bool.not_false, ge_iff_le, gt_iff_lt, Int.not_lt, Int.not_le] at h5b
      refine AWP.skip ?_
      refine AWP.region_lit ?_
      refine AL.cons rfl (AOp.move (.inl rfl) rfl rfl) ?_
      refine AL.cons rfl (AOp.addI rfl rfl rfl rfl (c := ((i + 1 : Nat) : Int)) (by omega) (by omega)) ?_
      refine AL.cons rfl (AOp.move (.inr rfl) rfl rfl) ?_
      refine AL.nil ?_
      refine ⟨(i + 1, o), ?_, ?_, ?_⟩
      · first | exact supJ_has (by omega) hi2 hi3 hi4 (by assumption) | exact supJ_new (by omega) hi2 hi3 hi4 (by assumption) rfl
      · skip
        exact Wk.mk (StLe.mk' ⟨⟨rfl, by (repeat' (first | exact PV.Le.refl _ | exact LeL.nil | exact PV.Le.nil _ | exact PV.Le.acc _ _ _ | apply LeL.cons | apply PV.Le.agg | apply PV.Le.tup)), rfl⟩, ⟨⟨rfl, by (repeat' (first | exact PV.Le.refl _ | exact LeL.nil | exact PV.Le.nil _ | exact PV.Le.acc _ _ _ | apply LeL.cons | apply PV.Le.agg | apply PV.Le.tup)), rfl⟩, trivial⟩⟩ (by first | rfl | simp)) (keeps_rows hC (Nat.le_of_ble_eq_true rfl)) ⟨⟨_, rfl, .refl _, rfl⟩, ⟨⟨_, rfl, .refl _, rfl⟩, ⟨⟨_, rfl, .refl _, rfl⟩, ⟨⟨_, rfl, .refl _, rfl⟩, ⟨⟨_, rfl, .refl _, rfl⟩, ⟨⟨_, rfl, .refl _, rfl⟩, ⟨⟨_, rfl, .refl _, rfl⟩, ⟨⟨_, rfl, .refl _, rfl⟩, ⟨⟨_, rfl, by (repeat' (first | exact PV.Le.refl _ | exact LeL.nil | exact PV.Le.nil _ | exact PV.Le.acc _ _ _ | apply LeL.cons | apply PV.Le.agg | apply PV.Le.tup)), rfl⟩, trivial⟩⟩⟩⟩⟩⟩⟩⟩⟩
      · dsimp only; omega
  · skip
    have h4b := h4
    try simp only [Bool.and_eq_true, Bool.or_eq_true, Bool.and_eq_false_iff, Bool.or_eq_false_iff, decide_eq_true_eq, decide_eq_false_iff_not, Bool.not_eq_true', Bool.not_eq_false', Bool.not_eq_eq_eq_not, Bool.not_true, Bool.not_false, ge_iff_le, gt_iff_lt, Int.not_lt, Int.not_le] at h4b
    have h4n : i ≥ ((oTrait (w.traitAt name)).gSupertraits).length := by omega
    refine AWP.exit ?_
    refine AWP.seq ?_
    refine AWP.region_lit ?_
    refine AL.cons rfl (AOp.move (.inl rfl) rfl rfl) ?_
    refine AL.cons rfl (AOp.move (.inr rfl) rfl rfl) ?_
    refine AL.nil ?_
    refine AWP.ret ?_
    obtain rfl := fold_end (by omega) hi2
    exact Ends.mk (ps := [_]) (.inr rfl) ⟨rfl, trivial⟩ rfl (StLe.mk' (st' := ⟨[], [⟨9, 1, strTrs (supF w (n + 1) name out), false⟩]⟩) trivial rfl) (keeps_rows hC (Nat.le_of_ble_eq_true rfl)) (q := .acc 1 (strTrs (supF w (n + 1) name out)) 0) (.refl _) rfl ⟨rfl, rfl⟩

set_option maxRecDepth 100000 in
set_option maxHeartbeats 4000000 in
theorem allSup_impl (w : GProgram) (name : ByteArray) (hb : w.allSup.length ≤ 1099511627776) : AFun Tryz.prog 28 [(GProgram.pv w), .t (.leaf (.string (name)))] (.t (.row 1 (strTrs (GProgram.supers w name)))) := by
  refine ACalls.intro Tryz.func28 rfl (by first | decide | (simp; done) | (simp; decide)) ?_
  intro C hC
  refine AWP.seq ?_
  refine AWP.region_lit ?_
  refine AL.cons rfl (AOp.box (cs := [.t (.row 6 (GPackage.trs (w.gPackages)))]) rfl rfl rfl rfl rfl) ?_
  refine AL.cons rfl (AOp.move (.inr rfl) rfl rfl) ?_
  refine AL.nil ?_
  refine AWP.seq ?_
  refine AWP.region_lit ?_
  refine AL.cons rfl (AOp.loadPtr (cs := [.t (.row 6 (GPackage.trs (w.gPackages)))]) rfl rfl rfl rfl sh31 rfl rfl) ?_
  refine AL.cons rfl (AOp.move (.inl rfl) rfl rfl) ?_
  refine AL.cons rfl (AOp.callF (ps := [_, _, _]) rfl rfl Tryz.func92 (by kernel_rfl) rfl rfl (by (repeat' (first | exact PV.Le.refl _ | exact LeL.nil | exact PV.Le.nil _ | exact PV.Le.acc _ _ _ | apply LeL.cons | apply PV.Le.agg | apply PV.Le.tup))) rfl rfl (supersNil_impl w name (by assumption))) ?_
  refine AL.cons rfl (AOp.move (.inr rfl) rfl rfl) ?_
  refine AL.nil ?_
  refine AWP.ret ?_
  exact Ends.mk (ps := [_]) (.inr rfl) ⟨rfl, trivial⟩ rfl (StLe.mk' (st' := ⟨[], []⟩) trivial rfl) (keeps_nil hC) (q := (.t (.row 1 (strTrs (GProgram.supers w name))) : PV)) (by (repeat' (first | exact PV.Le.refl _ | exact LeL.nil | exact PV.Le.nil _ | exact PV.Le.acc _ _ _ | apply LeL.cons | apply PV.Le.agg | apply PV.Le.tup))) rfl ⟨by rfl, rfl⟩

set_option maxRecDepth 100000 in
set_option maxHeartbeats 4000000 in
theorem allSup_spec (w : GProgram) (name : ByteArray) (hb : w.allSup.length ≤ 1099511627776) : AFun Tryz.prog 27 [(GProgram.pv w), .t (.leaf (.string (name)))] (.t (.row 1 (strTrs (GProgram.supers w name)))) := by
  refine ACalls.intro Tryz.func27 rfl (by first | decide | (simp; done) | (simp; decide)) ?_
  intro C hC
  refine AWP.seq ?_
  refine AWP.region_lit ?_
  refine AL.cons rfl (AOp.box (cs := [.t (.row 6 (GPackage.trs (w.gPackages)))]) rfl rfl rfl rfl rfl) ?_
  refine AL.cons rfl (AOp.move (.inr rfl) rfl rfl) ?_
  refine AL.nil ?_
  refine AWP.seq ?_
  refine AWP.region_lit ?_
  refine AL.cons rfl (AOp.loadPtr (cs := [.t (.row 6 (GPackage.trs (w.gPackages)))]) rfl rfl rfl rfl sh31 rfl rfl) ?_
  refine AL.cons rfl (AOp.move (.inl rfl) rfl rfl) ?_
  refine AL.cons rfl (AOp.buildSlice (es := strTrs ([])) (cs := []) rfl rfl el54 zr9 rfl rfl (by (repeat' (first | exact PV.Le.refl _ | exact LeL.nil | exact PV.Le.nil _ | exact PV.Le.acc _ _ _ | apply LeL.cons | apply PV.Le.agg | apply PV.Le.tup))) rfl (by simp [strTrs]) (by decide) rfl (by decide)) ?_
  refine AL.cons rfl (AOp.callPE (pre := ⟨[], [⟨9, 1, strTrs ([]), false⟩]⟩) (st' := ⟨[], [⟨9, 1, strTrs (GProgram.supers w name), false⟩]⟩) (ps := [_, _, _]) (qs := [(GProgram.pv w), .t (.leaf (.string (name))), .acc 1 (strTrs ([])) 0]) [] [0] rfl rfl Tryz.func91 (by kernel_rfl) rfl rfl rfl (by (try rw [hs]); exact ⟨rfl, rfl, by decide, by decide, fun k h => absurd h (Nat.not_lt_zero _), fun k x h => by simp at h, fun r row h => by rcases r with _ | r <;> simp at h; subst h; rfl⟩) (by (repeat' (first | exact PV.Le.refl _ | exact LeL.nil | exact PV.Le.nil _ | exact PV.Le.acc _ _ _ | apply LeL.cons | apply PV.Le.agg | apply PV.Le.tup))) rfl rfl rfl (supers_spec w (supM w [] + 1) name [] (Nat.lt_succ_self _) (supM_le (by assumption)))) ?_
  refine AL.cons rfl (AOp.move (.inr rfl) rfl rfl) ?_
  refine AL.nil ?_
  refine AWP.ret ?_
  exact Ends.mk (ps := [_]) (.inr rfl) ⟨rfl, trivial⟩ rfl (StLe.mk' (st' := ⟨[], []⟩) trivial rfl) (keeps_nil hC) (q := (.t (.row 1 (strTrs (GProgram.supers w name))) : PV)) (by (repeat' (first | exact PV.Le.refl _ | exact LeL.nil | exact PV.Le.nil _ | exact PV.Le.acc _ _ _ | apply LeL.cons | apply PV.Le.agg | apply PV.Le.tup))) rfl ⟨by rfl, rfl⟩

end Go.Proofs.YtnakkelglbcecaaGreat

namespace Go.Proofs.YtnakkelglbcecaaGreat
open Go.RowKit Go.Proofs
set_option linter.unusedSimpArgs false
set_option linter.unusedVariables false


theorem eqS_miss {a b : List ByteArray} {i : Nat} (h : i < a.length) (hl : a.length = b.length) (hn : ¬ a[i] = b[i]) : decide (a = b) = false := by
  rw [decide_eq_false_iff_not]
  rintro rfl
  exact hn rfl
theorem eqS_hit {a b : List ByteArray} (hl : a.length = b.length) (h : ∀ (j : Nat) (h1 : j < a.length), a[j] = b[j]) : decide (a = b) = true := by
  rw [decide_eq_true_eq]
  exact List.ext_getElem hl fun i h1 _ => h i h1
theorem eqS_next {a b : List ByteArray} {i : Nat} (hl : a.length = b.length) (h : ∀ (j : Nat) (h1 : j < a.length), j < i → a[j] = b[j]) (h1 : i < a.length) (he : a[i] = b[i]) : ∀ (j : Nat) (h1 : j < a.length), j < i + 1 → a[j] = b[j] := fun j hj hi => by
  rcases Nat.lt_or_ge j i with h2 | h2
  · exact h j hj h2
  · have : j = i := by omega
    subst this
    exact he
/-- The way from one trait to another along supertraits: the first one found, depth first, of at most n steps. -/
def pathF (w : GProgram) : Nat → ByteArray → ByteArray → Option (List Int)
  | 0, s, d => if s = d then some [] else none
  | n + 1, s, d => if s = d then some [] else pathL (pathF w n) d 0 (oTrait (w.traitAt s)).gSupertraits
where
  pathL (f : ByteArray → ByteArray → Option (List Int)) (d : ByteArray) : Nat → List ByteArray → Option (List Int)
  | _, [] => none
  | i, x :: l => match f x d with
    | some r => some ((i : Int) :: r)
    | none => pathL f d (i + 1) l
def oPath (o : Option (List Int)) : List Int := o.getD []
theorem pathL_next {f : ByteArray → ByteArray → Option (List Int)} {d : ByteArray} {l : List ByteArray} {i : Nat} {r : Option (List Int)} (h : i < l.length) (hr : r = pathF.pathL f d i (l.drop i)) (hn : (f l[i] d).isSome = false) : r = pathF.pathL f d (i + 1) (l.drop (i + 1)) := by
  rw [hr, List.drop_eq_getElem_cons h, pathF.pathL]
  cases hq : f l[i] d with
  | none => rfl
  | some x => rw [hq] at hn; cases hn
theorem pathL_hit {f : ByteArray → ByteArray → Option (List Int)} {d : ByteArray} {l : List ByteArray} {i : Nat} {r : Option (List Int)} (h : i < l.length) (hr : r = pathF.pathL f d i (l.drop i)) (hn : (f l[i] d).isSome = true) : r = some ([(i : Int)] ++ oPath (f l[i] d)) := by
  rw [hr, List.drop_eq_getElem_cons h, pathF.pathL]
  cases hq : f l[i] d with
  | none => rw [hq] at hn; cases hn
  | some x => rfl
theorem pathL_end {f : ByteArray → ByteArray → Option (List Int)} {d : ByteArray} {l : List ByteArray} {i : Nat} {r : Option (List Int)} (h : l.length ≤ i) (hr : r = pathF.pathL f d i (l.drop i)) : r = none := by
  rw [hr, List.drop_of_length_le h, pathF.pathL]
theorem pathF_len (w : GProgram) : ∀ (n : Nat) (s d : ByteArray), (oPath (pathF w n s d)).length ≤ n
  | 0, s, d => by rw [pathF]; split <;> simp [oPath]
  | n + 1, s, d => by
    rw [pathF]
    split
    · simp [oPath]
    · have key : ∀ (l : List ByteArray) (i : Nat), (oPath (pathF.pathL (pathF w n) d i l)).length ≤ n + 1 := by
        intro l
        induction l with
        | nil => intro i; simp [pathF.pathL, oPath]
        | cons x l ih =>
          intro i
          rw [pathF.pathL]
          have h := pathF_len w n x d
          cases hq : pathF w n x d with
          | none => exact ih (i + 1)
          | some r =>
            rw [hq] at h
            simp only [oPath, Option.getD_some, List.length_cons] at h ⊢
            omega
      exact key _ _
def pathV (o : Option (List Int)) : PV := .tup [.t (.row 1 (intTrs (oPath o))), .t (.leaf (.bool o.isSome))]

set_option maxRecDepth 100000 in
set_option maxHeartbeats 4000000 in
theorem pathTo_ok (w : GProgram) : ∀ (n : Nat) (s d : ByteArray), n ≤ 1000 → AFun Tryz.prog 96 [(GProgram.pv w), .t (.leaf (.string s)), .t (.leaf (.string d)), .t (.leaf (.int .i64 ((n : Nat) : Int)))] (pathV (pathF w n s d)) := by
  intro n
  induction n with
  | zero =>
  intro s d hn
  refine ACalls.intro Tryz.func96 rfl (by first | decide | (simp; done) | (simp; decide)) ?_
  intro C hC
  refine AWP.seq ?_
  refine AWP.region_lit ?_
  refine AL.cons rfl (AOp.box (cs := [.t (.row 6 (GPackage.trs (w.gPackages)))]) rfl rfl rfl rfl rfl) ?_
  refine AL.cons rfl (AOp.move (.inr rfl) rfl rfl) ?_
  refine AL.cons rfl (AOp.move (.inr rfl) rfl rfl) ?_
  refine AL.nil ?_
  refine AWP.seq ?_
  refine AWP.seq ?_
  refine AWP.region_lit ?_
  refine AL.cons rfl (AOp.move (.inl rfl) rfl rfl) ?_
  refine AL.cons rfl (AOp.move (.inl rfl) rfl rfl) ?_
  refine AL.cons rfl (AOp.eqlS rfl rfl rfl rfl) ?_
  refine AL.nil ?_
  refine AWP.cond rfl (fun h1 => ?_) (fun h1 => ?_)
  · skip
    have h1b := h1
    try simp only [Bool.and_eq_true, Bool.or_eq_true, Bool.and_eq_false_iff, Bool.or_eq_false_iff, decide_eq_true_eq, decide_eq_false_iff_not, Bool.not_eq_true', Bool.not_eq_false', Bool.not_eq_eq_eq_not, Bool.not_true, Bool.not_false, ge_iff_le, gt_iff_lt, Int.not_lt, Int.not_le] at h1b
    refine AWP.seq ?_
    refine AWP.region_lit ?_
    refine AL.cons rfl (AOp.buildSlice (es := intTrs ([])) (cs := []) rfl rfl el60 zr3 rfl rfl (by (repeat' (first | exact PV.Le.refl _ | exact LeL.nil | exact PV.Le.nil _ | exact PV.Le.acc _ _ _ | apply LeL.cons | apply PV.Le.agg | apply PV.Le.tup))) rfl (by simp [intTrs]) (by decide) rfl (by decide)) ?_
    refine AL.cons rfl (AOp.move (.inr rfl) rfl rfl) ?_
    refine AL.cons rfl (AOp.move (.inr rfl) rfl rfl) ?_
    refine AL.nil ?_
    refine AWP.ret ?_
    have hq : pathF w (0) s d = some [] := by rw [pathF, if_pos (by assumption)]
    exact Ends.mk (ps := [_, _]) (.inr rfl) ⟨rfl, rfl, trivial⟩ rfl (StLe.mk' (st' := ⟨[], []⟩) trivial rfl) (keeps_nil hC) (q := .tup [.t (.row 1 (intTrs [])), .t (.leaf (.bool true))]) (by (repeat' (first | exact PV.Le.refl _ | exact LeL.nil | exact PV.Le.nil _ | exact PV.Le.acc _ _ _ | apply LeL.cons | apply PV.Le.agg | apply PV.Le.tup))) rfl ⟨by rw [hq]; rfl, rfl⟩
  · skip
    have h1b := h1
    try simp only [Bool.and_eq_true, Bool.or_eq_true, Bool.and_eq_false_iff, Bool.or_eq_false_iff, decide_eq_true_eq, decide_eq_false_iff_not, Bool.not_eq_true', Bool.not_eq_false', Bool.not_eq_eq_eq_not, Bool.not_true, Bool.not_false, ge_iff_le, gt_iff_lt, Int.not_lt, Int.not_le] at h1b
    refine AWP.skip ?_
    refine AWP.seq ?_
    refine AWP.seq ?_
    refine AWP.region_lit ?_
    refine AL.cons rfl (AOp.move (.inl rfl) rfl rfl) ?_
    refine AL.cons rfl (AOp.eqlI rfl rfl rfl rfl) ?_
    refine AL.nil ?_
    refine AWP.cond rfl (fun h2 => ?_) (fun h2 => ?_)
    · skip
      have h2b := h2
      try simp only [Bool.and_eq_true, Bool.or_eq_true, Bool.and_eq_false_iff, Bool.or_eq_false_iff, decide_eq_true_eq, decide_eq_false_iff_not, Bool.not_eq_true', Bool.not_eq_false', Bool.not_eq_eq_eq_not, Bool.not_true, Bool.not_false, ge_iff_le, gt_iff_lt, Int.not_lt, Int.not_le] at h2b
      refine AWP.seq ?_
      refine AWP.region_lit ?_
      refine AL.cons rfl (AOp.move (.inr rfl) rfl rfl) ?_
      refine AL.cons rfl (AOp.move (.inr rfl) rfl rfl) ?_
      refine AL.nil ?_
      refine AWP.ret ?_
      have hq : pathF w (0) s d = none := by first | exact pathL_end (by omega) hi2 | (rw [pathF, if_neg (by assumption)])
      exact Ends.mk (ps := [_, _]) (.inr rfl) ⟨rfl, rfl, trivial⟩ rfl (StLe.mk' (st' := ⟨[], []⟩) trivial rfl) (keeps_nil hC) (q := .tup [.t (.row 1 (intTrs [])), .t (.leaf (.bool false))]) (by (repeat' (first | exact PV.Le.refl _ | exact LeL.nil | exact PV.Le.nil _ | exact PV.Le.acc _ _ _ | apply LeL.cons | apply PV.Le.agg | apply PV.Le.tup))) rfl ⟨by rw [hq]; rfl, rfl⟩
    · skip
      exact absurd (h2.symm.trans rfl) (by decide)
  | succ n ih =>
  intro s d hn
  refine ACalls.intro Tryz.func96 rfl (by first | decide | (simp; done) | (simp; decide)) ?_
  intro C hC
  have hsucc : decide ((((n + 1 : Nat) : Int) : Int) = 0) = false := by rw [decide_eq_false_iff_not]; omega
  refine AWP.seq ?_
  refine AWP.region_lit ?_
  refine AL.cons rfl (AOp.box (cs := [.t (.row 6 (GPackage.trs (w.gPackages)))]) rfl rfl rfl rfl rfl) ?_
  refine AL.cons rfl (AOp.move (.inr rfl) rfl rfl) ?_
  refine AL.cons rfl (AOp.move (.inr rfl) rfl rfl) ?_
  refine AL.nil ?_
  refine AWP.seq ?_
  refine AWP.seq ?_
  refine AWP.region_lit ?_
  refine AL.cons rfl (AOp.move (.inl rfl) rfl rfl) ?_
  refine AL.cons rfl (AOp.move (.inl rfl) rfl rfl) ?_
  refine AL.cons rfl (AOp.eqlS rfl rfl rfl rfl) ?_
  refine AL.nil ?_
  refine AWP.cond rfl (fun h1 => ?_) (fun h1 => ?_)
  · skip
    have h1b := h1
    try simp only [Bool.and_eq_true, Bool.or_eq_true, Bool.and_eq_false_iff, Bool.or_eq_false_iff, decide_eq_true_eq, decide_eq_false_iff_not, Bool.not_eq_true', Bool.not_eq_false', Bool.not_eq_eq_eq_not, Bool.not_true, Bool.not_false, ge_iff_le, gt_iff_lt, Int.not_lt, Int.not_le] at h1b
    refine AWP.seq ?_
    refine AWP.region_lit ?_
    refine AL.cons rfl (AOp.buildSlice (es := intTrs ([])) (cs := []) rfl rfl el60 zr3 rfl rfl (by (repeat' (first | exact PV.Le.refl _ | exact LeL.nil | exact PV.Le.nil _ | exact PV.Le.acc _ _ _ | apply LeL.cons | apply PV.Le.agg | apply PV.Le.tup))) rfl (by simp [intTrs]) (by decide) rfl (by decide)) ?_
    refine AL.cons rfl (AOp.move (.inr rfl) rfl rfl) ?_
    refine AL.cons rfl (AOp.move (.inr rfl) rfl rfl) ?_
    refine AL.nil ?_
    refine AWP.ret ?_
    have hq : pathF w (n + 1) s d = some [] := by rw [pathF, if_pos (by assumption)]
    exact Ends.mk (ps := [_, _]) (.inr rfl) ⟨rfl, rfl, trivial⟩ rfl (StLe.mk' (st' := ⟨[], []⟩) trivial rfl) (keeps_nil hC) (q := .tup [.t (.row 1 (intTrs [])), .t (.leaf (.bool true))]) (by (repeat' (first | exact PV.Le.refl _ | exact LeL.nil | exact PV.Le.nil _ | exact PV.Le.acc _ _ _ | apply LeL.cons | apply PV.Le.agg | apply PV.Le.tup))) rfl ⟨by rw [hq]; rfl, rfl⟩
  · skip
    have h1b := h1
    try simp only [Bool.and_eq_true, Bool.or_eq_true, Bool.and_eq_false_iff, Bool.or_eq_false_iff, decide_eq_true_eq, decide_eq_false_iff_not, Bool.not_eq_true', Bool.not_eq_false', Bool.not_eq_eq_eq_not, Bool.not_true, Bool.not_false, ge_iff_le, gt_iff_lt, Int.not_lt, Int.not_le] at h1b
    refine AWP.skip ?_
    refine AWP.seq ?_
    refine AWP.seq ?_
    refine AWP.region_lit ?_
    refine AL.cons rfl (AOp.move (.inl rfl) rfl rfl) ?_
    refine AL.cons rfl (AOp.eqlI rfl rfl rfl rfl) ?_
    refine AL.nil ?_
    refine AWP.cond rfl (fun h2 => ?_) (fun h2 => ?_)
    · skip
      exact absurd (h2.symm.trans hsucc) (by decide)
    · skip
      have h2b := h2
      try simp only [Bool.and_eq_true, Bool.or_eq_true, Bool.and_eq_false_iff, Bool.or_eq_false_iff, decide_eq_true_eq, decide_eq_false_iff_not, Bool.not_eq_true', Bool.not_eq_false', Bool.not_eq_eq_eq_not, Bool.not_true, Bool.not_false, ge_iff_le, gt_iff_lt, Int.not_lt, Int.not_le] at h2b
      refine AWP.skip ?_
      refine AWP.seq ?_
      refine AWP.region_lit ?_
      refine AL.cons rfl (AOp.loadPtr (cs := [.t (.row 6 (GPackage.trs (w.gPackages)))]) rfl rfl rfl rfl sh31 rfl rfl) ?_
      refine AL.cons rfl (AOp.move (.inl rfl) rfl rfl) ?_
      refine AL.cons rfl (AOp.callF (ps := [_, _]) rfl rfl Tryz.func82 (by kernel_rfl) rfl rfl (by (repeat' (first | exact PV.Le.refl _ | exact LeL.nil | exact PV.Le.nil _ | exact PV.Le.acc _ _ _ | apply LeL.cons | apply PV.Le.agg | apply PV.Le.tup))) rfl rfl (trait_impl w s)) ?_
      refine AL.cons rfl (AOp.move (.inl rfl) rfl rfl) ?_
      refine AL.cons rfl (AOp.extract rfl rfl rfl rfl) ?_
      refine AL.cons rfl (AOp.extract rfl rfl rfl rfl) ?_
      refine AL.cons rfl (AOp.extract rfl rfl rfl rfl) ?_
      refine AL.cons rfl (AOp.alloc rfl rfl zr94) ?_
      refine AL.cons rfl (AOp.storePtr (cs := [.t (.leaf (.string ((oTrait (w.traitAt s)).gName))), .t (.row 1 (strTrs ((oTrait (w.traitAt s)).gSupertraits))), .t (.leaf (.bool ((oTrait (w.traitAt s)).gAuto))), .t (.leaf (.bool ((oTrait (w.traitAt s)).gAssoc))), .t (.row 16 (GSignature.trs ((oTrait (w.traitAt s)).gSignatures)))]) (ds := [.t (.leaf (.string ((oTrait (w.traitAt s)).gName))), .t (.row 1 (strTrs ((oTrait (w.traitAt s)).gSupertraits))), .t (.leaf (.bool ((oTrait (w.traitAt s)).gAuto))), .t (.leaf (.bool ((oTrait (w.traitAt s)).gAssoc))), .t (.row 16 (GSignature.trs ((oTrait (w.traitAt s)).gSignatures)))]) rfl rfl rfl rfl rfl rfl rfl sz94 (Nat.le_of_ble_eq_true rfl) rfl) ?_
      refine AL.cons rfl (AOp.move (.inr rfl) rfl rfl) ?_
      refine AL.cons rfl (AOp.move (.inr rfl) rfl rfl) ?_
      refine AL.nil ?_
      refine AWP.seq ?_
      refine AWP.seq ?_
      refine AWP.region_lit ?_
      refine AL.cons rfl (AOp.fieldPtr (k := 1) (d := 0) (e := 1) rfl rfl rfl fo94_1) ?_
      refine AL.cons rfl (AOp.loadPtr1 rfl rfl rfl rfl sh54 rfl) ?_
      refine AL.fact (lk_lenN 31 rfl rfl (strTrs_len _)) (fun hl3 => ?_)
      refine AL.cons rfl (AOp.lenN rfl rfl rfl rfl el54 (strTrs_len _)) ?_
      refine AL.cons rfl (AOp.move (.inl rfl) rfl rfl) ?_
      refine AL.nil ?_
      refine AWP.block ?_
      refine AWP.loopJ (ι := Nat) (fun i => i ≤ (oTrait (w.traitAt s)).gSupertraits.length ∧ pathF w (n + 1) s d = pathF.pathL (pathF w n) d i ((oTrait (w.traitAt s)).gSupertraits.drop i)) (fun i => ⟨[(0, (GProgram.pv w)), (1, .t (.leaf (.string (s)))), (2, .t (.leaf (.string (d)))), (3, .t (.leaf (.int .i64 (((n + 1 : Nat) : Int))))), (4, .ptr 0 0), (10, .ptr 1 0), (11, .t (.leaf (.int .i64 (oInt (w.traitAt s))))), (12, .t (.leaf (.bool ((w.traitAt s).isSome)))), (31, .t (.row 1 (strTrs ((oTrait (w.traitAt s)).gSupertraits)))), (32, .t (.leaf (.int .i64 (((((oTrait (w.traitAt s)).gSupertraits).length : Nat) : Int))))), (33, .t (.leaf (.int .i64 (((i : Nat) : Int)))))], ⟨[some ⟨31, [.t (.row 6 (GPackage.trs (w.gPackages)))]⟩, some ⟨94, [.t (.leaf (.string ((oTrait (w.traitAt s)).gName))), .t (.row 1 (strTrs ((oTrait (w.traitAt s)).gSupertraits))), .t (.leaf (.bool ((oTrait (w.traitAt s)).gAuto))), .t (.leaf (.bool ((oTrait (w.traitAt s)).gAssoc))), .t (.row 16 (GSignature.trs ((oTrait (w.traitAt s)).gSignatures)))]⟩], []⟩⟩) (fun i => (oTrait (w.traitAt s)).gSupertraits.length - i) 0 ?_ ?_ ?_
      · exact ⟨Nat.zero_le _, by rw [pathF, if_neg (by assumption)]; rfl⟩
      · skip
        exact Wk.mk (StLe.mk' ⟨⟨rfl, by (repeat' (first | exact PV.Le.refl _ | exact LeL.nil | exact PV.Le.nil _ | exact PV.Le.acc _ _ _ | apply LeL.cons | apply PV.Le.agg | apply PV.Le.tup)), rfl⟩, ⟨⟨rfl, by (repeat' (first | exact PV.Le.refl _ | exact LeL.nil | exact PV.Le.nil _ | exact PV.Le.acc _ _ _ | apply LeL.cons | apply PV.Le.agg | apply PV.Le.tup)), rfl⟩, trivial⟩⟩ rfl) (keeps_nil hC) ⟨⟨_, rfl, .refl _, rfl⟩, ⟨⟨_, rfl, .refl _, rfl⟩, ⟨⟨_, rfl, .refl _, rfl⟩, ⟨⟨_, rfl, .refl _, rfl⟩, ⟨⟨_, rfl, .refl _, rfl⟩, ⟨⟨_, rfl, .refl _, rfl⟩, ⟨⟨_, rfl, .refl _, rfl⟩, ⟨⟨_, rfl, .refl _, rfl⟩, ⟨⟨_, rfl, .refl _, rfl⟩, ⟨⟨_, rfl, .refl _, rfl⟩, ⟨⟨_, rfl, by (repeat' (first | exact PV.Le.refl _ | exact LeL.nil | exact PV.Le.nil _ | exact PV.Le.acc _ _ _ | apply LeL.cons | apply PV.Le.agg | apply PV.Le.tup)), rfl⟩, trivial⟩⟩⟩⟩⟩⟩⟩⟩⟩⟩⟩
      rintro i hJ4
      obtain ⟨hi1, hi2⟩ := hJ4
      refine AWP.seq ?_
      refine AWP.region_lit ?_
      refine AL.cons rfl (AOp.lss rfl rfl rfl rfl) ?_
      refine AL.nil ?_
      refine AWP.seq ?_
      refine AWP.cond rfl (fun h5 => ?_) (fun h5 => ?_)
      · skip
        have h5b := h5
        try simp only [Bool.and_eq_true, Bool.or_eq_true, Bool.and_eq_false_iff, Bool.or_eq_false_iff, decide_eq_true_eq, decide_eq_false_iff_not, Bool.not_eq_true', Bool.not_eq_false', Bool.not_eq_eq_eq_not, Bool.not_true, Bool.not_false, ge_iff_le, gt_iff_lt, Int.not_lt, Int.not_le] at h5b
        have h5n : i < ((oTrait (w.traitAt s)).gSupertraits).length := by omega
        refine AWP.skip ?_
        refine AWP.seq ?_
        refine AWP.block ?_
        refine AWP.seq ?_
        refine AWP.region_lit ?_
        refine AL.cons rfl (AOp.move (.inl rfl) rfl rfl) ?_
        refine AL.cons rfl (AOp.index (k := i) rfl rfl rfl rfl rfl (strTrs_cs h5n) el54) ?_
        refine AL.cons rfl (AOp.loadEptr1 (d := .leaf (.string (((oTrait (w.traitAt s)).gSupertraits)[i]))) rfl rfl rfl sh9 rfl) ?_
        refine AL.cons rfl (AOp.move (.inr rfl) rfl rfl) ?_
        refine AL.cons rfl (AOp.move (.inr rfl) rfl rfl) ?_
        refine AL.nil ?_
        refine AWP.seq ?_
        refine AWP.region_lit ?_
        refine AL.cons rfl (AOp.loadPtr (cs := [.t (.row 6 (GPackage.trs (w.gPackages)))]) rfl rfl rfl rfl sh31 rfl rfl) ?_
        refine AL.cons rfl (AOp.move (.inl rfl) rfl rfl) ?_
        refine AL.cons rfl (AOp.move (.inl rfl) rfl rfl) ?_
        refine AL.cons rfl (AOp.move (.inl rfl) rfl rfl) ?_
        refine AL.cons rfl (AOp.subI rfl rfl rfl rfl (c := ((n : Nat) : Int)) (by omega) (by omega)) ?_
        refine AL.cons rfl (AOp.callF (ps := [_, _, _, _]) rfl rfl Tryz.func96 (by kernel_rfl) rfl rfl (by (repeat' (first | exact PV.Le.refl _ | exact LeL.nil | exact PV.Le.nil _ | exact PV.Le.acc _ _ _ | apply LeL.cons | apply PV.Le.agg | apply PV.Le.tup))) rfl rfl (ih (((oTrait (w.traitAt s)).gSupertraits)[i]) d (by omega))) ?_
        refine AL.cons rfl (AOp.move (.inl rfl) rfl rfl) ?_
        refine AL.cons rfl (AOp.extract rfl rfl rfl rfl) ?_
        refine AL.cons rfl (AOp.extract rfl rfl rfl rfl) ?_
        refine AL.cons rfl (AOp.move (.inr rfl) rfl rfl) ?_
        refine AL.cons rfl (AOp.move (.inr rfl) rfl rfl) ?_
        refine AL.nil ?_
        refine AWP.seq ?_
        refine AWP.region_lit ?_
        refine AL.cons rfl (AOp.move (.inl rfl) rfl rfl) ?_
        refine AL.nil ?_
        refine AWP.cond rfl (fun h6 => ?_) (fun h6 => ?_)
        · skip
          have h6b := h6
          try simp only [Bool.and_eq_true, Bool.or_eq_true, Bool.and_eq_false_iff, Bool.or_eq_false_iff, decide_eq_true_eq, decide_eq_false_iff_not, Bool.not_eq_true', Bool.not_eq_false', Bool.not_eq_eq_eq_not, Bool.not_true, Bool.not_false, ge_iff_le, gt_iff_lt, Int.not_lt, Int.not_le] at h6b
          refine AWP.seq ?_
          refine AWP.region_lit ?_
          refine AL.cons rfl (AOp.move (.inl rfl) rfl rfl) ?_
          refine AL.cons rfl (AOp.buildSlice (es := intTrs ([((i : Nat) : Int)])) (cs := [.t (.leaf (.int .i64 (((i : Nat) : Int))))]) rfl rfl el60 zr3 rfl rfl (by (repeat' (first | exact PV.Le.refl _ | exact LeL.nil | exact PV.Le.nil _ | exact PV.Le.acc _ _ _ | apply LeL.cons | apply PV.Le.agg | apply PV.Le.tup))) rfl (by simp [intTrs]) (by decide) rfl (by decide)) ?_
          refine AL.cons rfl (AOp.move (.inl rfl) rfl rfl) ?_
          refine AL.cons rfl (AOp.appendE (es3 := intTrs (([((i : Nat) : Int)]) ++ (oPath (pathF w (n) (((oTrait (w.traitAt s)).gSupertraits)[i]) d)))) rfl rfl rfl rfl rfl rfl rfl rfl rfl (intTrs_all _) el60 ze60 (by decide) (by have := pathF_len w n (oTrait (w.traitAt s)).gSupertraits[i] d; rw [intTrs_len, intTrs_len]; simp; omega) (intTrs_append _ _)) ?_
          refine AL.cons rfl (AOp.move (.inr rfl) rfl rfl) ?_
          refine AL.cons rfl (AOp.move (.inr rfl) rfl rfl) ?_
          refine AL.nil ?_
          refine AWP.ret ?_
          have hq := pathL_hit (by omega) hi2 (by assumption)
          exact Ends.mk (ps := [_, _]) (.inr rfl) ⟨rfl, rfl, trivial⟩ rfl (StLe.mk' (st' := ⟨[], []⟩) trivial rfl) (keeps_nil hC) (q := .tup [.t (.row 1 (intTrs (([((i : Nat) : Int)]) ++ (oPath (pathF w (n) (((oTrait (w.traitAt s)).gSupertraits)[i]) d))))), .t (.leaf (.bool true))]) (by (repeat' (first | exact PV.Le.refl _ | exact LeL.nil | exact PV.Le.nil _ | exact PV.Le.acc _ _ _ | apply LeL.cons | apply PV.Le.agg | apply PV.Le.tup))) rfl ⟨by rw [hq]; rfl, rfl⟩
        · skip
          have h6b := h6
          try simp only [Bool.and_eq_true, Bool.or_eq_true, Bool.and_eq_false_iff, Bool.or_eq_false_iff, decide_eq_true_eq, decide_eq_false_iff_not, Bool.not_eq_true', Bool.not_eq_false', Bool.not_eq_eq_eq_not, Bool.not_true, Bool.not_false, ge_iff_le, gt_iff_lt, Int.not_lt, Int.not_le] at h6b
          refine AWP.skip ?_
          refine AWP.region_lit ?_
          refine AL.cons rfl (AOp.addI rfl rfl rfl rfl (c := ((i + 1 : Nat) : Int)) (by omega) (by omega)) ?_
          refine AL.cons rfl (AOp.move (.inl rfl) rfl rfl) ?_
          refine AL.nil ?_
          refine ⟨i + 1, ?_, ?_, ?_⟩
          · exact ⟨by omega, pathL_next (by omega) hi2 (by assumption)⟩
          · skip
            exact Wk.mk (StLe.mk' ⟨⟨rfl, by (repeat' (first | exact PV.Le.refl _ | exact LeL.nil | exact PV.Le.nil _ | exact PV.Le.acc _ _ _ | apply LeL.cons | apply PV.Le.agg | apply PV.Le.tup)), rfl⟩, ⟨⟨rfl, by (repeat' (first | exact PV.Le.refl _ | exact LeL.nil | exact PV.Le.nil _ | exact PV.Le.acc _ _ _ | apply LeL.cons | apply PV.Le.agg | apply PV.Le.tup)), rfl⟩, trivial⟩⟩ rfl) (keeps_nil hC) ⟨⟨_, rfl, .refl _, rfl⟩, ⟨⟨_, rfl, .refl _, rfl⟩, ⟨⟨_, rfl, .refl _, rfl⟩, ⟨⟨_, rfl, .refl _, rfl⟩, ⟨⟨_, rfl, .refl _, rfl⟩, ⟨⟨_, rfl, .refl _, rfl⟩, ⟨⟨_, rfl, .refl _, rfl⟩, ⟨⟨_, rfl, .refl _, rfl⟩, ⟨⟨_, rfl, .refl _, rfl⟩, ⟨⟨_, rfl, .refl _, rfl⟩, ⟨⟨_, rfl, by (repeat' (first | exact PV.Le.refl _ | exact LeL.nil | exact PV.Le.nil _ | exact PV.Le.acc _ _ _ | apply LeL.cons | apply PV.Le.agg | apply PV.Le.tup)), rfl⟩, trivial⟩⟩⟩⟩⟩⟩⟩⟩⟩⟩⟩
          · omega
      · skip
        have h5b := h5
        try simp only [Bool.and_eq_true, Bool.or_eq_true, Bool.and_eq_false_iff, Bool.or_eq_false_iff, decide_eq_true_eq, decide_eq_false_iff_not, Bool.not_eq_true', Bool.not_eq_false', Bool.not_eq_eq_eq_not, Bool.not_true, Bool.not_false, ge_iff_le, gt_iff_lt, Int.not_lt, Int.not_le] at h5b
        have h5n : i ≥ ((oTrait (w.traitAt s)).gSupertraits).length := by omega
        refine AWP.exit ?_
        refine AWP.seq ?_
        refine AWP.region_lit ?_
        refine AL.cons rfl (AOp.move (.inr rfl) rfl rfl) ?_
        refine AL.cons rfl (AOp.move (.inr rfl) rfl rfl) ?_
        refine AL.nil ?_
        refine AWP.ret ?_
        have hq : pathF w (n + 1) s d = none := by first | exact pathL_end (by omega) hi2 | (rw [pathF, if_neg (by assumption)])
        exact Ends.mk (ps := [_, _]) (.inr rfl) ⟨rfl, rfl, trivial⟩ rfl (StLe.mk' (st' := ⟨[], []⟩) trivial rfl) (keeps_nil hC) (q := .tup [.t (.row 1 (intTrs [])), .t (.leaf (.bool false))]) (by (repeat' (first | exact PV.Le.refl _ | exact LeL.nil | exact PV.Le.nil _ | exact PV.Le.acc _ _ _ | apply LeL.cons | apply PV.Le.agg | apply PV.Le.tup))) rfl ⟨by rw [hq]; rfl, rfl⟩

set_option maxRecDepth 100000 in
set_option maxHeartbeats 4000000 in
theorem path_impl (w : GProgram) (s : ByteArray) (d : ByteArray) : AFun Tryz.prog 34 [(GProgram.pv w), .t (.leaf (.string (s))), .t (.leaf (.string (d)))] (.tup [.t (.row 1 (intTrs (oPath (pathF w 8 s d)))), .t (.leaf (.bool ((pathF w 8 s d).isSome)))]) := by
  refine ACalls.intro Tryz.func34 rfl (by first | decide | (simp; done) | (simp; decide)) ?_
  intro C hC
  refine AWP.seq ?_
  refine AWP.region_lit ?_
  refine AL.cons rfl (AOp.box (cs := [.t (.row 6 (GPackage.trs (w.gPackages)))]) rfl rfl rfl rfl rfl) ?_
  refine AL.cons rfl (AOp.move (.inr rfl) rfl rfl) ?_
  refine AL.cons rfl (AOp.move (.inr rfl) rfl rfl) ?_
  refine AL.nil ?_
  refine AWP.seq ?_
  refine AWP.region_lit ?_
  refine AL.cons rfl (AOp.loadPtr (cs := [.t (.row 6 (GPackage.trs (w.gPackages)))]) rfl rfl rfl rfl sh31 rfl rfl) ?_
  refine AL.cons rfl (AOp.move (.inl rfl) rfl rfl) ?_
  refine AL.cons rfl (AOp.move (.inl rfl) rfl rfl) ?_
  refine AL.cons rfl (AOp.callF (ps := [_, _, _, _]) rfl rfl Tryz.func96 (by kernel_rfl) rfl rfl (by (repeat' (first | exact PV.Le.refl _ | exact LeL.nil | exact PV.Le.nil _ | exact PV.Le.acc _ _ _ | apply LeL.cons | apply PV.Le.agg | apply PV.Le.tup))) rfl rfl (pathTo_ok w 8 s d (by decide))) ?_
  refine AL.cons rfl (AOp.extract rfl rfl rfl rfl) ?_
  refine AL.cons rfl (AOp.extract rfl rfl rfl rfl) ?_
  refine AL.cons rfl (AOp.move (.inr rfl) rfl rfl) ?_
  refine AL.cons rfl (AOp.move (.inr rfl) rfl rfl) ?_
  refine AL.nil ?_
  refine AWP.ret ?_
  exact Ends.mk (ps := [_, _]) (.inr rfl) ⟨rfl, rfl, trivial⟩ rfl (StLe.mk' (st' := ⟨[], []⟩) trivial rfl) (keeps_nil hC) (q := (.tup [.t (.row 1 (intTrs (oPath (pathF w 8 s d)))), .t (.leaf (.bool ((pathF w 8 s d).isSome)))] : PV)) (by (repeat' (first | exact PV.Le.refl _ | exact LeL.nil | exact PV.Le.nil _ | exact PV.Le.acc _ _ _ | apply LeL.cons | apply PV.Le.agg | apply PV.Le.tup))) rfl ⟨by rfl, rfl⟩

end Go.Proofs.YtnakkelglbcecaaGreat

namespace Go.Proofs.YtnakkelglbcecaaGreat
set_option linter.unusedSimpArgs false
set_option linter.unusedVariables false

/-- It holds of all great enough numbers. -/
def Evt (P : Nat → Prop) : Prop := ∃ N, ∀ n, N ≤ n → P n
theorem Evt.all {P : Nat → Prop} (h : ∀ n, P n) : Evt P := ⟨0, fun n _ => h n⟩
theorem Evt.and {P Q : Nat → Prop} (h : Evt P) (k : Evt Q) : Evt fun n => P n ∧ Q n := by
  obtain ⟨a, h⟩ := h
  obtain ⟨b, k⟩ := k
  exact ⟨max a b, fun n hn => ⟨h n (by omega), k n (by omega)⟩⟩
theorem Evt.imp {P Q : Nat → Prop} (h : Evt P) (k : ∀ n, P n → Q n) : Evt Q := by
  obtain ⟨a, h⟩ := h
  exact ⟨a, fun n hn => k n (h n hn)⟩
theorem Evt.imp2 {P Q R : Nat → Prop} (h : Evt P) (h2 : Evt Q) (k : ∀ n, P n → Q n → R n) : Evt R := (h.and h2).imp fun n hn => k n hn.1 hn.2
theorem Evt.succ {P : Nat → Prop} (h : Evt fun n => P (n + 1)) : Evt P := by
  obtain ⟨a, h⟩ := h
  exact ⟨a + 1, fun n hn => by
    obtain ⟨m, rfl⟩ : ∃ m, n = m + 1 := ⟨n - 1, by omega⟩
    exact h m (by omega)⟩
theorem Evt.list {α : Type} {P : α → Nat → Prop} : ∀ {l : List α}, (∀ x ∈ l, Evt (P x)) → Evt fun n => ∀ x ∈ l, P x n
  | [], _ => .all fun n x hx => by simp at hx
  | a :: l, h => ((h a (by simp)).and (Evt.list (l := l) fun x hx => h x (List.mem_cons_of_mem _ hx))).imp fun n hn x hx => by
    rcases List.mem_cons.1 hx with rfl | hx
    · exact hn.1
    · exact hn.2 x hx
/-- .. of each index below n. -/
theorem Evt.below {P : Nat → Nat → Prop} : ∀ {k : Nat}, (∀ i, i < k → Evt (P i)) → Evt fun n => ∀ i, i < k → P i n
  | 0, _ => .all fun n i hi => by omega
  | k + 1, h => ((h k (by omega)).and (Evt.below (k := k) fun i hi => h i (Nat.lt_succ_of_lt hi))).imp fun n hn i hi => by
    rcases Nat.lt_or_ge i k with h1 | h1
    · exact hn.2 i h1
    · obtain rfl : i = k := by omega
      exact hn.1
theorem Evt.get {P : Nat → Prop} (h : Evt P) : ∃ n, P n := by
  obtain ⟨a, h⟩ := h
  exact ⟨a, h a (Nat.le_refl _)⟩

section
variable {α σ β : Type} [Inhabited α] {f : Nat → σ → Option (LR σ β)}
theorem atD_mem {l : List α} {i : Nat} (h : i < l.length) : atD l i ∈ l := by rw [atD_eq h]; exact List.getElem_mem h
theorem drop_atD {l : List α} {i : Nat} (h : i < l.length) : l.drop i = atD l i :: l.drop (i + 1) := by rw [atD_eq h]; exact List.drop_eq_getElem_cons h
theorem take_atD {l : List α} {i : Nat} (h : i < l.length) : l.take (i + 1) = l.take i ++ [atD l i] := by rw [atD_eq h]; exact List.take_succ_eq_append_getElem h
/-- One round that goes on. -/
theorem loopN_step {n i : Nat} {s s' : σ} (h : i < n) (e : f i s = some (.next s')) : loopN f (n - i) i s = loopN f (n - (i + 1)) (i + 1) s' := loopN_next h rfl e
theorem loopN_out {n i : Nat} {s : σ} {x : β} (h : i < n) (e : f i s = some (.ret x)) : loopN f (n - i) i s = some (.inl x) := loopN_ret h rfl e
theorem loopN_off {n i : Nat} {s s' : σ} (h : i < n) (e : f i s = some (.brk s')) : loopN f (n - i) i s = some (.inr s') := loopN_brk h rfl e
theorem loopN_all {n i : Nat} {s : σ} (h : n ≤ i) : loopN f (n - i) i s = some (.inr s) := loopN_end h rfl
/-- A loop over a list, as a fold; P: what holds at the head of each round. -/
theorem loopN_fold {l : List α} {g : σ → α → σ} (P : Nat → σ → Prop) (hs : ∀ i s, i < l.length → P i s → f i s = some (.next (g s (atD l i))) ∧ P (i + 1) (g s (atD l i))) :
    ∀ (k i : Nat) (s : σ), l.length - i = k → P i s → loopN f (l.length - i) i s = some (.inr ((l.drop i).foldl g s))
  | 0, i, s, hk, _ => by
    rw [loopN_all (by omega), List.drop_of_length_le (by omega), List.foldl_nil]
  | k + 1, i, s, hk, hp => by
    have hi : i < l.length := by omega
    obtain ⟨h1, h2⟩ := hs i s hi hp
    rw [loopN_step hi h1, drop_atD hi, List.foldl_cons]
    exact loopN_fold P hs k (i + 1) _ (by omega) h2
theorem loopN_fold0 {l : List α} {g : σ → α → σ} (P : Nat → σ → Prop) (hs : ∀ i s, i < l.length → P i s → f i s = some (.next (g s (atD l i))) ∧ P (i + 1) (g s (atD l i))) {s : σ} (h0 : P 0 s) : loopN f (l.length - 0) 0 s = some (.inr (l.foldl g s)) := by
  have := loopN_fold P hs l.length 0 s (by omega) h0
  rwa [List.drop_zero] at this
/-- A loop over a list that leaves at the first element of a kind. -/
theorem loopN_find {l : List α} {p : α → Bool} {r : α → β} {s : σ} (hs : ∀ i, i < l.length → f i s = if p (atD l i) then some (.ret (r (atD l i))) else some (.next s)) :
    ∀ (k i : Nat), l.length - i = k → loopN f (l.length - i) i s = some (match (l.drop i).find? p with | some x => .inl (r x) | none => .inr s)
  | 0, i, hk => by
    rw [loopN_all (by omega), List.drop_of_length_le (by omega), List.find?_nil]
  | k + 1, i, hk => by
    have hi : i < l.length := by omega
    have h1 := hs i hi
    rw [drop_atD hi, List.find?_cons]
    cases hp : p (atD l i)
    · rw [hp] at h1
      rw [loopN_step hi (by simpa using h1)]
      exact loopN_find hs k (i + 1) (by omega)
    · rw [hp] at h1
      rw [loopN_out hi (by simpa using h1)]
theorem loopN_find0 {l : List α} {p : α → Bool} {r : α → β} {s : σ} (hs : ∀ i, i < l.length → f i s = if p (atD l i) then some (.ret (r (atD l i))) else some (.next s)) : loopN f (l.length - 0) 0 s = some (match l.find? p with | some x => .inl (r x) | none => .inr s) := by
  have := loopN_find hs l.length 0 (by omega)
  rwa [List.drop_zero] at this
/-- A loop over a list whose every element must pass; what is returned where one does not hangs on nothing. -/
theorem loopN_every {l : List α} {p : α → Bool} {r : β} {s : σ} (hs : ∀ i, i < l.length → f i s = if p (atD l i) then some (.next s) else some (.ret r)) : loopN f (l.length - 0) 0 s = some (if l.all p then .inr s else .inl r) := by
  rw [loopN_find0 (p := fun x => !p x) (r := fun _ => r) (fun i hi => by rw [hs i hi]; cases p (atD l i) <;> rfl)]
  cases h : l.find? (fun x => !p x) with
  | none =>
    rw [List.find?_eq_none] at h
    rw [if_pos (by rw [List.all_eq_true]; intro x hx; have := h x hx; simpa using this)]
  | some x =>
    have h1 := List.find?_some h
    have h2 := List.mem_of_find?_eq_some h
    rw [if_neg (by rw [List.all_eq_true]; intro hc; have := hc x h2; simp [this] at h1)]
/-- A loop that returns the place of the first element of a kind. -/
theorem loopN_index {f : Nat → Unit → Option (LR Unit Int)} {l : List α} {p : α → Bool} (hs : ∀ i, i < l.length → f i () = if p (atD l i) then some (.ret ((i : Nat) : Int)) else some (.next ())) :
    loopN f (l.length - 0) 0 () = some (match l.findIdx? p with | some i => .inl ((i : Nat) : Int) | none => .inr ()) := by
  have key : ∀ (k i : Nat), l.length - i = k → loopN f (l.length - i) i () = some (match (l.drop i).findIdx? p with | some j => .inl (((i + j : Nat)) : Int) | none => .inr ()) := by
    intro k
    induction k with
    | zero =>
      intro i hk
      rw [loopN_all (by omega), List.drop_of_length_le (by omega)]
      rfl
    | succ k ih =>
      intro i hk
      have hi : i < l.length := by omega
      have h1 := hs i hi
      rw [drop_atD hi, List.findIdx?_cons]
      cases hp : p (atD l i)
      · rw [hp] at h1
        rw [loopN_step hi (by simpa using h1), ih (i + 1) (by omega)]
        cases (l.drop (i + 1)).findIdx? p with
        | none => simp
        | some j => simp; omega
      · rw [hp] at h1
        rw [loopN_out hi (by simpa using h1)]
        simp
  have := key l.length 0 (by omega)
  simpa using this
omit [Inhabited α] in
theorem index_any {l : List α} {p : α → Bool} : decide ((match l.findIdx? p with | some i => ((i : Nat) : Int) | none => -1) ≥ 0) = l.any p := by
  cases h : l.findIdx? p with
  | none =>
    rw [List.findIdx?_eq_none_iff] at h
    have : l.any p = false := by rw [List.any_eq_false]; intro x hx; simp [h x hx]
    rw [this]; rfl
  | some i =>
    obtain ⟨h1, h2, -⟩ := List.findIdx?_eq_some_iff_getElem.1 h
    have : l.any p = true := List.any_eq_true.2 ⟨_, List.getElem_mem h1, h2⟩
    rw [this]
    simp
end
end Go.Proofs.YtnakkelglbcecaaGreat

namespace Go.Proofs.YtnakkelglbcecaaGreat
set_option linter.unusedSimpArgs false
set_option linter.unusedVariables false
open Go.RowKit Go.WalkArith

theorem pathLoop {f : ByteArray → ByteArray → Option (List Int)} {F : Nat → Unit → Option (LR Unit ((List Int) × Bool))} {l : List ByteArray} {d : ByteArray} (hs : ∀ i, i < l.length → F i () = match f (atD l i) d with
      | some r => some (.ret ((i : Int) :: r, true))
      | none => some (.next ())) :
    ∀ (k i : Nat), l.length - i = k → loopN F (l.length - i) i () = some (match pathF.pathL f d i (l.drop i) with
      | some r => .inl (r, true)
      | none => .inr ())
  | 0, i, hk => by rw [loopN_all (by omega), List.drop_of_length_le (by omega)]; rfl
  | k + 1, i, hk => by
    have hi : i < l.length := by omega
    have h1 := hs i hi
    rw [drop_atD hi, pathF.pathL]
    cases hq : f (atD l i) d with
    | none => rw [hq] at h1; rw [loopN_step hi h1]; exact pathLoop hs k (i + 1) (by omega)
    | some r => rw [hq] at h1; rw [loopN_out hi h1]
theorem wrap_pred (n : Nat) (h : n ≤ 8) : wrap64 (((n + 1 : Nat) : Int) - 1) = (n : Int) := by
  have : n = 0 ∨ n = 1 ∨ n = 2 ∨ n = 3 ∨ n = 4 ∨ n = 5 ∨ n = 6 ∨ n = 7 ∨ n = 8 := by omega
  rcases this with rfl | rfl | rfl | rfl | rfl | rfl | rfl | rfl | rfl <;> decide
theorem sl19Steps_fn (w : GProgram) (d : ByteArray) : ∀ (n : Nat) (s : ByteArray), n ≤ 8 → sl19Steps_M (n + 1) w s d (n : Int) = some (oPath (pathF w n s d), (pathF w n s d).isSome)
  | 0, s, _ => by
    rw [sl19Steps_M, sl19Steps_G, pathF]
    by_cases h : s = d
    · rw [if_pos h]; simp [sw, h, oPath]
    · rw [if_neg h]
      have hl : sl19Steps_R1 0 (sl19Steps_M 0) w s d ((0 : Nat) : Int) = some (.inr ()) := by
        unfold sl19Steps_R1
        cases hk : ((oTrait (GProgram.traitAt w s)).gSupertraits).length with
        | zero => rfl
        | succ k =>
          rw [show k + 1 - 0 = k + 1 from rfl, loopN]
          unfold sl19Steps_F1
          simp [sw]
      rw [hl]
      simp [sw, so, h, oPath]
  | n + 1, s, hn => by
    rw [sl19Steps_M, sl19Steps_G, pathF]
    by_cases h : s = d
    · rw [if_pos h]; simp [sw, h, oPath]
    · rw [if_neg h]
      have hl : sl19Steps_R1 (n + 1) (sl19Steps_M (n + 1)) w s d ((n + 1 : Nat) : Int) = some (match pathF.pathL (pathF w n) d 0 (oTrait (w.traitAt s)).gSupertraits with
          | some r => .inl (r, true)
          | none => .inr ()) := by
        unfold sl19Steps_R1
        refine pathLoop (f := pathF w n) (l := (oTrait (w.traitAt s)).gSupertraits) (fun i hi => ?_) _ 0 rfl
        have e := sl19Steps_fn w d n (atD ((oTrait (GProgram.traitAt w s)).gSupertraits) i) (by omega)
        have hlen := pathF_len w n (atD ((oTrait (GProgram.traitAt w s)).gSupertraits) i) d
        unfold sl19Steps_F1
        rw [wrap_pred n (by omega), e, show decide (((n + 1 : Nat) : Int) > 0) = true by simp]
        cases hq : pathF w n (atD ((oTrait (GProgram.traitAt w s)).gSupertraits) i) d with
        | none => simp [sw, bd]
        | some r =>
          rw [hq] at hlen
          simp only [oPath, Option.getD_some] at hlen
          simp only [sw, bd, oPath, Option.isSome_some, Option.getD_some]
          exact gdT (by simp only [List.length_singleton]; omega) rfl
      rw [hl]
      cases pathF.pathL (pathF w n) d 0 (oTrait (w.traitAt s)).gSupertraits with
      | none => simp [sw, so, h, oPath]
      | some r => simp [sw, so, h, oPath]
theorem path_spec (w : GProgram) (s d : ByteArray) : AFun Tryz.prog 33 [(GProgram.pv w), .t (.leaf (.string (s))), .t (.leaf (.string (d)))] (.tup [.t (.row 1 (intTrs (oPath (pathF w 8 s d)))), .t (.leaf (.bool ((pathF w 8 s d).isSome)))]) :=
  sSupertraitPath_ok 9 w s d (oPath (pathF w 8 s d), (pathF w 8 s d).isSome) (by
    unfold sSupertraitPath_M
    have h := sl19Steps_fn w d 8 s (Nat.le_refl _)
    rw [show ((8 : Nat) : Int) = (8 : Int) from rfl, show 8 + 1 = 9 from rfl] at h
    rw [h]
    rfl)
end Go.Proofs.YtnakkelglbcecaaGreat

namespace Go.Proofs.YtnakkelglbcecaaGreat
open Go.RowKit
theorem AFun.plainR {P : Program} {f : FuncId} {args : List PV} {t : Tr} (h : AFun P f args (.t t)) {w : World} {vals : List Value} (hv : RVL0 w args vals) : Calls P f ⟨vals⟩ w fun e w' => ∃ u, e = .returned u ∧ Ext w w' ∧ Rep w' t u :=
  (h av0 lay0 w vals (sto0 w) hv).mono fun e w' => by
    rintro ⟨res, st', m', v, rfl, ⟨rfl, rfl⟩, -, he, hr⟩
    exact ⟨v, rfl, he.ext, RepM.rep hr⟩
theorem AFun.plainA {P : Program} {f : FuncId} {args : List PV} {ts : List Tr} (h : AFun P f args (.agg (ts.map PV.t))) {w : World} {vals : List Value} (hv : RVL0 w args vals) : Calls P f ⟨vals⟩ w fun e w' => ∃ cs, e = .returned (.agg ⟨cs⟩) ∧ Ext w w' ∧ RepL w' ts cs :=
  (h av0 lay0 w vals (sto0 w) hv).mono fun e w' => by
    rintro ⟨res, st', m', v, rfl, ⟨rfl, rfl⟩, -, he, cs, rfl, hr⟩
    exact ⟨cs, rfl, he.ext, RVL.ofTr hr⟩
theorem RVL0.nil {w : World} : RVL0 w [] [] := trivial
theorem RVL0.cons {w : World} {p : PV} {ps : List PV} {v : Value} {vs : List Value} (h : RV0 w p v) (k : RVL0 w ps vs) : RVL0 w (p :: ps) (v :: vs) := ⟨h, k⟩
end Go.Proofs.YtnakkelglbcecaaGreat

namespace Go.Proofs.YtnakkelglbcecaaGreat
theorem Tr.bulkL_cat : ∀ (a b : List Tr), Tr.bulkL (a ++ b) = Tr.bulkL a + Tr.bulkL b
  | [], b => by simp [Tr.bulkL]
  | t :: a, b => by simp [Tr.bulkL, Tr.bulkL_cat a b, Nat.add_assoc]
theorem cnts_of : ∀ {es : List (List Tr)}, (∀ e ∈ es, Tr.cntL e ≤ 20 + 20 * Tr.bulkL e) → Tr.cntE es ≤ 20 * es.length + 20 * Tr.bulkAll es
  | [], _ => by simp [Tr.cntE]
  | e :: r, h => by
    have h1 := cnts_of (es := r) (fun x hx => h x (List.mem_cons_of_mem _ hx))
    have h2 := h e (by simp)
    simp only [Tr.cntE, Tr.bulkAll, List.length_cons]
    omega
theorem strCnt (l : List ByteArray) : Tr.cntE (strTrs l) = l.length := by
  induction l with
  | nil => rfl
  | cons a l ih => simp only [strTrs, List.map_cons, Tr.cntE, Tr.cntL, Tr.cnt, List.length_cons] at *; omega
theorem intCnt (l : List Int) : Tr.cntE (intTrs l) = l.length := by
  induction l with
  | nil => rfl
  | cons a l ih => simp only [intTrs, List.map_cons, Tr.cntE, Tr.cntL, Tr.cnt, List.length_cons] at *; omega
theorem Tr.topN_cnt : ∀ ts : List Tr, Tr.topN ts ≤ Tr.cntL ts
  | [] => by simp [Tr.topN]
  | .leaf v :: r => by have := Tr.topN_cnt r; simp only [Tr.topN, Tr.cntL, Tr.cnt]; omega
  | .row sz es :: r => by have := Tr.topN_cnt r; simp only [Tr.topN, Tr.cntL, Tr.cnt]; omega
theorem GType.cnt_le : ∀ x : GType, Tr.cntL x.tr ≤ 3 + 20 * Tr.bulkL x.tr := by
  refine GType.ind fun v0 v1 v2 ih => ?_
  have c2 : Tr.cntE (GType.trs v2) ≤ 20 * v2.length + 20 * Tr.bulkAll (GType.trs v2) := by have h := cnts_of (GType.all (l := v2) (Q := fun e => Tr.cntL e ≤ 20 + 20 * Tr.bulkL e) (fun x hx => by have := ih x hx; omega)); rw [GType.trs_len] at h; exact h
  have d2 := GType.trs_len v2
  simp only [GType.tr, Tr.cntL_append, Tr.bulkL_cat, Tr.cntL, Tr.cnt, Tr.bulkL, Tr.bulk]
  omega
theorem GType.cnts_le (l : List GType) : Tr.cntE (GType.trs l) ≤ 20 * l.length + 20 * Tr.bulkAll (GType.trs l) := by
  have h := cnts_of (GType.all (l := l) (Q := fun e => Tr.cntL e ≤ 20 + 20 * Tr.bulkL e) (fun x _ => by have := GType.cnt_le x; omega))
  rw [GType.trs_len] at h
  exact h
theorem GArm.cnt_of (x : GArm) (h : Tr.cntL x.gBody.tr ≤ 9 + 20 * Tr.bulkL x.gBody.tr) : Tr.cntL x.tr ≤ 11 + 20 * Tr.bulkL x.tr := by
  obtain ⟨v0, v1, v2⟩ := x
  have h : Tr.cntL v2.tr ≤ 9 + 20 * Tr.bulkL v2.tr := h
  have c1 := strCnt v1
  have d1 := strTrs_len v1
  simp only [GArm.tr, Tr.cntL_append, Tr.bulkL_cat, Tr.cntL, Tr.cnt, Tr.bulkL, Tr.bulk]
  omega
theorem GExpr.cnt_le : ∀ x : GExpr, Tr.cntL x.tr ≤ 9 + 20 * Tr.bulkL x.tr := by
  refine GExpr.ind fun v0 v1 v2 v3 v4 v5 v6 ih5 ih6 => ?_
  have c4 := GType.cnt_le v4
  have c5 : Tr.cntE (GExpr.trs v5) ≤ 20 * v5.length + 20 * Tr.bulkAll (GExpr.trs v5) := by have h := cnts_of (GExpr.all (l := v5) (Q := fun e => Tr.cntL e ≤ 20 + 20 * Tr.bulkL e) (fun x hx => by have := ih5 x hx; omega)); rw [GExpr.trs_len] at h; exact h
  have c6 : Tr.cntE (GArm.trs v6) ≤ 20 * v6.length + 20 * Tr.bulkAll (GArm.trs v6) := by have h := cnts_of (GArm.all (l := v6) (Q := fun e => Tr.cntL e ≤ 20 + 20 * Tr.bulkL e) (fun x hx => by have := GArm.cnt_of x (ih6 x hx); omega)); rw [GArm.trs_len] at h; exact h
  have d5 := GExpr.trs_len v5
  have d6 := GArm.trs_len v6
  simp only [GExpr.tr, Tr.cntL_append, Tr.bulkL_cat, Tr.cntL, Tr.cnt, Tr.bulkL, Tr.bulk]
  omega
theorem GArm.cnt_le (x : GArm) : Tr.cntL x.tr ≤ 11 + 20 * Tr.bulkL x.tr := GArm.cnt_of x (GExpr.cnt_le _)
theorem GExpr.cnts_le (l : List GExpr) : Tr.cntE (GExpr.trs l) ≤ 20 * l.length + 20 * Tr.bulkAll (GExpr.trs l) := by
  have h := cnts_of (GExpr.all (l := l) (Q := fun e => Tr.cntL e ≤ 20 + 20 * Tr.bulkL e) (fun x _ => by have := GExpr.cnt_le x; omega))
  rw [GExpr.trs_len] at h
  exact h
theorem GArm.cnts_le (l : List GArm) : Tr.cntE (GArm.trs l) ≤ 20 * l.length + 20 * Tr.bulkAll (GArm.trs l) := by
  have h := cnts_of (GArm.all (l := l) (Q := fun e => Tr.cntL e ≤ 20 + 20 * Tr.bulkL e) (fun x _ => by have := GArm.cnt_le x; omega))
  rw [GArm.trs_len] at h
  exact h
theorem GBound.cnt_le (x : GBound) : Tr.cntL x.tr ≤ 4 + 20 * Tr.bulkL x.tr := by
  obtain ⟨v0, v1⟩ := x
  have c1 := GType.cnt_le v1
  simp only [GBound.tr, Tr.cntL_append, Tr.bulkL_cat, Tr.cntL, Tr.cnt, Tr.bulkL, Tr.bulk]
  omega
theorem GBound.cnts_le (l : List GBound) : Tr.cntE (GBound.trs l) ≤ 20 * l.length + 20 * Tr.bulkAll (GBound.trs l) := by
  have h := cnts_of (GBound.all (l := l) (Q := fun e => Tr.cntL e ≤ 20 + 20 * Tr.bulkL e) (fun x _ => by have := GBound.cnt_le x; omega))
  rw [GBound.trs_len] at h
  exact h
theorem GParam.cnt_le (x : GParam) : Tr.cntL x.tr ≤ 4 + 20 * Tr.bulkL x.tr := by
  obtain ⟨v0, v1⟩ := x
  have c1 := GType.cnt_le v1
  simp only [GParam.tr, Tr.cntL_append, Tr.bulkL_cat, Tr.cntL, Tr.cnt, Tr.bulkL, Tr.bulk]
  omega
theorem GParam.cnts_le (l : List GParam) : Tr.cntE (GParam.trs l) ≤ 20 * l.length + 20 * Tr.bulkAll (GParam.trs l) := by
  have h := cnts_of (GParam.all (l := l) (Q := fun e => Tr.cntL e ≤ 20 + 20 * Tr.bulkL e) (fun x _ => by have := GParam.cnt_le x; omega))
  rw [GParam.trs_len] at h
  exact h
theorem GMethod.cnt_le (x : GMethod) : Tr.cntL x.tr ≤ 11 + 20 * Tr.bulkL x.tr := by
  obtain ⟨v0, v1, v2⟩ := x
  have c1 := strCnt v1
  have d1 := strTrs_len v1
  have c2 := GExpr.cnt_le v2
  simp only [GMethod.tr, Tr.cntL_append, Tr.bulkL_cat, Tr.cntL, Tr.cnt, Tr.bulkL, Tr.bulk]
  omega
theorem GMethod.cnts_le (l : List GMethod) : Tr.cntE (GMethod.trs l) ≤ 20 * l.length + 20 * Tr.bulkAll (GMethod.trs l) := by
  have h := cnts_of (GMethod.all (l := l) (Q := fun e => Tr.cntL e ≤ 20 + 20 * Tr.bulkL e) (fun x _ => by have := GMethod.cnt_le x; omega))
  rw [GMethod.trs_len] at h
  exact h
theorem GConstructor.cnt_le (x : GConstructor) : Tr.cntL x.tr ≤ 2 + 20 * Tr.bulkL x.tr := by
  obtain ⟨v0, v1⟩ := x
  have c1 := GType.cnts_le v1
  have d1 := GType.trs_len v1
  simp only [GConstructor.tr, Tr.cntL_append, Tr.bulkL_cat, Tr.cntL, Tr.cnt, Tr.bulkL, Tr.bulk]
  omega
theorem GConstructor.cnts_le (l : List GConstructor) : Tr.cntE (GConstructor.trs l) ≤ 20 * l.length + 20 * Tr.bulkAll (GConstructor.trs l) := by
  have h := cnts_of (GConstructor.all (l := l) (Q := fun e => Tr.cntL e ≤ 20 + 20 * Tr.bulkL e) (fun x _ => by have := GConstructor.cnt_le x; omega))
  rw [GConstructor.trs_len] at h
  exact h
theorem GSignature.cnt_le (x : GSignature) : Tr.cntL x.tr ≤ 16 + 20 * Tr.bulkL x.tr := by
  obtain ⟨v0, v1, v2, v3, v4, v5⟩ := x
  have c1 := GType.cnts_le v1
  have d1 := GType.trs_len v1
  have c2 := GType.cnt_le v2
  have c4 := strCnt v4
  have d4 := strTrs_len v4
  have c5 := GExpr.cnt_le v5
  simp only [GSignature.tr, Tr.cntL_append, Tr.bulkL_cat, Tr.cntL, Tr.cnt, Tr.bulkL, Tr.bulk]
  omega
theorem GSignature.cnts_le (l : List GSignature) : Tr.cntE (GSignature.trs l) ≤ 20 * l.length + 20 * Tr.bulkAll (GSignature.trs l) := by
  have h := cnts_of (GSignature.all (l := l) (Q := fun e => Tr.cntL e ≤ 20 + 20 * Tr.bulkL e) (fun x _ => by have := GSignature.cnt_le x; omega))
  rw [GSignature.trs_len] at h
  exact h
theorem GTrait.cnt_le (x : GTrait) : Tr.cntL x.tr ≤ 5 + 20 * Tr.bulkL x.tr := by
  obtain ⟨v0, v1, v2, v3, v4⟩ := x
  have c1 := strCnt v1
  have d1 := strTrs_len v1
  have c4 := GSignature.cnts_le v4
  have d4 := GSignature.trs_len v4
  simp only [GTrait.tr, Tr.cntL_append, Tr.bulkL_cat, Tr.cntL, Tr.cnt, Tr.bulkL, Tr.bulk]
  omega
theorem GTrait.cnts_le (l : List GTrait) : Tr.cntE (GTrait.trs l) ≤ 20 * l.length + 20 * Tr.bulkAll (GTrait.trs l) := by
  have h := cnts_of (GTrait.all (l := l) (Q := fun e => Tr.cntL e ≤ 20 + 20 * Tr.bulkL e) (fun x _ => by have := GTrait.cnt_le x; omega))
  rw [GTrait.trs_len] at h
  exact h
theorem GDataType.cnt_le (x : GDataType) : Tr.cntL x.tr ≤ 3 + 20 * Tr.bulkL x.tr := by
  obtain ⟨v0, v1, v2⟩ := x
  have c1 := strCnt v1
  have d1 := strTrs_len v1
  have c2 := GConstructor.cnts_le v2
  have d2 := GConstructor.trs_len v2
  simp only [GDataType.tr, Tr.cntL_append, Tr.bulkL_cat, Tr.cntL, Tr.cnt, Tr.bulkL, Tr.bulk]
  omega
theorem GDataType.cnts_le (l : List GDataType) : Tr.cntE (GDataType.trs l) ≤ 20 * l.length + 20 * Tr.bulkAll (GDataType.trs l) := by
  have h := cnts_of (GDataType.all (l := l) (Q := fun e => Tr.cntL e ≤ 20 + 20 * Tr.bulkL e) (fun x _ => by have := GDataType.cnt_le x; omega))
  rw [GDataType.trs_len] at h
  exact h
theorem GInstance.cnt_le (x : GInstance) : Tr.cntL x.tr ≤ 12 + 20 * Tr.bulkL x.tr := by
  obtain ⟨v0, v1, v2, v3, v4, v5, v6, v7⟩ := x
  have c1 := strCnt v1
  have d1 := strTrs_len v1
  have c2 := GType.cnt_le v2
  have c3 := GBound.cnts_le v3
  have d3 := GBound.trs_len v3
  have c6 := GType.cnt_le v6
  have c7 := GMethod.cnts_le v7
  have d7 := GMethod.trs_len v7
  simp only [GInstance.tr, Tr.cntL_append, Tr.bulkL_cat, Tr.cntL, Tr.cnt, Tr.bulkL, Tr.bulk]
  omega
theorem GInstance.cnts_le (l : List GInstance) : Tr.cntE (GInstance.trs l) ≤ 20 * l.length + 20 * Tr.bulkAll (GInstance.trs l) := by
  have h := cnts_of (GInstance.all (l := l) (Q := fun e => Tr.cntL e ≤ 20 + 20 * Tr.bulkL e) (fun x _ => by have := GInstance.cnt_le x; omega))
  rw [GInstance.trs_len] at h
  exact h
theorem GFunction.cnt_le (x : GFunction) : Tr.cntL x.tr ≤ 16 + 20 * Tr.bulkL x.tr := by
  obtain ⟨v0, v1, v2, v3, v4, v5⟩ := x
  have c1 := strCnt v1
  have d1 := strTrs_len v1
  have c2 := GBound.cnts_le v2
  have d2 := GBound.trs_len v2
  have c3 := GParam.cnts_le v3
  have d3 := GParam.trs_len v3
  have c4 := GType.cnt_le v4
  have c5 := GExpr.cnt_le v5
  simp only [GFunction.tr, Tr.cntL_append, Tr.bulkL_cat, Tr.cntL, Tr.cnt, Tr.bulkL, Tr.bulk]
  omega
theorem GFunction.cnts_le (l : List GFunction) : Tr.cntE (GFunction.trs l) ≤ 20 * l.length + 20 * Tr.bulkAll (GFunction.trs l) := by
  have h := cnts_of (GFunction.all (l := l) (Q := fun e => Tr.cntL e ≤ 20 + 20 * Tr.bulkL e) (fun x _ => by have := GFunction.cnt_le x; omega))
  rw [GFunction.trs_len] at h
  exact h
theorem GPackage.cnt_le (x : GPackage) : Tr.cntL x.tr ≤ 6 + 20 * Tr.bulkL x.tr := by
  obtain ⟨v0, v1, v2, v3, v4, v5⟩ := x
  have c1 := strCnt v1
  have d1 := strTrs_len v1
  have c2 := GTrait.cnts_le v2
  have d2 := GTrait.trs_len v2
  have c3 := GDataType.cnts_le v3
  have d3 := GDataType.trs_len v3
  have c4 := GInstance.cnts_le v4
  have d4 := GInstance.trs_len v4
  have c5 := GFunction.cnts_le v5
  have d5 := GFunction.trs_len v5
  simp only [GPackage.tr, Tr.cntL_append, Tr.bulkL_cat, Tr.cntL, Tr.cnt, Tr.bulkL, Tr.bulk]
  omega
theorem GPackage.cnts_le (l : List GPackage) : Tr.cntE (GPackage.trs l) ≤ 20 * l.length + 20 * Tr.bulkAll (GPackage.trs l) := by
  have h := cnts_of (GPackage.all (l := l) (Q := fun e => Tr.cntL e ≤ 20 + 20 * Tr.bulkL e) (fun x _ => by have := GPackage.cnt_le x; omega))
  rw [GPackage.trs_len] at h
  exact h
theorem GProgram.cnt_le (x : GProgram) : Tr.cntL x.tr ≤ 1 + 20 * Tr.bulkL x.tr := by
  obtain ⟨v0⟩ := x
  have c0 := GPackage.cnts_le v0
  have d0 := GPackage.trs_len v0
  simp only [GProgram.tr, Tr.cntL_append, Tr.bulkL_cat, Tr.cntL, Tr.cnt, Tr.bulkL, Tr.bulk]
  omega
theorem GProgram.cnts_le (l : List GProgram) : Tr.cntE (GProgram.trs l) ≤ 20 * l.length + 20 * Tr.bulkAll (GProgram.trs l) := by
  have h := cnts_of (GProgram.all (l := l) (Q := fun e => Tr.cntL e ≤ 20 + 20 * Tr.bulkL e) (fun x _ => by have := GProgram.cnt_le x; omega))
  rw [GProgram.trs_len] at h
  exact h
theorem GProgram.top_le (x : GProgram) : Tr.topN x.tr ≤ 20 + 20 * Tr.bulkL x.tr := by
  have h1 := Tr.topN_cnt x.tr
  have h2 := GProgram.cnt_le x
  omega
end Go.Proofs.YtnakkelglbcecaaGreat

namespace Go.Proofs.YtnakkelglbcecaaGreat
set_option linter.unusedSimpArgs false
set_option linter.unusedVariables false
open Go.RowKit Go.WalkArith Go.IntWalk Go.WideShapes

set_option maxRecDepth 100000 in
set_option maxHeartbeats 4000000 in
theorem pathToK (w : GProgram) : ∀ (n : Nat) (s d : ByteArray), n ≤ 1000 → ARow Tryz.prog 96 [(GProgram.pv w), .t (.leaf (.string s)), .t (.leaf (.string d)), .t (.leaf (.int .i64 ((n : Nat) : Int)))] 3 1 (intTrs (oPath (pathF w n s d))) (some [.t (.leaf (.bool (pathF w n s d).isSome))]) := by
  intro n
  cases n with
  | zero =>
  intro s d hn
  unfold ARow
  refine ACalls.intro Tryz.func96 rfl (by first | decide | (simp; done) | (simp; decide)) ?_
  intro C hC
  refine AWP.seq ?_
  refine AWP.region_lit ?_
  refine AL.cons rfl (AOp.box (cs := [.t (.row 6 (GPackage.trs (w.gPackages)))]) rfl rfl rfl rfl rfl) ?_
  refine AL.cons rfl (AOp.move (.inr rfl) rfl rfl) ?_
  refine AL.cons rfl (AOp.move (.inr rfl) rfl rfl) ?_
  refine AL.nil ?_
  refine AWP.seq ?_
  refine AWP.seq ?_
  refine AWP.region_lit ?_
  refine AL.cons rfl (AOp.move (.inl rfl) rfl rfl) ?_
  refine AL.cons rfl (AOp.move (.inl rfl) rfl rfl) ?_
  refine AL.cons rfl (AOp.eqlS rfl rfl rfl rfl) ?_
  refine AL.nil ?_
  refine AWP.cond rfl (fun h1 => ?_) (fun h1 => ?_)
  · skip
    have h1b := h1
    try simp only [Bool.and_eq_true, Bool.or_eq_true, Bool.and_eq_false_iff, Bool.or_eq_false_iff, decide_eq_true_eq, decide_eq_false_iff_not, Bool.not_eq_true', Bool.not_eq_false', Bool.not_eq_eq_eq_not, Bool.not_true, Bool.not_false, ge_iff_le, gt_iff_lt, Int.not_lt, Int.not_le] at h1b
    refine AWP.seq ?_
    refine AWP.region_lit ?_
    refine AL.cons rfl (AOp.buildSlice (es := intTrs ([])) (cs := []) rfl rfl el60 zr3 rfl rfl (by (repeat' (first | exact PV.Le.refl _ | exact LeL.nil | exact PV.Le.nil _ | exact PV.Le.acc _ _ _ | apply LeL.cons | apply PV.Le.agg | apply PV.Le.tup))) rfl (by simp [intTrs]) (by decide) rfl (by decide)) ?_
    refine AL.cons rfl (AOp.move (.inr rfl) rfl rfl) ?_
    refine AL.cons rfl (AOp.move (.inr rfl) rfl rfl) ?_
    refine AL.nil ?_
    refine AWP.ret ?_
    have hq : pathF w (0) s d = some [] := by rw [pathF, if_pos (by assumption)]
    exact Ends.mk (ps := [_, _]) (.inr rfl) ⟨rfl, rfl, trivial⟩ rfl (StLe.mk' (st' := ⟨[], [⟨3, 1, intTrs [], false⟩]⟩) (by first | exact trivial | exact ⟨trivial, trivial⟩) rfl) ⟨fun k x h => by simp [hC] at h, fun r row h => by simp [hC] at h⟩ (q := .tup [.acc 1 (intTrs []) 0, .t (.leaf (.bool true))]) (by (repeat' (first | exact PV.Le.refl _ | exact LeL.nil | exact PV.Le.nil _ | exact PV.Le.acc _ _ _ | apply LeL.cons | apply PV.Le.agg | apply PV.Le.tup))) rfl ⟨0, by rw [hq]; rfl, by rw [hq]; rfl⟩
  · skip
    have h1b := h1
    try simp only [Bool.and_eq_true, Bool.or_eq_true, Bool.and_eq_false_iff, Bool.or_eq_false_iff, decide_eq_true_eq, decide_eq_false_iff_not, Bool.not_eq_true', Bool.not_eq_false', Bool.not_eq_eq_eq_not, Bool.not_true, Bool.not_false, ge_iff_le, gt_iff_lt, Int.not_lt, Int.not_le] at h1b
    refine AWP.skip ?_
    refine AWP.seq ?_
    refine AWP.seq ?_
    refine AWP.region_lit ?_
    refine AL.cons rfl (AOp.move (.inl rfl) rfl rfl) ?_
    refine AL.cons rfl (AOp.eqlI rfl rfl rfl rfl) ?_
    refine AL.nil ?_
    refine AWP.cond rfl (fun h2 => ?_) (fun h2 => ?_)
    · skip
      have h2b := h2
      try simp only [Bool.and_eq_true, Bool.or_eq_true, Bool.and_eq_false_iff, Bool.or_eq_false_iff, decide_eq_true_eq, decide_eq_false_iff_not, Bool.not_eq_true', Bool.not_eq_false', Bool.not_eq_eq_eq_not, Bool.not_true, Bool.not_false, ge_iff_le, gt_iff_lt, Int.not_lt, Int.not_le] at h2b
      refine AWP.seq ?_
      refine AWP.region_lit ?_
      refine AL.cons rfl (AOp.move (.inr rfl) rfl rfl) ?_
      refine AL.cons rfl (AOp.move (.inr rfl) rfl rfl) ?_
      refine AL.nil ?_
      refine AWP.wk (Wk.reg (i := 8) 3 1 (by decide) rfl) ?_
      refine AWP.ret ?_
      have hq : pathF w (0) s d = none := by first | exact pathL_end (by omega) hi2 | (rw [pathF, if_neg (by assumption)])
      exact Ends.mk (ps := [_, _]) (.inr rfl) ⟨rfl, rfl, trivial⟩ rfl (StLe.mk' (st' := ⟨[], [⟨3, 1, intTrs [], false⟩]⟩) (by first | exact trivial | exact ⟨trivial, trivial⟩) rfl) ⟨fun k x h => by simp [hC] at h, fun r row h => by simp [hC] at h⟩ (q := .tup [.acc 1 (intTrs []) 0, .t (.leaf (.bool false))]) (by (repeat' (first | exact PV.Le.refl _ | exact LeL.nil | exact PV.Le.nil _ | exact PV.Le.acc _ _ _ | apply LeL.cons | apply PV.Le.agg | apply PV.Le.tup))) rfl ⟨0, by rw [hq]; rfl, by rw [hq]; rfl⟩
    · skip
      exact absurd (h2.symm.trans rfl) (by decide)
  | succ n =>
  have ih := pathTo_ok w n
  intro s d hn
  unfold ARow
  refine ACalls.intro Tryz.func96 rfl (by first | decide | (simp; done) | (simp; decide)) ?_
  intro C hC
  have hsucc : decide ((((n + 1 : Nat) : Int) : Int) = 0) = false := by rw [decide_eq_false_iff_not]; omega
  refine AWP.seq ?_
  refine AWP.region_lit ?_
  refine AL.cons rfl (AOp.box (cs := [.t (.row 6 (GPackage.trs (w.gPackages)))]) rfl rfl rfl rfl rfl) ?_
  refine AL.cons rfl (AOp.move (.inr rfl) rfl rfl) ?_
  refine AL.cons rfl (AOp.move (.inr rfl) rfl rfl) ?_
  refine AL.nil ?_
  refine AWP.seq ?_
  refine AWP.seq ?_
  refine AWP.region_lit ?_
  refine AL.cons rfl (AOp.move (.inl rfl) rfl rfl) ?_
  refine AL.cons rfl (AOp.move (.inl rfl) rfl rfl) ?_
  refine AL.cons rfl (AOp.eqlS rfl rfl rfl rfl) ?_
  refine AL.nil ?_
  refine AWP.cond rfl (fun h1 => ?_) (fun h1 => ?_)
  · skip
    have h1b := h1
    try simp only [Bool.and_eq_true, Bool.or_eq_true, Bool.and_eq_false_iff, Bool.or_eq_false_iff, decide_eq_true_eq, decide_eq_false_iff_not, Bool.not_eq_true', Bool.not_eq_false', Bool.not_eq_eq_eq_not, Bool.not_true, Bool.not_false, ge_iff_le, gt_iff_lt, Int.not_lt, Int.not_le] at h1b
    refine AWP.seq ?_
    refine AWP.region_lit ?_
    refine AL.cons rfl (AOp.buildSlice (es := intTrs ([])) (cs := []) rfl rfl el60 zr3 rfl rfl (by (repeat' (first | exact PV.Le.refl _ | exact LeL.nil | exact PV.Le.nil _ | exact PV.Le.acc _ _ _ | apply LeL.cons | apply PV.Le.agg | apply PV.Le.tup))) rfl (by simp [intTrs]) (by decide) rfl (by decide)) ?_
    refine AL.cons rfl (AOp.move (.inr rfl) rfl rfl) ?_
    refine AL.cons rfl (AOp.move (.inr rfl) rfl rfl) ?_
    refine AL.nil ?_
    refine AWP.ret ?_
    have hq : pathF w (n + 1) s d = some [] := by rw [pathF, if_pos (by assumption)]
    exact Ends.mk (ps := [_, _]) (.inr rfl) ⟨rfl, rfl, trivial⟩ rfl (StLe.mk' (st' := ⟨[], [⟨3, 1, intTrs [], false⟩]⟩) (by first | exact trivial | exact ⟨trivial, trivial⟩) rfl) ⟨fun k x h => by simp [hC] at h, fun r row h => by simp [hC] at h⟩ (q := .tup [.acc 1 (intTrs []) 0, .t (.leaf (.bool true))]) (by (repeat' (first | exact PV.Le.refl _ | exact LeL.nil | exact PV.Le.nil _ | exact PV.Le.acc _ _ _ | apply LeL.cons | apply PV.Le.agg | apply PV.Le.tup))) rfl ⟨0, by rw [hq]; rfl, by rw [hq]; rfl⟩
  · skip
    have h1b := h1
    try simp only [Bool.and_eq_true, Bool.or_eq_true, Bool.and_eq_false_iff, Bool.or_eq_false_iff, decide_eq_true_eq, decide_eq_false_iff_not, Bool.not_eq_true', Bool.not_eq_false', Bool.not_eq_eq_eq_not, Bool.not_true, Bool.not_false, ge_iff_le, gt_iff_lt, Int.not_lt, Int.not_le] at h1b
    refine AWP.skip ?_
    refine AWP.seq ?_
    refine AWP.seq ?_
    refine AWP.region_lit ?_
    refine AL.cons rfl (AOp.move (.inl rfl) rfl rfl) ?_
    refine AL.cons rfl (AOp.eqlI rfl rfl rfl rfl) ?_
    refine AL.nil ?_
    refine AWP.cond rfl (fun h2 => ?_) (fun h2 => ?_)
    · skip
      exact absurd (h2.symm.trans hsucc) (by decide)
    · skip
      have h2b := h2
      try simp only [Bool.and_eq_true, Bool.or_eq_true, Bool.and_eq_false_iff, Bool.or_eq_false_iff, decide_eq_true_eq, decide_eq_false_iff_not, Bool.not_eq_true', Bool.not_eq_false', Bool.not_eq_eq_eq_not, Bool.not_true, Bool.not_false, ge_iff_le, gt_iff_lt, Int.not_lt, Int.not_le] at h2b
      refine AWP.skip ?_
      refine AWP.seq ?_
      refine AWP.region_lit ?_
      refine AL.cons rfl (AOp.loadPtr (cs := [.t (.row 6 (GPackage.trs (w.gPackages)))]) rfl rfl rfl rfl sh31 rfl rfl) ?_
      refine AL.cons rfl (AOp.move (.inl rfl) rfl rfl) ?_
      refine AL.cons rfl (AOp.callF (ps := [_, _]) rfl rfl Tryz.func82 (by kernel_rfl) rfl rfl (by (repeat' (first | exact PV.Le.refl _ | exact LeL.nil | exact PV.Le.nil _ | exact PV.Le.acc _ _ _ | apply LeL.cons | apply PV.Le.agg | apply PV.Le.tup))) rfl rfl (trait_impl w s)) ?_
      refine AL.cons rfl (AOp.move (.inl rfl) rfl rfl) ?_
      refine AL.cons rfl (AOp.extract rfl rfl rfl rfl) ?_
      refine AL.cons rfl (AOp.extract rfl rfl rfl rfl) ?_
      refine AL.cons rfl (AOp.extract rfl rfl rfl rfl) ?_
      refine AL.cons rfl (AOp.alloc rfl rfl zr94) ?_
      refine AL.cons rfl (AOp.storePtr (cs := [.t (.leaf (.string ((oTrait (w.traitAt s)).gName))), .t (.row 1 (strTrs ((oTrait (w.traitAt s)).gSupertraits))), .t (.leaf (.bool ((oTrait (w.traitAt s)).gAuto))), .t (.leaf (.bool ((oTrait (w.traitAt s)).gAssoc))), .t (.row 16 (GSignature.trs ((oTrait (w.traitAt s)).gSignatures)))]) (ds := [.t (.leaf (.string ((oTrait (w.traitAt s)).gName))), .t (.row 1 (strTrs ((oTrait (w.traitAt s)).gSupertraits))), .t (.leaf (.bool ((oTrait (w.traitAt s)).gAuto))), .t (.leaf (.bool ((oTrait (w.traitAt s)).gAssoc))), .t (.row 16 (GSignature.trs ((oTrait (w.traitAt s)).gSignatures)))]) rfl rfl rfl rfl rfl rfl rfl sz94 (Nat.le_of_ble_eq_true rfl) rfl) ?_
      refine AL.cons rfl (AOp.move (.inr rfl) rfl rfl) ?_
      refine AL.cons rfl (AOp.move (.inr rfl) rfl rfl) ?_
      refine AL.nil ?_
      refine AWP.seq ?_
      refine AWP.seq ?_
      refine AWP.region_lit ?_
      refine AL.cons rfl (AOp.fieldPtr (k := 1) (d := 0) (e := 1) rfl rfl rfl fo94_1) ?_
      refine AL.cons rfl (AOp.loadPtr1 rfl rfl rfl rfl sh54 rfl) ?_
      refine AL.fact (lk_lenN 31 rfl rfl (strTrs_len _)) (fun hl3 => ?_)
      refine AL.cons rfl (AOp.lenN rfl rfl rfl rfl el54 (strTrs_len _)) ?_
      refine AL.cons rfl (AOp.move (.inl rfl) rfl rfl) ?_
      refine AL.nil ?_
      refine AWP.block ?_
      refine AWP.loopJ (ι := Nat) (fun i => i ≤ (oTrait (w.traitAt s)).gSupertraits.length ∧ pathF w (n + 1) s d = pathF.pathL (pathF w n) d i ((oTrait (w.traitAt s)).gSupertraits.drop i)) (fun i => ⟨[(0, (GProgram.pv w)), (1, .t (.leaf (.string (s)))), (2, .t (.leaf (.string (d)))), (3, .t (.leaf (.int .i64 (((n + 1 : Nat) : Int))))), (4, .ptr 0 0), (10, .ptr 1 0), (11, .t (.leaf (.int .i64 (oInt (w.traitAt s))))), (12, .t (.leaf (.bool ((w.traitAt s).isSome)))), (31, .t (.row 1 (strTrs ((oTrait (w.traitAt s)).gSupertraits)))), (32, .t (.leaf (.int .i64 (((((oTrait (w.traitAt s)).gSupertraits).length : Nat) : Int))))), (33, .t (.leaf (.int .i64 (((i : Nat) : Int)))))], ⟨[some ⟨31, [.t (.row 6 (GPackage.trs (w.gPackages)))]⟩, some ⟨94, [.t (.leaf (.string ((oTrait (w.traitAt s)).gName))), .t (.row 1 (strTrs ((oTrait (w.traitAt s)).gSupertraits))), .t (.leaf (.bool ((oTrait (w.traitAt s)).gAuto))), .t (.leaf (.bool ((oTrait (w.traitAt s)).gAssoc))), .t (.row 16 (GSignature.trs ((oTrait (w.traitAt s)).gSignatures)))]⟩], []⟩⟩) (fun i => (oTrait (w.traitAt s)).gSupertraits.length - i) 0 ?_ ?_ ?_
      · exact ⟨Nat.zero_le _, by rw [pathF, if_neg (by assumption)]; rfl⟩
      · skip
        exact Wk.mk (StLe.mk' ⟨⟨rfl, by (repeat' (first | exact PV.Le.refl _ | exact LeL.nil | exact PV.Le.nil _ | exact PV.Le.acc _ _ _ | apply LeL.cons | apply PV.Le.agg | apply PV.Le.tup)), rfl⟩, ⟨⟨rfl, by (repeat' (first | exact PV.Le.refl _ | exact LeL.nil | exact PV.Le.nil _ | exact PV.Le.acc _ _ _ | apply LeL.cons | apply PV.Le.agg | apply PV.Le.tup)), rfl⟩, trivial⟩⟩ rfl) (keeps_nil hC) ⟨⟨_, rfl, .refl _, rfl⟩, ⟨⟨_, rfl, .refl _, rfl⟩, ⟨⟨_, rfl, .refl _, rfl⟩, ⟨⟨_, rfl, .refl _, rfl⟩, ⟨⟨_, rfl, .refl _, rfl⟩, ⟨⟨_, rfl, .refl _, rfl⟩, ⟨⟨_, rfl, .refl _, rfl⟩, ⟨⟨_, rfl, .refl _, rfl⟩, ⟨⟨_, rfl, .refl _, rfl⟩, ⟨⟨_, rfl, .refl _, rfl⟩, ⟨⟨_, rfl, by (repeat' (first | exact PV.Le.refl _ | exact LeL.nil | exact PV.Le.nil _ | exact PV.Le.acc _ _ _ | apply LeL.cons | apply PV.Le.agg | apply PV.Le.tup)), rfl⟩, trivial⟩⟩⟩⟩⟩⟩⟩⟩⟩⟩⟩
      rintro i hJ4
      obtain ⟨hi1, hi2⟩ := hJ4
      refine AWP.seq ?_
      refine AWP.region_lit ?_
      refine AL.cons rfl (AOp.lss rfl rfl rfl rfl) ?_
      refine AL.nil ?_
      refine AWP.seq ?_
      refine AWP.cond rfl (fun h5 => ?_) (fun h5 => ?_)
      · skip
        have h5b := h5
        try simp only [Bool.and_eq_true, Bool.or_eq_true, Bool.and_eq_false_iff, Bool.or_eq_false_iff, decide_eq_true_eq, decide_eq_false_iff_not, Bool.not_eq_true', Bool.not_eq_false', Bool.not_eq_eq_eq_not, Bool.not_true, Bool.not_false, ge_iff_le, gt_iff_lt, Int.not_lt, Int.not_le] at h5b
        have h5n : i < ((oTrait (w.traitAt s)).gSupertraits).length := by omega
        refine AWP.skip ?_
        refine AWP.seq ?_
        refine AWP.block ?_
        refine AWP.seq ?_
        refine AWP.region_lit ?_
        refine AL.cons rfl (AOp.move (.inl rfl) rfl rfl) ?_
        refine AL.cons rfl (AOp.index (k := i) rfl rfl rfl rfl rfl (strTrs_cs h5n) el54) ?_
        refine AL.cons rfl (AOp.loadEptr1 (d := .leaf (.string (((oTrait (w.traitAt s)).gSupertraits)[i]))) rfl rfl rfl sh9 rfl) ?_
        refine AL.cons rfl (AOp.move (.inr rfl) rfl rfl) ?_
        refine AL.cons rfl (AOp.move (.inr rfl) rfl rfl) ?_
        refine AL.nil ?_
        refine AWP.seq ?_
        refine AWP.region_lit ?_
        refine AL.cons rfl (AOp.loadPtr (cs := [.t (.row 6 (GPackage.trs (w.gPackages)))]) rfl rfl rfl rfl sh31 rfl rfl) ?_
        refine AL.cons rfl (AOp.move (.inl rfl) rfl rfl) ?_
        refine AL.cons rfl (AOp.move (.inl rfl) rfl rfl) ?_
        refine AL.cons rfl (AOp.move (.inl rfl) rfl rfl) ?_
        refine AL.cons rfl (AOp.subI rfl rfl rfl rfl (c := ((n : Nat) : Int)) (by omega) (by omega)) ?_
        refine AL.cons rfl (AOp.callF (ps := [_, _, _, _]) rfl rfl Tryz.func96 (by kernel_rfl) rfl rfl (by (repeat' (first | exact PV.Le.refl _ | exact LeL.nil | exact PV.Le.nil _ | exact PV.Le.acc _ _ _ | apply LeL.cons | apply PV.Le.agg | apply PV.Le.tup))) rfl rfl (ih (((oTrait (w.traitAt s)).gSupertraits)[i]) d (by omega))) ?_
        refine AL.cons rfl (AOp.move (.inl rfl) rfl rfl) ?_
        refine AL.cons rfl (AOp.extract rfl rfl rfl rfl) ?_
        refine AL.cons rfl (AOp.extract rfl rfl rfl rfl) ?_
        refine AL.cons rfl (AOp.move (.inr rfl) rfl rfl) ?_
        refine AL.cons rfl (AOp.move (.inr rfl) rfl rfl) ?_
        refine AL.nil ?_
        refine AWP.seq ?_
        refine AWP.region_lit ?_
        refine AL.cons rfl (AOp.move (.inl rfl) rfl rfl) ?_
        refine AL.nil ?_
        refine AWP.cond rfl (fun h6 => ?_) (fun h6 => ?_)
        · skip
          have h6b := h6
          try simp only [Bool.and_eq_true, Bool.or_eq_true, Bool.and_eq_false_iff, Bool.or_eq_false_iff, decide_eq_true_eq, decide_eq_false_iff_not, Bool.not_eq_true', Bool.not_eq_false', Bool.not_eq_eq_eq_not, Bool.not_true, Bool.not_false, ge_iff_le, gt_iff_lt, Int.not_lt, Int.not_le] at h6b
          refine AWP.seq ?_
          refine AWP.region_lit ?_
          refine AL.cons rfl (AOp.move (.inl rfl) rfl rfl) ?_
          refine AL.cons rfl (AOp.buildSlice (es := intTrs ([((i : Nat) : Int)])) (cs := [.t (.leaf (.int .i64 (((i : Nat) : Int))))]) rfl rfl el60 zr3 rfl rfl (by (repeat' (first | exact PV.Le.refl _ | exact LeL.nil | exact PV.Le.nil _ | exact PV.Le.acc _ _ _ | apply LeL.cons | apply PV.Le.agg | apply PV.Le.tup))) rfl (by simp [intTrs]) (by decide) rfl (by decide)) ?_
          refine AL.cons rfl (AOp.move (.inl rfl) rfl rfl) ?_
          refine AL.cons rfl (AOp.appendE (es3 := intTrs (([((i : Nat) : Int)]) ++ (oPath (pathF w (n) (((oTrait (w.traitAt s)).gSupertraits)[i]) d)))) rfl rfl rfl rfl rfl rfl rfl rfl rfl (intTrs_all _) el60 ze60 (by decide) (by have := pathF_len w n (oTrait (w.traitAt s)).gSupertraits[i] d; rw [intTrs_len, intTrs_len]; simp; omega) (intTrs_append _ _)) ?_
          refine AL.cons rfl (AOp.move (.inr rfl) rfl rfl) ?_
          refine AL.cons rfl (AOp.move (.inr rfl) rfl rfl) ?_
          refine AL.nil ?_
          refine AWP.ret ?_
          have hq := pathL_hit (by omega) hi2 (by assumption)
          exact Ends.mk (ps := [_, _]) (.inr rfl) ⟨rfl, rfl, trivial⟩ rfl (StLe.mk' (st' := ⟨[], [⟨3, 1, intTrs (([((i : Nat) : Int)]) ++ (oPath (pathF w (n) (((oTrait (w.traitAt s)).gSupertraits)[i]) d))), false⟩]⟩) (by first | exact trivial | exact ⟨trivial, trivial⟩) rfl) ⟨fun k x h => by simp [hC] at h, fun r row h => by simp [hC] at h⟩ (q := .tup [.acc 1 (intTrs (([((i : Nat) : Int)]) ++ (oPath (pathF w (n) (((oTrait (w.traitAt s)).gSupertraits)[i]) d)))) 0, .t (.leaf (.bool true))]) (by (repeat' (first | exact PV.Le.refl _ | exact LeL.nil | exact PV.Le.nil _ | exact PV.Le.acc _ _ _ | apply LeL.cons | apply PV.Le.agg | apply PV.Le.tup))) rfl ⟨0, by rw [hq]; rfl, by rw [hq]; rfl⟩
        · skip
          have h6b := h6
          try simp only [Bool.and_eq_true, Bool.or_eq_true, Bool.and_eq_false_iff, Bool.or_eq_false_iff, decide_eq_true_eq, decide_eq_false_iff_not, Bool.not_eq_true', Bool.not_eq_false', Bool.not_eq_eq_eq_not, Bool.not_true, Bool.not_false, ge_iff_le, gt_iff_lt, Int.not_lt, Int.not_le] at h6b
          refine AWP.skip ?_
          refine AWP.region_lit ?_
          refine AL.cons rfl (AOp.addI rfl rfl rfl rfl (c := ((i + 1 : Nat) : Int)) (by omega) (by omega)) ?_
          refine AL.cons rfl (AOp.move (.inl rfl) rfl rfl) ?_
          refine AL.nil ?_
          refine ⟨i + 1, ?_, ?_, ?_⟩
          · exact ⟨by omega, pathL_next (by omega) hi2 (by assumption)⟩
          · skip
            exact Wk.mk (StLe.mk' ⟨⟨rfl, by (repeat' (first | exact PV.Le.refl _ | exact LeL.nil | exact PV.Le.nil _ | exact PV.Le.acc _ _ _ | apply LeL.cons | apply PV.Le.agg | apply PV.Le.tup)), rfl⟩, ⟨⟨rfl, by (repeat' (first | exact PV.Le.refl _ | exact LeL.nil | exact PV.Le.nil _ | exact PV.Le.acc _ _ _ | apply LeL.cons | apply PV.Le.agg | apply PV.Le.tup)), rfl⟩, trivial⟩⟩ rfl) (keeps_nil hC) ⟨⟨_, rfl, .refl _, rfl⟩, ⟨⟨_, rfl, .refl _, rfl⟩, ⟨⟨_, rfl, .refl _, rfl⟩, ⟨⟨_, rfl, .refl _, rfl⟩, ⟨⟨_, rfl, .refl _, rfl⟩, ⟨⟨_, rfl, .refl _, rfl⟩, ⟨⟨_, rfl, .refl _, rfl⟩, ⟨⟨_, rfl, .refl _, rfl⟩, ⟨⟨_, rfl, .refl _, rfl⟩, ⟨⟨_, rfl, .refl _, rfl⟩, ⟨⟨_, rfl, by (repeat' (first | exact PV.Le.refl _ | exact LeL.nil | exact PV.Le.nil _ | exact PV.Le.acc _ _ _ | apply LeL.cons | apply PV.Le.agg | apply PV.Le.tup)), rfl⟩, trivial⟩⟩⟩⟩⟩⟩⟩⟩⟩⟩⟩
          · omega
      · skip
        have h5b := h5
        try simp only [Bool.and_eq_true, Bool.or_eq_true, Bool.and_eq_false_iff, Bool.or_eq_false_iff, decide_eq_true_eq, decide_eq_false_iff_not, Bool.not_eq_true', Bool.not_eq_false', Bool.not_eq_eq_eq_not, Bool.not_true, Bool.not_false, ge_iff_le, gt_iff_lt, Int.not_lt, Int.not_le] at h5b
        have h5n : i ≥ ((oTrait (w.traitAt s)).gSupertraits).length := by omega
        refine AWP.exit ?_
        refine AWP.seq ?_
        refine AWP.region_lit ?_
        refine AL.cons rfl (AOp.move (.inr rfl) rfl rfl) ?_
        refine AL.cons rfl (AOp.move (.inr rfl) rfl rfl) ?_
        refine AL.nil ?_
        refine AWP.wk (Wk.reg (i := 8) 3 1 (by decide) rfl) ?_
        refine AWP.ret ?_
        have hq : pathF w (n + 1) s d = none := by first | exact pathL_end (by omega) hi2 | (rw [pathF, if_neg (by assumption)])
        exact Ends.mk (ps := [_, _]) (.inr rfl) ⟨rfl, rfl, trivial⟩ rfl (StLe.mk' (st' := ⟨[], [⟨3, 1, intTrs [], false⟩]⟩) (by first | exact trivial | exact ⟨trivial, trivial⟩) rfl) ⟨fun k x h => by simp [hC] at h, fun r row h => by simp [hC] at h⟩ (q := .tup [.acc 1 (intTrs []) 0, .t (.leaf (.bool false))]) (by (repeat' (first | exact PV.Le.refl _ | exact LeL.nil | exact PV.Le.nil _ | exact PV.Le.acc _ _ _ | apply LeL.cons | apply PV.Le.agg | apply PV.Le.tup))) rfl ⟨0, by rw [hq]; rfl, by rw [hq]; rfl⟩
set_option maxRecDepth 100000 in
set_option maxHeartbeats 4000000 in
theorem pathK (w : GProgram) (s : ByteArray) (d : ByteArray) : ARow Tryz.prog 34 [(GProgram.pv w), .t (.leaf (.string (s))), .t (.leaf (.string (d)))] 3 1 (intTrs (oPath (pathF w 8 s d))) (some [.t (.leaf (.bool (pathF w 8 s d).isSome))]) := by
  unfold ARow
  refine ACalls.intro Tryz.func34 rfl (by first | decide | (simp; done) | (simp; decide)) ?_
  intro C hC
  refine AWP.seq ?_
  refine AWP.region_lit ?_
  refine AL.cons rfl (AOp.box (cs := [.t (.row 6 (GPackage.trs (w.gPackages)))]) rfl rfl rfl rfl rfl) ?_
  refine AL.cons rfl (AOp.move (.inr rfl) rfl rfl) ?_
  refine AL.cons rfl (AOp.move (.inr rfl) rfl rfl) ?_
  refine AL.nil ?_
  refine AWP.seq ?_
  refine AWP.region_lit ?_
  refine AL.cons rfl (AOp.loadPtr (cs := [.t (.row 6 (GPackage.trs (w.gPackages)))]) rfl rfl rfl rfl sh31 rfl rfl) ?_
  refine AL.cons rfl (AOp.move (.inl rfl) rfl rfl) ?_
  refine AL.cons rfl (AOp.move (.inl rfl) rfl rfl) ?_
  refine AL.cons rfl (AOp.callRow (ps := [_, _, _, _]) (rs := some [.t (.leaf (.bool (pathF w 8 s d).isSome))]) rfl rfl Tryz.func96 (by kernel_rfl) rfl rfl (by (repeat' (first | exact PV.Le.refl _ | exact LeL.nil | exact PV.Le.nil _ | exact PV.Le.acc _ _ _ | apply LeL.cons | apply PV.Le.agg | apply PV.Le.tup))) rfl rfl (pathToK w 8 s d (by decide))) ?_
  refine AL.cons rfl (AOp.extract rfl rfl rfl rfl) ?_
  refine AL.cons rfl (AOp.extract rfl rfl rfl rfl) ?_
  refine AL.cons rfl (AOp.move (.inr rfl) rfl rfl) ?_
  refine AL.cons rfl (AOp.move (.inr rfl) rfl rfl) ?_
  refine AL.nil ?_
  refine AWP.ret ?_
  exact Ends.mk (ps := [_, _]) (.inr rfl) ⟨rfl, rfl, trivial⟩ rfl (StLe.mk' (st' := ⟨[], [⟨3, 1, intTrs (oPath (pathF w 8 s d)), false⟩]⟩) trivial rfl) ⟨fun k x h => by simp [hC] at h, fun r row h => by simp [hC] at h⟩ (q := .tup [.acc 1 (intTrs (oPath (pathF w 8 s d))) 0, .t (.leaf (.bool (pathF w 8 s d).isSome))]) (by (repeat' (first | exact PV.Le.refl _ | exact LeL.nil | exact PV.Le.nil _ | exact PV.Le.acc _ _ _ | apply LeL.cons | apply PV.Le.agg | apply PV.Le.tup))) rfl ⟨0, rfl, rfl⟩
theorem pathP_impl (x0 : GProgram) (x1 x2 : ByteArray) (w : World) (c0 : List Value) (h0 : RepL w x0.tr c0) (h1 : x1.size ≤ maxLen) (h2 : x2.size ≤ maxLen) : Calls Tryz.prog 34 #[.agg ⟨c0⟩, .string x1, .string x2] w fun e w' => ∃ v, e = .returned (.tuple #[v, .bool (pathF x0 8 x1 x2).isSome]) ∧ Ext w w' ∧ Own w' (.row 1 (intTrs (oPath (pathF x0 8 x1 x2)))) v (Between w w') := by
  rw [GProgram.tr_cs] at h0
  exact (pathK x0 x1 x2).own2 (intTrs_flat _) (RVL0.cons (RV0.agg h0) (RVL0.cons (RV0.t (.leaf h1)) (RVL0.cons (RV0.t (.leaf h2)) RVL0.nil)))
theorem pathP_spec (x0 : GProgram) (x1 x2 : ByteArray) (w : World) (c0 : List Value) (h0 : RepL w x0.tr c0) (h1 : x1.size ≤ maxLen) (h2 : x2.size ≤ maxLen) : Calls Tryz.prog 33 #[.agg ⟨c0⟩, .string x1, .string x2] w fun e w' => ∃ v, e = .returned (.tuple #[v, .bool (pathF x0 8 x1 x2).isSome]) ∧ Ext w w' ∧ Rep w' (.row 1 (intTrs (oPath (pathF x0 8 x1 x2)))) v := by
  rw [GProgram.tr_cs] at h0
  exact (path_spec x0 x1 x2).plainRB (RVL0.cons (RV0.agg h0) (RVL0.cons (RV0.t (.leaf h1)) (RVL0.cons (RV0.t (.leaf h2)) RVL0.nil)))

end Go.Proofs.YtnakkelglbcecaaGreat
