/- Words, rules and walks of several kinds, laid together: PmSup, PmStrs, MaPath, PlPath, MaAssum, AccT, CopyTy, AppH, PmK, PlZ, Cnt, PmSupK, PmPathK. No conditions but those that each theorem states. -/
import Derived.Test.YtnakkelglbcecaaGreatQh3fedf622
import Derived.Test.YtnakkelglbcecaaGreatQh2288c63d
import Derived.Deep.AppendLies
import Derived.Test.YtnakkelglbcecaaGreatQh38f16fd3
import Derived.Test.YtnakkelglbcecaaGreatQhed7a0d23
set_option linter.unusedSimpArgs false
set_option linter.unusedVariables false
namespace Go.Proofs.YtnakkelglbcecaaGreat
open Go.RowKit Go.Proofs
set_option linter.unusedSimpArgs false
set_option linter.unusedVariables false


instance memDec (s : ByteArray) (l : List ByteArray) : Decidable (s ∈ l) := decidable_of_iff (l.any (fun x => decide (x = s)) = true) (by simp)
def idxS (l : List ByteArray) (s : ByteArray) : Int := match l.findIdx? (fun x => decide (x = s)) with | some i => (i : Int) | none => -1
theorem idxS_hit {l : List ByteArray} {s : ByteArray} {i : Nat} (h : i < l.length) (hm : ∀ (j : Nat) (hj : j < l.length), j < i → ¬ l[j] = s) (he : l[i] = s) : idxS l s = (i : Int) := by
  have : l.findIdx? (fun x => decide (x = s)) = some i := by
    rw [List.findIdx?_eq_some_iff_getElem]
    exact ⟨h, by simpa using he, fun j hj => by simpa using hm j (by omega) hj⟩
  simp [idxS, this]
theorem idxS_miss {l : List ByteArray} {s : ByteArray} (hm : ∀ (j : Nat) (hj : j < l.length), ¬ l[j] = s) : idxS l s = -1 := by
  have : l.findIdx? (fun x => decide (x = s)) = none := by
    rw [List.findIdx?_eq_none_iff]
    intro x hx
    obtain ⟨j, hj, rfl⟩ := List.mem_iff_getElem.1 hx
    simpa using hm j hj
  simp [idxS, this]
theorem idxS_mem (l : List ByteArray) (s : ByteArray) : decide (idxS l s ≥ 0) = decide (s ∈ l) := by
  by_cases h : s ∈ l
  · cases hq : l.findIdx? (fun x => decide (x = s)) with
    | none =>
      rw [List.findIdx?_eq_none_iff] at hq
      have := hq s h
      simp at this
    | some i => simp [idxS, hq, h]
  · have : l.findIdx? (fun x => decide (x = s)) = none := by
      rw [List.findIdx?_eq_none_iff]
      intro x hx
      simp only [decide_eq_false_iff_not]
      rintro rfl
      exact h hx
    simp [idxS, this, h]
theorem mem_hit {l : List ByteArray} {s : ByteArray} {i : Nat} (h : i < l.length) (he : l[i] = s) : decide (s ∈ l) = true := by
  subst he
  simp
theorem mem_miss {l : List ByteArray} {s : ByteArray} (hm : ∀ (j : Nat) (hj : j < l.length), ¬ l[j] = s) : decide (s ∈ l) = false := by
  simp only [decide_eq_false_iff_not]
  intro h
  obtain ⟨j, hj, he⟩ := List.mem_iff_getElem.1 h
  exact hm j hj he
theorem miss_next {l : List ByteArray} {s : ByteArray} {i : Nat} (hm : ∀ (j : Nat) (hj : j < l.length), j < i → ¬ l[j] = s) (h : i < l.length) (he : ¬ l[i] = s) : ∀ (j : Nat) (hj : j < l.length), j < i + 1 → ¬ l[j] = s := fun j hj hji => by
  rcases Nat.lt_or_ge j i with h1 | h1
  · exact hm j hj h1
  · have : j = i := by omega
    subst this
    exact he

theorem findP_mem {α : Type} {key : α → ByteArray} {items : GPackage → List α} {s : ByteArray} {x : α × Nat} : ∀ {ps : List GPackage} {i : Nat}, findP key items s i ps = some x → ∃ p ∈ ps, x.1 ∈ items p
  | [], _, h => by simp [findP] at h
  | p :: ps, i, h => by
    rw [findP] at h
    split at h
    · rename_i y hy
      cases h
      exact ⟨p, by simp, List.mem_of_find?_eq_some hy⟩
    · obtain ⟨q, hq, hx⟩ := findP_mem h
      exact ⟨q, by simp [hq], hx⟩
theorem traitAt_mem {w : GProgram} {s : ByteArray} {x : GTrait × Nat} (h : w.traitAt s = some x) : ∃ p ∈ w.gPackages, x.1 ∈ p.gTraits := findP_mem h

def GProgram.allSup (w : GProgram) : List ByteArray := (w.gPackages.flatMap (fun p => p.gTraits)).flatMap (fun t => t.gSupertraits)
def supM (w : GProgram) (out : List ByteArray) : Nat := w.allSup.countP (fun s => decide (¬ s ∈ out))
def supF (w : GProgram) : Nat → ByteArray → List ByteArray → List ByteArray
  | 0, _, out => out
  | n + 1, name, out => ((oTrait (w.traitAt name)).gSupertraits).foldl (fun o s => if s ∈ o then o else supF w n s (o ++ [s])) out
def GProgram.supers (w : GProgram) (name : ByteArray) : List ByteArray := supF w (supM w [] + 1) name []
theorem sup_mem {w : GProgram} {name s : ByteArray} (h : s ∈ (oTrait (w.traitAt name)).gSupertraits) : s ∈ w.allSup := by
  cases hq : w.traitAt name with
  | none =>
    rw [hq] at h
    simp [oTrait, GTrait.zero] at h
  | some x =>
    rw [hq] at h
    have h : s ∈ x.1.gSupertraits := h
    have hm : ∃ p ∈ w.gPackages, x.1 ∈ p.gTraits := traitAt_mem hq
    obtain ⟨p, hp, hx⟩ := hm
    exact List.mem_flatMap.2 ⟨x.1, List.mem_flatMap.2 ⟨p, hp, hx⟩, h⟩
theorem countP_lt {α : Type} {p q : α → Bool} {l : List α} (h : ∀ x, q x = true → p x = true) {a : α} (ha : a ∈ l) (hp : p a = true) (hq : q a = false) : l.countP q + 1 ≤ l.countP p := by
  induction l with
  | nil => cases ha
  | cons b l ih =>
    rw [List.countP_cons, List.countP_cons]
    have hle : l.countP q ≤ l.countP p := List.countP_mono_left fun x _ => h x
    rcases List.mem_cons.1 ha with rfl | ha
    · simp [hp, hq]; omega
    · have := ih ha
      have : (if q b = true then 1 else 0) ≤ (if p b = true then 1 else 0) := by
        split
        · rw [if_pos (h b (by assumption))]; omega
        · omega
      omega
theorem sup_step {w : GProgram} {name : ByteArray} {o : List ByteArray} {s : ByteArray} (hs : s ∈ (oTrait (w.traitAt name)).gSupertraits) (hn : ¬ s ∈ o) : supM w (o ++ [s]) + 1 ≤ supM w o := by
  unfold supM
  refine countP_lt (fun x hx => ?_) (sup_mem hs) (by simpa using hn) (by simp)
  simp only [decide_eq_true_eq, List.mem_append, not_or] at hx ⊢
  exact hx.1
theorem supM_le {w : GProgram} (h : w.allSup.length ≤ 1099511627776) : ([] : List ByteArray).length + supM w [] ≤ 1099511627776 := by
  have := List.countP_le_length (p := fun s => decide (¬ s ∈ ([] : List ByteArray))) (l := w.allSup)
  unfold supM
  simp only [List.length_nil]
  omega
/-- What the run has put in stays within what there is. -/
theorem supF_inv (w : GProgram) : ∀ (n : Nat) (name : ByteArray) (out : List ByteArray), supM w (supF w n name out) ≤ supM w out ∧ (supF w n name out).length + supM w (supF w n name out) ≤ out.length + supM w out
  | 0, name, out => ⟨Nat.le_refl _, Nat.le_refl _⟩
  | n + 1, name, out => by
    rw [supF]
    have key : ∀ (l : List ByteArray) (o : List ByteArray), (∀ s ∈ l, s ∈ (oTrait (w.traitAt name)).gSupertraits) → supM w (l.foldl (fun o s => if s ∈ o then o else supF w n s (o ++ [s])) o) ≤ supM w o ∧ (l.foldl (fun o s => if s ∈ o then o else supF w n s (o ++ [s])) o).length + supM w (l.foldl (fun o s => if s ∈ o then o else supF w n s (o ++ [s])) o) ≤ o.length + supM w o := by
      intro l
      induction l with
      | nil => intro o _; exact ⟨Nat.le_refl _, Nat.le_refl _⟩
      | cons s l ih =>
        intro o hl
        rw [List.foldl_cons]
        have h1 := ih (if s ∈ o then o else supF w n s (o ++ [s])) (fun x hx => hl x (by simp [hx]))
        split at h1
        · rename_i hso
          rw [if_pos hso]
          exact h1
        · rename_i hso
          rw [if_neg hso]
          have h2 := supF_inv w n s (o ++ [s])
          have h3 := sup_step (w := w) (name := name) (hl s (by simp)) hso
          have h4 : (o ++ [s]).length = o.length + 1 := by simp
          omega
    exact key _ _ fun s hs => hs
theorem fold_next {α β : Type} {f : β → α → β} {o o' r : β} {l : List α} {i : Nat} (h : i < l.length) (hr : r = (l.drop i).foldl f o) (hs : f o l[i] = o') : r = (l.drop (i + 1)).foldl f o' := by
  rw [hr, List.drop_eq_getElem_cons h, List.foldl_cons, hs]
theorem fold_end {α β : Type} {f : β → α → β} {o r : β} {l : List α} {i : Nat} (h : l.length ≤ i) (hr : r = (l.drop i).foldl f o) : r = o := by
  rw [hr, List.drop_of_length_le h, List.foldl_nil]
theorem supJ_has {w : GProgram} {n : Nat} {name : ByteArray} {out o r : List ByteArray} {i : Nat} (h : i < (oTrait (w.traitAt name)).gSupertraits.length) (h2 : r = (((oTrait (w.traitAt name)).gSupertraits).drop i).foldl (fun o s => if s ∈ o then o else supF w n s (o ++ [s])) o)
    (h3 : supM w o ≤ supM w out) (h4 : o.length + supM w o ≤ out.length + supM w out) (hm : (oTrait (w.traitAt name)).gSupertraits[i] ∈ o) :
    i + 1 ≤ (oTrait (w.traitAt name)).gSupertraits.length ∧ r = (((oTrait (w.traitAt name)).gSupertraits).drop (i + 1)).foldl (fun o s => if s ∈ o then o else supF w n s (o ++ [s])) o ∧ supM w o ≤ supM w out ∧ o.length + supM w o ≤ out.length + supM w out :=
  ⟨h, fold_next h h2 (by simp [hm]), h3, h4⟩
theorem supJ_new {w : GProgram} {n : Nat} {name : ByteArray} {out o r : List ByteArray} {i : Nat} (h : i < (oTrait (w.traitAt name)).gSupertraits.length) (h2 : r = (((oTrait (w.traitAt name)).gSupertraits).drop i).foldl (fun o s => if s ∈ o then o else supF w n s (o ++ [s])) o)
    (h3 : supM w o ≤ supM w out) (h4 : o.length + supM w o ≤ out.length + supM w out) (hm : ¬ (oTrait (w.traitAt name)).gSupertraits[i] ∈ o) {o' : List ByteArray} (ho : supF w n (oTrait (w.traitAt name)).gSupertraits[i] (o ++ [(oTrait (w.traitAt name)).gSupertraits[i]]) = o') :
    i + 1 ≤ (oTrait (w.traitAt name)).gSupertraits.length ∧ r = (((oTrait (w.traitAt name)).gSupertraits).drop (i + 1)).foldl (fun o s => if s ∈ o then o else supF w n s (o ++ [s])) o' ∧ supM w o' ≤ supM w out ∧ o'.length + supM w o' ≤ out.length + supM w out := by
  have h5 := supF_inv w n (oTrait (w.traitAt name)).gSupertraits[i] (o ++ [(oTrait (w.traitAt name)).gSupertraits[i]])
  have h6 := sup_step (w := w) (name := name) (o := o) (List.getElem_mem h) hm
  have h7 : (o ++ [(oTrait (w.traitAt name)).gSupertraits[i]]).length = o.length + 1 := by simp
  subst ho
  exact ⟨h, fold_next h h2 (by simp [hm]), by omega, by omega⟩
theorem keeps_rows {C : Ctx} {r : PRow} {S : Sto} (h : C.st = ⟨[], [r]⟩) (hl : 1 ≤ S.rows.length) : Keeps0 C.st S := by
  rw [h]
  exact ⟨fun k x hx => by simp at hx, fun k row hk => by
    rcases k with _ | k
    · exact ⟨S.rows[0], List.getElem?_eq_getElem hl⟩
    · simp at hk⟩

set_option maxRecDepth 100000 in
set_option maxHeartbeats 4000000 in
theorem idxS_ok (l : List ByteArray) (s : ByteArray) : AFun Tryz.prog 196 [.t (.row 1 (strTrs (l))), .t (.leaf (.string (s)))] (.t (.leaf (.int .i64 (idxS l s)))) := by
  refine ACalls.intro Tryz.func196 rfl (by first | decide | (simp; done) | (simp; decide)) ?_; intro C hC
  refine AWP.fact (lk_lenN 0 rfl rfl (strTrs_len _)) (fun hl1 => ?_)
  refine AWP.seq ?_; refine AWP.region_lit ?_; refine AL.cons rfl (AOp.move (.inr rfl) rfl rfl) ?_; refine AL.nil ?_; refine AWP.seq ?_; refine AWP.seq ?_; refine AWP.region_lit ?_; refine AL.cons rfl (AOp.move (.inl rfl) rfl rfl) ?_; refine AL.cons rfl (AOp.lenN rfl rfl rfl rfl el54 (strTrs_len _)) ?_; refine AL.cons rfl (AOp.move (.inl rfl) rfl rfl) ?_; refine AL.nil ?_; refine AWP.block ?_; refine AWP.loopJ (ι := Nat) (fun i => i ≤ l.length ∧ ∀ (j : Nat) (hj : j < l.length), j < i → ¬ l[j] = s) (fun i => ⟨[(0, .t (.row 1 (strTrs (l)))), (1, .t (.leaf (.string (s)))), (7, .t (.leaf (.int .i64 (((l.length : Nat) : Int))))), (8, .t (.leaf (.int .i64 (((i : Nat) : Int)))))], ⟨[], []⟩⟩) (fun i => l.length - i) 0 ?_ ?_ ?_
  · exact ⟨Nat.zero_le _, fun j hj h => absurd h (Nat.not_lt_zero _)⟩
  · exact Wk.mk (StLe.mk' trivial rfl) (keeps_nil hC) ⟨⟨_, rfl, .refl _, rfl⟩, ⟨⟨_, rfl, .refl _, rfl⟩, ⟨⟨_, rfl, .refl _, rfl⟩, ⟨⟨_, rfl, leA, rfl⟩, trivial⟩⟩⟩⟩
  rintro i hJ2
  obtain ⟨hi1, hi2⟩ := hJ2
  refine AWP.seq ?_; refine AWP.region_lit ?_; refine AL.cons rfl (AOp.lss rfl rfl rfl rfl) ?_; refine AL.nil ?_; refine AWP.seq ?_; refine AWP.cond rfl (fun h3 => ?_) (fun h3 => ?_)
  · have h3b := h3
    try simp only [Bool.and_eq_true, Bool.or_eq_true, Bool.and_eq_false_iff, Bool.or_eq_false_iff, decide_eq_true_eq, decide_eq_false_iff_not, Bool.not_eq_true', Bool.not_eq_false', Bool.not_eq_eq_eq_not, Bool.not_true, Bool.not_false, ge_iff_le, gt_iff_lt, Int.not_lt, Int.not_le] at h3b
    have h3n : i < l.length := by omega
    refine AWP.skip ?_; refine AWP.seq ?_; refine AWP.block ?_; refine AWP.seq ?_; refine AWP.region_lit ?_; refine AL.cons rfl (AOp.move (.inl rfl) rfl rfl) ?_; refine AL.cons rfl (AOp.move (.inr rfl) rfl rfl) ?_; refine AL.nil ?_; refine AWP.seq ?_; refine AWP.region_lit ?_; refine AL.cons rfl (AOp.move (.inl rfl) rfl rfl) ?_; refine AL.cons rfl (AOp.move (.inl rfl) rfl rfl) ?_; refine AL.cons rfl (AOp.move (.inl rfl) rfl rfl) ?_; refine AL.cons rfl (AOp.index (k := i) rfl rfl rfl rfl rfl (strTrs_cs h3n) el54) ?_; refine AL.cons rfl (AOp.loadEptr1 (d := .leaf (.string (l[i]))) rfl rfl rfl sh9 rfl) ?_; refine AL.cons rfl (AOp.eqlS rfl rfl rfl rfl) ?_; refine AL.nil ?_; refine AWP.cond rfl (fun h4 => ?_) (fun h4 => ?_)
    · have h4b := h4
      try simp only [Bool.and_eq_true, Bool.or_eq_true, Bool.and_eq_false_iff, Bool.or_eq_false_iff, decide_eq_true_eq, decide_eq_false_iff_not, Bool.not_eq_true', Bool.not_eq_false', Bool.not_eq_eq_eq_not, Bool.not_true, Bool.not_false, ge_iff_le, gt_iff_lt, Int.not_lt, Int.not_le] at h4b
      refine AWP.seq ?_; refine AWP.region_lit ?_; refine AL.cons rfl (AOp.move (.inl rfl) rfl rfl) ?_; refine AL.cons rfl (AOp.move (.inr rfl) rfl rfl) ?_; refine AL.nil ?_; refine AWP.ret ?_; exact Ends.mk (ps := [_]) (.inr rfl) ⟨rfl, trivial⟩ rfl (StLe.mk' (st' := ⟨[], []⟩) trivial rfl) (keeps_nil hC) (q := (.t (.leaf (.int .i64 (((i : Nat) : Int)))) : PV)) leA rfl ⟨by rw [idxS_hit (by omega) hi2 (by first | assumption | (apply Eq.symm; assumption))], rfl⟩
    · have h4b := h4
      try simp only [Bool.and_eq_true, Bool.or_eq_true, Bool.and_eq_false_iff, Bool.or_eq_false_iff, decide_eq_true_eq, decide_eq_false_iff_not, Bool.not_eq_true', Bool.not_eq_false', Bool.not_eq_eq_eq_not, Bool.not_true, Bool.not_false, ge_iff_le, gt_iff_lt, Int.not_lt, Int.not_le] at h4b
      refine AWP.skip ?_; refine AWP.region_lit ?_; refine AL.cons rfl (AOp.addI rfl rfl rfl rfl (c := ((i + 1 : Nat) : Int)) (by omega) (by omega)) ?_; refine AL.cons rfl (AOp.move (.inl rfl) rfl rfl) ?_; refine AL.nil ?_; refine ⟨i + 1, ?_, ?_, ?_⟩
      · exact ⟨by omega, miss_next hi2 (by omega) (by first | assumption | (intro hx; exact absurd hx.symm (by assumption)))⟩
      · exact Wk.mk (StLe.mk' trivial rfl) (keeps_nil hC) ⟨⟨_, rfl, .refl _, rfl⟩, ⟨⟨_, rfl, .refl _, rfl⟩, ⟨⟨_, rfl, .refl _, rfl⟩, ⟨⟨_, rfl, leA, rfl⟩, trivial⟩⟩⟩⟩
      · omega
  · have h3b := h3
    try simp only [Bool.and_eq_true, Bool.or_eq_true, Bool.and_eq_false_iff, Bool.or_eq_false_iff, decide_eq_true_eq, decide_eq_false_iff_not, Bool.not_eq_true', Bool.not_eq_false', Bool.not_eq_eq_eq_not, Bool.not_true, Bool.not_false, ge_iff_le, gt_iff_lt, Int.not_lt, Int.not_le] at h3b
    have h3n : i ≥ l.length := by omega
    refine AWP.exit ?_; refine AWP.seq ?_; refine AWP.region_lit ?_; refine AL.cons rfl (AOp.move (.inr rfl) rfl rfl) ?_; refine AL.nil ?_; refine AWP.ret ?_; exact Ends.mk (ps := [_]) (.inr rfl) ⟨rfl, trivial⟩ rfl (StLe.mk' (st' := ⟨[], []⟩) trivial rfl) (keeps_nil hC) (q := (.t (.leaf (.int .i64 (-1))) : PV)) leA rfl ⟨by rw [idxS_miss (fun j hj => hi2 j hj (by omega))], rfl⟩

set_option maxRecDepth 100000 in
set_option maxHeartbeats 4000000 in
theorem has_spec (l : List ByteArray) (s : ByteArray) : AFun Tryz.prog 150 [.t (.row 1 (strTrs (l))), .t (.leaf (.string (s)))] (.t (.leaf (.bool (decide (s ∈ l))))) := by
  refine ACalls.intro Tryz.func150 rfl (by first | decide | (simp; done) | (simp; decide)) ?_; intro C hC
  refine AWP.fact (lk_lenN 0 rfl rfl (strTrs_len _)) (fun hl1 => ?_)
  refine AWP.seq ?_; refine AWP.region_lit ?_; refine AL.cons rfl (AOp.move (.inr rfl) rfl rfl) ?_; refine AL.nil ?_; refine AWP.seq ?_; refine AWP.seq ?_; refine AWP.region_lit ?_; refine AL.cons rfl (AOp.move (.inr rfl) rfl rfl) ?_; refine AL.nil ?_; refine AWP.block ?_; refine AWP.loopJ (ι := Nat) (fun i => i ≤ l.length ∧ ∀ (j : Nat) (hj : j < l.length), j < i → ¬ l[j] = s) (fun i => ⟨[(0, .t (.row 1 (strTrs (l)))), (1, .t (.leaf (.string (s)))), (5, .t (.leaf (.int .i64 (((i : Nat) : Int)))))], ⟨[], []⟩⟩) (fun i => l.length - i) 0 ?_ ?_ ?_
  · exact ⟨Nat.zero_le _, fun j hj h => absurd h (Nat.not_lt_zero _)⟩
  · exact Wk.mk (StLe.mk' trivial rfl) (keeps_nil hC) ⟨⟨_, rfl, .refl _, rfl⟩, ⟨⟨_, rfl, .refl _, rfl⟩, ⟨⟨_, rfl, leA, rfl⟩, trivial⟩⟩⟩
  rintro i hJ2
  obtain ⟨hi1, hi2⟩ := hJ2
  refine AWP.seq ?_; refine AWP.seq ?_; refine AWP.region_lit ?_; refine AL.cons rfl (AOp.move (.inl rfl) rfl rfl) ?_; refine AL.cons rfl (AOp.move (.inl rfl) rfl rfl) ?_; refine AL.cons rfl (AOp.lenN rfl rfl rfl rfl el54 (strTrs_len _)) ?_; refine AL.cons rfl (AOp.lss rfl rfl rfl rfl) ?_; refine AL.nil ?_; refine AWP.cond rfl (fun h3 => ?_) (fun h3 => ?_)
  · have h3b := h3
    try simp only [Bool.and_eq_true, Bool.or_eq_true, Bool.and_eq_false_iff, Bool.or_eq_false_iff, decide_eq_true_eq, decide_eq_false_iff_not, Bool.not_eq_true', Bool.not_eq_false', Bool.not_eq_eq_eq_not, Bool.not_true, Bool.not_false, ge_iff_le, gt_iff_lt, Int.not_lt, Int.not_le] at h3b
    have h3n : i < l.length := by omega
    refine AWP.skip ?_; refine AWP.seq ?_; refine AWP.block ?_; refine AWP.seq ?_; refine AWP.region_lit ?_; refine AL.cons rfl (AOp.move (.inl rfl) rfl rfl) ?_; refine AL.cons rfl (AOp.move (.inl rfl) rfl rfl) ?_; refine AL.cons rfl (AOp.index (k := i) rfl rfl rfl rfl rfl (strTrs_cs h3n) el54) ?_; refine AL.cons rfl (AOp.loadEptr1 (d := .leaf (.string (l[i]))) rfl rfl rfl sh9 rfl) ?_; refine AL.cons rfl (AOp.move (.inl rfl) rfl rfl) ?_; refine AL.cons rfl (AOp.eqlS rfl rfl rfl rfl) ?_; refine AL.nil ?_; refine AWP.cond rfl (fun h4 => ?_) (fun h4 => ?_)
    · have h4b := h4
      try simp only [Bool.and_eq_true, Bool.or_eq_true, Bool.and_eq_false_iff, Bool.or_eq_false_iff, decide_eq_true_eq, decide_eq_false_iff_not, Bool.not_eq_true', Bool.not_eq_false', Bool.not_eq_eq_eq_not, Bool.not_true, Bool.not_false, ge_iff_le, gt_iff_lt, Int.not_lt, Int.not_le] at h4b
      refine AWP.seq ?_; refine AWP.region_lit ?_; refine AL.cons rfl (AOp.move (.inr rfl) rfl rfl) ?_; refine AL.nil ?_; refine AWP.ret ?_; exact Ends.mk (ps := [_]) (.inr rfl) ⟨rfl, trivial⟩ rfl (StLe.mk' (st' := ⟨[], []⟩) trivial rfl) (keeps_nil hC) (q := (.t (.leaf (.bool (true))) : PV)) leA rfl ⟨by rw [mem_hit (by omega) (by first | assumption | (apply Eq.symm; assumption))], rfl⟩
    · have h4b := h4
      try simp only [Bool.and_eq_true, Bool.or_eq_true, Bool.and_eq_false_iff, Bool.or_eq_false_iff, decide_eq_true_eq, decide_eq_false_iff_not, Bool.not_eq_true', Bool.not_eq_false', Bool.not_eq_eq_eq_not, Bool.not_true, Bool.not_false, ge_iff_le, gt_iff_lt, Int.not_lt, Int.not_le] at h4b
      refine AWP.skip ?_; refine AWP.region_lit ?_; refine AL.cons rfl (AOp.move (.inl rfl) rfl rfl) ?_; refine AL.cons rfl (AOp.addI rfl rfl rfl rfl (c := ((i + 1 : Nat) : Int)) (by omega) (by omega)) ?_; refine AL.cons rfl (AOp.move (.inr rfl) rfl rfl) ?_; refine AL.nil ?_; refine ⟨i + 1, ?_, ?_, ?_⟩
      · exact ⟨by omega, miss_next hi2 (by omega) (by first | assumption | (intro hx; exact absurd hx.symm (by assumption)))⟩
      · exact Wk.mk (StLe.mk' trivial rfl) (keeps_nil hC) ⟨⟨_, rfl, .refl _, rfl⟩, ⟨⟨_, rfl, .refl _, rfl⟩, ⟨⟨_, rfl, leA, rfl⟩, trivial⟩⟩⟩
      · omega
  · have h3b := h3
    try simp only [Bool.and_eq_true, Bool.or_eq_true, Bool.and_eq_false_iff, Bool.or_eq_false_iff, decide_eq_true_eq, decide_eq_false_iff_not, Bool.not_eq_true', Bool.not_eq_false', Bool.not_eq_eq_eq_not, Bool.not_true, Bool.not_false, ge_iff_le, gt_iff_lt, Int.not_lt, Int.not_le] at h3b
    have h3n : i ≥ l.length := by omega
    refine AWP.exit ?_; refine AWP.seq ?_; refine AWP.region_lit ?_; refine AL.cons rfl (AOp.move (.inr rfl) rfl rfl) ?_; refine AL.nil ?_; refine AWP.ret ?_; exact Ends.mk (ps := [_]) (.inr rfl) ⟨rfl, trivial⟩ rfl (StLe.mk' (st' := ⟨[], []⟩) trivial rfl) (keeps_nil hC) (q := (.t (.leaf (.bool (false))) : PV)) leA rfl ⟨by rw [mem_miss (fun j hj => hi2 j hj (by omega))], rfl⟩

set_option maxRecDepth 100000 in
set_option maxHeartbeats 4000000 in
theorem contS_ok (l : List ByteArray) (s : ByteArray) : AFun Tryz.prog 151 [.t (.row 1 (strTrs (l))), .t (.leaf (.string (s)))] (.t (.leaf (.bool (decide (s ∈ l))))) := by
  refine ACalls.intro Tryz.func151 rfl (by first | decide | (simp; done) | (simp; decide)) ?_; intro C hC
  refine AWP.fact (lk_lenN 0 rfl rfl (strTrs_len _)) (fun hl1 => ?_)
  refine AWP.seq ?_; refine AWP.region_lit ?_; refine AL.cons rfl (AOp.move (.inr rfl) rfl rfl) ?_; refine AL.nil ?_; refine AWP.seq ?_; refine AWP.region_lit ?_; refine AL.cons rfl (AOp.move (.inl rfl) rfl rfl) ?_; refine AL.cons rfl (AOp.move (.inl rfl) rfl rfl) ?_; refine AL.cons rfl (AOp.callF (ps := [_, _]) rfl rfl Tryz.func196 (by kernel_rfl) rfl rfl leA rfl rfl (idxS_ok l s)) ?_; refine AL.cons rfl (AOp.geq rfl rfl rfl rfl) ?_; refine AL.cons rfl (AOp.move (.inr rfl) rfl rfl) ?_; refine AL.nil ?_; refine AWP.ret ?_; exact Ends.mk (ps := [_]) (.inr rfl) ⟨rfl, trivial⟩ rfl (StLe.mk' (st' := ⟨[], []⟩) trivial rfl) (keeps_nil hC) (q := (.t (.leaf (.bool (decide ((idxS l s : Int) ≥ 0)))) : PV)) leA rfl ⟨by rw [← idxS_mem], rfl⟩

set_option maxRecDepth 100000 in
set_option maxHeartbeats 4000000 in
theorem supers_impl (w : GProgram) : ∀ (n : Nat) (name : ByteArray) (out : List ByteArray), supM w out < n → out.length + supM w out ≤ 1099511627776 → ACalls Tryz.prog 92 [(GProgram.pv w), .acc 1 (strTrs (out)) 0, .t (.leaf (.string (name)))] ⟨[], [⟨9, 1, strTrs (out), false⟩]⟩ (fun r t => r = .acc 1 (strTrs (supF w n name out)) 0 ∧ t = ⟨[], [⟨9, 1, strTrs (supF w n name out), false⟩]⟩) := by
  intro n
  induction n with
  | zero => intro name out h; exact absurd h (Nat.not_lt_zero _)
  | succ n ih =>
  intro name out hm hbd
  refine ACalls.intro Tryz.func92 rfl (by first | decide | (simp; done) | (simp; decide)) ?_; intro C hC
  refine AWP.fact (lk_lenN 1 rfl rfl (strTrs_len _)) (fun hl1 => ?_)
  refine AWP.seq ?_; refine AWP.region_lit ?_; refine AL.cons rfl (AOp.box (cs := [.t (.row 6 (GPackage.trs (w.gPackages)))]) rfl rfl rfl rfl rfl) ?_; refine AL.cons rfl (AOp.move (.inr rfl) rfl rfl) ?_; refine AL.nil ?_; refine AWP.seq ?_; refine AWP.region_lit ?_; refine AL.cons rfl (AOp.loadPtr (cs := [.t (.row 6 (GPackage.trs (w.gPackages)))]) rfl rfl rfl rfl sh31 rfl rfl) ?_; refine AL.cons rfl (AOp.move (.inl rfl) rfl rfl) ?_; refine AL.cons rfl (AOp.callF (ps := [_, _]) rfl rfl Tryz.func82 (by kernel_rfl) rfl rfl leA rfl rfl (trait_impl w name)) ?_; refine AL.cons rfl (AOp.move (.inl rfl) rfl rfl) ?_; refine AL.cons rfl (AOp.extract rfl rfl rfl rfl) ?_; refine AL.cons rfl (AOp.extract rfl rfl rfl rfl) ?_; refine AL.cons rfl (AOp.extract rfl rfl rfl rfl) ?_; refine AL.cons rfl (AOp.alloc rfl rfl zr94) ?_; refine AL.cons rfl (AOp.storePtr (cs := [.t (.leaf (.string ((oTrait (w.traitAt name)).gName))), .t (.row 1 (strTrs ((oTrait (w.traitAt name)).gSupertraits))), .t (.leaf (.bool ((oTrait (w.traitAt name)).gAuto))), .t (.leaf (.bool ((oTrait (w.traitAt name)).gAssoc))), .t (.row 16 (GSignature.trs ((oTrait (w.traitAt name)).gSignatures)))]) (ds := [.t (.leaf (.string ((oTrait (w.traitAt name)).gName))), .t (.row 1 (strTrs ((oTrait (w.traitAt name)).gSupertraits))), .t (.leaf (.bool ((oTrait (w.traitAt name)).gAuto))), .t (.leaf (.bool ((oTrait (w.traitAt name)).gAssoc))), .t (.row 16 (GSignature.trs ((oTrait (w.traitAt name)).gSignatures)))]) rfl rfl rfl rfl rfl rfl rfl sz94 (Nat.le_of_ble_eq_true rfl) rfl) ?_; refine AL.cons rfl (AOp.move (.inr rfl) rfl rfl) ?_; refine AL.cons rfl (AOp.move (.inr rfl) rfl rfl) ?_; refine AL.nil ?_; refine AWP.seq ?_; refine AWP.seq ?_; refine AWP.region_lit ?_; refine AL.cons rfl (AOp.fieldPtr (k := 1) (d := 0) (e := 1) rfl rfl rfl fo94_1) ?_; refine AL.cons rfl (AOp.loadPtr1 rfl rfl rfl rfl sh54 rfl) ?_; refine AL.fact (lk_lenN 20 rfl rfl (strTrs_len _)) (fun hl2 => ?_)
  refine AL.cons rfl (AOp.lenN rfl rfl rfl rfl el54 (strTrs_len _)) ?_; refine AL.cons rfl (AOp.move (.inl rfl) rfl rfl) ?_; refine AL.nil ?_; refine AWP.block ?_; refine AWP.loopJ (ι := Nat × List ByteArray) (fun ⟨i, o⟩ => i ≤ (oTrait (w.traitAt name)).gSupertraits.length ∧ supF w (n + 1) name out = ((oTrait (w.traitAt name)).gSupertraits.drop i).foldl (fun o s => if s ∈ o then o else supF w n s (o ++ [s])) o ∧ supM w o ≤ supM w out ∧ o.length + supM w o ≤ out.length + supM w out) (fun ⟨i, o⟩ => ⟨[(0, (GProgram.pv w)), (1, .acc 1 (strTrs (o)) 0), (2, .t (.leaf (.string (name)))), (3, .ptr 0 0), (6, .nil), (7, .ptr 1 0), (8, .t (.leaf (.int .i64 (oInt (w.traitAt name))))), (9, .t (.leaf (.bool ((w.traitAt name).isSome)))), (20, .t (.row 1 (strTrs ((oTrait (w.traitAt name)).gSupertraits)))), (21, .t (.leaf (.int .i64 (((((oTrait (w.traitAt name)).gSupertraits).length : Nat) : Int))))), (22, .t (.leaf (.int .i64 (((i : Nat) : Int)))))], ⟨[some ⟨31, [.t (.row 6 (GPackage.trs (w.gPackages)))]⟩, some ⟨94, [.t (.leaf (.string ((oTrait (w.traitAt name)).gName))), .t (.row 1 (strTrs ((oTrait (w.traitAt name)).gSupertraits))), .t (.leaf (.bool ((oTrait (w.traitAt name)).gAuto))), .t (.leaf (.bool ((oTrait (w.traitAt name)).gAssoc))), .t (.row 16 (GSignature.trs ((oTrait (w.traitAt name)).gSignatures)))]⟩], [⟨9, 1, strTrs (o), false⟩]⟩⟩) (fun ⟨i, o⟩ => (oTrait (w.traitAt name)).gSupertraits.length - i) (0, out) ?_ ?_ ?_
  · exact ⟨Nat.zero_le _, rfl, Nat.le_refl _, Nat.le_refl _⟩
  · exact Wk.mk (StLe.mk' ⟨⟨rfl, leA, rfl⟩, ⟨⟨rfl, leA, rfl⟩, trivial⟩⟩ (by first | rfl | simp)) (keeps_rows hC (Nat.le_of_ble_eq_true rfl)) ⟨⟨_, rfl, .refl _, rfl⟩, ⟨⟨_, rfl, leA, rfl⟩, ⟨⟨_, rfl, .refl _, rfl⟩, ⟨⟨_, rfl, .refl _, rfl⟩, ⟨⟨_, rfl, .refl _, rfl⟩, ⟨⟨_, rfl, .refl _, rfl⟩, ⟨⟨_, rfl, .refl _, rfl⟩, ⟨⟨_, rfl, .refl _, rfl⟩, ⟨⟨_, rfl, .refl _, rfl⟩, ⟨⟨_, rfl, .refl _, rfl⟩, ⟨⟨_, rfl, leA, rfl⟩, trivial⟩⟩⟩⟩⟩⟩⟩⟩⟩⟩⟩
  rintro ⟨i, o⟩ hJ3
  obtain ⟨hi1, hi2, hi3, hi4⟩ := hJ3
  refine AWP.seq ?_; refine AWP.region_lit ?_; refine AL.cons rfl (AOp.lss rfl rfl rfl rfl) ?_; refine AL.nil ?_; refine AWP.seq ?_; refine AWP.cond rfl (fun h4 => ?_) (fun h4 => ?_)
  · have h4b := h4
    try simp only [Bool.and_eq_true, Bool.or_eq_true, Bool.and_eq_false_iff, Bool.or_eq_false_iff, decide_eq_true_eq, decide_eq_false_iff_not, Bool.not_eq_true', Bool.not_eq_false', Bool.not_eq_eq_eq_not, Bool.not_true, Bool.not_false, ge_iff_le, gt_iff_lt, Int.not_lt, Int.not_le] at h4b
    have h4n : i < ((oTrait (w.traitAt name)).gSupertraits).length := by omega
    refine AWP.skip ?_; refine AWP.seq ?_; refine AWP.block ?_; refine AWP.seq ?_; refine AWP.region_lit ?_; refine AL.cons rfl (AOp.index (k := i) rfl rfl rfl rfl rfl (strTrs_cs h4n) el54) ?_; refine AL.cons rfl (AOp.loadEptr1 (d := .leaf (.string (((oTrait (w.traitAt name)).gSupertraits)[i]))) rfl rfl rfl sh9 rfl) ?_; refine AL.cons rfl (AOp.move (.inr rfl) rfl rfl) ?_; refine AL.nil ?_; refine AWP.seq ?_; refine AWP.region_lit ?_; refine AL.cons rfl (AOp.move (.inl rfl) rfl rfl) ?_; refine AL.cons rfl (AOp.move (.inl rfl) rfl rfl) ?_; refine AL.cons rfl (AOp.callF (ps := [_, _]) rfl rfl Tryz.func151 (by kernel_rfl) rfl rfl leA rfl rfl (contS_ok o (((oTrait (w.traitAt name)).gSupertraits)[i]))) ?_; refine AL.cons rfl (AOp.notB rfl rfl rfl) ?_; refine AL.nil ?_; refine AWP.cond rfl (fun h5 => ?_) (fun h5 => ?_)
    · have h5b := h5
      try simp only [Bool.and_eq_true, Bool.or_eq_true, Bool.and_eq_false_iff, Bool.or_eq_false_iff, decide_eq_true_eq, decide_eq_false_iff_not, Bool.not_eq_true', Bool.not_eq_false', Bool.not_eq_eq_eq_not, Bool.not_true, Bool.not_false, ge_iff_le, gt_iff_lt, Int.not_lt, Int.not_le] at h5b
      refine AWP.drawnL ⟨_, _, fun j' _ => ([(⟨[some ⟨31, [.t (.row 6 (GPackage.trs (w.gPackages)))]⟩, some ⟨94, [.t (.leaf (.string ((oTrait (w.traitAt name)).gName))), .t (.row 1 (strTrs ((oTrait (w.traitAt name)).gSupertraits))), .t (.leaf (.bool ((oTrait (w.traitAt name)).gAuto))), .t (.leaf (.bool ((oTrait (w.traitAt name)).gAssoc))), .t (.row 16 (GSignature.trs ((oTrait (w.traitAt name)).gSignatures)))]⟩], [⟨9, 1, strTrs (o), false⟩]⟩ : Sto), (⟨[some ⟨31, [.t (.row 6 (GPackage.trs (w.gPackages)))]⟩, some ⟨94, [.t (.leaf (.string ((oTrait (w.traitAt name)).gName))), .t (.row 1 (strTrs ((oTrait (w.traitAt name)).gSupertraits))), .t (.leaf (.bool ((oTrait (w.traitAt name)).gAuto))), .t (.leaf (.bool ((oTrait (w.traitAt name)).gAssoc))), .t (.row 16 (GSignature.trs ((oTrait (w.traitAt name)).gSignatures)))]⟩], [⟨9, 1, strTrs (o ++ [(((oTrait (w.traitAt name)).gSupertraits)[i])]), false⟩]⟩ : Sto), (⟨[some ⟨31, [.t (.row 6 (GPackage.trs (w.gPackages)))]⟩, some ⟨94, [.t (.leaf (.string ((oTrait (w.traitAt name)).gName))), .t (.row 1 (strTrs ((oTrait (w.traitAt name)).gSupertraits))), .t (.leaf (.bool ((oTrait (w.traitAt name)).gAuto))), .t (.leaf (.bool ((oTrait (w.traitAt name)).gAssoc))), .t (.row 16 (GSignature.trs ((oTrait (w.traitAt name)).gSignatures)))]⟩], [⟨9, 1, strTrs (supF w n (((oTrait (w.traitAt name)).gSupertraits)[i]) (o ++ [(((oTrait (w.traitAt name)).gSupertraits)[i])])), false⟩]⟩ : Sto)] : List Sto).getD j' (⟨[some ⟨31, [.t (.row 6 (GPackage.trs (w.gPackages)))]⟩, some ⟨94, [.t (.leaf (.string ((oTrait (w.traitAt name)).gName))), .t (.row 1 (strTrs ((oTrait (w.traitAt name)).gSupertraits))), .t (.leaf (.bool ((oTrait (w.traitAt name)).gAuto))), .t (.leaf (.bool ((oTrait (w.traitAt name)).gAssoc))), .t (.row 16 (GSignature.trs ((oTrait (w.traitAt name)).gSignatures)))]⟩], [⟨9, 1, strTrs (supF w n (((oTrait (w.traitAt name)).gSupertraits)[i]) (o ++ [(((oTrait (w.traitAt name)).gSupertraits)[i])])), false⟩]⟩ : Sto), fun q' => ([some ((GProgram.pv w)), some (.acc 1 (strTrs (o)) 0), some (.t (.leaf (.string (((oTrait (w.traitAt name)).gSupertraits)[i])))), some (.t (.row 1 (strTrs ([(((oTrait (w.traitAt name)).gSupertraits)[i])])))), some (.acc 1 (strTrs (o ++ [(((oTrait (w.traitAt name)).gSupertraits)[i])])) 0), some (.t (.leaf (.string (((oTrait (w.traitAt name)).gSupertraits)[i])))), some (.acc 1 (strTrs (supF w n (((oTrait (w.traitAt name)).gSupertraits)[i]) (o ++ [(((oTrait (w.traitAt name)).gSupertraits)[i])]))) 0), some (.acc 1 (strTrs (supF w n (((oTrait (w.traitAt name)).gSupertraits)[i]) (o ++ [(((oTrait (w.traitAt name)).gSupertraits)[i])]))) 0)] : List (Option PV)).getD q' none, fun q' => ([.q 0 1, .q 0 0, .q 0 0, .q 0 0, .ef 0, .q 0 1, .ef 1, .q 2 2] : List DK).getD q' (.q 0 0), [4, 6], none, fun q' => ([[(3, none)], [(1, none)], [(11, none)], [(32, some 2)], [(31, some 1), (33, some 3)], [(11, none)], [(35, some 5), (34, some 4), (30, some 0)], [(36, some 6)]] : List (List (Nat × Option Nat))).getD q' []⟩ rfl mixed (by kernel_rfl) rfl rfl ⟨?_, ?_, ?_, ?_, ?_, ?_, ?_, ?_, trivial⟩ rfl ?_
      · refine .inl ⟨rfl, fun s' jj bb (h1 : 0 ≤ jj) (h2 : jj ≤ 1) hs hl => ?_⟩
        rcases (by omega : jj = 0 ∨ jj = 1) with rfl | rfl <;> exact ⟨_, rfl, AOp.loadPtr (cs := [.t (.row 6 (GPackage.trs (w.gPackages)))]) rfl rfl (hl 3 none _ (.head _) rfl) (by rw [hs]; rfl) sh31 rfl rfl⟩
      · exact Draw.step.q1 0 rfl rfl fun s' bb hs hl => ⟨_, rfl, AOp.move (.inl rfl) rfl (hl 1 none _ (.head _) rfl)⟩
      · exact Draw.step.q1 0 rfl rfl fun s' bb hs hl => ⟨_, rfl, AOp.move (.inl rfl) rfl (hl 11 none _ (.head _) rfl)⟩
      · exact Draw.step.q1 0 rfl rfl fun s' bb hs hl => ⟨_, rfl, AOp.buildSliceQ (es := strTrs ([(((oTrait (w.traitAt name)).gSupertraits)[i])])) (cs := [.t (.leaf (.string (((oTrait (w.traitAt name)).gSupertraits)[i])))]) rfl rfl el54 zr9 (parts_cons (hl 32 (some 2) _ (.head _) rfl) rfl rfl rfl) rfl leA rfl (by simp [strTrs]) (by decide) rfl (by decide)⟩
      · refine .inl ⟨rfl, fun s' bb hs hl => ?_⟩
        refine .inl ⟨_, rfl, AOp.congr (AOp.appendE (es3 := strTrs (o ++ [(((oTrait (w.traitAt name)).gSupertraits)[i])])) rfl rfl (hl 31 (some 1) _ (.head _) rfl) (by rw [hs]; rfl) rfl rfl rfl (hl 33 (some 3) _ (.tail _ (.head _)) rfl) rfl (strTrs_all _) el54 ze54 (by decide) (by rw [strTrs_len, strTrs_len]; simp; omega) (strTrs_append _ _)) ?_⟩
        first | (rw [hs]; rfl) | rfl
      · refine .inl ⟨rfl, fun s' jj bb (h1 : 0 ≤ jj) (h2 : jj ≤ 1) hs hl => ?_⟩
        rcases (by omega : jj = 0 ∨ jj = 1) with rfl | rfl <;> exact ⟨_, rfl, AOp.move (.inl rfl) rfl (hl 11 none _ (.head _) rfl)⟩
      · refine .inl ⟨rfl, fun s' bb hs hl => ?_⟩
        refine .inl ⟨_, rfl, AOp.congr (AOp.callPE (pre := ⟨[], [⟨9, 1, strTrs (o ++ [(((oTrait (w.traitAt name)).gSupertraits)[i])]), false⟩]⟩) (st' := ⟨[], [⟨9, 1, strTrs (supF w n (((oTrait (w.traitAt name)).gSupertraits)[i]) (o ++ [(((oTrait (w.traitAt name)).gSupertraits)[i])])), false⟩]⟩) (ps := [_, _, _]) (qs := [(GProgram.pv w), .acc 1 (strTrs (o ++ [(((oTrait (w.traitAt name)).gSupertraits)[i])])) 0, .t (.leaf (.string (((oTrait (w.traitAt name)).gSupertraits)[i])))]) [] [0] rfl rfl Tryz.func92 (by kernel_rfl) rfl (evs_cons (hl 30 (some 0) _ (.tail _ (.tail _ (.head _))) rfl) (evs_cons (hl 34 (some 4) _ (.tail _ (.head _)) rfl) (evs_cons (hl 35 (some 5) _ (.head _) rfl) rfl))) hs (by (try rw [hs]); exact ⟨rfl, rfl, by decide, by decide, fun k h => absurd h (Nat.not_lt_zero _), fun k x h => by simp at h, fun r row h => by rcases r with _ | r <;> simp at h; subst h; rfl⟩) leA rfl rfl rfl (ih _ _ (by have := sup_step (w := w) (name := name) (o := o) (List.getElem_mem (show i < (oTrait (w.traitAt name)).gSupertraits.length by omega)) (by assumption); omega) (by have := sup_step (w := w) (name := name) (o := o) (List.getElem_mem (show i < (oTrait (w.traitAt name)).gSupertraits.length by omega)) (by assumption); have h4 : (o ++ [((oTrait (w.traitAt name)).gSupertraits)[i]]).length = o.length + 1 := (by simp); omega))) ?_⟩
        first | (rw [hs]; rfl) | rfl
      · exact Draw.step.q1 2 rfl rfl fun s' bb hs hl => ⟨_, rfl, AOp.move (.inr rfl) rfl (hl 36 (some 6) _ (.head _) rfl)⟩
      refine AWP.region_lit ?_; refine AL.cons rfl (AOp.addI rfl rfl rfl rfl (c := ((i + 1 : Nat) : Int)) (by omega) (by omega)) ?_; refine AL.cons rfl (AOp.move (.inl rfl) rfl rfl) ?_; refine AL.nil ?_; refine ⟨(i + 1, supF w n (((oTrait (w.traitAt name)).gSupertraits)[i]) (o ++ [(((oTrait (w.traitAt name)).gSupertraits)[i])])), ?_, ?_, ?_⟩
      · first | exact supJ_has (by omega) hi2 hi3 hi4 (by assumption) | exact supJ_new (by omega) hi2 hi3 hi4 (by assumption) rfl
      · exact Wk.mk (StLe.mk' ⟨⟨rfl, leA, rfl⟩, ⟨⟨rfl, leA, rfl⟩, trivial⟩⟩ (by first | rfl | simp)) (keeps_rows hC (Nat.le_of_ble_eq_true rfl)) ⟨⟨_, rfl, .refl _, rfl⟩, ⟨⟨_, rfl, leA, rfl⟩, ⟨⟨_, rfl, .refl _, rfl⟩, ⟨⟨_, rfl, .refl _, rfl⟩, ⟨⟨_, rfl, .refl _, rfl⟩, ⟨⟨_, rfl, .refl _, rfl⟩, ⟨⟨_, rfl, .refl _, rfl⟩, ⟨⟨_, rfl, .refl _, rfl⟩, ⟨⟨_, rfl, .refl _, rfl⟩, ⟨⟨_, rfl, .refl _, rfl⟩, ⟨⟨_, rfl, leA, rfl⟩, trivial⟩⟩⟩⟩⟩⟩⟩⟩⟩⟩⟩
      · dsimp only; omega
    · have h5b := h5
      try simp only [Bool.and_eq_true, Bool.or_eq_true, Bool.and_eq_false_iff, Bool.or_eq_false_iff, decide_eq_true_eq, decide_eq_false_iff_not, Bool.not_eq_true', Bool.not_eq_false', Bool.not_eq_eq_eq_not, Bool.not_true, Bool.not_false, ge_iff_le, gt_iff_lt, Int.not_lt, Int.not_le] at h5b
      refine AWP.skip ?_; refine AWP.region_lit ?_; refine AL.cons rfl (AOp.addI rfl rfl rfl rfl (c := ((i + 1 : Nat) : Int)) (by omega) (by omega)) ?_; refine AL.cons rfl (AOp.move (.inl rfl) rfl rfl) ?_; refine AL.nil ?_; refine ⟨(i + 1, o), ?_, ?_, ?_⟩
      · first | exact supJ_has (by omega) hi2 hi3 hi4 (by assumption) | exact supJ_new (by omega) hi2 hi3 hi4 (by assumption) rfl
      · exact Wk.mk (StLe.mk' ⟨⟨rfl, leA, rfl⟩, ⟨⟨rfl, leA, rfl⟩, trivial⟩⟩ (by first | rfl | simp)) (keeps_rows hC (Nat.le_of_ble_eq_true rfl)) ⟨⟨_, rfl, .refl _, rfl⟩, ⟨⟨_, rfl, .refl _, rfl⟩, ⟨⟨_, rfl, .refl _, rfl⟩, ⟨⟨_, rfl, .refl _, rfl⟩, ⟨⟨_, rfl, .refl _, rfl⟩, ⟨⟨_, rfl, .refl _, rfl⟩, ⟨⟨_, rfl, .refl _, rfl⟩, ⟨⟨_, rfl, .refl _, rfl⟩, ⟨⟨_, rfl, .refl _, rfl⟩, ⟨⟨_, rfl, .refl _, rfl⟩, ⟨⟨_, rfl, leA, rfl⟩, trivial⟩⟩⟩⟩⟩⟩⟩⟩⟩⟩⟩
      · dsimp only; omega
  · have h4b := h4
    try simp only [Bool.and_eq_true, Bool.or_eq_true, Bool.and_eq_false_iff, Bool.or_eq_false_iff, decide_eq_true_eq, decide_eq_false_iff_not, Bool.not_eq_true', Bool.not_eq_false', Bool.not_eq_eq_eq_not, Bool.not_true, Bool.not_false, ge_iff_le, gt_iff_lt, Int.not_lt, Int.not_le] at h4b
    have h4n : i ≥ ((oTrait (w.traitAt name)).gSupertraits).length := by omega
    refine AWP.exit ?_; refine AWP.seq ?_; refine AWP.region_lit ?_; refine AL.cons rfl (AOp.move (.inl rfl) rfl rfl) ?_; refine AL.cons rfl (AOp.move (.inr rfl) rfl rfl) ?_; refine AL.nil ?_; refine AWP.ret ?_
    obtain rfl := fold_end (by omega) hi2
    exact Ends.mk (ps := [_]) (.inr rfl) ⟨rfl, trivial⟩ rfl (StLe.mk' (st' := ⟨[], [⟨9, 1, strTrs (supF w (n + 1) name out), false⟩]⟩) trivial rfl) (keeps_rows hC (Nat.le_of_ble_eq_true rfl)) (q := .acc 1 (strTrs (supF w (n + 1) name out)) 0) (.refl _) rfl ⟨rfl, rfl⟩

set_option maxRecDepth 100000 in
set_option maxHeartbeats 4000000 in
theorem supers_spec (w : GProgram) : ∀ (n : Nat) (name : ByteArray) (out : List ByteArray), supM w out < n → out.length + supM w out ≤ 1099511627776 → ACalls Tryz.prog 91 [(GProgram.pv w), .t (.leaf (.string (name))), .acc 1 (strTrs (out)) 0] ⟨[], [⟨9, 1, strTrs (out), false⟩]⟩ (fun r t => r = .acc 1 (strTrs (supF w n name out)) 0 ∧ t = ⟨[], [⟨9, 1, strTrs (supF w n name out), false⟩]⟩) := by
  intro n
  induction n with
  | zero => intro name out h; exact absurd h (Nat.not_lt_zero _)
  | succ n ih =>
  intro name out hm hbd
  refine ACalls.intro Tryz.func91 rfl (by first | decide | (simp; done) | (simp; decide)) ?_; intro C hC
  refine AWP.fact (lk_lenN 2 rfl rfl (strTrs_len _)) (fun hl1 => ?_)
  refine AWP.seq ?_; refine AWP.region_lit ?_; refine AL.cons rfl (AOp.box (cs := [.t (.row 6 (GPackage.trs (w.gPackages)))]) rfl rfl rfl rfl rfl) ?_; refine AL.cons rfl (AOp.move (.inr rfl) rfl rfl) ?_; refine AL.nil ?_; refine AWP.seq ?_; refine AWP.region_lit ?_; refine AL.cons rfl (AOp.loadPtr (cs := [.t (.row 6 (GPackage.trs (w.gPackages)))]) rfl rfl rfl rfl sh31 rfl rfl) ?_; refine AL.cons rfl (AOp.move (.inl rfl) rfl rfl) ?_; refine AL.cons rfl (AOp.callF (ps := [_, _]) rfl rfl Tryz.func78 (by kernel_rfl) rfl rfl leA rfl rfl (trait_spec w name)) ?_; refine AL.cons rfl (AOp.move (.inl rfl) rfl rfl) ?_; refine AL.cons rfl (AOp.extract rfl rfl rfl rfl) ?_; refine AL.cons rfl (AOp.extract rfl rfl rfl rfl) ?_; refine AL.cons rfl (AOp.extract rfl rfl rfl rfl) ?_; refine AL.cons rfl (AOp.alloc rfl rfl zr94) ?_; refine AL.cons rfl (AOp.storePtr (cs := [.t (.leaf (.string ((oTrait (w.traitAt name)).gName))), .t (.row 1 (strTrs ((oTrait (w.traitAt name)).gSupertraits))), .t (.leaf (.bool ((oTrait (w.traitAt name)).gAuto))), .t (.leaf (.bool ((oTrait (w.traitAt name)).gAssoc))), .t (.row 16 (GSignature.trs ((oTrait (w.traitAt name)).gSignatures)))]) (ds := [.t (.leaf (.string ((oTrait (w.traitAt name)).gName))), .t (.row 1 (strTrs ((oTrait (w.traitAt name)).gSupertraits))), .t (.leaf (.bool ((oTrait (w.traitAt name)).gAuto))), .t (.leaf (.bool ((oTrait (w.traitAt name)).gAssoc))), .t (.row 16 (GSignature.trs ((oTrait (w.traitAt name)).gSignatures)))]) rfl rfl rfl rfl rfl rfl rfl sz94 (Nat.le_of_ble_eq_true rfl) rfl) ?_; refine AL.cons rfl (AOp.move (.inr rfl) rfl rfl) ?_; refine AL.cons rfl (AOp.move (.inr rfl) rfl rfl) ?_; refine AL.nil ?_; refine AWP.seq ?_; refine AWP.seq ?_; refine AWP.region_lit ?_; refine AL.cons rfl (AOp.move (.inr rfl) rfl rfl) ?_; refine AL.nil ?_; refine AWP.block ?_; refine AWP.loopJ (ι := Nat × List ByteArray) (fun ⟨i, o⟩ => i ≤ (oTrait (w.traitAt name)).gSupertraits.length ∧ supF w (n + 1) name out = ((oTrait (w.traitAt name)).gSupertraits.drop i).foldl (fun o s => if s ∈ o then o else supF w n s (o ++ [s])) o ∧ supM w o ≤ supM w out ∧ o.length + supM w o ≤ out.length + supM w out) (fun ⟨i, o⟩ => ⟨[(0, (GProgram.pv w)), (1, .t (.leaf (.string (name)))), (2, .acc 1 (strTrs (o)) 0), (3, .ptr 0 0), (6, .nil), (7, .ptr 1 0), (8, .t (.leaf (.int .i64 (oInt (w.traitAt name))))), (9, .t (.leaf (.bool ((w.traitAt name).isSome)))), (10, .t (.leaf (.int .i64 (((i : Nat) : Int)))))], ⟨[some ⟨31, [.t (.row 6 (GPackage.trs (w.gPackages)))]⟩, some ⟨94, [.t (.leaf (.string ((oTrait (w.traitAt name)).gName))), .t (.row 1 (strTrs ((oTrait (w.traitAt name)).gSupertraits))), .t (.leaf (.bool ((oTrait (w.traitAt name)).gAuto))), .t (.leaf (.bool ((oTrait (w.traitAt name)).gAssoc))), .t (.row 16 (GSignature.trs ((oTrait (w.traitAt name)).gSignatures)))]⟩], [⟨9, 1, strTrs (o), false⟩]⟩⟩) (fun ⟨i, o⟩ => (oTrait (w.traitAt name)).gSupertraits.length - i) (0, out) ?_ ?_ ?_
  · exact ⟨Nat.zero_le _, rfl, Nat.le_refl _, Nat.le_refl _⟩
  · exact Wk.mk (StLe.mk' ⟨⟨rfl, leA, rfl⟩, ⟨⟨rfl, leA, rfl⟩, trivial⟩⟩ (by first | rfl | simp)) (keeps_rows hC (Nat.le_of_ble_eq_true rfl)) ⟨⟨_, rfl, .refl _, rfl⟩, ⟨⟨_, rfl, .refl _, rfl⟩, ⟨⟨_, rfl, leA, rfl⟩, ⟨⟨_, rfl, .refl _, rfl⟩, ⟨⟨_, rfl, .refl _, rfl⟩, ⟨⟨_, rfl, .refl _, rfl⟩, ⟨⟨_, rfl, .refl _, rfl⟩, ⟨⟨_, rfl, .refl _, rfl⟩, ⟨⟨_, rfl, leA, rfl⟩, trivial⟩⟩⟩⟩⟩⟩⟩⟩⟩
  rintro ⟨i, o⟩ hJ2
  obtain ⟨hi1, hi2, hi3, hi4⟩ := hJ2
  refine AWP.seq ?_; refine AWP.seq ?_; refine AWP.region_lit ?_; refine AL.cons rfl (AOp.move (.inl rfl) rfl rfl) ?_; refine AL.cons rfl (AOp.fieldPtr (k := 1) (d := 0) (e := 1) rfl rfl rfl fo94_1) ?_; refine AL.cons rfl (AOp.loadPtr1 rfl rfl rfl rfl sh54 rfl) ?_; refine AL.fact (lk_lenN 20 rfl rfl (strTrs_len _)) (fun hl3 => ?_)
  refine AL.cons rfl (AOp.lenN rfl rfl rfl rfl el54 (strTrs_len _)) ?_; refine AL.cons rfl (AOp.lss rfl rfl rfl rfl) ?_; refine AL.nil ?_; refine AWP.cond rfl (fun h4 => ?_) (fun h4 => ?_)
  · have h4b := h4
    try simp only [Bool.and_eq_true, Bool.or_eq_true, Bool.and_eq_false_iff, Bool.or_eq_false_iff, decide_eq_true_eq, decide_eq_false_iff_not, Bool.not_eq_true', Bool.not_eq_false', Bool.not_eq_eq_eq_not, Bool.not_true, Bool.not_false, ge_iff_le, gt_iff_lt, Int.not_lt, Int.not_le] at h4b
    have h4n : i < ((oTrait (w.traitAt name)).gSupertraits).length := by omega
    refine AWP.skip ?_; refine AWP.seq ?_; refine AWP.block ?_; refine AWP.seq ?_; refine AWP.region_lit ?_; refine AL.cons rfl (AOp.move (.inl rfl) rfl rfl) ?_; refine AL.cons rfl (AOp.fieldPtr (k := 1) (d := 0) (e := 1) rfl rfl rfl fo94_1) ?_; refine AL.cons rfl (AOp.loadPtr1 rfl rfl rfl rfl sh54 rfl) ?_; refine AL.cons rfl (AOp.move (.inl rfl) rfl rfl) ?_; refine AL.cons rfl (AOp.index (k := i) rfl rfl rfl rfl rfl (strTrs_cs h4n) el54) ?_; refine AL.cons rfl (AOp.loadEptr1 (d := .leaf (.string (((oTrait (w.traitAt name)).gSupertraits)[i]))) rfl rfl rfl sh9 rfl) ?_; refine AL.cons rfl (AOp.callF (ps := [_, _]) rfl rfl Tryz.func150 (by kernel_rfl) rfl rfl leA rfl rfl (has_spec o (((oTrait (w.traitAt name)).gSupertraits)[i]))) ?_; refine AL.cons rfl (AOp.notB rfl rfl rfl) ?_; refine AL.nil ?_; refine AWP.cond rfl (fun h5 => ?_) (fun h5 => ?_)
    · have h5b := h5
      try simp only [Bool.and_eq_true, Bool.or_eq_true, Bool.and_eq_false_iff, Bool.or_eq_false_iff, decide_eq_true_eq, decide_eq_false_iff_not, Bool.not_eq_true', Bool.not_eq_false', Bool.not_eq_eq_eq_not, Bool.not_true, Bool.not_false, ge_iff_le, gt_iff_lt, Int.not_lt, Int.not_le] at h5b
      refine AWP.drawnL ⟨_, _, fun j' _ => ([(⟨[some ⟨31, [.t (.row 6 (GPackage.trs (w.gPackages)))]⟩, some ⟨94, [.t (.leaf (.string ((oTrait (w.traitAt name)).gName))), .t (.row 1 (strTrs ((oTrait (w.traitAt name)).gSupertraits))), .t (.leaf (.bool ((oTrait (w.traitAt name)).gAuto))), .t (.leaf (.bool ((oTrait (w.traitAt name)).gAssoc))), .t (.row 16 (GSignature.trs ((oTrait (w.traitAt name)).gSignatures)))]⟩], [⟨9, 1, strTrs (o), false⟩]⟩ : Sto), (⟨[some ⟨31, [.t (.row 6 (GPackage.trs (w.gPackages)))]⟩, some ⟨94, [.t (.leaf (.string ((oTrait (w.traitAt name)).gName))), .t (.row 1 (strTrs ((oTrait (w.traitAt name)).gSupertraits))), .t (.leaf (.bool ((oTrait (w.traitAt name)).gAuto))), .t (.leaf (.bool ((oTrait (w.traitAt name)).gAssoc))), .t (.row 16 (GSignature.trs ((oTrait (w.traitAt name)).gSignatures)))]⟩], [⟨9, 1, strTrs (o ++ [(((oTrait (w.traitAt name)).gSupertraits)[i])]), false⟩]⟩ : Sto), (⟨[some ⟨31, [.t (.row 6 (GPackage.trs (w.gPackages)))]⟩, some ⟨94, [.t (.leaf (.string ((oTrait (w.traitAt name)).gName))), .t (.row 1 (strTrs ((oTrait (w.traitAt name)).gSupertraits))), .t (.leaf (.bool ((oTrait (w.traitAt name)).gAuto))), .t (.leaf (.bool ((oTrait (w.traitAt name)).gAssoc))), .t (.row 16 (GSignature.trs ((oTrait (w.traitAt name)).gSignatures)))]⟩], [⟨9, 1, strTrs (supF w n (((oTrait (w.traitAt name)).gSupertraits)[i]) (o ++ [(((oTrait (w.traitAt name)).gSupertraits)[i])])), false⟩]⟩ : Sto)] : List Sto).getD j' (⟨[some ⟨31, [.t (.row 6 (GPackage.trs (w.gPackages)))]⟩, some ⟨94, [.t (.leaf (.string ((oTrait (w.traitAt name)).gName))), .t (.row 1 (strTrs ((oTrait (w.traitAt name)).gSupertraits))), .t (.leaf (.bool ((oTrait (w.traitAt name)).gAuto))), .t (.leaf (.bool ((oTrait (w.traitAt name)).gAssoc))), .t (.row 16 (GSignature.trs ((oTrait (w.traitAt name)).gSignatures)))]⟩], [⟨9, 1, strTrs (supF w n (((oTrait (w.traitAt name)).gSupertraits)[i]) (o ++ [(((oTrait (w.traitAt name)).gSupertraits)[i])])), false⟩]⟩ : Sto), fun q' => ([some ((GProgram.pv w)), some (.ptr 1 1), some (.t (.row 1 (strTrs ((oTrait (w.traitAt name)).gSupertraits)))), some (.t (.leaf (.int .i64 (((i : Nat) : Int))))), some (.eptr ([.leaf (.string (((oTrait (w.traitAt name)).gSupertraits)[i]))])), some (.t (.leaf (.string (((oTrait (w.traitAt name)).gSupertraits)[i])))), some (.acc 1 (strTrs (o)) 0), some (.ptr 1 1), some (.t (.row 1 (strTrs ((oTrait (w.traitAt name)).gSupertraits)))), some (.t (.leaf (.int .i64 (((i : Nat) : Int))))), some (.eptr ([.leaf (.string (((oTrait (w.traitAt name)).gSupertraits)[i]))])), some (.t (.leaf (.string (((oTrait (w.traitAt name)).gSupertraits)[i])))), some (.t (.row 1 (strTrs ([(((oTrait (w.traitAt name)).gSupertraits)[i])])))), some (.acc 1 (strTrs (o ++ [(((oTrait (w.traitAt name)).gSupertraits)[i])])) 0), some (.acc 1 (strTrs (supF w n (((oTrait (w.traitAt name)).gSupertraits)[i]) (o ++ [(((oTrait (w.traitAt name)).gSupertraits)[i])]))) 0), some (.acc 1 (strTrs (supF w n (((oTrait (w.traitAt name)).gSupertraits)[i]) (o ++ [(((oTrait (w.traitAt name)).gSupertraits)[i])]))) 0)] : List (Option PV)).getD q' none, fun q' => ([.q 0 1, .q 0 1, .q 0 1, .q 0 1, .q 0 1, .q 0 1, .q 0 0, .q 0 0, .q 0 0, .q 0 0, .q 0 0, .q 0 0, .q 0 0, .ef 0, .ef 1, .q 2 2] : List DK).getD q' (.q 0 0), [13, 14], none, fun q' => ([[(3, none)], [(7, none)], [(34, some 1)], [(10, none)], [(35, some 2), (36, some 3)], [(37, some 4)], [(2, none)], [(7, none)], [(40, some 7)], [(10, none)], [(41, some 8), (42, some 9)], [(43, some 10)], [(44, some 11)], [(39, some 6), (45, some 12)], [(46, some 13), (38, some 5), (33, some 0)], [(47, some 14)]] : List (List (Nat × Option Nat))).getD q' []⟩ rfl mixed (by kernel_rfl) rfl rfl ⟨?_, ?_, ?_, ?_, ?_, ?_, ?_, ?_, ?_, ?_, ?_, ?_, ?_, ?_, ?_, ?_, trivial⟩ rfl ?_
      · refine .inl ⟨rfl, fun s' jj bb (h1 : 0 ≤ jj) (h2 : jj ≤ 1) hs hl => ?_⟩
        rcases (by omega : jj = 0 ∨ jj = 1) with rfl | rfl <;> exact ⟨_, rfl, AOp.loadPtr (cs := [.t (.row 6 (GPackage.trs (w.gPackages)))]) rfl rfl (hl 3 none _ (.head _) rfl) (by rw [hs]; rfl) sh31 rfl rfl⟩
      · refine .inl ⟨rfl, fun s' jj bb (h1 : 0 ≤ jj) (h2 : jj ≤ 1) hs hl => ?_⟩
        rcases (by omega : jj = 0 ∨ jj = 1) with rfl | rfl <;> exact ⟨_, rfl, AOp.fieldPtr (k := 1) (d := 0) (e := 1) rfl rfl (hl 7 none _ (.head _) rfl) fo94_1⟩
      · refine .inl ⟨rfl, fun s' jj bb (h1 : 0 ≤ jj) (h2 : jj ≤ 1) hs hl => ?_⟩
        rcases (by omega : jj = 0 ∨ jj = 1) with rfl | rfl <;> exact ⟨_, rfl, AOp.loadPtr1 rfl rfl (hl 34 (some 1) _ (.head _) rfl) (by rw [hs]; rfl) sh54 rfl⟩
      · refine .inl ⟨rfl, fun s' jj bb (h1 : 0 ≤ jj) (h2 : jj ≤ 1) hs hl => ?_⟩
        rcases (by omega : jj = 0 ∨ jj = 1) with rfl | rfl <;> exact ⟨_, rfl, AOp.move (.inl rfl) rfl (hl 10 none _ (.head _) rfl)⟩
      · refine .inl ⟨rfl, fun s' jj bb (h1 : 0 ≤ jj) (h2 : jj ≤ 1) hs hl => ?_⟩
        rcases (by omega : jj = 0 ∨ jj = 1) with rfl | rfl <;> exact ⟨_, rfl, AOp.index (k := i) rfl rfl (hl 35 (some 2) _ (.head _) rfl) rfl (hl 36 (some 3) _ (.tail _ (.head _)) rfl) (strTrs_cs h4n) el54⟩
      · refine .inl ⟨rfl, fun s' jj bb (h1 : 0 ≤ jj) (h2 : jj ≤ 1) hs hl => ?_⟩
        rcases (by omega : jj = 0 ∨ jj = 1) with rfl | rfl <;> exact ⟨_, rfl, AOp.loadEptr1 (d := .leaf (.string (((oTrait (w.traitAt name)).gSupertraits)[i]))) rfl rfl (hl 37 (some 4) _ (.head _) rfl) sh9 rfl⟩
      · exact Draw.step.q1 0 rfl rfl fun s' bb hs hl => ⟨_, rfl, AOp.move (.inl rfl) rfl (hl 2 none _ (.head _) rfl)⟩
      · exact Draw.step.q1 0 rfl rfl fun s' bb hs hl => ⟨_, rfl, AOp.fieldPtr (k := 1) (d := 0) (e := 1) rfl rfl (hl 7 none _ (.head _) rfl) fo94_1⟩
      · exact Draw.step.q1 0 rfl rfl fun s' bb hs hl => ⟨_, rfl, AOp.loadPtr1 rfl rfl (hl 40 (some 7) _ (.head _) rfl) (by rw [hs]; rfl) sh54 rfl⟩
      · exact Draw.step.q1 0 rfl rfl fun s' bb hs hl => ⟨_, rfl, AOp.move (.inl rfl) rfl (hl 10 none _ (.head _) rfl)⟩
      · exact Draw.step.q1 0 rfl rfl fun s' bb hs hl => ⟨_, rfl, AOp.index (k := i) rfl rfl (hl 41 (some 8) _ (.head _) rfl) rfl (hl 42 (some 9) _ (.tail _ (.head _)) rfl) (strTrs_cs h4n) el54⟩
      · exact Draw.step.q1 0 rfl rfl fun s' bb hs hl => ⟨_, rfl, AOp.loadEptr1 (d := .leaf (.string (((oTrait (w.traitAt name)).gSupertraits)[i]))) rfl rfl (hl 43 (some 10) _ (.head _) rfl) sh9 rfl⟩
      · exact Draw.step.q1 0 rfl rfl fun s' bb hs hl => ⟨_, rfl, AOp.buildSliceQ (es := strTrs ([(((oTrait (w.traitAt name)).gSupertraits)[i])])) (cs := [.t (.leaf (.string (((oTrait (w.traitAt name)).gSupertraits)[i])))]) rfl rfl el54 zr9 (parts_cons (hl 44 (some 11) _ (.head _) rfl) rfl rfl rfl) rfl leA rfl (by simp [strTrs]) (by decide) rfl (by decide)⟩
      · refine .inl ⟨rfl, fun s' bb hs hl => ?_⟩
        refine .inl ⟨_, rfl, AOp.congr (AOp.appendE (es3 := strTrs (o ++ [(((oTrait (w.traitAt name)).gSupertraits)[i])])) rfl rfl (hl 39 (some 6) _ (.head _) rfl) (by rw [hs]; rfl) rfl rfl rfl (hl 45 (some 12) _ (.tail _ (.head _)) rfl) rfl (strTrs_all _) el54 ze54 (by decide) (by rw [strTrs_len, strTrs_len]; simp; omega) (strTrs_append _ _)) ?_⟩
        first | (rw [hs]; rfl) | rfl
      · refine .inl ⟨rfl, fun s' bb hs hl => ?_⟩
        refine .inl ⟨_, rfl, AOp.congr (AOp.callPE (pre := ⟨[], [⟨9, 1, strTrs (o ++ [(((oTrait (w.traitAt name)).gSupertraits)[i])]), false⟩]⟩) (st' := ⟨[], [⟨9, 1, strTrs (supF w n (((oTrait (w.traitAt name)).gSupertraits)[i]) (o ++ [(((oTrait (w.traitAt name)).gSupertraits)[i])])), false⟩]⟩) (ps := [_, _, _]) (qs := [(GProgram.pv w), .t (.leaf (.string (((oTrait (w.traitAt name)).gSupertraits)[i]))), .acc 1 (strTrs (o ++ [(((oTrait (w.traitAt name)).gSupertraits)[i])])) 0]) [] [0] rfl rfl Tryz.func91 (by kernel_rfl) rfl (evs_cons (hl 33 (some 0) _ (.tail _ (.tail _ (.head _))) rfl) (evs_cons (hl 38 (some 5) _ (.tail _ (.head _)) rfl) (evs_cons (hl 46 (some 13) _ (.head _) rfl) rfl))) hs (by (try rw [hs]); exact ⟨rfl, rfl, by decide, by decide, fun k h => absurd h (Nat.not_lt_zero _), fun k x h => by simp at h, fun r row h => by rcases r with _ | r <;> simp at h; subst h; rfl⟩) leA rfl rfl rfl (ih _ _ (by have := sup_step (w := w) (name := name) (o := o) (List.getElem_mem (show i < (oTrait (w.traitAt name)).gSupertraits.length by omega)) (by assumption); omega) (by have := sup_step (w := w) (name := name) (o := o) (List.getElem_mem (show i < (oTrait (w.traitAt name)).gSupertraits.length by omega)) (by assumption); have h4 : (o ++ [((oTrait (w.traitAt name)).gSupertraits)[i]]).length = o.length + 1 := (by simp); omega))) ?_⟩
        first | (rw [hs]; rfl) | rfl
      · exact Draw.step.q1 2 rfl rfl fun s' bb hs hl => ⟨_, rfl, AOp.move (.inr rfl) rfl (hl 47 (some 14) _ (.head _) rfl)⟩
      refine AWP.region_lit ?_; refine AL.cons rfl (AOp.move (.inl rfl) rfl rfl) ?_; refine AL.cons rfl (AOp.addI rfl rfl rfl rfl (c := ((i + 1 : Nat) : Int)) (by omega) (by omega)) ?_; refine AL.cons rfl (AOp.move (.inr rfl) rfl rfl) ?_; refine AL.nil ?_; refine ⟨(i + 1, supF w n (((oTrait (w.traitAt name)).gSupertraits)[i]) (o ++ [(((oTrait (w.traitAt name)).gSupertraits)[i])])), ?_, ?_, ?_⟩
      · first | exact supJ_has (by omega) hi2 hi3 hi4 (by assumption) | exact supJ_new (by omega) hi2 hi3 hi4 (by assumption) rfl
      · exact Wk.mk (StLe.mk' ⟨⟨rfl, leA, rfl⟩, ⟨⟨rfl, leA, rfl⟩, trivial⟩⟩ (by first | rfl | simp)) (keeps_rows hC (Nat.le_of_ble_eq_true rfl)) ⟨⟨_, rfl, .refl _, rfl⟩, ⟨⟨_, rfl, .refl _, rfl⟩, ⟨⟨_, rfl, leA, rfl⟩, ⟨⟨_, rfl, .refl _, rfl⟩, ⟨⟨_, rfl, .refl _, rfl⟩, ⟨⟨_, rfl, .refl _, rfl⟩, ⟨⟨_, rfl, .refl _, rfl⟩, ⟨⟨_, rfl, .refl _, rfl⟩, ⟨⟨_, rfl, leA, rfl⟩, trivial⟩⟩⟩⟩⟩⟩⟩⟩⟩
      · dsimp only; omega
    · have h5b := h5
      try simp only [Bool.and_eq_true, Bool.or_eq_true, Bool.and_eq_false_iff, Bool.or_eq_false_iff, decide_eq_true_eq, decide_eq_false_iff_not, Bool.not_eq_true', Bool.not_eq_false', Bool.not_eq_eq_eq_not, Bool.not_true, Bool.not_false, ge_iff_le, gt_iff_lt, Int.not_lt, Int.not_le] at h5b
      refine AWP.skip ?_; refine AWP.region_lit ?_; refine AL.cons rfl (AOp.move (.inl rfl) rfl rfl) ?_; refine AL.cons rfl (AOp.addI rfl rfl rfl rfl (c := ((i + 1 : Nat) : Int)) (by omega) (by omega)) ?_; refine AL.cons rfl (AOp.move (.inr rfl) rfl rfl) ?_; refine AL.nil ?_; refine ⟨(i + 1, o), ?_, ?_, ?_⟩
      · first | exact supJ_has (by omega) hi2 hi3 hi4 (by assumption) | exact supJ_new (by omega) hi2 hi3 hi4 (by assumption) rfl
      · exact Wk.mk (StLe.mk' ⟨⟨rfl, leA, rfl⟩, ⟨⟨rfl, leA, rfl⟩, trivial⟩⟩ (by first | rfl | simp)) (keeps_rows hC (Nat.le_of_ble_eq_true rfl)) ⟨⟨_, rfl, .refl _, rfl⟩, ⟨⟨_, rfl, .refl _, rfl⟩, ⟨⟨_, rfl, .refl _, rfl⟩, ⟨⟨_, rfl, .refl _, rfl⟩, ⟨⟨_, rfl, .refl _, rfl⟩, ⟨⟨_, rfl, .refl _, rfl⟩, ⟨⟨_, rfl, .refl _, rfl⟩, ⟨⟨_, rfl, .refl _, rfl⟩, ⟨⟨_, rfl, leA, rfl⟩, trivial⟩⟩⟩⟩⟩⟩⟩⟩⟩
      · dsimp only; omega
  · have h4b := h4
    try simp only [Bool.and_eq_true, Bool.or_eq_true, Bool.and_eq_false_iff, Bool.or_eq_false_iff, decide_eq_true_eq, decide_eq_false_iff_not, Bool.not_eq_true', Bool.not_eq_false', Bool.not_eq_eq_eq_not, Bool.not_true, Bool.not_false, ge_iff_le, gt_iff_lt, Int.not_lt, Int.not_le] at h4b
    have h4n : i ≥ ((oTrait (w.traitAt name)).gSupertraits).length := by omega
    refine AWP.exit ?_; refine AWP.seq ?_; refine AWP.region_lit ?_; refine AL.cons rfl (AOp.move (.inl rfl) rfl rfl) ?_; refine AL.cons rfl (AOp.move (.inr rfl) rfl rfl) ?_; refine AL.nil ?_; refine AWP.ret ?_
    obtain rfl := fold_end (by omega) hi2
    exact Ends.mk (ps := [_]) (.inr rfl) ⟨rfl, trivial⟩ rfl (StLe.mk' (st' := ⟨[], [⟨9, 1, strTrs (supF w (n + 1) name out), false⟩]⟩) trivial rfl) (keeps_rows hC (Nat.le_of_ble_eq_true rfl)) (q := .acc 1 (strTrs (supF w (n + 1) name out)) 0) (.refl _) rfl ⟨rfl, rfl⟩

set_option maxRecDepth 100000 in
set_option maxHeartbeats 4000000 in
theorem allSup_spec (w : GProgram) (name : ByteArray) (hb : w.allSup.length ≤ 1099511627776) : AFun Tryz.prog 27 [(GProgram.pv w), .t (.leaf (.string (name)))] (.t (.row 1 (strTrs (GProgram.supers w name)))) := by
  refine ACalls.intro Tryz.func27 rfl (by first | decide | (simp; done) | (simp; decide)) ?_; intro C hC
  refine AWP.seq ?_; refine AWP.region_lit ?_; refine AL.cons rfl (AOp.box (cs := [.t (.row 6 (GPackage.trs (w.gPackages)))]) rfl rfl rfl rfl rfl) ?_; refine AL.cons rfl (AOp.move (.inr rfl) rfl rfl) ?_; refine AL.nil ?_; refine AWP.seq ?_; refine AWP.region_lit ?_; refine AL.cons rfl (AOp.loadPtr (cs := [.t (.row 6 (GPackage.trs (w.gPackages)))]) rfl rfl rfl rfl sh31 rfl rfl) ?_; refine AL.cons rfl (AOp.move (.inl rfl) rfl rfl) ?_; refine AL.cons rfl (AOp.buildSlice (es := strTrs ([])) (cs := []) rfl rfl el54 zr9 rfl rfl leA rfl (by simp [strTrs]) (by decide) rfl (by decide)) ?_; refine AL.cons rfl (AOp.callPE (pre := ⟨[], [⟨9, 1, strTrs ([]), false⟩]⟩) (st' := ⟨[], [⟨9, 1, strTrs (GProgram.supers w name), false⟩]⟩) (ps := [_, _, _]) (qs := [(GProgram.pv w), .t (.leaf (.string (name))), .acc 1 (strTrs ([])) 0]) [] [0] rfl rfl Tryz.func91 (by kernel_rfl) rfl rfl rfl (by (try rw [hs]); exact ⟨rfl, rfl, by decide, by decide, fun k h => absurd h (Nat.not_lt_zero _), fun k x h => by simp at h, fun r row h => by rcases r with _ | r <;> simp at h; subst h; rfl⟩) leA rfl rfl rfl (supers_spec w (supM w [] + 1) name [] (Nat.lt_succ_self _) (supM_le (by assumption)))) ?_; refine AL.cons rfl (AOp.move (.inr rfl) rfl rfl) ?_; refine AL.nil ?_; refine AWP.ret ?_; exact Ends.mk (ps := [_]) (.inr rfl) ⟨rfl, trivial⟩ rfl (StLe.mk' (st' := ⟨[], []⟩) trivial rfl) (keeps_nil hC) (q := (.t (.row 1 (strTrs (GProgram.supers w name))) : PV)) leA rfl ⟨by rfl, rfl⟩

end Go.Proofs.YtnakkelglbcecaaGreat

namespace Go.Proofs.YtnakkelglbcecaaGreat
open Go.RowKit Go.Proofs
set_option linter.unusedSimpArgs false
set_option linter.unusedVariables false


/-- The way from one trait to another along supertraits: the first one found, depth first, of at most n steps. -/
def pathF (w : GProgram) : Nat → ByteArray → ByteArray → Option (List Int)
  | 0, s, d => if s = d then some [] else none
  | n + 1, s, d => if s = d then some [] else pathL (pathF w n) d 0 (oTrait (w.traitAt s)).gSupertraits
where
  pathL (f : ByteArray → ByteArray → Option (List Int)) (d : ByteArray) : Nat → List ByteArray → Option (List Int)
  | _, [] => none
  | i, x :: l => match f x d with
    | some r => some ((i : Int) :: r)
    | none => pathL f d (i + 1) l
def oPath (o : Option (List Int)) : List Int := o.getD []
theorem pathL_next {f : ByteArray → ByteArray → Option (List Int)} {d : ByteArray} {l : List ByteArray} {i : Nat} {r : Option (List Int)} (h : i < l.length) (hr : r = pathF.pathL f d i (l.drop i)) (hn : (f l[i] d).isSome = false) : r = pathF.pathL f d (i + 1) (l.drop (i + 1)) := by
  rw [hr, List.drop_eq_getElem_cons h, pathF.pathL]
  cases hq : f l[i] d with
  | none => rfl
  | some x => rw [hq] at hn; cases hn
theorem pathL_hit {f : ByteArray → ByteArray → Option (List Int)} {d : ByteArray} {l : List ByteArray} {i : Nat} {r : Option (List Int)} (h : i < l.length) (hr : r = pathF.pathL f d i (l.drop i)) (hn : (f l[i] d).isSome = true) : r = some ([(i : Int)] ++ oPath (f l[i] d)) := by
  rw [hr, List.drop_eq_getElem_cons h, pathF.pathL]
  cases hq : f l[i] d with
  | none => rw [hq] at hn; cases hn
  | some x => rfl
theorem pathL_end {f : ByteArray → ByteArray → Option (List Int)} {d : ByteArray} {l : List ByteArray} {i : Nat} {r : Option (List Int)} (h : l.length ≤ i) (hr : r = pathF.pathL f d i (l.drop i)) : r = none := by
  rw [hr, List.drop_of_length_le h, pathF.pathL]
theorem pathF_len (w : GProgram) : ∀ (n : Nat) (s d : ByteArray), (oPath (pathF w n s d)).length ≤ n
  | 0, s, d => by rw [pathF]; split <;> simp [oPath]
  | n + 1, s, d => by
    rw [pathF]
    split
    · simp [oPath]
    · have key : ∀ (l : List ByteArray) (i : Nat), (oPath (pathF.pathL (pathF w n) d i l)).length ≤ n + 1 := by
        intro l
        induction l with
        | nil => intro i; simp [pathF.pathL, oPath]
        | cons x l ih =>
          intro i
          rw [pathF.pathL]
          have h := pathF_len w n x d
          cases hq : pathF w n x d with
          | none => exact ih (i + 1)
          | some r =>
            rw [hq] at h
            simp only [oPath, Option.getD_some, List.length_cons] at h ⊢
            omega
      exact key _ _
def pathV (o : Option (List Int)) : PV := .tup [.t (.row 1 (intTrs (oPath o))), .t (.leaf (.bool o.isSome))]

set_option maxRecDepth 100000 in
set_option maxHeartbeats 4000000 in
theorem pathTo_ok (w : GProgram) : ∀ (n : Nat) (s d : ByteArray), n ≤ 1000 → AFun Tryz.prog 96 [(GProgram.pv w), .t (.leaf (.string s)), .t (.leaf (.string d)), .t (.leaf (.int .i64 ((n : Nat) : Int)))] (pathV (pathF w n s d)) := by
  intro n
  induction n with
  | zero =>
  intro s d hn
  refine ACalls.intro Tryz.func96 rfl (by first | decide | (simp; done) | (simp; decide)) ?_; intro C hC
  refine AWP.seq ?_; refine AWP.region_lit ?_; refine AL.cons rfl (AOp.box (cs := [.t (.row 6 (GPackage.trs (w.gPackages)))]) rfl rfl rfl rfl rfl) ?_; refine AL.cons rfl (AOp.move (.inr rfl) rfl rfl) ?_; refine AL.cons rfl (AOp.move (.inr rfl) rfl rfl) ?_; refine AL.nil ?_; refine AWP.seq ?_; refine AWP.seq ?_; refine AWP.region_lit ?_; refine AL.cons rfl (AOp.move (.inl rfl) rfl rfl) ?_; refine AL.cons rfl (AOp.move (.inl rfl) rfl rfl) ?_; refine AL.cons rfl (AOp.eqlS rfl rfl rfl rfl) ?_; refine AL.nil ?_; refine AWP.cond rfl (fun h1 => ?_) (fun h1 => ?_)
  · have h1b := h1
    try simp only [Bool.and_eq_true, Bool.or_eq_true, Bool.and_eq_false_iff, Bool.or_eq_false_iff, decide_eq_true_eq, decide_eq_false_iff_not, Bool.not_eq_true', Bool.not_eq_false', Bool.not_eq_eq_eq_not, Bool.not_true, Bool.not_false, ge_iff_le, gt_iff_lt, Int.not_lt, Int.not_le] at h1b
    refine AWP.seq ?_; refine AWP.region_lit ?_; refine AL.cons rfl (AOp.buildSlice (es := intTrs ([])) (cs := []) rfl rfl el60 zr3 rfl rfl leA rfl (by simp [intTrs]) (by decide) rfl (by decide)) ?_; refine AL.cons rfl (AOp.move (.inr rfl) rfl rfl) ?_; refine AL.cons rfl (AOp.move (.inr rfl) rfl rfl) ?_; refine AL.nil ?_; refine AWP.ret ?_
    have hq : pathF w (0) s d = some [] := by rw [pathF, if_pos (by assumption)]
    exact Ends.mk (ps := [_, _]) (.inr rfl) ⟨rfl, rfl, trivial⟩ rfl (StLe.mk' (st' := ⟨[], []⟩) trivial rfl) (keeps_nil hC) (q := .tup [.t (.row 1 (intTrs [])), .t (.leaf (.bool true))]) leA rfl ⟨by rw [hq]; rfl, rfl⟩
  · have h1b := h1
    try simp only [Bool.and_eq_true, Bool.or_eq_true, Bool.and_eq_false_iff, Bool.or_eq_false_iff, decide_eq_true_eq, decide_eq_false_iff_not, Bool.not_eq_true', Bool.not_eq_false', Bool.not_eq_eq_eq_not, Bool.not_true, Bool.not_false, ge_iff_le, gt_iff_lt, Int.not_lt, Int.not_le] at h1b
    refine AWP.skip ?_; refine AWP.seq ?_; refine AWP.seq ?_; refine AWP.region_lit ?_; refine AL.cons rfl (AOp.move (.inl rfl) rfl rfl) ?_; refine AL.cons rfl (AOp.eqlI rfl rfl rfl rfl) ?_; refine AL.nil ?_; refine AWP.cond rfl (fun h2 => ?_) (fun h2 => ?_)
    · have h2b := h2
      try simp only [Bool.and_eq_true, Bool.or_eq_true, Bool.and_eq_false_iff, Bool.or_eq_false_iff, decide_eq_true_eq, decide_eq_false_iff_not, Bool.not_eq_true', Bool.not_eq_false', Bool.not_eq_eq_eq_not, Bool.not_true, Bool.not_false, ge_iff_le, gt_iff_lt, Int.not_lt, Int.not_le] at h2b
      refine AWP.seq ?_; refine AWP.region_lit ?_; refine AL.cons rfl (AOp.move (.inr rfl) rfl rfl) ?_; refine AL.cons rfl (AOp.move (.inr rfl) rfl rfl) ?_; refine AL.nil ?_; refine AWP.ret ?_
      have hq : pathF w (0) s d = none := by first | exact pathL_end (by omega) hi2 | (rw [pathF, if_neg (by assumption)])
      exact Ends.mk (ps := [_, _]) (.inr rfl) ⟨rfl, rfl, trivial⟩ rfl (StLe.mk' (st' := ⟨[], []⟩) trivial rfl) (keeps_nil hC) (q := .tup [.t (.row 1 (intTrs [])), .t (.leaf (.bool false))]) leA rfl ⟨by rw [hq]; rfl, rfl⟩
    · exact absurd (h2.symm.trans rfl) (by decide)
  | succ n ih =>
  intro s d hn
  refine ACalls.intro Tryz.func96 rfl (by first | decide | (simp; done) | (simp; decide)) ?_; intro C hC
  have hsucc : decide ((((n + 1 : Nat) : Int) : Int) = 0) = false := by rw [decide_eq_false_iff_not]; omega
  refine AWP.seq ?_; refine AWP.region_lit ?_; refine AL.cons rfl (AOp.box (cs := [.t (.row 6 (GPackage.trs (w.gPackages)))]) rfl rfl rfl rfl rfl) ?_; refine AL.cons rfl (AOp.move (.inr rfl) rfl rfl) ?_; refine AL.cons rfl (AOp.move (.inr rfl) rfl rfl) ?_; refine AL.nil ?_; refine AWP.seq ?_; refine AWP.seq ?_; refine AWP.region_lit ?_; refine AL.cons rfl (AOp.move (.inl rfl) rfl rfl) ?_; refine AL.cons rfl (AOp.move (.inl rfl) rfl rfl) ?_; refine AL.cons rfl (AOp.eqlS rfl rfl rfl rfl) ?_; refine AL.nil ?_; refine AWP.cond rfl (fun h1 => ?_) (fun h1 => ?_)
  · have h1b := h1
    try simp only [Bool.and_eq_true, Bool.or_eq_true, Bool.and_eq_false_iff, Bool.or_eq_false_iff, decide_eq_true_eq, decide_eq_false_iff_not, Bool.not_eq_true', Bool.not_eq_false', Bool.not_eq_eq_eq_not, Bool.not_true, Bool.not_false, ge_iff_le, gt_iff_lt, Int.not_lt, Int.not_le] at h1b
    refine AWP.seq ?_; refine AWP.region_lit ?_; refine AL.cons rfl (AOp.buildSlice (es := intTrs ([])) (cs := []) rfl rfl el60 zr3 rfl rfl leA rfl (by simp [intTrs]) (by decide) rfl (by decide)) ?_; refine AL.cons rfl (AOp.move (.inr rfl) rfl rfl) ?_; refine AL.cons rfl (AOp.move (.inr rfl) rfl rfl) ?_; refine AL.nil ?_; refine AWP.ret ?_
    have hq : pathF w (n + 1) s d = some [] := by rw [pathF, if_pos (by assumption)]
    exact Ends.mk (ps := [_, _]) (.inr rfl) ⟨rfl, rfl, trivial⟩ rfl (StLe.mk' (st' := ⟨[], []⟩) trivial rfl) (keeps_nil hC) (q := .tup [.t (.row 1 (intTrs [])), .t (.leaf (.bool true))]) leA rfl ⟨by rw [hq]; rfl, rfl⟩
  · have h1b := h1
    try simp only [Bool.and_eq_true, Bool.or_eq_true, Bool.and_eq_false_iff, Bool.or_eq_false_iff, decide_eq_true_eq, decide_eq_false_iff_not, Bool.not_eq_true', Bool.not_eq_false', Bool.not_eq_eq_eq_not, Bool.not_true, Bool.not_false, ge_iff_le, gt_iff_lt, Int.not_lt, Int.not_le] at h1b
    refine AWP.skip ?_; refine AWP.seq ?_; refine AWP.seq ?_; refine AWP.region_lit ?_; refine AL.cons rfl (AOp.move (.inl rfl) rfl rfl) ?_; refine AL.cons rfl (AOp.eqlI rfl rfl rfl rfl) ?_; refine AL.nil ?_; refine AWP.cond rfl (fun h2 => ?_) (fun h2 => ?_)
    · exact absurd (h2.symm.trans hsucc) (by decide)
    · have h2b := h2
      try simp only [Bool.and_eq_true, Bool.or_eq_true, Bool.and_eq_false_iff, Bool.or_eq_false_iff, decide_eq_true_eq, decide_eq_false_iff_not, Bool.not_eq_true', Bool.not_eq_false', Bool.not_eq_eq_eq_not, Bool.not_true, Bool.not_false, ge_iff_le, gt_iff_lt, Int.not_lt, Int.not_le] at h2b
      refine AWP.skip ?_; refine AWP.seq ?_; refine AWP.region_lit ?_; refine AL.cons rfl (AOp.loadPtr (cs := [.t (.row 6 (GPackage.trs (w.gPackages)))]) rfl rfl rfl rfl sh31 rfl rfl) ?_; refine AL.cons rfl (AOp.move (.inl rfl) rfl rfl) ?_; refine AL.cons rfl (AOp.callF (ps := [_, _]) rfl rfl Tryz.func82 (by kernel_rfl) rfl rfl leA rfl rfl (trait_impl w s)) ?_; refine AL.cons rfl (AOp.move (.inl rfl) rfl rfl) ?_; refine AL.cons rfl (AOp.extract rfl rfl rfl rfl) ?_; refine AL.cons rfl (AOp.extract rfl rfl rfl rfl) ?_; refine AL.cons rfl (AOp.extract rfl rfl rfl rfl) ?_; refine AL.cons rfl (AOp.alloc rfl rfl zr94) ?_; refine AL.cons rfl (AOp.storePtr (cs := [.t (.leaf (.string ((oTrait (w.traitAt s)).gName))), .t (.row 1 (strTrs ((oTrait (w.traitAt s)).gSupertraits))), .t (.leaf (.bool ((oTrait (w.traitAt s)).gAuto))), .t (.leaf (.bool ((oTrait (w.traitAt s)).gAssoc))), .t (.row 16 (GSignature.trs ((oTrait (w.traitAt s)).gSignatures)))]) (ds := [.t (.leaf (.string ((oTrait (w.traitAt s)).gName))), .t (.row 1 (strTrs ((oTrait (w.traitAt s)).gSupertraits))), .t (.leaf (.bool ((oTrait (w.traitAt s)).gAuto))), .t (.leaf (.bool ((oTrait (w.traitAt s)).gAssoc))), .t (.row 16 (GSignature.trs ((oTrait (w.traitAt s)).gSignatures)))]) rfl rfl rfl rfl rfl rfl rfl sz94 (Nat.le_of_ble_eq_true rfl) rfl) ?_; refine AL.cons rfl (AOp.move (.inr rfl) rfl rfl) ?_; refine AL.cons rfl (AOp.move (.inr rfl) rfl rfl) ?_; refine AL.nil ?_; refine AWP.seq ?_; refine AWP.seq ?_; refine AWP.region_lit ?_; refine AL.cons rfl (AOp.fieldPtr (k := 1) (d := 0) (e := 1) rfl rfl rfl fo94_1) ?_; refine AL.cons rfl (AOp.loadPtr1 rfl rfl rfl rfl sh54 rfl) ?_; refine AL.fact (lk_lenN 31 rfl rfl (strTrs_len _)) (fun hl3 => ?_)
      refine AL.cons rfl (AOp.lenN rfl rfl rfl rfl el54 (strTrs_len _)) ?_; refine AL.cons rfl (AOp.move (.inl rfl) rfl rfl) ?_; refine AL.nil ?_; refine AWP.block ?_; refine AWP.loopJ (ι := Nat) (fun i => i ≤ (oTrait (w.traitAt s)).gSupertraits.length ∧ pathF w (n + 1) s d = pathF.pathL (pathF w n) d i ((oTrait (w.traitAt s)).gSupertraits.drop i)) (fun i => ⟨[(0, (GProgram.pv w)), (1, .t (.leaf (.string (s)))), (2, .t (.leaf (.string (d)))), (3, .t (.leaf (.int .i64 (((n + 1 : Nat) : Int))))), (4, .ptr 0 0), (10, .ptr 1 0), (11, .t (.leaf (.int .i64 (oInt (w.traitAt s))))), (12, .t (.leaf (.bool ((w.traitAt s).isSome)))), (31, .t (.row 1 (strTrs ((oTrait (w.traitAt s)).gSupertraits)))), (32, .t (.leaf (.int .i64 (((((oTrait (w.traitAt s)).gSupertraits).length : Nat) : Int))))), (33, .t (.leaf (.int .i64 (((i : Nat) : Int)))))], ⟨[some ⟨31, [.t (.row 6 (GPackage.trs (w.gPackages)))]⟩, some ⟨94, [.t (.leaf (.string ((oTrait (w.traitAt s)).gName))), .t (.row 1 (strTrs ((oTrait (w.traitAt s)).gSupertraits))), .t (.leaf (.bool ((oTrait (w.traitAt s)).gAuto))), .t (.leaf (.bool ((oTrait (w.traitAt s)).gAssoc))), .t (.row 16 (GSignature.trs ((oTrait (w.traitAt s)).gSignatures)))]⟩], []⟩⟩) (fun i => (oTrait (w.traitAt s)).gSupertraits.length - i) 0 ?_ ?_ ?_
      · exact ⟨Nat.zero_le _, by rw [pathF, if_neg (by assumption)]; rfl⟩
      · exact Wk.mk (StLe.mk' ⟨⟨rfl, leA, rfl⟩, ⟨⟨rfl, leA, rfl⟩, trivial⟩⟩ rfl) (keeps_nil hC) ⟨⟨_, rfl, .refl _, rfl⟩, ⟨⟨_, rfl, .refl _, rfl⟩, ⟨⟨_, rfl, .refl _, rfl⟩, ⟨⟨_, rfl, .refl _, rfl⟩, ⟨⟨_, rfl, .refl _, rfl⟩, ⟨⟨_, rfl, .refl _, rfl⟩, ⟨⟨_, rfl, .refl _, rfl⟩, ⟨⟨_, rfl, .refl _, rfl⟩, ⟨⟨_, rfl, .refl _, rfl⟩, ⟨⟨_, rfl, .refl _, rfl⟩, ⟨⟨_, rfl, leA, rfl⟩, trivial⟩⟩⟩⟩⟩⟩⟩⟩⟩⟩⟩
      rintro i hJ4
      obtain ⟨hi1, hi2⟩ := hJ4
      refine AWP.seq ?_; refine AWP.region_lit ?_; refine AL.cons rfl (AOp.lss rfl rfl rfl rfl) ?_; refine AL.nil ?_; refine AWP.seq ?_; refine AWP.cond rfl (fun h5 => ?_) (fun h5 => ?_)
      · have h5b := h5
        try simp only [Bool.and_eq_true, Bool.or_eq_true, Bool.and_eq_false_iff, Bool.or_eq_false_iff, decide_eq_true_eq, decide_eq_false_iff_not, Bool.not_eq_true', Bool.not_eq_false', Bool.not_eq_eq_eq_not, Bool.not_true, Bool.not_false, ge_iff_le, gt_iff_lt, Int.not_lt, Int.not_le] at h5b
        have h5n : i < ((oTrait (w.traitAt s)).gSupertraits).length := by omega
        refine AWP.skip ?_; refine AWP.seq ?_; refine AWP.block ?_; refine AWP.seq ?_; refine AWP.region_lit ?_; refine AL.cons rfl (AOp.move (.inl rfl) rfl rfl) ?_; refine AL.cons rfl (AOp.index (k := i) rfl rfl rfl rfl rfl (strTrs_cs h5n) el54) ?_; refine AL.cons rfl (AOp.loadEptr1 (d := .leaf (.string (((oTrait (w.traitAt s)).gSupertraits)[i]))) rfl rfl rfl sh9 rfl) ?_; refine AL.cons rfl (AOp.move (.inr rfl) rfl rfl) ?_; refine AL.cons rfl (AOp.move (.inr rfl) rfl rfl) ?_; refine AL.nil ?_; refine AWP.seq ?_; refine AWP.region_lit ?_; refine AL.cons rfl (AOp.loadPtr (cs := [.t (.row 6 (GPackage.trs (w.gPackages)))]) rfl rfl rfl rfl sh31 rfl rfl) ?_; refine AL.cons rfl (AOp.move (.inl rfl) rfl rfl) ?_; refine AL.cons rfl (AOp.move (.inl rfl) rfl rfl) ?_; refine AL.cons rfl (AOp.move (.inl rfl) rfl rfl) ?_; refine AL.cons rfl (AOp.subI rfl rfl rfl rfl (c := ((n : Nat) : Int)) (by omega) (by omega)) ?_; refine AL.cons rfl (AOp.callF (ps := [_, _, _, _]) rfl rfl Tryz.func96 (by kernel_rfl) rfl rfl leA rfl rfl (ih (((oTrait (w.traitAt s)).gSupertraits)[i]) d (by omega))) ?_; refine AL.cons rfl (AOp.move (.inl rfl) rfl rfl) ?_; refine AL.cons rfl (AOp.extract rfl rfl rfl rfl) ?_; refine AL.cons rfl (AOp.extract rfl rfl rfl rfl) ?_; refine AL.cons rfl (AOp.move (.inr rfl) rfl rfl) ?_; refine AL.cons rfl (AOp.move (.inr rfl) rfl rfl) ?_; refine AL.nil ?_; refine AWP.seq ?_; refine AWP.region_lit ?_; refine AL.cons rfl (AOp.move (.inl rfl) rfl rfl) ?_; refine AL.nil ?_; refine AWP.cond rfl (fun h6 => ?_) (fun h6 => ?_)
        · have h6b := h6
          try simp only [Bool.and_eq_true, Bool.or_eq_true, Bool.and_eq_false_iff, Bool.or_eq_false_iff, decide_eq_true_eq, decide_eq_false_iff_not, Bool.not_eq_true', Bool.not_eq_false', Bool.not_eq_eq_eq_not, Bool.not_true, Bool.not_false, ge_iff_le, gt_iff_lt, Int.not_lt, Int.not_le] at h6b
          refine AWP.seq ?_; refine AWP.region_lit ?_; refine AL.cons rfl (AOp.move (.inl rfl) rfl rfl) ?_; refine AL.cons rfl (AOp.buildSlice (es := intTrs ([((i : Nat) : Int)])) (cs := [.t (.leaf (.int .i64 (((i : Nat) : Int))))]) rfl rfl el60 zr3 rfl rfl leA rfl (by simp [intTrs]) (by decide) rfl (by decide)) ?_; refine AL.cons rfl (AOp.move (.inl rfl) rfl rfl) ?_; refine AL.cons rfl (AOp.appendE (es3 := intTrs (([((i : Nat) : Int)]) ++ (oPath (pathF w (n) (((oTrait (w.traitAt s)).gSupertraits)[i]) d)))) rfl rfl rfl rfl rfl rfl rfl rfl rfl (intTrs_all _) el60 ze60 (by decide) (by have := pathF_len w n (oTrait (w.traitAt s)).gSupertraits[i] d; rw [intTrs_len, intTrs_len]; simp; omega) (intTrs_append _ _)) ?_; refine AL.cons rfl (AOp.move (.inr rfl) rfl rfl) ?_; refine AL.cons rfl (AOp.move (.inr rfl) rfl rfl) ?_; refine AL.nil ?_; refine AWP.ret ?_
          have hq := pathL_hit (by omega) hi2 (by assumption)
          exact Ends.mk (ps := [_, _]) (.inr rfl) ⟨rfl, rfl, trivial⟩ rfl (StLe.mk' (st' := ⟨[], []⟩) trivial rfl) (keeps_nil hC) (q := .tup [.t (.row 1 (intTrs (([((i : Nat) : Int)]) ++ (oPath (pathF w (n) (((oTrait (w.traitAt s)).gSupertraits)[i]) d))))), .t (.leaf (.bool true))]) leA rfl ⟨by rw [hq]; rfl, rfl⟩
        · have h6b := h6
          try simp only [Bool.and_eq_true, Bool.or_eq_true, Bool.and_eq_false_iff, Bool.or_eq_false_iff, decide_eq_true_eq, decide_eq_false_iff_not, Bool.not_eq_true', Bool.not_eq_false', Bool.not_eq_eq_eq_not, Bool.not_true, Bool.not_false, ge_iff_le, gt_iff_lt, Int.not_lt, Int.not_le] at h6b
          refine AWP.skip ?_; refine AWP.region_lit ?_; refine AL.cons rfl (AOp.addI rfl rfl rfl rfl (c := ((i + 1 : Nat) : Int)) (by omega) (by omega)) ?_; refine AL.cons rfl (AOp.move (.inl rfl) rfl rfl) ?_; refine AL.nil ?_; refine ⟨i + 1, ?_, ?_, ?_⟩
          · exact ⟨by omega, pathL_next (by omega) hi2 (by assumption)⟩
          · exact Wk.mk (StLe.mk' ⟨⟨rfl, leA, rfl⟩, ⟨⟨rfl, leA, rfl⟩, trivial⟩⟩ rfl) (keeps_nil hC) ⟨⟨_, rfl, .refl _, rfl⟩, ⟨⟨_, rfl, .refl _, rfl⟩, ⟨⟨_, rfl, .refl _, rfl⟩, ⟨⟨_, rfl, .refl _, rfl⟩, ⟨⟨_, rfl, .refl _, rfl⟩, ⟨⟨_, rfl, .refl _, rfl⟩, ⟨⟨_, rfl, .refl _, rfl⟩, ⟨⟨_, rfl, .refl _, rfl⟩, ⟨⟨_, rfl, .refl _, rfl⟩, ⟨⟨_, rfl, .refl _, rfl⟩, ⟨⟨_, rfl, leA, rfl⟩, trivial⟩⟩⟩⟩⟩⟩⟩⟩⟩⟩⟩
          · omega
      · have h5b := h5
        try simp only [Bool.and_eq_true, Bool.or_eq_true, Bool.and_eq_false_iff, Bool.or_eq_false_iff, decide_eq_true_eq, decide_eq_false_iff_not, Bool.not_eq_true', Bool.not_eq_false', Bool.not_eq_eq_eq_not, Bool.not_true, Bool.not_false, ge_iff_le, gt_iff_lt, Int.not_lt, Int.not_le] at h5b
        have h5n : i ≥ ((oTrait (w.traitAt s)).gSupertraits).length := by omega
        refine AWP.exit ?_; refine AWP.seq ?_; refine AWP.region_lit ?_; refine AL.cons rfl (AOp.move (.inr rfl) rfl rfl) ?_; refine AL.cons rfl (AOp.move (.inr rfl) rfl rfl) ?_; refine AL.nil ?_; refine AWP.ret ?_
        have hq : pathF w (n + 1) s d = none := by first | exact pathL_end (by omega) hi2 | (rw [pathF, if_neg (by assumption)])
        exact Ends.mk (ps := [_, _]) (.inr rfl) ⟨rfl, rfl, trivial⟩ rfl (StLe.mk' (st' := ⟨[], []⟩) trivial rfl) (keeps_nil hC) (q := .tup [.t (.row 1 (intTrs [])), .t (.leaf (.bool false))]) leA rfl ⟨by rw [hq]; rfl, rfl⟩

end Go.Proofs.YtnakkelglbcecaaGreat

namespace Go.Proofs.YtnakkelglbcecaaGreat
open Go.RowKit Go.Proofs
set_option linter.unusedSimpArgs false
set_option linter.unusedVariables false

attribute [local irreducible] lt

noncomputable def sl19Steps_F1 (fu : Nat) (r_sl19Steps : GProgram → ByteArray → ByteArray → Int → Option ((List Int) × Bool)) (pw : GProgram) (pfrom : ByteArray) (pto : ByteArray) (pleft : Int) : Nat → Unit → Option (LR Unit ((List Int) × Bool)) :=
 fun i3 _ => sw (decide ((pleft : Int) > 0))
 (bd (r_sl19Steps pw (atD ((oTrait (GProgram.traitAt pw pfrom)).gSupertraits) i3) pto (wrap64 (pleft - 1))) (fun (x9, x10) =>
 sw (x10)
 (gd ((([((i3 : Nat) : Int)] : List Int)).length + (x9).length ≤ 68719476736)
 (some (.ret ((([((i3 : Nat) : Int)] : List Int) ++ x9), true))))
 (some (.next ()))))
 (some (.brk ()))
noncomputable def sl19Steps_R1 (fu : Nat) (r_sl19Steps : GProgram → ByteArray → ByteArray → Int → Option ((List Int) × Bool)) (pw : GProgram) (pfrom : ByteArray) (pto : ByteArray) (pleft : Int) : Option (((List Int) × Bool) ⊕ Unit) :=
 loopN (sl19Steps_F1 fu r_sl19Steps pw pfrom pto pleft) (((oTrait (GProgram.traitAt pw pfrom)).gSupertraits).length - 0) 0 ()
noncomputable def sl19Steps_G (fu : Nat) (r_sl19Steps : GProgram → ByteArray → ByteArray → Int → Option ((List Int) × Bool)) (pw : GProgram) (pfrom : ByteArray) (pto : ByteArray) (pleft : Int) : Option ((List Int) × Bool) :=
 sw (decide (pfrom = pto))
 (some (([]), true))
 (so (sl19Steps_R1 fu r_sl19Steps pw pfrom pto pleft) (fun _ =>
 some (([]), false)))
set_option maxRecDepth 100000 in
set_option maxHeartbeats 4000000 in
theorem sl19Steps_step (r_sl19Steps : GProgram → ByteArray → ByteArray → Int → Option ((List Int) × Bool)) (fu : Nat) (h_sl19Steps : ∀ (pw : GProgram) (pfrom : ByteArray) (pto : ByteArray) (pleft : Int) (r : (List Int) × Bool), r_sl19Steps pw pfrom pto pleft = some r → AFun Tryz.prog 95 [(GProgram.pv pw), .t (.leaf (.string (pfrom))), .t (.leaf (.string (pto))), .t (.leaf (.int .i64 (pleft)))] (.tup [.t (.row 1 (intTrs (r.1))), .t (.leaf (.bool (r.2)))] : PV)) (pw : GProgram) (pfrom : ByteArray) (pto : ByteArray) (pleft : Int) (r : (List Int) × Bool) (H : sl19Steps_G fu r_sl19Steps pw pfrom pto pleft = some r) : AFun Tryz.prog 95 [(GProgram.pv pw), .t (.leaf (.string (pfrom))), .t (.leaf (.string (pto))), .t (.leaf (.int .i64 (pleft)))] (.tup [.t (.row 1 (intTrs (r.1))), .t (.leaf (.bool (r.2)))] : PV) := by
  refine ACalls.intro Tryz.func95 rfl (by first | decide | (simp; done) | (simp; decide)) ?_; intro C hC
  refine AWP.seq ?_; refine AWP.region_lit ?_; refine AL.cons rfl (AOp.box (cs := [.t (.row 6 (GPackage.trs (pw.gPackages)))]) rfl rfl rfl rfl rfl) ?_; refine AL.cons rfl (AOp.move (.inr rfl) rfl rfl) ?_; refine AL.cons rfl (AOp.move (.inr rfl) rfl rfl) ?_; refine AL.nil ?_; refine AWP.seq ?_; refine AWP.seq ?_; refine AWP.region_lit ?_; refine AL.cons rfl (AOp.move (.inl rfl) rfl rfl) ?_; refine AL.cons rfl (AOp.move (.inl rfl) rfl rfl) ?_; refine AL.cons rfl (AOp.eqlS rfl rfl rfl rfl) ?_; refine AL.nil ?_; refine AWP.cond rfl (fun h1 => ?_) (fun h1 => ?_)
  · refine AWP.seq ?_; refine AWP.region_lit ?_; refine AL.cons rfl (AOp.buildSliceA (es := []) (es' := intTrs ([])) (cs := []) rfl rfl el60 zr3 rfl rfl leA rfl (by simp) (by decide) rfl (by decide) rfl) ?_; refine AL.cons rfl (AOp.move (.inr rfl) rfl rfl) ?_; refine AL.cons rfl (AOp.move (.inr rfl) rfl rfl) ?_; refine AL.nil ?_; refine AWP.ret ?_
    have e2 : sl19Steps_G fu r_sl19Steps pw pfrom pto pleft = some (([]), true) := swT h1 (rfl)
    have hz : (([]), true) = r := Option.some.inj (e2.symm.trans H)
    subst hz
    exact Ends.mk (ps := [_, _]) (by first | exact .inr rfl | exact .inl rfl) ⟨rfl, rfl, trivial⟩ rfl (StLe.mk' (st' := ⟨[], []⟩) trivial rfl) (keeps_nil hC) (q := (.tup [.t (.row 1 (intTrs (([])))), .t (.leaf (.bool (true)))] : PV)) leA rfl ⟨rfl, rfl⟩
  · refine AWP.skip ?_; refine AWP.seq ?_; refine AWP.region_lit ?_; refine AL.cons rfl (AOp.loadPtr (cs := [.t (.row 6 (GPackage.trs (pw.gPackages)))]) rfl rfl rfl rfl sh31 rfl rfl) ?_; refine AL.cons rfl (AOp.move (.inl rfl) rfl rfl) ?_; refine AL.cons rfl (AOp.callF (res := .tup [(GTrait.pv (oTrait (GProgram.traitAt pw pfrom))), .t (.leaf (.int .i64 (oInt (GProgram.traitAt pw pfrom)))), .t (.leaf (.bool (Option.isSome (GProgram.traitAt pw pfrom))))]) (ps := [_, _]) rfl rfl Tryz.func78 (by kernel_rfl) rfl rfl leA rfl rfl (trait_spec pw pfrom)) ?_; refine AL.cons rfl (AOp.move (.inl rfl) rfl rfl) ?_; refine AL.cons rfl (AOp.extract rfl rfl rfl rfl) ?_; refine AL.cons rfl (AOp.extract rfl rfl rfl rfl) ?_; refine AL.cons rfl (AOp.extract rfl rfl rfl rfl) ?_; refine AL.cons rfl (AOp.alloc rfl rfl zr94) ?_; refine AL.cons rfl (AOp.storePtr (cs := [.t (.leaf (.string ((oTrait (GProgram.traitAt pw pfrom)).gName))), .t (.row 1 (strTrs ((oTrait (GProgram.traitAt pw pfrom)).gSupertraits))), .t (.leaf (.bool ((oTrait (GProgram.traitAt pw pfrom)).gAuto))), .t (.leaf (.bool ((oTrait (GProgram.traitAt pw pfrom)).gAssoc))), .t (.row 16 (GSignature.trs ((oTrait (GProgram.traitAt pw pfrom)).gSignatures)))]) (ds := [.t (.leaf (.string ((oTrait (GProgram.traitAt pw pfrom)).gName))), .t (.row 1 (strTrs ((oTrait (GProgram.traitAt pw pfrom)).gSupertraits))), .t (.leaf (.bool ((oTrait (GProgram.traitAt pw pfrom)).gAuto))), .t (.leaf (.bool ((oTrait (GProgram.traitAt pw pfrom)).gAssoc))), .t (.row 16 (GSignature.trs ((oTrait (GProgram.traitAt pw pfrom)).gSignatures)))]) rfl rfl rfl rfl rfl rfl rfl sz94 (Nat.le_of_ble_eq_true rfl) rfl) ?_; refine AL.cons rfl (AOp.move (.inr rfl) rfl rfl) ?_; refine AL.cons rfl (AOp.move (.inr rfl) rfl rfl) ?_; refine AL.nil ?_; refine AWP.seq ?_; refine AWP.seq ?_; refine AWP.region_lit ?_; refine AL.cons rfl (AOp.move (.inr rfl) rfl rfl) ?_; refine AL.nil ?_; refine AWP.cut (ι := Unit) (fun _ => sl19Steps_R1 fu r_sl19Steps pw pfrom pto pleft = some (.inr ())) (fun _ => ⟨[(8, .nil), (9, .t (.leaf (.bool (false))))], ⟨[some ⟨31, [.t (.row 6 (GPackage.trs (pw.gPackages)))]⟩, some ⟨94, [.t (.leaf (.string ((oTrait (GProgram.traitAt pw pfrom)).gName))), .t (.row 1 (strTrs ((oTrait (GProgram.traitAt pw pfrom)).gSupertraits))), .t (.leaf (.bool ((oTrait (GProgram.traitAt pw pfrom)).gAuto))), .t (.leaf (.bool ((oTrait (GProgram.traitAt pw pfrom)).gAssoc))), .t (.row 16 (GSignature.trs ((oTrait (GProgram.traitAt pw pfrom)).gSignatures)))]⟩], []⟩⟩) (by repeat' (first | exact qcEnds | exact ncAWP | exact ncRound | exact ncEx | apply qcThen | apply qcBlock | apply qcCut)) ?_ ?_
    · refine AWP.block ?_; refine AWP.loopR (ι := Nat × Unit) (fun (i3, _) => sl19Steps_R1 fu r_sl19Steps pw pfrom pto pleft = loopN (sl19Steps_F1 fu r_sl19Steps pw pfrom pto pleft) (((oTrait (GProgram.traitAt pw pfrom)).gSupertraits).length - i3) i3 ()) (fun (i3, _) => ⟨[(2, .t (.leaf (.string (pto)))), (3, .t (.leaf (.int .i64 (pleft)))), (4, .ptr 0 0), (8, .nil), (9, .t (.leaf (.bool (false)))), (10, .ptr 1 0), (13, .t (.leaf (.int .i64 (((i3 : Nat) : Int)))))], ⟨[some ⟨31, [.t (.row 6 (GPackage.trs (pw.gPackages)))]⟩, some ⟨94, [.t (.leaf (.string ((oTrait (GProgram.traitAt pw pfrom)).gName))), .t (.row 1 (strTrs ((oTrait (GProgram.traitAt pw pfrom)).gSupertraits))), .t (.leaf (.bool ((oTrait (GProgram.traitAt pw pfrom)).gAuto))), .t (.leaf (.bool ((oTrait (GProgram.traitAt pw pfrom)).gAssoc))), .t (.row 16 (GSignature.trs ((oTrait (GProgram.traitAt pw pfrom)).gSignatures)))]⟩], []⟩⟩) (fun (i3, _) => ((oTrait (GProgram.traitAt pw pfrom)).gSupertraits).length - i3) (0, ()) ?_ ?_ ?_
      · exact rfl
      · exact Wk.mk (StLe.mk' ⟨⟨rfl, leA, rfl⟩, ⟨⟨rfl, leA, rfl⟩, trivial⟩⟩ rfl) (keeps_nil hC) ⟨⟨_, rfl, .refl _, rfl⟩, ⟨⟨_, rfl, .refl _, rfl⟩, ⟨⟨_, rfl, .refl _, rfl⟩, ⟨⟨_, rfl, .refl _, rfl⟩, ⟨⟨_, rfl, .refl _, rfl⟩, ⟨⟨_, rfl, .refl _, rfl⟩, ⟨⟨_, rfl, leA, rfl⟩, trivial⟩⟩⟩⟩⟩⟩⟩
      · rintro ⟨i3, ⟨⟩⟩ hJ4
        refine AWP.seq ?_; refine AWP.seq ?_; refine AWP.region_lit ?_; refine AL.cons rfl (AOp.move (.inl rfl) rfl rfl) ?_; refine AL.cons rfl (AOp.fieldPtr (k := 1) (d := 0) (e := 1) rfl rfl rfl fo94_1) ?_; refine AL.cons rfl (AOp.loadPtr1 rfl rfl rfl rfl sh54 rfl) ?_; refine AL.fact (lk_lenN 29 rfl rfl (strTrs_len _)) (fun hl5 => ?_)
        refine AL.cons rfl (AOp.lenN rfl rfl rfl rfl el54 (strTrs_len _)) ?_; refine AL.cons rfl (AOp.lss rfl rfl rfl rfl) ?_; refine AL.cons rfl (AOp.move (.inl rfl) rfl rfl) ?_; refine AL.splitB 32 rfl (fun g6 => ?_) (fun g6 => ?_)
        · have g6l : i3 < ((oTrait (GProgram.traitAt pw pfrom)).gSupertraits).length := nat_lt_of2 g6
          have g6n := nat_lt_of g6
          refine AL.cons_gv rfl rfl rfl g6 (AOp.move (.inl rfl) rfl rfl) ?_; refine AL.cons_gv rfl rfl rfl g6 (AOp.gtr rfl rfl rfl rfl) ?_; refine AL.cons rfl (AOp.pickT rfl rfl rfl g6 rfl) ?_; refine AL.nil ?_; refine AWP.cond rfl (fun h7 => ?_) (fun h7 => ?_)
          · refine AWP.skip ?_; refine AWP.seq ?_; refine AWP.block ?_; refine AWP.seq ?_
            rcases hq8 : r_sl19Steps pw (atD ((oTrait (GProgram.traitAt pw pfrom)).gSupertraits) i3) pto (wrap64 (pleft - 1)) with _ | ⟨x9, x10⟩
            · have e11 : (sl19Steps_F1 fu r_sl19Steps pw pfrom pto pleft) i3 () = none := swT h7 (bdN hq8)
              have e12 : sl19Steps_R1 fu r_sl19Steps pw pfrom pto pleft = none := loopN_non g6l hJ4 e11
              have e13 : sl19Steps_G fu r_sl19Steps pw pfrom pto pleft = none := swF h1 (soN e12)
              exact none_some H e13
            · refine AWP.drawnL ⟨_, _, fun _ _ => (⟨[some ⟨31, [.t (.row 6 (GPackage.trs (pw.gPackages)))]⟩, some ⟨94, [.t (.leaf (.string ((oTrait (GProgram.traitAt pw pfrom)).gName))), .t (.row 1 (strTrs ((oTrait (GProgram.traitAt pw pfrom)).gSupertraits))), .t (.leaf (.bool ((oTrait (GProgram.traitAt pw pfrom)).gAuto))), .t (.leaf (.bool ((oTrait (GProgram.traitAt pw pfrom)).gAssoc))), .t (.row 16 (GSignature.trs ((oTrait (GProgram.traitAt pw pfrom)).gSignatures)))]⟩], []⟩ : Sto), fun q' => ([some ((GProgram.pv pw)), some (.ptr 1 1), some (.t (.row 1 (strTrs ((oTrait (GProgram.traitAt pw pfrom)).gSupertraits)))), some (.t (.leaf (.int .i64 (((i3 : Nat) : Int))))), some (.eptr ([.leaf (.string (atD ((oTrait (GProgram.traitAt pw pfrom)).gSupertraits) i3))])), some (.t (.leaf (.string (atD ((oTrait (GProgram.traitAt pw pfrom)).gSupertraits) i3)))), some (.t (.leaf (.string (pto)))), some (.t (.leaf (.int .i64 (pleft)))), some (.t (.leaf (.int .i64 (wrap64 (pleft - 1))))), some (.tup [.t (.row 1 (intTrs (x9))), .t (.leaf (.bool (x10)))]), some (.tup [.t (.row 1 (intTrs (x9))), .t (.leaf (.bool (x10)))]), some (.t (.row 1 (intTrs (x9)))), some (.t (.leaf (.bool (x10)))), some (.t (.row 1 (intTrs (x9)))), some (.t (.leaf (.bool (x10))))] : List (Option PV)).getD q' none, fun q' => ([.q 0 0, .q 0 0, .q 0 0, .q 0 0, .q 0 0, .q 0 0, .q 0 0, .q 0 0, .q 0 0, .q 0 0, .q 0 0, .q 0 0, .q 0 0, .q 0 0, .q 0 0] : List DK).getD q' (.q 0 0), [], none, fun q' => ([[(4, none)], [(10, none)], [(40, some 1)], [(13, none)], [(41, some 2), (42, some 3)], [(43, some 4)], [(2, none)], [(3, none)], [(46, some 7)], [(47, some 8), (45, some 6), (44, some 5), (39, some 0)], [(48, some 9)], [(38, some 10)], [(38, some 10)], [(49, some 11)], [(50, some 12)]] : List (List (Nat × Option Nat))).getD q' []⟩ rfl mixed (by kernel_rfl) rfl rfl ⟨?_, ?_, ?_, ?_, ?_, ?_, ?_, ?_, ?_, ?_, ?_, ?_, ?_, ?_, ?_, trivial⟩ rfl ?_
              · exact Draw.step.q1 0 rfl rfl fun s' bb hs hl => ⟨_, rfl, AOp.loadPtr (cs := [.t (.row 6 (GPackage.trs (pw.gPackages)))]) rfl rfl (hl 4 none _ (.head _) rfl) (by rw [hs]; rfl) sh31 rfl rfl⟩
              · exact Draw.step.q1 0 rfl rfl fun s' bb hs hl => ⟨_, rfl, AOp.fieldPtr (k := 1) (d := 0) (e := 1) rfl rfl (hl 10 none _ (.head _) rfl) fo94_1⟩
              · exact Draw.step.q1 0 rfl rfl fun s' bb hs hl => ⟨_, rfl, AOp.loadPtr1 rfl rfl (hl 40 (some 1) _ (.head _) rfl) (by rw [hs]; rfl) sh54 rfl⟩
              · exact Draw.step.q1 0 rfl rfl fun s' bb hs hl => ⟨_, rfl, AOp.move (.inl rfl) rfl (hl 13 none _ (.head _) rfl)⟩
              · exact Draw.step.q1 0 rfl rfl fun s' bb hs hl => ⟨_, rfl, AOp.index (k := i3) rfl rfl (hl 41 (some 2) _ (.head _) rfl) rfl (hl 42 (some 3) _ (.tail _ (.head _)) rfl) (strTrs_at g6n) el54⟩
              · exact Draw.step.q1 0 rfl rfl fun s' bb hs hl => ⟨_, rfl, AOp.loadEptr1 (d := .leaf (.string (atD ((oTrait (GProgram.traitAt pw pfrom)).gSupertraits) i3))) rfl rfl (hl 43 (some 4) _ (.head _) rfl) sh9 rfl⟩
              · exact Draw.step.q1 0 rfl rfl fun s' bb hs hl => ⟨_, rfl, AOp.move (.inl rfl) rfl (hl 2 none _ (.head _) rfl)⟩
              · exact Draw.step.q1 0 rfl rfl fun s' bb hs hl => ⟨_, rfl, AOp.move (.inl rfl) rfl (hl 3 none _ (.head _) rfl)⟩
              · exact Draw.step.q1 0 rfl rfl fun s' bb hs hl => ⟨_, rfl, AOp.subW rfl rfl (hl 46 (some 7) _ (.head _) rfl) rfl⟩
              · exact Draw.step.q1 0 rfl rfl fun s' bb hs hl => ⟨_, rfl, AOp.callF (res := .tup [.t (.row 1 (intTrs (x9))), .t (.leaf (.bool (x10)))]) (ps := [_, _, _, _]) rfl rfl Tryz.func95 (by kernel_rfl) rfl (evs_cons (hl 39 (some 0) _ (.tail _ (.tail _ (.tail _ (.head _)))) rfl) (evs_cons (hl 44 (some 5) _ (.tail _ (.tail _ (.head _))) rfl) (evs_cons (hl 45 (some 6) _ (.tail _ (.head _)) rfl) (evs_cons (hl 47 (some 8) _ (.head _) rfl) rfl)))) leA rfl rfl (h_sl19Steps pw (atD ((oTrait (GProgram.traitAt pw pfrom)).gSupertraits) i3) pto (wrap64 (pleft - 1)) _ hq8)⟩
              · exact Draw.step.q1 0 rfl rfl fun s' bb hs hl => ⟨_, rfl, AOp.move (.inl rfl) rfl (hl 48 (some 9) _ (.head _) rfl)⟩
              · exact Draw.step.q1 0 rfl rfl fun s' bb hs hl => ⟨_, rfl, AOp.extract rfl rfl (hl 38 (some 10) _ (.head _) rfl) rfl⟩
              · exact Draw.step.q1 0 rfl rfl fun s' bb hs hl => ⟨_, rfl, AOp.extract rfl rfl (hl 38 (some 10) _ (.head _) rfl) rfl⟩
              · exact Draw.step.q1 0 rfl rfl fun s' bb hs hl => ⟨_, rfl, AOp.move (.inr rfl) rfl (hl 49 (some 11) _ (.head _) rfl)⟩
              · exact Draw.step.q1 0 rfl rfl fun s' bb hs hl => ⟨_, rfl, AOp.move (.inr rfl) rfl (hl 50 (some 12) _ (.head _) rfl)⟩
              refine AWP.seq ?_; refine AWP.region_lit ?_; refine AL.cons rfl (AOp.move (.inl rfl) rfl rfl) ?_; refine AL.nil ?_; refine AWP.cond rfl (fun h14 => ?_) (fun h14 => ?_)
              · refine AWP.seq ?_; refine AWP.region_lit ?_; refine AL.cons rfl (AOp.move (.inl rfl) rfl rfl) ?_; refine AL.cons rfl (AOp.buildSliceA (es := [[.leaf (.int .i64 ((i3 : Nat) : Int))]]) (es' := intTrs (([((i3 : Nat) : Int)] : List Int))) (cs := [.t (.leaf (.int .i64 (((i3 : Nat) : Int))))]) rfl rfl el60 zr3 rfl rfl leA rfl (by simp) (by decide) rfl (by decide) rfl) ?_; refine AL.cons rfl (AOp.move (.inl rfl) rfl rfl) ?_
                rcases Classical.em ((([((i3 : Nat) : Int)] : List Int)).length + (x9).length ≤ 68719476736) with hg15 | hg15
                · refine AL.cons rfl (AOp.appendE (es3 := intTrs (([((i3 : Nat) : Int)] : List Int) ++ x9)) rfl rfl rfl rfl rfl rfl rfl rfl rfl (intTrs_all _) el60 ze60 (by decide) (by rw [intTrs_len, intTrs_len]; exact room_le hg15 (by decide)) (intTrs_append _ _)) ?_; refine AL.cons rfl (AOp.move (.inr rfl) rfl rfl) ?_; refine AL.cons rfl (AOp.move (.inr rfl) rfl rfl) ?_; refine AL.nil ?_; refine AWP.ret ?_
                  have e16 : (sl19Steps_F1 fu r_sl19Steps pw pfrom pto pleft) i3 () = some (.ret ((([((i3 : Nat) : Int)] : List Int) ++ x9), true)) := swT h7 (bdS hq8 (swT h14 (gdT hg15 (rfl))))
                  have e17 : sl19Steps_R1 fu r_sl19Steps pw pfrom pto pleft = some (.inl ((([((i3 : Nat) : Int)] : List Int) ++ x9), true)) := loopN_ret g6l hJ4 e16
                  have e18 : sl19Steps_G fu r_sl19Steps pw pfrom pto pleft = some ((([((i3 : Nat) : Int)] : List Int) ++ x9), true) := swF h1 (soL e17)
                  have hz : ((([((i3 : Nat) : Int)] : List Int) ++ x9), true) = r := Option.some.inj (e18.symm.trans H)
                  subst hz
                  exact Ends.mk (ps := [_, _]) (by first | exact .inr rfl | exact .inl rfl) ⟨rfl, rfl, trivial⟩ rfl (StLe.mk' (st' := ⟨[], []⟩) trivial rfl) (keeps_nil hC) (q := (.tup [.t (.row 1 (intTrs ((([((i3 : Nat) : Int)] : List Int) ++ x9)))), .t (.leaf (.bool (true)))] : PV)) leA rfl ⟨rfl, rfl⟩
                · have e19 : (sl19Steps_F1 fu r_sl19Steps pw pfrom pto pleft) i3 () = none := swT h7 (bdS hq8 (swT h14 (gdF hg15)))
                  have e20 : sl19Steps_R1 fu r_sl19Steps pw pfrom pto pleft = none := loopN_non g6l hJ4 e19
                  have e21 : sl19Steps_G fu r_sl19Steps pw pfrom pto pleft = none := swF h1 (soN e20)
                  exact none_some H e21
              · refine AWP.skip ?_; refine AWP.region_lit ?_; refine AL.cons rfl (AOp.move (.inl rfl) rfl rfl) ?_; refine AL.cons rfl (AOp.addI rfl rfl rfl rfl (c := ((i3 + 1 : Nat) : Int)) (by omega) (by omega)) ?_; refine AL.cons rfl (AOp.move (.inr rfl) rfl rfl) ?_; refine AL.nil ?_
                have e22 : (sl19Steps_F1 fu r_sl19Steps pw pfrom pto pleft) i3 () = some (.next ()) := swT h7 (bdS hq8 (swF h14 (rfl)))
                refine ⟨(i3 + 1, ()), loopN_next g6l hJ4 e22, ?_, ?_⟩
                · exact Wk.mk (StLe.mk' ⟨⟨rfl, leA, rfl⟩, ⟨⟨rfl, leA, rfl⟩, trivial⟩⟩ rfl) (keeps_nil hC) ⟨⟨_, rfl, .refl _, rfl⟩, ⟨⟨_, rfl, .refl _, rfl⟩, ⟨⟨_, rfl, .refl _, rfl⟩, ⟨⟨_, rfl, .refl _, rfl⟩, ⟨⟨_, rfl, .refl _, rfl⟩, ⟨⟨_, rfl, .refl _, rfl⟩, ⟨⟨_, rfl, leA, rfl⟩, trivial⟩⟩⟩⟩⟩⟩⟩
                · dsimp only; omega
          · refine AWP.exit ?_
            have e23 : (sl19Steps_F1 fu r_sl19Steps pw pfrom pto pleft) i3 () = some (.brk ()) := swF h7 (rfl)
            refine ⟨(), loopN_brk g6l hJ4 e23, ?_⟩
            exact Wk.mk (StLe.mk' ⟨⟨rfl, leA, rfl⟩, ⟨⟨rfl, leA, rfl⟩, trivial⟩⟩ rfl) (keeps_nil hC) ⟨⟨_, rfl, .refl _, rfl⟩, ⟨⟨_, rfl, .refl _, rfl⟩, trivial⟩⟩
        · have g6l : ((oTrait (GProgram.traitAt pw pfrom)).gSupertraits).length ≤ i3 := nat_ge_of2 g6
          refine AL.skipP rfl rfl rfl g6 rfl rfl ?_; refine AL.skipP rfl rfl rfl g6 rfl rfl ?_; refine AL.cons rfl (AOp.pickF rfl rfl rfl g6 rfl) ?_; refine AL.nil ?_; refine AWP.cond rfl (fun h24 => ?_) (fun h24 => ?_)
          · exact absurd (h24.symm.trans rfl) (by decide)
          · refine AWP.exit ?_; refine ⟨(), loopN_end g6l hJ4, ?_⟩
            exact Wk.mk (StLe.mk' ⟨⟨rfl, leA, rfl⟩, ⟨⟨rfl, leA, rfl⟩, trivial⟩⟩ rfl) (keeps_nil hC) ⟨⟨_, rfl, .refl _, rfl⟩, ⟨⟨_, rfl, .refl _, rfl⟩, trivial⟩⟩
    · rintro ⟨⟩ hR25
      refine AWP.seq ?_; refine AWP.region_lit ?_; refine AL.cons rfl (AOp.buildSliceA (es := []) (es' := intTrs ([])) (cs := []) rfl rfl el60 zr3 rfl rfl leA rfl (by simp) (by decide) rfl (by decide) rfl) ?_; refine AL.cons rfl (AOp.move (.inr rfl) rfl rfl) ?_; refine AL.cons rfl (AOp.move (.inr rfl) rfl rfl) ?_; refine AL.nil ?_; refine AWP.ret ?_
      have e26 : sl19Steps_G fu r_sl19Steps pw pfrom pto pleft = some (([]), false) := swF h1 (soR hR25 (rfl))
      have hz : (([]), false) = r := Option.some.inj (e26.symm.trans H)
      subst hz
      exact Ends.mk (ps := [_, _]) (by first | exact .inr rfl | exact .inl rfl) ⟨rfl, rfl, trivial⟩ rfl (StLe.mk' (st' := ⟨[], []⟩) trivial rfl) (keeps_nil hC) (q := (.tup [.t (.row 1 (intTrs (([])))), .t (.leaf (.bool (false)))] : PV)) leA rfl ⟨rfl, rfl⟩
noncomputable def sl19Steps_M : Nat → GProgram → ByteArray → ByteArray → Int → Option ((List Int) × Bool)
  | 0, _, _, _, _ => none
  | fu + 1, pw, pfrom, pto, pleft => sl19Steps_G fu (sl19Steps_M fu) pw pfrom pto pleft
theorem sl19Steps_all (fu : Nat) : (∀ (pw : GProgram) (pfrom : ByteArray) (pto : ByteArray) (pleft : Int) (r : (List Int) × Bool), sl19Steps_M fu pw pfrom pto pleft = some r → AFun Tryz.prog 95 [(GProgram.pv pw), .t (.leaf (.string (pfrom))), .t (.leaf (.string (pto))), .t (.leaf (.int .i64 (pleft)))] (.tup [.t (.row 1 (intTrs (r.1))), .t (.leaf (.bool (r.2)))] : PV)) := by
  induction fu with
  | zero => exact (fun pw pfrom pto pleft r H => by simp only [sl19Steps_M] at H; cases H)
  | succ fu ih => exact (fun pw pfrom pto pleft r H => by simp only [sl19Steps_M] at H; exact sl19Steps_step (sl19Steps_M fu) fu ih pw pfrom pto pleft r H)
theorem sl19Steps_ok (fu : Nat) (pw : GProgram) (pfrom : ByteArray) (pto : ByteArray) (pleft : Int) (r : (List Int) × Bool) (H : sl19Steps_M fu pw pfrom pto pleft = some r) : AFun Tryz.prog 95 [(GProgram.pv pw), .t (.leaf (.string (pfrom))), .t (.leaf (.string (pto))), .t (.leaf (.int .i64 (pleft)))] (.tup [.t (.row 1 (intTrs (r.1))), .t (.leaf (.bool (r.2)))] : PV) := (sl19Steps_all fu) pw pfrom pto pleft r H

noncomputable def sSupertraitPath_M (fu : Nat)  (pw : GProgram) (pfrom : ByteArray) (pto : ByteArray) : Option ((List Int) × Bool) :=
 bd (sl19Steps_M fu pw pfrom pto 8) (fun (x2, x3) =>
 some (x2, x3))
set_option maxRecDepth 100000 in
set_option maxHeartbeats 4000000 in
theorem sSupertraitPath_ok  (fu : Nat)  (pw : GProgram) (pfrom : ByteArray) (pto : ByteArray) (r : (List Int) × Bool) (H : sSupertraitPath_M fu pw pfrom pto = some r) : AFun Tryz.prog 33 [(GProgram.pv pw), .t (.leaf (.string (pfrom))), .t (.leaf (.string (pto)))] (.tup [.t (.row 1 (intTrs (r.1))), .t (.leaf (.bool (r.2)))] : PV) := by
  refine ACalls.intro Tryz.func33 rfl (by first | decide | (simp; done) | (simp; decide)) ?_; intro C hC
  refine AWP.seq ?_; refine AWP.region_lit ?_; refine AL.cons rfl (AOp.box (cs := [.t (.row 6 (GPackage.trs (pw.gPackages)))]) rfl rfl rfl rfl rfl) ?_; refine AL.cons rfl (AOp.move (.inr rfl) rfl rfl) ?_; refine AL.cons rfl (AOp.move (.inr rfl) rfl rfl) ?_; refine AL.nil ?_; refine AWP.seq ?_; refine AWP.region_lit ?_; refine AL.cons rfl (AOp.loadPtr (cs := [.t (.row 6 (GPackage.trs (pw.gPackages)))]) rfl rfl rfl rfl sh31 rfl rfl) ?_; refine AL.cons rfl (AOp.move (.inl rfl) rfl rfl) ?_; refine AL.cons rfl (AOp.move (.inl rfl) rfl rfl) ?_
  rcases hq1 : sl19Steps_M fu pw pfrom pto 8 with _ | ⟨x2, x3⟩
  · have e4 : sSupertraitPath_M fu pw pfrom pto = none := bdN hq1
    exact none_some H e4
  · refine AL.cons rfl (AOp.callF (res := .tup [.t (.row 1 (intTrs (x2))), .t (.leaf (.bool (x3)))]) (ps := [_, _, _, _]) rfl rfl Tryz.func95 (by kernel_rfl) rfl rfl leA rfl rfl (sl19Steps_ok fu pw pfrom pto 8 _ hq1)) ?_; refine AL.cons rfl (AOp.extract rfl rfl rfl rfl) ?_; refine AL.cons rfl (AOp.extract rfl rfl rfl rfl) ?_; refine AL.cons rfl (AOp.move (.inr rfl) rfl rfl) ?_; refine AL.cons rfl (AOp.move (.inr rfl) rfl rfl) ?_; refine AL.nil ?_; refine AWP.ret ?_
    have e5 : sSupertraitPath_M fu pw pfrom pto = some (x2, x3) := bdS hq1 (rfl)
    have hz : (x2, x3) = r := Option.some.inj (e5.symm.trans H)
    subst hz
    exact Ends.mk (ps := [_, _]) (by first | exact .inr rfl | exact .inl rfl) ⟨rfl, rfl, trivial⟩ rfl (StLe.mk' (st' := ⟨[], []⟩) trivial rfl) (keeps_nil hC) (q := (.tup [.t (.row 1 (intTrs (x2))), .t (.leaf (.bool (x3)))] : PV)) leA rfl ⟨rfl, rfl⟩

end Go.Proofs.YtnakkelglbcecaaGreat

namespace Go.Proofs.YtnakkelglbcecaaGreat
set_option linter.unusedSimpArgs false
set_option linter.unusedVariables false
open Go.RowKit Go.WalkArith

theorem pathLoop {f : ByteArray → ByteArray → Option (List Int)} {F : Nat → Unit → Option (LR Unit ((List Int) × Bool))} {l : List ByteArray} {d : ByteArray} (hs : ∀ i, i < l.length → F i () = match f (atD l i) d with
      | some r => some (.ret ((i : Int) :: r, true))
      | none => some (.next ())) :
    ∀ (k i : Nat), l.length - i = k → loopN F (l.length - i) i () = some (match pathF.pathL f d i (l.drop i) with
      | some r => .inl (r, true)
      | none => .inr ())
  | 0, i, hk => by rw [loopN_all (by omega), List.drop_of_length_le (by omega)]; rfl
  | k + 1, i, hk => by
    have hi : i < l.length := by omega
    have h1 := hs i hi
    rw [drop_atD hi, pathF.pathL]
    cases hq : f (atD l i) d with
    | none => rw [hq] at h1; rw [loopN_step hi h1]; exact pathLoop hs k (i + 1) (by omega)
    | some r => rw [hq] at h1; rw [loopN_out hi h1]
theorem wrap_pred (n : Nat) (h : n ≤ 8) : wrap64 (((n + 1 : Nat) : Int) - 1) = (n : Int) := by
  have : n = 0 ∨ n = 1 ∨ n = 2 ∨ n = 3 ∨ n = 4 ∨ n = 5 ∨ n = 6 ∨ n = 7 ∨ n = 8 := by omega
  rcases this with rfl | rfl | rfl | rfl | rfl | rfl | rfl | rfl | rfl <;> decide
theorem sl19Steps_fn (w : GProgram) (d : ByteArray) : ∀ (n : Nat) (s : ByteArray), n ≤ 8 → sl19Steps_M (n + 1) w s d (n : Int) = some (oPath (pathF w n s d), (pathF w n s d).isSome)
  | 0, s, _ => by
    rw [sl19Steps_M, sl19Steps_G, pathF]
    by_cases h : s = d
    · rw [if_pos h]; simp [sw, h, oPath]
    · rw [if_neg h]
      have hl : sl19Steps_R1 0 (sl19Steps_M 0) w s d ((0 : Nat) : Int) = some (.inr ()) := by
        unfold sl19Steps_R1
        cases hk : ((oTrait (GProgram.traitAt w s)).gSupertraits).length with
        | zero => rfl
        | succ k =>
          rw [show k + 1 - 0 = k + 1 from rfl, loopN]
          unfold sl19Steps_F1
          simp [sw]
      rw [hl]
      simp [sw, so, h, oPath]
  | n + 1, s, hn => by
    rw [sl19Steps_M, sl19Steps_G, pathF]
    by_cases h : s = d
    · rw [if_pos h]; simp [sw, h, oPath]
    · rw [if_neg h]
      have hl : sl19Steps_R1 (n + 1) (sl19Steps_M (n + 1)) w s d ((n + 1 : Nat) : Int) = some (match pathF.pathL (pathF w n) d 0 (oTrait (w.traitAt s)).gSupertraits with
          | some r => .inl (r, true)
          | none => .inr ()) := by
        unfold sl19Steps_R1
        refine pathLoop (f := pathF w n) (l := (oTrait (w.traitAt s)).gSupertraits) (fun i hi => ?_) _ 0 rfl
        have e := sl19Steps_fn w d n (atD ((oTrait (GProgram.traitAt w s)).gSupertraits) i) (by omega)
        have hlen := pathF_len w n (atD ((oTrait (GProgram.traitAt w s)).gSupertraits) i) d
        unfold sl19Steps_F1
        rw [wrap_pred n (by omega), e, show decide (((n + 1 : Nat) : Int) > 0) = true by simp]
        cases hq : pathF w n (atD ((oTrait (GProgram.traitAt w s)).gSupertraits) i) d with
        | none => simp [sw, bd]
        | some r =>
          rw [hq] at hlen
          simp only [oPath, Option.getD_some] at hlen
          simp only [sw, bd, oPath, Option.isSome_some, Option.getD_some]
          exact gdT (by simp only [List.length_singleton]; omega) rfl
      rw [hl]
      cases pathF.pathL (pathF w n) d 0 (oTrait (w.traitAt s)).gSupertraits with
      | none => simp [sw, so, h, oPath]
      | some r => simp [sw, so, h, oPath]
theorem path_spec (w : GProgram) (s d : ByteArray) : AFun Tryz.prog 33 [(GProgram.pv w), .t (.leaf (.string (s))), .t (.leaf (.string (d)))] (.tup [.t (.row 1 (intTrs (oPath (pathF w 8 s d)))), .t (.leaf (.bool ((pathF w 8 s d).isSome)))]) :=
  sSupertraitPath_ok 9 w s d (oPath (pathF w 8 s d), (pathF w 8 s d).isSome) (by
    unfold sSupertraitPath_M
    have h := sl19Steps_fn w d 8 s (Nat.le_refl _)
    rw [show ((8 : Nat) : Int) = (8 : Int) from rfl, show 8 + 1 = 9 from rfl] at h
    rw [h]
    rfl)
end Go.Proofs.YtnakkelglbcecaaGreat

namespace Go.Proofs.YtnakkelglbcecaaGreat
open Go.RowKit Go.Proofs
set_option linter.unusedSimpArgs false
set_option linter.unusedVariables false

attribute [local irreducible] lt

theorem room_leA {a b c : Nat} (h : a + b ≤ 1099511627776) (hc : c ≤ 128) : (a + b) * c ≤ 140737488355328 := by
  have := Nat.mul_le_mul h hc
  omega
noncomputable def sAssumptions_F2 (fu : Nat) (pa0 : GProgram) (pa1 : List GBound) (i2 : Nat) (v4 : List GAssumption) : Nat → ((List GAssumption)) → Option (LR ((List GAssumption)) (LR ((List GAssumption)) ((List GAssumption)))) :=
 fun i11 v13 => gd ((v13).length + (([(GAssumption.mk (GBound.mk (atD (GProgram.supers pa0 ((atD pa1 i2).gTrait)) i11) ((atD pa1 i2).gType)) ((i2 : Nat) : Int) (oPath (pathF pa0 8 ((atD pa1 i2).gTrait) (atD (GProgram.supers pa0 ((atD pa1 i2).gTrait)) i11))))] : List GAssumption)).length ≤ 1099511627776)
 (some (.next (v13 ++ ([(GAssumption.mk (GBound.mk (atD (GProgram.supers pa0 ((atD pa1 i2).gTrait)) i11) ((atD pa1 i2).gType)) ((i2 : Nat) : Int) (oPath (pathF pa0 8 ((atD pa1 i2).gTrait) (atD (GProgram.supers pa0 ((atD pa1 i2).gTrait)) i11))))] : List GAssumption))))
noncomputable def sAssumptions_R2 (fu : Nat) (pa0 : GProgram) (pa1 : List GBound) (i2 : Nat) (v4 : List GAssumption) : Option ((LR ((List GAssumption)) ((List GAssumption))) ⊕ ((List GAssumption))) :=
 loopN (sAssumptions_F2 fu pa0 pa1 i2 v4) ((GProgram.supers pa0 ((atD pa1 i2).gTrait)).length - 0) 0 (v4 ++ ([(GAssumption.mk (GBound.mk ((atD pa1 i2).gTrait) ((atD pa1 i2).gType)) ((i2 : Nat) : Int) [])] : List GAssumption))
noncomputable def sAssumptions_F1 (fu : Nat) (pa0 : GProgram) (pa1 : List GBound) : Nat → ((List GAssumption)) → Option (LR ((List GAssumption)) ((List GAssumption))) :=
 fun i2 v4 => gd (Tr.bulkL (GType.tr ((atD pa1 i2).gType)) ≤ 68719476735)
 (gd ((v4).length + (([(GAssumption.mk (GBound.mk ((atD pa1 i2).gTrait) ((atD pa1 i2).gType)) ((i2 : Nat) : Int) [])] : List GAssumption)).length ≤ 1099511627776)
 (gd ((GProgram.allSup pa0).length ≤ 1099511627776)
 (so (sAssumptions_R2 fu pa0 pa1 i2 v4) (fun v13 =>
 some (.next v13)))))
noncomputable def sAssumptions_R1 (fu : Nat) (pa0 : GProgram) (pa1 : List GBound) : Option (((List GAssumption)) ⊕ ((List GAssumption))) :=
 loopN (sAssumptions_F1 fu pa0 pa1) (pa1.length - 0) 0 ([])
noncomputable def sAssumptions_M (fu : Nat)  (pa0 : GProgram) (pa1 : List GBound) : Option ((List GAssumption)) :=
 so (sAssumptions_R1 fu pa0 pa1) (fun v4 =>
 some v4)
set_option maxRecDepth 100000 in
set_option maxHeartbeats 4000000 in
theorem sAssumptions_ok  (fu : Nat)  (pa0 : GProgram) (pa1 : List GBound) (r : (List GAssumption)) (H : sAssumptions_M fu pa0 pa1 = some r) : AFun Tryz.prog 51 [(GProgram.pv pa0), .t (.row 4 (GBound.trs (pa1)))] (.t (.row 6 (GAssumption.trs (r))) : PV) := by
  refine ACalls.intro Tryz.func51 rfl (by first | decide | (simp; done) | (simp; decide)) ?_; intro C hC
  refine AWP.fact (lk_lenN 1 rfl rfl (GBound.trs_len _)) (fun hl1 => ?_)
  refine AWP.seq ?_; refine AWP.region_lit ?_; refine AL.cons rfl (AOp.box (cs := [.t (.row 6 (GPackage.trs (pa0.gPackages)))]) rfl rfl rfl rfl rfl) ?_; refine AL.cons rfl (AOp.move (.inr rfl) rfl rfl) ?_; refine AL.nil ?_; refine AWP.seq ?_; refine AWP.region_lit ?_; refine AL.cons rfl (AOp.buildSliceA (es := []) (es' := GAssumption.trs ([])) (cs := []) rfl rfl el80 zr147 rfl rfl leA rfl (by simp [GAssumption.cs]) (by decide) rfl (by decide) (by simp [GAssumption.trs_map, GAssumption.tr_cs])) ?_; refine AL.cons rfl (AOp.move (.inr rfl) rfl rfl) ?_; refine AL.nil ?_; refine AWP.seq ?_; refine AWP.seq ?_; refine AWP.region_lit ?_; refine AL.cons rfl (AOp.move (.inr rfl) rfl rfl) ?_; refine AL.nil ?_; refine AWP.fact (lk_lenN 5 rfl rfl (GAssumption.trs_len _)) (fun hl5 => ?_)
  refine AWP.cut (ι := (List GAssumption)) (fun v4 => sAssumptions_R1 fu pa0 pa1 = some (.inr v4)) (fun v4 => ⟨[(4, .nil), (5, .acc 6 (GAssumption.trs (v4)) 0)], ⟨[some ⟨31, [.t (.row 6 (GPackage.trs (pa0.gPackages)))]⟩], [⟨147, 6, GAssumption.trs (v4), false⟩]⟩⟩) (by repeat' (first | exact qcEnds | exact ncAWP | exact ncRound | exact ncEx | apply qcThen | apply qcBlock | apply qcCut)) ?_ ?_
  · refine AWP.block ?_; refine AWP.loopR (ι := Nat × ((List GAssumption))) (fun (i2, v4) => sAssumptions_R1 fu pa0 pa1 = loopN (sAssumptions_F1 fu pa0 pa1) (pa1.length - i2) i2 v4) (fun (i2, v4) => ⟨[(1, .t (.row 4 (GBound.trs (pa1)))), (2, .ptr 0 0), (4, .nil), (5, .acc 6 (GAssumption.trs (v4)) 0), (6, .t (.leaf (.int .i64 (((i2 : Nat) : Int)))))], ⟨[some ⟨31, [.t (.row 6 (GPackage.trs (pa0.gPackages)))]⟩], [⟨147, 6, GAssumption.trs (v4), false⟩]⟩⟩) (fun (i2, v4) => pa1.length - i2) (0, ([])) ?_ ?_ ?_
    · exact rfl
    · exact Wk.mk (StLe.mk' ⟨⟨rfl, leA, rfl⟩, trivial⟩ (by first | rfl | simp)) (keeps_nil hC) ⟨⟨_, rfl, .refl _, rfl⟩, ⟨⟨_, rfl, .refl _, rfl⟩, ⟨⟨_, rfl, .refl _, rfl⟩, ⟨⟨_, rfl, leA, rfl⟩, ⟨⟨_, rfl, leA, rfl⟩, trivial⟩⟩⟩⟩⟩
    · rintro ⟨i2, v4⟩ hJ6
      refine AWP.seq ?_; refine AWP.seq ?_; refine AWP.region_lit ?_; refine AL.cons rfl (AOp.move (.inl rfl) rfl rfl) ?_; refine AL.cons rfl (AOp.move (.inl rfl) rfl rfl) ?_; refine AL.cons rfl (AOp.lenN rfl rfl rfl rfl el82 (GBound.trs_len _)) ?_; refine AL.cons rfl (AOp.lss rfl rfl rfl rfl) ?_; refine AL.nil ?_; refine AWP.cond rfl (fun h7 => ?_) (fun h7 => ?_)
      · have h7l : i2 < pa1.length := nat_lt_of2 h7
        have h7n := nat_lt_of h7
        refine AWP.skip ?_; refine AWP.seq ?_; refine AWP.block ?_; refine AWP.seq ?_
        rcases Classical.em (Tr.bulkL (GType.tr ((atD pa1 i2).gType)) ≤ 68719476735) with hg8 | hg8
        · rcases Classical.em ((v4).length + (([(GAssumption.mk (GBound.mk ((atD pa1 i2).gTrait) ((atD pa1 i2).gType)) ((i2 : Nat) : Int) [])] : List GAssumption)).length ≤ 1099511627776) with hg9 | hg9
          · refine AWP.drawnL ⟨_, _, fun j' _ => ([(⟨[some ⟨31, [.t (.row 6 (GPackage.trs (pa0.gPackages)))]⟩], [⟨147, 6, GAssumption.trs (v4), false⟩]⟩ : Sto), (⟨[some ⟨31, [.t (.row 6 (GPackage.trs (pa0.gPackages)))]⟩], [⟨147, 6, GAssumption.trs (v4 ++ ([(GAssumption.mk (GBound.mk ((atD pa1 i2).gTrait) ((atD pa1 i2).gType)) ((i2 : Nat) : Int) [])] : List GAssumption)), false⟩]⟩ : Sto)] : List Sto).getD j' (⟨[some ⟨31, [.t (.row 6 (GPackage.trs (pa0.gPackages)))]⟩], [⟨147, 6, GAssumption.trs (v4 ++ ([(GAssumption.mk (GBound.mk ((atD pa1 i2).gTrait) ((atD pa1 i2).gType)) ((i2 : Nat) : Int) [])] : List GAssumption)), false⟩]⟩ : Sto), fun q' => ([some (.acc 6 (GAssumption.trs (v4)) 0), some (.t (.row 4 (GBound.trs (pa1)))), some (.t (.leaf (.int .i64 (((i2 : Nat) : Int))))), some (.eptr (GBound.cs (atD pa1 i2))), some (.eptr (GBound.cs (atD pa1 i2))), some (.t (.leaf (.string ((atD pa1 i2).gTrait)))), some (.t (.row 4 (GBound.trs (pa1)))), some (.t (.leaf (.int .i64 (((i2 : Nat) : Int))))), some (.eptr (GBound.cs (atD pa1 i2))), some (.eptr ((GBound.cs (atD pa1 i2)).drop 1)), some ((GType.pv ((atD pa1 i2).gType))), some ((GType.pv ((atD pa1 i2).gType))), some (.agg [.t (.leaf (.string ((atD pa1 i2).gTrait))), .t (.leaf (.int .i64 (((atD pa1 i2).gType).gKind))), .t (.leaf (.string (((atD pa1 i2).gType).gName))), .t (.row 3 (GType.trs (((atD pa1 i2).gType).gArgs)))]), some (.t (.leaf (.int .i64 (((i2 : Nat) : Int))))), some (.agg [.t (.leaf (.string ((atD pa1 i2).gTrait))), .t (.leaf (.int .i64 (((atD pa1 i2).gType).gKind))), .t (.leaf (.string (((atD pa1 i2).gType).gName))), .t (.row 3 (GType.trs (((atD pa1 i2).gType).gArgs))), .t (.leaf (.int .i64 (((i2 : Nat) : Int)))), .nil]), some (.t (.row 6 (GAssumption.trs (([(GAssumption.mk (GBound.mk ((atD pa1 i2).gTrait) ((atD pa1 i2).gType)) ((i2 : Nat) : Int) [])] : List GAssumption))))), some (.acc 6 (GAssumption.trs (v4 ++ ([(GAssumption.mk (GBound.mk ((atD pa1 i2).gTrait) ((atD pa1 i2).gType)) ((i2 : Nat) : Int) [])] : List GAssumption))) 0), some (.acc 6 (GAssumption.trs (v4 ++ ([(GAssumption.mk (GBound.mk ((atD pa1 i2).gTrait) ((atD pa1 i2).gType)) ((i2 : Nat) : Int) [])] : List GAssumption))) 0)] : List (Option PV)).getD q' none, fun q' => ([.q 0 0, .q 0 0, .q 0 0, .q 0 0, .q 0 0, .q 0 0, .q 0 0, .q 0 0, .q 0 0, .q 0 0, .q 0 0, .q 0 0, .q 0 0, .q 0 0, .q 0 0, .q 0 0, .ef 0, .q 1 1] : List DK).getD q' (.q 0 0), [16], none, fun q' => ([[(5, none)], [(1, none)], [(6, none)], [(19, some 1), (20, some 2)], [(21, some 3)], [(22, some 4)], [(1, none)], [(6, none)], [(24, some 6), (25, some 7)], [(26, some 8)], [(27, some 9)], [(28, some 10)], [(29, some 11), (23, some 5)], [(6, none)], [(31, some 13), (30, some 12)], [(32, some 14)], [(18, some 0), (33, some 15)], [(34, some 16)]] : List (List (Nat × Option Nat))).getD q' []⟩ rfl mixed (by kernel_rfl) rfl rfl ⟨?_, ?_, ?_, ?_, ?_, ?_, ?_, ?_, ?_, ?_, ?_, ?_, ?_, ?_, ?_, ?_, ?_, ?_, trivial⟩ rfl ?_
            · exact Draw.step.q1 0 rfl rfl fun s' bb hs hl => ⟨_, rfl, AOp.move (.inl rfl) rfl (hl 5 none _ (.head _) rfl)⟩
            · exact Draw.step.q1 0 rfl rfl fun s' bb hs hl => ⟨_, rfl, AOp.move (.inl rfl) rfl (hl 1 none _ (.head _) rfl)⟩
            · exact Draw.step.q1 0 rfl rfl fun s' bb hs hl => ⟨_, rfl, AOp.move (.inl rfl) rfl (hl 6 none _ (.head _) rfl)⟩
            · exact Draw.step.q1 0 rfl rfl fun s' bb hs hl => ⟨_, rfl, AOp.index (k := i2) rfl rfl (hl 19 (some 1) _ (.head _) rfl) rfl (hl 20 (some 2) _ (.tail _ (.head _)) rfl) (GBound.trs_at h7n) el82⟩
            · exact Draw.step.q1 0 rfl rfl fun s' bb hs hl => ⟨_, rfl, AOp.fieldEptr (cs := (GBound.cs (atD pa1 i2))) (e := 0) rfl rfl (hl 21 (some 3) _ (.head _) rfl) fo49_0⟩
            · exact Draw.step.q1 0 rfl rfl fun s' bb hs hl => ⟨_, rfl, AOp.loadEptr1 (d := .leaf (.string ((atD pa1 i2).gTrait))) rfl rfl (hl 22 (some 4) _ (.head _) rfl) sh9 rfl⟩
            · exact Draw.step.q1 0 rfl rfl fun s' bb hs hl => ⟨_, rfl, AOp.move (.inl rfl) rfl (hl 1 none _ (.head _) rfl)⟩
            · exact Draw.step.q1 0 rfl rfl fun s' bb hs hl => ⟨_, rfl, AOp.move (.inl rfl) rfl (hl 6 none _ (.head _) rfl)⟩
            · exact Draw.step.q1 0 rfl rfl fun s' bb hs hl => ⟨_, rfl, AOp.index (k := i2) rfl rfl (hl 24 (some 6) _ (.head _) rfl) rfl (hl 25 (some 7) _ (.tail _ (.head _)) rfl) (GBound.trs_at h7n) el82⟩
            · exact Draw.step.q1 0 rfl rfl fun s' bb hs hl => ⟨_, rfl, AOp.fieldEptr (cs := (GBound.cs (atD pa1 i2))) (e := 1) rfl rfl (hl 26 (some 8) _ (.head _) rfl) fo49_1⟩
            · exact Draw.step.q1 0 rfl rfl fun s' bb hs hl => ⟨_, rfl, AOp.loadEptr (ds := [.leaf (.int .i64 (((atD pa1 i2).gType).gKind)), .leaf (.string (((atD pa1 i2).gType).gName)), .row 3 (GType.trs (((atD pa1 i2).gType).gArgs))]) rfl rfl (hl 27 (some 9) _ (.head _) rfl) sh47 rfl rfl⟩
            · exact Draw.step.q1 0 rfl rfl fun s' bb hs hl => ⟨_, rfl, AOp.callF (res := (GType.pv ((atD pa1 i2).gType))) (ps := [_]) rfl rfl Tryz.func110 (by kernel_rfl) rfl (evs_cons (hl 28 (some 10) _ (.head _) rfl) rfl) leA rfl rfl (sl4Copy_fn ((atD pa1 i2).gType) hg8)⟩
            · exact Draw.step.q1 0 rfl rfl fun s' bb hs hl => ⟨_, rfl, AOp.build rfl rfl zr49 pl49 (parts_cons (hl 23 (some 5) _ (.tail _ (.head _)) rfl) rfl rfl (parts_cons (hl 29 (some 11) _ (.head _) rfl) rfl rfl rfl)) rfl⟩
            · exact Draw.step.q1 0 rfl rfl fun s' bb hs hl => ⟨_, rfl, AOp.move (.inl rfl) rfl (hl 6 none _ (.head _) rfl)⟩
            · exact Draw.step.q1 0 rfl rfl fun s' bb hs hl => ⟨_, rfl, AOp.build rfl rfl zr147 pl147 (parts_cons (hl 30 (some 12) _ (.tail _ (.head _)) rfl) rfl rfl (parts_cons (hl 31 (some 13) _ (.head _) rfl) rfl rfl rfl)) rfl⟩
            · exact Draw.step.q1 0 rfl rfl fun s' bb hs hl => ⟨_, rfl, AOp.buildSliceE (es := [GAssumption.cs (GAssumption.mk (GBound.mk ((atD pa1 i2).gTrait) ((atD pa1 i2).gType)) ((i2 : Nat) : Int) [])]) (es' := GAssumption.trs (([(GAssumption.mk (GBound.mk ((atD pa1 i2).gTrait) ((atD pa1 i2).gType)) ((i2 : Nat) : Int) [])] : List GAssumption))) (cs := [.t (.leaf (.string ((atD pa1 i2).gTrait))), .t (.leaf (.int .i64 (((atD pa1 i2).gType).gKind))), .t (.leaf (.string (((atD pa1 i2).gType).gName))), .t (.row 3 (GType.trs (((atD pa1 i2).gType).gArgs))), .t (.leaf (.int .i64 (((i2 : Nat) : Int)))), .nil]) rfl rfl el80 zr147 (parts_cons (hl 32 (some 14) _ (.head _) rfl) rfl rfl rfl) rfl leA rfl (by simp [GAssumption.cs]) (by decide) rfl (by decide) (by simp [GAssumption.trs_map, GAssumption.tr_cs])⟩
            · refine .inl ⟨rfl, fun s' bb hs hl => ?_⟩
              refine .inl ⟨_, rfl, AOp.congr (AOp.appendE (es3 := GAssumption.trs (v4 ++ ([(GAssumption.mk (GBound.mk ((atD pa1 i2).gTrait) ((atD pa1 i2).gType)) ((i2 : Nat) : Int) [])] : List GAssumption))) rfl rfl (hl 18 (some 0) _ (.head _) rfl) (by rw [hs]; rfl) rfl rfl rfl (hl 33 (some 15) _ (.tail _ (.head _)) rfl) rfl (fun e he => by rw [GAssumption.trs_map] at he; obtain ⟨x, _, rfl⟩ := List.mem_map.1 he; rw [GAssumption.tr_cs]; rfl) el80 ze80 (by decide) (by rw [GAssumption.trs_len, GAssumption.trs_len]; exact room_leA hg9 (by decide)) (by rw [GAssumption.trs_map, GAssumption.trs_map, GAssumption.trs_map, List.map_append])) ?_⟩
              first | (rw [hs]; rfl) | rfl
            · exact Draw.step.q1 1 rfl rfl fun s' bb hs hl => ⟨_, rfl, AOp.move (.inr rfl) rfl (hl 34 (some 16) _ (.head _) rfl)⟩
            refine AWP.seq ?_
            rcases Classical.em ((GProgram.allSup pa0).length ≤ 1099511627776) with hg10 | hg10
            · refine AWP.drawnL ⟨_, _, fun _ _ => (⟨[some ⟨31, [.t (.row 6 (GPackage.trs (pa0.gPackages)))]⟩], [⟨147, 6, GAssumption.trs (v4 ++ ([(GAssumption.mk (GBound.mk ((atD pa1 i2).gTrait) ((atD pa1 i2).gType)) ((i2 : Nat) : Int) [])] : List GAssumption)), false⟩]⟩ : Sto), fun q' => ([some ((GProgram.pv pa0)), some (.t (.row 4 (GBound.trs (pa1)))), some (.t (.leaf (.int .i64 (((i2 : Nat) : Int))))), some (.eptr (GBound.cs (atD pa1 i2))), some (.eptr (GBound.cs (atD pa1 i2))), some (.t (.leaf (.string ((atD pa1 i2).gTrait)))), some (.t (.row 1 (strTrs (GProgram.supers pa0 ((atD pa1 i2).gTrait))))), some (.t (.row 1 (strTrs (GProgram.supers pa0 ((atD pa1 i2).gTrait)))))] : List (Option PV)).getD q' none, fun q' => ([.q 0 0, .q 0 0, .q 0 0, .q 0 0, .q 0 0, .q 0 0, .q 0 0, .q 0 0] : List DK).getD q' (.q 0 0), [], none, fun q' => ([[(2, none)], [(1, none)], [(6, none)], [(36, some 1), (37, some 2)], [(38, some 3)], [(39, some 4)], [(40, some 5), (35, some 0)], [(41, some 6)]] : List (List (Nat × Option Nat))).getD q' []⟩ rfl mixed (by kernel_rfl) rfl rfl ⟨?_, ?_, ?_, ?_, ?_, ?_, ?_, ?_, trivial⟩ rfl ?_
              · exact Draw.step.q1 0 rfl rfl fun s' bb hs hl => ⟨_, rfl, AOp.loadPtr (cs := [.t (.row 6 (GPackage.trs (pa0.gPackages)))]) rfl rfl (hl 2 none _ (.head _) rfl) (by rw [hs]; rfl) sh31 rfl rfl⟩
              · exact Draw.step.q1 0 rfl rfl fun s' bb hs hl => ⟨_, rfl, AOp.move (.inl rfl) rfl (hl 1 none _ (.head _) rfl)⟩
              · exact Draw.step.q1 0 rfl rfl fun s' bb hs hl => ⟨_, rfl, AOp.move (.inl rfl) rfl (hl 6 none _ (.head _) rfl)⟩
              · exact Draw.step.q1 0 rfl rfl fun s' bb hs hl => ⟨_, rfl, AOp.index (k := i2) rfl rfl (hl 36 (some 1) _ (.head _) rfl) rfl (hl 37 (some 2) _ (.tail _ (.head _)) rfl) (GBound.trs_at h7n) el82⟩
              · exact Draw.step.q1 0 rfl rfl fun s' bb hs hl => ⟨_, rfl, AOp.fieldEptr (cs := (GBound.cs (atD pa1 i2))) (e := 0) rfl rfl (hl 38 (some 3) _ (.head _) rfl) fo49_0⟩
              · exact Draw.step.q1 0 rfl rfl fun s' bb hs hl => ⟨_, rfl, AOp.loadEptr1 (d := .leaf (.string ((atD pa1 i2).gTrait))) rfl rfl (hl 39 (some 4) _ (.head _) rfl) sh9 rfl⟩
              · exact Draw.step.q1 0 rfl rfl fun s' bb hs hl => ⟨_, rfl, AOp.callF (res := .t (.row 1 (strTrs (GProgram.supers pa0 ((atD pa1 i2).gTrait))))) (ps := [_, _]) rfl rfl Tryz.func27 (by kernel_rfl) rfl (evs_cons (hl 35 (some 0) _ (.tail _ (.head _)) rfl) (evs_cons (hl 40 (some 5) _ (.head _) rfl) rfl)) leA rfl rfl (allSup_spec pa0 ((atD pa1 i2).gTrait) hg10)⟩
              · exact Draw.step.q1 0 rfl rfl fun s' bb hs hl => ⟨_, rfl, AOp.move (.inr rfl) rfl (hl 41 (some 6) _ (.head _) rfl)⟩
              refine AWP.seq ?_; refine AWP.region_lit ?_; refine AL.cons rfl (AOp.move (.inr rfl) rfl rfl) ?_; refine AL.nil ?_; refine AWP.fact (lk_lenN 5 rfl rfl (GAssumption.trs_len _)) (fun hl14 => ?_)
              refine AWP.fact (lk_lenN 7 rfl rfl (strTrs_len _)) (fun hl15 => ?_)
              refine AWP.fact (lk_lenN 18 rfl rfl (GAssumption.trs_len _)) (fun hl16 => ?_)
              refine AWP.fact (lk_lenN 33 rfl rfl (GAssumption.trs_len _)) (fun hl17 => ?_)
              refine AWP.cut (ι := (List GAssumption)) (fun v13 => sAssumptions_R2 fu pa0 pa1 i2 v4 = some (.inr v13)) (fun v13 => ⟨[(1, .t (.row 4 (GBound.trs (pa1)))), (2, .ptr 0 0), (4, .nil), (5, .acc 6 (GAssumption.trs (v13)) 0), (6, .t (.leaf (.int .i64 (((i2 : Nat) : Int))))), (7, .t (.row 1 (strTrs (GProgram.supers pa0 ((atD pa1 i2).gTrait))))), (12, .t (.leaf (.int .i64 (((i2 : Nat) : Int))))), (13, .t (.row 4 (GBound.trs (pa1)))), (14, .t (.leaf (.int .i64 (((pa1.length : Nat) : Int))))), (15, .t (.leaf (.bool (decide ((((i2 : Nat) : Int) : Int) < ((pa1.length : Nat) : Int)))))), (18, .acc 6 (GAssumption.trs (v4)) 0), (19, .t (.row 4 (GBound.trs (pa1)))), (20, .t (.leaf (.int .i64 (((i2 : Nat) : Int))))), (21, .eptr (GBound.cs (atD pa1 i2))), (22, .eptr (GBound.cs (atD pa1 i2))), (23, .t (.leaf (.string ((atD pa1 i2).gTrait)))), (24, .t (.row 4 (GBound.trs (pa1)))), (25, .t (.leaf (.int .i64 (((i2 : Nat) : Int))))), (26, .eptr (GBound.cs (atD pa1 i2))), (27, .eptr ((GBound.cs (atD pa1 i2)).drop 1)), (28, (GType.pv ((atD pa1 i2).gType))), (29, (GType.pv ((atD pa1 i2).gType))), (30, .agg [.t (.leaf (.string ((atD pa1 i2).gTrait))), .t (.leaf (.int .i64 (((atD pa1 i2).gType).gKind))), .t (.leaf (.string (((atD pa1 i2).gType).gName))), .t (.row 3 (GType.trs (((atD pa1 i2).gType).gArgs)))]), (31, .t (.leaf (.int .i64 (((i2 : Nat) : Int))))), (32, .agg [.t (.leaf (.string ((atD pa1 i2).gTrait))), .t (.leaf (.int .i64 (((atD pa1 i2).gType).gKind))), .t (.leaf (.string (((atD pa1 i2).gType).gName))), .t (.row 3 (GType.trs (((atD pa1 i2).gType).gArgs))), .t (.leaf (.int .i64 (((i2 : Nat) : Int)))), .nil]), (33, .t (.row 6 (GAssumption.trs (([(GAssumption.mk (GBound.mk ((atD pa1 i2).gTrait) ((atD pa1 i2).gType)) ((i2 : Nat) : Int) [])] : List GAssumption))))), (34, .acc 6 (GAssumption.trs (v4 ++ ([(GAssumption.mk (GBound.mk ((atD pa1 i2).gTrait) ((atD pa1 i2).gType)) ((i2 : Nat) : Int) [])] : List GAssumption))) 0), (35, (GProgram.pv pa0)), (36, .t (.row 4 (GBound.trs (pa1)))), (37, .t (.leaf (.int .i64 (((i2 : Nat) : Int))))), (38, .eptr (GBound.cs (atD pa1 i2))), (39, .eptr (GBound.cs (atD pa1 i2))), (40, .t (.leaf (.string ((atD pa1 i2).gTrait)))), (41, .t (.row 1 (strTrs (GProgram.supers pa0 ((atD pa1 i2).gTrait)))))], ⟨[some ⟨31, [.t (.row 6 (GPackage.trs (pa0.gPackages)))]⟩], [⟨147, 6, GAssumption.trs (v13), false⟩]⟩⟩) (by repeat' (first | exact qcEnds | exact ncAWP | exact ncRound | exact ncEx | apply qcThen | apply qcBlock | apply qcCut)) ?_ ?_
              · refine AWP.block ?_; refine AWP.loopR (ι := Nat × ((List GAssumption))) (fun (i11, v13) => sAssumptions_R2 fu pa0 pa1 i2 v4 = loopN (sAssumptions_F2 fu pa0 pa1 i2 v4) ((GProgram.supers pa0 ((atD pa1 i2).gTrait)).length - i11) i11 v13) (fun (i11, v13) => ⟨[(1, .t (.row 4 (GBound.trs (pa1)))), (2, .ptr 0 0), (4, .nil), (5, .acc 6 (GAssumption.trs (v13)) 0), (6, .t (.leaf (.int .i64 (((i2 : Nat) : Int))))), (7, .t (.row 1 (strTrs (GProgram.supers pa0 ((atD pa1 i2).gTrait))))), (8, .t (.leaf (.int .i64 (((i11 : Nat) : Int))))), (12, .t (.leaf (.int .i64 (((i2 : Nat) : Int))))), (13, .t (.row 4 (GBound.trs (pa1)))), (14, .t (.leaf (.int .i64 (((pa1.length : Nat) : Int))))), (15, .t (.leaf (.bool (decide ((((i2 : Nat) : Int) : Int) < ((pa1.length : Nat) : Int)))))), (18, .acc 6 (GAssumption.trs (v4)) 0), (19, .t (.row 4 (GBound.trs (pa1)))), (20, .t (.leaf (.int .i64 (((i2 : Nat) : Int))))), (21, .eptr (GBound.cs (atD pa1 i2))), (22, .eptr (GBound.cs (atD pa1 i2))), (23, .t (.leaf (.string ((atD pa1 i2).gTrait)))), (24, .t (.row 4 (GBound.trs (pa1)))), (25, .t (.leaf (.int .i64 (((i2 : Nat) : Int))))), (26, .eptr (GBound.cs (atD pa1 i2))), (27, .eptr ((GBound.cs (atD pa1 i2)).drop 1)), (28, (GType.pv ((atD pa1 i2).gType))), (29, (GType.pv ((atD pa1 i2).gType))), (30, .agg [.t (.leaf (.string ((atD pa1 i2).gTrait))), .t (.leaf (.int .i64 (((atD pa1 i2).gType).gKind))), .t (.leaf (.string (((atD pa1 i2).gType).gName))), .t (.row 3 (GType.trs (((atD pa1 i2).gType).gArgs)))]), (31, .t (.leaf (.int .i64 (((i2 : Nat) : Int))))), (32, .agg [.t (.leaf (.string ((atD pa1 i2).gTrait))), .t (.leaf (.int .i64 (((atD pa1 i2).gType).gKind))), .t (.leaf (.string (((atD pa1 i2).gType).gName))), .t (.row 3 (GType.trs (((atD pa1 i2).gType).gArgs))), .t (.leaf (.int .i64 (((i2 : Nat) : Int)))), .nil]), (33, .t (.row 6 (GAssumption.trs (([(GAssumption.mk (GBound.mk ((atD pa1 i2).gTrait) ((atD pa1 i2).gType)) ((i2 : Nat) : Int) [])] : List GAssumption))))), (34, .acc 6 (GAssumption.trs (v4 ++ ([(GAssumption.mk (GBound.mk ((atD pa1 i2).gTrait) ((atD pa1 i2).gType)) ((i2 : Nat) : Int) [])] : List GAssumption))) 0), (35, (GProgram.pv pa0)), (36, .t (.row 4 (GBound.trs (pa1)))), (37, .t (.leaf (.int .i64 (((i2 : Nat) : Int))))), (38, .eptr (GBound.cs (atD pa1 i2))), (39, .eptr (GBound.cs (atD pa1 i2))), (40, .t (.leaf (.string ((atD pa1 i2).gTrait)))), (41, .t (.row 1 (strTrs (GProgram.supers pa0 ((atD pa1 i2).gTrait)))))], ⟨[some ⟨31, [.t (.row 6 (GPackage.trs (pa0.gPackages)))]⟩], [⟨147, 6, GAssumption.trs (v13), false⟩]⟩⟩) (fun (i11, v13) => (GProgram.supers pa0 ((atD pa1 i2).gTrait)).length - i11) (0, (v4 ++ ([(GAssumption.mk (GBound.mk ((atD pa1 i2).gTrait) ((atD pa1 i2).gType)) ((i2 : Nat) : Int) [])] : List GAssumption))) ?_ ?_ ?_
                · exact rfl
                · exact Wk.mk (StLe.mk' ⟨⟨rfl, leA, rfl⟩, trivial⟩ (by first | rfl | simp)) (keeps_nil hC) ⟨⟨_, rfl, .refl _, rfl⟩, ⟨⟨_, rfl, .refl _, rfl⟩, ⟨⟨_, rfl, .refl _, rfl⟩, ⟨⟨_, rfl, leA, rfl⟩, ⟨⟨_, rfl, .refl _, rfl⟩, ⟨⟨_, rfl, .refl _, rfl⟩, ⟨⟨_, rfl, leA, rfl⟩, ⟨⟨_, rfl, .refl _, rfl⟩, ⟨⟨_, rfl, .refl _, rfl⟩, ⟨⟨_, rfl, .refl _, rfl⟩, ⟨⟨_, rfl, .refl _, rfl⟩, ⟨⟨_, rfl, .refl _, rfl⟩, ⟨⟨_, rfl, .refl _, rfl⟩, ⟨⟨_, rfl, .refl _, rfl⟩, ⟨⟨_, rfl, .refl _, rfl⟩, ⟨⟨_, rfl, .refl _, rfl⟩, ⟨⟨_, rfl, .refl _, rfl⟩, ⟨⟨_, rfl, .refl _, rfl⟩, ⟨⟨_, rfl, .refl _, rfl⟩, ⟨⟨_, rfl, .refl _, rfl⟩, ⟨⟨_, rfl, .refl _, rfl⟩, ⟨⟨_, rfl, .refl _, rfl⟩, ⟨⟨_, rfl, .refl _, rfl⟩, ⟨⟨_, rfl, .refl _, rfl⟩, ⟨⟨_, rfl, .refl _, rfl⟩, ⟨⟨_, rfl, .refl _, rfl⟩, ⟨⟨_, rfl, .refl _, rfl⟩, ⟨⟨_, rfl, .refl _, rfl⟩, ⟨⟨_, rfl, .refl _, rfl⟩, ⟨⟨_, rfl, .refl _, rfl⟩, ⟨⟨_, rfl, .refl _, rfl⟩, ⟨⟨_, rfl, .refl _, rfl⟩, ⟨⟨_, rfl, .refl _, rfl⟩, ⟨⟨_, rfl, .refl _, rfl⟩, ⟨⟨_, rfl, .refl _, rfl⟩, trivial⟩⟩⟩⟩⟩⟩⟩⟩⟩⟩⟩⟩⟩⟩⟩⟩⟩⟩⟩⟩⟩⟩⟩⟩⟩⟩⟩⟩⟩⟩⟩⟩⟩⟩⟩
                · rintro ⟨i11, v13⟩ hJ18
                  refine AWP.seq ?_; refine AWP.seq ?_; refine AWP.region_lit ?_; refine AL.cons rfl (AOp.move (.inl rfl) rfl rfl) ?_; refine AL.cons rfl (AOp.move (.inl rfl) rfl rfl) ?_; refine AL.cons rfl (AOp.lenN rfl rfl rfl rfl el54 (strTrs_len _)) ?_; refine AL.cons rfl (AOp.lss rfl rfl rfl rfl) ?_; refine AL.nil ?_; refine AWP.cond rfl (fun h19 => ?_) (fun h19 => ?_)
                  · have h19l : i11 < (GProgram.supers pa0 ((atD pa1 i2).gTrait)).length := nat_lt_of2 h19
                    have h19n := nat_lt_of h19
                    refine AWP.skip ?_; refine AWP.seq ?_; refine AWP.block ?_; refine AWP.seq ?_; refine AWP.drawnL ⟨_, _, fun _ _ => (⟨[some ⟨31, [.t (.row 6 (GPackage.trs (pa0.gPackages)))]⟩], [⟨147, 6, GAssumption.trs (v13), false⟩]⟩ : Sto), fun q' => ([some ((GProgram.pv pa0)), some (.t (.row 4 (GBound.trs (pa1)))), some (.t (.leaf (.int .i64 (((i2 : Nat) : Int))))), some (.eptr (GBound.cs (atD pa1 i2))), some (.eptr (GBound.cs (atD pa1 i2))), some (.t (.leaf (.string ((atD pa1 i2).gTrait)))), some (.t (.row 1 (strTrs (GProgram.supers pa0 ((atD pa1 i2).gTrait))))), some (.t (.leaf (.int .i64 (((i11 : Nat) : Int))))), some (.eptr ([.leaf (.string (atD (GProgram.supers pa0 ((atD pa1 i2).gTrait)) i11))])), some (.t (.leaf (.string (atD (GProgram.supers pa0 ((atD pa1 i2).gTrait)) i11)))), some (.tup [.t (.row 1 (intTrs (oPath (pathF pa0 8 ((atD pa1 i2).gTrait) (atD (GProgram.supers pa0 ((atD pa1 i2).gTrait)) i11))))), .t (.leaf (.bool (Option.isSome (pathF pa0 8 ((atD pa1 i2).gTrait) (atD (GProgram.supers pa0 ((atD pa1 i2).gTrait)) i11)))))]), some (.tup [.t (.row 1 (intTrs (oPath (pathF pa0 8 ((atD pa1 i2).gTrait) (atD (GProgram.supers pa0 ((atD pa1 i2).gTrait)) i11))))), .t (.leaf (.bool (Option.isSome (pathF pa0 8 ((atD pa1 i2).gTrait) (atD (GProgram.supers pa0 ((atD pa1 i2).gTrait)) i11)))))]), some (.t (.row 1 (intTrs (oPath (pathF pa0 8 ((atD pa1 i2).gTrait) (atD (GProgram.supers pa0 ((atD pa1 i2).gTrait)) i11)))))), some (.t (.leaf (.bool (Option.isSome (pathF pa0 8 ((atD pa1 i2).gTrait) (atD (GProgram.supers pa0 ((atD pa1 i2).gTrait)) i11)))))), some (.t (.row 1 (intTrs (oPath (pathF pa0 8 ((atD pa1 i2).gTrait) (atD (GProgram.supers pa0 ((atD pa1 i2).gTrait)) i11)))))), some (.t (.leaf (.bool (Option.isSome (pathF pa0 8 ((atD pa1 i2).gTrait) (atD (GProgram.supers pa0 ((atD pa1 i2).gTrait)) i11))))))] : List (Option PV)).getD q' none, fun q' => ([.q 0 0, .q 0 0, .q 0 0, .q 0 0, .q 0 0, .q 0 0, .q 0 0, .q 0 0, .q 0 0, .q 0 0, .q 0 0, .q 0 0, .q 0 0, .q 0 0, .q 0 0, .q 0 0] : List DK).getD q' (.q 0 0), [], none, fun q' => ([[(2, none)], [(1, none)], [(6, none)], [(50, some 1), (51, some 2)], [(52, some 3)], [(53, some 4)], [(7, none)], [(8, none)], [(55, some 6), (56, some 7)], [(57, some 8)], [(58, some 9), (54, some 5), (49, some 0)], [(59, some 10)], [(48, some 11)], [(48, some 11)], [(60, some 12)], [(61, some 13)]] : List (List (Nat × Option Nat))).getD q' []⟩ rfl mixed (by kernel_rfl) rfl rfl ⟨?_, ?_, ?_, ?_, ?_, ?_, ?_, ?_, ?_, ?_, ?_, ?_, ?_, ?_, ?_, ?_, trivial⟩ rfl ?_
                    · exact Draw.step.q1 0 rfl rfl fun s' bb hs hl => ⟨_, rfl, AOp.loadPtr (cs := [.t (.row 6 (GPackage.trs (pa0.gPackages)))]) rfl rfl (hl 2 none _ (.head _) rfl) (by rw [hs]; rfl) sh31 rfl rfl⟩
                    · exact Draw.step.q1 0 rfl rfl fun s' bb hs hl => ⟨_, rfl, AOp.move (.inl rfl) rfl (hl 1 none _ (.head _) rfl)⟩
                    · exact Draw.step.q1 0 rfl rfl fun s' bb hs hl => ⟨_, rfl, AOp.move (.inl rfl) rfl (hl 6 none _ (.head _) rfl)⟩
                    · exact Draw.step.q1 0 rfl rfl fun s' bb hs hl => ⟨_, rfl, AOp.index (k := i2) rfl rfl (hl 50 (some 1) _ (.head _) rfl) rfl (hl 51 (some 2) _ (.tail _ (.head _)) rfl) (GBound.trs_at h7n) el82⟩
                    · exact Draw.step.q1 0 rfl rfl fun s' bb hs hl => ⟨_, rfl, AOp.fieldEptr (cs := (GBound.cs (atD pa1 i2))) (e := 0) rfl rfl (hl 52 (some 3) _ (.head _) rfl) fo49_0⟩
                    · exact Draw.step.q1 0 rfl rfl fun s' bb hs hl => ⟨_, rfl, AOp.loadEptr1 (d := .leaf (.string ((atD pa1 i2).gTrait))) rfl rfl (hl 53 (some 4) _ (.head _) rfl) sh9 rfl⟩
                    · exact Draw.step.q1 0 rfl rfl fun s' bb hs hl => ⟨_, rfl, AOp.move (.inl rfl) rfl (hl 7 none _ (.head _) rfl)⟩
                    · exact Draw.step.q1 0 rfl rfl fun s' bb hs hl => ⟨_, rfl, AOp.move (.inl rfl) rfl (hl 8 none _ (.head _) rfl)⟩
                    · exact Draw.step.q1 0 rfl rfl fun s' bb hs hl => ⟨_, rfl, AOp.index (k := i11) rfl rfl (hl 55 (some 6) _ (.head _) rfl) rfl (hl 56 (some 7) _ (.tail _ (.head _)) rfl) (strTrs_at h19n) el54⟩
                    · exact Draw.step.q1 0 rfl rfl fun s' bb hs hl => ⟨_, rfl, AOp.loadEptr1 (d := .leaf (.string (atD (GProgram.supers pa0 ((atD pa1 i2).gTrait)) i11))) rfl rfl (hl 57 (some 8) _ (.head _) rfl) sh9 rfl⟩
                    · exact Draw.step.q1 0 rfl rfl fun s' bb hs hl => ⟨_, rfl, AOp.callF (res := .tup [.t (.row 1 (intTrs (oPath (pathF pa0 8 ((atD pa1 i2).gTrait) (atD (GProgram.supers pa0 ((atD pa1 i2).gTrait)) i11))))), .t (.leaf (.bool (Option.isSome (pathF pa0 8 ((atD pa1 i2).gTrait) (atD (GProgram.supers pa0 ((atD pa1 i2).gTrait)) i11)))))]) (ps := [_, _, _]) rfl rfl Tryz.func33 (by kernel_rfl) rfl (evs_cons (hl 49 (some 0) _ (.tail _ (.tail _ (.head _))) rfl) (evs_cons (hl 54 (some 5) _ (.tail _ (.head _)) rfl) (evs_cons (hl 58 (some 9) _ (.head _) rfl) rfl))) leA rfl rfl (path_spec pa0 ((atD pa1 i2).gTrait) (atD (GProgram.supers pa0 ((atD pa1 i2).gTrait)) i11))⟩
                    · exact Draw.step.q1 0 rfl rfl fun s' bb hs hl => ⟨_, rfl, AOp.move (.inl rfl) rfl (hl 59 (some 10) _ (.head _) rfl)⟩
                    · exact Draw.step.q1 0 rfl rfl fun s' bb hs hl => ⟨_, rfl, AOp.extract rfl rfl (hl 48 (some 11) _ (.head _) rfl) rfl⟩
                    · exact Draw.step.q1 0 rfl rfl fun s' bb hs hl => ⟨_, rfl, AOp.extract rfl rfl (hl 48 (some 11) _ (.head _) rfl) rfl⟩
                    · exact Draw.step.q1 0 rfl rfl fun s' bb hs hl => ⟨_, rfl, AOp.move (.inr rfl) rfl (hl 60 (some 12) _ (.head _) rfl)⟩
                    · exact Draw.step.q1 0 rfl rfl fun s' bb hs hl => ⟨_, rfl, AOp.move (.inr rfl) rfl (hl 61 (some 13) _ (.head _) rfl)⟩
                    rcases Classical.em ((v13).length + (([(GAssumption.mk (GBound.mk (atD (GProgram.supers pa0 ((atD pa1 i2).gTrait)) i11) ((atD pa1 i2).gType)) ((i2 : Nat) : Int) (oPath (pathF pa0 8 ((atD pa1 i2).gTrait) (atD (GProgram.supers pa0 ((atD pa1 i2).gTrait)) i11))))] : List GAssumption)).length ≤ 1099511627776) with hg20 | hg20
                    · refine AWP.drawnL ⟨_, _, fun j' _ => ([(⟨[some ⟨31, [.t (.row 6 (GPackage.trs (pa0.gPackages)))]⟩], [⟨147, 6, GAssumption.trs (v13), false⟩]⟩ : Sto), (⟨[some ⟨31, [.t (.row 6 (GPackage.trs (pa0.gPackages)))]⟩], [⟨147, 6, GAssumption.trs (v13 ++ ([(GAssumption.mk (GBound.mk (atD (GProgram.supers pa0 ((atD pa1 i2).gTrait)) i11) ((atD pa1 i2).gType)) ((i2 : Nat) : Int) (oPath (pathF pa0 8 ((atD pa1 i2).gTrait) (atD (GProgram.supers pa0 ((atD pa1 i2).gTrait)) i11))))] : List GAssumption)), false⟩]⟩ : Sto)] : List Sto).getD j' (⟨[some ⟨31, [.t (.row 6 (GPackage.trs (pa0.gPackages)))]⟩], [⟨147, 6, GAssumption.trs (v13 ++ ([(GAssumption.mk (GBound.mk (atD (GProgram.supers pa0 ((atD pa1 i2).gTrait)) i11) ((atD pa1 i2).gType)) ((i2 : Nat) : Int) (oPath (pathF pa0 8 ((atD pa1 i2).gTrait) (atD (GProgram.supers pa0 ((atD pa1 i2).gTrait)) i11))))] : List GAssumption)), false⟩]⟩ : Sto), fun q' => ([some (.acc 6 (GAssumption.trs (v13)) 0), some (.t (.row 1 (strTrs (GProgram.supers pa0 ((atD pa1 i2).gTrait))))), some (.t (.leaf (.int .i64 (((i11 : Nat) : Int))))), some (.eptr ([.leaf (.string (atD (GProgram.supers pa0 ((atD pa1 i2).gTrait)) i11))])), some (.t (.leaf (.string (atD (GProgram.supers pa0 ((atD pa1 i2).gTrait)) i11)))), some (.t (.row 4 (GBound.trs (pa1)))), some (.t (.leaf (.int .i64 (((i2 : Nat) : Int))))), some (.eptr (GBound.cs (atD pa1 i2))), some (.eptr ((GBound.cs (atD pa1 i2)).drop 1)), some ((GType.pv ((atD pa1 i2).gType))), some ((GType.pv ((atD pa1 i2).gType))), some (.agg [.t (.leaf (.string (atD (GProgram.supers pa0 ((atD pa1 i2).gTrait)) i11))), .t (.leaf (.int .i64 (((atD pa1 i2).gType).gKind))), .t (.leaf (.string (((atD pa1 i2).gType).gName))), .t (.row 3 (GType.trs (((atD pa1 i2).gType).gArgs)))]), some (.t (.leaf (.int .i64 (((i2 : Nat) : Int))))), some (.t (.row 1 (intTrs (oPath (pathF pa0 8 ((atD pa1 i2).gTrait) (atD (GProgram.supers pa0 ((atD pa1 i2).gTrait)) i11)))))), some (.agg [.t (.leaf (.string (atD (GProgram.supers pa0 ((atD pa1 i2).gTrait)) i11))), .t (.leaf (.int .i64 (((atD pa1 i2).gType).gKind))), .t (.leaf (.string (((atD pa1 i2).gType).gName))), .t (.row 3 (GType.trs (((atD pa1 i2).gType).gArgs))), .t (.leaf (.int .i64 (((i2 : Nat) : Int)))), .t (.row 1 (intTrs (oPath (pathF pa0 8 ((atD pa1 i2).gTrait) (atD (GProgram.supers pa0 ((atD pa1 i2).gTrait)) i11)))))]), some (.t (.row 6 (GAssumption.trs (([(GAssumption.mk (GBound.mk (atD (GProgram.supers pa0 ((atD pa1 i2).gTrait)) i11) ((atD pa1 i2).gType)) ((i2 : Nat) : Int) (oPath (pathF pa0 8 ((atD pa1 i2).gTrait) (atD (GProgram.supers pa0 ((atD pa1 i2).gTrait)) i11))))] : List GAssumption))))), some (.acc 6 (GAssumption.trs (v13 ++ ([(GAssumption.mk (GBound.mk (atD (GProgram.supers pa0 ((atD pa1 i2).gTrait)) i11) ((atD pa1 i2).gType)) ((i2 : Nat) : Int) (oPath (pathF pa0 8 ((atD pa1 i2).gTrait) (atD (GProgram.supers pa0 ((atD pa1 i2).gTrait)) i11))))] : List GAssumption))) 0), some (.acc 6 (GAssumption.trs (v13 ++ ([(GAssumption.mk (GBound.mk (atD (GProgram.supers pa0 ((atD pa1 i2).gTrait)) i11) ((atD pa1 i2).gType)) ((i2 : Nat) : Int) (oPath (pathF pa0 8 ((atD pa1 i2).gTrait) (atD (GProgram.supers pa0 ((atD pa1 i2).gTrait)) i11))))] : List GAssumption))) 0)] : List (Option PV)).getD q' none, fun q' => ([.q 0 0, .q 0 0, .q 0 0, .q 0 0, .q 0 0, .q 0 0, .q 0 0, .q 0 0, .q 0 0, .q 0 0, .q 0 0, .q 0 0, .q 0 0, .q 0 0, .q 0 0, .q 0 0, .ef 0, .q 1 1] : List DK).getD q' (.q 0 0), [16], none, fun q' => ([[(5, none)], [(7, none)], [(8, none)], [(63, some 1), (64, some 2)], [(65, some 3)], [(1, none)], [(6, none)], [(67, some 5), (68, some 6)], [(69, some 7)], [(70, some 8)], [(71, some 9)], [(72, some 10), (66, some 4)], [(6, none)], [(9, none)], [(75, some 13), (74, some 12), (73, some 11)], [(76, some 14)], [(62, some 0), (77, some 15)], [(78, some 16)]] : List (List (Nat × Option Nat))).getD q' []⟩ rfl mixed (by kernel_rfl) rfl rfl ⟨?_, ?_, ?_, ?_, ?_, ?_, ?_, ?_, ?_, ?_, ?_, ?_, ?_, ?_, ?_, ?_, ?_, ?_, trivial⟩ rfl ?_
                      · exact Draw.step.q1 0 rfl rfl fun s' bb hs hl => ⟨_, rfl, AOp.move (.inl rfl) rfl (hl 5 none _ (.head _) rfl)⟩
                      · exact Draw.step.q1 0 rfl rfl fun s' bb hs hl => ⟨_, rfl, AOp.move (.inl rfl) rfl (hl 7 none _ (.head _) rfl)⟩
                      · exact Draw.step.q1 0 rfl rfl fun s' bb hs hl => ⟨_, rfl, AOp.move (.inl rfl) rfl (hl 8 none _ (.head _) rfl)⟩
                      · exact Draw.step.q1 0 rfl rfl fun s' bb hs hl => ⟨_, rfl, AOp.index (k := i11) rfl rfl (hl 63 (some 1) _ (.head _) rfl) rfl (hl 64 (some 2) _ (.tail _ (.head _)) rfl) (strTrs_at h19n) el54⟩
                      · exact Draw.step.q1 0 rfl rfl fun s' bb hs hl => ⟨_, rfl, AOp.loadEptr1 (d := .leaf (.string (atD (GProgram.supers pa0 ((atD pa1 i2).gTrait)) i11))) rfl rfl (hl 65 (some 3) _ (.head _) rfl) sh9 rfl⟩
                      · exact Draw.step.q1 0 rfl rfl fun s' bb hs hl => ⟨_, rfl, AOp.move (.inl rfl) rfl (hl 1 none _ (.head _) rfl)⟩
                      · exact Draw.step.q1 0 rfl rfl fun s' bb hs hl => ⟨_, rfl, AOp.move (.inl rfl) rfl (hl 6 none _ (.head _) rfl)⟩
                      · exact Draw.step.q1 0 rfl rfl fun s' bb hs hl => ⟨_, rfl, AOp.index (k := i2) rfl rfl (hl 67 (some 5) _ (.head _) rfl) rfl (hl 68 (some 6) _ (.tail _ (.head _)) rfl) (GBound.trs_at h7n) el82⟩
                      · exact Draw.step.q1 0 rfl rfl fun s' bb hs hl => ⟨_, rfl, AOp.fieldEptr (cs := (GBound.cs (atD pa1 i2))) (e := 1) rfl rfl (hl 69 (some 7) _ (.head _) rfl) fo49_1⟩
                      · exact Draw.step.q1 0 rfl rfl fun s' bb hs hl => ⟨_, rfl, AOp.loadEptr (ds := [.leaf (.int .i64 (((atD pa1 i2).gType).gKind)), .leaf (.string (((atD pa1 i2).gType).gName)), .row 3 (GType.trs (((atD pa1 i2).gType).gArgs))]) rfl rfl (hl 70 (some 8) _ (.head _) rfl) sh47 rfl rfl⟩
                      · exact Draw.step.q1 0 rfl rfl fun s' bb hs hl => ⟨_, rfl, AOp.callF (res := (GType.pv ((atD pa1 i2).gType))) (ps := [_]) rfl rfl Tryz.func110 (by kernel_rfl) rfl (evs_cons (hl 71 (some 9) _ (.head _) rfl) rfl) leA rfl rfl (sl4Copy_fn ((atD pa1 i2).gType) hg8)⟩
                      · exact Draw.step.q1 0 rfl rfl fun s' bb hs hl => ⟨_, rfl, AOp.build rfl rfl zr49 pl49 (parts_cons (hl 66 (some 4) _ (.tail _ (.head _)) rfl) rfl rfl (parts_cons (hl 72 (some 10) _ (.head _) rfl) rfl rfl rfl)) rfl⟩
                      · exact Draw.step.q1 0 rfl rfl fun s' bb hs hl => ⟨_, rfl, AOp.move (.inl rfl) rfl (hl 6 none _ (.head _) rfl)⟩
                      · exact Draw.step.q1 0 rfl rfl fun s' bb hs hl => ⟨_, rfl, AOp.move (.inl rfl) rfl (hl 9 none _ (.head _) rfl)⟩
                      · exact Draw.step.q1 0 rfl rfl fun s' bb hs hl => ⟨_, rfl, AOp.build rfl rfl zr147 pl147 (parts_cons (hl 73 (some 11) _ (.tail _ (.tail _ (.head _))) rfl) rfl rfl (parts_cons (hl 74 (some 12) _ (.tail _ (.head _)) rfl) rfl rfl (parts_cons (hl 75 (some 13) _ (.head _) rfl) rfl rfl rfl))) rfl⟩
                      · exact Draw.step.q1 0 rfl rfl fun s' bb hs hl => ⟨_, rfl, AOp.buildSliceE (es := [GAssumption.cs (GAssumption.mk (GBound.mk (atD (GProgram.supers pa0 ((atD pa1 i2).gTrait)) i11) ((atD pa1 i2).gType)) ((i2 : Nat) : Int) (oPath (pathF pa0 8 ((atD pa1 i2).gTrait) (atD (GProgram.supers pa0 ((atD pa1 i2).gTrait)) i11))))]) (es' := GAssumption.trs (([(GAssumption.mk (GBound.mk (atD (GProgram.supers pa0 ((atD pa1 i2).gTrait)) i11) ((atD pa1 i2).gType)) ((i2 : Nat) : Int) (oPath (pathF pa0 8 ((atD pa1 i2).gTrait) (atD (GProgram.supers pa0 ((atD pa1 i2).gTrait)) i11))))] : List GAssumption))) (cs := [.t (.leaf (.string (atD (GProgram.supers pa0 ((atD pa1 i2).gTrait)) i11))), .t (.leaf (.int .i64 (((atD pa1 i2).gType).gKind))), .t (.leaf (.string (((atD pa1 i2).gType).gName))), .t (.row 3 (GType.trs (((atD pa1 i2).gType).gArgs))), .t (.leaf (.int .i64 (((i2 : Nat) : Int)))), .t (.row 1 (intTrs (oPath (pathF pa0 8 ((atD pa1 i2).gTrait) (atD (GProgram.supers pa0 ((atD pa1 i2).gTrait)) i11)))))]) rfl rfl el80 zr147 (parts_cons (hl 76 (some 14) _ (.head _) rfl) rfl rfl rfl) rfl leA rfl (by simp [GAssumption.cs]) (by decide) rfl (by decide) (by simp [GAssumption.trs_map, GAssumption.tr_cs])⟩
                      · refine .inl ⟨rfl, fun s' bb hs hl => ?_⟩
                        refine .inl ⟨_, rfl, AOp.congr (AOp.appendE (es3 := GAssumption.trs (v13 ++ ([(GAssumption.mk (GBound.mk (atD (GProgram.supers pa0 ((atD pa1 i2).gTrait)) i11) ((atD pa1 i2).gType)) ((i2 : Nat) : Int) (oPath (pathF pa0 8 ((atD pa1 i2).gTrait) (atD (GProgram.supers pa0 ((atD pa1 i2).gTrait)) i11))))] : List GAssumption))) rfl rfl (hl 62 (some 0) _ (.head _) rfl) (by rw [hs]; rfl) rfl rfl rfl (hl 77 (some 15) _ (.tail _ (.head _)) rfl) rfl (fun e he => by rw [GAssumption.trs_map] at he; obtain ⟨x, _, rfl⟩ := List.mem_map.1 he; rw [GAssumption.tr_cs]; rfl) el80 ze80 (by decide) (by rw [GAssumption.trs_len, GAssumption.trs_len]; exact room_leA hg20 (by decide)) (by rw [GAssumption.trs_map, GAssumption.trs_map, GAssumption.trs_map, List.map_append])) ?_⟩
                        first | (rw [hs]; rfl) | rfl
                      · exact Draw.step.q1 1 rfl rfl fun s' bb hs hl => ⟨_, rfl, AOp.move (.inr rfl) rfl (hl 78 (some 16) _ (.head _) rfl)⟩
                      refine AWP.region_lit ?_; refine AL.cons rfl (AOp.move (.inl rfl) rfl rfl) ?_; refine AL.cons rfl (AOp.addI rfl rfl rfl rfl (c := ((i11 + 1 : Nat) : Int)) (by omega) (by omega)) ?_; refine AL.cons rfl (AOp.move (.inr rfl) rfl rfl) ?_; refine AL.nil ?_
                      have e21 : (sAssumptions_F2 fu pa0 pa1 i2 v4) i11 v13 = some (.next (v13 ++ ([(GAssumption.mk (GBound.mk (atD (GProgram.supers pa0 ((atD pa1 i2).gTrait)) i11) ((atD pa1 i2).gType)) ((i2 : Nat) : Int) (oPath (pathF pa0 8 ((atD pa1 i2).gTrait) (atD (GProgram.supers pa0 ((atD pa1 i2).gTrait)) i11))))] : List GAssumption))) := gdT hg20 (rfl)
                      refine ⟨(i11 + 1, (v13 ++ ([(GAssumption.mk (GBound.mk (atD (GProgram.supers pa0 ((atD pa1 i2).gTrait)) i11) ((atD pa1 i2).gType)) ((i2 : Nat) : Int) (oPath (pathF pa0 8 ((atD pa1 i2).gTrait) (atD (GProgram.supers pa0 ((atD pa1 i2).gTrait)) i11))))] : List GAssumption))), loopN_next h19l hJ18 e21, ?_, ?_⟩
                      · exact Wk.mk (StLe.mk' ⟨⟨rfl, leA, rfl⟩, trivial⟩ (by first | rfl | simp)) (keeps_nil hC) ⟨⟨_, rfl, .refl _, rfl⟩, ⟨⟨_, rfl, .refl _, rfl⟩, ⟨⟨_, rfl, .refl _, rfl⟩, ⟨⟨_, rfl, leA, rfl⟩, ⟨⟨_, rfl, .refl _, rfl⟩, ⟨⟨_, rfl, .refl _, rfl⟩, ⟨⟨_, rfl, leA, rfl⟩, ⟨⟨_, rfl, .refl _, rfl⟩, ⟨⟨_, rfl, .refl _, rfl⟩, ⟨⟨_, rfl, .refl _, rfl⟩, ⟨⟨_, rfl, .refl _, rfl⟩, ⟨⟨_, rfl, .refl _, rfl⟩, ⟨⟨_, rfl, .refl _, rfl⟩, ⟨⟨_, rfl, .refl _, rfl⟩, ⟨⟨_, rfl, .refl _, rfl⟩, ⟨⟨_, rfl, .refl _, rfl⟩, ⟨⟨_, rfl, .refl _, rfl⟩, ⟨⟨_, rfl, .refl _, rfl⟩, ⟨⟨_, rfl, .refl _, rfl⟩, ⟨⟨_, rfl, .refl _, rfl⟩, ⟨⟨_, rfl, .refl _, rfl⟩, ⟨⟨_, rfl, .refl _, rfl⟩, ⟨⟨_, rfl, .refl _, rfl⟩, ⟨⟨_, rfl, .refl _, rfl⟩, ⟨⟨_, rfl, .refl _, rfl⟩, ⟨⟨_, rfl, .refl _, rfl⟩, ⟨⟨_, rfl, .refl _, rfl⟩, ⟨⟨_, rfl, .refl _, rfl⟩, ⟨⟨_, rfl, .refl _, rfl⟩, ⟨⟨_, rfl, .refl _, rfl⟩, ⟨⟨_, rfl, .refl _, rfl⟩, ⟨⟨_, rfl, .refl _, rfl⟩, ⟨⟨_, rfl, .refl _, rfl⟩, ⟨⟨_, rfl, .refl _, rfl⟩, ⟨⟨_, rfl, .refl _, rfl⟩, trivial⟩⟩⟩⟩⟩⟩⟩⟩⟩⟩⟩⟩⟩⟩⟩⟩⟩⟩⟩⟩⟩⟩⟩⟩⟩⟩⟩⟩⟩⟩⟩⟩⟩⟩⟩
                      · dsimp only; omega
                    · have e22 : (sAssumptions_F2 fu pa0 pa1 i2 v4) i11 v13 = none := gdF hg20
                      have e23 : sAssumptions_R2 fu pa0 pa1 i2 v4 = none := loopN_non h19l hJ18 e22
                      have e24 : (sAssumptions_F1 fu pa0 pa1) i2 v4 = none := gdT hg8 (gdT hg9 (gdT hg10 (soN e23)))
                      have e25 : sAssumptions_R1 fu pa0 pa1 = none := loopN_non h7l hJ6 e24
                      have e26 : sAssumptions_M fu pa0 pa1 = none := soN e25
                      exact none_some H e26
                  · have h19l : (GProgram.supers pa0 ((atD pa1 i2).gTrait)).length ≤ i11 := nat_ge_of2 h19
                    refine AWP.exit ?_; refine ⟨v13, loopN_end h19l hJ18, ?_⟩
                    exact Wk.mk (StLe.mk' ⟨⟨rfl, leA, rfl⟩, trivial⟩ (by first | rfl | simp)) (keeps_nil hC) ⟨⟨_, rfl, .refl _, rfl⟩, ⟨⟨_, rfl, .refl _, rfl⟩, ⟨⟨_, rfl, .refl _, rfl⟩, ⟨⟨_, rfl, .refl _, rfl⟩, ⟨⟨_, rfl, .refl _, rfl⟩, ⟨⟨_, rfl, .refl _, rfl⟩, ⟨⟨_, rfl, .refl _, rfl⟩, ⟨⟨_, rfl, .refl _, rfl⟩, ⟨⟨_, rfl, .refl _, rfl⟩, ⟨⟨_, rfl, .refl _, rfl⟩, ⟨⟨_, rfl, .refl _, rfl⟩, ⟨⟨_, rfl, .refl _, rfl⟩, ⟨⟨_, rfl, .refl _, rfl⟩, ⟨⟨_, rfl, .refl _, rfl⟩, ⟨⟨_, rfl, .refl _, rfl⟩, ⟨⟨_, rfl, .refl _, rfl⟩, ⟨⟨_, rfl, .refl _, rfl⟩, ⟨⟨_, rfl, .refl _, rfl⟩, ⟨⟨_, rfl, .refl _, rfl⟩, ⟨⟨_, rfl, .refl _, rfl⟩, ⟨⟨_, rfl, .refl _, rfl⟩, ⟨⟨_, rfl, .refl _, rfl⟩, ⟨⟨_, rfl, .refl _, rfl⟩, ⟨⟨_, rfl, .refl _, rfl⟩, ⟨⟨_, rfl, .refl _, rfl⟩, ⟨⟨_, rfl, .refl _, rfl⟩, ⟨⟨_, rfl, .refl _, rfl⟩, ⟨⟨_, rfl, .refl _, rfl⟩, ⟨⟨_, rfl, .refl _, rfl⟩, ⟨⟨_, rfl, .refl _, rfl⟩, ⟨⟨_, rfl, .refl _, rfl⟩, ⟨⟨_, rfl, .refl _, rfl⟩, ⟨⟨_, rfl, .refl _, rfl⟩, ⟨⟨_, rfl, .refl _, rfl⟩, trivial⟩⟩⟩⟩⟩⟩⟩⟩⟩⟩⟩⟩⟩⟩⟩⟩⟩⟩⟩⟩⟩⟩⟩⟩⟩⟩⟩⟩⟩⟩⟩⟩⟩⟩
              · rintro v13 hR27
                refine AWP.region_lit ?_; refine AL.cons rfl (AOp.move (.inl rfl) rfl rfl) ?_; refine AL.cons rfl (AOp.addI rfl rfl rfl rfl (c := ((i2 + 1 : Nat) : Int)) (by omega) (by omega)) ?_; refine AL.cons rfl (AOp.move (.inr rfl) rfl rfl) ?_; refine AL.nil ?_
                have e28 : (sAssumptions_F1 fu pa0 pa1) i2 v4 = some (.next v13) := gdT hg8 (gdT hg9 (gdT hg10 (soR hR27 (rfl))))
                refine ⟨(i2 + 1, v13), loopN_next h7l hJ6 e28, ?_, ?_⟩
                · exact Wk.mk (StLe.mk' ⟨⟨rfl, leA, rfl⟩, trivial⟩ (by first | rfl | simp)) (keeps_nil hC) ⟨⟨_, rfl, .refl _, rfl⟩, ⟨⟨_, rfl, .refl _, rfl⟩, ⟨⟨_, rfl, .refl _, rfl⟩, ⟨⟨_, rfl, leA, rfl⟩, ⟨⟨_, rfl, leA, rfl⟩, trivial⟩⟩⟩⟩⟩
                · dsimp only; omega
            · have e29 : (sAssumptions_F1 fu pa0 pa1) i2 v4 = none := gdT hg8 (gdT hg9 (gdF hg10))
              have e30 : sAssumptions_R1 fu pa0 pa1 = none := loopN_non h7l hJ6 e29
              have e31 : sAssumptions_M fu pa0 pa1 = none := soN e30
              exact none_some H e31
          · have e32 : (sAssumptions_F1 fu pa0 pa1) i2 v4 = none := gdT hg8 (gdF hg9)
            have e33 : sAssumptions_R1 fu pa0 pa1 = none := loopN_non h7l hJ6 e32
            have e34 : sAssumptions_M fu pa0 pa1 = none := soN e33
            exact none_some H e34
        · have e35 : (sAssumptions_F1 fu pa0 pa1) i2 v4 = none := gdF hg8
          have e36 : sAssumptions_R1 fu pa0 pa1 = none := loopN_non h7l hJ6 e35
          have e37 : sAssumptions_M fu pa0 pa1 = none := soN e36
          exact none_some H e37
      · have h7l : pa1.length ≤ i2 := nat_ge_of2 h7
        refine AWP.exit ?_; refine ⟨v4, loopN_end h7l hJ6, ?_⟩
        exact Wk.mk (StLe.mk' ⟨⟨rfl, leA, rfl⟩, trivial⟩ (by first | rfl | simp)) (keeps_nil hC) ⟨⟨_, rfl, .refl _, rfl⟩, ⟨⟨_, rfl, .refl _, rfl⟩, trivial⟩⟩
  · rintro v4 hR38
    refine AWP.seq ?_; refine AWP.region_lit ?_; refine AL.cons rfl (AOp.move (.inl rfl) rfl rfl) ?_; refine AL.cons rfl (AOp.move (.inr rfl) rfl rfl) ?_; refine AL.nil ?_; refine AWP.ret ?_
    have e39 : sAssumptions_M fu pa0 pa1 = some v4 := soR hR38 (rfl)
    have hz : v4 = r := Option.some.inj (e39.symm.trans H)
    subst hz
    exact Ends.mk (ps := [_]) (by first | exact .inr rfl | exact .inl rfl) ⟨rfl, trivial⟩ rfl (StLe.mk' (st' := ⟨[], []⟩) trivial rfl) (keeps_nil hC) (q := (.t (.row 6 (GAssumption.trs (v4))) : PV)) leA rfl ⟨rfl, rfl⟩

end Go.Proofs.YtnakkelglbcecaaGreat

namespace Go.Proofs.YtnakkelglbcecaaGreat
open Go.RowKit

/-- The slice is nil, or its row is known whole: it begins at 0 and the row's size is the capacity's. -/
def Whole (E : TypeId) (base sz : Nat) (w : World) (n : Nat) (v : Value) : Prop :=
  (v = .slice none 0 0 ∧ n = 0) ∨ ∃ g cap cur, v = .slice (some ⟨g, 0, none⟩) n cap ∧ base ≤ g ∧ OB w g E cur ∧ n ≤ cap ∧ cap ≤ maxLen ∧ cur.size = cap * sz

structure Acc (E : TypeId) (base sz : Nat) (w : World) (es : List (List Tr)) (v : Value) (S : Nat → Prop) : Prop where
  own : Own w (.row sz es) v S
  whole : Whole E base sz w es.length v
  lens : ∀ e ∈ es, e.length = sz
  lt : ∀ x, S x → base ≤ x ∧ x < w.heap.size

theorem Acc.rep {E : TypeId} {base sz : Nat} {w : World} {es : List (List Tr)} {v : Value} {S : Nat → Prop} (h : Acc E base sz w es v S) : Rep w (.row sz es) v := h.own.rep
theorem Acc.nil (E : TypeId) (base sz : Nat) (w : World) : Acc E base sz w [] (.slice none 0 0) (fun _ => False) :=
  ⟨Own.row (es := []) (fun _ _ => undef) (fun _ _ _ => False) (by simp) (by unfold maxLen; omega) (by simp) (by simp) (by simp) (by simp), .inl ⟨rfl, rfl⟩, by simp, by simp⟩
/-- An empty slice with a row of its own. -/
theorem Acc.empty {E : TypeId} {base sz : Nat} {w : World} {g cap : Nat} {cur : Array Value} (hb : base ≤ g) (ho : OB w g E cur) (hm : cap ≤ maxLen) (hc : cur.size = cap * sz) : Acc E base sz w [] (.slice (some ⟨g, 0, none⟩) 0 cap) (fun _ => False) :=
  ⟨Own.row (es := []) (fun _ _ => undef) (fun _ _ _ => False) (by simp) hm (by simp) (by simp) (by simp) (by simp), .inr ⟨g, cap, cur, rfl, hb, ho, Nat.zero_le _, hm, hc⟩, by simp, by simp⟩
theorem Acc.keep {E : TypeId} {base sz : Nat} {w w' : World} {es : List (List Tr)} {v : Value} {S : Nat → Prop} (h : Acc E base sz w es v S) (hz : w.heap.size ≤ w'.heap.size)
    (hx : ∀ b, S b ∨ v.ownBlock = some b → b < w.heap.size → w'.heap[b]? = w.heap[b]?) : Acc E base sz w' es v S := by
  refine ⟨h.own.keep fun b hb => hx b (.inl hb), ?_, h.lens, fun x hs => ⟨(h.lt x hs).1, Nat.lt_of_lt_of_le (h.lt x hs).2 hz⟩⟩
  rcases h.whole with h1 | ⟨g, cap, cur, rfl, h2, h3, h4⟩
  · exact .inl h1
  · exact .inr ⟨g, cap, cur, rfl, h2, (hx g (.inr rfl) h3.lt).trans h3, h4⟩
theorem Acc.ext {E : TypeId} {base sz : Nat} {w w' : World} {es : List (List Tr)} {v : Value} {S : Nat → Prop} (h : Acc E base sz w es v S) (hx : Ext w w') : Acc E base sz w' es v S := h.keep hx.size fun b _ hb => hx.block b hb
theorem Acc.mono {E : TypeId} {base base' sz : Nat} {w : World} {es : List (List Tr)} {v : Value} {S S' : Nat → Prop} (h : Acc E base sz w es v S) (hb : base' ≤ base) (hS : ∀ x, S x → S' x) (hl : ∀ x, S' x → base' ≤ x ∧ x < w.heap.size) : Acc E base' sz w es v S' := by
  refine ⟨h.own.mono hS, ?_, h.lens, hl⟩
  rcases h.whole with h1 | ⟨g, cap, cur, h1, h2, h3⟩
  · exact .inl h1
  · exact .inr ⟨g, cap, cur, h1, by omega, h3⟩

theorem Acc.owns {E : TypeId} {base sz : Nat} {w : World} {es : List (List Tr)} {v : Value} {S : Nat → Prop} (h : Acc E base sz w es v S) : ∃ xs, w.ownsRow base E sz v es.length xs := by
  rcases h.whole with ⟨h1, h2⟩ | ⟨g, cap, cur, h1, h2, h3, h4, h5, h6⟩
  · exact ⟨[], by simp [h2], .inl ⟨h1, h2⟩⟩
  · exact ⟨cur.toList.take (es.length * sz), by have := Nat.mul_le_mul_right sz h4; simp only [List.length_take, Array.length_toList]; omega, .inr ⟨g, cap, cur, h1, h2, h3, h4, h5, h6, rfl⟩⟩

theorem getE_append {α : Type} {es : List α} {e y : α} {i : Nat} (h : (es ++ [e])[i]? = some y) : (i < es.length ∧ es[i]? = some y) ∨ (i = es.length ∧ y = e) := by
  rcases Nat.lt_or_ge i es.length with hi | hi
  · rw [List.getElem?_append_left hi] at h
    exact .inl ⟨hi, h⟩
  · rw [List.getElem?_append_right hi] at h
    rcases hk : i - es.length with _ | k
    · rw [hk] at h
      simp at h
      exact .inr ⟨by omega, h.symm⟩
    · rw [hk] at h
      simp at h

theorem Acc.snoc {E : TypeId} {base base' sz : Nat} {w w' : World} {es : List (List Tr)} {e : List Tr} {v : Value} {S T : Nat → Prop} {xs cs : List Value} {g cap : Nat} (h : Acc E base sz w es v S) (hr : w.ownsRow base' E sz v es.length xs)
    (he : e.length = sz) (ho : OwnL w e cs T) (hST : ∀ x, S x → T x → False) (hT : ∀ x, T x → base ≤ x ∧ x < w.heap.size) (hTv : ∀ x, v.ownBlock = some x → ¬ T x)
    (hr' : w'.ownsRow base E sz (.slice (some ⟨g, 0, none⟩) (es.length + 1) cap) (es.length + 1) (xs ++ cs)) (hg : w.grownBy w' v.ownBlock) (hgg : v.ownBlock = some g ∨ g = w.heap.size) (_hbw : base ≤ w.heap.size) :
    Acc E base sz w' (es ++ [e]) (.slice (some ⟨g, 0, none⟩) (es.length + 1) cap) (fun x => S x ∨ T x ∨ x = g) := by
  obtain ⟨hown, hwh, hlens, hlt⟩ := h
  have hel : (es ++ [e]).length = es.length + 1 := by simp
  obtain ⟨hxl', hr'⟩ := hr'
  rcases hr' with ⟨h1, -⟩ | ⟨g', cap', cur', h1, hbg, hob', hcap, hmax, hcs', htake'⟩
  · simp at h1
  injection h1 with h1 h2 h3
  injection h1 with h1
  injection h1 with h1
  subst h1 h3
  have hgl : g < w'.heap.size := OB.lt hob'
  have hvlt : ∀ x, v.ownBlock = some x → x < w.heap.size := by
    intro x hx
    rcases hwh with ⟨rfl, -⟩ | ⟨g0, c0, u0, rfl, -, h3, -⟩
    · simp [Value.ownBlock] at hx
    · simp [Value.ownBlock] at hx
      subst hx
      exact h3.lt
  have hxl : xs.length = es.length * sz := hr.1
  have hlens' : ∀ y ∈ es ++ [e], y.length = sz := by
    intro y hy
    rcases List.mem_append.1 hy with hy | hy
    · exact hlens y hy
    · simp at hy; rw [hy, he]
  have hcur' : ∀ i, i < (es.length + 1) * sz → cur'[i]? = (xs ++ cs)[i]? := by
    intro i hi
    have h8 : (cur'.toList.take ((es.length + 1) * sz))[i]? = (xs ++ cs)[i]? := by rw [htake']
    rw [List.getElem?_take, if_pos hi] at h8
    simpa using h8
  obtain ⟨hcl, U, u1, u2, u3⟩ := ho
  have hTg : ∀ x, T x → x ≠ g := by
    rintro x hx rfl
    rcases hgg with h | h
    · exact hTv _ h hx
    · have := (hT _ hx).2; omega
  cases hown with
  | row c T0 o1 o2 o3 o4 o5 o6 =>
    rename_i a cap0
    have keepb : ∀ b, b < w.heap.size → (Value.slice a es.length cap0).ownBlock ≠ some b → w'.heap[b]? = w.heap[b]? := fun b hb hne => hg.block b hb (fun h => hne h.symm)
    -- the old cells, seen from the list
    have hold : ∀ i y, es[i]? = some y → ∀ j d, y[j]? = some d → xs[i * sz + j]? = some (c i j) ∧ (∀ x, T0 i j x → (Value.slice a es.length cap0).ownBlock ≠ some x) := by
      intro i y hy j d hd
      have hne : es ≠ [] := by rintro rfl; simp at hy
      obtain ⟨b, off, E1, arr, rfl, hob, hs, hc⟩ := o3 hne
      obtain ⟨hc1, hc2⟩ := hc i y hy j d hd
      rcases hr.2 with ⟨h1, -⟩ | ⟨g1, c1, cur1, h1, -, hob1, q4, q5, q6, q7⟩
      · simp at h1
      injection h1 with h1 h2 h3
      injection h1 with h1
      injection h1 with h1 h4
      subst h1 h4
      have hoo := hob.symm.trans hob1
      injection hoo with hoo
      injection hoo with hoo
      subst hoo
      have hi : i < es.length := (List.getElem?_eq_some_iff.1 hy).1
      have hj : j < sz := by rw [← hlens y (List.mem_of_getElem? hy)]; exact (List.getElem?_eq_some_iff.1 hd).1
      have hij : i * sz + j < es.length * sz := by
        have : (i + 1) * sz ≤ es.length * sz := Nat.mul_le_mul_right _ hi
        rw [Nat.succ_mul] at this
        omega
      refine ⟨?_, fun x hx hh => ?_⟩
      · rw [← q7, List.getElem?_take, if_pos hij]
        rw [Nat.zero_add] at hc1
        simpa using hc1
      · simp [Value.ownBlock] at hh
        exact hc2 x hx hh.symm
    have hgS : ∀ i y, es[i]? = some y → ∀ j d, y[j]? = some d → ∀ x, T0 i j x → x ≠ g := by
      intro i y hy j d hd x hx
      rintro rfl
      rcases hgg with h | h
      · exact (hold i y hy j d hd).2 _ hx h
      · have := (hlt _ (o5 i y hy j d hd _ hx)).2; omega
    refine ⟨?_, .inr ⟨g, cap, cur', by rw [hel], hbg, hob', by rw [hel]; exact hcap, hmax, hcs'⟩, hlens', ?_⟩
    · rw [← hel]
      refine Own.row (fun i j => (cur'[i * sz + j]?).getD undef) (fun i j => if i < es.length then T0 i j else U j) (by rw [hel]; exact hcap) hmax ?_ ?_ ?_ ?_
      · intro _
        refine ⟨g, 0, E, cur', rfl, hob', .inr (.inr rfl), ?_⟩
        intro i y hy j d hd
        have hj : j < sz := by rw [← hlens' y (List.mem_of_getElem? hy)]; exact (List.getElem?_eq_some_iff.1 hd).1
        have hi : i < es.length + 1 := by rw [← hel]; exact (List.getElem?_eq_some_iff.1 hy).1
        have hij : i * sz + j < (es.length + 1) * sz := by
          have : (i + 1) * sz ≤ (es.length + 1) * sz := Nat.mul_le_mul_right _ hi
          rw [Nat.succ_mul] at this
          omega
        have hle : (es.length + 1) * sz ≤ cap * sz := Nat.mul_le_mul_right _ hcap
        refine ⟨?_, fun x hx => ?_⟩
        · rw [Nat.zero_add, Array.getElem?_eq_getElem (by omega)]; rfl
        · rcases getE_append hy with ⟨hi2, hy2⟩ | ⟨rfl, rfl⟩
          · simp only [if_pos hi2] at hx
            exact hgS i y hy2 j d hd x hx
          · simp only [Nat.lt_irrefl, if_false] at hx
            exact hTg x (u2 j d hd x hx)
      · intro i y hy j d hd
        have hj : j < sz := by rw [← hlens' y (List.mem_of_getElem? hy)]; exact (List.getElem?_eq_some_iff.1 hd).1
        have hi : i < es.length + 1 := by rw [← hel]; exact (List.getElem?_eq_some_iff.1 hy).1
        have hij : i * sz + j < (es.length + 1) * sz := by
          have : (i + 1) * sz ≤ (es.length + 1) * sz := Nat.mul_le_mul_right _ hi
          rw [Nat.succ_mul] at this
          omega
        have hcu := hcur' (i * sz + j) hij
        rcases getE_append hy with ⟨hi2, hy2⟩ | ⟨rfl, rfl⟩
        · simp only [if_pos hi2]
          obtain ⟨h8, h9⟩ := hold i y hy2 j d hd
          rw [List.getElem?_append_left (List.getElem?_eq_some_iff.1 h8).1, h8] at hcu
          rw [hcu]
          exact (o4 i y hy2 j d hd).keep fun b hb hbl => keepb b hbl (h9 b hb)
        · simp only [Nat.lt_irrefl, if_false]
          obtain ⟨v1, hv1, how⟩ := u1 j d hd
          rw [List.getElem?_append_right (by omega), hxl, Nat.add_sub_cancel_left, hv1] at hcu
          rw [hcu]
          exact how.keep fun b hb hbl => keepb b hbl (fun hh => hTv b hh (u2 j d hd b hb))
      · intro i y hy j d hd x hx
        rcases getE_append hy with ⟨hi2, hy2⟩ | ⟨rfl, rfl⟩
        · simp only [if_pos hi2] at hx
          exact .inl (o5 i y hy2 j d hd x hx)
        · simp only [Nat.lt_irrefl, if_false] at hx
          exact .inr (.inl (u2 j d hd x hx))
      · intro i y hy j d hd i' y' hy' j' d' hd' hne x hx hx'
        rcases getE_append hy with ⟨hi2, hy2⟩ | ⟨rfl, rfl⟩
        · simp only [if_pos hi2] at hx
          rcases getE_append hy' with ⟨hi2', hy2'⟩ | ⟨rfl, rfl⟩
          · simp only [if_pos hi2'] at hx'
            exact o6 i y hy2 j d hd i' y' hy2' j' d' hd' hne x hx hx'
          · simp only [Nat.lt_irrefl, if_false] at hx'
            exact hST x (o5 i y hy2 j d hd x hx) (u2 j' d' hd' x hx')
        · simp only [Nat.lt_irrefl, if_false] at hx
          rcases getE_append hy' with ⟨hi2', hy2'⟩ | ⟨hi3, rfl⟩
          · simp only [if_pos hi2'] at hx'
            exact hST x (o5 i' y' hy2' j' d' hd' x hx') (u2 j d hd x hx)
          · subst hi3
            simp only [Nat.lt_irrefl, if_false] at hx'
            exact u3 j d hd j' d' hd' (hne rfl) x hx hx'
    · intro x hx
      rcases hx with hx | hx | rfl
      · exact ⟨(hlt x hx).1, Nat.lt_of_lt_of_le (hlt x hx).2 hg.size⟩
      · exact ⟨(hT x hx).1, Nat.lt_of_lt_of_le (hT x hx).2 hg.size⟩
      · exact ⟨hbg, hgl⟩

theorem Acc.blk {E : TypeId} {base sz : Nat} {w : World} {es : List (List Tr)} {v : Value} {S : Nat → Prop} (h : Acc E base sz w es v S) {x : Nat} (hx : v.ownBlock = some x) : base ≤ x ∧ x < w.heap.size := by
  rcases h.whole with ⟨rfl, -⟩ | ⟨g0, c0, u0, rfl, h1, h3, -⟩
  · simp [Value.ownBlock] at hx
  · simp [Value.ownBlock] at hx
    subst hx
    exact ⟨h1, h3.lt⟩
theorem Acc.shape {E : TypeId} {base sz : Nat} {w : World} {es : List (List Tr)} {v : Value} {S : Nat → Prop} (h : Acc E base sz w es v S) : ∃ a cap, v = .slice a es.length cap ∧ es.length ≤ cap ∧ cap ≤ maxLen := h.rep.shape
/-- The world behind an append onto a slice of our own, as seen from an elder world. -/
theorem grown_ext_own {a w w' : World} {v : Value} (h : Ext a w) (hg : w.grownBy w' v.ownBlock) (hB : ∀ x, v.ownBlock = some x → a.heap.size ≤ x) : Ext a w' := Below.grown h hg h.size hB
theorem Chg.of_grown_own {w w' : World} {v : Value} (hg : w.grownBy w' v.ownBlock) : Chg (fun b => v.ownBlock = some b) w w' :=
  ⟨hg.os, hg.tape, hg.output, hg.size, fun x hx hs => hg.block x hx (fun h => hs h.symm)⟩

theorem OB.grown_own {w w' : World} {g : Nat} {t : TypeId} {cs : Array Value} {v : Value} (h : OB w g t cs) (hg : w.grownBy w' v.ownBlock) (hne : v.ownBlock ≠ some g) : OB w' g t cs := (hg.block g h.lt (fun e => hne e.symm)).trans h

/-- append of one element onto a slice of our own. -/
theorem wpList_append_acc {P : Program} {ops : Array Oper} {rest : List Oper} {o : Oper} {a : Act} {w : World} {Q : Exit → Act → World → Prop} (hgd : o.guard = none) (s x : Operand) (t : TypeId)
    (ho : o.op = .call { callee := .builtin .append, args := #[s, x], argTypes := #[t, t] }) (E : TypeId) (sz bytes : Nat) (ht : P.underlying t = some (.slice E))
    (hi : (P.info? E).map (fun i => (i.zero.map (fun z => z.cells.size), i.size, i.bytes)) = some (some sz, sz, bytes)) (hsz : 0 < sz) (hby : bytes ≤ 100)
    (base : Nat) (es : List (List Tr)) (n : Nat) (hn : es.length = n) (v : Value) (S : Nat → Prop) (hs : a.eval s = v) (hacc : Acc E base sz w es v S)
    (e : List Tr) (cs : List Value) (T : Nat → Prop) (he : e.length = sz) (ho2 : OwnL w e cs T) (hST : ∀ x, S x → T x → False) (hT : ∀ x, T x → base ≤ x ∧ x < w.heap.size) (hTv : ∀ x, v.ownBlock = some x → ¬ T x)
    (B c : Nat) (E2 : TypeId) (hx : a.eval x = .slice (some ⟨B, 0, none⟩) 1 c) (hB : OB w B E2 ⟨cs⟩) (hlen : n ≤ 1099511627776) (hbase : base ≤ w.heap.size)
    (h : ∀ g cap w', Acc E base sz w' (es ++ [e]) (.slice (some ⟨g, 0, none⟩) (n + 1) cap) (fun x => S x ∨ T x ∨ x = g) → w.grownBy w' v.ownBlock → (v.ownBlock = some g ∨ g = w.heap.size) → g < w'.heap.size →
      wpList P ops Q rest (a.put o.dst (.slice (some ⟨g, 0, none⟩) (n + 1) cap)) w') : wpList P ops Q (o :: rest) a w := by
  subst hn
  obtain ⟨xs, hxs⟩ := hacc.owns
  cases hq : P.info? E with
  | none => simp [hq] at hi
  | some i =>
    simp only [hq, Option.map_some, Option.some.injEq, Prod.mk.injEq] at hi
    obtain ⟨h1, h2, h3⟩ := hi
    cases hz : i.zero with
    | none => simp [hz] at h1
    | some z =>
      simp only [hz, Option.map_some, Option.some.injEq] at h1
      have hcl : cs.length = sz := by rw [ho2.1, he]
      have hbb : (es.length + 1) * bytes ≤ 1099511627777 * 100 := Nat.mul_le_mul (by omega) hby
      refine wpList_append_lies w hgd s x t ho base E i z sz bytes ht hq hz h2 h3 h1 hsz v es.length xs hs hxs ⟨B, 0, none⟩ 1 c cs hx (by omega) ?_ (ho2.rep.one) (by omega) (by unfold maxLen; omega) (by omega) hbase _ rfl ?_
      · intro j u hu
        exact World.news_of_block hB j u (by simpa using hu)
      · intro g cap w' k1 k2 k3 k4
        exact h g cap w' (hacc.snoc hxs he ho2 hST hT hTv k1 k2 k3 hbase) k2 k3 k4

/-- From world w on, a slice v of our own has been appended to: by now it is v' and holds es. -/
structure AccRun (E : TypeId) (base sz : Nat) (w : World) (v : Value) (w' : World) (es : List (List Tr)) (v' : Value) : Prop where
  acc : ∃ U, Acc E base sz w' es v' U
  chg : Chg (fun b => v.ownBlock = some b) w w'
  row : ∀ b, v'.ownBlock = some b → v.ownBlock = some b ∨ w.heap.size ≤ b
theorem AccRun.refl {E : TypeId} {base sz : Nat} {w : World} {es : List (List Tr)} {v : Value} {U : Nat → Prop} (h : Acc E base sz w es v U) : AccRun E base sz w v w es v := ⟨⟨U, h⟩, Chg.refl _ _, fun _ h => .inl h⟩
theorem AccRun.ext {E : TypeId} {base sz : Nat} {w w1 w2 : World} {es : List (List Tr)} {v v' : Value} (h : AccRun E base sz w v w1 es v') (hx : Ext w1 w2) : AccRun E base sz w v w2 es v' := by
  obtain ⟨U, h1⟩ := h.acc
  exact ⟨⟨U, h1.ext hx⟩, h.chg.trans (.of_ext hx), h.row⟩
theorem AccRun.trans {E : TypeId} {base sz : Nat} {w w1 w2 : World} {es es2 : List (List Tr)} {v v1 v2 : Value} (h : AccRun E base sz w v w1 es v1) (k : AccRun E base sz w1 v1 w2 es2 v2) : AccRun E base sz w v w2 es2 v2 := by
  refine ⟨k.acc, ⟨k.chg.os.trans h.chg.os, k.chg.tape.trans h.chg.tape, k.chg.output.trans h.chg.output, Nat.le_trans h.chg.size k.chg.size, fun b hb hn => ?_⟩, fun b hb => ?_⟩
  · refine (k.chg.block b (Nat.lt_of_lt_of_le hb h.chg.size) fun h1 => ?_).trans (h.chg.block b hb hn)
    rcases h.row b h1 with h2 | h2
    · exact hn h2
    · omega
  · rcases k.row b hb with h1 | h1
    · exact h.row b h1
    · exact .inr (Nat.le_trans h.chg.size h1)
theorem AccRun.snoc {E : TypeId} {base sz : Nat} {w w' : World} {es : List (List Tr)} {v v' : Value} {U : Nat → Prop} {g cap n : Nat} (hv : v' = .slice (some ⟨g, 0, none⟩) n cap) (h : Acc E base sz w' es v' U) (hg : w.grownBy w' v.ownBlock) (hgg : v.ownBlock = some g ∨ g = w.heap.size) : AccRun E base sz w v w' es v' := by
  refine ⟨⟨U, h⟩, Chg.of_grown_own hg, fun b hb => ?_⟩
  subst hv
  simp [Value.ownBlock] at hb
  subst hb
  rcases hgg with h1 | h1
  · exact .inl h1
  · exact .inr (by omega)
/-- What lies elsewhere stays. -/
theorem AccRun.ob {E : TypeId} {base sz : Nat} {w w' : World} {es : List (List Tr)} {v v' : Value} (h : AccRun E base sz w v w' es v') {B : Nat} {T : TypeId} {cs : Array Value} (hB : OB w B T cs) (hn : v.ownBlock ≠ some B) : OB w' B T cs ∧ v'.ownBlock ≠ some B := by
  refine ⟨(h.chg.block B hB.lt hn).trans hB, fun h1 => ?_⟩
  rcases h.row B h1 with h2 | h2
  · exact hn h2
  · have := hB.lt; omega
theorem AccRun.old {E : TypeId} {base sz : Nat} {w0 w w' : World} {es : List (List Tr)} {v v' : Value} (h : AccRun E base sz w v w' es v') (hx : Ext w0 w) (hv : ∀ b, v.ownBlock = some b → w0.heap.size ≤ b) : Ext w0 w' := Chg.ext hx h.chg hv

end Go.Proofs.YtnakkelglbcecaaGreat

namespace Go.Proofs.YtnakkelglbcecaaGreat
open Go.RowKit Go.Proofs

set_option maxRecDepth 100000 in
set_option maxHeartbeats 1000000 in
theorem copiesType_impl_of (l : List GType) (H : ∀ x ∈ l, ToC 111 x.tr) : ToSC 163 3 (GType.trs l) := by
  intro s w hs hbk
  obtain ⟨a, cap, rfl, hl, hm⟩ := hs.shape
  rw [GType.trs_len] at *
  unfold maxLen at hm
  have HS := Lib.hid hs
  have HH := Lib.hid H
  have n0 : (0 : Int) ≤ l.length := by omega
  clear hs H
  go_enter Tryz.func163, Tryz.ntmps163
  go_wp2_with (refine wpList_make_rep rfl 45 (.tmp 7) rfl l.length rfl 47 Tryz.underlying45 3 48 iszb47 (by omega) (by omega) ?_; intro wm arr0 ha0 hob0 hx0 hz0; have HA0 := Lib.hid ha0; have HOB0 := Lib.hid hob0; have HX0 := Lib.hid hx0; have HZ0 := Lib.hid hz0; clear ha0 hob0 hx0 hz0)
  go_loopw [11] (fun i wr => ∃ (k : Nat) (arr : Array Value), k ≤ l.length ∧ i = .int .i64 k ∧ Ext w wr ∧ w.heap.size < wr.heap.size ∧ Hid (OB wr w.heap.size 47 arr) ∧ Hid (arr.size = (GType.trs l).length * 3) ∧ Hid (Part wr w.heap.size arr 3 (GType.trs l) k)) (fun i _ => l.length - (intOf i).toNat)
  case atStart => exact ⟨0, arr0, Nat.zero_le _, rfl, HX0.out, by rw [HZ0.out]; omega, HOB0.out, by show _ = _; rw [GType.trs_len]; exact HA0.out, Part.zero _ _ _ _ _⟩
  case round =>
    obtain ⟨k, arr, hk, rfl, hw, hgt, HOB, HAS, HP⟩ := hrel
    by_cases hlt : k < l.length
    · obtain ⟨b, off, cs, rfl, hb, hcs, hc⟩ := (HS.out.ext hw).at2 (k := k) (GType.trs_get hlt)
      have HM := Lib.hid (List.getElem_mem hlt)
      have HCS := Lib.hid hcs
      have HC := Lib.hid hc
      have HI : Hid ((Tryz.prog.info? 47).map (·.size) = some cs.length) := by rw [← hcs.length, GType.tr_len]; exact isz47
      have HCL : Hid (cs.length = 3) := by rw [← hcs.length, GType.tr_len]; rfl
      clear hcs hc
      have hbe : Tr.bulkL (l[k]).tr ≤ Tr.bulkAll (GType.trs l) := by
        have h1 : k < (GType.trs l).length := by rw [GType.trs_len]; exact hlt
        have h2 := Tr.bulkAll_le h1
        have h3 : (GType.trs l)[k] = (l[k]).tr := by have h4 := GType.trs_get hlt; rw [List.getElem?_eq_getElem h1] at h4; exact Option.some.inj h4
        rwa [h3] at h2
      have hbs : Tr.bulkL (l[k]).tr ≤ 68719476736 := by omega
      clear hbe
      go_wp2_with (first
        | (refine wpList_load_rep rfl 47 (.tmp 14) rfl b (off + k * 3) rfl cs _ Tryz.underlying47 HI.out HC.out ?_)
        | (refine wpList_store_rep rfl 47 (.tmp 5) (.tmp 15) rfl wr.heap.size 0 rfl cs rfl 47 _ (OB.new wr _ _) HI.out (by rw [HCL.out]; exact Nat.le_refl _) HCS.out.one ?_; intro wb hob hgb hzb; rw [splice_whole (by rw [HCL.out]; rfl)] at hob; have HOBV := Lib.hid hob; have HXBV := Lib.hid (grown_ext (.alloc (.refl wr) _) hgb (Nat.le_refl _)); clear hob hgb hzb)
        | (refine wpList_load_rep rfl 47 (.tmp 5) rfl wr.heap.size 0 rfl cs _ Tryz.underlying47 HI.out HOBV.out.cells0 ?_))
      refine (HH.out _ HM.out _ _ (HCS.out.ext HXBV.out) hbs).mono ?_; rintro e w1 ⟨cs1, rfl, hw1, ho1⟩
      have HW1 := Lib.hid (HXBV.out.trans hw1)
      have HO1 := Lib.hid (ho1.mono (S' := Between wr w1) fun x hx => ⟨Nat.le_trans HXBV.out.size hx.1, hx.2⟩)
      have HCL1 : Hid (cs1.length = 3) := ho1.1.trans (GType.tr_len _)
      have HF : Hid (0 + k * 3 + cs1.length ≤ arr.size) := by have h1 := HAS.out; have h2 := HCL1.out; rw [GType.trs_len] at h1; show _ ≤ _; omega
      clear hw1 ho1
      go_wp2_with (refine wpList_store_rep rfl 47 (.tmp 20) (.tmp 19) rfl w.heap.size (k * 3) rfl cs1 rfl 47 arr (HOB.out.ext HW1.out) (by rw [HCL1.out]; exact isz47) (by have := HF.out; omega) (HO1.out.rep.one) ?_; intro w2 hob2 hg2 hz2; have HOB2 := Lib.hid hob2; have HG2 := Lib.hid hg2; have HZ2 := Lib.hid hz2; clear hob2 hg2 hz2)
      go_roundw
      case rel =>
        have hfit : k * 3 + cs1.length ≤ arr.size := by have := HF.out; omega
        refine ⟨k + 1, _, by omega, by go_num, ?_, ?_, HOB2.out, by show _ = _; rw [splice_size hfit]; exact HAS.out, HP.out.step hgt HW1.out (GType.trs_get hlt) HO1.out HCL1.out HAS.out HG2.out HOB2.out⟩
        · exact grown_ext (hw.trans HW1.out) HG2.out (Nat.le_refl _)
        · have := HW1.out.size
          have := HZ2.out
          omega
      case measure => simp [intOf]; omega
    · have hkl : k = (GType.trs l).length := by rw [GType.trs_len]; omega
      go_wp2_with fail
      go_ret
      subst hkl
      have := (HP.out.done HOB.out (GType.sz l) (Nat.le_refl _) (by rw [GType.trs_len]; unfold maxLen; omega) (Nat.le_refl _)).mono (S' := Between w wr) fun x hx => ⟨hx.1, hx.2⟩
      rw [GType.trs_len] at this
      exact ⟨_, rfl, hw, this⟩

set_option maxRecDepth 100000 in
set_option maxHeartbeats 1000000 in
theorem copyType_impl : ∀ x : GType, ToC 111 x.tr := by
  refine GType.ind fun v0 v1 xs ih => ?_; intro cs w hr hbk
  obtain ⟨a, c, rfl, k0, k1, h3⟩ := GType.opened hr
  have hbk2 : xs.length + Tr.bulkAll (GType.trs xs) ≤ 68719476736 := by
    simp only [GType.tr, Tr.bulkL_append, Tr.bulkL, Tr.bulk, GType.trs_len] at hbk
    omega
  have HCC := Lib.hid (copiesType_impl_of xs ih)
  have HS := Lib.hid h3
  have K0 := Lib.hid k0
  have K1 := Lib.hid k1
  have HL : Hid (Tr.bulkAll (GType.trs xs) + (GType.trs xs).length ≤ 68719476736) := by show _ ≤ _; rw [GType.trs_len]; omega
  clear hr h3 ih hbk hbk2 k0 k1
  simp only [List.cons_append, List.nil_append] at *
  go_enter Tryz.func111, Tryz.ntmps111
  go_wp2_with fail
  refine (HCC.out _ _ (HS.out.ext (.alloc (.alloc (.refl _) _) _)) (by have := HL.out; omega)).mono ?_; rintro e w1 ⟨s', rfl, hw1, ho1⟩
  obtain ⟨da, dc, rfl, -, -⟩ := ho1.rep.shape
  rw [GType.trs_len] at *
  have h2w := (Two.new w 47 47 #[.int .i64 v0, .string v1, .slice a xs.length c] #[.int .i64 0, .string ⟨#[]⟩, .slice none 0 0]).ext hw1
  have H2 := Lib.hid h2w
  have HW1 := Lib.hid hw1
  have HO1 := Lib.hid ho1
  have hzz : w.heap.size + 1 < w1.heap.size := h2w.o1.lt
  clear h2w hw1 ho1
  have hone : Hid (∀ v ∈ ([.int .i64 v0, .string v1, .slice da xs.length dc] : List Value), v.oneCell' = true) := by
    intro v hv
    simp only [List.mem_cons, List.not_mem_nil, or_false] at hv
    rcases hv with rfl | rfl | rfl <;> rfl
  go_wp2_with (first
    | (refine wpList_store_cell rfl 45 (.tmp 6) (.tmp 5) rfl w.heap.size 2 rfl (.slice da xs.length dc) rfl rfl 47 _ H2.out.o0 isz45 (by simp) rfl ?_; intro w2 hob hg hz; have HOB := Lib.hid (show OB w2 w.heap.size 47 ⟨[.int .i64 v0, .string v1, .slice da xs.length dc]⟩ from hob); have HR2 := Lib.hid (H2.out.o1.grown hg (by omega)); have HG2 := Lib.hid hg; have hq2 : w1.heap.size = w2.heap.size := hz.symm; clear hob hg hz)
    | (refine wpList_load_rep rfl 47 (.tmp 1) rfl w.heap.size 0 rfl [.int .i64 v0, .string v1, .slice da xs.length dc] _ Tryz.underlying47 isz47 (OB.cells0 HOB.out) ?_)
    | (refine wpList_store_rep rfl 47 (.tmp 2) (.tmp 7) rfl (w.heap.size + 1) 0 rfl [.int .i64 v0, .string v1, .slice da xs.length dc] rfl 47 _ HR2.out isz47 (by simp) hone.out ?_; intro w3 hob hg hz; have HOB3 := Lib.hid (show OB w3 (w.heap.size + 1) 47 ⟨[.int .i64 v0, .string v1, .slice da xs.length dc]⟩ from hob); have HG3 := Lib.hid hg; have hq3 : w2.heap.size = w3.heap.size := hz.symm; clear hob hg hz))
  have hx3 : Ext w w3 := grown_ext (grown_ext (Ext.trans (.alloc (.alloc (.refl _) _) _) HW1.out) HG2.out (by omega)) HG3.out (by omega)
  refine bodyPost_ret (results_cell_row Tryz.results111 _ _ (w.heap.size + 1) 47 ⟨[.int .i64 v0, .string v1, .slice da xs.length dc]⟩ _ _ rfl HOB3.out Tryz.underlying47 rfl isz47) rfl ⟨[.int .i64 v0, .string v1, .slice da xs.length dc], rfl, hx3, ?_⟩
  have ow := HO1.out.keeps (lo := w.heap.size + 1 + 1) (Keeps.trans (Keeps.of_grown HG2.out (by omega)) (Keeps.of_grown HG3.out (by omega))) (by intro x hx; have := hx.1; simp only [World.size_alloc] at this; omega)
  have hall := OwnL.cons_leaf K0.out (OwnL.cons_leaf K1.out (OwnL.one ow))
  exact hall.mono (by intro x hx; have h1 := hx.1; have h2 := hx.2; simp only [World.size_alloc] at h1; exact ⟨by omega, by omega⟩)
end Go.Proofs.YtnakkelglbcecaaGreat

namespace Go.Proofs.YtnakkelglbcecaaGreat
open Go.RowKit

theorem wpAnyH_append_acc {P : Program} {ops : Array Oper} {Q : Exit → Act → World → Prop} {md : Region.Mode} {S0 : World → Prop} {i : Nat} {o : Oper} {fuel : Nat} {listed : Array Bool} {a : Act} {w : World} (hr : Region.ready md ops listed = [i]) (ho0 : ops[i]? = some o) (hgd : o.guard = none) (s x : Operand) (t : TypeId)
    (ho : o.op = .call { callee := .builtin .append, args := #[s, x], argTypes := #[t, t] }) (E : TypeId) (sz bytes : Nat) (ht : P.underlying t = some (.slice E))
    (hi : (P.info? E).map (fun i => (i.zero.map (fun z => z.cells.size), i.size, i.bytes)) = some (some sz, sz, bytes)) (hsz : 0 < sz) (hby : bytes ≤ 100)
    (base : Nat) (es : List (List Tr)) (n : Nat) (hn : es.length = n) (v : Value) (S : Nat → Prop) (hs : a.eval s = v) (hacc : Acc E base sz w es v S)
    (e : List Tr) (cs : List Value) (T : Nat → Prop) (he : e.length = sz) (ho2 : OwnL w e cs T) (hST : ∀ x, S x → T x → False) (hT : ∀ x, T x → base ≤ x ∧ x < w.heap.size) (hTv : ∀ x, v.ownBlock = some x → ¬ T x)
    (B c : Nat) (E2 : TypeId) (hx : a.eval x = .slice (some ⟨B, 0, none⟩) 1 c) (hB : OB w B E2 ⟨cs⟩) (hlen : n ≤ 1099511627776) (hbase : base ≤ w.heap.size)
    (h : ∀ g cap w', Acc E base sz w' (es ++ [e]) (.slice (some ⟨g, 0, none⟩) (n + 1) cap) (fun x => S x ∨ T x ∨ x = g) → w.grownBy w' v.ownBlock → (v.ownBlock = some g ∨ g = w.heap.size) → g < w'.heap.size →
      S0 w' ∧ wpAnyH P md ops Q S0 fuel (listed.setIfInBounds i true) (a.put o.dst (.slice (some ⟨g, 0, none⟩) (n + 1) cap)) w') : wpAnyH P md ops Q S0 (fuel + 1) listed a w := by
  subst hn
  obtain ⟨xs, hxs⟩ := hacc.owns
  refine wpAnyH_all hr (by simp) fun j hj => ?_
  obtain rfl : j = i := by simpa using hj
  have hw : Region.wanted o (yielded ops a.tmps) = true := by simp [Region.wanted, hgd]
  unfold wpOp
  simp only [ho0]
  rw [if_pos hw]
  refine .inl ?_
  cases hq : P.info? E with
  | none => simp [hq] at hi
  | some i =>
    simp only [hq, Option.map_some, Option.some.injEq, Prod.mk.injEq] at hi
    obtain ⟨h1, h2, h3⟩ := hi
    cases hz : i.zero with
    | none => simp [hz] at h1
    | some z =>
      simp only [hz, Option.map_some, Option.some.injEq] at h1
      have hcl : cs.length = sz := by rw [ho2.1, he]
      have hbb : (es.length + 1) * bytes ≤ 1099511627777 * 100 := Nat.mul_le_mul (by omega) hby
      refine wp_append_lies w s x t ho base E i z sz bytes ht hq hz h2 h3 h1 hsz v es.length xs hs hxs ⟨B, 0, none⟩ 1 c cs hx (by omega) ?_ (ho2.rep.one) (by omega) (by unfold maxLen; omega) (by omega) hbase _ rfl ?_
      · intro j u hu
        exact World.news_of_block hB j u (by simpa using hu)
      · intro g cap w' k1 k2 k3 k4
        exact h g cap w' (hacc.snoc hxs he ho2 hST hT hTv k1 k2 k3 hbase) k2 k3 k4
end Go.Proofs.YtnakkelglbcecaaGreat

namespace Go.Proofs.YtnakkelglbcecaaGreat
set_option linter.unusedSimpArgs false
set_option linter.unusedVariables false
open Go.RowKit Go.WalkArith Go.IntWalk Go.WideShapes

theorem ev_keepRow {st : Sto} {m : Lay} {w w' : World} {row : PRow} {o : Option (Nat × Nat)} (hx : Ext w w') (hf : ∀ g c, o = some (g, c) → w.heap.size ≤ g) : Ev st m w (st.addRow row) ⟨m.ρ, upd m.γ st.rows.length o⟩ w' := by
  refine ⟨hx.os, hx.tape, hx.output, hx.size, fun b hb _ _ => hx.block b hb, fun b o hb _ => heap_other_cell (hx.block b hb), fun b o hb h => ⟨h.1, fun i row' g c' hi hg e => ?_⟩, fun _ x h => ⟨⟨x, h⟩, rfl⟩, fun _ x h => .inl ⟨x, h⟩, fun i row' hi => ⟨row', ?_, rfl, Nat.le_refl _, fun _ => ?_, fun hw => ⟨hw, ?_⟩⟩, fun i row' g c' hi hg => ?_⟩
  · rcases getElem?_snoc hi with ⟨h1, h2⟩ | ⟨rfl, rfl⟩
    · simp only [upd_ne (show i ≠ st.rows.length by omega)] at hg
      exact h.2 i row' g c' h2 hg e
    · simp only [upd_same] at hg
      have := hf _ _ hg
      omega
  · show (st.rows ++ [row])[i]? = _
    rw [List.getElem?_append_left (get_lt hi)]; exact hi
  · exact upd_ne (by have := get_lt hi; omega)
  · exact upd_ne (by have := get_lt hi; omega)
  · rcases getElem?_snoc hi with ⟨h1, h2⟩ | ⟨rfl, rfl⟩
    · simp only [upd_ne (show i ≠ st.rows.length by omega)] at hg
      exact .inl ⟨row', c', h2, hg⟩
    · simp only [upd_same] at hg
      exact .inr (hf _ _ hg)
theorem sto_keepRow {av : Nat → Nat → Prop} {st : Sto} {m : Lay} {w w' : World} {row : PRow} {o : Option (Nat × Nat)} (h : StoOk av st m w) (hx : Ext w w') (hf : ∀ g c, o = some (g, c) → w.heap.size ≤ g)
    (hr : RowOk (okA av (st.addRow row) ⟨m.ρ, upd m.γ st.rows.length o⟩) ⟨m.ρ, upd m.γ st.rows.length o⟩ w' st.rows.length row) : StoOk av (st.addRow row) ⟨m.ρ, upd m.γ st.rows.length o⟩ w' := by
  have ev : Ev st m w (st.addRow row) ⟨m.ρ, upd m.γ st.rows.length o⟩ w' := ev_keepRow hx hf
  have key : ∀ i row' g c', (st.addRow row).rows[i]? = some row' → upd m.γ st.rows.length o i = some (g, c') → (i < st.rows.length ∧ st.rows[i]? = some row' ∧ m.γ i = some (g, c')) ∨ (i = st.rows.length ∧ w.heap.size ≤ g) := fun i row' g c' hi hg => by
    rcases getElem?_snoc hi with ⟨h1, h2⟩ | ⟨rfl, rfl⟩
    · rw [upd_ne (show i ≠ st.rows.length by omega)] at hg
      exact .inl ⟨h1, h2, hg⟩
    · simp only [upd_same] at hg
      exact .inr ⟨rfl, hf _ _ hg⟩
  refine ⟨fun k x hk => ?_, h.binj, fun i row' hi => ?_, fun i i' row' row'' g c' c'' hi hi' hg hg' => ?_, fun k x i row' g c' hk hi hg => ?_, fun b o hb => Nat.lt_of_lt_of_le (h.avlt b o hb) hx.size, fun i row' g c' hi hg o => ?_⟩
  · obtain ⟨vs, k1, k2⟩ := h.box k x hk
    exact ⟨vs, k1.ext hx, RVL.mono ev _ _ k2⟩
  · rcases getElem?_snoc hi with ⟨h1, h2⟩ | ⟨rfl, rfl⟩
    · obtain ⟨k1, k2, k3⟩ := h.row i row' h2
      refine ⟨k1, k2, ?_⟩
      simp only [upd_ne (show i ≠ st.rows.length by omega)]
      rcases k3 with k3 | ⟨g, c', cur', q1, q2, q3, q4, q5, q6⟩
      · exact .inl k3
      · exact .inr ⟨g, c', cur', q1, q2.ext hx, q3, q4, q5, RV.mono ev (.t _) _ q6⟩
    · exact hr
  · rcases key i row' g c' hi hg with ⟨h0, h1, h2⟩ | ⟨h1, h2⟩ <;> rcases key i' row'' g c'' hi' hg' with ⟨h0', h1', h2'⟩ | ⟨h1', h2'⟩
    · exact h.rinj i i' row' row'' g c' c'' h1 h1' h2 h2'
    · have := h.row_lt h1 h2; omega
    · have := h.row_lt h1' h2'; omega
    · omega
  · rcases key i row' g c' hi hg with ⟨h0, h1, h2⟩ | ⟨h1, h2⟩
    · exact h.br k x i row' g c' hk h1 h2
    · have := h.box_lt hk
      show m.ρ k ≠ g
      omega
  · rcases key i row' g c' hi hg with ⟨h0, h1, h2⟩ | ⟨h1, h2⟩
    · exact h.avr i row' g c' h1 h2 o
    · intro ha
      have := h.avlt _ _ ha
      omega

def rowRes (sz : Nat) (es : List (List Tr)) : Option (List PV) → Nat → PV
  | none, k => .acc sz es k
  | some ps, k => .tup (.acc sz es k :: ps)
/-- The function is handed data, and returns a slice of its own making (and data beside it). -/
def ARow (P : Program) (f : FuncId) (args : List PV) (E : TypeId) (sz : Nat) (es : List (List Tr)) (ps : Option (List PV)) : Prop :=
  ACalls P f args ⟨[], []⟩ (fun r st' => ∃ k, r = rowRes sz es ps k ∧ st'.rows[k]? = some ⟨E, sz, es, false⟩)

section
variable {P : Program} {C : Ctx} {n : Nat} {s : AS} {o : Oper}
theorem AOp.callRow {f : FuncId} {fn : Func} {xs : List Operand} {ts : Array TypeId} {ps qs : List PV} {E : TypeId} {sz : Nat} {es : List (List Tr)} {rs : Option (List PV)} (ho : o.op = .call { callee := .value (.func f), args := ⟨xs⟩, argTypes := ts }) (hd : dstOk o.dst n = true) (hf : P.funcs[f]? = some fn) (hnm : (fn.name == "runtime.NumGoroutine") = false) (hb : fn.body.isNone = false)
    (hx : xs.map s.ev = ps.map some) (hle : LeL ps qs) (hfr : freeL qs = true) (hfr' : freeL (rs.getD []) = true) (hc : ARow P f qs E sz es rs) : AOp P C n o s ((⟨s.env, s.st.addRow ⟨E, sz, es, false⟩⟩ : AS).putO o.dst (rowRes sz es rs s.st.rows.length)) := fun m a w h K Q hK => by
  have h2 := evL h hx
  have h1 : (execOp a.eval o).run P w = .ok (.enter f ⟨xs.map a.eval⟩) w := by
    have hcf := run_callFunc_body (P := P) hf hnm hb
    unfold execOp
    simp only [ho]
    simp [resolve, invoke, Deferred.ofValue, Act.eval, hcf]
  unfold Oper.wp
  rw [h1]
  have h3 := hc (shut C s m w) m w _ (StoOk.nil fun b o hb => hb.1) (freeL.rv (fun b o hb hk => ⟨fun hs => hs.2 hk, fun _ _ h => by simp at h, fun _ _ _ _ h => by simp at h⟩) _ _ hfr (LeL.rv hle h2))
  refine Calls.mono h3 fun e w' => ?_; rintro ⟨r, st', m', v, rfl, ⟨k, rfl, hrow⟩, h4, h5, h6⟩
  have hx : Ext w w' := ⟨h5.os, h5.tape, h5.output, h5.size, fun b hb => h5.blk b hb (fun _ _ h => by simp at h) (fun _ _ _ _ h => by simp at h)⟩
  have hfresh : ∀ g c, m'.γ k = some (g, c) → w.heap.size ≤ g := fun g c hg => by
    rcases h5.rfresh k _ g c hrow hg with ⟨row, c0, hr, _⟩ | hf
    · simp at hr
    · exact hf
  obtain ⟨q1, q2, q3⟩ := h4.row k _ hrow
  have hk : ∀ b o, b < w'.heap.size → okA (shut C s m w) st' m' b o → okA C.av (s.st.addRow ⟨E, sz, es, false⟩) ⟨m.ρ, upd m.γ s.st.rows.length (m'.γ k)⟩ b o := fun b o hb hk => by
    have h0 : okA C.av s.st m b o := by
      rcases Nat.lt_or_ge b w.heap.size with hlt | hge
      · exact Classical.byContradiction fun hn => hk.1 ⟨hlt, hn⟩
      · exact okA_new h.sto hge o
    refine ⟨h0.1, h0.2.1, fun i row' g c hi hg e => ?_⟩
    rcases getElem?_snoc hi with ⟨q1, q2⟩ | ⟨rfl, rfl⟩
    · simp only [upd_ne (show i ≠ s.st.rows.length by omega)] at hg
      exact h0.2.2 i row' g c q2 hg e
    · simp only [upd_same] at hg
      exact hk.2.2 k _ g c hrow hg e
  have hE : Ev s.st m w (s.st.addRow ⟨E, sz, es, false⟩) ⟨m.ρ, upd m.γ s.st.rows.length (m'.γ k)⟩ w' := ev_keepRow hx hfresh
  have hS : StoOk C.av (s.st.addRow ⟨E, sz, es, false⟩) ⟨m.ρ, upd m.γ s.st.rows.length (m'.γ k)⟩ w' := sto_keepRow h.sto hx hfresh ⟨q1, q2, by
    rcases q3 with ⟨a, b⟩ | ⟨g, c, cur, r1, r2, r3, r4, r5, r6⟩
    · exact .inl ⟨by simp only [upd_same]; exact a, b⟩
    · exact .inr ⟨g, c, cur, by simp only [upd_same]; exact r1, r2, r3, r4, r5, RepM.mono r6 (Nat.le_refl _) hk (fun _ _ _ _ => rfl)⟩⟩
  have hacc : ∀ u, RV (okA (shut C s m w) st' m') st' m' w' (.acc sz es k) u → RV (okA C.av (s.st.addRow ⟨E, sz, es, false⟩) ⟨m.ρ, upd m.γ s.st.rows.length (m'.γ k)⟩) (s.st.addRow ⟨E, sz, es, false⟩) ⟨m.ρ, upd m.γ s.st.rows.length (m'.γ k)⟩ w' (.acc sz es s.st.rows.length) u := by
    rintro u ⟨row, hr, h7, h8, h9, h10⟩
    rw [hrow] at hr
    obtain rfl := Option.some.inj hr
    exact ⟨⟨E, sz, es, false⟩, by simp [Sto.addRow], rfl, Nat.le_refl _, RepM.mono h9 (Nat.le_refl _) hk (fun _ _ _ _ => rfl), fun _ => by simp only [upd_same]; exact h10 rfl⟩
  refine hK _ _ w' ((h.step hE hS).put (dstOk_lt hd) ?_)
  cases rs with
  | none => exact hacc v h6
  | some rs =>
    obtain ⟨vs, rfl, hl⟩ := h6
    match vs, hl with
    | u :: us, hl => exact ⟨_, rfl, hacc u hl.1, freeL.rv hk _ _ hfr' hl.2⟩
end

theorem ARow.ofNil {P : Program} {f : FuncId} {l1 l2 : List PV} {E sz : Nat} {es : List (List Tr)} (hsz : 0 < sz) (h : ACalls P f (l1 ++ .acc sz [] 0 :: l2) ⟨[], [⟨E, sz, [], false⟩]⟩ (fun r st' => r = .acc sz es 0 ∧ st' = ⟨[], [⟨E, sz, es, false⟩]⟩)) : ARow P f (l1 ++ .nil :: l2) E sz es none := fun av m w vals hst hv => by
  have hE := ev_addRow (row := ⟨E, sz, [], false⟩) hst
  have hS := sto_addRow (row := ⟨E, sz, [], false⟩) hst hsz rfl
  have hargs : RVL (okA av (Sto.addRow ⟨[], []⟩ ⟨E, sz, [], false⟩) ⟨m.ρ, upd m.γ 0 none⟩) (Sto.addRow ⟨[], []⟩ ⟨E, sz, [], false⟩) ⟨m.ρ, upd m.γ 0 none⟩ w (l1 ++ .acc sz [] 0 :: l2) vals := by
    have h0 := RVL.mono hE _ _ hv
    have key : ∀ (l : List PV) (vs : List Value), RVL (okA av (Sto.addRow ⟨[], []⟩ ⟨E, sz, [], false⟩) ⟨m.ρ, upd m.γ 0 none⟩) (Sto.addRow ⟨[], []⟩ ⟨E, sz, [], false⟩) ⟨m.ρ, upd m.γ 0 none⟩ w (l ++ .nil :: l2) vs →
        RVL (okA av (Sto.addRow ⟨[], []⟩ ⟨E, sz, [], false⟩) ⟨m.ρ, upd m.γ 0 none⟩) (Sto.addRow ⟨[], []⟩ ⟨E, sz, [], false⟩) ⟨m.ρ, upd m.γ 0 none⟩ w (l ++ .acc sz [] 0 :: l2) vs := by
      intro l
      induction l with
      | nil =>
        intro vs hh
        match vs, hh with
        | v :: vs, hh =>
          refine ⟨?_, hh.2⟩
          obtain rfl := (show v = _ from hh.1)
          exact ⟨⟨E, sz, [], false⟩, rfl, rfl, Nat.le_refl _, RepM.row (es := []) (fun _ _ => undef) (by simp) (by unfold maxLen; omega) (by simp) (by simp), fun _ => by simp [upd, rowVal]⟩
        | [], hh => exact hh.elim
      | cons p l ih =>
        intro vs hh
        match vs, hh with
        | v :: vs, hh => exact ⟨hh.1, ih vs hh.2⟩
        | [], hh => exact hh.elim
    exact key l1 vals h0
  refine (h av _ w vals hS hargs).mono fun e w' => ?_; rintro ⟨r, st', m', v, k1, ⟨rfl, rfl⟩, k3, k4, k5⟩
  exact ⟨_, _, m', v, k1, ⟨0, rfl, rfl⟩, k3, hE.trans k4, k5⟩

theorem Own.ofAcc {av : Nat → Nat → Prop} {st : Sto} {m : Lay} {w : World} {k E sz : Nat} {es : List (List Tr)} {v : Value} {S : Nat → Prop} (hst : StoOk av st m w) (hrow : st.rows[k]? = some ⟨E, sz, es, false⟩) (hv : RV (okA av st m) st m w (.acc sz es k) v)
    (hS : ∀ g c, m.γ k = some (g, c) → g < w.heap.size → S g) (hfl : ∀ e ∈ es, ∀ d ∈ e, ∃ u, d = .leaf u) : Own w (.row sz es) v S := by
  obtain ⟨q1, q2, q3⟩ := hst.row k _ hrow
  obtain ⟨row, hr, -, hle, hrep, heq⟩ := hv
  rw [hrow] at hr
  obtain rfl := Option.some.inj hr
  have hv := heq rfl
  rcases q3 with ⟨a, b⟩ | ⟨g, c, cur, r1, r2, r3, r4, r5, r6⟩
  · rw [a] at hv
    have b : es = [] := b
    subst b
    subst hv
    exact Own.row (es := []) (fun _ _ => undef) (fun _ _ _ => False) (by simp) (by unfold maxLen; omega) (by simp) (by simp) (by simp) (by simp)
  · rw [r1] at hv
    subst hv
    have r6 : RepM (okA av st m) w (.row sz es) (.slice (some ⟨g, 0, none⟩) es.length c) := r6
    show Own w (.row sz es) (.slice (some ⟨g, 0, none⟩) es.length c) S
    cases r6 with
    | row cc h1 h2 h3 h4 =>
      refine .row cc (fun _ _ _ => False) h1 h2 (fun hne => ?_) (fun i e he j d hd => ?_) (fun _ _ _ _ _ _ x hx => hx.elim) (fun _ _ _ _ _ _ _ _ _ _ _ _ _ x hx => hx.elim)
      · obtain ⟨b, off, ha, hb, hc⟩ := h3 hne
        obtain ⟨rfl, rfl⟩ : g = b ∧ 0 = off := by simpa using ha
        exact ⟨g, 0, E, cur, rfl, r2, hS g c r1 hb, fun i e he j d hd => ⟨by rw [← r2.cell]; exact (hc i e he j d hd).2, fun x hx => hx.elim⟩⟩
      · obtain ⟨u, rfl⟩ := hfl e (List.mem_of_getElem? he) d (List.mem_of_getElem? hd)
        have h7 := (h4 i e he j _ hd).rep.leaf_eq
        rw [h7.1]
        exact .leaf h7.2
theorem ARow.own {P : Program} {f : FuncId} {args : List PV} {E sz : Nat} {es : List (List Tr)} (h : ARow P f args E sz es none) (hfl : ∀ e ∈ es, ∀ d ∈ e, ∃ u, d = .leaf u) {w : World} {vals : List Value} (hv : RVL0 w args vals) :
    Calls P f ⟨vals⟩ w fun e w' => ∃ v, e = .returned v ∧ Ext w w' ∧ Own w' (.row sz es) v (Between w w') :=
  (h av0 lay0 w vals (sto0 w) hv).mono fun e w' => by
    rintro ⟨res, st', m', v, rfl, ⟨k, rfl, hrow⟩, hst, he, hr⟩
    exact ⟨v, rfl, he.ext, Own.ofAcc hst hrow hr (fun g c hg hlt => by
      rcases he.rfresh k _ g c hrow hg with ⟨row, c0, h0, _⟩ | hf
      · simp at h0
      · exact ⟨hf, hlt⟩) hfl⟩
theorem ARow.own2 {P : Program} {f : FuncId} {args : List PV} {E sz : Nat} {es : List (List Tr)} {d : Value} (h : ARow P f args E sz es (some [.t (.leaf d)])) (hfl : ∀ e ∈ es, ∀ d ∈ e, ∃ u, d = .leaf u) {w : World} {vals : List Value} (hv : RVL0 w args vals) :
    Calls P f ⟨vals⟩ w fun e w' => ∃ v, e = .returned (.tuple #[v, d]) ∧ Ext w w' ∧ Own w' (.row sz es) v (Between w w') :=
  (h av0 lay0 w vals (sto0 w) hv).mono fun e w' => by
    rintro ⟨res, st', m', v, rfl, ⟨k, rfl, hrow⟩, hst, he, vs, rfl, hr⟩
    match vs, hr with
    | [u, x], hr =>
      obtain ⟨rfl, -⟩ := (RepM.rep (show RepM _ _ (.leaf d) x from hr.2.1)).leaf_eq
      exact ⟨u, rfl, he.ext, Own.ofAcc hst hrow hr.1 (fun g c hg hlt => by
        rcases he.rfresh k _ g c hrow hg with ⟨row, c0, h0, _⟩ | hf
        · simp at h0
        · exact ⟨hf, hlt⟩) hfl⟩
theorem strTrs_flat (l : List ByteArray) : ∀ e ∈ strTrs l, ∀ d ∈ e, ∃ u, d = .leaf u := by
  intro e he d hd
  unfold strTrs at he
  simp only [List.mem_map] at he
  obtain ⟨x, _, rfl⟩ := he
  simp only [List.mem_singleton] at hd
  exact ⟨_, hd⟩
theorem intTrs_flat (l : List Int) : ∀ e ∈ intTrs l, ∀ d ∈ e, ∃ u, d = .leaf u := by
  intro e he d hd
  unfold intTrs at he
  simp only [List.mem_map] at he
  obtain ⟨x, _, rfl⟩ := he
  simp only [List.mem_singleton] at hd
  exact ⟨_, hd⟩
end Go.Proofs.YtnakkelglbcecaaGreat

namespace Go.Proofs.YtnakkelglbcecaaGreat
open Go.RowKit
theorem AFun.plainR {P : Program} {f : FuncId} {args : List PV} {t : Tr} (h : AFun P f args (.t t)) {w : World} {vals : List Value} (hv : RVL0 w args vals) : Calls P f ⟨vals⟩ w fun e w' => ∃ u, e = .returned u ∧ Ext w w' ∧ Rep w' t u :=
  (h av0 lay0 w vals (sto0 w) hv).mono fun e w' => by
    rintro ⟨res, st', m', v, rfl, ⟨rfl, rfl⟩, -, he, hr⟩
    exact ⟨v, rfl, he.ext, RepM.rep hr⟩
theorem RVL0.nil {w : World} : RVL0 w [] [] := trivial
theorem RVL0.cons {w : World} {p : PV} {ps : List PV} {v : Value} {vs : List Value} (h : RV0 w p v) (k : RVL0 w ps vs) : RVL0 w (p :: ps) (v :: vs) := ⟨h, k⟩
end Go.Proofs.YtnakkelglbcecaaGreat

namespace Go.Proofs.YtnakkelglbcecaaGreat
theorem Tr.bulkL_cat : ∀ (a b : List Tr), Tr.bulkL (a ++ b) = Tr.bulkL a + Tr.bulkL b
  | [], b => by simp [Tr.bulkL]
  | t :: a, b => by simp [Tr.bulkL, Tr.bulkL_cat a b, Nat.add_assoc]
theorem cnts_of : ∀ {es : List (List Tr)}, (∀ e ∈ es, Tr.cntL e ≤ 20 + 20 * Tr.bulkL e) → Tr.cntE es ≤ 20 * es.length + 20 * Tr.bulkAll es
  | [], _ => by simp [Tr.cntE]
  | e :: r, h => by
    have h1 := cnts_of (es := r) (fun x hx => h x (List.mem_cons_of_mem _ hx))
    have h2 := h e (by simp)
    simp only [Tr.cntE, Tr.bulkAll, List.length_cons]
    omega
theorem strCnt (l : List ByteArray) : Tr.cntE (strTrs l) = l.length := by
  induction l with
  | nil => rfl
  | cons a l ih => simp only [strTrs, List.map_cons, Tr.cntE, Tr.cntL, Tr.cnt, List.length_cons] at *; omega
theorem intCnt (l : List Int) : Tr.cntE (intTrs l) = l.length := by
  induction l with
  | nil => rfl
  | cons a l ih => simp only [intTrs, List.map_cons, Tr.cntE, Tr.cntL, Tr.cnt, List.length_cons] at *; omega
theorem Tr.topN_cnt : ∀ ts : List Tr, Tr.topN ts ≤ Tr.cntL ts
  | [] => by simp [Tr.topN]
  | .leaf v :: r => by have := Tr.topN_cnt r; simp only [Tr.topN, Tr.cntL, Tr.cnt]; omega
  | .row sz es :: r => by have := Tr.topN_cnt r; simp only [Tr.topN, Tr.cntL, Tr.cnt]; omega
theorem GType.cnt_le : ∀ x : GType, Tr.cntL x.tr ≤ 3 + 20 * Tr.bulkL x.tr := by
  refine GType.ind fun v0 v1 v2 ih => ?_
  have c2 : Tr.cntE (GType.trs v2) ≤ 20 * v2.length + 20 * Tr.bulkAll (GType.trs v2) := by have h := cnts_of (GType.all (l := v2) (Q := fun e => Tr.cntL e ≤ 20 + 20 * Tr.bulkL e) (fun x hx => by have := ih x hx; omega)); rw [GType.trs_len] at h; exact h
  have d2 := GType.trs_len v2
  simp only [GType.tr, Tr.cntL_append, Tr.bulkL_cat, Tr.cntL, Tr.cnt, Tr.bulkL, Tr.bulk]
  omega
theorem GType.cnts_le (l : List GType) : Tr.cntE (GType.trs l) ≤ 20 * l.length + 20 * Tr.bulkAll (GType.trs l) := by
  have h := cnts_of (GType.all (l := l) (Q := fun e => Tr.cntL e ≤ 20 + 20 * Tr.bulkL e) (fun x _ => by have := GType.cnt_le x; omega))
  rw [GType.trs_len] at h
  exact h
theorem GArm.cnt_of (x : GArm) (h : Tr.cntL x.gBody.tr ≤ 9 + 20 * Tr.bulkL x.gBody.tr) : Tr.cntL x.tr ≤ 11 + 20 * Tr.bulkL x.tr := by
  obtain ⟨v0, v1, v2⟩ := x
  have h : Tr.cntL v2.tr ≤ 9 + 20 * Tr.bulkL v2.tr := h
  have c1 := strCnt v1
  have d1 := strTrs_len v1
  simp only [GArm.tr, Tr.cntL_append, Tr.bulkL_cat, Tr.cntL, Tr.cnt, Tr.bulkL, Tr.bulk]
  omega
theorem GExpr.cnt_le : ∀ x : GExpr, Tr.cntL x.tr ≤ 9 + 20 * Tr.bulkL x.tr := by
  refine GExpr.ind fun v0 v1 v2 v3 v4 v5 v6 ih5 ih6 => ?_
  have c4 := GType.cnt_le v4
  have c5 : Tr.cntE (GExpr.trs v5) ≤ 20 * v5.length + 20 * Tr.bulkAll (GExpr.trs v5) := by have h := cnts_of (GExpr.all (l := v5) (Q := fun e => Tr.cntL e ≤ 20 + 20 * Tr.bulkL e) (fun x hx => by have := ih5 x hx; omega)); rw [GExpr.trs_len] at h; exact h
  have c6 : Tr.cntE (GArm.trs v6) ≤ 20 * v6.length + 20 * Tr.bulkAll (GArm.trs v6) := by have h := cnts_of (GArm.all (l := v6) (Q := fun e => Tr.cntL e ≤ 20 + 20 * Tr.bulkL e) (fun x hx => by have := GArm.cnt_of x (ih6 x hx); omega)); rw [GArm.trs_len] at h; exact h
  have d5 := GExpr.trs_len v5
  have d6 := GArm.trs_len v6
  simp only [GExpr.tr, Tr.cntL_append, Tr.bulkL_cat, Tr.cntL, Tr.cnt, Tr.bulkL, Tr.bulk]
  omega
theorem GBound.cnt_le (x : GBound) : Tr.cntL x.tr ≤ 4 + 20 * Tr.bulkL x.tr := by
  obtain ⟨v0, v1⟩ := x
  have c1 := GType.cnt_le v1
  simp only [GBound.tr, Tr.cntL_append, Tr.bulkL_cat, Tr.cntL, Tr.cnt, Tr.bulkL, Tr.bulk]
  omega
theorem GBound.cnts_le (l : List GBound) : Tr.cntE (GBound.trs l) ≤ 20 * l.length + 20 * Tr.bulkAll (GBound.trs l) := by
  have h := cnts_of (GBound.all (l := l) (Q := fun e => Tr.cntL e ≤ 20 + 20 * Tr.bulkL e) (fun x _ => by have := GBound.cnt_le x; omega))
  rw [GBound.trs_len] at h
  exact h
theorem GParam.cnt_le (x : GParam) : Tr.cntL x.tr ≤ 4 + 20 * Tr.bulkL x.tr := by
  obtain ⟨v0, v1⟩ := x
  have c1 := GType.cnt_le v1
  simp only [GParam.tr, Tr.cntL_append, Tr.bulkL_cat, Tr.cntL, Tr.cnt, Tr.bulkL, Tr.bulk]
  omega
theorem GParam.cnts_le (l : List GParam) : Tr.cntE (GParam.trs l) ≤ 20 * l.length + 20 * Tr.bulkAll (GParam.trs l) := by
  have h := cnts_of (GParam.all (l := l) (Q := fun e => Tr.cntL e ≤ 20 + 20 * Tr.bulkL e) (fun x _ => by have := GParam.cnt_le x; omega))
  rw [GParam.trs_len] at h
  exact h
theorem GMethod.cnt_le (x : GMethod) : Tr.cntL x.tr ≤ 11 + 20 * Tr.bulkL x.tr := by
  obtain ⟨v0, v1, v2⟩ := x
  have c1 := strCnt v1
  have d1 := strTrs_len v1
  have c2 := GExpr.cnt_le v2
  simp only [GMethod.tr, Tr.cntL_append, Tr.bulkL_cat, Tr.cntL, Tr.cnt, Tr.bulkL, Tr.bulk]
  omega
theorem GMethod.cnts_le (l : List GMethod) : Tr.cntE (GMethod.trs l) ≤ 20 * l.length + 20 * Tr.bulkAll (GMethod.trs l) := by
  have h := cnts_of (GMethod.all (l := l) (Q := fun e => Tr.cntL e ≤ 20 + 20 * Tr.bulkL e) (fun x _ => by have := GMethod.cnt_le x; omega))
  rw [GMethod.trs_len] at h
  exact h
theorem GConstructor.cnt_le (x : GConstructor) : Tr.cntL x.tr ≤ 2 + 20 * Tr.bulkL x.tr := by
  obtain ⟨v0, v1⟩ := x
  have c1 := GType.cnts_le v1
  have d1 := GType.trs_len v1
  simp only [GConstructor.tr, Tr.cntL_append, Tr.bulkL_cat, Tr.cntL, Tr.cnt, Tr.bulkL, Tr.bulk]
  omega
theorem GConstructor.cnts_le (l : List GConstructor) : Tr.cntE (GConstructor.trs l) ≤ 20 * l.length + 20 * Tr.bulkAll (GConstructor.trs l) := by
  have h := cnts_of (GConstructor.all (l := l) (Q := fun e => Tr.cntL e ≤ 20 + 20 * Tr.bulkL e) (fun x _ => by have := GConstructor.cnt_le x; omega))
  rw [GConstructor.trs_len] at h
  exact h
theorem GSignature.cnt_le (x : GSignature) : Tr.cntL x.tr ≤ 16 + 20 * Tr.bulkL x.tr := by
  obtain ⟨v0, v1, v2, v3, v4, v5⟩ := x
  have c1 := GType.cnts_le v1
  have d1 := GType.trs_len v1
  have c2 := GType.cnt_le v2
  have c4 := strCnt v4
  have d4 := strTrs_len v4
  have c5 := GExpr.cnt_le v5
  simp only [GSignature.tr, Tr.cntL_append, Tr.bulkL_cat, Tr.cntL, Tr.cnt, Tr.bulkL, Tr.bulk]
  omega
theorem GSignature.cnts_le (l : List GSignature) : Tr.cntE (GSignature.trs l) ≤ 20 * l.length + 20 * Tr.bulkAll (GSignature.trs l) := by
  have h := cnts_of (GSignature.all (l := l) (Q := fun e => Tr.cntL e ≤ 20 + 20 * Tr.bulkL e) (fun x _ => by have := GSignature.cnt_le x; omega))
  rw [GSignature.trs_len] at h
  exact h
theorem GTrait.cnt_le (x : GTrait) : Tr.cntL x.tr ≤ 5 + 20 * Tr.bulkL x.tr := by
  obtain ⟨v0, v1, v2, v3, v4⟩ := x
  have c1 := strCnt v1
  have d1 := strTrs_len v1
  have c4 := GSignature.cnts_le v4
  have d4 := GSignature.trs_len v4
  simp only [GTrait.tr, Tr.cntL_append, Tr.bulkL_cat, Tr.cntL, Tr.cnt, Tr.bulkL, Tr.bulk]
  omega
theorem GTrait.cnts_le (l : List GTrait) : Tr.cntE (GTrait.trs l) ≤ 20 * l.length + 20 * Tr.bulkAll (GTrait.trs l) := by
  have h := cnts_of (GTrait.all (l := l) (Q := fun e => Tr.cntL e ≤ 20 + 20 * Tr.bulkL e) (fun x _ => by have := GTrait.cnt_le x; omega))
  rw [GTrait.trs_len] at h
  exact h
theorem GDataType.cnt_le (x : GDataType) : Tr.cntL x.tr ≤ 3 + 20 * Tr.bulkL x.tr := by
  obtain ⟨v0, v1, v2⟩ := x
  have c1 := strCnt v1
  have d1 := strTrs_len v1
  have c2 := GConstructor.cnts_le v2
  have d2 := GConstructor.trs_len v2
  simp only [GDataType.tr, Tr.cntL_append, Tr.bulkL_cat, Tr.cntL, Tr.cnt, Tr.bulkL, Tr.bulk]
  omega
theorem GDataType.cnts_le (l : List GDataType) : Tr.cntE (GDataType.trs l) ≤ 20 * l.length + 20 * Tr.bulkAll (GDataType.trs l) := by
  have h := cnts_of (GDataType.all (l := l) (Q := fun e => Tr.cntL e ≤ 20 + 20 * Tr.bulkL e) (fun x _ => by have := GDataType.cnt_le x; omega))
  rw [GDataType.trs_len] at h
  exact h
theorem GInstance.cnt_le (x : GInstance) : Tr.cntL x.tr ≤ 12 + 20 * Tr.bulkL x.tr := by
  obtain ⟨v0, v1, v2, v3, v4, v5, v6, v7⟩ := x
  have c1 := strCnt v1
  have d1 := strTrs_len v1
  have c2 := GType.cnt_le v2
  have c3 := GBound.cnts_le v3
  have d3 := GBound.trs_len v3
  have c6 := GType.cnt_le v6
  have c7 := GMethod.cnts_le v7
  have d7 := GMethod.trs_len v7
  simp only [GInstance.tr, Tr.cntL_append, Tr.bulkL_cat, Tr.cntL, Tr.cnt, Tr.bulkL, Tr.bulk]
  omega
theorem GInstance.cnts_le (l : List GInstance) : Tr.cntE (GInstance.trs l) ≤ 20 * l.length + 20 * Tr.bulkAll (GInstance.trs l) := by
  have h := cnts_of (GInstance.all (l := l) (Q := fun e => Tr.cntL e ≤ 20 + 20 * Tr.bulkL e) (fun x _ => by have := GInstance.cnt_le x; omega))
  rw [GInstance.trs_len] at h
  exact h
theorem GFunction.cnt_le (x : GFunction) : Tr.cntL x.tr ≤ 16 + 20 * Tr.bulkL x.tr := by
  obtain ⟨v0, v1, v2, v3, v4, v5⟩ := x
  have c1 := strCnt v1
  have d1 := strTrs_len v1
  have c2 := GBound.cnts_le v2
  have d2 := GBound.trs_len v2
  have c3 := GParam.cnts_le v3
  have d3 := GParam.trs_len v3
  have c4 := GType.cnt_le v4
  have c5 := GExpr.cnt_le v5
  simp only [GFunction.tr, Tr.cntL_append, Tr.bulkL_cat, Tr.cntL, Tr.cnt, Tr.bulkL, Tr.bulk]
  omega
theorem GFunction.cnts_le (l : List GFunction) : Tr.cntE (GFunction.trs l) ≤ 20 * l.length + 20 * Tr.bulkAll (GFunction.trs l) := by
  have h := cnts_of (GFunction.all (l := l) (Q := fun e => Tr.cntL e ≤ 20 + 20 * Tr.bulkL e) (fun x _ => by have := GFunction.cnt_le x; omega))
  rw [GFunction.trs_len] at h
  exact h
theorem GPackage.cnt_le (x : GPackage) : Tr.cntL x.tr ≤ 6 + 20 * Tr.bulkL x.tr := by
  obtain ⟨v0, v1, v2, v3, v4, v5⟩ := x
  have c1 := strCnt v1
  have d1 := strTrs_len v1
  have c2 := GTrait.cnts_le v2
  have d2 := GTrait.trs_len v2
  have c3 := GDataType.cnts_le v3
  have d3 := GDataType.trs_len v3
  have c4 := GInstance.cnts_le v4
  have d4 := GInstance.trs_len v4
  have c5 := GFunction.cnts_le v5
  have d5 := GFunction.trs_len v5
  simp only [GPackage.tr, Tr.cntL_append, Tr.bulkL_cat, Tr.cntL, Tr.cnt, Tr.bulkL, Tr.bulk]
  omega
theorem GPackage.cnts_le (l : List GPackage) : Tr.cntE (GPackage.trs l) ≤ 20 * l.length + 20 * Tr.bulkAll (GPackage.trs l) := by
  have h := cnts_of (GPackage.all (l := l) (Q := fun e => Tr.cntL e ≤ 20 + 20 * Tr.bulkL e) (fun x _ => by have := GPackage.cnt_le x; omega))
  rw [GPackage.trs_len] at h
  exact h
theorem GProgram.cnt_le (x : GProgram) : Tr.cntL x.tr ≤ 1 + 20 * Tr.bulkL x.tr := by
  obtain ⟨v0⟩ := x
  have c0 := GPackage.cnts_le v0
  have d0 := GPackage.trs_len v0
  simp only [GProgram.tr, Tr.cntL_append, Tr.bulkL_cat, Tr.cntL, Tr.cnt, Tr.bulkL, Tr.bulk]
  omega
theorem GProgram.top_le (x : GProgram) : Tr.topN x.tr ≤ 20 + 20 * Tr.bulkL x.tr := by
  have h1 := Tr.topN_cnt x.tr
  have h2 := GProgram.cnt_le x
  omega
end Go.Proofs.YtnakkelglbcecaaGreat

namespace Go.Proofs.YtnakkelglbcecaaGreat
set_option linter.unusedSimpArgs false
set_option linter.unusedVariables false
open Go.RowKit Go.WalkArith Go.IntWalk Go.WideShapes

theorem supersNilK (w : GProgram) (name : ByteArray) (hb : w.allSup.length ≤ 1099511627776) : ARow Tryz.prog 92 [(GProgram.pv w), .nil, .t (.leaf (.string name))] 9 1 (strTrs (w.supers name)) none :=
  ARow.ofNil (l1 := [GProgram.pv w]) (l2 := [.t (.leaf (.string name))]) (E := 9) (sz := 1) (by decide) (supers_impl w (supM w [] + 1) name [] (Nat.lt_succ_self _) (supM_le hb))
set_option maxRecDepth 100000 in
set_option maxHeartbeats 4000000 in
theorem allSupK (w : GProgram) (name : ByteArray) (hb : w.allSup.length ≤ 1099511627776) : ARow Tryz.prog 28 [(GProgram.pv w), .t (.leaf (.string (name)))] 9 1 (strTrs (GProgram.supers w name)) none := by
  unfold ARow
  refine ACalls.intro Tryz.func28 rfl (by first | decide | (simp; done) | (simp; decide)) ?_; intro C hC
  refine AWP.seq ?_; refine AWP.region_lit ?_; refine AL.cons rfl (AOp.box (cs := [.t (.row 6 (GPackage.trs (w.gPackages)))]) rfl rfl rfl rfl rfl) ?_; refine AL.cons rfl (AOp.move (.inr rfl) rfl rfl) ?_; refine AL.nil ?_; refine AWP.seq ?_; refine AWP.region_lit ?_; refine AL.cons rfl (AOp.loadPtr (cs := [.t (.row 6 (GPackage.trs (w.gPackages)))]) rfl rfl rfl rfl sh31 rfl rfl) ?_; refine AL.cons rfl (AOp.move (.inl rfl) rfl rfl) ?_; refine AL.cons rfl (AOp.callRow (ps := [_, _, _]) (rs := none) rfl rfl Tryz.func92 (by kernel_rfl) rfl rfl leA rfl rfl (supersNilK w name hb)) ?_; refine AL.cons rfl (AOp.move (.inr rfl) rfl rfl) ?_; refine AL.nil ?_; refine AWP.ret ?_; exact Ends.mk (ps := [_]) (.inr rfl) ⟨rfl, trivial⟩ rfl (StLe.mk' (st' := ⟨[], [⟨9, 1, strTrs (GProgram.supers w name), false⟩]⟩) trivial rfl) ⟨fun k x h => by simp [hC] at h, fun r row h => by simp [hC] at h⟩ (q := .acc 1 (strTrs (GProgram.supers w name)) 0) (.refl _) rfl ⟨0, rfl, rfl⟩
theorem traits_sup_bulk : ∀ l : List GTrait, (l.flatMap (fun t => t.gSupertraits)).length ≤ Tr.bulkAll (GTrait.trs l)
  | [] => by simp
  | x :: l => by
    have h1 := traits_sup_bulk l
    have h2 : x.gSupertraits.length ≤ Tr.bulkL x.tr := by
      rw [GTrait.tr_cs]
      simp only [GTrait.cs, Tr.bulkL, Tr.bulk, strTrs_len]
      omega
    rw [GTrait.trs_map] at h1
    rw [List.flatMap_cons, List.length_append, GTrait.trs_map, List.map_cons, Tr.bulkAll]
    omega
theorem packages_sup_bulk : ∀ l : List GPackage, ((l.flatMap (fun p => p.gTraits)).flatMap (fun t => t.gSupertraits)).length ≤ Tr.bulkAll (GPackage.trs l)
  | [] => by simp
  | x :: l => by
    have h1 := packages_sup_bulk l
    have h3 := traits_sup_bulk x.gTraits
    have h2 : Tr.bulkAll (GTrait.trs x.gTraits) ≤ Tr.bulkL x.tr := by
      rw [GPackage.tr_cs]
      simp only [GPackage.cs, Tr.bulkL, Tr.bulk]
      omega
    rw [GPackage.trs_map] at h1
    rw [List.flatMap_cons, List.flatMap_append, List.length_append, GPackage.trs_map, List.map_cons, Tr.bulkAll]
    omega
theorem GProgram.allSup_bulk (w : GProgram) : w.allSup.length ≤ Tr.bulkL w.tr := by
  have := packages_sup_bulk w.gPackages
  rw [GProgram.tr_cs]
  simp only [GProgram.cs, Tr.bulkL, Tr.bulk, GProgram.allSup]
  omega

theorem supers_len (w : GProgram) (name : ByteArray) : (w.supers name).length ≤ w.allSup.length := by
  have h := supF_inv w (supM w [] + 1) name []
  have h2 : supM w [] ≤ w.allSup.length := by unfold supM; exact List.countP_le_length
  unfold GProgram.supers
  simp only [List.length_nil] at h
  omega
theorem allSupP_impl (x0 : GProgram) (x1 : ByteArray) (w : World) (c0 : List Value) (h0 : RepL w x0.tr c0) (h1 : x1.size ≤ maxLen) (hb : x0.allSup.length ≤ 1099511627776) : Calls Tryz.prog 28 #[.agg ⟨c0⟩, .string x1] w fun e w' => ∃ v, e = .returned v ∧ Ext w w' ∧ Own w' (.row 1 (strTrs (x0.supers x1))) v (Between w w') := by
  rw [GProgram.tr_cs] at h0
  exact (allSupK x0 x1 hb).own (strTrs_flat _) (RVL0.cons (RV0.agg h0) (RVL0.cons (RV0.t (.leaf h1)) RVL0.nil))
end Go.Proofs.YtnakkelglbcecaaGreat

namespace Go.Proofs.YtnakkelglbcecaaGreat
set_option linter.unusedSimpArgs false
set_option linter.unusedVariables false
open Go.RowKit Go.WalkArith Go.IntWalk Go.WideShapes

set_option maxRecDepth 100000 in
set_option maxHeartbeats 4000000 in
theorem pathToK (w : GProgram) : ∀ (n : Nat) (s d : ByteArray), n ≤ 1000 → ARow Tryz.prog 96 [(GProgram.pv w), .t (.leaf (.string s)), .t (.leaf (.string d)), .t (.leaf (.int .i64 ((n : Nat) : Int)))] 3 1 (intTrs (oPath (pathF w n s d))) (some [.t (.leaf (.bool (pathF w n s d).isSome))]) := by
  intro n
  cases n with
  | zero =>
  intro s d hn
  unfold ARow
  refine ACalls.intro Tryz.func96 rfl (by first | decide | (simp; done) | (simp; decide)) ?_; intro C hC
  refine AWP.seq ?_; refine AWP.region_lit ?_; refine AL.cons rfl (AOp.box (cs := [.t (.row 6 (GPackage.trs (w.gPackages)))]) rfl rfl rfl rfl rfl) ?_; refine AL.cons rfl (AOp.move (.inr rfl) rfl rfl) ?_; refine AL.cons rfl (AOp.move (.inr rfl) rfl rfl) ?_; refine AL.nil ?_; refine AWP.seq ?_; refine AWP.seq ?_; refine AWP.region_lit ?_; refine AL.cons rfl (AOp.move (.inl rfl) rfl rfl) ?_; refine AL.cons rfl (AOp.move (.inl rfl) rfl rfl) ?_; refine AL.cons rfl (AOp.eqlS rfl rfl rfl rfl) ?_; refine AL.nil ?_; refine AWP.cond rfl (fun h1 => ?_) (fun h1 => ?_)
  · have h1b := h1
    try simp only [Bool.and_eq_true, Bool.or_eq_true, Bool.and_eq_false_iff, Bool.or_eq_false_iff, decide_eq_true_eq, decide_eq_false_iff_not, Bool.not_eq_true', Bool.not_eq_false', Bool.not_eq_eq_eq_not, Bool.not_true, Bool.not_false, ge_iff_le, gt_iff_lt, Int.not_lt, Int.not_le] at h1b
    refine AWP.seq ?_; refine AWP.region_lit ?_; refine AL.cons rfl (AOp.buildSlice (es := intTrs ([])) (cs := []) rfl rfl el60 zr3 rfl rfl leA rfl (by simp [intTrs]) (by decide) rfl (by decide)) ?_; refine AL.cons rfl (AOp.move (.inr rfl) rfl rfl) ?_; refine AL.cons rfl (AOp.move (.inr rfl) rfl rfl) ?_; refine AL.nil ?_; refine AWP.ret ?_
    have hq : pathF w (0) s d = some [] := by rw [pathF, if_pos (by assumption)]
    exact Ends.mk (ps := [_, _]) (.inr rfl) ⟨rfl, rfl, trivial⟩ rfl (StLe.mk' (st' := ⟨[], [⟨3, 1, intTrs [], false⟩]⟩) (by first | exact trivial | exact ⟨trivial, trivial⟩) rfl) ⟨fun k x h => by simp [hC] at h, fun r row h => by simp [hC] at h⟩ (q := .tup [.acc 1 (intTrs []) 0, .t (.leaf (.bool true))]) (by exact leA) rfl ⟨0, by rw [hq]; rfl, by rw [hq]; rfl⟩
  · have h1b := h1
    try simp only [Bool.and_eq_true, Bool.or_eq_true, Bool.and_eq_false_iff, Bool.or_eq_false_iff, decide_eq_true_eq, decide_eq_false_iff_not, Bool.not_eq_true', Bool.not_eq_false', Bool.not_eq_eq_eq_not, Bool.not_true, Bool.not_false, ge_iff_le, gt_iff_lt, Int.not_lt, Int.not_le] at h1b
    refine AWP.skip ?_; refine AWP.seq ?_; refine AWP.seq ?_; refine AWP.region_lit ?_; refine AL.cons rfl (AOp.move (.inl rfl) rfl rfl) ?_; refine AL.cons rfl (AOp.eqlI rfl rfl rfl rfl) ?_; refine AL.nil ?_; refine AWP.cond rfl (fun h2 => ?_) (fun h2 => ?_)
    · have h2b := h2
      try simp only [Bool.and_eq_true, Bool.or_eq_true, Bool.and_eq_false_iff, Bool.or_eq_false_iff, decide_eq_true_eq, decide_eq_false_iff_not, Bool.not_eq_true', Bool.not_eq_false', Bool.not_eq_eq_eq_not, Bool.not_true, Bool.not_false, ge_iff_le, gt_iff_lt, Int.not_lt, Int.not_le] at h2b
      refine AWP.seq ?_; refine AWP.region_lit ?_; refine AL.cons rfl (AOp.move (.inr rfl) rfl rfl) ?_; refine AL.cons rfl (AOp.move (.inr rfl) rfl rfl) ?_; refine AL.nil ?_; refine AWP.wk (Wk.reg (i := 8) 3 1 (by decide) rfl) ?_; refine AWP.ret ?_
      have hq : pathF w (0) s d = none := by first | exact pathL_end (by omega) hi2 | (rw [pathF, if_neg (by assumption)])
      exact Ends.mk (ps := [_, _]) (.inr rfl) ⟨rfl, rfl, trivial⟩ rfl (StLe.mk' (st' := ⟨[], [⟨3, 1, intTrs [], false⟩]⟩) (by first | exact trivial | exact ⟨trivial, trivial⟩) rfl) ⟨fun k x h => by simp [hC] at h, fun r row h => by simp [hC] at h⟩ (q := .tup [.acc 1 (intTrs []) 0, .t (.leaf (.bool false))]) (by exact leA) rfl ⟨0, by rw [hq]; rfl, by rw [hq]; rfl⟩
    · exact absurd (h2.symm.trans rfl) (by decide)
  | succ n =>
  have ih := pathTo_ok w n
  intro s d hn
  unfold ARow
  refine ACalls.intro Tryz.func96 rfl (by first | decide | (simp; done) | (simp; decide)) ?_; intro C hC
  have hsucc : decide ((((n + 1 : Nat) : Int) : Int) = 0) = false := by rw [decide_eq_false_iff_not]; omega
  refine AWP.seq ?_; refine AWP.region_lit ?_; refine AL.cons rfl (AOp.box (cs := [.t (.row 6 (GPackage.trs (w.gPackages)))]) rfl rfl rfl rfl rfl) ?_; refine AL.cons rfl (AOp.move (.inr rfl) rfl rfl) ?_; refine AL.cons rfl (AOp.move (.inr rfl) rfl rfl) ?_; refine AL.nil ?_; refine AWP.seq ?_; refine AWP.seq ?_; refine AWP.region_lit ?_; refine AL.cons rfl (AOp.move (.inl rfl) rfl rfl) ?_; refine AL.cons rfl (AOp.move (.inl rfl) rfl rfl) ?_; refine AL.cons rfl (AOp.eqlS rfl rfl rfl rfl) ?_; refine AL.nil ?_; refine AWP.cond rfl (fun h1 => ?_) (fun h1 => ?_)
  · have h1b := h1
    try simp only [Bool.and_eq_true, Bool.or_eq_true, Bool.and_eq_false_iff, Bool.or_eq_false_iff, decide_eq_true_eq, decide_eq_false_iff_not, Bool.not_eq_true', Bool.not_eq_false', Bool.not_eq_eq_eq_not, Bool.not_true, Bool.not_false, ge_iff_le, gt_iff_lt, Int.not_lt, Int.not_le] at h1b
    refine AWP.seq ?_; refine AWP.region_lit ?_; refine AL.cons rfl (AOp.buildSlice (es := intTrs ([])) (cs := []) rfl rfl el60 zr3 rfl rfl leA rfl (by simp [intTrs]) (by decide) rfl (by decide)) ?_; refine AL.cons rfl (AOp.move (.inr rfl) rfl rfl) ?_; refine AL.cons rfl (AOp.move (.inr rfl) rfl rfl) ?_; refine AL.nil ?_; refine AWP.ret ?_
    have hq : pathF w (n + 1) s d = some [] := by rw [pathF, if_pos (by assumption)]
    exact Ends.mk (ps := [_, _]) (.inr rfl) ⟨rfl, rfl, trivial⟩ rfl (StLe.mk' (st' := ⟨[], [⟨3, 1, intTrs [], false⟩]⟩) (by first | exact trivial | exact ⟨trivial, trivial⟩) rfl) ⟨fun k x h => by simp [hC] at h, fun r row h => by simp [hC] at h⟩ (q := .tup [.acc 1 (intTrs []) 0, .t (.leaf (.bool true))]) (by exact leA) rfl ⟨0, by rw [hq]; rfl, by rw [hq]; rfl⟩
  · have h1b := h1
    try simp only [Bool.and_eq_true, Bool.or_eq_true, Bool.and_eq_false_iff, Bool.or_eq_false_iff, decide_eq_true_eq, decide_eq_false_iff_not, Bool.not_eq_true', Bool.not_eq_false', Bool.not_eq_eq_eq_not, Bool.not_true, Bool.not_false, ge_iff_le, gt_iff_lt, Int.not_lt, Int.not_le] at h1b
    refine AWP.skip ?_; refine AWP.seq ?_; refine AWP.seq ?_; refine AWP.region_lit ?_; refine AL.cons rfl (AOp.move (.inl rfl) rfl rfl) ?_; refine AL.cons rfl (AOp.eqlI rfl rfl rfl rfl) ?_; refine AL.nil ?_; refine AWP.cond rfl (fun h2 => ?_) (fun h2 => ?_)
    · exact absurd (h2.symm.trans hsucc) (by decide)
    · have h2b := h2
      try simp only [Bool.and_eq_true, Bool.or_eq_true, Bool.and_eq_false_iff, Bool.or_eq_false_iff, decide_eq_true_eq, decide_eq_false_iff_not, Bool.not_eq_true', Bool.not_eq_false', Bool.not_eq_eq_eq_not, Bool.not_true, Bool.not_false, ge_iff_le, gt_iff_lt, Int.not_lt, Int.not_le] at h2b
      refine AWP.skip ?_; refine AWP.seq ?_; refine AWP.region_lit ?_; refine AL.cons rfl (AOp.loadPtr (cs := [.t (.row 6 (GPackage.trs (w.gPackages)))]) rfl rfl rfl rfl sh31 rfl rfl) ?_; refine AL.cons rfl (AOp.move (.inl rfl) rfl rfl) ?_; refine AL.cons rfl (AOp.callF (ps := [_, _]) rfl rfl Tryz.func82 (by kernel_rfl) rfl rfl leA rfl rfl (trait_impl w s)) ?_; refine AL.cons rfl (AOp.move (.inl rfl) rfl rfl) ?_; refine AL.cons rfl (AOp.extract rfl rfl rfl rfl) ?_; refine AL.cons rfl (AOp.extract rfl rfl rfl rfl) ?_; refine AL.cons rfl (AOp.extract rfl rfl rfl rfl) ?_; refine AL.cons rfl (AOp.alloc rfl rfl zr94) ?_; refine AL.cons rfl (AOp.storePtr (cs := [.t (.leaf (.string ((oTrait (w.traitAt s)).gName))), .t (.row 1 (strTrs ((oTrait (w.traitAt s)).gSupertraits))), .t (.leaf (.bool ((oTrait (w.traitAt s)).gAuto))), .t (.leaf (.bool ((oTrait (w.traitAt s)).gAssoc))), .t (.row 16 (GSignature.trs ((oTrait (w.traitAt s)).gSignatures)))]) (ds := [.t (.leaf (.string ((oTrait (w.traitAt s)).gName))), .t (.row 1 (strTrs ((oTrait (w.traitAt s)).gSupertraits))), .t (.leaf (.bool ((oTrait (w.traitAt s)).gAuto))), .t (.leaf (.bool ((oTrait (w.traitAt s)).gAssoc))), .t (.row 16 (GSignature.trs ((oTrait (w.traitAt s)).gSignatures)))]) rfl rfl rfl rfl rfl rfl rfl sz94 (Nat.le_of_ble_eq_true rfl) rfl) ?_; refine AL.cons rfl (AOp.move (.inr rfl) rfl rfl) ?_; refine AL.cons rfl (AOp.move (.inr rfl) rfl rfl) ?_; refine AL.nil ?_; refine AWP.seq ?_; refine AWP.seq ?_; refine AWP.region_lit ?_; refine AL.cons rfl (AOp.fieldPtr (k := 1) (d := 0) (e := 1) rfl rfl rfl fo94_1) ?_; refine AL.cons rfl (AOp.loadPtr1 rfl rfl rfl rfl sh54 rfl) ?_; refine AL.fact (lk_lenN 31 rfl rfl (strTrs_len _)) (fun hl3 => ?_)
      refine AL.cons rfl (AOp.lenN rfl rfl rfl rfl el54 (strTrs_len _)) ?_; refine AL.cons rfl (AOp.move (.inl rfl) rfl rfl) ?_; refine AL.nil ?_; refine AWP.block ?_; refine AWP.loopJ (ι := Nat) (fun i => i ≤ (oTrait (w.traitAt s)).gSupertraits.length ∧ pathF w (n + 1) s d = pathF.pathL (pathF w n) d i ((oTrait (w.traitAt s)).gSupertraits.drop i)) (fun i => ⟨[(0, (GProgram.pv w)), (1, .t (.leaf (.string (s)))), (2, .t (.leaf (.string (d)))), (3, .t (.leaf (.int .i64 (((n + 1 : Nat) : Int))))), (4, .ptr 0 0), (10, .ptr 1 0), (11, .t (.leaf (.int .i64 (oInt (w.traitAt s))))), (12, .t (.leaf (.bool ((w.traitAt s).isSome)))), (31, .t (.row 1 (strTrs ((oTrait (w.traitAt s)).gSupertraits)))), (32, .t (.leaf (.int .i64 (((((oTrait (w.traitAt s)).gSupertraits).length : Nat) : Int))))), (33, .t (.leaf (.int .i64 (((i : Nat) : Int)))))], ⟨[some ⟨31, [.t (.row 6 (GPackage.trs (w.gPackages)))]⟩, some ⟨94, [.t (.leaf (.string ((oTrait (w.traitAt s)).gName))), .t (.row 1 (strTrs ((oTrait (w.traitAt s)).gSupertraits))), .t (.leaf (.bool ((oTrait (w.traitAt s)).gAuto))), .t (.leaf (.bool ((oTrait (w.traitAt s)).gAssoc))), .t (.row 16 (GSignature.trs ((oTrait (w.traitAt s)).gSignatures)))]⟩], []⟩⟩) (fun i => (oTrait (w.traitAt s)).gSupertraits.length - i) 0 ?_ ?_ ?_
      · exact ⟨Nat.zero_le _, by rw [pathF, if_neg (by assumption)]; rfl⟩
      · exact Wk.mk (StLe.mk' ⟨⟨rfl, leA, rfl⟩, ⟨⟨rfl, leA, rfl⟩, trivial⟩⟩ rfl) (keeps_nil hC) ⟨⟨_, rfl, .refl _, rfl⟩, ⟨⟨_, rfl, .refl _, rfl⟩, ⟨⟨_, rfl, .refl _, rfl⟩, ⟨⟨_, rfl, .refl _, rfl⟩, ⟨⟨_, rfl, .refl _, rfl⟩, ⟨⟨_, rfl, .refl _, rfl⟩, ⟨⟨_, rfl, .refl _, rfl⟩, ⟨⟨_, rfl, .refl _, rfl⟩, ⟨⟨_, rfl, .refl _, rfl⟩, ⟨⟨_, rfl, .refl _, rfl⟩, ⟨⟨_, rfl, leA, rfl⟩, trivial⟩⟩⟩⟩⟩⟩⟩⟩⟩⟩⟩
      rintro i hJ4
      obtain ⟨hi1, hi2⟩ := hJ4
      refine AWP.seq ?_; refine AWP.region_lit ?_; refine AL.cons rfl (AOp.lss rfl rfl rfl rfl) ?_; refine AL.nil ?_; refine AWP.seq ?_; refine AWP.cond rfl (fun h5 => ?_) (fun h5 => ?_)
      · have h5b := h5
        try simp only [Bool.and_eq_true, Bool.or_eq_true, Bool.and_eq_false_iff, Bool.or_eq_false_iff, decide_eq_true_eq, decide_eq_false_iff_not, Bool.not_eq_true', Bool.not_eq_false', Bool.not_eq_eq_eq_not, Bool.not_true, Bool.not_false, ge_iff_le, gt_iff_lt, Int.not_lt, Int.not_le] at h5b
        have h5n : i < ((oTrait (w.traitAt s)).gSupertraits).length := by omega
        refine AWP.skip ?_; refine AWP.seq ?_; refine AWP.block ?_; refine AWP.seq ?_; refine AWP.region_lit ?_; refine AL.cons rfl (AOp.move (.inl rfl) rfl rfl) ?_; refine AL.cons rfl (AOp.index (k := i) rfl rfl rfl rfl rfl (strTrs_cs h5n) el54) ?_; refine AL.cons rfl (AOp.loadEptr1 (d := .leaf (.string (((oTrait (w.traitAt s)).gSupertraits)[i]))) rfl rfl rfl sh9 rfl) ?_; refine AL.cons rfl (AOp.move (.inr rfl) rfl rfl) ?_; refine AL.cons rfl (AOp.move (.inr rfl) rfl rfl) ?_; refine AL.nil ?_; refine AWP.seq ?_; refine AWP.region_lit ?_; refine AL.cons rfl (AOp.loadPtr (cs := [.t (.row 6 (GPackage.trs (w.gPackages)))]) rfl rfl rfl rfl sh31 rfl rfl) ?_; refine AL.cons rfl (AOp.move (.inl rfl) rfl rfl) ?_; refine AL.cons rfl (AOp.move (.inl rfl) rfl rfl) ?_; refine AL.cons rfl (AOp.move (.inl rfl) rfl rfl) ?_; refine AL.cons rfl (AOp.subI rfl rfl rfl rfl (c := ((n : Nat) : Int)) (by omega) (by omega)) ?_; refine AL.cons rfl (AOp.callF (ps := [_, _, _, _]) rfl rfl Tryz.func96 (by kernel_rfl) rfl rfl leA rfl rfl (ih (((oTrait (w.traitAt s)).gSupertraits)[i]) d (by omega))) ?_; refine AL.cons rfl (AOp.move (.inl rfl) rfl rfl) ?_; refine AL.cons rfl (AOp.extract rfl rfl rfl rfl) ?_; refine AL.cons rfl (AOp.extract rfl rfl rfl rfl) ?_; refine AL.cons rfl (AOp.move (.inr rfl) rfl rfl) ?_; refine AL.cons rfl (AOp.move (.inr rfl) rfl rfl) ?_; refine AL.nil ?_; refine AWP.seq ?_; refine AWP.region_lit ?_; refine AL.cons rfl (AOp.move (.inl rfl) rfl rfl) ?_; refine AL.nil ?_; refine AWP.cond rfl (fun h6 => ?_) (fun h6 => ?_)
        · have h6b := h6
          try simp only [Bool.and_eq_true, Bool.or_eq_true, Bool.and_eq_false_iff, Bool.or_eq_false_iff, decide_eq_true_eq, decide_eq_false_iff_not, Bool.not_eq_true', Bool.not_eq_false', Bool.not_eq_eq_eq_not, Bool.not_true, Bool.not_false, ge_iff_le, gt_iff_lt, Int.not_lt, Int.not_le] at h6b
          refine AWP.seq ?_; refine AWP.region_lit ?_; refine AL.cons rfl (AOp.move (.inl rfl) rfl rfl) ?_; refine AL.cons rfl (AOp.buildSlice (es := intTrs ([((i : Nat) : Int)])) (cs := [.t (.leaf (.int .i64 (((i : Nat) : Int))))]) rfl rfl el60 zr3 rfl rfl leA rfl (by simp [intTrs]) (by decide) rfl (by decide)) ?_; refine AL.cons rfl (AOp.move (.inl rfl) rfl rfl) ?_; refine AL.cons rfl (AOp.appendE (es3 := intTrs (([((i : Nat) : Int)]) ++ (oPath (pathF w (n) (((oTrait (w.traitAt s)).gSupertraits)[i]) d)))) rfl rfl rfl rfl rfl rfl rfl rfl rfl (intTrs_all _) el60 ze60 (by decide) (by have := pathF_len w n (oTrait (w.traitAt s)).gSupertraits[i] d; rw [intTrs_len, intTrs_len]; simp; omega) (intTrs_append _ _)) ?_; refine AL.cons rfl (AOp.move (.inr rfl) rfl rfl) ?_; refine AL.cons rfl (AOp.move (.inr rfl) rfl rfl) ?_; refine AL.nil ?_; refine AWP.ret ?_
          have hq := pathL_hit (by omega) hi2 (by assumption)
          exact Ends.mk (ps := [_, _]) (.inr rfl) ⟨rfl, rfl, trivial⟩ rfl (StLe.mk' (st' := ⟨[], [⟨3, 1, intTrs (([((i : Nat) : Int)]) ++ (oPath (pathF w (n) (((oTrait (w.traitAt s)).gSupertraits)[i]) d))), false⟩]⟩) (by first | exact trivial | exact ⟨trivial, trivial⟩) rfl) ⟨fun k x h => by simp [hC] at h, fun r row h => by simp [hC] at h⟩ (q := .tup [.acc 1 (intTrs (([((i : Nat) : Int)]) ++ (oPath (pathF w (n) (((oTrait (w.traitAt s)).gSupertraits)[i]) d)))) 0, .t (.leaf (.bool true))]) (by exact leA) rfl ⟨0, by rw [hq]; rfl, by rw [hq]; rfl⟩
        · have h6b := h6
          try simp only [Bool.and_eq_true, Bool.or_eq_true, Bool.and_eq_false_iff, Bool.or_eq_false_iff, decide_eq_true_eq, decide_eq_false_iff_not, Bool.not_eq_true', Bool.not_eq_false', Bool.not_eq_eq_eq_not, Bool.not_true, Bool.not_false, ge_iff_le, gt_iff_lt, Int.not_lt, Int.not_le] at h6b
          refine AWP.skip ?_; refine AWP.region_lit ?_; refine AL.cons rfl (AOp.addI rfl rfl rfl rfl (c := ((i + 1 : Nat) : Int)) (by omega) (by omega)) ?_; refine AL.cons rfl (AOp.move (.inl rfl) rfl rfl) ?_; refine AL.nil ?_; refine ⟨i + 1, ?_, ?_, ?_⟩
          · exact ⟨by omega, pathL_next (by omega) hi2 (by assumption)⟩
          · exact Wk.mk (StLe.mk' ⟨⟨rfl, leA, rfl⟩, ⟨⟨rfl, leA, rfl⟩, trivial⟩⟩ rfl) (keeps_nil hC) ⟨⟨_, rfl, .refl _, rfl⟩, ⟨⟨_, rfl, .refl _, rfl⟩, ⟨⟨_, rfl, .refl _, rfl⟩, ⟨⟨_, rfl, .refl _, rfl⟩, ⟨⟨_, rfl, .refl _, rfl⟩, ⟨⟨_, rfl, .refl _, rfl⟩, ⟨⟨_, rfl, .refl _, rfl⟩, ⟨⟨_, rfl, .refl _, rfl⟩, ⟨⟨_, rfl, .refl _, rfl⟩, ⟨⟨_, rfl, .refl _, rfl⟩, ⟨⟨_, rfl, leA, rfl⟩, trivial⟩⟩⟩⟩⟩⟩⟩⟩⟩⟩⟩
          · omega
      · have h5b := h5
        try simp only [Bool.and_eq_true, Bool.or_eq_true, Bool.and_eq_false_iff, Bool.or_eq_false_iff, decide_eq_true_eq, decide_eq_false_iff_not, Bool.not_eq_true', Bool.not_eq_false', Bool.not_eq_eq_eq_not, Bool.not_true, Bool.not_false, ge_iff_le, gt_iff_lt, Int.not_lt, Int.not_le] at h5b
        have h5n : i ≥ ((oTrait (w.traitAt s)).gSupertraits).length := by omega
        refine AWP.exit ?_; refine AWP.seq ?_; refine AWP.region_lit ?_; refine AL.cons rfl (AOp.move (.inr rfl) rfl rfl) ?_; refine AL.cons rfl (AOp.move (.inr rfl) rfl rfl) ?_; refine AL.nil ?_; refine AWP.wk (Wk.reg (i := 8) 3 1 (by decide) rfl) ?_; refine AWP.ret ?_
        have hq : pathF w (n + 1) s d = none := by first | exact pathL_end (by omega) hi2 | (rw [pathF, if_neg (by assumption)])
        exact Ends.mk (ps := [_, _]) (.inr rfl) ⟨rfl, rfl, trivial⟩ rfl (StLe.mk' (st' := ⟨[], [⟨3, 1, intTrs [], false⟩]⟩) (by first | exact trivial | exact ⟨trivial, trivial⟩) rfl) ⟨fun k x h => by simp [hC] at h, fun r row h => by simp [hC] at h⟩ (q := .tup [.acc 1 (intTrs []) 0, .t (.leaf (.bool false))]) (by exact leA) rfl ⟨0, by rw [hq]; rfl, by rw [hq]; rfl⟩
set_option maxRecDepth 100000 in
set_option maxHeartbeats 4000000 in
theorem pathK (w : GProgram) (s : ByteArray) (d : ByteArray) : ARow Tryz.prog 34 [(GProgram.pv w), .t (.leaf (.string (s))), .t (.leaf (.string (d)))] 3 1 (intTrs (oPath (pathF w 8 s d))) (some [.t (.leaf (.bool (pathF w 8 s d).isSome))]) := by
  unfold ARow
  refine ACalls.intro Tryz.func34 rfl (by first | decide | (simp; done) | (simp; decide)) ?_; intro C hC
  refine AWP.seq ?_; refine AWP.region_lit ?_; refine AL.cons rfl (AOp.box (cs := [.t (.row 6 (GPackage.trs (w.gPackages)))]) rfl rfl rfl rfl rfl) ?_; refine AL.cons rfl (AOp.move (.inr rfl) rfl rfl) ?_; refine AL.cons rfl (AOp.move (.inr rfl) rfl rfl) ?_; refine AL.nil ?_; refine AWP.seq ?_; refine AWP.region_lit ?_; refine AL.cons rfl (AOp.loadPtr (cs := [.t (.row 6 (GPackage.trs (w.gPackages)))]) rfl rfl rfl rfl sh31 rfl rfl) ?_; refine AL.cons rfl (AOp.move (.inl rfl) rfl rfl) ?_; refine AL.cons rfl (AOp.move (.inl rfl) rfl rfl) ?_; refine AL.cons rfl (AOp.callRow (ps := [_, _, _, _]) (rs := some [.t (.leaf (.bool (pathF w 8 s d).isSome))]) rfl rfl Tryz.func96 (by kernel_rfl) rfl rfl leA rfl rfl (pathToK w 8 s d (by decide))) ?_; refine AL.cons rfl (AOp.extract rfl rfl rfl rfl) ?_; refine AL.cons rfl (AOp.extract rfl rfl rfl rfl) ?_; refine AL.cons rfl (AOp.move (.inr rfl) rfl rfl) ?_; refine AL.cons rfl (AOp.move (.inr rfl) rfl rfl) ?_; refine AL.nil ?_; refine AWP.ret ?_; exact Ends.mk (ps := [_, _]) (.inr rfl) ⟨rfl, rfl, trivial⟩ rfl (StLe.mk' (st' := ⟨[], [⟨3, 1, intTrs (oPath (pathF w 8 s d)), false⟩]⟩) trivial rfl) ⟨fun k x h => by simp [hC] at h, fun r row h => by simp [hC] at h⟩ (q := .tup [.acc 1 (intTrs (oPath (pathF w 8 s d))) 0, .t (.leaf (.bool (pathF w 8 s d).isSome))]) (by exact leA) rfl ⟨0, rfl, rfl⟩
theorem pathP_impl (x0 : GProgram) (x1 x2 : ByteArray) (w : World) (c0 : List Value) (h0 : RepL w x0.tr c0) (h1 : x1.size ≤ maxLen) (h2 : x2.size ≤ maxLen) : Calls Tryz.prog 34 #[.agg ⟨c0⟩, .string x1, .string x2] w fun e w' => ∃ v, e = .returned (.tuple #[v, .bool (pathF x0 8 x1 x2).isSome]) ∧ Ext w w' ∧ Own w' (.row 1 (intTrs (oPath (pathF x0 8 x1 x2)))) v (Between w w') := by
  rw [GProgram.tr_cs] at h0
  exact (pathK x0 x1 x2).own2 (intTrs_flat _) (RVL0.cons (RV0.agg h0) (RVL0.cons (RV0.t (.leaf h1)) (RVL0.cons (RV0.t (.leaf h2)) RVL0.nil)))
end Go.Proofs.YtnakkelglbcecaaGreat
