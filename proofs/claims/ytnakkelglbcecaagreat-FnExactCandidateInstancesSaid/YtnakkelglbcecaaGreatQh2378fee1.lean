/- Words, rules and walks of several kinds, laid together: Cnt, PlInst, PmInst, MaTy, Plain, SL, TyEq0, PlTy. No conditions but those that each theorem states. -/
import Derived.Test.YtnakkelglbcecaaGreatQhda914828
import Derived.Test.YtnakkelglbcecaaGreatQh29a0584e
import Derived.Test.YtnakkelglbcecaaGreatQhe9db8441
import Derived.Test.YtnakkelglbcecaaGreatQh00f6734b
set_option linter.unusedSimpArgs false
set_option linter.unusedVariables false
namespace Go.Proofs.YtnakkelglbcecaaGreat
theorem Tr.bulkL_cat : ∀ (a b : List Tr), Tr.bulkL (a ++ b) = Tr.bulkL a + Tr.bulkL b
  | [], b => by simp [Tr.bulkL]
  | t :: a, b => by simp [Tr.bulkL, Tr.bulkL_cat a b, Nat.add_assoc]
theorem cnts_of : ∀ {es : List (List Tr)}, (∀ e ∈ es, Tr.cntL e ≤ 20 + 20 * Tr.bulkL e) → Tr.cntE es ≤ 20 * es.length + 20 * Tr.bulkAll es
  | [], _ => by simp [Tr.cntE]
  | e :: r, h => by
    have h1 := cnts_of (es := r) (fun x hx => h x (List.mem_cons_of_mem _ hx))
    have h2 := h e (by simp)
    simp only [Tr.cntE, Tr.bulkAll, List.length_cons]
    omega
theorem strCnt (l : List ByteArray) : Tr.cntE (strTrs l) = l.length := by
  induction l with
  | nil => rfl
  | cons a l ih => simp only [strTrs, List.map_cons, Tr.cntE, Tr.cntL, Tr.cnt, List.length_cons] at *; omega
theorem Tr.topN_cnt : ∀ ts : List Tr, Tr.topN ts ≤ Tr.cntL ts
  | [] => by simp [Tr.topN]
  | .leaf v :: r => by have := Tr.topN_cnt r; simp only [Tr.topN, Tr.cntL, Tr.cnt]; omega
  | .row sz es :: r => by have := Tr.topN_cnt r; simp only [Tr.topN, Tr.cntL, Tr.cnt]; omega
theorem GType.cnt_le : ∀ x : GType, Tr.cntL x.tr ≤ 3 + 20 * Tr.bulkL x.tr := by
  refine GType.ind fun v0 v1 v2 ih => ?_
  have c2 : Tr.cntE (GType.trs v2) ≤ 20 * v2.length + 20 * Tr.bulkAll (GType.trs v2) := by have h := cnts_of (GType.all (l := v2) (Q := fun e => Tr.cntL e ≤ 20 + 20 * Tr.bulkL e) (fun x hx => by have := ih x hx; omega)); rw [GType.trs_len] at h; exact h
  have d2 := GType.trs_len v2
  simp only [GType.tr, Tr.cntL_append, Tr.bulkL_cat, Tr.cntL, Tr.cnt, Tr.bulkL, Tr.bulk]
  omega
theorem GType.cnts_le (l : List GType) : Tr.cntE (GType.trs l) ≤ 20 * l.length + 20 * Tr.bulkAll (GType.trs l) := by
  have h := cnts_of (GType.all (l := l) (Q := fun e => Tr.cntL e ≤ 20 + 20 * Tr.bulkL e) (fun x _ => by have := GType.cnt_le x; omega))
  rw [GType.trs_len] at h
  exact h
theorem GArm.cnt_of (x : GArm) (h : Tr.cntL x.gBody.tr ≤ 9 + 20 * Tr.bulkL x.gBody.tr) : Tr.cntL x.tr ≤ 11 + 20 * Tr.bulkL x.tr := by
  obtain ⟨v0, v1, v2⟩ := x
  have h : Tr.cntL v2.tr ≤ 9 + 20 * Tr.bulkL v2.tr := h
  have c1 := strCnt v1
  have d1 := strTrs_len v1
  simp only [GArm.tr, Tr.cntL_append, Tr.bulkL_cat, Tr.cntL, Tr.cnt, Tr.bulkL, Tr.bulk]
  omega
theorem GExpr.cnt_le : ∀ x : GExpr, Tr.cntL x.tr ≤ 9 + 20 * Tr.bulkL x.tr := by
  refine GExpr.ind fun v0 v1 v2 v3 v4 v5 v6 ih5 ih6 => ?_
  have c4 := GType.cnt_le v4
  have c5 : Tr.cntE (GExpr.trs v5) ≤ 20 * v5.length + 20 * Tr.bulkAll (GExpr.trs v5) := by have h := cnts_of (GExpr.all (l := v5) (Q := fun e => Tr.cntL e ≤ 20 + 20 * Tr.bulkL e) (fun x hx => by have := ih5 x hx; omega)); rw [GExpr.trs_len] at h; exact h
  have c6 : Tr.cntE (GArm.trs v6) ≤ 20 * v6.length + 20 * Tr.bulkAll (GArm.trs v6) := by have h := cnts_of (GArm.all (l := v6) (Q := fun e => Tr.cntL e ≤ 20 + 20 * Tr.bulkL e) (fun x hx => by have := GArm.cnt_of x (ih6 x hx); omega)); rw [GArm.trs_len] at h; exact h
  have d5 := GExpr.trs_len v5
  have d6 := GArm.trs_len v6
  simp only [GExpr.tr, Tr.cntL_append, Tr.bulkL_cat, Tr.cntL, Tr.cnt, Tr.bulkL, Tr.bulk]
  omega
theorem GBound.cnt_le (x : GBound) : Tr.cntL x.tr ≤ 4 + 20 * Tr.bulkL x.tr := by
  obtain ⟨v0, v1⟩ := x
  have c1 := GType.cnt_le v1
  simp only [GBound.tr, Tr.cntL_append, Tr.bulkL_cat, Tr.cntL, Tr.cnt, Tr.bulkL, Tr.bulk]
  omega
theorem GBound.cnts_le (l : List GBound) : Tr.cntE (GBound.trs l) ≤ 20 * l.length + 20 * Tr.bulkAll (GBound.trs l) := by
  have h := cnts_of (GBound.all (l := l) (Q := fun e => Tr.cntL e ≤ 20 + 20 * Tr.bulkL e) (fun x _ => by have := GBound.cnt_le x; omega))
  rw [GBound.trs_len] at h
  exact h
theorem GParam.cnt_le (x : GParam) : Tr.cntL x.tr ≤ 4 + 20 * Tr.bulkL x.tr := by
  obtain ⟨v0, v1⟩ := x
  have c1 := GType.cnt_le v1
  simp only [GParam.tr, Tr.cntL_append, Tr.bulkL_cat, Tr.cntL, Tr.cnt, Tr.bulkL, Tr.bulk]
  omega
theorem GParam.cnts_le (l : List GParam) : Tr.cntE (GParam.trs l) ≤ 20 * l.length + 20 * Tr.bulkAll (GParam.trs l) := by
  have h := cnts_of (GParam.all (l := l) (Q := fun e => Tr.cntL e ≤ 20 + 20 * Tr.bulkL e) (fun x _ => by have := GParam.cnt_le x; omega))
  rw [GParam.trs_len] at h
  exact h
theorem GMethod.cnt_le (x : GMethod) : Tr.cntL x.tr ≤ 11 + 20 * Tr.bulkL x.tr := by
  obtain ⟨v0, v1, v2⟩ := x
  have c1 := strCnt v1
  have d1 := strTrs_len v1
  have c2 := GExpr.cnt_le v2
  simp only [GMethod.tr, Tr.cntL_append, Tr.bulkL_cat, Tr.cntL, Tr.cnt, Tr.bulkL, Tr.bulk]
  omega
theorem GMethod.cnts_le (l : List GMethod) : Tr.cntE (GMethod.trs l) ≤ 20 * l.length + 20 * Tr.bulkAll (GMethod.trs l) := by
  have h := cnts_of (GMethod.all (l := l) (Q := fun e => Tr.cntL e ≤ 20 + 20 * Tr.bulkL e) (fun x _ => by have := GMethod.cnt_le x; omega))
  rw [GMethod.trs_len] at h
  exact h
theorem GConstructor.cnt_le (x : GConstructor) : Tr.cntL x.tr ≤ 2 + 20 * Tr.bulkL x.tr := by
  obtain ⟨v0, v1⟩ := x
  have c1 := GType.cnts_le v1
  have d1 := GType.trs_len v1
  simp only [GConstructor.tr, Tr.cntL_append, Tr.bulkL_cat, Tr.cntL, Tr.cnt, Tr.bulkL, Tr.bulk]
  omega
theorem GConstructor.cnts_le (l : List GConstructor) : Tr.cntE (GConstructor.trs l) ≤ 20 * l.length + 20 * Tr.bulkAll (GConstructor.trs l) := by
  have h := cnts_of (GConstructor.all (l := l) (Q := fun e => Tr.cntL e ≤ 20 + 20 * Tr.bulkL e) (fun x _ => by have := GConstructor.cnt_le x; omega))
  rw [GConstructor.trs_len] at h
  exact h
theorem GSignature.cnt_le (x : GSignature) : Tr.cntL x.tr ≤ 16 + 20 * Tr.bulkL x.tr := by
  obtain ⟨v0, v1, v2, v3, v4, v5⟩ := x
  have c1 := GType.cnts_le v1
  have d1 := GType.trs_len v1
  have c2 := GType.cnt_le v2
  have c4 := strCnt v4
  have d4 := strTrs_len v4
  have c5 := GExpr.cnt_le v5
  simp only [GSignature.tr, Tr.cntL_append, Tr.bulkL_cat, Tr.cntL, Tr.cnt, Tr.bulkL, Tr.bulk]
  omega
theorem GSignature.cnts_le (l : List GSignature) : Tr.cntE (GSignature.trs l) ≤ 20 * l.length + 20 * Tr.bulkAll (GSignature.trs l) := by
  have h := cnts_of (GSignature.all (l := l) (Q := fun e => Tr.cntL e ≤ 20 + 20 * Tr.bulkL e) (fun x _ => by have := GSignature.cnt_le x; omega))
  rw [GSignature.trs_len] at h
  exact h
theorem GTrait.cnt_le (x : GTrait) : Tr.cntL x.tr ≤ 5 + 20 * Tr.bulkL x.tr := by
  obtain ⟨v0, v1, v2, v3, v4⟩ := x
  have c1 := strCnt v1
  have d1 := strTrs_len v1
  have c4 := GSignature.cnts_le v4
  have d4 := GSignature.trs_len v4
  simp only [GTrait.tr, Tr.cntL_append, Tr.bulkL_cat, Tr.cntL, Tr.cnt, Tr.bulkL, Tr.bulk]
  omega
theorem GTrait.cnts_le (l : List GTrait) : Tr.cntE (GTrait.trs l) ≤ 20 * l.length + 20 * Tr.bulkAll (GTrait.trs l) := by
  have h := cnts_of (GTrait.all (l := l) (Q := fun e => Tr.cntL e ≤ 20 + 20 * Tr.bulkL e) (fun x _ => by have := GTrait.cnt_le x; omega))
  rw [GTrait.trs_len] at h
  exact h
theorem GDataType.cnt_le (x : GDataType) : Tr.cntL x.tr ≤ 3 + 20 * Tr.bulkL x.tr := by
  obtain ⟨v0, v1, v2⟩ := x
  have c1 := strCnt v1
  have d1 := strTrs_len v1
  have c2 := GConstructor.cnts_le v2
  have d2 := GConstructor.trs_len v2
  simp only [GDataType.tr, Tr.cntL_append, Tr.bulkL_cat, Tr.cntL, Tr.cnt, Tr.bulkL, Tr.bulk]
  omega
theorem GDataType.cnts_le (l : List GDataType) : Tr.cntE (GDataType.trs l) ≤ 20 * l.length + 20 * Tr.bulkAll (GDataType.trs l) := by
  have h := cnts_of (GDataType.all (l := l) (Q := fun e => Tr.cntL e ≤ 20 + 20 * Tr.bulkL e) (fun x _ => by have := GDataType.cnt_le x; omega))
  rw [GDataType.trs_len] at h
  exact h
theorem GInstance.cnt_le (x : GInstance) : Tr.cntL x.tr ≤ 12 + 20 * Tr.bulkL x.tr := by
  obtain ⟨v0, v1, v2, v3, v4, v5, v6, v7⟩ := x
  have c1 := strCnt v1
  have d1 := strTrs_len v1
  have c2 := GType.cnt_le v2
  have c3 := GBound.cnts_le v3
  have d3 := GBound.trs_len v3
  have c6 := GType.cnt_le v6
  have c7 := GMethod.cnts_le v7
  have d7 := GMethod.trs_len v7
  simp only [GInstance.tr, Tr.cntL_append, Tr.bulkL_cat, Tr.cntL, Tr.cnt, Tr.bulkL, Tr.bulk]
  omega
theorem GInstance.cnts_le (l : List GInstance) : Tr.cntE (GInstance.trs l) ≤ 20 * l.length + 20 * Tr.bulkAll (GInstance.trs l) := by
  have h := cnts_of (GInstance.all (l := l) (Q := fun e => Tr.cntL e ≤ 20 + 20 * Tr.bulkL e) (fun x _ => by have := GInstance.cnt_le x; omega))
  rw [GInstance.trs_len] at h
  exact h
theorem GFunction.cnt_le (x : GFunction) : Tr.cntL x.tr ≤ 16 + 20 * Tr.bulkL x.tr := by
  obtain ⟨v0, v1, v2, v3, v4, v5⟩ := x
  have c1 := strCnt v1
  have d1 := strTrs_len v1
  have c2 := GBound.cnts_le v2
  have d2 := GBound.trs_len v2
  have c3 := GParam.cnts_le v3
  have d3 := GParam.trs_len v3
  have c4 := GType.cnt_le v4
  have c5 := GExpr.cnt_le v5
  simp only [GFunction.tr, Tr.cntL_append, Tr.bulkL_cat, Tr.cntL, Tr.cnt, Tr.bulkL, Tr.bulk]
  omega
theorem GFunction.cnts_le (l : List GFunction) : Tr.cntE (GFunction.trs l) ≤ 20 * l.length + 20 * Tr.bulkAll (GFunction.trs l) := by
  have h := cnts_of (GFunction.all (l := l) (Q := fun e => Tr.cntL e ≤ 20 + 20 * Tr.bulkL e) (fun x _ => by have := GFunction.cnt_le x; omega))
  rw [GFunction.trs_len] at h
  exact h
theorem GPackage.cnt_le (x : GPackage) : Tr.cntL x.tr ≤ 6 + 20 * Tr.bulkL x.tr := by
  obtain ⟨v0, v1, v2, v3, v4, v5⟩ := x
  have c1 := strCnt v1
  have d1 := strTrs_len v1
  have c2 := GTrait.cnts_le v2
  have d2 := GTrait.trs_len v2
  have c3 := GDataType.cnts_le v3
  have d3 := GDataType.trs_len v3
  have c4 := GInstance.cnts_le v4
  have d4 := GInstance.trs_len v4
  have c5 := GFunction.cnts_le v5
  have d5 := GFunction.trs_len v5
  simp only [GPackage.tr, Tr.cntL_append, Tr.bulkL_cat, Tr.cntL, Tr.cnt, Tr.bulkL, Tr.bulk]
  omega
theorem GPackage.cnts_le (l : List GPackage) : Tr.cntE (GPackage.trs l) ≤ 20 * l.length + 20 * Tr.bulkAll (GPackage.trs l) := by
  have h := cnts_of (GPackage.all (l := l) (Q := fun e => Tr.cntL e ≤ 20 + 20 * Tr.bulkL e) (fun x _ => by have := GPackage.cnt_le x; omega))
  rw [GPackage.trs_len] at h
  exact h
theorem GProgram.cnt_le (x : GProgram) : Tr.cntL x.tr ≤ 1 + 20 * Tr.bulkL x.tr := by
  obtain ⟨v0⟩ := x
  have c0 := GPackage.cnts_le v0
  have d0 := GPackage.trs_len v0
  simp only [GProgram.tr, Tr.cntL_append, Tr.bulkL_cat, Tr.cntL, Tr.cnt, Tr.bulkL, Tr.bulk]
  omega
theorem GProgram.top_le (x : GProgram) : Tr.topN x.tr ≤ 20 + 20 * Tr.bulkL x.tr := by
  have h1 := Tr.topN_cnt x.tr
  have h2 := GProgram.cnt_le x
  omega
end Go.Proofs.YtnakkelglbcecaaGreat

namespace Go.Proofs.YtnakkelglbcecaaGreat
set_option linter.unusedSimpArgs false
set_option linter.unusedVariables false
open Go.RowKit Go.WalkArith
attribute [local irreducible] lt

theorem wrap64_id {x : Int} (h0 : 0 ≤ x) (h1 : x < 9223372036854775807) : wrap64 x = x := by
  unfold wrap64 IntKind.wrap
  simp [IntKind.bits, IntKind.signed]
  omega
section
variable {α β : Type} {g : Nat → List α} {M : Nat}
theorem loopN_app {F : Nat → List α → Option (LR (List α) β)} {n : Nat} (hs : ∀ j v, j < n → v.length + (g j).length ≤ M → F j v = some (.next (v ++ g j))) :
    ∀ (k j : Nat) (v : List α), n - j = k → v.length + ((List.range' j k).flatMap g).length ≤ M → loopN F (n - j) j v = some (.inr (v ++ (List.range' j k).flatMap g))
  | 0, j, v, hk, _ => by rw [loopN_all (by omega)]; simp
  | k + 1, j, v, hk, hl => by
    have hj : j < n := by omega
    rw [List.range'_succ, List.flatMap_cons, List.length_append] at hl
    rw [loopN_step hj (hs j v hj (by omega)), loopN_app hs k (j + 1) (v ++ g j) (by omega) (by rw [List.length_append]; omega), List.range'_succ, List.flatMap_cons, List.append_assoc]
theorem loopN_app0 {F : Nat → List α → Option (LR (List α) β)} {n : Nat} (hs : ∀ j v, j < n → v.length + (g j).length ≤ M → F j v = some (.next (v ++ g j))) {v : List α} (hl : v.length + ((List.range' 0 n).flatMap g).length ≤ M) : loopN F (n - 0) 0 v = some (.inr (v ++ (List.range' 0 n).flatMap g)) := loopN_app hs n 0 v rfl hl
theorem loopW_app {F : List α × Int → Option (LR (List α × Int) β)} {n : Nat} (hs : ∀ (j : Nat) v, j < n → v.length + (g j).length ≤ M → F (v, (j : Int)) = some (.next (v ++ g j, ((j + 1 : Nat) : Int)))) (he : ∀ v, F (v, (n : Int)) = some (.brk (v, (n : Int)))) :
    ∀ (k j fu : Nat) (v : List α), n - j = k → j ≤ n → k < fu → v.length + ((List.range' j k).flatMap g).length ≤ M → loopW F fu (v, (j : Int)) = some (.inr (v ++ (List.range' j k).flatMap g, (n : Int)))
  | 0, j, fu, v, hk, hj, hf, _ => by
    obtain ⟨f, rfl⟩ : ∃ f, fu = f + 1 := ⟨fu - 1, by omega⟩
    obtain rfl : j = n := by omega
    rw [loopW, he]
    simp
  | k + 1, j, fu, v, hk, hj, hf, hl => by
    obtain ⟨f, rfl⟩ : ∃ f, fu = f + 1 := ⟨fu - 1, by omega⟩
    rw [List.range'_succ, List.flatMap_cons, List.length_append] at hl
    rw [loopW, hs j v (by omega) (by omega)]
    have h := loopW_app hs he k (j + 1) f (v ++ g j) (by omega) (by omega) (by omega) (by rw [List.length_append]; omega)
    rw [List.range'_succ, List.flatMap_cons, ← List.append_assoc]
    exact h
theorem flat_mem : ∀ {l : List Nat} {i : Nat}, i ∈ l → (g i).length ≤ (l.flatMap g).length
  | a :: l, i, h => by
    rw [List.flatMap_cons, List.length_append]
    rcases List.mem_cons.1 h with rfl | h
    · omega
    · have := flat_mem h
      omega
theorem flat_one {h : Nat → α} : ∀ l : List Nat, (l.flatMap fun k => [h k]).length = l.length
  | [] => by simp
  | a :: l => by
    have h1 := flat_one (h := h) l
    rw [List.flatMap_cons, List.length_append, List.length_cons, h1]
    simp
    omega
end
def GProgram.refsAt (w : GProgram) (i : Nat) : List GInstanceRef := (List.range' 0 (atD w.gPackages i).gInstances.length).flatMap fun (k : Nat) => [GInstanceRef.mk (i : Int) (k : Int)]
def GProgram.allRefs (w : GProgram) : List GInstanceRef := (List.range' 0 w.gPackages.length).flatMap w.refsAt
theorem GProgram.refsAt_len (w : GProgram) (i : Nat) : (w.refsAt i).length = (atD w.gPackages i).gInstances.length := by
  unfold GProgram.refsAt
  rw [flat_one, List.length_range']
theorem iAllInstances_fn (fu : Nat) (w : GProgram) (hw : w.allRefs.length ≤ 68719476736) : iAllInstances_M fu w = some w.allRefs := by
  unfold iAllInstances_M iAllInstances_R1
  have h := loopN_app0 (F := iAllInstances_F1 fu w) (n := w.gPackages.length) (g := w.refsAt) (M := 68719476736) (v := []) (fun i v hi hv => by
    have h2 := loopN_app0 (F := iAllInstances_F2 fu w i v (atD w.gPackages i)) (n := (atD w.gPackages i).gInstances.length) (g := fun (k : Nat) => [GInstanceRef.mk (i : Int) (k : Int)]) (M := 68719476736) (v := v) (fun k u hk hu => by unfold iAllInstances_F2; exact gdT hu rfl) hv
    unfold iAllInstances_F1
    exact ltE rfl (soR h2 rfl)) (by rw [List.length_nil, Nat.zero_add]; exact hw)
  exact soR h rfl
theorem sAllInstances_fn (fu : Nat) (w : GProgram) (hw : w.allRefs.length ≤ 68719476736) (hf : w.allRefs.length < fu) : sAllInstances_M fu w = some w.allRefs := by
  unfold sAllInstances_M sAllInstances_R1
  have h := loopN_app0 (F := sAllInstances_F1 fu w) (n := w.gPackages.length) (g := w.refsAt) (M := 68719476736) (v := []) (fun i v hi hv => by
    have hle := flat_mem (g := w.refsAt) (l := List.range' 0 w.gPackages.length) (i := i) (by rw [List.mem_range'_1]; omega)
    have hle : (w.refsAt i).length ≤ w.allRefs.length := hle
    rw [GProgram.refsAt_len] at hle
    have h2 := loopW_app (F := sAllInstances_F2 fu w i v) (n := (atD w.gPackages i).gInstances.length) (g := fun (k : Nat) => [GInstanceRef.mk (i : Int) (k : Int)]) (M := 68719476736) (fun j u hj hu => by
        unfold sAllInstances_F2
        refine ltE rfl (swT (decide_eq_true (by omega)) (gdT hu ?_))
        rw [wrap64_id (by omega) (by omega)]
        rfl) (fun u => by
        unfold sAllInstances_F2
        exact ltE rfl (swF (decide_eq_false (by omega)) rfl)) (atD w.gPackages i).gInstances.length 0 fu v (by omega) (by omega) (by omega) hv
    unfold sAllInstances_F1
    exact soR h2 rfl) (by rw [List.length_nil, Nat.zero_add]; exact hw)
  exact soR h rfl
theorem bulk_all : ∀ {es : List (List Tr)} {e : List Tr}, e ∈ es → Tr.bulkL e ≤ Tr.bulkAll es
  | a :: es, e, h => by
    rw [Tr.bulkAll]
    rcases List.mem_cons.1 h with rfl | h
    · omega
    · have := bulk_all h
      omega
theorem GPackage.inst_bulk (p : GPackage) : p.gInstances.length + Tr.bulkAll (GInstance.trs p.gInstances) ≤ Tr.bulkL p.tr := by
  rw [GPackage.tr_cs]
  simp only [GPackage.cs, Tr.bulkL, Tr.bulk, GInstance.trs_len]
  omega
theorem GProgram.pkg_bulk (w : GProgram) : Tr.bulkAll (GPackage.trs w.gPackages) ≤ Tr.bulkL w.tr := by
  rw [GProgram.tr_cs]
  simp only [GProgram.cs, Tr.bulkL, Tr.bulk]
  omega
theorem GProgram.refs_bulk (w : GProgram) : ∀ (k j : Nat), w.gPackages.length - j = k → ((List.range' j k).flatMap w.refsAt).length ≤ Tr.bulkAll (GPackage.trs (w.gPackages.drop j))
  | 0, j, hk => by simp
  | k + 1, j, hk => by
    have hj : j < w.gPackages.length := by omega
    have h := GProgram.refs_bulk w k (j + 1) (by omega)
    have h1 := GPackage.inst_bulk (atD w.gPackages j)
    rw [GPackage.trs_map] at h
    rw [List.range'_succ, List.flatMap_cons, List.length_append, GProgram.refsAt_len, drop_atD hj, GPackage.trs_map, List.map_cons, Tr.bulkAll]
    omega
theorem GProgram.allRefs_bulk (w : GProgram) : w.allRefs.length ≤ Tr.bulkL w.tr := by
  have h := GProgram.refs_bulk w w.gPackages.length 0 rfl
  rw [List.drop_zero] at h
  exact Nat.le_trans h w.pkg_bulk
theorem refTrs_flat (l : List GInstanceRef) : ∀ e ∈ GInstanceRef.trs l, ∀ d ∈ e, ∃ u, d = .leaf u := by
  intro e he d hd
  rw [GInstanceRef.trs_map] at he
  obtain ⟨x, _, rfl⟩ := List.mem_map.1 he
  obtain ⟨a, b⟩ := x
  simp only [GInstanceRef.tr, List.mem_append, List.mem_singleton, List.not_mem_nil, or_false] at hd
  rcases hd with rfl | rfl
  · exact ⟨_, rfl⟩
  · exact ⟨_, rfl⟩
theorem refCnt (l : List GInstanceRef) : Tr.cntE (GInstanceRef.trs l) = 2 * l.length := by
  induction l with
  | nil => rfl
  | cons a l ih =>
    obtain ⟨x, y⟩ := a
    rw [GInstanceRef.trs_map] at *
    simp only [List.map_cons, Tr.cntE, List.length_cons, GInstanceRef.tr, Tr.cntL_append, Tr.cntL, Tr.cnt]
    omega
theorem sAllInst_ok (w : GProgram) (hw : w.allRefs.length ≤ 68719476735) : AFun Tryz.prog 97 [(GProgram.pv w)] (.t (.row 2 (GInstanceRef.trs w.allRefs))) := sAllInstances_ok (w.allRefs.length + 1) w _ (sAllInstances_fn _ w (by omega) (by omega))
theorem allInstP (x0 : GProgram) (w : World) (c0 : List Value) (h0 : RepL w x0.tr c0) (hb : x0.allRefs.length ≤ 68719476735) : Calls Tryz.prog 99 #[.agg ⟨c0⟩] w fun e w' => ∃ v, e = .returned v ∧ Ext w w' ∧ Own w' (.row 2 (GInstanceRef.trs x0.allRefs)) v (Between w w') := by
  rw [GProgram.tr_cs] at h0
  exact (iAllInstances_own 0 x0 _ (iAllInstances_fn 0 x0 (by omega))).own (refTrs_flat _) (RVL0.cons (RV0.agg h0) RVL0.nil)
end Go.Proofs.YtnakkelglbcecaaGreat

namespace Go.Proofs.YtnakkelglbcecaaGreat
open Go.RowKit Go.Proofs
set_option linter.unusedSimpArgs false
set_option linter.unusedVariables false


def GProgram.instAt (w : GProgram) (o : GInstanceRef) : Option GInstance := if 0 ≤ o.gPackage ∧ 0 ≤ o.gAt then (w.gPackages[o.gPackage.toNat]?).bind (fun p => p.gInstances[o.gAt.toNat]?) else none
def GInstance.zero : GInstance := (.mk ⟨#[]⟩ [] (.mk 0 ⟨#[]⟩ []) [] false false (.mk 0 ⟨#[]⟩ []) [])
def oInst (o : Option GInstance) : GInstance := match o with | some x => x | none => GInstance.zero
abbrev optInst (o : Option GInstance) : PV := .tup [GInstance.pv (oInst o), .t (.leaf (.bool o.isSome))]
theorem optInst_some {o : Option GInstance} {x : GInstance} (h : o = some x) : PV.tup [GInstance.pv x, .t (.leaf (.bool true))] = optInst o := by rw [h]; rfl
theorem optInst_none {o : Option GInstance} (h : o = none) : PV.tup [GInstance.pv GInstance.zero, .t (.leaf (.bool false))] = optInst o := by rw [h]; rfl
theorem instAt_hit {w : GProgram} {o : GInstanceRef} (h0 : 0 ≤ o.gPackage) (h1 : 0 ≤ o.gAt) (hp : o.gPackage.toNat < w.gPackages.length) (hi : o.gAt.toNat < (w.gPackages[o.gPackage.toNat]).gInstances.length) : w.instAt o = some ((w.gPackages[o.gPackage.toNat]).gInstances[o.gAt.toNat]) := by
  simp [GProgram.instAt, h0, h1, List.getElem?_eq_getElem hp, List.getElem?_eq_getElem hi]
theorem instAt_m1 {w : GProgram} {o : GInstanceRef} (h : o.gPackage < 0 ∨ (w.gPackages.length : Int) ≤ o.gPackage) : w.instAt o = none := by
  unfold GProgram.instAt
  split
  · rw [List.getElem?_eq_none (by omega)]; rfl
  · rfl
theorem instAt_m2 {w : GProgram} {o : GInstanceRef} (hp : o.gPackage.toNat < w.gPackages.length) (h : o.gAt < 0 ∨ ((w.gPackages[o.gPackage.toNat]).gInstances.length : Int) ≤ o.gAt) : w.instAt o = none := by
  unfold GProgram.instAt
  split
  · rw [List.getElem?_eq_getElem hp, Option.bind_some, List.getElem?_eq_none (by omega)]
  · rfl

set_option maxRecDepth 100000 in
set_option maxHeartbeats 4000000 in
theorem inst_impl (w : GProgram) (o : GInstanceRef) : AFun Tryz.prog 81 [(GProgram.pv w), (GInstanceRef.pv o)] (.tup [(GInstance.pv (oInst (GProgram.instAt w o))), .t (.leaf (.bool ((GProgram.instAt w o).isSome)))]) := by
  refine ACalls.intro Tryz.func81 rfl (by first | decide | (simp; done) | (simp; decide)) ?_
  intro C hC
  refine AWP.seq ?_
  refine AWP.region_lit ?_
  refine AL.cons rfl (AOp.box (cs := [.t (.row 6 (GPackage.trs (w.gPackages)))]) rfl rfl rfl rfl rfl) ?_
  refine AL.cons rfl (AOp.box (cs := [.t (.leaf (.int .i64 (o.gPackage))), .t (.leaf (.int .i64 (o.gAt)))]) rfl rfl rfl rfl rfl) ?_
  refine AL.cons rfl (AOp.alloc rfl rfl zr113) ?_
  refine AL.cons rfl (AOp.move (.inr rfl) rfl rfl) ?_
  refine AL.nil ?_
  refine AWP.seq ?_
  refine AWP.seq ?_
  rcases bool2 (decide ((o.gPackage : Int) < 0)) with g1 | g1
  · skip
    have g1b := g1
    try simp only [Bool.and_eq_true, Bool.or_eq_true, Bool.and_eq_false_iff, Bool.or_eq_false_iff, decide_eq_true_eq, decide_eq_false_iff_not, Bool.not_eq_true', Bool.not_eq_false', Bool.not_eq_eq_eq_not, Bool.not_true, Bool.not_false, ge_iff_le, gt_iff_lt, Int.not_lt, Int.not_le] at g1b
    refine AWP.drawnL ⟨_, _, fun _ _ => (⟨[some ⟨31, [.t (.row 6 (GPackage.trs (w.gPackages)))]⟩, some ⟨33, [.t (.leaf (.int .i64 (o.gPackage))), .t (.leaf (.int .i64 (o.gAt)))]⟩, some ⟨113, [.t (.leaf (.string (⟨#[]⟩))), .nil, .t (.leaf (.int .i64 (0))), .t (.leaf (.string (⟨#[]⟩))), .nil, .nil, .t (.leaf (.bool (false))), .t (.leaf (.bool (false))), .t (.leaf (.int .i64 (0))), .t (.leaf (.string (⟨#[]⟩))), .nil, .nil]⟩], []⟩ : Sto), fun q' => ([some (.ptr 1 0), some (.t (.leaf (.int .i64 (o.gPackage)))), some (.t (.leaf (.bool (decide ((o.gPackage : Int) < 0))))), some (.t (.leaf (.bool (decide ((o.gPackage : Int) < 0))))), none, none, none, none, none, none, some (.t (.leaf (.bool (true)))), some (.t (.leaf (.bool (true)))), none, none, none, some (.t (.leaf (.bool (true)))), some (.t (.leaf (.bool (true)))), none, none, none, none, none, none, none, none, none, none, none, some (.t (.leaf (.bool (true))))] : List (Option PV)).getD q' none, fun q' => ([.q 0 0, .q 0 0, .q 0 0, .q 0 0, .q 0 0, .q 0 0, .q 0 0, .q 0 0, .q 0 0, .q 0 0, .q 0 0, .q 0 0, .q 0 0, .q 0 0, .q 0 0, .q 0 0, .q 0 0, .q 0 0, .q 0 0, .q 0 0, .q 0 0, .q 0 0, .q 0 0, .q 0 0, .q 0 0, .q 0 0, .q 0 0, .q 0 0, .q 0 0] : List DK).getD q' (.q 0 0), [], none, fun q' => ([[(3, none)], [(6, some 0)], [(7, some 1)], [(8, some 2)], [], [], [], [], [], [], [(9, some 3)], [(16, some 10)], [], [], [], [(17, some 11)], [(21, some 15)], [], [], [], [], [], [], [], [], [], [], [], [(22, some 16)]] : List (List (Nat × Option Nat))).getD q' []⟩ rfl mixed (by kernel_rfl) rfl rfl ⟨?_, ?_, ?_, ?_, ?_, ?_, ?_, ?_, ?_, ?_, ?_, ?_, ?_, ?_, ?_, ?_, ?_, ?_, ?_, ?_, ?_, ?_, ?_, ?_, ?_, ?_, ?_, ?_, ?_, trivial⟩ rfl ?_
    · refine .inl ⟨rfl, fun s' jj bb (h1 : 0 ≤ jj) (h2 : jj ≤ 0) hs hl => ?_⟩
      obtain rfl : jj = 0 := by omega
      exact ⟨_, rfl, AOp.fieldPtr (k := 1) (d := 0) (e := 0) rfl rfl (hl 3 none _ (.head _) rfl) fo33_0⟩
    · refine .inl ⟨rfl, fun s' jj bb (h1 : 0 ≤ jj) (h2 : jj ≤ 0) hs hl => ?_⟩
      obtain rfl : jj = 0 := by omega
      exact ⟨_, rfl, AOp.loadPtr1 rfl rfl (hl 6 (some 0) _ (.head _) rfl) (by rw [hs]; rfl) sh3 rfl⟩
    · refine .inl ⟨rfl, fun s' jj bb (h1 : 0 ≤ jj) (h2 : jj ≤ 0) hs hl => ?_⟩
      obtain rfl : jj = 0 := by omega
      exact ⟨_, rfl, AOp.lss rfl rfl (hl 7 (some 1) _ (.head _) rfl) rfl⟩
    · refine .inl ⟨rfl, fun s' jj bb (h1 : 0 ≤ jj) (h2 : jj ≤ 0) hs hl => ?_⟩
      obtain rfl : jj = 0 := by omega
      exact ⟨_, rfl, AOp.move (.inl rfl) rfl (hl 8 (some 2) _ (.head _) rfl)⟩
    · exact .inr ⟨(congrArg (fun b => some (b == false)) g1), rfl, ⟨_, _, rfl⟩, fun d hd => by cases hd; rfl⟩
    · exact .inr ⟨(congrArg (fun b => some (b == false)) g1), rfl, ⟨_, _, rfl⟩, fun d hd => by cases hd; rfl⟩
    · exact .inr ⟨(congrArg (fun b => some (b == false)) g1), rfl, ⟨_, _, rfl⟩, fun d hd => by cases hd; rfl⟩
    · exact .inr ⟨(congrArg (fun b => some (b == false)) g1), rfl, ⟨_, _, rfl⟩, fun d hd => by cases hd; rfl⟩
    · exact .inr ⟨(congrArg (fun b => some (b == false)) g1), rfl, ⟨_, _, rfl⟩, fun d hd => by cases hd; rfl⟩
    · exact .inr ⟨(congrArg (fun b => some (b == false)) g1), rfl, ⟨_, _, rfl⟩, fun d hd => by cases hd; rfl⟩
    · refine .inl ⟨rfl, fun s' jj bb (h1 : 0 ≤ jj) (h2 : jj ≤ 0) hs hl => ?_⟩
      obtain rfl : jj = 0 := by omega
      exact ⟨_, rfl, AOp.pickT rfl rfl (hl 9 (some 3) _ (.head _) rfl) g1 rfl⟩
    · refine .inl ⟨rfl, fun s' jj bb (h1 : 0 ≤ jj) (h2 : jj ≤ 0) hs hl => ?_⟩
      obtain rfl : jj = 0 := by omega
      exact ⟨_, rfl, AOp.move (.inl rfl) rfl (hl 16 (some 10) _ (.head _) rfl)⟩
    · exact .inr ⟨(congrArg (fun b => some (b == false)) (rfl : true = _)), rfl, ⟨_, _, rfl⟩, fun d hd => by cases hd; rfl⟩
    · exact .inr ⟨(congrArg (fun b => some (b == false)) (rfl : true = _)), rfl, ⟨_, _, rfl⟩, fun d hd => by cases hd; rfl⟩
    · exact .inr ⟨(congrArg (fun b => some (b == false)) (rfl : true = _)), rfl, ⟨_, _, rfl⟩, fun d hd => by cases hd; rfl⟩
    · refine .inl ⟨rfl, fun s' jj bb (h1 : 0 ≤ jj) (h2 : jj ≤ 0) hs hl => ?_⟩
      obtain rfl : jj = 0 := by omega
      exact ⟨_, rfl, AOp.pickT rfl rfl (hl 17 (some 11) _ (.head _) rfl) rfl rfl⟩
    · refine .inl ⟨rfl, fun s' jj bb (h1 : 0 ≤ jj) (h2 : jj ≤ 0) hs hl => ?_⟩
      obtain rfl : jj = 0 := by omega
      exact ⟨_, rfl, AOp.move (.inl rfl) rfl (hl 21 (some 15) _ (.head _) rfl)⟩
    · exact .inr ⟨(congrArg (fun b => some (b == false)) (rfl : true = _)), rfl, ⟨_, _, rfl⟩, fun d hd => by cases hd; rfl⟩
    · exact .inr ⟨(congrArg (fun b => some (b == false)) (rfl : true = _)), rfl, ⟨_, _, rfl⟩, fun d hd => by cases hd; rfl⟩
    · exact .inr ⟨(congrArg (fun b => some (b == false)) (rfl : true = _)), rfl, ⟨_, _, rfl⟩, fun d hd => by cases hd; rfl⟩
    · exact .inr ⟨(congrArg (fun b => some (b == false)) (rfl : true = _)), rfl, ⟨_, _, rfl⟩, fun d hd => by cases hd; rfl⟩
    · exact .inr ⟨(congrArg (fun b => some (b == false)) (rfl : true = _)), rfl, ⟨_, _, rfl⟩, fun d hd => by cases hd; rfl⟩
    · exact .inr ⟨(congrArg (fun b => some (b == false)) (rfl : true = _)), rfl, ⟨_, _, rfl⟩, fun d hd => by cases hd; rfl⟩
    · exact .inr ⟨(congrArg (fun b => some (b == false)) (rfl : true = _)), rfl, ⟨_, _, rfl⟩, fun d hd => by cases hd; rfl⟩
    · exact .inr ⟨(congrArg (fun b => some (b == false)) (rfl : true = _)), rfl, ⟨_, _, rfl⟩, fun d hd => by cases hd; rfl⟩
    · exact .inr ⟨(congrArg (fun b => some (b == false)) (rfl : true = _)), rfl, ⟨_, _, rfl⟩, fun d hd => by cases hd; rfl⟩
    · exact .inr ⟨(congrArg (fun b => some (b == false)) (rfl : true = _)), rfl, ⟨_, _, rfl⟩, fun d hd => by cases hd; rfl⟩
    · exact .inr ⟨(congrArg (fun b => some (b == false)) (rfl : true = _)), rfl, ⟨_, _, rfl⟩, fun d hd => by cases hd; rfl⟩
    · refine .inl ⟨rfl, fun s' jj bb (h1 : 0 ≤ jj) (h2 : jj ≤ 0) hs hl => ?_⟩
      obtain rfl : jj = 0 := by omega
      exact ⟨_, rfl, AOp.pickT rfl rfl (hl 22 (some 16) _ (.head _) rfl) rfl rfl⟩
    refine AWP.cond rfl (fun h2 => ?_) (fun h2 => ?_)
    · skip
      have h2b := h2
      try simp only [Bool.and_eq_true, Bool.or_eq_true, Bool.and_eq_false_iff, Bool.or_eq_false_iff, decide_eq_true_eq, decide_eq_false_iff_not, Bool.not_eq_true', Bool.not_eq_false', Bool.not_eq_eq_eq_not, Bool.not_true, Bool.not_false, ge_iff_le, gt_iff_lt, Int.not_lt, Int.not_le] at h2b
      refine AWP.seq ?_
      refine AWP.region_lit ?_
      refine AL.cons rfl (AOp.build rfl rfl zr113 pl113 rfl rfl) ?_
      refine AL.cons rfl (AOp.storePtr (cs := [.t (.leaf (.string (⟨#[]⟩))), .nil, .t (.leaf (.int .i64 (0))), .t (.leaf (.string (⟨#[]⟩))), .nil, .nil, .t (.leaf (.bool (false))), .t (.leaf (.bool (false))), .t (.leaf (.int .i64 (0))), .t (.leaf (.string (⟨#[]⟩))), .nil, .nil]) (ds := [.t (.leaf (.string (⟨#[]⟩))), .nil, .t (.leaf (.int .i64 (0))), .t (.leaf (.string (⟨#[]⟩))), .nil, .nil, .t (.leaf (.bool (false))), .t (.leaf (.bool (false))), .t (.leaf (.int .i64 (0))), .t (.leaf (.string (⟨#[]⟩))), .nil, .nil]) rfl rfl rfl rfl rfl rfl rfl sz113 (Nat.le_of_ble_eq_true rfl) rfl) ?_
      refine AL.cons rfl (AOp.move (.inr rfl) rfl rfl) ?_
      refine AL.nil ?_
      refine AWP.ret ?_
      exact Ends.mk (ps := [_, _]) (.inr rfl) ⟨⟨_, _, _, rfl, rfl, sh113, rfl, rfl⟩, rfl, trivial⟩ rfl (StLe.mk' (st' := ⟨[], []⟩) trivial rfl) (keeps_nil hC) (q := PV.tup [GInstance.pv GInstance.zero, .t (.leaf (.bool (false)))]) leA rfl ⟨by exact optInst_none (by first | exact instAt_m1 (by omega) | exact instAt_m2 (by omega) (by omega)), rfl⟩
    · skip
      exact absurd (h2.symm.trans rfl) (by decide)
  · skip
    have g1b := g1
    try simp only [Bool.and_eq_true, Bool.or_eq_true, Bool.and_eq_false_iff, Bool.or_eq_false_iff, decide_eq_true_eq, decide_eq_false_iff_not, Bool.not_eq_true', Bool.not_eq_false', Bool.not_eq_eq_eq_not, Bool.not_true, Bool.not_false, ge_iff_le, gt_iff_lt, Int.not_lt, Int.not_le] at g1b
    rcases bool2 (decide ((o.gPackage : Int) ≥ ((w.gPackages.length : Nat) : Int))) with g3 | g3
    · skip
      have g3b := g3
      try simp only [Bool.and_eq_true, Bool.or_eq_true, Bool.and_eq_false_iff, Bool.or_eq_false_iff, decide_eq_true_eq, decide_eq_false_iff_not, Bool.not_eq_true', Bool.not_eq_false', Bool.not_eq_eq_eq_not, Bool.not_true, Bool.not_false, ge_iff_le, gt_iff_lt, Int.not_lt, Int.not_le] at g3b
      refine AWP.drawnL ⟨_, _, fun _ _ => (⟨[some ⟨31, [.t (.row 6 (GPackage.trs (w.gPackages)))]⟩, some ⟨33, [.t (.leaf (.int .i64 (o.gPackage))), .t (.leaf (.int .i64 (o.gAt)))]⟩, some ⟨113, [.t (.leaf (.string (⟨#[]⟩))), .nil, .t (.leaf (.int .i64 (0))), .t (.leaf (.string (⟨#[]⟩))), .nil, .nil, .t (.leaf (.bool (false))), .t (.leaf (.bool (false))), .t (.leaf (.int .i64 (0))), .t (.leaf (.string (⟨#[]⟩))), .nil, .nil]⟩], []⟩ : Sto), fun q' => ([some (.ptr 1 0), some (.t (.leaf (.int .i64 (o.gPackage)))), some (.t (.leaf (.bool (decide ((o.gPackage : Int) < 0))))), some (.t (.leaf (.bool (decide ((o.gPackage : Int) < 0))))), some (.ptr 1 0), some (.t (.leaf (.int .i64 (o.gPackage)))), some (.ptr 0 0), some (.t (.row 6 (GPackage.trs (w.gPackages)))), some (.t (.leaf (.int .i64 (((w.gPackages.length : Nat) : Int))))), some (.t (.leaf (.bool (decide ((o.gPackage : Int) ≥ ((w.gPackages.length : Nat) : Int)))))), some (.t (.leaf (.bool (decide ((o.gPackage : Int) ≥ ((w.gPackages.length : Nat) : Int)))))), some (.t (.leaf (.bool (decide ((o.gPackage : Int) ≥ ((w.gPackages.length : Nat) : Int)))))), none, none, none, some (.t (.leaf (.bool (true)))), some (.t (.leaf (.bool (true)))), none, none, none, none, none, none, none, none, none, none, none, some (.t (.leaf (.bool (true))))] : List (Option PV)).getD q' none, fun q' => ([.q 0 0, .q 0 0, .q 0 0, .q 0 0, .q 0 0, .q 0 0, .q 0 0, .q 0 0, .q 0 0, .q 0 0, .q 0 0, .q 0 0, .q 0 0, .q 0 0, .q 0 0, .q 0 0, .q 0 0, .q 0 0, .q 0 0, .q 0 0, .q 0 0, .q 0 0, .q 0 0, .q 0 0, .q 0 0, .q 0 0, .q 0 0, .q 0 0, .q 0 0] : List DK).getD q' (.q 0 0), [], none, fun q' => ([[(3, none)], [(6, some 0)], [(7, some 1)], [(8, some 2)], [(3, none)], [(10, some 4)], [(2, none)], [(12, some 6)], [(13, some 7)], [(11, some 5), (14, some 8)], [(9, some 3), (15, some 9)], [(16, some 10)], [], [], [], [(17, some 11)], [(21, some 15)], [], [], [], [], [], [], [], [], [], [], [], [(22, some 16)]] : List (List (Nat × Option Nat))).getD q' []⟩ rfl mixed (by kernel_rfl) rfl rfl ⟨?_, ?_, ?_, ?_, ?_, ?_, ?_, ?_, ?_, ?_, ?_, ?_, ?_, ?_, ?_, ?_, ?_, ?_, ?_, ?_, ?_, ?_, ?_, ?_, ?_, ?_, ?_, ?_, ?_, trivial⟩ rfl ?_
      · refine .inl ⟨rfl, fun s' jj bb (h1 : 0 ≤ jj) (h2 : jj ≤ 0) hs hl => ?_⟩
        obtain rfl : jj = 0 := by omega
        exact ⟨_, rfl, AOp.fieldPtr (k := 1) (d := 0) (e := 0) rfl rfl (hl 3 none _ (.head _) rfl) fo33_0⟩
      · refine .inl ⟨rfl, fun s' jj bb (h1 : 0 ≤ jj) (h2 : jj ≤ 0) hs hl => ?_⟩
        obtain rfl : jj = 0 := by omega
        exact ⟨_, rfl, AOp.loadPtr1 rfl rfl (hl 6 (some 0) _ (.head _) rfl) (by rw [hs]; rfl) sh3 rfl⟩
      · refine .inl ⟨rfl, fun s' jj bb (h1 : 0 ≤ jj) (h2 : jj ≤ 0) hs hl => ?_⟩
        obtain rfl : jj = 0 := by omega
        exact ⟨_, rfl, AOp.lss rfl rfl (hl 7 (some 1) _ (.head _) rfl) rfl⟩
      · refine .inl ⟨rfl, fun s' jj bb (h1 : 0 ≤ jj) (h2 : jj ≤ 0) hs hl => ?_⟩
        obtain rfl : jj = 0 := by omega
        exact ⟨_, rfl, AOp.move (.inl rfl) rfl (hl 8 (some 2) _ (.head _) rfl)⟩
      · refine .inl ⟨(congrArg (fun b => some (b == false)) g1), fun s' jj bb (h1 : 0 ≤ jj) (h2 : jj ≤ 0) hs hl => ?_⟩
        obtain rfl : jj = 0 := by omega
        exact ⟨_, rfl, AOp.fieldPtr (k := 1) (d := 0) (e := 0) rfl rfl (hl 3 none _ (.head _) rfl) fo33_0⟩
      · refine .inl ⟨(congrArg (fun b => some (b == false)) g1), fun s' jj bb (h1 : 0 ≤ jj) (h2 : jj ≤ 0) hs hl => ?_⟩
        obtain rfl : jj = 0 := by omega
        exact ⟨_, rfl, AOp.loadPtr1 rfl rfl (hl 10 (some 4) _ (.head _) rfl) (by rw [hs]; rfl) sh3 rfl⟩
      · refine .inl ⟨(congrArg (fun b => some (b == false)) g1), fun s' jj bb (h1 : 0 ≤ jj) (h2 : jj ≤ 0) hs hl => ?_⟩
        obtain rfl : jj = 0 := by omega
        exact ⟨_, rfl, AOp.fieldPtr (k := 0) (d := 0) (e := 0) rfl rfl (hl 2 none _ (.head _) rfl) fo31_0⟩
      · refine .inl ⟨(congrArg (fun b => some (b == false)) g1), fun s' jj bb (h1 : 0 ≤ jj) (h2 : jj ≤ 0) hs hl => ?_⟩
        obtain rfl : jj = 0 := by omega
        exact ⟨_, rfl, AOp.loadPtr1 rfl rfl (hl 12 (some 6) _ (.head _) rfl) (by rw [hs]; rfl) sh29 rfl⟩
      · refine .inl ⟨(congrArg (fun b => some (b == false)) g1), fun s' jj bb (h1 : 0 ≤ jj) (h2 : jj ≤ 0) hs hl => ?_⟩
        obtain rfl : jj = 0 := by omega
        exact ⟨_, rfl, AOp.lenN rfl rfl (hl 13 (some 7) _ (.head _) rfl) rfl el29 (GPackage.trs_len _)⟩
      · refine .inl ⟨(congrArg (fun b => some (b == false)) g1), fun s' jj bb (h1 : 0 ≤ jj) (h2 : jj ≤ 0) hs hl => ?_⟩
        obtain rfl : jj = 0 := by omega
        exact ⟨_, rfl, AOp.geq rfl rfl (hl 11 (some 5) _ (.head _) rfl) (hl 14 (some 8) _ (.tail _ (.head _)) rfl)⟩
      · refine .inl ⟨rfl, fun s' jj bb (h1 : 0 ≤ jj) (h2 : jj ≤ 0) hs hl => ?_⟩
        obtain rfl : jj = 0 := by omega
        exact ⟨_, rfl, AOp.pickF rfl rfl (hl 9 (some 3) _ (.head _) rfl) g1 (hl 15 (some 9) _ (.tail _ (.head _)) rfl)⟩
      · refine .inl ⟨rfl, fun s' jj bb (h1 : 0 ≤ jj) (h2 : jj ≤ 0) hs hl => ?_⟩
        obtain rfl : jj = 0 := by omega
        exact ⟨_, rfl, AOp.move (.inl rfl) rfl (hl 16 (some 10) _ (.head _) rfl)⟩
      · exact .inr ⟨(congrArg (fun b => some (b == false)) g3), rfl, ⟨_, _, rfl⟩, fun d hd => by cases hd; rfl⟩
      · exact .inr ⟨(congrArg (fun b => some (b == false)) g3), rfl, ⟨_, _, rfl⟩, fun d hd => by cases hd; rfl⟩
      · exact .inr ⟨(congrArg (fun b => some (b == false)) g3), rfl, ⟨_, _, rfl⟩, fun d hd => by cases hd; rfl⟩
      · refine .inl ⟨rfl, fun s' jj bb (h1 : 0 ≤ jj) (h2 : jj ≤ 0) hs hl => ?_⟩
        obtain rfl : jj = 0 := by omega
        exact ⟨_, rfl, AOp.pickT rfl rfl (hl 17 (some 11) _ (.head _) rfl) g3 rfl⟩
      · refine .inl ⟨rfl, fun s' jj bb (h1 : 0 ≤ jj) (h2 : jj ≤ 0) hs hl => ?_⟩
        obtain rfl : jj = 0 := by omega
        exact ⟨_, rfl, AOp.move (.inl rfl) rfl (hl 21 (some 15) _ (.head _) rfl)⟩
      · exact .inr ⟨(congrArg (fun b => some (b == false)) (rfl : true = _)), rfl, ⟨_, _, rfl⟩, fun d hd => by cases hd; rfl⟩
      · exact .inr ⟨(congrArg (fun b => some (b == false)) (rfl : true = _)), rfl, ⟨_, _, rfl⟩, fun d hd => by cases hd; rfl⟩
      · exact .inr ⟨(congrArg (fun b => some (b == false)) (rfl : true = _)), rfl, ⟨_, _, rfl⟩, fun d hd => by cases hd; rfl⟩
      · exact .inr ⟨(congrArg (fun b => some (b == false)) (rfl : true = _)), rfl, ⟨_, _, rfl⟩, fun d hd => by cases hd; rfl⟩
      · exact .inr ⟨(congrArg (fun b => some (b == false)) (rfl : true = _)), rfl, ⟨_, _, rfl⟩, fun d hd => by cases hd; rfl⟩
      · exact .inr ⟨(congrArg (fun b => some (b == false)) (rfl : true = _)), rfl, ⟨_, _, rfl⟩, fun d hd => by cases hd; rfl⟩
      · exact .inr ⟨(congrArg (fun b => some (b == false)) (rfl : true = _)), rfl, ⟨_, _, rfl⟩, fun d hd => by cases hd; rfl⟩
      · exact .inr ⟨(congrArg (fun b => some (b == false)) (rfl : true = _)), rfl, ⟨_, _, rfl⟩, fun d hd => by cases hd; rfl⟩
      · exact .inr ⟨(congrArg (fun b => some (b == false)) (rfl : true = _)), rfl, ⟨_, _, rfl⟩, fun d hd => by cases hd; rfl⟩
      · exact .inr ⟨(congrArg (fun b => some (b == false)) (rfl : true = _)), rfl, ⟨_, _, rfl⟩, fun d hd => by cases hd; rfl⟩
      · exact .inr ⟨(congrArg (fun b => some (b == false)) (rfl : true = _)), rfl, ⟨_, _, rfl⟩, fun d hd => by cases hd; rfl⟩
      · refine .inl ⟨rfl, fun s' jj bb (h1 : 0 ≤ jj) (h2 : jj ≤ 0) hs hl => ?_⟩
        obtain rfl : jj = 0 := by omega
        exact ⟨_, rfl, AOp.pickT rfl rfl (hl 22 (some 16) _ (.head _) rfl) rfl rfl⟩
      refine AWP.cond rfl (fun h4 => ?_) (fun h4 => ?_)
      · skip
        have h4b := h4
        try simp only [Bool.and_eq_true, Bool.or_eq_true, Bool.and_eq_false_iff, Bool.or_eq_false_iff, decide_eq_true_eq, decide_eq_false_iff_not, Bool.not_eq_true', Bool.not_eq_false', Bool.not_eq_eq_eq_not, Bool.not_true, Bool.not_false, ge_iff_le, gt_iff_lt, Int.not_lt, Int.not_le] at h4b
        refine AWP.seq ?_
        refine AWP.region_lit ?_
        refine AL.cons rfl (AOp.build rfl rfl zr113 pl113 rfl rfl) ?_
        refine AL.cons rfl (AOp.storePtr (cs := [.t (.leaf (.string (⟨#[]⟩))), .nil, .t (.leaf (.int .i64 (0))), .t (.leaf (.string (⟨#[]⟩))), .nil, .nil, .t (.leaf (.bool (false))), .t (.leaf (.bool (false))), .t (.leaf (.int .i64 (0))), .t (.leaf (.string (⟨#[]⟩))), .nil, .nil]) (ds := [.t (.leaf (.string (⟨#[]⟩))), .nil, .t (.leaf (.int .i64 (0))), .t (.leaf (.string (⟨#[]⟩))), .nil, .nil, .t (.leaf (.bool (false))), .t (.leaf (.bool (false))), .t (.leaf (.int .i64 (0))), .t (.leaf (.string (⟨#[]⟩))), .nil, .nil]) rfl rfl rfl rfl rfl rfl rfl sz113 (Nat.le_of_ble_eq_true rfl) rfl) ?_
        refine AL.cons rfl (AOp.move (.inr rfl) rfl rfl) ?_
        refine AL.nil ?_
        refine AWP.ret ?_
        exact Ends.mk (ps := [_, _]) (.inr rfl) ⟨⟨_, _, _, rfl, rfl, sh113, rfl, rfl⟩, rfl, trivial⟩ rfl (StLe.mk' (st' := ⟨[], []⟩) trivial rfl) (keeps_nil hC) (q := PV.tup [GInstance.pv GInstance.zero, .t (.leaf (.bool (false)))]) leA rfl ⟨by exact optInst_none (by first | exact instAt_m1 (by omega) | exact instAt_m2 (by omega) (by omega)), rfl⟩
      · skip
        exact absurd (h4.symm.trans rfl) (by decide)
    · skip
      have g3b := g3
      try simp only [Bool.and_eq_true, Bool.or_eq_true, Bool.and_eq_false_iff, Bool.or_eq_false_iff, decide_eq_true_eq, decide_eq_false_iff_not, Bool.not_eq_true', Bool.not_eq_false', Bool.not_eq_eq_eq_not, Bool.not_true, Bool.not_false, ge_iff_le, gt_iff_lt, Int.not_lt, Int.not_le] at g3b
      rcases bool2 (decide ((o.gAt : Int) < 0)) with g5 | g5
      · skip
        have g5b := g5
        try simp only [Bool.and_eq_true, Bool.or_eq_true, Bool.and_eq_false_iff, Bool.or_eq_false_iff, decide_eq_true_eq, decide_eq_false_iff_not, Bool.not_eq_true', Bool.not_eq_false', Bool.not_eq_eq_eq_not, Bool.not_true, Bool.not_false, ge_iff_le, gt_iff_lt, Int.not_lt, Int.not_le] at g5b
        refine AWP.drawnL ⟨_, _, fun _ _ => (⟨[some ⟨31, [.t (.row 6 (GPackage.trs (w.gPackages)))]⟩, some ⟨33, [.t (.leaf (.int .i64 (o.gPackage))), .t (.leaf (.int .i64 (o.gAt)))]⟩, some ⟨113, [.t (.leaf (.string (⟨#[]⟩))), .nil, .t (.leaf (.int .i64 (0))), .t (.leaf (.string (⟨#[]⟩))), .nil, .nil, .t (.leaf (.bool (false))), .t (.leaf (.bool (false))), .t (.leaf (.int .i64 (0))), .t (.leaf (.string (⟨#[]⟩))), .nil, .nil]⟩], []⟩ : Sto), fun q' => ([some (.ptr 1 0), some (.t (.leaf (.int .i64 (o.gPackage)))), some (.t (.leaf (.bool (decide ((o.gPackage : Int) < 0))))), some (.t (.leaf (.bool (decide ((o.gPackage : Int) < 0))))), some (.ptr 1 0), some (.t (.leaf (.int .i64 (o.gPackage)))), some (.ptr 0 0), some (.t (.row 6 (GPackage.trs (w.gPackages)))), some (.t (.leaf (.int .i64 (((w.gPackages.length : Nat) : Int))))), some (.t (.leaf (.bool (decide ((o.gPackage : Int) ≥ ((w.gPackages.length : Nat) : Int)))))), some (.t (.leaf (.bool (decide ((o.gPackage : Int) ≥ ((w.gPackages.length : Nat) : Int)))))), some (.t (.leaf (.bool (decide ((o.gPackage : Int) ≥ ((w.gPackages.length : Nat) : Int)))))), some (.ptr 1 1), some (.t (.leaf (.int .i64 (o.gAt)))), some (.t (.leaf (.bool (decide ((o.gAt : Int) < 0))))), some (.t (.leaf (.bool (decide ((o.gAt : Int) < 0))))), some (.t (.leaf (.bool (decide ((o.gAt : Int) < 0))))), none, none, none, none, none, none, none, none, none, none, none, some (.t (.leaf (.bool (true))))] : List (Option PV)).getD q' none, fun q' => ([.q 0 0, .q 0 0, .q 0 0, .q 0 0, .q 0 0, .q 0 0, .q 0 0, .q 0 0, .q 0 0, .q 0 0, .q 0 0, .q 0 0, .q 0 0, .q 0 0, .q 0 0, .q 0 0, .q 0 0, .q 0 0, .q 0 0, .q 0 0, .q 0 0, .q 0 0, .q 0 0, .q 0 0, .q 0 0, .q 0 0, .q 0 0, .q 0 0, .q 0 0] : List DK).getD q' (.q 0 0), [], none, fun q' => ([[(3, none)], [(6, some 0)], [(7, some 1)], [(8, some 2)], [(3, none)], [(10, some 4)], [(2, none)], [(12, some 6)], [(13, some 7)], [(11, some 5), (14, some 8)], [(9, some 3), (15, some 9)], [(16, some 10)], [(3, none)], [(18, some 12)], [(19, some 13)], [(17, some 11), (20, some 14)], [(21, some 15)], [], [], [], [], [], [], [], [], [], [], [], [(22, some 16)]] : List (List (Nat × Option Nat))).getD q' []⟩ rfl mixed (by kernel_rfl) rfl rfl ⟨?_, ?_, ?_, ?_, ?_, ?_, ?_, ?_, ?_, ?_, ?_, ?_, ?_, ?_, ?_, ?_, ?_, ?_, ?_, ?_, ?_, ?_, ?_, ?_, ?_, ?_, ?_, ?_, ?_, trivial⟩ rfl ?_
        · refine .inl ⟨rfl, fun s' jj bb (h1 : 0 ≤ jj) (h2 : jj ≤ 0) hs hl => ?_⟩
          obtain rfl : jj = 0 := by omega
          exact ⟨_, rfl, AOp.fieldPtr (k := 1) (d := 0) (e := 0) rfl rfl (hl 3 none _ (.head _) rfl) fo33_0⟩
        · refine .inl ⟨rfl, fun s' jj bb (h1 : 0 ≤ jj) (h2 : jj ≤ 0) hs hl => ?_⟩
          obtain rfl : jj = 0 := by omega
          exact ⟨_, rfl, AOp.loadPtr1 rfl rfl (hl 6 (some 0) _ (.head _) rfl) (by rw [hs]; rfl) sh3 rfl⟩
        · refine .inl ⟨rfl, fun s' jj bb (h1 : 0 ≤ jj) (h2 : jj ≤ 0) hs hl => ?_⟩
          obtain rfl : jj = 0 := by omega
          exact ⟨_, rfl, AOp.lss rfl rfl (hl 7 (some 1) _ (.head _) rfl) rfl⟩
        · refine .inl ⟨rfl, fun s' jj bb (h1 : 0 ≤ jj) (h2 : jj ≤ 0) hs hl => ?_⟩
          obtain rfl : jj = 0 := by omega
          exact ⟨_, rfl, AOp.move (.inl rfl) rfl (hl 8 (some 2) _ (.head _) rfl)⟩
        · refine .inl ⟨(congrArg (fun b => some (b == false)) g1), fun s' jj bb (h1 : 0 ≤ jj) (h2 : jj ≤ 0) hs hl => ?_⟩
          obtain rfl : jj = 0 := by omega
          exact ⟨_, rfl, AOp.fieldPtr (k := 1) (d := 0) (e := 0) rfl rfl (hl 3 none _ (.head _) rfl) fo33_0⟩
        · refine .inl ⟨(congrArg (fun b => some (b == false)) g1), fun s' jj bb (h1 : 0 ≤ jj) (h2 : jj ≤ 0) hs hl => ?_⟩
          obtain rfl : jj = 0 := by omega
          exact ⟨_, rfl, AOp.loadPtr1 rfl rfl (hl 10 (some 4) _ (.head _) rfl) (by rw [hs]; rfl) sh3 rfl⟩
        · refine .inl ⟨(congrArg (fun b => some (b == false)) g1), fun s' jj bb (h1 : 0 ≤ jj) (h2 : jj ≤ 0) hs hl => ?_⟩
          obtain rfl : jj = 0 := by omega
          exact ⟨_, rfl, AOp.fieldPtr (k := 0) (d := 0) (e := 0) rfl rfl (hl 2 none _ (.head _) rfl) fo31_0⟩
        · refine .inl ⟨(congrArg (fun b => some (b == false)) g1), fun s' jj bb (h1 : 0 ≤ jj) (h2 : jj ≤ 0) hs hl => ?_⟩
          obtain rfl : jj = 0 := by omega
          exact ⟨_, rfl, AOp.loadPtr1 rfl rfl (hl 12 (some 6) _ (.head _) rfl) (by rw [hs]; rfl) sh29 rfl⟩
        · refine .inl ⟨(congrArg (fun b => some (b == false)) g1), fun s' jj bb (h1 : 0 ≤ jj) (h2 : jj ≤ 0) hs hl => ?_⟩
          obtain rfl : jj = 0 := by omega
          exact ⟨_, rfl, AOp.lenN rfl rfl (hl 13 (some 7) _ (.head _) rfl) rfl el29 (GPackage.trs_len _)⟩
        · refine .inl ⟨(congrArg (fun b => some (b == false)) g1), fun s' jj bb (h1 : 0 ≤ jj) (h2 : jj ≤ 0) hs hl => ?_⟩
          obtain rfl : jj = 0 := by omega
          exact ⟨_, rfl, AOp.geq rfl rfl (hl 11 (some 5) _ (.head _) rfl) (hl 14 (some 8) _ (.tail _ (.head _)) rfl)⟩
        · refine .inl ⟨rfl, fun s' jj bb (h1 : 0 ≤ jj) (h2 : jj ≤ 0) hs hl => ?_⟩
          obtain rfl : jj = 0 := by omega
          exact ⟨_, rfl, AOp.pickF rfl rfl (hl 9 (some 3) _ (.head _) rfl) g1 (hl 15 (some 9) _ (.tail _ (.head _)) rfl)⟩
        · refine .inl ⟨rfl, fun s' jj bb (h1 : 0 ≤ jj) (h2 : jj ≤ 0) hs hl => ?_⟩
          obtain rfl : jj = 0 := by omega
          exact ⟨_, rfl, AOp.move (.inl rfl) rfl (hl 16 (some 10) _ (.head _) rfl)⟩
        · refine .inl ⟨(congrArg (fun b => some (b == false)) g3), fun s' jj bb (h1 : 0 ≤ jj) (h2 : jj ≤ 0) hs hl => ?_⟩
          obtain rfl : jj = 0 := by omega
          exact ⟨_, rfl, AOp.fieldPtr (k := 1) (d := 0) (e := 1) rfl rfl (hl 3 none _ (.head _) rfl) fo33_1⟩
        · refine .inl ⟨(congrArg (fun b => some (b == false)) g3), fun s' jj bb (h1 : 0 ≤ jj) (h2 : jj ≤ 0) hs hl => ?_⟩
          obtain rfl : jj = 0 := by omega
          exact ⟨_, rfl, AOp.loadPtr1 rfl rfl (hl 18 (some 12) _ (.head _) rfl) (by rw [hs]; rfl) sh3 rfl⟩
        · refine .inl ⟨(congrArg (fun b => some (b == false)) g3), fun s' jj bb (h1 : 0 ≤ jj) (h2 : jj ≤ 0) hs hl => ?_⟩
          obtain rfl : jj = 0 := by omega
          exact ⟨_, rfl, AOp.lss rfl rfl (hl 19 (some 13) _ (.head _) rfl) rfl⟩
        · refine .inl ⟨rfl, fun s' jj bb (h1 : 0 ≤ jj) (h2 : jj ≤ 0) hs hl => ?_⟩
          obtain rfl : jj = 0 := by omega
          exact ⟨_, rfl, AOp.pickF rfl rfl (hl 17 (some 11) _ (.head _) rfl) g3 (hl 20 (some 14) _ (.tail _ (.head _)) rfl)⟩
        · refine .inl ⟨rfl, fun s' jj bb (h1 : 0 ≤ jj) (h2 : jj ≤ 0) hs hl => ?_⟩
          obtain rfl : jj = 0 := by omega
          exact ⟨_, rfl, AOp.move (.inl rfl) rfl (hl 21 (some 15) _ (.head _) rfl)⟩
        · exact .inr ⟨(congrArg (fun b => some (b == false)) g5), rfl, ⟨_, _, rfl⟩, fun d hd => by cases hd; rfl⟩
        · exact .inr ⟨(congrArg (fun b => some (b == false)) g5), rfl, ⟨_, _, rfl⟩, fun d hd => by cases hd; rfl⟩
        · exact .inr ⟨(congrArg (fun b => some (b == false)) g5), rfl, ⟨_, _, rfl⟩, fun d hd => by cases hd; rfl⟩
        · exact .inr ⟨(congrArg (fun b => some (b == false)) g5), rfl, ⟨_, _, rfl⟩, fun d hd => by cases hd; rfl⟩
        · exact .inr ⟨(congrArg (fun b => some (b == false)) g5), rfl, ⟨_, _, rfl⟩, fun d hd => by cases hd; rfl⟩
        · exact .inr ⟨(congrArg (fun b => some (b == false)) g5), rfl, ⟨_, _, rfl⟩, fun d hd => by cases hd; rfl⟩
        · exact .inr ⟨(congrArg (fun b => some (b == false)) g5), rfl, ⟨_, _, rfl⟩, fun d hd => by cases hd; rfl⟩
        · exact .inr ⟨(congrArg (fun b => some (b == false)) g5), rfl, ⟨_, _, rfl⟩, fun d hd => by cases hd; rfl⟩
        · exact .inr ⟨(congrArg (fun b => some (b == false)) g5), rfl, ⟨_, _, rfl⟩, fun d hd => by cases hd; rfl⟩
        · exact .inr ⟨(congrArg (fun b => some (b == false)) g5), rfl, ⟨_, _, rfl⟩, fun d hd => by cases hd; rfl⟩
        · exact .inr ⟨(congrArg (fun b => some (b == false)) g5), rfl, ⟨_, _, rfl⟩, fun d hd => by cases hd; rfl⟩
        · refine .inl ⟨rfl, fun s' jj bb (h1 : 0 ≤ jj) (h2 : jj ≤ 0) hs hl => ?_⟩
          obtain rfl : jj = 0 := by omega
          exact ⟨_, rfl, AOp.pickT rfl rfl (hl 22 (some 16) _ (.head _) rfl) g5 rfl⟩
        refine AWP.cond rfl (fun h6 => ?_) (fun h6 => ?_)
        · skip
          have h6b := h6
          try simp only [Bool.and_eq_true, Bool.or_eq_true, Bool.and_eq_false_iff, Bool.or_eq_false_iff, decide_eq_true_eq, decide_eq_false_iff_not, Bool.not_eq_true', Bool.not_eq_false', Bool.not_eq_eq_eq_not, Bool.not_true, Bool.not_false, ge_iff_le, gt_iff_lt, Int.not_lt, Int.not_le] at h6b
          refine AWP.seq ?_
          refine AWP.region_lit ?_
          refine AL.cons rfl (AOp.build rfl rfl zr113 pl113 rfl rfl) ?_
          refine AL.cons rfl (AOp.storePtr (cs := [.t (.leaf (.string (⟨#[]⟩))), .nil, .t (.leaf (.int .i64 (0))), .t (.leaf (.string (⟨#[]⟩))), .nil, .nil, .t (.leaf (.bool (false))), .t (.leaf (.bool (false))), .t (.leaf (.int .i64 (0))), .t (.leaf (.string (⟨#[]⟩))), .nil, .nil]) (ds := [.t (.leaf (.string (⟨#[]⟩))), .nil, .t (.leaf (.int .i64 (0))), .t (.leaf (.string (⟨#[]⟩))), .nil, .nil, .t (.leaf (.bool (false))), .t (.leaf (.bool (false))), .t (.leaf (.int .i64 (0))), .t (.leaf (.string (⟨#[]⟩))), .nil, .nil]) rfl rfl rfl rfl rfl rfl rfl sz113 (Nat.le_of_ble_eq_true rfl) rfl) ?_
          refine AL.cons rfl (AOp.move (.inr rfl) rfl rfl) ?_
          refine AL.nil ?_
          refine AWP.ret ?_
          exact Ends.mk (ps := [_, _]) (.inr rfl) ⟨⟨_, _, _, rfl, rfl, sh113, rfl, rfl⟩, rfl, trivial⟩ rfl (StLe.mk' (st' := ⟨[], []⟩) trivial rfl) (keeps_nil hC) (q := PV.tup [GInstance.pv GInstance.zero, .t (.leaf (.bool (false)))]) leA rfl ⟨by exact optInst_none (by first | exact instAt_m1 (by omega) | exact instAt_m2 (by omega) (by omega)), rfl⟩
        · skip
          exact absurd (h6.symm.trans rfl) (by decide)
      · skip
        have g5b := g5
        try simp only [Bool.and_eq_true, Bool.or_eq_true, Bool.and_eq_false_iff, Bool.or_eq_false_iff, decide_eq_true_eq, decide_eq_false_iff_not, Bool.not_eq_true', Bool.not_eq_false', Bool.not_eq_eq_eq_not, Bool.not_true, Bool.not_false, ge_iff_le, gt_iff_lt, Int.not_lt, Int.not_le] at g5b
        have hn7 : (o.gPackage).toNat < w.gPackages.length := by omega
        refine AWP.drawnL ⟨_, _, fun _ _ => (⟨[some ⟨31, [.t (.row 6 (GPackage.trs (w.gPackages)))]⟩, some ⟨33, [.t (.leaf (.int .i64 (o.gPackage))), .t (.leaf (.int .i64 (o.gAt)))]⟩, some ⟨113, [.t (.leaf (.string (⟨#[]⟩))), .nil, .t (.leaf (.int .i64 (0))), .t (.leaf (.string (⟨#[]⟩))), .nil, .nil, .t (.leaf (.bool (false))), .t (.leaf (.bool (false))), .t (.leaf (.int .i64 (0))), .t (.leaf (.string (⟨#[]⟩))), .nil, .nil]⟩], []⟩ : Sto), fun q' => ([some (.ptr 1 0), some (.t (.leaf (.int .i64 (o.gPackage)))), some (.t (.leaf (.bool (decide ((o.gPackage : Int) < 0))))), some (.t (.leaf (.bool (decide ((o.gPackage : Int) < 0))))), some (.ptr 1 0), some (.t (.leaf (.int .i64 (o.gPackage)))), some (.ptr 0 0), some (.t (.row 6 (GPackage.trs (w.gPackages)))), some (.t (.leaf (.int .i64 (((w.gPackages.length : Nat) : Int))))), some (.t (.leaf (.bool (decide ((o.gPackage : Int) ≥ ((w.gPackages.length : Nat) : Int)))))), some (.t (.leaf (.bool (decide ((o.gPackage : Int) ≥ ((w.gPackages.length : Nat) : Int)))))), some (.t (.leaf (.bool (decide ((o.gPackage : Int) ≥ ((w.gPackages.length : Nat) : Int)))))), some (.ptr 1 1), some (.t (.leaf (.int .i64 (o.gAt)))), some (.t (.leaf (.bool (decide ((o.gAt : Int) < 0))))), some (.t (.leaf (.bool (decide ((o.gAt : Int) < 0))))), some (.t (.leaf (.bool (decide ((o.gAt : Int) < 0))))), some (.ptr 1 1), some (.t (.leaf (.int .i64 (o.gAt)))), some (.ptr 0 0), some (.t (.row 6 (GPackage.trs (w.gPackages)))), some (.ptr 1 0), some (.t (.leaf (.int .i64 (o.gPackage)))), some (.eptr (GPackage.cs (w.gPackages[(o.gPackage).toNat]))), some (.eptr ((GPackage.cs (w.gPackages[(o.gPackage).toNat])).drop 4)), some (.t (.row 12 (GInstance.trs ((w.gPackages[(o.gPackage).toNat]).gInstances)))), some (.t (.leaf (.int .i64 (((((w.gPackages[(o.gPackage).toNat]).gInstances).length : Nat) : Int))))), some (.t (.leaf (.bool (decide ((o.gAt : Int) ≥ ((((w.gPackages[(o.gPackage).toNat]).gInstances).length : Nat) : Int)))))), some (.t (.leaf (.bool (decide ((o.gAt : Int) ≥ ((((w.gPackages[(o.gPackage).toNat]).gInstances).length : Nat) : Int))))))] : List (Option PV)).getD q' none, fun q' => ([.q 0 0, .q 0 0, .q 0 0, .q 0 0, .q 0 0, .q 0 0, .q 0 0, .q 0 0, .q 0 0, .q 0 0, .q 0 0, .q 0 0, .q 0 0, .q 0 0, .q 0 0, .q 0 0, .q 0 0, .q 0 0, .q 0 0, .q 0 0, .q 0 0, .q 0 0, .q 0 0, .q 0 0, .q 0 0, .q 0 0, .q 0 0, .q 0 0, .q 0 0] : List DK).getD q' (.q 0 0), [], none, fun q' => ([[(3, none)], [(6, some 0)], [(7, some 1)], [(8, some 2)], [(3, none)], [(10, some 4)], [(2, none)], [(12, some 6)], [(13, some 7)], [(11, some 5), (14, some 8)], [(9, some 3), (15, some 9)], [(16, some 10)], [(3, none)], [(18, some 12)], [(19, some 13)], [(17, some 11), (20, some 14)], [(21, some 15)], [(3, none)], [(23, some 17)], [(2, none)], [(25, some 19)], [(3, none)], [(27, some 21)], [(26, some 20), (28, some 22)], [(29, some 23)], [(30, some 24)], [(31, some 25)], [(24, some 18), (32, some 26)], [(22, some 16), (33, some 27)]] : List (List (Nat × Option Nat))).getD q' []⟩ rfl mixed (by kernel_rfl) rfl rfl ⟨?_, ?_, ?_, ?_, ?_, ?_, ?_, ?_, ?_, ?_, ?_, ?_, ?_, ?_, ?_, ?_, ?_, ?_, ?_, ?_, ?_, ?_, ?_, ?_, ?_, ?_, ?_, ?_, ?_, trivial⟩ rfl ?_
        · refine .inl ⟨rfl, fun s' jj bb (h1 : 0 ≤ jj) (h2 : jj ≤ 0) hs hl => ?_⟩
          obtain rfl : jj = 0 := by omega
          exact ⟨_, rfl, AOp.fieldPtr (k := 1) (d := 0) (e := 0) rfl rfl (hl 3 none _ (.head _) rfl) fo33_0⟩
        · refine .inl ⟨rfl, fun s' jj bb (h1 : 0 ≤ jj) (h2 : jj ≤ 0) hs hl => ?_⟩
          obtain rfl : jj = 0 := by omega
          exact ⟨_, rfl, AOp.loadPtr1 rfl rfl (hl 6 (some 0) _ (.head _) rfl) (by rw [hs]; rfl) sh3 rfl⟩
        · refine .inl ⟨rfl, fun s' jj bb (h1 : 0 ≤ jj) (h2 : jj ≤ 0) hs hl => ?_⟩
          obtain rfl : jj = 0 := by omega
          exact ⟨_, rfl, AOp.lss rfl rfl (hl 7 (some 1) _ (.head _) rfl) rfl⟩
        · refine .inl ⟨rfl, fun s' jj bb (h1 : 0 ≤ jj) (h2 : jj ≤ 0) hs hl => ?_⟩
          obtain rfl : jj = 0 := by omega
          exact ⟨_, rfl, AOp.move (.inl rfl) rfl (hl 8 (some 2) _ (.head _) rfl)⟩
        · refine .inl ⟨(congrArg (fun b => some (b == false)) g1), fun s' jj bb (h1 : 0 ≤ jj) (h2 : jj ≤ 0) hs hl => ?_⟩
          obtain rfl : jj = 0 := by omega
          exact ⟨_, rfl, AOp.fieldPtr (k := 1) (d := 0) (e := 0) rfl rfl (hl 3 none _ (.head _) rfl) fo33_0⟩
        · refine .inl ⟨(congrArg (fun b => some (b == false)) g1), fun s' jj bb (h1 : 0 ≤ jj) (h2 : jj ≤ 0) hs hl => ?_⟩
          obtain rfl : jj = 0 := by omega
          exact ⟨_, rfl, AOp.loadPtr1 rfl rfl (hl 10 (some 4) _ (.head _) rfl) (by rw [hs]; rfl) sh3 rfl⟩
        · refine .inl ⟨(congrArg (fun b => some (b == false)) g1), fun s' jj bb (h1 : 0 ≤ jj) (h2 : jj ≤ 0) hs hl => ?_⟩
          obtain rfl : jj = 0 := by omega
          exact ⟨_, rfl, AOp.fieldPtr (k := 0) (d := 0) (e := 0) rfl rfl (hl 2 none _ (.head _) rfl) fo31_0⟩
        · refine .inl ⟨(congrArg (fun b => some (b == false)) g1), fun s' jj bb (h1 : 0 ≤ jj) (h2 : jj ≤ 0) hs hl => ?_⟩
          obtain rfl : jj = 0 := by omega
          exact ⟨_, rfl, AOp.loadPtr1 rfl rfl (hl 12 (some 6) _ (.head _) rfl) (by rw [hs]; rfl) sh29 rfl⟩
        · refine .inl ⟨(congrArg (fun b => some (b == false)) g1), fun s' jj bb (h1 : 0 ≤ jj) (h2 : jj ≤ 0) hs hl => ?_⟩
          obtain rfl : jj = 0 := by omega
          exact ⟨_, rfl, AOp.lenN rfl rfl (hl 13 (some 7) _ (.head _) rfl) rfl el29 (GPackage.trs_len _)⟩
        · refine .inl ⟨(congrArg (fun b => some (b == false)) g1), fun s' jj bb (h1 : 0 ≤ jj) (h2 : jj ≤ 0) hs hl => ?_⟩
          obtain rfl : jj = 0 := by omega
          exact ⟨_, rfl, AOp.geq rfl rfl (hl 11 (some 5) _ (.head _) rfl) (hl 14 (some 8) _ (.tail _ (.head _)) rfl)⟩
        · refine .inl ⟨rfl, fun s' jj bb (h1 : 0 ≤ jj) (h2 : jj ≤ 0) hs hl => ?_⟩
          obtain rfl : jj = 0 := by omega
          exact ⟨_, rfl, AOp.pickF rfl rfl (hl 9 (some 3) _ (.head _) rfl) g1 (hl 15 (some 9) _ (.tail _ (.head _)) rfl)⟩
        · refine .inl ⟨rfl, fun s' jj bb (h1 : 0 ≤ jj) (h2 : jj ≤ 0) hs hl => ?_⟩
          obtain rfl : jj = 0 := by omega
          exact ⟨_, rfl, AOp.move (.inl rfl) rfl (hl 16 (some 10) _ (.head _) rfl)⟩
        · refine .inl ⟨(congrArg (fun b => some (b == false)) g3), fun s' jj bb (h1 : 0 ≤ jj) (h2 : jj ≤ 0) hs hl => ?_⟩
          obtain rfl : jj = 0 := by omega
          exact ⟨_, rfl, AOp.fieldPtr (k := 1) (d := 0) (e := 1) rfl rfl (hl 3 none _ (.head _) rfl) fo33_1⟩
        · refine .inl ⟨(congrArg (fun b => some (b == false)) g3), fun s' jj bb (h1 : 0 ≤ jj) (h2 : jj ≤ 0) hs hl => ?_⟩
          obtain rfl : jj = 0 := by omega
          exact ⟨_, rfl, AOp.loadPtr1 rfl rfl (hl 18 (some 12) _ (.head _) rfl) (by rw [hs]; rfl) sh3 rfl⟩
        · refine .inl ⟨(congrArg (fun b => some (b == false)) g3), fun s' jj bb (h1 : 0 ≤ jj) (h2 : jj ≤ 0) hs hl => ?_⟩
          obtain rfl : jj = 0 := by omega
          exact ⟨_, rfl, AOp.lss rfl rfl (hl 19 (some 13) _ (.head _) rfl) rfl⟩
        · refine .inl ⟨rfl, fun s' jj bb (h1 : 0 ≤ jj) (h2 : jj ≤ 0) hs hl => ?_⟩
          obtain rfl : jj = 0 := by omega
          exact ⟨_, rfl, AOp.pickF rfl rfl (hl 17 (some 11) _ (.head _) rfl) g3 (hl 20 (some 14) _ (.tail _ (.head _)) rfl)⟩
        · refine .inl ⟨rfl, fun s' jj bb (h1 : 0 ≤ jj) (h2 : jj ≤ 0) hs hl => ?_⟩
          obtain rfl : jj = 0 := by omega
          exact ⟨_, rfl, AOp.move (.inl rfl) rfl (hl 21 (some 15) _ (.head _) rfl)⟩
        · refine .inl ⟨(congrArg (fun b => some (b == false)) g5), fun s' jj bb (h1 : 0 ≤ jj) (h2 : jj ≤ 0) hs hl => ?_⟩
          obtain rfl : jj = 0 := by omega
          exact ⟨_, rfl, AOp.fieldPtr (k := 1) (d := 0) (e := 1) rfl rfl (hl 3 none _ (.head _) rfl) fo33_1⟩
        · refine .inl ⟨(congrArg (fun b => some (b == false)) g5), fun s' jj bb (h1 : 0 ≤ jj) (h2 : jj ≤ 0) hs hl => ?_⟩
          obtain rfl : jj = 0 := by omega
          exact ⟨_, rfl, AOp.loadPtr1 rfl rfl (hl 23 (some 17) _ (.head _) rfl) (by rw [hs]; rfl) sh3 rfl⟩
        · refine .inl ⟨(congrArg (fun b => some (b == false)) g5), fun s' jj bb (h1 : 0 ≤ jj) (h2 : jj ≤ 0) hs hl => ?_⟩
          obtain rfl : jj = 0 := by omega
          exact ⟨_, rfl, AOp.fieldPtr (k := 0) (d := 0) (e := 0) rfl rfl (hl 2 none _ (.head _) rfl) fo31_0⟩
        · refine .inl ⟨(congrArg (fun b => some (b == false)) g5), fun s' jj bb (h1 : 0 ≤ jj) (h2 : jj ≤ 0) hs hl => ?_⟩
          obtain rfl : jj = 0 := by omega
          exact ⟨_, rfl, AOp.loadPtr1 rfl rfl (hl 25 (some 19) _ (.head _) rfl) (by rw [hs]; rfl) sh29 rfl⟩
        · refine .inl ⟨(congrArg (fun b => some (b == false)) g5), fun s' jj bb (h1 : 0 ≤ jj) (h2 : jj ≤ 0) hs hl => ?_⟩
          obtain rfl : jj = 0 := by omega
          exact ⟨_, rfl, AOp.fieldPtr (k := 1) (d := 0) (e := 0) rfl rfl (hl 3 none _ (.head _) rfl) fo33_0⟩
        · refine .inl ⟨(congrArg (fun b => some (b == false)) g5), fun s' jj bb (h1 : 0 ≤ jj) (h2 : jj ≤ 0) hs hl => ?_⟩
          obtain rfl : jj = 0 := by omega
          exact ⟨_, rfl, AOp.loadPtr1 rfl rfl (hl 27 (some 21) _ (.head _) rfl) (by rw [hs]; rfl) sh3 rfl⟩
        · refine .inl ⟨(congrArg (fun b => some (b == false)) g5), fun s' jj bb (h1 : 0 ≤ jj) (h2 : jj ≤ 0) hs hl => ?_⟩
          obtain rfl : jj = 0 := by omega
          exact ⟨_, rfl, AOp.indexI (y := o.gPackage) rfl rfl (hl 26 (some 20) _ (.head _) rfl) rfl (hl 28 (some 22) _ (.tail _ (.head _)) rfl) (by omega) (GPackage.trs_cs hn7) el29⟩
        · refine .inl ⟨(congrArg (fun b => some (b == false)) g5), fun s' jj bb (h1 : 0 ≤ jj) (h2 : jj ≤ 0) hs hl => ?_⟩
          obtain rfl : jj = 0 := by omega
          exact ⟨_, rfl, AOp.fieldEptr (cs := (GPackage.cs (w.gPackages[(o.gPackage).toNat]))) (e := 4) rfl rfl (hl 29 (some 23) _ (.head _) rfl) fo126_4⟩
        · refine .inl ⟨(congrArg (fun b => some (b == false)) g5), fun s' jj bb (h1 : 0 ≤ jj) (h2 : jj ≤ 0) hs hl => ?_⟩
          obtain rfl : jj = 0 := by omega
          exact ⟨_, rfl, AOp.loadEptr1 (d := .row 12 (GInstance.trs ((w.gPackages[(o.gPackage).toNat]).gInstances))) rfl rfl (hl 30 (some 24) _ (.head _) rfl) sh123 rfl⟩
        · refine .inl ⟨(congrArg (fun b => some (b == false)) g5), fun s' jj bb (h1 : 0 ≤ jj) (h2 : jj ≤ 0) hs hl => ?_⟩
          obtain rfl : jj = 0 := by omega
          exact ⟨_, rfl, AOp.lenN rfl rfl (hl 31 (some 25) _ (.head _) rfl) rfl el123 (GInstance.trs_len _)⟩
        · refine .inl ⟨(congrArg (fun b => some (b == false)) g5), fun s' jj bb (h1 : 0 ≤ jj) (h2 : jj ≤ 0) hs hl => ?_⟩
          obtain rfl : jj = 0 := by omega
          exact ⟨_, rfl, AOp.geq rfl rfl (hl 24 (some 18) _ (.head _) rfl) (hl 32 (some 26) _ (.tail _ (.head _)) rfl)⟩
        · refine .inl ⟨rfl, fun s' jj bb (h1 : 0 ≤ jj) (h2 : jj ≤ 0) hs hl => ?_⟩
          obtain rfl : jj = 0 := by omega
          exact ⟨_, rfl, AOp.pickF rfl rfl (hl 22 (some 16) _ (.head _) rfl) g5 (hl 33 (some 27) _ (.tail _ (.head _)) rfl)⟩
        refine AWP.cond rfl (fun h8 => ?_) (fun h8 => ?_)
        · skip
          have h8b := h8
          try simp only [Bool.and_eq_true, Bool.or_eq_true, Bool.and_eq_false_iff, Bool.or_eq_false_iff, decide_eq_true_eq, decide_eq_false_iff_not, Bool.not_eq_true', Bool.not_eq_false', Bool.not_eq_eq_eq_not, Bool.not_true, Bool.not_false, ge_iff_le, gt_iff_lt, Int.not_lt, Int.not_le] at h8b
          refine AWP.seq ?_
          refine AWP.region_lit ?_
          refine AL.cons rfl (AOp.build rfl rfl zr113 pl113 rfl rfl) ?_
          refine AL.cons rfl (AOp.storePtr (cs := [.t (.leaf (.string (⟨#[]⟩))), .nil, .t (.leaf (.int .i64 (0))), .t (.leaf (.string (⟨#[]⟩))), .nil, .nil, .t (.leaf (.bool (false))), .t (.leaf (.bool (false))), .t (.leaf (.int .i64 (0))), .t (.leaf (.string (⟨#[]⟩))), .nil, .nil]) (ds := [.t (.leaf (.string (⟨#[]⟩))), .nil, .t (.leaf (.int .i64 (0))), .t (.leaf (.string (⟨#[]⟩))), .nil, .nil, .t (.leaf (.bool (false))), .t (.leaf (.bool (false))), .t (.leaf (.int .i64 (0))), .t (.leaf (.string (⟨#[]⟩))), .nil, .nil]) rfl rfl rfl rfl rfl rfl rfl sz113 (Nat.le_of_ble_eq_true rfl) rfl) ?_
          refine AL.cons rfl (AOp.move (.inr rfl) rfl rfl) ?_
          refine AL.nil ?_
          refine AWP.ret ?_
          exact Ends.mk (ps := [_, _]) (.inr rfl) ⟨⟨_, _, _, rfl, rfl, sh113, rfl, rfl⟩, rfl, trivial⟩ rfl (StLe.mk' (st' := ⟨[], []⟩) trivial rfl) (keeps_nil hC) (q := PV.tup [GInstance.pv GInstance.zero, .t (.leaf (.bool (false)))]) leA rfl ⟨by exact optInst_none (by first | exact instAt_m1 (by omega) | exact instAt_m2 (by omega) (by omega)), rfl⟩
        · skip
          have h8b := h8
          try simp only [Bool.and_eq_true, Bool.or_eq_true, Bool.and_eq_false_iff, Bool.or_eq_false_iff, decide_eq_true_eq, decide_eq_false_iff_not, Bool.not_eq_true', Bool.not_eq_false', Bool.not_eq_eq_eq_not, Bool.not_true, Bool.not_false, ge_iff_le, gt_iff_lt, Int.not_lt, Int.not_le] at h8b
          refine AWP.skip ?_
          refine AWP.seq ?_
          have hn9 : (o.gAt).toNat < ((w.gPackages[(o.gPackage).toNat]).gInstances).length := by omega
          refine AWP.drawnL ⟨_, _, fun j' _ => ([(⟨[some ⟨31, [.t (.row 6 (GPackage.trs (w.gPackages)))]⟩, some ⟨33, [.t (.leaf (.int .i64 (o.gPackage))), .t (.leaf (.int .i64 (o.gAt)))]⟩, some ⟨113, [.t (.leaf (.string (⟨#[]⟩))), .nil, .t (.leaf (.int .i64 (0))), .t (.leaf (.string (⟨#[]⟩))), .nil, .nil, .t (.leaf (.bool (false))), .t (.leaf (.bool (false))), .t (.leaf (.int .i64 (0))), .t (.leaf (.string (⟨#[]⟩))), .nil, .nil]⟩], []⟩ : Sto), (⟨[some ⟨31, [.t (.row 6 (GPackage.trs (w.gPackages)))]⟩, some ⟨33, [.t (.leaf (.int .i64 (o.gPackage))), .t (.leaf (.int .i64 (o.gAt)))]⟩, some ⟨113, [.t (.leaf (.string ((((w.gPackages[(o.gPackage).toNat]).gInstances)[(o.gAt).toNat]).gTrait))), .t (.row 1 (strTrs ((((w.gPackages[(o.gPackage).toNat]).gInstances)[(o.gAt).toNat]).gVars))), .t (.leaf (.int .i64 ((((w.gPackages[(o.gPackage).toNat]).gInstances)[(o.gAt).toNat]).gHead.gKind))), .t (.leaf (.string ((((w.gPackages[(o.gPackage).toNat]).gInstances)[(o.gAt).toNat]).gHead.gName))), .t (.row 3 (GType.trs ((((w.gPackages[(o.gPackage).toNat]).gInstances)[(o.gAt).toNat]).gHead.gArgs))), .t (.row 4 (GBound.trs ((((w.gPackages[(o.gPackage).toNat]).gInstances)[(o.gAt).toNat]).gWhere))), .t (.leaf (.bool ((((w.gPackages[(o.gPackage).toNat]).gInstances)[(o.gAt).toNat]).gDefault))), .t (.leaf (.bool ((((w.gPackages[(o.gPackage).toNat]).gInstances)[(o.gAt).toNat]).gHasAssoc))), .t (.leaf (.int .i64 ((((w.gPackages[(o.gPackage).toNat]).gInstances)[(o.gAt).toNat]).gAssoc.gKind))), .t (.leaf (.string ((((w.gPackages[(o.gPackage).toNat]).gInstances)[(o.gAt).toNat]).gAssoc.gName))), .t (.row 3 (GType.trs ((((w.gPackages[(o.gPackage).toNat]).gInstances)[(o.gAt).toNat]).gAssoc.gArgs))), .t (.row 11 (GMethod.trs ((((w.gPackages[(o.gPackage).toNat]).gInstances)[(o.gAt).toNat]).gMethods)))]⟩], []⟩ : Sto)] : List Sto).getD j' (⟨[some ⟨31, [.t (.row 6 (GPackage.trs (w.gPackages)))]⟩, some ⟨33, [.t (.leaf (.int .i64 (o.gPackage))), .t (.leaf (.int .i64 (o.gAt)))]⟩, some ⟨113, [.t (.leaf (.string ((((w.gPackages[(o.gPackage).toNat]).gInstances)[(o.gAt).toNat]).gTrait))), .t (.row 1 (strTrs ((((w.gPackages[(o.gPackage).toNat]).gInstances)[(o.gAt).toNat]).gVars))), .t (.leaf (.int .i64 ((((w.gPackages[(o.gPackage).toNat]).gInstances)[(o.gAt).toNat]).gHead.gKind))), .t (.leaf (.string ((((w.gPackages[(o.gPackage).toNat]).gInstances)[(o.gAt).toNat]).gHead.gName))), .t (.row 3 (GType.trs ((((w.gPackages[(o.gPackage).toNat]).gInstances)[(o.gAt).toNat]).gHead.gArgs))), .t (.row 4 (GBound.trs ((((w.gPackages[(o.gPackage).toNat]).gInstances)[(o.gAt).toNat]).gWhere))), .t (.leaf (.bool ((((w.gPackages[(o.gPackage).toNat]).gInstances)[(o.gAt).toNat]).gDefault))), .t (.leaf (.bool ((((w.gPackages[(o.gPackage).toNat]).gInstances)[(o.gAt).toNat]).gHasAssoc))), .t (.leaf (.int .i64 ((((w.gPackages[(o.gPackage).toNat]).gInstances)[(o.gAt).toNat]).gAssoc.gKind))), .t (.leaf (.string ((((w.gPackages[(o.gPackage).toNat]).gInstances)[(o.gAt).toNat]).gAssoc.gName))), .t (.row 3 (GType.trs ((((w.gPackages[(o.gPackage).toNat]).gInstances)[(o.gAt).toNat]).gAssoc.gArgs))), .t (.row 11 (GMethod.trs ((((w.gPackages[(o.gPackage).toNat]).gInstances)[(o.gAt).toNat]).gMethods)))]⟩], []⟩ : Sto), fun q' => ([some (.ptr 0 0), some (.t (.row 6 (GPackage.trs (w.gPackages)))), some (.ptr 1 0), some (.t (.leaf (.int .i64 (o.gPackage)))), some (.eptr (GPackage.cs (w.gPackages[(o.gPackage).toNat]))), some (.eptr ((GPackage.cs (w.gPackages[(o.gPackage).toNat])).drop 4)), some (.t (.row 12 (GInstance.trs ((w.gPackages[(o.gPackage).toNat]).gInstances)))), some (.ptr 1 1), some (.t (.leaf (.int .i64 (o.gAt)))), some (.eptr (GInstance.cs (((w.gPackages[(o.gPackage).toNat]).gInstances)[(o.gAt).toNat]))), some ((GInstance.pv (((w.gPackages[(o.gPackage).toNat]).gInstances)[(o.gAt).toNat]))), none, some (.t (.leaf (.bool (true))))] : List (Option PV)).getD q' none, fun q' => ([.q 0 0, .q 0 0, .q 0 0, .q 0 0, .q 0 0, .q 0 0, .q 0 0, .q 0 0, .q 0 0, .q 0 0, .q 0 0, .ef 0, .q 1 1] : List DK).getD q' (.q 0 0), [11], none, fun q' => ([[(2, none)], [(36, some 0)], [(3, none)], [(38, some 2)], [(37, some 1), (39, some 3)], [(40, some 4)], [(41, some 5)], [(3, none)], [(43, some 7)], [(42, some 6), (44, some 8)], [(45, some 9)], [(4, none), (46, some 10)], []] : List (List (Nat × Option Nat))).getD q' []⟩ rfl mixed (by kernel_rfl) rfl rfl ⟨?_, ?_, ?_, ?_, ?_, ?_, ?_, ?_, ?_, ?_, ?_, ?_, ?_, trivial⟩ rfl ?_
          · refine .inl ⟨rfl, fun s' jj bb (h1 : 0 ≤ jj) (h2 : jj ≤ 0) hs hl => ?_⟩
            obtain rfl : jj = 0 := by omega
            exact ⟨_, rfl, AOp.fieldPtr (k := 0) (d := 0) (e := 0) rfl rfl (hl 2 none _ (.head _) rfl) fo31_0⟩
          · refine .inl ⟨rfl, fun s' jj bb (h1 : 0 ≤ jj) (h2 : jj ≤ 0) hs hl => ?_⟩
            obtain rfl : jj = 0 := by omega
            exact ⟨_, rfl, AOp.loadPtr1 rfl rfl (hl 36 (some 0) _ (.head _) rfl) (by rw [hs]; rfl) sh29 rfl⟩
          · refine .inl ⟨rfl, fun s' jj bb (h1 : 0 ≤ jj) (h2 : jj ≤ 0) hs hl => ?_⟩
            obtain rfl : jj = 0 := by omega
            exact ⟨_, rfl, AOp.fieldPtr (k := 1) (d := 0) (e := 0) rfl rfl (hl 3 none _ (.head _) rfl) fo33_0⟩
          · refine .inl ⟨rfl, fun s' jj bb (h1 : 0 ≤ jj) (h2 : jj ≤ 0) hs hl => ?_⟩
            obtain rfl : jj = 0 := by omega
            exact ⟨_, rfl, AOp.loadPtr1 rfl rfl (hl 38 (some 2) _ (.head _) rfl) (by rw [hs]; rfl) sh3 rfl⟩
          · refine .inl ⟨rfl, fun s' jj bb (h1 : 0 ≤ jj) (h2 : jj ≤ 0) hs hl => ?_⟩
            obtain rfl : jj = 0 := by omega
            exact ⟨_, rfl, AOp.indexI (y := o.gPackage) rfl rfl (hl 37 (some 1) _ (.head _) rfl) rfl (hl 39 (some 3) _ (.tail _ (.head _)) rfl) (by omega) (GPackage.trs_cs hn7) el29⟩
          · refine .inl ⟨rfl, fun s' jj bb (h1 : 0 ≤ jj) (h2 : jj ≤ 0) hs hl => ?_⟩
            obtain rfl : jj = 0 := by omega
            exact ⟨_, rfl, AOp.fieldEptr (cs := (GPackage.cs (w.gPackages[(o.gPackage).toNat]))) (e := 4) rfl rfl (hl 40 (some 4) _ (.head _) rfl) fo126_4⟩
          · refine .inl ⟨rfl, fun s' jj bb (h1 : 0 ≤ jj) (h2 : jj ≤ 0) hs hl => ?_⟩
            obtain rfl : jj = 0 := by omega
            exact ⟨_, rfl, AOp.loadEptr1 (d := .row 12 (GInstance.trs ((w.gPackages[(o.gPackage).toNat]).gInstances))) rfl rfl (hl 41 (some 5) _ (.head _) rfl) sh123 rfl⟩
          · refine .inl ⟨rfl, fun s' jj bb (h1 : 0 ≤ jj) (h2 : jj ≤ 0) hs hl => ?_⟩
            obtain rfl : jj = 0 := by omega
            exact ⟨_, rfl, AOp.fieldPtr (k := 1) (d := 0) (e := 1) rfl rfl (hl 3 none _ (.head _) rfl) fo33_1⟩
          · refine .inl ⟨rfl, fun s' jj bb (h1 : 0 ≤ jj) (h2 : jj ≤ 0) hs hl => ?_⟩
            obtain rfl : jj = 0 := by omega
            exact ⟨_, rfl, AOp.loadPtr1 rfl rfl (hl 43 (some 7) _ (.head _) rfl) (by rw [hs]; rfl) sh3 rfl⟩
          · refine .inl ⟨rfl, fun s' jj bb (h1 : 0 ≤ jj) (h2 : jj ≤ 0) hs hl => ?_⟩
            obtain rfl : jj = 0 := by omega
            exact ⟨_, rfl, AOp.indexI (y := o.gAt) rfl rfl (hl 42 (some 6) _ (.head _) rfl) rfl (hl 44 (some 8) _ (.tail _ (.head _)) rfl) (by omega) (GInstance.trs_cs hn9) el123⟩
          · refine .inl ⟨rfl, fun s' jj bb (h1 : 0 ≤ jj) (h2 : jj ≤ 0) hs hl => ?_⟩
            obtain rfl : jj = 0 := by omega
            exact ⟨_, rfl, AOp.loadEptr (ds := [.leaf (.string ((((w.gPackages[(o.gPackage).toNat]).gInstances)[(o.gAt).toNat]).gTrait)), .row 1 (strTrs ((((w.gPackages[(o.gPackage).toNat]).gInstances)[(o.gAt).toNat]).gVars)), .leaf (.int .i64 ((((w.gPackages[(o.gPackage).toNat]).gInstances)[(o.gAt).toNat]).gHead.gKind)), .leaf (.string ((((w.gPackages[(o.gPackage).toNat]).gInstances)[(o.gAt).toNat]).gHead.gName)), .row 3 (GType.trs ((((w.gPackages[(o.gPackage).toNat]).gInstances)[(o.gAt).toNat]).gHead.gArgs)), .row 4 (GBound.trs ((((w.gPackages[(o.gPackage).toNat]).gInstances)[(o.gAt).toNat]).gWhere)), .leaf (.bool ((((w.gPackages[(o.gPackage).toNat]).gInstances)[(o.gAt).toNat]).gDefault)), .leaf (.bool ((((w.gPackages[(o.gPackage).toNat]).gInstances)[(o.gAt).toNat]).gHasAssoc)), .leaf (.int .i64 ((((w.gPackages[(o.gPackage).toNat]).gInstances)[(o.gAt).toNat]).gAssoc.gKind)), .leaf (.string ((((w.gPackages[(o.gPackage).toNat]).gInstances)[(o.gAt).toNat]).gAssoc.gName)), .row 3 (GType.trs ((((w.gPackages[(o.gPackage).toNat]).gInstances)[(o.gAt).toNat]).gAssoc.gArgs)), .row 11 (GMethod.trs ((((w.gPackages[(o.gPackage).toNat]).gInstances)[(o.gAt).toNat]).gMethods))]) rfl rfl (hl 45 (some 9) _ (.head _) rfl) sh113 rfl rfl⟩
          · refine .inl ⟨rfl, fun s' bb hs hl => ?_⟩
            refine .inr ⟨rfl, AOp.congr (AOp.storePtr (cs := [.t (.leaf (.string ((((w.gPackages[(o.gPackage).toNat]).gInstances)[(o.gAt).toNat]).gTrait))), .t (.row 1 (strTrs ((((w.gPackages[(o.gPackage).toNat]).gInstances)[(o.gAt).toNat]).gVars))), .t (.leaf (.int .i64 ((((w.gPackages[(o.gPackage).toNat]).gInstances)[(o.gAt).toNat]).gHead.gKind))), .t (.leaf (.string ((((w.gPackages[(o.gPackage).toNat]).gInstances)[(o.gAt).toNat]).gHead.gName))), .t (.row 3 (GType.trs ((((w.gPackages[(o.gPackage).toNat]).gInstances)[(o.gAt).toNat]).gHead.gArgs))), .t (.row 4 (GBound.trs ((((w.gPackages[(o.gPackage).toNat]).gInstances)[(o.gAt).toNat]).gWhere))), .t (.leaf (.bool ((((w.gPackages[(o.gPackage).toNat]).gInstances)[(o.gAt).toNat]).gDefault))), .t (.leaf (.bool ((((w.gPackages[(o.gPackage).toNat]).gInstances)[(o.gAt).toNat]).gHasAssoc))), .t (.leaf (.int .i64 ((((w.gPackages[(o.gPackage).toNat]).gInstances)[(o.gAt).toNat]).gAssoc.gKind))), .t (.leaf (.string ((((w.gPackages[(o.gPackage).toNat]).gInstances)[(o.gAt).toNat]).gAssoc.gName))), .t (.row 3 (GType.trs ((((w.gPackages[(o.gPackage).toNat]).gInstances)[(o.gAt).toNat]).gAssoc.gArgs))), .t (.row 11 (GMethod.trs ((((w.gPackages[(o.gPackage).toNat]).gInstances)[(o.gAt).toNat]).gMethods)))]) (ds := [.t (.leaf (.string ((((w.gPackages[(o.gPackage).toNat]).gInstances)[(o.gAt).toNat]).gTrait))), .t (.row 1 (strTrs ((((w.gPackages[(o.gPackage).toNat]).gInstances)[(o.gAt).toNat]).gVars))), .t (.leaf (.int .i64 ((((w.gPackages[(o.gPackage).toNat]).gInstances)[(o.gAt).toNat]).gHead.gKind))), .t (.leaf (.string ((((w.gPackages[(o.gPackage).toNat]).gInstances)[(o.gAt).toNat]).gHead.gName))), .t (.row 3 (GType.trs ((((w.gPackages[(o.gPackage).toNat]).gInstances)[(o.gAt).toNat]).gHead.gArgs))), .t (.row 4 (GBound.trs ((((w.gPackages[(o.gPackage).toNat]).gInstances)[(o.gAt).toNat]).gWhere))), .t (.leaf (.bool ((((w.gPackages[(o.gPackage).toNat]).gInstances)[(o.gAt).toNat]).gDefault))), .t (.leaf (.bool ((((w.gPackages[(o.gPackage).toNat]).gInstances)[(o.gAt).toNat]).gHasAssoc))), .t (.leaf (.int .i64 ((((w.gPackages[(o.gPackage).toNat]).gInstances)[(o.gAt).toNat]).gAssoc.gKind))), .t (.leaf (.string ((((w.gPackages[(o.gPackage).toNat]).gInstances)[(o.gAt).toNat]).gAssoc.gName))), .t (.row 3 (GType.trs ((((w.gPackages[(o.gPackage).toNat]).gInstances)[(o.gAt).toNat]).gAssoc.gArgs))), .t (.row 11 (GMethod.trs ((((w.gPackages[(o.gPackage).toNat]).gInstances)[(o.gAt).toNat]).gMethods)))]) rfl (hl 4 none _ (.head _) rfl) (by rw [hs]; rfl) (hl 46 (some 10) _ (.tail _ (.head _)) rfl) rfl rfl rfl sz113 (Nat.le_of_ble_eq_true rfl) rfl) ?_⟩
            first | (rw [hs]; rfl) | rfl
          · refine .inl ⟨rfl, fun s' jj bb (h1 : 1 ≤ jj) (h2 : jj ≤ 1) hs hl => ?_⟩
            obtain rfl : jj = 1 := by omega
            exact ⟨_, rfl, AOp.move (.inr rfl) rfl rfl⟩
          refine AWP.ret ?_
          exact Ends.mk (ps := [_, _]) (.inr rfl) ⟨⟨_, _, _, rfl, rfl, sh113, rfl, rfl⟩, rfl, trivial⟩ rfl (StLe.mk' (st' := ⟨[], []⟩) trivial rfl) (keeps_nil hC) (q := (.tup [(GInstance.pv (((w.gPackages[(o.gPackage).toNat]).gInstances)[(o.gAt).toNat])), .t (.leaf (.bool (true)))] : PV)) leA rfl ⟨by exact optInst_some (instAt_hit (by omega) (by omega) (by omega) (by omega)), rfl⟩

end Go.Proofs.YtnakkelglbcecaaGreat

namespace Go.Proofs.YtnakkelglbcecaaGreat
open Go.RowKit Go.Proofs
set_option linter.unusedSimpArgs false
set_option linter.unusedVariables false

attribute [local irreducible] lt

noncomputable def sEqualType_G (fu : Nat) (r_sEqualType : GType → GType → Option Bool) (r_sl4Same : (List GType) → (List GType) → Option Bool) (pa : GType) (pb : GType) : Option Bool :=
 sw (decide ((pa.gKind : Int) = pb.gKind))
 (sw (decide (pa.gName = pb.gName))
 (bd (r_sl4Same pa.gArgs pb.gArgs) (fun x6 =>
 some x6))
 (some false))
 (some false)
set_option maxRecDepth 100000 in
set_option maxHeartbeats 4000000 in
theorem sEqualType_step (r_sEqualType : GType → GType → Option Bool) (r_sl4Same : (List GType) → (List GType) → Option Bool) (fu : Nat) (h_sEqualType : ∀ (pa : GType) (pb : GType) (r : Bool), r_sEqualType pa pb = some r → AFun Tryz.prog 228 [(GType.pv pa), (GType.pv pb)] (.t (.leaf (.bool (r))) : PV)) (h_sl4Same : ∀ (pa : List GType) (pb : List GType) (r : Bool), r_sl4Same pa pb = some r → AFun Tryz.prog 244 [.t (.row 3 (GType.trs (pa))), .t (.row 3 (GType.trs (pb)))] (.t (.leaf (.bool (r))) : PV)) (pa : GType) (pb : GType) (r : Bool) (H : sEqualType_G fu r_sEqualType r_sl4Same pa pb = some r) : AFun Tryz.prog 228 [(GType.pv pa), (GType.pv pb)] (.t (.leaf (.bool (r))) : PV) := by
  refine ACalls.intro Tryz.func228 rfl (by first | decide | (simp; done) | (simp; decide)) ?_
  intro C hC
  refine AWP.seq ?_
  refine AWP.region_lit ?_
  refine AL.cons rfl (AOp.box (cs := [.t (.leaf (.int .i64 (pa.gKind))), .t (.leaf (.string (pa.gName))), .t (.row 3 (GType.trs (pa.gArgs)))]) rfl rfl rfl rfl rfl) ?_
  refine AL.cons rfl (AOp.box (cs := [.t (.leaf (.int .i64 (pb.gKind))), .t (.leaf (.string (pb.gName))), .t (.row 3 (GType.trs (pb.gArgs)))]) rfl rfl rfl rfl rfl) ?_
  refine AL.cons rfl (AOp.move (.inr rfl) rfl rfl) ?_
  refine AL.nil ?_
  refine AWP.seq ?_
  refine AWP.region_lit ?_
  refine AL.cons rfl (AOp.fieldPtr (k := 0) (d := 0) (e := 0) rfl rfl rfl fo47_0) ?_
  refine AL.cons rfl (AOp.loadPtr1 rfl rfl rfl rfl sh3 rfl) ?_
  refine AL.cons rfl (AOp.fieldPtr (k := 1) (d := 0) (e := 0) rfl rfl rfl fo47_0) ?_
  refine AL.cons rfl (AOp.loadPtr1 rfl rfl rfl rfl sh3 rfl) ?_
  refine AL.cons rfl (AOp.eqlI rfl rfl rfl rfl) ?_
  refine AL.cons rfl (AOp.move (.inl rfl) rfl rfl) ?_
  refine AL.splitB 10 rfl (fun g1 => ?_) (fun g1 => ?_)
  · skip
    refine AL.cons_gv rfl rfl rfl g1 (AOp.fieldPtr (k := 0) (d := 0) (e := 1) rfl rfl rfl fo47_1) ?_
    refine AL.cons_gv rfl rfl rfl g1 (AOp.loadPtr1 rfl rfl rfl rfl sh9 rfl) ?_
    refine AL.cons_gv rfl rfl rfl g1 (AOp.fieldPtr (k := 1) (d := 0) (e := 1) rfl rfl rfl fo47_1) ?_
    refine AL.cons_gv rfl rfl rfl g1 (AOp.loadPtr1 rfl rfl rfl rfl sh9 rfl) ?_
    refine AL.cons_gv rfl rfl rfl g1 (AOp.eqlS rfl rfl rfl rfl) ?_
    refine AL.cons rfl (AOp.pickT rfl rfl rfl g1 rfl) ?_
    refine AL.cons rfl (AOp.move (.inl rfl) rfl rfl) ?_
    refine AL.splitB 17 rfl (fun g2 => ?_) (fun g2 => ?_)
    · skip
      refine AL.cons_gv rfl rfl rfl g2 (AOp.fieldPtr (k := 0) (d := 0) (e := 2) rfl rfl rfl fo47_2) ?_
      refine AL.cons_gv rfl rfl rfl g2 (AOp.loadPtr1 rfl rfl rfl rfl sh45 rfl) ?_
      refine AL.fact (lk_lenN 19 rfl rfl (GType.trs_len _)) (fun hl3 => ?_)
      refine AL.cons_gv rfl rfl rfl g2 (AOp.fieldPtr (k := 1) (d := 0) (e := 2) rfl rfl rfl fo47_2) ?_
      refine AL.cons_gv rfl rfl rfl g2 (AOp.loadPtr1 rfl rfl rfl rfl sh45 rfl) ?_
      refine AL.fact (lk_lenN 21 rfl rfl (GType.trs_len _)) (fun hl4 => ?_)
      rcases hq5 : r_sl4Same pa.gArgs pb.gArgs with _ | x6
      · skip
        have e7 : sEqualType_G fu r_sEqualType r_sl4Same pa pb = none := swT g1 (swT g2 (bdN hq5))
        exact none_some H e7
      · skip
        refine AL.cons_gv rfl rfl rfl g2 (AOp.callF (res := .t (.leaf (.bool (x6)))) (ps := [_, _]) rfl rfl Tryz.func244 (by kernel_rfl) rfl rfl leA rfl rfl (h_sl4Same pa.gArgs pb.gArgs _ hq5)) ?_
        refine AL.cons rfl (AOp.pickT rfl rfl rfl g2 rfl) ?_
        refine AL.cons rfl (AOp.move (.inr rfl) rfl rfl) ?_
        refine AL.nil ?_
        refine AWP.ret ?_
        have e8 : sEqualType_G fu r_sEqualType r_sl4Same pa pb = some x6 := swT g1 (swT g2 (bdS hq5 (rfl)))
        have hz : x6 = r := Option.some.inj (e8.symm.trans H)
        subst hz
        exact Ends.mk (ps := [_]) (by first | exact .inr rfl | exact .inl rfl) ⟨rfl, trivial⟩ rfl (StLe.mk' (st' := ⟨[], []⟩) trivial rfl) (keeps_nil hC) (q := (.t (.leaf (.bool (x6))) : PV)) leA rfl ⟨rfl, rfl⟩
    · skip
      refine AL.skipP rfl rfl rfl g2 rfl rfl ?_
      refine AL.skipP rfl rfl rfl g2 rfl rfl ?_
      refine AL.skipP rfl rfl rfl g2 rfl rfl ?_
      refine AL.skipP rfl rfl rfl g2 rfl rfl ?_
      refine AL.skipP rfl rfl rfl g2 rfl rfl ?_
      refine AL.cons rfl (AOp.pickF rfl rfl rfl g2 rfl) ?_
      refine AL.cons rfl (AOp.move (.inr rfl) rfl rfl) ?_
      refine AL.nil ?_
      refine AWP.ret ?_
      have e9 : sEqualType_G fu r_sEqualType r_sl4Same pa pb = some false := swT g1 (swF g2 (rfl))
      have hz : false = r := Option.some.inj (e9.symm.trans H)
      subst hz
      exact Ends.mk (ps := [_]) (by first | exact .inr rfl | exact .inl rfl) ⟨rfl, trivial⟩ rfl (StLe.mk' (st' := ⟨[], []⟩) trivial rfl) (keeps_nil hC) (q := (.t (.leaf (.bool (false))) : PV)) leA rfl ⟨rfl, rfl⟩
  · skip
    refine AL.skipP rfl rfl rfl g1 rfl rfl ?_
    refine AL.skipP rfl rfl rfl g1 rfl rfl ?_
    refine AL.skipP rfl rfl rfl g1 rfl rfl ?_
    refine AL.skipP rfl rfl rfl g1 rfl rfl ?_
    refine AL.skipP rfl rfl rfl g1 rfl rfl ?_
    refine AL.cons rfl (AOp.pickF rfl rfl rfl g1 rfl) ?_
    refine AL.cons rfl (AOp.move (.inl rfl) rfl rfl) ?_
    refine AL.skipP rfl rfl rfl rfl rfl rfl ?_
    refine AL.skipP rfl rfl rfl rfl rfl rfl ?_
    refine AL.skipP rfl rfl rfl rfl rfl rfl ?_
    refine AL.skipP rfl rfl rfl rfl rfl rfl ?_
    refine AL.skipP rfl rfl rfl rfl rfl rfl ?_
    refine AL.cons rfl (AOp.pickF rfl rfl rfl rfl rfl) ?_
    refine AL.cons rfl (AOp.move (.inr rfl) rfl rfl) ?_
    refine AL.nil ?_
    refine AWP.ret ?_
    have e10 : sEqualType_G fu r_sEqualType r_sl4Same pa pb = some false := swF g1 (rfl)
    have hz : false = r := Option.some.inj (e10.symm.trans H)
    subst hz
    exact Ends.mk (ps := [_]) (by first | exact .inr rfl | exact .inl rfl) ⟨rfl, trivial⟩ rfl (StLe.mk' (st' := ⟨[], []⟩) trivial rfl) (keeps_nil hC) (q := (.t (.leaf (.bool (false))) : PV)) leA rfl ⟨rfl, rfl⟩
noncomputable def sl4Same_F1 (fu : Nat) (r_sEqualType : GType → GType → Option Bool) (r_sl4Same : (List GType) → (List GType) → Option Bool) (pa : List GType) (pb : List GType) : Nat → Unit → Option (LR Unit Bool) :=
 fun i5 _ => gd (i5 < (pb).length)
 (bd (r_sEqualType (atD pa i5) (atD pb i5)) (fun x10 =>
 sw (!(x10))
 (some (.ret false))
 (some (.next ()))))
noncomputable def sl4Same_R1 (fu : Nat) (r_sEqualType : GType → GType → Option Bool) (r_sl4Same : (List GType) → (List GType) → Option Bool) (pa : List GType) (pb : List GType) : Option (Bool ⊕ Unit) :=
 loopN (sl4Same_F1 fu r_sEqualType r_sl4Same pa pb) (pa.length - 0) 0 ()
noncomputable def sl4Same_G (fu : Nat) (r_sEqualType : GType → GType → Option Bool) (r_sl4Same : (List GType) → (List GType) → Option Bool) (pa : List GType) (pb : List GType) : Option Bool :=
 sw (!decide ((((pa.length : Nat) : Int) : Int) = ((pb.length : Nat) : Int)))
 (some false)
 (so (sl4Same_R1 fu r_sEqualType r_sl4Same pa pb) (fun _ =>
 some true))
set_option maxRecDepth 100000 in
set_option maxHeartbeats 4000000 in
theorem sl4Same_step (r_sEqualType : GType → GType → Option Bool) (r_sl4Same : (List GType) → (List GType) → Option Bool) (fu : Nat) (h_sEqualType : ∀ (pa : GType) (pb : GType) (r : Bool), r_sEqualType pa pb = some r → AFun Tryz.prog 228 [(GType.pv pa), (GType.pv pb)] (.t (.leaf (.bool (r))) : PV)) (h_sl4Same : ∀ (pa : List GType) (pb : List GType) (r : Bool), r_sl4Same pa pb = some r → AFun Tryz.prog 244 [.t (.row 3 (GType.trs (pa))), .t (.row 3 (GType.trs (pb)))] (.t (.leaf (.bool (r))) : PV)) (pa : List GType) (pb : List GType) (r : Bool) (H : sl4Same_G fu r_sEqualType r_sl4Same pa pb = some r) : AFun Tryz.prog 244 [.t (.row 3 (GType.trs (pa))), .t (.row 3 (GType.trs (pb)))] (.t (.leaf (.bool (r))) : PV) := by
  refine ACalls.intro Tryz.func244 rfl (by first | decide | (simp; done) | (simp; decide)) ?_
  intro C hC
  refine AWP.fact (lk_lenN 0 rfl rfl (GType.trs_len _)) (fun hl1 => ?_)
  refine AWP.fact (lk_lenN 1 rfl rfl (GType.trs_len _)) (fun hl2 => ?_)
  refine AWP.seq ?_
  refine AWP.region_lit ?_
  refine AL.cons rfl (AOp.move (.inr rfl) rfl rfl) ?_
  refine AL.nil ?_
  refine AWP.seq ?_
  refine AWP.seq ?_
  refine AWP.region_lit ?_
  refine AL.cons rfl (AOp.move (.inl rfl) rfl rfl) ?_
  refine AL.cons rfl (AOp.lenN rfl rfl rfl rfl el45 (GType.trs_len _)) ?_
  refine AL.cons rfl (AOp.move (.inl rfl) rfl rfl) ?_
  refine AL.cons rfl (AOp.lenN rfl rfl rfl rfl el45 (GType.trs_len _)) ?_
  refine AL.cons rfl (AOp.neqI rfl rfl rfl rfl) ?_
  refine AL.nil ?_
  refine AWP.cond rfl (fun h3 => ?_) (fun h3 => ?_)
  · skip
    refine AWP.seq ?_
    refine AWP.region_lit ?_
    refine AL.cons rfl (AOp.move (.inr rfl) rfl rfl) ?_
    refine AL.nil ?_
    refine AWP.ret ?_
    have e4 : sl4Same_G fu r_sEqualType r_sl4Same pa pb = some false := swT h3 (rfl)
    have hz : false = r := Option.some.inj (e4.symm.trans H)
    subst hz
    exact Ends.mk (ps := [_]) (by first | exact .inr rfl | exact .inl rfl) ⟨rfl, trivial⟩ rfl (StLe.mk' (st' := ⟨[], []⟩) trivial rfl) (keeps_nil hC) (q := (.t (.leaf (.bool (false))) : PV)) leA rfl ⟨rfl, rfl⟩
  · skip
    refine AWP.skip ?_
    refine AWP.seq ?_
    refine AWP.seq ?_
    refine AWP.region_lit ?_
    refine AL.cons rfl (AOp.move (.inr rfl) rfl rfl) ?_
    refine AL.nil ?_
    refine AWP.cut (ι := Unit) (fun _ => sl4Same_R1 fu r_sEqualType r_sl4Same pa pb = some (.inr ())) (fun _ => ⟨[(4, .t (.leaf (.bool (false))))], ⟨[], []⟩⟩) (by repeat' (first | exact qcEnds | exact ncAWP | exact ncRound | exact ncEx | apply qcThen | apply qcBlock | apply qcCut)) ?_ ?_
    · skip
      refine AWP.block ?_
      refine AWP.loopR (ι := Nat × Unit) (fun (i5, _) => sl4Same_R1 fu r_sEqualType r_sl4Same pa pb = loopN (sl4Same_F1 fu r_sEqualType r_sl4Same pa pb) (pa.length - i5) i5 ()) (fun (i5, _) => ⟨[(0, .t (.row 3 (GType.trs (pa)))), (1, .t (.row 3 (GType.trs (pb)))), (4, .t (.leaf (.bool (false)))), (5, .t (.leaf (.int .i64 (((i5 : Nat) : Int)))))], ⟨[], []⟩⟩) (fun (i5, _) => pa.length - i5) (0, ()) ?_ ?_ ?_
      · exact rfl
      · skip
        exact Wk.mk (StLe.mk' trivial rfl) (keeps_nil hC) ⟨⟨_, rfl, .refl _, rfl⟩, ⟨⟨_, rfl, .refl _, rfl⟩, ⟨⟨_, rfl, .refl _, rfl⟩, ⟨⟨_, rfl, leA, rfl⟩, trivial⟩⟩⟩⟩
      · rintro ⟨i5, ⟨⟩⟩ hJ6
        refine AWP.seq ?_
        refine AWP.seq ?_
        refine AWP.region_lit ?_
        refine AL.cons rfl (AOp.move (.inl rfl) rfl rfl) ?_
        refine AL.cons rfl (AOp.move (.inl rfl) rfl rfl) ?_
        refine AL.cons rfl (AOp.lenN rfl rfl rfl rfl el45 (GType.trs_len _)) ?_
        refine AL.cons rfl (AOp.lss rfl rfl rfl rfl) ?_
        refine AL.nil ?_
        refine AWP.cond rfl (fun h7 => ?_) (fun h7 => ?_)
        · skip
          have h7l : i5 < pa.length := nat_lt_of2 h7
          have h7n := nat_lt_of h7
          refine AWP.skip ?_
          refine AWP.seq ?_
          refine AWP.block ?_
          refine AWP.seq ?_
          rcases Classical.em (i5 < (pb).length) with hg8 | hg8
          · skip
            rcases hq9 : r_sEqualType (atD pa i5) (atD pb i5) with _ | x10
            · skip
              have e11 : (sl4Same_F1 fu r_sEqualType r_sl4Same pa pb) i5 () = none := gdT hg8 (bdN hq9)
              have e12 : sl4Same_R1 fu r_sEqualType r_sl4Same pa pb = none := loopN_non h7l hJ6 e11
              have e13 : sl4Same_G fu r_sEqualType r_sl4Same pa pb = none := swF h3 (soN e12)
              exact none_some H e13
            · skip
              refine AWP.drawnL ⟨_, _, fun _ _ => (⟨[], []⟩ : Sto), fun q' => ([some (.t (.row 3 (GType.trs (pa)))), some (.t (.leaf (.int .i64 (((i5 : Nat) : Int))))), some (.eptr (GType.cs (atD pa i5))), some ((GType.pv (atD pa i5))), some (.t (.row 3 (GType.trs (pb)))), some (.t (.leaf (.int .i64 (((i5 : Nat) : Int))))), some (.eptr (GType.cs (atD pb i5))), some ((GType.pv (atD pb i5))), some (.t (.leaf (.bool (x10)))), some (.t (.leaf (.bool (!(x10)))))] : List (Option PV)).getD q' none, fun q' => ([.q 0 0, .q 0 0, .q 0 0, .q 0 0, .q 0 0, .q 0 0, .q 0 0, .q 0 0, .q 0 0, .q 0 0] : List DK).getD q' (.q 0 0), [], none, fun q' => ([[(0, none)], [(5, none)], [(17, some 0), (18, some 1)], [(19, some 2)], [(1, none)], [(5, none)], [(21, some 4), (22, some 5)], [(23, some 6)], [(24, some 7), (20, some 3)], [(25, some 8)]] : List (List (Nat × Option Nat))).getD q' []⟩ rfl mixed (by kernel_rfl) rfl rfl ⟨?_, ?_, ?_, ?_, ?_, ?_, ?_, ?_, ?_, ?_, trivial⟩ rfl ?_
              · refine .inl ⟨rfl, fun s' jj bb (h1 : 0 ≤ jj) (h2 : jj ≤ 0) hs hl => ?_⟩
                obtain rfl : jj = 0 := by omega
                exact ⟨_, rfl, AOp.move (.inl rfl) rfl (hl 0 none _ (.head _) rfl)⟩
              · refine .inl ⟨rfl, fun s' jj bb (h1 : 0 ≤ jj) (h2 : jj ≤ 0) hs hl => ?_⟩
                obtain rfl : jj = 0 := by omega
                exact ⟨_, rfl, AOp.move (.inl rfl) rfl (hl 5 none _ (.head _) rfl)⟩
              · refine .inl ⟨rfl, fun s' jj bb (h1 : 0 ≤ jj) (h2 : jj ≤ 0) hs hl => ?_⟩
                obtain rfl : jj = 0 := by omega
                exact ⟨_, rfl, AOp.index (k := i5) rfl rfl (hl 17 (some 0) _ (.head _) rfl) rfl (hl 18 (some 1) _ (.tail _ (.head _)) rfl) (GType.trs_at h7n) el45⟩
              · refine .inl ⟨rfl, fun s' jj bb (h1 : 0 ≤ jj) (h2 : jj ≤ 0) hs hl => ?_⟩
                obtain rfl : jj = 0 := by omega
                exact ⟨_, rfl, AOp.loadEptr (ds := [.leaf (.int .i64 ((atD pa i5).gKind)), .leaf (.string ((atD pa i5).gName)), .row 3 (GType.trs ((atD pa i5).gArgs))]) rfl rfl (hl 19 (some 2) _ (.head _) rfl) sh47 rfl rfl⟩
              · refine .inl ⟨rfl, fun s' jj bb (h1 : 0 ≤ jj) (h2 : jj ≤ 0) hs hl => ?_⟩
                obtain rfl : jj = 0 := by omega
                exact ⟨_, rfl, AOp.move (.inl rfl) rfl (hl 1 none _ (.head _) rfl)⟩
              · refine .inl ⟨rfl, fun s' jj bb (h1 : 0 ≤ jj) (h2 : jj ≤ 0) hs hl => ?_⟩
                obtain rfl : jj = 0 := by omega
                exact ⟨_, rfl, AOp.move (.inl rfl) rfl (hl 5 none _ (.head _) rfl)⟩
              · refine .inl ⟨rfl, fun s' jj bb (h1 : 0 ≤ jj) (h2 : jj ≤ 0) hs hl => ?_⟩
                obtain rfl : jj = 0 := by omega
                exact ⟨_, rfl, AOp.index (k := i5) rfl rfl (hl 21 (some 4) _ (.head _) rfl) rfl (hl 22 (some 5) _ (.tail _ (.head _)) rfl) (GType.trs_at hg8) el45⟩
              · refine .inl ⟨rfl, fun s' jj bb (h1 : 0 ≤ jj) (h2 : jj ≤ 0) hs hl => ?_⟩
                obtain rfl : jj = 0 := by omega
                exact ⟨_, rfl, AOp.loadEptr (ds := [.leaf (.int .i64 ((atD pb i5).gKind)), .leaf (.string ((atD pb i5).gName)), .row 3 (GType.trs ((atD pb i5).gArgs))]) rfl rfl (hl 23 (some 6) _ (.head _) rfl) sh47 rfl rfl⟩
              · refine .inl ⟨rfl, fun s' jj bb (h1 : 0 ≤ jj) (h2 : jj ≤ 0) hs hl => ?_⟩
                obtain rfl : jj = 0 := by omega
                exact ⟨_, rfl, AOp.callF (res := .t (.leaf (.bool (x10)))) (ps := [_, _]) rfl rfl Tryz.func228 (by kernel_rfl) rfl (evs_cons (hl 20 (some 3) _ (.tail _ (.head _)) rfl) (evs_cons (hl 24 (some 7) _ (.head _) rfl) rfl)) leA rfl rfl (h_sEqualType (atD pa i5) (atD pb i5) _ hq9)⟩
              · refine .inl ⟨rfl, fun s' jj bb (h1 : 0 ≤ jj) (h2 : jj ≤ 0) hs hl => ?_⟩
                obtain rfl : jj = 0 := by omega
                exact ⟨_, rfl, AOp.notB rfl rfl (hl 25 (some 8) _ (.head _) rfl)⟩
              refine AWP.cond rfl (fun h14 => ?_) (fun h14 => ?_)
              · skip
                refine AWP.seq ?_
                refine AWP.region_lit ?_
                refine AL.cons rfl (AOp.move (.inr rfl) rfl rfl) ?_
                refine AL.nil ?_
                refine AWP.ret ?_
                have e15 : (sl4Same_F1 fu r_sEqualType r_sl4Same pa pb) i5 () = some (.ret false) := gdT hg8 (bdS hq9 (swT h14 (rfl)))
                have e16 : sl4Same_R1 fu r_sEqualType r_sl4Same pa pb = some (.inl false) := loopN_ret h7l hJ6 e15
                have e17 : sl4Same_G fu r_sEqualType r_sl4Same pa pb = some false := swF h3 (soL e16)
                have hz : false = r := Option.some.inj (e17.symm.trans H)
                subst hz
                exact Ends.mk (ps := [_]) (by first | exact .inr rfl | exact .inl rfl) ⟨rfl, trivial⟩ rfl (StLe.mk' (st' := ⟨[], []⟩) trivial rfl) (keeps_nil hC) (q := (.t (.leaf (.bool (false))) : PV)) leA rfl ⟨rfl, rfl⟩
              · skip
                refine AWP.skip ?_
                refine AWP.region_lit ?_
                refine AL.cons rfl (AOp.move (.inl rfl) rfl rfl) ?_
                refine AL.cons rfl (AOp.addI rfl rfl rfl rfl (c := ((i5 + 1 : Nat) : Int)) (by omega) (by omega)) ?_
                refine AL.cons rfl (AOp.move (.inr rfl) rfl rfl) ?_
                refine AL.nil ?_
                have e18 : (sl4Same_F1 fu r_sEqualType r_sl4Same pa pb) i5 () = some (.next ()) := gdT hg8 (bdS hq9 (swF h14 (rfl)))
                refine ⟨(i5 + 1, ()), loopN_next h7l hJ6 e18, ?_, ?_⟩
                · skip
                  exact Wk.mk (StLe.mk' trivial rfl) (keeps_nil hC) ⟨⟨_, rfl, .refl _, rfl⟩, ⟨⟨_, rfl, .refl _, rfl⟩, ⟨⟨_, rfl, .refl _, rfl⟩, ⟨⟨_, rfl, leA, rfl⟩, trivial⟩⟩⟩⟩
                · dsimp only; omega
          · skip
            have e19 : (sl4Same_F1 fu r_sEqualType r_sl4Same pa pb) i5 () = none := gdF hg8
            have e20 : sl4Same_R1 fu r_sEqualType r_sl4Same pa pb = none := loopN_non h7l hJ6 e19
            have e21 : sl4Same_G fu r_sEqualType r_sl4Same pa pb = none := swF h3 (soN e20)
            exact none_some H e21
        · skip
          have h7l : pa.length ≤ i5 := nat_ge_of2 h7
          refine AWP.exit ?_
          refine ⟨(), loopN_end h7l hJ6, ?_⟩
          exact Wk.mk (StLe.mk' trivial rfl) (keeps_nil hC) ⟨⟨_, rfl, .refl _, rfl⟩, trivial⟩
    · rintro ⟨⟩ hR22
      refine AWP.seq ?_
      refine AWP.region_lit ?_
      refine AL.cons rfl (AOp.move (.inr rfl) rfl rfl) ?_
      refine AL.nil ?_
      refine AWP.ret ?_
      have e23 : sl4Same_G fu r_sEqualType r_sl4Same pa pb = some true := swF h3 (soR hR22 (rfl))
      have hz : true = r := Option.some.inj (e23.symm.trans H)
      subst hz
      exact Ends.mk (ps := [_]) (by first | exact .inr rfl | exact .inl rfl) ⟨rfl, trivial⟩ rfl (StLe.mk' (st' := ⟨[], []⟩) trivial rfl) (keeps_nil hC) (q := (.t (.leaf (.bool (true))) : PV)) leA rfl ⟨rfl, rfl⟩
mutual
noncomputable def sEqualType_M : Nat → GType → GType → Option Bool
  | 0, _, _ => none
  | fu + 1, pa, pb => sEqualType_G fu (sEqualType_M fu) (sl4Same_M fu) pa pb
noncomputable def sl4Same_M : Nat → (List GType) → (List GType) → Option Bool
  | 0, _, _ => none
  | fu + 1, pa, pb => sl4Same_G fu (sEqualType_M fu) (sl4Same_M fu) pa pb
end
theorem sEqualType_all (fu : Nat) : (∀ (pa : GType) (pb : GType) (r : Bool), sEqualType_M fu pa pb = some r → AFun Tryz.prog 228 [(GType.pv pa), (GType.pv pb)] (.t (.leaf (.bool (r))) : PV)) ∧ (∀ (pa : List GType) (pb : List GType) (r : Bool), sl4Same_M fu pa pb = some r → AFun Tryz.prog 244 [.t (.row 3 (GType.trs (pa))), .t (.row 3 (GType.trs (pb)))] (.t (.leaf (.bool (r))) : PV)) := by
  induction fu with
  | zero => exact ⟨(fun pa pb r H => by simp only [sEqualType_M] at H; cases H), (fun pa pb r H => by simp only [sl4Same_M] at H; cases H)⟩
  | succ fu ih => exact ⟨(fun pa pb r H => by simp only [sEqualType_M] at H; exact sEqualType_step (sEqualType_M fu) (sl4Same_M fu) fu ih.1 ih.2 pa pb r H), (fun pa pb r H => by simp only [sl4Same_M] at H; exact sl4Same_step (sEqualType_M fu) (sl4Same_M fu) fu ih.1 ih.2 pa pb r H)⟩
theorem sEqualType_ok (fu : Nat) (pa : GType) (pb : GType) (r : Bool) (H : sEqualType_M fu pa pb = some r) : AFun Tryz.prog 228 [(GType.pv pa), (GType.pv pb)] (.t (.leaf (.bool (r))) : PV) := (sEqualType_all fu).1 pa pb r H
noncomputable def sl4Copy_G (fu : Nat) (r_sl4Copy : GType → Option GType) (r_sl4Copies : (List GType) → Option ((List GType))) (pt : GType) : Option GType :=
 bd (r_sl4Copies pt.gArgs) (fun x2 =>
 some (GType.mk pt.gKind pt.gName x2))
set_option maxRecDepth 100000 in
set_option maxHeartbeats 4000000 in
theorem sl4Copy_step (r_sl4Copy : GType → Option GType) (r_sl4Copies : (List GType) → Option ((List GType))) (fu : Nat) (h_sl4Copy : ∀ (pt : GType) (r : GType), r_sl4Copy pt = some r → AFun Tryz.prog 110 [(GType.pv pt)] ((GType.pv r) : PV)) (h_sl4Copies : ∀ (plist : List GType) (r : (List GType)), r_sl4Copies plist = some r → AFun Tryz.prog 162 [.t (.row 3 (GType.trs (plist)))] (.t (.row 3 (GType.trs (r))) : PV)) (pt : GType) (r : GType) (H : sl4Copy_G fu r_sl4Copy r_sl4Copies pt = some r) : AFun Tryz.prog 110 [(GType.pv pt)] ((GType.pv r) : PV) := by
  refine ACalls.intro Tryz.func110 rfl (by first | decide | (simp; done) | (simp; decide)) ?_
  intro C hC
  refine AWP.seq ?_
  refine AWP.region_lit ?_
  refine AL.cons rfl (AOp.box (cs := [.t (.leaf (.int .i64 (pt.gKind))), .t (.leaf (.string (pt.gName))), .t (.row 3 (GType.trs (pt.gArgs)))]) rfl rfl rfl rfl rfl) ?_
  refine AL.cons rfl (AOp.alloc rfl rfl zr47) ?_
  refine AL.nil ?_
  refine AWP.seq ?_
  rcases hq1 : r_sl4Copies pt.gArgs with _ | x2
  · skip
    have e3 : sl4Copy_G fu r_sl4Copy r_sl4Copies pt = none := bdN hq1
    exact none_some H e3
  · skip
    refine AWP.drawnL ⟨_, _, fun j' _ => ([(⟨[some ⟨47, [.t (.leaf (.int .i64 (pt.gKind))), .t (.leaf (.string (pt.gName))), .t (.row 3 (GType.trs (pt.gArgs)))]⟩, some ⟨47, [.t (.leaf (.int .i64 (0))), .t (.leaf (.string (⟨#[]⟩))), .nil]⟩], []⟩ : Sto), (⟨[some ⟨47, [.t (.leaf (.int .i64 (pt.gKind))), .t (.leaf (.string (pt.gName))), .t (.row 3 (GType.trs (pt.gArgs)))]⟩, some ⟨47, [.t (.leaf (.int .i64 (pt.gKind))), .t (.leaf (.string (pt.gName))), .t (.row 3 (GType.trs (x2)))]⟩], []⟩ : Sto)] : List Sto).getD j' (⟨[some ⟨47, [.t (.leaf (.int .i64 (pt.gKind))), .t (.leaf (.string (pt.gName))), .t (.row 3 (GType.trs (pt.gArgs)))]⟩, some ⟨47, [.t (.leaf (.int .i64 (pt.gKind))), .t (.leaf (.string (pt.gName))), .t (.row 3 (GType.trs (x2)))]⟩], []⟩ : Sto), fun q' => ([some (.ptr 0 0), some (.t (.leaf (.int .i64 (pt.gKind)))), some (.ptr 0 1), some (.t (.leaf (.string (pt.gName)))), some (.ptr 0 2), some (.t (.row 3 (GType.trs (pt.gArgs)))), some (.t (.row 3 (GType.trs (x2)))), some (.agg [.t (.leaf (.int .i64 (pt.gKind))), .t (.leaf (.string (pt.gName))), .t (.row 3 (GType.trs (x2)))]), none] : List (Option PV)).getD q' none, fun q' => ([.q 0 0, .q 0 0, .q 0 0, .q 0 0, .q 0 0, .q 0 0, .q 0 0, .q 0 0, .ef 0] : List DK).getD q' (.q 0 0), [8], none, fun q' => ([[(1, none)], [(3, some 0)], [(1, none)], [(5, some 2)], [(1, none)], [(7, some 4)], [(8, some 5)], [(9, some 6), (6, some 3), (4, some 1)], [(2, none), (10, some 7)]] : List (List (Nat × Option Nat))).getD q' []⟩ rfl mixed (by kernel_rfl) rfl rfl ⟨?_, ?_, ?_, ?_, ?_, ?_, ?_, ?_, ?_, trivial⟩ rfl ?_
    · refine .inl ⟨rfl, fun s' jj bb (h1 : 0 ≤ jj) (h2 : jj ≤ 0) hs hl => ?_⟩
      obtain rfl : jj = 0 := by omega
      exact ⟨_, rfl, AOp.fieldPtr (k := 0) (d := 0) (e := 0) rfl rfl (hl 1 none _ (.head _) rfl) fo47_0⟩
    · refine .inl ⟨rfl, fun s' jj bb (h1 : 0 ≤ jj) (h2 : jj ≤ 0) hs hl => ?_⟩
      obtain rfl : jj = 0 := by omega
      exact ⟨_, rfl, AOp.loadPtr1 rfl rfl (hl 3 (some 0) _ (.head _) rfl) (by rw [hs]; rfl) sh3 rfl⟩
    · refine .inl ⟨rfl, fun s' jj bb (h1 : 0 ≤ jj) (h2 : jj ≤ 0) hs hl => ?_⟩
      obtain rfl : jj = 0 := by omega
      exact ⟨_, rfl, AOp.fieldPtr (k := 0) (d := 0) (e := 1) rfl rfl (hl 1 none _ (.head _) rfl) fo47_1⟩
    · refine .inl ⟨rfl, fun s' jj bb (h1 : 0 ≤ jj) (h2 : jj ≤ 0) hs hl => ?_⟩
      obtain rfl : jj = 0 := by omega
      exact ⟨_, rfl, AOp.loadPtr1 rfl rfl (hl 5 (some 2) _ (.head _) rfl) (by rw [hs]; rfl) sh9 rfl⟩
    · refine .inl ⟨rfl, fun s' jj bb (h1 : 0 ≤ jj) (h2 : jj ≤ 0) hs hl => ?_⟩
      obtain rfl : jj = 0 := by omega
      exact ⟨_, rfl, AOp.fieldPtr (k := 0) (d := 0) (e := 2) rfl rfl (hl 1 none _ (.head _) rfl) fo47_2⟩
    · refine .inl ⟨rfl, fun s' jj bb (h1 : 0 ≤ jj) (h2 : jj ≤ 0) hs hl => ?_⟩
      obtain rfl : jj = 0 := by omega
      exact ⟨_, rfl, AOp.loadPtr1 rfl rfl (hl 7 (some 4) _ (.head _) rfl) (by rw [hs]; rfl) sh45 rfl⟩
    · refine .inl ⟨rfl, fun s' jj bb (h1 : 0 ≤ jj) (h2 : jj ≤ 0) hs hl => ?_⟩
      obtain rfl : jj = 0 := by omega
      exact ⟨_, rfl, AOp.callF (res := .t (.row 3 (GType.trs (x2)))) (ps := [_]) rfl rfl Tryz.func162 (by kernel_rfl) rfl (evs_cons (hl 8 (some 5) _ (.head _) rfl) rfl) leA rfl rfl (h_sl4Copies pt.gArgs _ hq1)⟩
    · refine .inl ⟨rfl, fun s' jj bb (h1 : 0 ≤ jj) (h2 : jj ≤ 0) hs hl => ?_⟩
      obtain rfl : jj = 0 := by omega
      exact ⟨_, rfl, AOp.build rfl rfl zr47 pl47 (parts_cons (hl 4 (some 1) _ (.tail _ (.tail _ (.head _))) rfl) rfl rfl (parts_cons (hl 6 (some 3) _ (.tail _ (.head _)) rfl) rfl rfl (parts_cons (hl 9 (some 6) _ (.head _) rfl) rfl rfl rfl))) rfl⟩
    · refine .inl ⟨rfl, fun s' bb hs hl => ?_⟩
      refine .inr ⟨rfl, AOp.congr (AOp.storePtr (cs := [.t (.leaf (.int .i64 (pt.gKind))), .t (.leaf (.string (pt.gName))), .t (.row 3 (GType.trs (x2)))]) (ds := [.t (.leaf (.int .i64 (pt.gKind))), .t (.leaf (.string (pt.gName))), .t (.row 3 (GType.trs (x2)))]) rfl (hl 2 none _ (.head _) rfl) (by rw [hs]; rfl) (hl 10 (some 7) _ (.tail _ (.head _)) rfl) rfl rfl rfl sz47 (Nat.le_of_ble_eq_true rfl) rfl) ?_⟩
      first | (rw [hs]; rfl) | rfl
    refine AWP.ret ?_
    have e4 : sl4Copy_G fu r_sl4Copy r_sl4Copies pt = some (GType.mk pt.gKind pt.gName x2) := bdS hq1 (rfl)
    have hz : (GType.mk pt.gKind pt.gName x2) = r := Option.some.inj (e4.symm.trans H)
    subst hz
    exact Ends.mk (ps := [_]) (by first | exact .inr rfl | exact .inl rfl) ⟨⟨_, _, _, rfl, rfl, sh47, rfl, rfl⟩, trivial⟩ rfl (StLe.mk' (st' := ⟨[], []⟩) trivial rfl) (keeps_nil hC) (q := ((GType.pv (GType.mk pt.gKind pt.gName x2)) : PV)) leA rfl ⟨rfl, rfl⟩
noncomputable def sl4Copies_F1 (fu : Nat) (r_sl4Copy : GType → Option GType) (r_sl4Copies : (List GType) → Option ((List GType))) (plist : List GType) : Nat → ((List GType)) → Option (LR ((List GType)) ((List GType))) :=
 fun i2 v4 => bd (r_sl4Copy (atD plist i2)) (fun x9 =>
 gd ((v4).length + (([x9] : List GType)).length ≤ 68719476736)
 (some (.next (v4 ++ ([x9] : List GType)))))
noncomputable def sl4Copies_R1 (fu : Nat) (r_sl4Copy : GType → Option GType) (r_sl4Copies : (List GType) → Option ((List GType))) (plist : List GType) : Option (((List GType)) ⊕ ((List GType))) :=
 loopN (sl4Copies_F1 fu r_sl4Copy r_sl4Copies plist) (plist.length - 0) 0 ([])
noncomputable def sl4Copies_G (fu : Nat) (r_sl4Copy : GType → Option GType) (r_sl4Copies : (List GType) → Option ((List GType))) (plist : List GType) : Option ((List GType)) :=
 so (sl4Copies_R1 fu r_sl4Copy r_sl4Copies plist) (fun v4 =>
 some v4)
set_option maxRecDepth 100000 in
set_option maxHeartbeats 4000000 in
theorem sl4Copies_step (r_sl4Copy : GType → Option GType) (r_sl4Copies : (List GType) → Option ((List GType))) (fu : Nat) (h_sl4Copy : ∀ (pt : GType) (r : GType), r_sl4Copy pt = some r → AFun Tryz.prog 110 [(GType.pv pt)] ((GType.pv r) : PV)) (h_sl4Copies : ∀ (plist : List GType) (r : (List GType)), r_sl4Copies plist = some r → AFun Tryz.prog 162 [.t (.row 3 (GType.trs (plist)))] (.t (.row 3 (GType.trs (r))) : PV)) (plist : List GType) (r : (List GType)) (H : sl4Copies_G fu r_sl4Copy r_sl4Copies plist = some r) : AFun Tryz.prog 162 [.t (.row 3 (GType.trs (plist)))] (.t (.row 3 (GType.trs (r))) : PV) := by
  refine ACalls.intro Tryz.func162 rfl (by first | decide | (simp; done) | (simp; decide)) ?_
  intro C hC
  refine AWP.fact (lk_lenN 0 rfl rfl (GType.trs_len _)) (fun hl1 => ?_)
  refine AWP.seq ?_
  refine AWP.region_lit ?_
  refine AL.cons rfl (AOp.move (.inr rfl) rfl rfl) ?_
  refine AL.nil ?_
  refine AWP.seq ?_
  refine AWP.region_lit ?_
  refine AL.cons rfl (AOp.buildSliceA (es := []) (es' := GType.trs ([])) (cs := []) rfl rfl el45 zr47 rfl rfl leA rfl (by simp [GType.cs]) (by decide) rfl (by decide) (by simp [GType.trs_map, GType.tr_cs])) ?_
  refine AL.cons rfl (AOp.move (.inr rfl) rfl rfl) ?_
  refine AL.nil ?_
  refine AWP.seq ?_
  refine AWP.seq ?_
  refine AWP.region_lit ?_
  refine AL.cons rfl (AOp.move (.inr rfl) rfl rfl) ?_
  refine AL.nil ?_
  refine AWP.fact (lk_lenN 3 rfl rfl (GType.trs_len _)) (fun hl5 => ?_)
  refine AWP.cut (ι := (List GType)) (fun v4 => sl4Copies_R1 fu r_sl4Copy r_sl4Copies plist = some (.inr v4)) (fun v4 => ⟨[(2, .nil), (3, .acc 3 (GType.trs (v4)) 0)], ⟨[], [⟨47, 3, GType.trs (v4), false⟩]⟩⟩) (by repeat' (first | exact qcEnds | exact ncAWP | exact ncRound | exact ncEx | apply qcThen | apply qcBlock | apply qcCut)) ?_ ?_
  · skip
    refine AWP.block ?_
    refine AWP.loopR (ι := Nat × ((List GType))) (fun (i2, v4) => sl4Copies_R1 fu r_sl4Copy r_sl4Copies plist = loopN (sl4Copies_F1 fu r_sl4Copy r_sl4Copies plist) (plist.length - i2) i2 v4) (fun (i2, v4) => ⟨[(0, .t (.row 3 (GType.trs (plist)))), (2, .nil), (3, .acc 3 (GType.trs (v4)) 0), (4, .t (.leaf (.int .i64 (((i2 : Nat) : Int)))))], ⟨[], [⟨47, 3, GType.trs (v4), false⟩]⟩⟩) (fun (i2, v4) => plist.length - i2) (0, ([])) ?_ ?_ ?_
    · exact rfl
    · skip
      exact Wk.mk (StLe.mk' trivial (by first | rfl | simp)) (keeps_nil hC) ⟨⟨_, rfl, .refl _, rfl⟩, ⟨⟨_, rfl, .refl _, rfl⟩, ⟨⟨_, rfl, leA, rfl⟩, ⟨⟨_, rfl, leA, rfl⟩, trivial⟩⟩⟩⟩
    · rintro ⟨i2, v4⟩ hJ6
      refine AWP.seq ?_
      refine AWP.seq ?_
      refine AWP.region_lit ?_
      refine AL.cons rfl (AOp.move (.inl rfl) rfl rfl) ?_
      refine AL.cons rfl (AOp.move (.inl rfl) rfl rfl) ?_
      refine AL.cons rfl (AOp.lenN rfl rfl rfl rfl el45 (GType.trs_len _)) ?_
      refine AL.cons rfl (AOp.lss rfl rfl rfl rfl) ?_
      refine AL.nil ?_
      refine AWP.cond rfl (fun h7 => ?_) (fun h7 => ?_)
      · skip
        have h7l : i2 < plist.length := nat_lt_of2 h7
        have h7n := nat_lt_of h7
        refine AWP.skip ?_
        refine AWP.seq ?_
        refine AWP.block ?_
        refine AWP.region_lit ?_
        refine AL.cons rfl (AOp.move (.inl rfl) rfl rfl) ?_
        refine AL.cons rfl (AOp.move (.inl rfl) rfl rfl) ?_
        refine AL.cons rfl (AOp.move (.inl rfl) rfl rfl) ?_
        refine AL.cons rfl (AOp.index (k := i2) rfl rfl rfl rfl rfl (GType.trs_at h7n) el45) ?_
        refine AL.cons rfl (AOp.loadEptr (ds := [.leaf (.int .i64 ((atD plist i2).gKind)), .leaf (.string ((atD plist i2).gName)), .row 3 (GType.trs ((atD plist i2).gArgs))]) rfl rfl rfl sh47 rfl rfl) ?_
        rcases hq8 : r_sl4Copy (atD plist i2) with _ | x9
        · skip
          have e10 : (sl4Copies_F1 fu r_sl4Copy r_sl4Copies plist) i2 v4 = none := bdN hq8
          have e11 : sl4Copies_R1 fu r_sl4Copy r_sl4Copies plist = none := loopN_non h7l hJ6 e10
          have e12 : sl4Copies_G fu r_sl4Copy r_sl4Copies plist = none := soN e11
          exact none_some H e12
        · skip
          refine AL.cons rfl (AOp.callF (res := (GType.pv x9)) (ps := [_]) rfl rfl Tryz.func110 (by kernel_rfl) rfl rfl leA rfl rfl (h_sl4Copy (atD plist i2) _ hq8)) ?_
          refine AL.cons rfl (AOp.buildSliceE (es := [GType.cs x9]) (es' := GType.trs (([x9] : List GType))) (cs := [.t (.leaf (.int .i64 (x9.gKind))), .t (.leaf (.string (x9.gName))), .t (.row 3 (GType.trs (x9.gArgs)))]) rfl rfl el45 zr47 rfl rfl leA rfl (by simp [GType.cs]) (by decide) rfl (by decide) (by simp [GType.trs_map, GType.tr_cs])) ?_
          rcases Classical.em ((v4).length + (([x9] : List GType)).length ≤ 68719476736) with hg13 | hg13
          · skip
            refine AL.cons rfl (AOp.appendE (es3 := GType.trs (v4 ++ ([x9] : List GType))) rfl rfl rfl rfl rfl rfl rfl rfl rfl (fun e he => by rw [GType.trs_map] at he; obtain ⟨x, _, rfl⟩ := List.mem_map.1 he; rw [GType.tr_cs]; rfl) el45 ze45 (by decide) (by rw [GType.trs_len, GType.trs_len]; exact room_le hg13 (by decide)) (by rw [GType.trs_map, GType.trs_map, GType.trs_map, List.map_append])) ?_
            refine AL.cons rfl (AOp.move (.inr rfl) rfl rfl) ?_
            refine AL.nil ?_
            refine AWP.region_lit ?_
            refine AL.cons rfl (AOp.move (.inl rfl) rfl rfl) ?_
            refine AL.cons rfl (AOp.addI rfl rfl rfl rfl (c := ((i2 + 1 : Nat) : Int)) (by omega) (by omega)) ?_
            refine AL.cons rfl (AOp.move (.inr rfl) rfl rfl) ?_
            refine AL.nil ?_
            have e14 : (sl4Copies_F1 fu r_sl4Copy r_sl4Copies plist) i2 v4 = some (.next (v4 ++ ([x9] : List GType))) := bdS hq8 (gdT hg13 (rfl))
            refine ⟨(i2 + 1, (v4 ++ ([x9] : List GType))), loopN_next h7l hJ6 e14, ?_, ?_⟩
            · skip
              exact Wk.mk (StLe.mk' trivial (by first | rfl | simp)) (keeps_nil hC) ⟨⟨_, rfl, .refl _, rfl⟩, ⟨⟨_, rfl, .refl _, rfl⟩, ⟨⟨_, rfl, leA, rfl⟩, ⟨⟨_, rfl, leA, rfl⟩, trivial⟩⟩⟩⟩
            · dsimp only; omega
          · skip
            have e15 : (sl4Copies_F1 fu r_sl4Copy r_sl4Copies plist) i2 v4 = none := bdS hq8 (gdF hg13)
            have e16 : sl4Copies_R1 fu r_sl4Copy r_sl4Copies plist = none := loopN_non h7l hJ6 e15
            have e17 : sl4Copies_G fu r_sl4Copy r_sl4Copies plist = none := soN e16
            exact none_some H e17
      · skip
        have h7l : plist.length ≤ i2 := nat_ge_of2 h7
        refine AWP.exit ?_
        refine ⟨v4, loopN_end h7l hJ6, ?_⟩
        exact Wk.mk (StLe.mk' trivial (by first | rfl | simp)) (keeps_nil hC) ⟨⟨_, rfl, .refl _, rfl⟩, ⟨⟨_, rfl, .refl _, rfl⟩, trivial⟩⟩
  · rintro v4 hR18
    refine AWP.seq ?_
    refine AWP.region_lit ?_
    refine AL.cons rfl (AOp.move (.inl rfl) rfl rfl) ?_
    refine AL.cons rfl (AOp.move (.inr rfl) rfl rfl) ?_
    refine AL.nil ?_
    refine AWP.ret ?_
    have e19 : sl4Copies_G fu r_sl4Copy r_sl4Copies plist = some v4 := soR hR18 (rfl)
    have hz : v4 = r := Option.some.inj (e19.symm.trans H)
    subst hz
    exact Ends.mk (ps := [_]) (by first | exact .inr rfl | exact .inl rfl) ⟨rfl, trivial⟩ rfl (StLe.mk' (st' := ⟨[], []⟩) trivial rfl) (keeps_nil hC) (q := (.t (.row 3 (GType.trs (v4))) : PV)) leA rfl ⟨rfl, rfl⟩
mutual
noncomputable def sl4Copy_M : Nat → GType → Option GType
  | 0, _ => none
  | fu + 1, pt => sl4Copy_G fu (sl4Copy_M fu) (sl4Copies_M fu) pt
noncomputable def sl4Copies_M : Nat → (List GType) → Option ((List GType))
  | 0, _ => none
  | fu + 1, plist => sl4Copies_G fu (sl4Copy_M fu) (sl4Copies_M fu) plist
end
theorem sl4Copy_all (fu : Nat) : (∀ (pt : GType) (r : GType), sl4Copy_M fu pt = some r → AFun Tryz.prog 110 [(GType.pv pt)] ((GType.pv r) : PV)) ∧ (∀ (plist : List GType) (r : (List GType)), sl4Copies_M fu plist = some r → AFun Tryz.prog 162 [.t (.row 3 (GType.trs (plist)))] (.t (.row 3 (GType.trs (r))) : PV)) := by
  induction fu with
  | zero => exact ⟨(fun pt r H => by simp only [sl4Copy_M] at H; cases H), (fun plist r H => by simp only [sl4Copies_M] at H; cases H)⟩
  | succ fu ih => exact ⟨(fun pt r H => by simp only [sl4Copy_M] at H; exact sl4Copy_step (sl4Copy_M fu) (sl4Copies_M fu) fu ih.1 ih.2 pt r H), (fun plist r H => by simp only [sl4Copies_M] at H; exact sl4Copies_step (sl4Copy_M fu) (sl4Copies_M fu) fu ih.1 ih.2 plist r H)⟩
theorem sl4Copy_ok (fu : Nat) (pt : GType) (r : GType) (H : sl4Copy_M fu pt = some r) : AFun Tryz.prog 110 [(GType.pv pt)] ((GType.pv r) : PV) := (sl4Copy_all fu).1 pt r H
noncomputable def iEqualType_G (fu : Nat) (r_iEqualType : GType → GType → Option Bool) (r_gEqualFunc_Type__iEqualType : (List GType) → (List GType) → Option Bool) (pa : GType) (pb : GType) : Option Bool :=
 sw (decide ((pa.gKind : Int) = pb.gKind))
 (sw (decide (pa.gName = pb.gName))
 (bd (r_gEqualFunc_Type__iEqualType pa.gArgs pb.gArgs) (fun x6 =>
 some x6))
 (some false))
 (some false)
set_option maxRecDepth 100000 in
set_option maxHeartbeats 4000000 in
theorem iEqualType_step (r_iEqualType : GType → GType → Option Bool) (r_gEqualFunc_Type__iEqualType : (List GType) → (List GType) → Option Bool) (fu : Nat) (h_iEqualType : ∀ (pa : GType) (pb : GType) (r : Bool), r_iEqualType pa pb = some r → AFun Tryz.prog 215 [(GType.pv pa), (GType.pv pb)] (.t (.leaf (.bool (r))) : PV)) (h_gEqualFunc_Type__iEqualType : ∀ (ps1 : List GType) (ps2 : List GType) (r : Bool), r_gEqualFunc_Type__iEqualType ps1 ps2 = some r → AFun Tryz.prog 229 [.t (.row 3 (GType.trs (ps1))), .t (.row 3 (GType.trs (ps2))), .fn 215 []] (.t (.leaf (.bool (r))) : PV)) (pa : GType) (pb : GType) (r : Bool) (H : iEqualType_G fu r_iEqualType r_gEqualFunc_Type__iEqualType pa pb = some r) : AFun Tryz.prog 215 [(GType.pv pa), (GType.pv pb)] (.t (.leaf (.bool (r))) : PV) := by
  refine ACalls.intro Tryz.func215 rfl (by first | decide | (simp; done) | (simp; decide)) ?_
  intro C hC
  refine AWP.seq ?_
  refine AWP.region_lit ?_
  refine AL.cons rfl (AOp.box (cs := [.t (.leaf (.int .i64 (pa.gKind))), .t (.leaf (.string (pa.gName))), .t (.row 3 (GType.trs (pa.gArgs)))]) rfl rfl rfl rfl rfl) ?_
  refine AL.cons rfl (AOp.box (cs := [.t (.leaf (.int .i64 (pb.gKind))), .t (.leaf (.string (pb.gName))), .t (.row 3 (GType.trs (pb.gArgs)))]) rfl rfl rfl rfl rfl) ?_
  refine AL.cons rfl (AOp.move (.inr rfl) rfl rfl) ?_
  refine AL.nil ?_
  refine AWP.seq ?_
  refine AWP.region_lit ?_
  refine AL.cons rfl (AOp.fieldPtr (k := 0) (d := 0) (e := 0) rfl rfl rfl fo47_0) ?_
  refine AL.cons rfl (AOp.loadPtr1 rfl rfl rfl rfl sh3 rfl) ?_
  refine AL.cons rfl (AOp.fieldPtr (k := 1) (d := 0) (e := 0) rfl rfl rfl fo47_0) ?_
  refine AL.cons rfl (AOp.loadPtr1 rfl rfl rfl rfl sh3 rfl) ?_
  refine AL.cons rfl (AOp.eqlI rfl rfl rfl rfl) ?_
  refine AL.cons rfl (AOp.move (.inl rfl) rfl rfl) ?_
  refine AL.splitB 10 rfl (fun g1 => ?_) (fun g1 => ?_)
  · skip
    refine AL.cons_gv rfl rfl rfl g1 (AOp.fieldPtr (k := 0) (d := 0) (e := 1) rfl rfl rfl fo47_1) ?_
    refine AL.cons_gv rfl rfl rfl g1 (AOp.loadPtr1 rfl rfl rfl rfl sh9 rfl) ?_
    refine AL.cons_gv rfl rfl rfl g1 (AOp.fieldPtr (k := 1) (d := 0) (e := 1) rfl rfl rfl fo47_1) ?_
    refine AL.cons_gv rfl rfl rfl g1 (AOp.loadPtr1 rfl rfl rfl rfl sh9 rfl) ?_
    refine AL.cons_gv rfl rfl rfl g1 (AOp.eqlS rfl rfl rfl rfl) ?_
    refine AL.cons rfl (AOp.pickT rfl rfl rfl g1 rfl) ?_
    refine AL.cons rfl (AOp.move (.inl rfl) rfl rfl) ?_
    refine AL.splitB 17 rfl (fun g2 => ?_) (fun g2 => ?_)
    · skip
      refine AL.cons_gv rfl rfl rfl g2 (AOp.fieldPtr (k := 0) (d := 0) (e := 2) rfl rfl rfl fo47_2) ?_
      refine AL.cons_gv rfl rfl rfl g2 (AOp.loadPtr1 rfl rfl rfl rfl sh45 rfl) ?_
      refine AL.fact (lk_lenN 19 rfl rfl (GType.trs_len _)) (fun hl3 => ?_)
      refine AL.cons_gv rfl rfl rfl g2 (AOp.fieldPtr (k := 1) (d := 0) (e := 2) rfl rfl rfl fo47_2) ?_
      refine AL.cons_gv rfl rfl rfl g2 (AOp.loadPtr1 rfl rfl rfl rfl sh45 rfl) ?_
      refine AL.fact (lk_lenN 21 rfl rfl (GType.trs_len _)) (fun hl4 => ?_)
      rcases hq5 : r_gEqualFunc_Type__iEqualType pa.gArgs pb.gArgs with _ | x6
      · skip
        have e7 : iEqualType_G fu r_iEqualType r_gEqualFunc_Type__iEqualType pa pb = none := swT g1 (swT g2 (bdN hq5))
        exact none_some H e7
      · skip
        refine AL.cons_gv rfl rfl rfl g2 (AOp.callF (res := .t (.leaf (.bool (x6)))) (ps := [_, _, _]) rfl rfl Tryz.func229 (by kernel_rfl) rfl rfl leA rfl rfl (h_gEqualFunc_Type__iEqualType pa.gArgs pb.gArgs _ hq5)) ?_
        refine AL.cons rfl (AOp.pickT rfl rfl rfl g2 rfl) ?_
        refine AL.cons rfl (AOp.move (.inr rfl) rfl rfl) ?_
        refine AL.nil ?_
        refine AWP.ret ?_
        have e8 : iEqualType_G fu r_iEqualType r_gEqualFunc_Type__iEqualType pa pb = some x6 := swT g1 (swT g2 (bdS hq5 (rfl)))
        have hz : x6 = r := Option.some.inj (e8.symm.trans H)
        subst hz
        exact Ends.mk (ps := [_]) (by first | exact .inr rfl | exact .inl rfl) ⟨rfl, trivial⟩ rfl (StLe.mk' (st' := ⟨[], []⟩) trivial rfl) (keeps_nil hC) (q := (.t (.leaf (.bool (x6))) : PV)) leA rfl ⟨rfl, rfl⟩
    · skip
      refine AL.skipP rfl rfl rfl g2 rfl rfl ?_
      refine AL.skipP rfl rfl rfl g2 rfl rfl ?_
      refine AL.skipP rfl rfl rfl g2 rfl rfl ?_
      refine AL.skipP rfl rfl rfl g2 rfl rfl ?_
      refine AL.skipP rfl rfl rfl g2 rfl rfl ?_
      refine AL.cons rfl (AOp.pickF rfl rfl rfl g2 rfl) ?_
      refine AL.cons rfl (AOp.move (.inr rfl) rfl rfl) ?_
      refine AL.nil ?_
      refine AWP.ret ?_
      have e9 : iEqualType_G fu r_iEqualType r_gEqualFunc_Type__iEqualType pa pb = some false := swT g1 (swF g2 (rfl))
      have hz : false = r := Option.some.inj (e9.symm.trans H)
      subst hz
      exact Ends.mk (ps := [_]) (by first | exact .inr rfl | exact .inl rfl) ⟨rfl, trivial⟩ rfl (StLe.mk' (st' := ⟨[], []⟩) trivial rfl) (keeps_nil hC) (q := (.t (.leaf (.bool (false))) : PV)) leA rfl ⟨rfl, rfl⟩
  · skip
    refine AL.skipP rfl rfl rfl g1 rfl rfl ?_
    refine AL.skipP rfl rfl rfl g1 rfl rfl ?_
    refine AL.skipP rfl rfl rfl g1 rfl rfl ?_
    refine AL.skipP rfl rfl rfl g1 rfl rfl ?_
    refine AL.skipP rfl rfl rfl g1 rfl rfl ?_
    refine AL.cons rfl (AOp.pickF rfl rfl rfl g1 rfl) ?_
    refine AL.cons rfl (AOp.move (.inl rfl) rfl rfl) ?_
    refine AL.skipP rfl rfl rfl rfl rfl rfl ?_
    refine AL.skipP rfl rfl rfl rfl rfl rfl ?_
    refine AL.skipP rfl rfl rfl rfl rfl rfl ?_
    refine AL.skipP rfl rfl rfl rfl rfl rfl ?_
    refine AL.skipP rfl rfl rfl rfl rfl rfl ?_
    refine AL.cons rfl (AOp.pickF rfl rfl rfl rfl rfl) ?_
    refine AL.cons rfl (AOp.move (.inr rfl) rfl rfl) ?_
    refine AL.nil ?_
    refine AWP.ret ?_
    have e10 : iEqualType_G fu r_iEqualType r_gEqualFunc_Type__iEqualType pa pb = some false := swF g1 (rfl)
    have hz : false = r := Option.some.inj (e10.symm.trans H)
    subst hz
    exact Ends.mk (ps := [_]) (by first | exact .inr rfl | exact .inl rfl) ⟨rfl, trivial⟩ rfl (StLe.mk' (st' := ⟨[], []⟩) trivial rfl) (keeps_nil hC) (q := (.t (.leaf (.bool (false))) : PV)) leA rfl ⟨rfl, rfl⟩
noncomputable def gEqualFunc_Type__iEqualType_F1 (fu : Nat) (r_iEqualType : GType → GType → Option Bool) (r_gEqualFunc_Type__iEqualType : (List GType) → (List GType) → Option Bool) (ps1 : List GType) (ps2 : List GType) : Nat → Unit → Option (LR Unit Bool) :=
 fun i5 _ => gd (i5 < (ps2).length)
 (bd (r_iEqualType (atD ps1 i5) (atD ps2 i5)) (fun x10 =>
 sw (!(x10))
 (some (.ret false))
 (some (.next ()))))
noncomputable def gEqualFunc_Type__iEqualType_R1 (fu : Nat) (r_iEqualType : GType → GType → Option Bool) (r_gEqualFunc_Type__iEqualType : (List GType) → (List GType) → Option Bool) (ps1 : List GType) (ps2 : List GType) : Option (Bool ⊕ Unit) :=
 loopN (gEqualFunc_Type__iEqualType_F1 fu r_iEqualType r_gEqualFunc_Type__iEqualType ps1 ps2) (ps1.length - 0) 0 ()
noncomputable def gEqualFunc_Type__iEqualType_G (fu : Nat) (r_iEqualType : GType → GType → Option Bool) (r_gEqualFunc_Type__iEqualType : (List GType) → (List GType) → Option Bool) (ps1 : List GType) (ps2 : List GType) : Option Bool :=
 sw (!decide ((((ps1.length : Nat) : Int) : Int) = ((ps2.length : Nat) : Int)))
 (some false)
 (so (gEqualFunc_Type__iEqualType_R1 fu r_iEqualType r_gEqualFunc_Type__iEqualType ps1 ps2) (fun _ =>
 some true))
set_option maxRecDepth 100000 in
set_option maxHeartbeats 4000000 in
theorem gEqualFunc_Type__iEqualType_step (r_iEqualType : GType → GType → Option Bool) (r_gEqualFunc_Type__iEqualType : (List GType) → (List GType) → Option Bool) (fu : Nat) (h_iEqualType : ∀ (pa : GType) (pb : GType) (r : Bool), r_iEqualType pa pb = some r → AFun Tryz.prog 215 [(GType.pv pa), (GType.pv pb)] (.t (.leaf (.bool (r))) : PV)) (h_gEqualFunc_Type__iEqualType : ∀ (ps1 : List GType) (ps2 : List GType) (r : Bool), r_gEqualFunc_Type__iEqualType ps1 ps2 = some r → AFun Tryz.prog 229 [.t (.row 3 (GType.trs (ps1))), .t (.row 3 (GType.trs (ps2))), .fn 215 []] (.t (.leaf (.bool (r))) : PV)) (ps1 : List GType) (ps2 : List GType) (r : Bool) (H : gEqualFunc_Type__iEqualType_G fu r_iEqualType r_gEqualFunc_Type__iEqualType ps1 ps2 = some r) : AFun Tryz.prog 229 [.t (.row 3 (GType.trs (ps1))), .t (.row 3 (GType.trs (ps2))), .fn 215 []] (.t (.leaf (.bool (r))) : PV) := by
  refine ACalls.intro Tryz.func229 rfl (by first | decide | (simp; done) | (simp; decide)) ?_
  intro C hC
  refine AWP.fact (lk_lenN 0 rfl rfl (GType.trs_len _)) (fun hl1 => ?_)
  refine AWP.fact (lk_lenN 1 rfl rfl (GType.trs_len _)) (fun hl2 => ?_)
  refine AWP.seq ?_
  refine AWP.region_lit ?_
  refine AL.cons rfl (AOp.move (.inr rfl) rfl rfl) ?_
  refine AL.nil ?_
  refine AWP.seq ?_
  refine AWP.seq ?_
  refine AWP.region_lit ?_
  refine AL.cons rfl (AOp.move (.inl rfl) rfl rfl) ?_
  refine AL.cons rfl (AOp.lenN rfl rfl rfl rfl el45 (GType.trs_len _)) ?_
  refine AL.cons rfl (AOp.move (.inl rfl) rfl rfl) ?_
  refine AL.cons rfl (AOp.lenN rfl rfl rfl rfl el45 (GType.trs_len _)) ?_
  refine AL.cons rfl (AOp.neqI rfl rfl rfl rfl) ?_
  refine AL.nil ?_
  refine AWP.cond rfl (fun h3 => ?_) (fun h3 => ?_)
  · skip
    refine AWP.seq ?_
    refine AWP.region_lit ?_
    refine AL.cons rfl (AOp.move (.inr rfl) rfl rfl) ?_
    refine AL.nil ?_
    refine AWP.ret ?_
    have e4 : gEqualFunc_Type__iEqualType_G fu r_iEqualType r_gEqualFunc_Type__iEqualType ps1 ps2 = some false := swT h3 (rfl)
    have hz : false = r := Option.some.inj (e4.symm.trans H)
    subst hz
    exact Ends.mk (ps := [_]) (by first | exact .inr rfl | exact .inl rfl) ⟨rfl, trivial⟩ rfl (StLe.mk' (st' := ⟨[], []⟩) trivial rfl) (keeps_nil hC) (q := (.t (.leaf (.bool (false))) : PV)) leA rfl ⟨rfl, rfl⟩
  · skip
    refine AWP.skip ?_
    refine AWP.seq ?_
    refine AWP.seq ?_
    refine AWP.region_lit ?_
    refine AL.cons rfl (AOp.move (.inl rfl) rfl rfl) ?_
    refine AL.cons rfl (AOp.lenN rfl rfl rfl rfl el45 (GType.trs_len _)) ?_
    refine AL.cons rfl (AOp.move (.inl rfl) rfl rfl) ?_
    refine AL.nil ?_
    refine AWP.cut (ι := Unit) (fun _ => gEqualFunc_Type__iEqualType_R1 fu r_iEqualType r_gEqualFunc_Type__iEqualType ps1 ps2 = some (.inr ())) (fun _ => ⟨[(6, .t (.leaf (.bool (false))))], ⟨[], []⟩⟩) (by repeat' (first | exact qcEnds | exact ncAWP | exact ncRound | exact ncEx | apply qcThen | apply qcBlock | apply qcCut)) ?_ ?_
    · skip
      refine AWP.block ?_
      refine AWP.loopR (ι := Nat × Unit) (fun (i5, _) => gEqualFunc_Type__iEqualType_R1 fu r_iEqualType r_gEqualFunc_Type__iEqualType ps1 ps2 = loopN (gEqualFunc_Type__iEqualType_F1 fu r_iEqualType r_gEqualFunc_Type__iEqualType ps1 ps2) (ps1.length - i5) i5 ()) (fun (i5, _) => ⟨[(1, .t (.row 3 (GType.trs (ps2)))), (2, .fn 215 []), (6, .t (.leaf (.bool (false)))), (15, .t (.row 3 (GType.trs (ps1)))), (16, .t (.leaf (.int .i64 (((ps1.length : Nat) : Int))))), (17, .t (.leaf (.int .i64 (((i5 : Nat) : Int)))))], ⟨[], []⟩⟩) (fun (i5, _) => ps1.length - i5) (0, ()) ?_ ?_ ?_
      · exact rfl
      · skip
        exact Wk.mk (StLe.mk' trivial rfl) (keeps_nil hC) ⟨⟨_, rfl, .refl _, rfl⟩, ⟨⟨_, rfl, .refl _, rfl⟩, ⟨⟨_, rfl, .refl _, rfl⟩, ⟨⟨_, rfl, .refl _, rfl⟩, ⟨⟨_, rfl, .refl _, rfl⟩, ⟨⟨_, rfl, leA, rfl⟩, trivial⟩⟩⟩⟩⟩⟩
      · rintro ⟨i5, ⟨⟩⟩ hJ6
        refine AWP.seq ?_
        refine AWP.region_lit ?_
        refine AL.cons rfl (AOp.lss rfl rfl rfl rfl) ?_
        refine AL.nil ?_
        refine AWP.seq ?_
        refine AWP.cond rfl (fun h7 => ?_) (fun h7 => ?_)
        · skip
          have h7l : i5 < ps1.length := nat_lt_of2 h7
          have h7n := nat_lt_of h7
          refine AWP.skip ?_
          refine AWP.seq ?_
          refine AWP.block ?_
          refine AWP.seq ?_
          refine AWP.region_lit ?_
          refine AL.cons rfl (AOp.move (.inl rfl) rfl rfl) ?_
          refine AL.cons rfl (AOp.index (k := i5) rfl rfl rfl rfl rfl (GType.trs_at h7n) el45) ?_
          refine AL.cons rfl (AOp.loadEptr (ds := [.leaf (.int .i64 ((atD ps1 i5).gKind)), .leaf (.string ((atD ps1 i5).gName)), .row 3 (GType.trs ((atD ps1 i5).gArgs))]) rfl rfl rfl sh47 rfl rfl) ?_
          refine AL.cons rfl (AOp.alloc rfl rfl zr47) ?_
          refine AL.cons rfl (AOp.move (.inr rfl) rfl rfl) ?_
          refine AL.cons rfl (AOp.storePtr (cs := [.t (.leaf (.int .i64 ((atD ps1 i5).gKind))), .t (.leaf (.string ((atD ps1 i5).gName))), .t (.row 3 (GType.trs ((atD ps1 i5).gArgs)))]) (ds := [.t (.leaf (.int .i64 ((atD ps1 i5).gKind))), .t (.leaf (.string ((atD ps1 i5).gName))), .t (.row 3 (GType.trs ((atD ps1 i5).gArgs)))]) rfl rfl rfl rfl rfl rfl rfl sz47 (Nat.le_of_ble_eq_true rfl) rfl) ?_
          refine AL.nil ?_
          refine AWP.seq ?_
          refine AWP.region_lit ?_
          refine AL.cons rfl (AOp.move (.inl rfl) rfl rfl) ?_
          refine AL.cons rfl (AOp.move (.inl rfl) rfl rfl) ?_
          rcases Classical.em (i5 < (ps2).length) with hg8 | hg8
          · skip
            refine AL.cons rfl (AOp.index (k := i5) rfl rfl rfl rfl rfl (GType.trs_at hg8) el45) ?_
            refine AL.cons rfl (AOp.loadEptr (ds := [.leaf (.int .i64 ((atD ps2 i5).gKind)), .leaf (.string ((atD ps2 i5).gName)), .row 3 (GType.trs ((atD ps2 i5).gArgs))]) rfl rfl rfl sh47 rfl rfl) ?_
            refine AL.cons rfl (AOp.alloc rfl rfl zr47) ?_
            refine AL.cons rfl (AOp.storePtr (cs := [.t (.leaf (.int .i64 ((atD ps2 i5).gKind))), .t (.leaf (.string ((atD ps2 i5).gName))), .t (.row 3 (GType.trs ((atD ps2 i5).gArgs)))]) (ds := [.t (.leaf (.int .i64 ((atD ps2 i5).gKind))), .t (.leaf (.string ((atD ps2 i5).gName))), .t (.row 3 (GType.trs ((atD ps2 i5).gArgs)))]) rfl rfl rfl rfl rfl rfl rfl sz47 (Nat.le_of_ble_eq_true rfl) rfl) ?_
            refine AL.nil ?_
            refine AWP.seq ?_
            refine AWP.region_lit ?_
            refine AL.cons rfl (AOp.move (.inl rfl) rfl rfl) ?_
            refine AL.cons rfl (AOp.loadPtr (cs := [.t (.leaf (.int .i64 ((atD ps1 i5).gKind))), .t (.leaf (.string ((atD ps1 i5).gName))), .t (.row 3 (GType.trs ((atD ps1 i5).gArgs)))]) rfl rfl rfl rfl sh47 rfl rfl) ?_
            refine AL.cons rfl (AOp.loadPtr (cs := [.t (.leaf (.int .i64 ((atD ps2 i5).gKind))), .t (.leaf (.string ((atD ps2 i5).gName))), .t (.row 3 (GType.trs ((atD ps2 i5).gArgs)))]) rfl rfl rfl rfl sh47 rfl rfl) ?_
            rcases hq9 : r_iEqualType (atD ps1 i5) (atD ps2 i5) with _ | x10
            · skip
              have e11 : (gEqualFunc_Type__iEqualType_F1 fu r_iEqualType r_gEqualFunc_Type__iEqualType ps1 ps2) i5 () = none := gdT hg8 (bdN hq9)
              have e12 : gEqualFunc_Type__iEqualType_R1 fu r_iEqualType r_gEqualFunc_Type__iEqualType ps1 ps2 = none := loopN_non h7l hJ6 e11
              have e13 : gEqualFunc_Type__iEqualType_G fu r_iEqualType r_gEqualFunc_Type__iEqualType ps1 ps2 = none := swF h3 (soN e12)
              exact none_some H e13
            · skip
              refine AL.cons rfl (AOp.callV (res := .t (.leaf (.bool (x10)))) (ps := [_, _]) (cs := []) rfl rfl rfl Tryz.func215 (by kernel_rfl) rfl rfl leA rfl rfl (h_iEqualType (atD ps1 i5) (atD ps2 i5) _ hq9)) ?_
              refine AL.cons rfl (AOp.notB rfl rfl rfl) ?_
              refine AL.nil ?_
              refine AWP.cond rfl (fun h14 => ?_) (fun h14 => ?_)
              · skip
                refine AWP.seq ?_
                refine AWP.region_lit ?_
                refine AL.cons rfl (AOp.move (.inr rfl) rfl rfl) ?_
                refine AL.nil ?_
                refine AWP.ret ?_
                have e15 : (gEqualFunc_Type__iEqualType_F1 fu r_iEqualType r_gEqualFunc_Type__iEqualType ps1 ps2) i5 () = some (.ret false) := gdT hg8 (bdS hq9 (swT h14 (rfl)))
                have e16 : gEqualFunc_Type__iEqualType_R1 fu r_iEqualType r_gEqualFunc_Type__iEqualType ps1 ps2 = some (.inl false) := loopN_ret h7l hJ6 e15
                have e17 : gEqualFunc_Type__iEqualType_G fu r_iEqualType r_gEqualFunc_Type__iEqualType ps1 ps2 = some false := swF h3 (soL e16)
                have hz : false = r := Option.some.inj (e17.symm.trans H)
                subst hz
                exact Ends.mk (ps := [_]) (by first | exact .inr rfl | exact .inl rfl) ⟨rfl, trivial⟩ rfl (StLe.mk' (st' := ⟨[], []⟩) trivial rfl) (keeps_nil hC) (q := (.t (.leaf (.bool (false))) : PV)) leA rfl ⟨rfl, rfl⟩
              · skip
                refine AWP.skip ?_
                refine AWP.region_lit ?_
                refine AL.cons rfl (AOp.addI rfl rfl rfl rfl (c := ((i5 + 1 : Nat) : Int)) (by omega) (by omega)) ?_
                refine AL.cons rfl (AOp.move (.inl rfl) rfl rfl) ?_
                refine AL.nil ?_
                have e18 : (gEqualFunc_Type__iEqualType_F1 fu r_iEqualType r_gEqualFunc_Type__iEqualType ps1 ps2) i5 () = some (.next ()) := gdT hg8 (bdS hq9 (swF h14 (rfl)))
                refine ⟨(i5 + 1, ()), loopN_next h7l hJ6 e18, ?_, ?_⟩
                · skip
                  exact Wk.mk (StLe.mk' trivial rfl) (keeps_nil hC) ⟨⟨_, rfl, .refl _, rfl⟩, ⟨⟨_, rfl, .refl _, rfl⟩, ⟨⟨_, rfl, .refl _, rfl⟩, ⟨⟨_, rfl, .refl _, rfl⟩, ⟨⟨_, rfl, .refl _, rfl⟩, ⟨⟨_, rfl, leA, rfl⟩, trivial⟩⟩⟩⟩⟩⟩
                · dsimp only; omega
          · skip
            have e19 : (gEqualFunc_Type__iEqualType_F1 fu r_iEqualType r_gEqualFunc_Type__iEqualType ps1 ps2) i5 () = none := gdF hg8
            have e20 : gEqualFunc_Type__iEqualType_R1 fu r_iEqualType r_gEqualFunc_Type__iEqualType ps1 ps2 = none := loopN_non h7l hJ6 e19
            have e21 : gEqualFunc_Type__iEqualType_G fu r_iEqualType r_gEqualFunc_Type__iEqualType ps1 ps2 = none := swF h3 (soN e20)
            exact none_some H e21
        · skip
          have h7l : ps1.length ≤ i5 := nat_ge_of2 h7
          refine AWP.exit ?_
          refine ⟨(), loopN_end h7l hJ6, ?_⟩
          exact Wk.mk (StLe.mk' trivial rfl) (keeps_nil hC) ⟨⟨_, rfl, .refl _, rfl⟩, trivial⟩
    · rintro ⟨⟩ hR22
      refine AWP.seq ?_
      refine AWP.region_lit ?_
      refine AL.cons rfl (AOp.move (.inr rfl) rfl rfl) ?_
      refine AL.nil ?_
      refine AWP.ret ?_
      have e23 : gEqualFunc_Type__iEqualType_G fu r_iEqualType r_gEqualFunc_Type__iEqualType ps1 ps2 = some true := swF h3 (soR hR22 (rfl))
      have hz : true = r := Option.some.inj (e23.symm.trans H)
      subst hz
      exact Ends.mk (ps := [_]) (by first | exact .inr rfl | exact .inl rfl) ⟨rfl, trivial⟩ rfl (StLe.mk' (st' := ⟨[], []⟩) trivial rfl) (keeps_nil hC) (q := (.t (.leaf (.bool (true))) : PV)) leA rfl ⟨rfl, rfl⟩
mutual
noncomputable def iEqualType_M : Nat → GType → GType → Option Bool
  | 0, _, _ => none
  | fu + 1, pa, pb => iEqualType_G fu (iEqualType_M fu) (gEqualFunc_Type__iEqualType_M fu) pa pb
noncomputable def gEqualFunc_Type__iEqualType_M : Nat → (List GType) → (List GType) → Option Bool
  | 0, _, _ => none
  | fu + 1, ps1, ps2 => gEqualFunc_Type__iEqualType_G fu (iEqualType_M fu) (gEqualFunc_Type__iEqualType_M fu) ps1 ps2
end
theorem iEqualType_all (fu : Nat) : (∀ (pa : GType) (pb : GType) (r : Bool), iEqualType_M fu pa pb = some r → AFun Tryz.prog 215 [(GType.pv pa), (GType.pv pb)] (.t (.leaf (.bool (r))) : PV)) ∧ (∀ (ps1 : List GType) (ps2 : List GType) (r : Bool), gEqualFunc_Type__iEqualType_M fu ps1 ps2 = some r → AFun Tryz.prog 229 [.t (.row 3 (GType.trs (ps1))), .t (.row 3 (GType.trs (ps2))), .fn 215 []] (.t (.leaf (.bool (r))) : PV)) := by
  induction fu with
  | zero => exact ⟨(fun pa pb r H => by simp only [iEqualType_M] at H; cases H), (fun ps1 ps2 r H => by simp only [gEqualFunc_Type__iEqualType_M] at H; cases H)⟩
  | succ fu ih => exact ⟨(fun pa pb r H => by simp only [iEqualType_M] at H; exact iEqualType_step (iEqualType_M fu) (gEqualFunc_Type__iEqualType_M fu) fu ih.1 ih.2 pa pb r H), (fun ps1 ps2 r H => by simp only [gEqualFunc_Type__iEqualType_M] at H; exact gEqualFunc_Type__iEqualType_step (iEqualType_M fu) (gEqualFunc_Type__iEqualType_M fu) fu ih.1 ih.2 ps1 ps2 r H)⟩
theorem iEqualType_ok (fu : Nat) (pa : GType) (pb : GType) (r : Bool) (H : iEqualType_M fu pa pb = some r) : AFun Tryz.prog 215 [(GType.pv pa), (GType.pv pb)] (.t (.leaf (.bool (r))) : PV) := (iEqualType_all fu).1 pa pb r H
noncomputable def icopyType_G (fu : Nat) (r_icopyType : GType → Option GType) (r_icopyTypes : (List GType) → Option ((List GType))) (pt : GType) : Option GType :=
 bd (r_icopyTypes pt.gArgs) (fun x3 =>
 some (GType.mk pt.gKind pt.gName x3))
set_option maxRecDepth 100000 in
set_option maxHeartbeats 4000000 in
theorem icopyType_step (r_icopyType : GType → Option GType) (r_icopyTypes : (List GType) → Option ((List GType))) (fu : Nat) (h_icopyType : ∀ (pt : GType) (r : GType), r_icopyType pt = some r → AFun Tryz.prog 111 [(GType.pv pt)] ((GType.pv r) : PV)) (h_icopyTypes : ∀ (pl : List GType) (r : (List GType)), r_icopyTypes pl = some r → AFun Tryz.prog 163 [.t (.row 3 (GType.trs (pl)))] (.t (.row 3 (GType.trs (r))) : PV)) (pt : GType) (r : GType) (H : icopyType_G fu r_icopyType r_icopyTypes pt = some r) : AFun Tryz.prog 111 [(GType.pv pt)] ((GType.pv r) : PV) := by
  refine ACalls.intro Tryz.func111 rfl (by first | decide | (simp; done) | (simp; decide)) ?_
  intro C hC
  refine AWP.seq ?_
  refine AWP.region_lit ?_
  refine AL.cons rfl (AOp.box (cs := [.t (.leaf (.int .i64 (pt.gKind))), .t (.leaf (.string (pt.gName))), .t (.row 3 (GType.trs (pt.gArgs)))]) rfl rfl rfl rfl rfl) ?_
  refine AL.cons rfl (AOp.alloc rfl rfl zr47) ?_
  refine AL.nil ?_
  refine AWP.seq ?_
  refine AWP.region_lit ?_
  refine AL.cons rfl (AOp.fieldPtr (k := 0) (d := 0) (e := 2) rfl rfl rfl fo47_2) ?_
  refine AL.cons rfl (AOp.loadPtr1 rfl rfl rfl rfl sh45 rfl) ?_
  refine AL.fact (lk_lenN 4 rfl rfl (GType.trs_len _)) (fun hl1 => ?_)
  rcases hq2 : r_icopyTypes pt.gArgs with _ | x3
  · skip
    have e4 : icopyType_G fu r_icopyType r_icopyTypes pt = none := bdN hq2
    exact none_some H e4
  · skip
    refine AL.cons rfl (AOp.callF (res := .t (.row 3 (GType.trs (x3)))) (ps := [_]) rfl rfl Tryz.func163 (by kernel_rfl) rfl rfl leA rfl rfl (h_icopyTypes pt.gArgs _ hq2)) ?_
    refine AL.cons rfl (AOp.fieldPtr (k := 0) (d := 0) (e := 2) rfl rfl rfl fo47_2) ?_
    refine AL.cons rfl (AOp.storePtr (cs := [.t (.row 3 (GType.trs (x3)))]) (ds := [.t (.leaf (.int .i64 (pt.gKind))), .t (.leaf (.string (pt.gName))), .t (.row 3 (GType.trs (x3)))]) rfl rfl rfl rfl rfl rfl rfl sz45 (Nat.le_of_ble_eq_true rfl) rfl) ?_
    refine AL.nil ?_
    refine AWP.seq ?_
    refine AWP.region_lit ?_
    refine AL.cons rfl (AOp.loadPtr (cs := [.t (.leaf (.int .i64 (pt.gKind))), .t (.leaf (.string (pt.gName))), .t (.row 3 (GType.trs (x3)))]) rfl rfl rfl rfl sh47 rfl rfl) ?_
    refine AL.cons rfl (AOp.storePtr (cs := [.t (.leaf (.int .i64 (pt.gKind))), .t (.leaf (.string (pt.gName))), .t (.row 3 (GType.trs (x3)))]) (ds := [.t (.leaf (.int .i64 (pt.gKind))), .t (.leaf (.string (pt.gName))), .t (.row 3 (GType.trs (x3)))]) rfl rfl rfl rfl rfl rfl rfl sz47 (Nat.le_of_ble_eq_true rfl) rfl) ?_
    refine AL.nil ?_
    refine AWP.ret ?_
    have e5 : icopyType_G fu r_icopyType r_icopyTypes pt = some (GType.mk pt.gKind pt.gName x3) := bdS hq2 (rfl)
    have hz : (GType.mk pt.gKind pt.gName x3) = r := Option.some.inj (e5.symm.trans H)
    subst hz
    exact Ends.mk (ps := [_]) (by first | exact .inr rfl | exact .inl rfl) ⟨⟨_, _, _, rfl, rfl, sh47, rfl, rfl⟩, trivial⟩ rfl (StLe.mk' (st' := ⟨[], []⟩) trivial rfl) (keeps_nil hC) (q := ((GType.pv (GType.mk pt.gKind pt.gName x3)) : PV)) leA rfl ⟨rfl, rfl⟩
noncomputable def icopyTypes_F1 (fu : Nat) (r_icopyType : GType → Option GType) (r_icopyTypes : (List GType) → Option ((List GType))) (pl : List GType) : Nat → ((List GType)) → Option (LR ((List GType)) ((List GType))) :=
 fun i3 v4 => bd (r_icopyType (atD pl i3)) (fun x8 =>
 gd (i3 = (v4).length)
 (some (.next (v4 ++ ([x8] : List GType)))))
noncomputable def icopyTypes_R1 (fu : Nat) (r_icopyType : GType → Option GType) (r_icopyTypes : (List GType) → Option ((List GType))) (pl : List GType) : Option (((List GType)) ⊕ ((List GType))) :=
 loopN (icopyTypes_F1 fu r_icopyType r_icopyTypes pl) (pl.length - 0) 0 ([])
noncomputable def icopyTypes_G (fu : Nat) (r_icopyType : GType → Option GType) (r_icopyTypes : (List GType) → Option ((List GType))) (pl : List GType) : Option ((List GType)) :=
 gd (pl.length ≤ 68719476736)
 (so (icopyTypes_R1 fu r_icopyType r_icopyTypes pl) (fun v4 =>
 gd ((v4).length = pl.length)
 (some v4)))
set_option maxRecDepth 100000 in
set_option maxHeartbeats 4000000 in
theorem icopyTypes_step (r_icopyType : GType → Option GType) (r_icopyTypes : (List GType) → Option ((List GType))) (fu : Nat) (h_icopyType : ∀ (pt : GType) (r : GType), r_icopyType pt = some r → AFun Tryz.prog 111 [(GType.pv pt)] ((GType.pv r) : PV)) (h_icopyTypes : ∀ (pl : List GType) (r : (List GType)), r_icopyTypes pl = some r → AFun Tryz.prog 163 [.t (.row 3 (GType.trs (pl)))] (.t (.row 3 (GType.trs (r))) : PV)) (pl : List GType) (r : (List GType)) (H : icopyTypes_G fu r_icopyType r_icopyTypes pl = some r) : AFun Tryz.prog 163 [.t (.row 3 (GType.trs (pl)))] (.t (.row 3 (GType.trs (r))) : PV) := by
  refine ACalls.intro Tryz.func163 rfl (by first | decide | (simp; done) | (simp; decide)) ?_
  intro C hC
  refine AWP.fact (lk_lenN 0 rfl rfl (GType.trs_len _)) (fun hl1 => ?_)
  refine AWP.seq ?_
  refine AWP.region_lit ?_
  refine AL.cons rfl (AOp.move (.inr rfl) rfl rfl) ?_
  refine AL.nil ?_
  refine AWP.seq ?_
  refine AWP.region_lit ?_
  refine AL.cons rfl (AOp.move (.inl rfl) rfl rfl) ?_
  refine AL.cons rfl (AOp.lenN rfl rfl rfl rfl el45 (GType.trs_len _)) ?_
  rcases Classical.em (pl.length ≤ 68719476736) with hg2 | hg2
  · skip
    refine AL.cons rfl (AOp.makeSlice (N := pl.length) rfl rfl rfl rfl el45 ze45 (by decide) (Nat.le_trans (Nat.mul_le_mul_left _ hg2) (by decide)) (Nat.le_trans hg2 (by decide))) ?_
    refine AL.cons rfl (AOp.move (.inr rfl) rfl rfl) ?_
    refine AL.nil ?_
    refine AWP.seq ?_
    refine AWP.seq ?_
    refine AWP.region_lit ?_
    refine AL.cons rfl (AOp.move (.inl rfl) rfl rfl) ?_
    refine AL.cons rfl (AOp.lenN rfl rfl rfl rfl el45 (GType.trs_len _)) ?_
    refine AL.cons rfl (AOp.move (.inl rfl) rfl rfl) ?_
    refine AL.nil ?_
    refine AWP.cut (ι := (List GType)) (fun v4 => icopyTypes_R1 fu r_icopyType r_icopyTypes pl = some (.inr v4)) (fun v4 => ⟨[(2, .nil), (3, .full 3 (pl.length) 0)], ⟨[], [⟨47, 3, GType.trs (v4), true⟩]⟩⟩) (by repeat' (first | exact qcEnds | exact ncAWP | exact ncRound | exact ncEx | apply qcThen | apply qcBlock | apply qcCut)) ?_ ?_
    · skip
      refine AWP.block ?_
      refine AWP.loopR (ι := Nat × ((List GType))) (fun (i3, v4) => icopyTypes_R1 fu r_icopyType r_icopyTypes pl = loopN (icopyTypes_F1 fu r_icopyType r_icopyTypes pl) (pl.length - i3) i3 v4) (fun (i3, v4) => ⟨[(2, .nil), (3, .full 3 (pl.length) 0), (9, .t (.row 3 (GType.trs (pl)))), (10, .t (.leaf (.int .i64 (((pl.length : Nat) : Int))))), (11, .t (.leaf (.int .i64 (((i3 : Nat) : Int)))))], ⟨[], [⟨47, 3, GType.trs (v4), true⟩]⟩⟩) (fun (i3, v4) => pl.length - i3) (0, ([])) ?_ ?_ ?_
      · exact rfl
      · skip
        exact Wk.mk (StLe.mk' trivial (by first | rfl | simp)) (keeps_nil hC) ⟨⟨_, rfl, .refl _, rfl⟩, ⟨⟨_, rfl, .refl _, rfl⟩, ⟨⟨_, rfl, .refl _, rfl⟩, ⟨⟨_, rfl, .refl _, rfl⟩, ⟨⟨_, rfl, leA, rfl⟩, trivial⟩⟩⟩⟩⟩
      · rintro ⟨i3, v4⟩ hJ5
        refine AWP.seq ?_
        refine AWP.region_lit ?_
        refine AL.cons rfl (AOp.lss rfl rfl rfl rfl) ?_
        refine AL.nil ?_
        refine AWP.seq ?_
        refine AWP.cond rfl (fun h6 => ?_) (fun h6 => ?_)
        · skip
          have h6l : i3 < pl.length := nat_lt_of2 h6
          have h6n := nat_lt_of h6
          refine AWP.skip ?_
          refine AWP.seq ?_
          refine AWP.block ?_
          refine AWP.seq ?_
          refine AWP.region_lit ?_
          refine AL.cons rfl (AOp.move (.inl rfl) rfl rfl) ?_
          refine AL.cons rfl (AOp.index (k := i3) rfl rfl rfl rfl rfl (GType.trs_at h6n) el45) ?_
          refine AL.cons rfl (AOp.loadEptr (ds := [.leaf (.int .i64 ((atD pl i3).gKind)), .leaf (.string ((atD pl i3).gName)), .row 3 (GType.trs ((atD pl i3).gArgs))]) rfl rfl rfl sh47 rfl rfl) ?_
          refine AL.cons rfl (AOp.alloc rfl rfl zr47) ?_
          refine AL.cons rfl (AOp.move (.inr rfl) rfl rfl) ?_
          refine AL.cons rfl (AOp.storePtr (cs := [.t (.leaf (.int .i64 ((atD pl i3).gKind))), .t (.leaf (.string ((atD pl i3).gName))), .t (.row 3 (GType.trs ((atD pl i3).gArgs)))]) (ds := [.t (.leaf (.int .i64 ((atD pl i3).gKind))), .t (.leaf (.string ((atD pl i3).gName))), .t (.row 3 (GType.trs ((atD pl i3).gArgs)))]) rfl rfl rfl rfl rfl rfl rfl sz47 (Nat.le_of_ble_eq_true rfl) rfl) ?_
          refine AL.nil ?_
          refine AWP.region_lit ?_
          refine AL.cons rfl (AOp.move (.inl rfl) rfl rfl) ?_
          refine AL.cons rfl (AOp.move (.inl rfl) rfl rfl) ?_
          refine AL.cons rfl (AOp.loadPtr (cs := [.t (.leaf (.int .i64 ((atD pl i3).gKind))), .t (.leaf (.string ((atD pl i3).gName))), .t (.row 3 (GType.trs ((atD pl i3).gArgs)))]) rfl rfl rfl rfl sh47 rfl rfl) ?_
          rcases hq7 : r_icopyType (atD pl i3) with _ | x8
          · skip
            have e9 : (icopyTypes_F1 fu r_icopyType r_icopyTypes pl) i3 v4 = none := bdN hq7
            have e10 : icopyTypes_R1 fu r_icopyType r_icopyTypes pl = none := loopN_non h6l hJ5 e9
            have e11 : icopyTypes_G fu r_icopyType r_icopyTypes pl = none := gdT hg2 (soN e10)
            exact none_some H e11
          · skip
            refine AL.cons rfl (AOp.callF (res := (GType.pv x8)) (ps := [_]) rfl rfl Tryz.func111 (by kernel_rfl) rfl rfl leA rfl rfl (h_icopyType (atD pl i3) _ hq7)) ?_
            refine AL.cons rfl (AOp.indexFull (k := i3) rfl rfl rfl rfl h6n el45) ?_
            rcases Classical.em (i3 = (v4).length) with hg12 | hg12
            · skip
              refine AL.cons rfl (AOp.storeRptr (e := GType.cs x8) (es2 := GType.trs (v4 ++ ([x8] : List GType))) 16 rfl rfl rfl rfl rfl rfl leA rfl rfl sz47 (by rw [GType.trs_len]; exact hg12) h6n (by rw [GType.trs_map, GType.trs_map, List.map_append]; simp [GType.tr_cs])) ?_
              refine AL.nil ?_
              refine AWP.region_lit ?_
              refine AL.cons rfl (AOp.addI rfl rfl rfl rfl (c := ((i3 + 1 : Nat) : Int)) (by omega) (by omega)) ?_
              refine AL.cons rfl (AOp.move (.inl rfl) rfl rfl) ?_
              refine AL.nil ?_
              have e13 : (icopyTypes_F1 fu r_icopyType r_icopyTypes pl) i3 v4 = some (.next (v4 ++ ([x8] : List GType))) := bdS hq7 (gdT hg12 (rfl))
              refine ⟨(i3 + 1, (v4 ++ ([x8] : List GType))), loopN_next h6l hJ5 e13, ?_, ?_⟩
              · skip
                exact Wk.mk (StLe.mk' trivial (by first | rfl | simp)) (keeps_nil hC) ⟨⟨_, rfl, .refl _, rfl⟩, ⟨⟨_, rfl, .refl _, rfl⟩, ⟨⟨_, rfl, .refl _, rfl⟩, ⟨⟨_, rfl, .refl _, rfl⟩, ⟨⟨_, rfl, leA, rfl⟩, trivial⟩⟩⟩⟩⟩
              · dsimp only; omega
            · skip
              have e14 : (icopyTypes_F1 fu r_icopyType r_icopyTypes pl) i3 v4 = none := bdS hq7 (gdF hg12)
              have e15 : icopyTypes_R1 fu r_icopyType r_icopyTypes pl = none := loopN_non h6l hJ5 e14
              have e16 : icopyTypes_G fu r_icopyType r_icopyTypes pl = none := gdT hg2 (soN e15)
              exact none_some H e16
        · skip
          have h6l : pl.length ≤ i3 := nat_ge_of2 h6
          refine AWP.exit ?_
          refine ⟨v4, loopN_end h6l hJ5, ?_⟩
          exact Wk.mk (StLe.mk' trivial (by first | rfl | simp)) (keeps_nil hC) ⟨⟨_, rfl, .refl _, rfl⟩, ⟨⟨_, rfl, .refl _, rfl⟩, trivial⟩⟩
    · rintro v4 hR17
      refine AWP.seq ?_
      refine AWP.region_lit ?_
      refine AL.cons rfl (AOp.move (.inl rfl) rfl rfl) ?_
      rcases Classical.em ((v4).length = pl.length) with hg18 | hg18
      · skip
        refine AL.weak (Wk.full (i := 22) rfl rfl (by rw [GType.trs_len]; exact hg18)) ?_
        refine AL.cons rfl (AOp.move (.inr rfl) rfl rfl) ?_
        refine AL.nil ?_
        refine AWP.ret ?_
        have e19 : icopyTypes_G fu r_icopyType r_icopyTypes pl = some v4 := gdT hg2 (soR hR17 (gdT hg18 (rfl)))
        have hz : v4 = r := Option.some.inj (e19.symm.trans H)
        subst hz
        exact Ends.mk (ps := [_]) (by first | exact .inr rfl | exact .inl rfl) ⟨rfl, trivial⟩ rfl (StLe.mk' (st' := ⟨[], []⟩) trivial rfl) (keeps_nil hC) (q := (.t (.row 3 (GType.trs (v4))) : PV)) leA rfl ⟨rfl, rfl⟩
      · skip
        have e20 : icopyTypes_G fu r_icopyType r_icopyTypes pl = none := gdT hg2 (soR hR17 (gdF hg18))
        exact none_some H e20
  · skip
    have e21 : icopyTypes_G fu r_icopyType r_icopyTypes pl = none := gdF hg2
    exact none_some H e21
mutual
noncomputable def icopyType_M : Nat → GType → Option GType
  | 0, _ => none
  | fu + 1, pt => icopyType_G fu (icopyType_M fu) (icopyTypes_M fu) pt
noncomputable def icopyTypes_M : Nat → (List GType) → Option ((List GType))
  | 0, _ => none
  | fu + 1, pl => icopyTypes_G fu (icopyType_M fu) (icopyTypes_M fu) pl
end
theorem icopyType_all (fu : Nat) : (∀ (pt : GType) (r : GType), icopyType_M fu pt = some r → AFun Tryz.prog 111 [(GType.pv pt)] ((GType.pv r) : PV)) ∧ (∀ (pl : List GType) (r : (List GType)), icopyTypes_M fu pl = some r → AFun Tryz.prog 163 [.t (.row 3 (GType.trs (pl)))] (.t (.row 3 (GType.trs (r))) : PV)) := by
  induction fu with
  | zero => exact ⟨(fun pt r H => by simp only [icopyType_M] at H; cases H), (fun pl r H => by simp only [icopyTypes_M] at H; cases H)⟩
  | succ fu ih => exact ⟨(fun pt r H => by simp only [icopyType_M] at H; exact icopyType_step (icopyType_M fu) (icopyTypes_M fu) fu ih.1 ih.2 pt r H), (fun pl r H => by simp only [icopyTypes_M] at H; exact icopyTypes_step (icopyType_M fu) (icopyTypes_M fu) fu ih.1 ih.2 pl r H)⟩
theorem icopyType_ok (fu : Nat) (pt : GType) (r : GType) (H : icopyType_M fu pt = some r) : AFun Tryz.prog 111 [(GType.pv pt)] ((GType.pv r) : PV) := (icopyType_all fu).1 pt r H
end Go.Proofs.YtnakkelglbcecaaGreat

namespace Go.Proofs.YtnakkelglbcecaaGreat

/-- The index of the first element that meets p, counted from i; -1 if there is none. -/
def idxL {α : Type} (p : α → Bool) : List α → Nat → Int
  | [], _ => -1
  | a :: l, i => if p a then i else idxL p l (i + 1)
theorem idxL_step {α : Type} {p : α → Bool} {l : List α} {k : Nat} (h : k < l.length) : idxL p (l.drop k) k = if p l[k] then (k : Int) else idxL p (l.drop (k + 1)) (k + 1) := by
  rw [List.drop_eq_getElem_cons h, idxL]
end Go.Proofs.YtnakkelglbcecaaGreat

namespace Go.Proofs.YtnakkelglbcecaaGreat
open Go.RowKit Go.Proofs


set_option maxRecDepth 100000 in
set_option maxHeartbeats 1000000 in
theorem indexFunc_147 {α : Type} (tr : α → List Tr) (p : α → Bool) (xs : List α) (g : FuncId) (caps : Array Value) (hg : ∀ (args : Array Value) (w : World), (callFunc g args).run Tryz.prog w = .ok (.enter g args) w) (hl : ∀ x, (tr x).length = 2) (s : Value) (w : World)
    (H : ∀ x ∈ xs, ∀ cs w', Ext w w' → RepL w' (tr x) cs → Calls Tryz.prog g (#[.agg ⟨cs⟩] ++ caps) w' fun e w'' => e = .returned (.bool (p x)) ∧ Ext w' w'')
    (hs : Rep w (.row 2 (xs.map tr)) s) :
    Calls Tryz.prog 147 #[s, .func (.func g) #[] caps] w fun e w' => e = .returned (.int .i64 (idxL p xs 0)) ∧ Ext w w' := by
  obtain ⟨a, cap, rfl, hlc, hm⟩ := hs.shape
  unfold maxLen at hm
  rw [List.length_map] at hlc ⊢
  rw [List.length_map] at hs
  have HS := Lib.hid hs
  have HH := Lib.hid H
  have HL := Lib.hid hl
  clear hs H hl
  go_enter Tryz.func147, Tryz.ntmps147
  go_wp2_with fail
  go_loopw [5, 8] (fun _ i wr => ∃ k : Nat, k ≤ xs.length ∧ i = .int .i64 k ∧ Ext w wr ∧ Hid (idxL p xs 0 = idxL p (xs.drop k) k)) (fun _ i _ => xs.length - (intOf i).toNat)
  case atStart => exact ⟨0, Nat.zero_le _, rfl, .refl _, rfl⟩
  case round =>
    obtain ⟨k, hk, rfl, hw, HE⟩ := hrel
    by_cases hlt : k < xs.length
    · obtain ⟨b, off, cs, rfl, hb, hcs, hc⟩ := (HS.out.ext hw).at2 (k := k) (e := tr xs[k]) (by rw [List.getElem?_map, List.getElem?_eq_getElem hlt]; rfl)
      have HST := Lib.hid (idxL_step (p := p) hlt)
      have HM := Lib.hid (List.getElem_mem hlt)
      have HCS := Lib.hid hcs
      have HC := Lib.hid hc
      have HI : Hid ((Tryz.prog.info? 33).map (·.size) = some cs.length) := by rw [← hcs.length, HL.out]; exact isz33
      clear hcs hc
      go_wp2_with (refine wpList_load_rep rfl 33 (.tmp 14) rfl b (off + k * 2) rfl cs _ Tryz.underlying33 HI.out HC.out ?_)
      refine (HH.out _ HM.out _ _ hw HCS.out).mono ?_
      rintro e w1 ⟨rfl, hw1⟩
      have HW1 := Lib.hid (hw.trans hw1)
      clear hw1
      cases hp : p xs[k]
      · have HP := Lib.hid hp
        clear hp
        go_wp2_with fail
        go_roundw
        case rel => exact ⟨k + 1, by omega, by go_num, HW1.out, by rw [HE.out, HST.out, HP.out]; rfl⟩
        case measure => simp [intOf]; omega
      · have HP := Lib.hid hp
        clear hp
        go_wp2_with fail
        go_ret
        exact ⟨ret_int (by rw [HE.out, HST.out, HP.out]; rfl), HW1.out⟩
    · have hkl : k = xs.length := by omega
      go_wp2_with fail
      go_ret
      exact ⟨ret_int (by rw [HE.out, hkl, List.drop_length]; rfl), hw⟩


end Go.Proofs.YtnakkelglbcecaaGreat

namespace Go.Proofs.YtnakkelglbcecaaGreat
open Go.RowKit Go.Proofs

theorem bytes_beq_self (a : ByteArray) : (a == a) = true := by
  obtain ⟨x⟩ := a
  show (x == x) = true
  simp
theorem bytes_inj {a b : ByteArray} (h : a.toList = b.toList) : a = b := by
  rw [ByteArray.toList_eq, ByteArray.toList_eq] at h
  obtain ⟨⟨x⟩⟩ := a
  obtain ⟨⟨y⟩⟩ := b
  have h : x = y := h
  rw [h]
theorem bytes_beq_ne {a b : ByteArray} (h : ¬ a = b) : (a == b) = false := by
  obtain ⟨x⟩ := a
  obtain ⟨y⟩ := b
  show (x == y) = false
  simp only [beq_eq_false_iff_ne, ne_eq]
  rintro rfl
  exact h rfl

mutual
def GType.eq : GType → GType → Bool
  | .mk k n xs, .mk l m ys => k == l && (n == m && GType.eqs xs ys)
def GType.eqs : List GType → List GType → Bool
  | [], [] => true
  | a :: l, b :: r => GType.eq a b && GType.eqs l r
  | _, _ => false
end
end Go.Proofs.YtnakkelglbcecaaGreat

namespace Go.Proofs.YtnakkelglbcecaaGreat
set_option linter.unusedSimpArgs false
set_option linter.unusedVariables false
open Go.RowKit Go.Proofs

theorem atD_range {n i : Nat} (h : i < n) : atD (List.range n) i = i := by rw [atD_eq (by simpa using h)]; simp
theorem eqs_len : ∀ {l r : List GType}, GType.eqs l r = true → l.length = r.length
  | [], [], _ => rfl
  | [], _ :: _, h => by simp [GType.eqs] at h
  | _ :: _, [], h => by simp [GType.eqs] at h
  | a :: l, b :: r, h => by
    simp only [GType.eqs, Bool.and_eq_true] at h
    simp [eqs_len h.2]
theorem eqs_range : ∀ {l r : List GType}, l.length = r.length → GType.eqs l r = (List.range l.length).all fun i => GType.eq (atD l i) (atD r i)
  | [], [], _ => rfl
  | [], _ :: _, h => by simp at h
  | _ :: _, [], h => by simp at h
  | a :: l, b :: r, h => by
    rw [GType.eqs, List.length_cons, List.range_succ_eq_map, List.all_cons, List.all_map, eqs_range (l := l) (r := r) (by simpa using h)]
    rfl
theorem sl4Same_ev {xs ys : List GType} (h : ∀ i, i < xs.length → i < ys.length → Evt fun fu => sEqualType_M fu (atD xs i) (atD ys i) = some (GType.eq (atD xs i) (atD ys i))) : Evt fun fu => sl4Same_M fu xs ys = some (GType.eqs xs ys) := by
  refine Evt.succ ?_
  by_cases hl : xs.length = ys.length
  · refine (Evt.below (k := xs.length) fun i hi => h i hi (by omega)).imp fun fu hf => ?_
    simp only [sl4Same_M, sl4Same_G]
    have hd : (!decide ((((xs.length : Nat) : Int) : Int) = ((ys.length : Nat) : Int))) = false := by simp [hl]
    rw [hd]
    have hr : ∀ fu', ∀ (r1 : GType → GType → Option Bool), (∀ i, i < xs.length → r1 (atD xs i) (atD ys i) = some (GType.eq (atD xs i) (atD ys i))) → sl4Same_R1 fu' r1 (sl4Same_M fu) xs ys = some (if (List.range xs.length).all (fun i => GType.eq (atD xs i) (atD ys i)) then .inr () else .inl false) := by
      intro fu' r1 h1
      unfold sl4Same_R1
      have := loopN_every (l := List.range xs.length) (f := sl4Same_F1 fu' r1 (sl4Same_M fu) xs ys) (p := fun i => GType.eq (atD xs i) (atD ys i)) (r := false) (s := ()) fun i hi => by
        have hi' : i < xs.length := by simpa using hi
        rw [atD_range hi', sl4Same_F1]
        rw [gdT (by omega) rfl, bdS (h1 i hi') rfl]
        cases GType.eq (atD xs i) (atD ys i) <;> rfl
      rwa [List.length_range] at this
    rw [hr fu _ hf, eqs_range hl]
    cases (List.range xs.length).all fun i => GType.eq (atD xs i) (atD ys i) <;> rfl
  · refine .all fun fu => ?_
    simp only [sl4Same_M, sl4Same_G]
    have hd : (!decide ((((xs.length : Nat) : Int) : Int) = ((ys.length : Nat) : Int))) = true := by simp; omega
    rw [hd]
    cases hq : GType.eqs xs ys
    · rfl
    · exact absurd (eqs_len hq) hl
theorem sEqualType_ev : ∀ a b : GType, Evt fun fu => sEqualType_M fu a b = some (GType.eq a b) := by
  refine GType.ind fun k n xs ih => ?_
  rintro ⟨l, m, ys⟩
  refine Evt.succ ((sl4Same_ev (xs := xs) (ys := ys) fun i hi hj => ih _ (atD_mem hi) _).imp fun fu hf => ?_)
  simp only [sEqualType_M, sEqualType_G, GType.gKind_mk, GType.gName_mk, GType.gArgs_mk, hf, GType.eq]
  by_cases h1 : k = l
  · subst h1
    by_cases h2 : n = m
    · subst h2
      simp [sw, bd, bytes_beq_self]
    · simp [sw, h2, bytes_beq_ne]
  · have : (k == l) = false := by simpa using h1
    simp [sw, h1, this]
theorem sEqualType_fn (a b : GType) : AFun Tryz.prog 228 [(GType.pv a), (GType.pv b)] (.t (.leaf (.bool (GType.eq a b)))) := by
  obtain ⟨fu, h⟩ := (sEqualType_ev a b).get
  exact sEqualType_ok fu a b _ h
theorem iEqualFunc_ev {xs ys : List GType} (h : ∀ i, i < xs.length → i < ys.length → Evt fun fu => iEqualType_M fu (atD xs i) (atD ys i) = some (GType.eq (atD xs i) (atD ys i))) : Evt fun fu => gEqualFunc_Type__iEqualType_M fu xs ys = some (GType.eqs xs ys) := by
  refine Evt.succ ?_
  by_cases hl : xs.length = ys.length
  · refine (Evt.below (k := xs.length) fun i hi => h i hi (by omega)).imp fun fu hf => ?_
    simp only [gEqualFunc_Type__iEqualType_M, gEqualFunc_Type__iEqualType_G]
    have hd : (!decide ((((xs.length : Nat) : Int) : Int) = ((ys.length : Nat) : Int))) = false := by simp [hl]
    rw [hd]
    have hr : gEqualFunc_Type__iEqualType_R1 fu (iEqualType_M fu) (gEqualFunc_Type__iEqualType_M fu) xs ys = some (if (List.range xs.length).all (fun i => GType.eq (atD xs i) (atD ys i)) then .inr () else .inl false) := by
      unfold gEqualFunc_Type__iEqualType_R1
      have := loopN_every (l := List.range xs.length) (f := gEqualFunc_Type__iEqualType_F1 fu (iEqualType_M fu) (gEqualFunc_Type__iEqualType_M fu) xs ys) (p := fun i => GType.eq (atD xs i) (atD ys i)) (r := false) (s := ()) fun i hi => by
        have hi' : i < xs.length := by simpa using hi
        rw [atD_range hi', gEqualFunc_Type__iEqualType_F1]
        rw [gdT (by omega) rfl, bdS (hf i hi') rfl]
        cases GType.eq (atD xs i) (atD ys i) <;> rfl
      rwa [List.length_range] at this
    rw [hr, eqs_range hl]
    cases (List.range xs.length).all fun i => GType.eq (atD xs i) (atD ys i) <;> rfl
  · refine .all fun fu => ?_
    simp only [gEqualFunc_Type__iEqualType_M, gEqualFunc_Type__iEqualType_G]
    have hd : (!decide ((((xs.length : Nat) : Int) : Int) = ((ys.length : Nat) : Int))) = true := by simp; omega
    rw [hd]
    cases hq : GType.eqs xs ys
    · rfl
    · exact absurd (eqs_len hq) hl
theorem iEqualType_ev : ∀ a b : GType, Evt fun fu => iEqualType_M fu a b = some (GType.eq a b) := by
  refine GType.ind fun k n xs ih => ?_
  rintro ⟨l, m, ys⟩
  refine Evt.succ ((iEqualFunc_ev (xs := xs) (ys := ys) fun i hi hj => ih _ (atD_mem hi) _).imp fun fu hf => ?_)
  simp only [iEqualType_M, iEqualType_G, GType.gKind_mk, GType.gName_mk, GType.gArgs_mk, hf, GType.eq]
  by_cases h1 : k = l
  · subst h1
    by_cases h2 : n = m
    · subst h2
      simp [sw, bd, bytes_beq_self]
    · simp [sw, h2, bytes_beq_ne]
  · have : (k == l) = false := by simpa using h1
    simp [sw, h1, this]
theorem iEqualType_fn (a b : GType) : AFun Tryz.prog 215 [(GType.pv a), (GType.pv b)] (.t (.leaf (.bool (GType.eq a b)))) := by
  obtain ⟨fu, h⟩ := (iEqualType_ev a b).get
  exact iEqualType_ok fu a b _ h
theorem foldl_snoc {α : Type} : ∀ (l a : List α), l.foldl (fun s x => s ++ [x]) a = a ++ l
  | [], a => by simp
  | x :: l, a => by rw [List.foldl_cons, foldl_snoc l]; simp
theorem bulk_mem {xs : List GType} : ∀ {x : GType}, x ∈ xs → Tr.bulkL x.tr ≤ Tr.bulkAll (GType.trs xs) := by
  induction xs with
  | nil => intro x hx; simp at hx
  | cons a l ih =>
    intro x hx
    simp only [GType.trs, Tr.bulkAll]
    rcases List.mem_cons.1 hx with rfl | hx
    · omega
    · have := ih hx; omega
theorem bulk_args (k : Int) (n : ByteArray) (xs : List GType) : xs.length + Tr.bulkAll (GType.trs xs) ≤ Tr.bulkL (GType.mk k n xs).tr := by
  simp only [GType.tr, Tr.bulkL_append, Tr.bulkL, Tr.bulk, GType.trs_len]
  omega
theorem sl4Copies_ev {xs : List GType} (hb : xs.length ≤ 68719476735) (h : ∀ x ∈ xs, Evt fun fu => sl4Copy_M fu x = some x) : Evt fun fu => sl4Copies_M fu xs = some xs := by
  refine Evt.succ ((Evt.list h).imp fun fu hf => ?_)
  simp only [sl4Copies_M, sl4Copies_G, sl4Copies_R1]
  rw [loopN_fold0 (l := xs) (g := fun s x => s ++ [x]) (fun i s => s.length = i) (fun i s hi hp => ⟨?_, by simp [hp]⟩) rfl, foldl_snoc]
  · rfl
  · rw [sl4Copies_F1, bdS (hf _ (atD_mem hi)) rfl, gdT (by simp; omega) rfl]
theorem sl4Copy_ev : ∀ t : GType, Tr.bulkL t.tr ≤ 68719476735 → Evt fun fu => sl4Copy_M fu t = some t := by
  refine GType.ind fun k n xs ih hb => ?_
  have h1 := bulk_args k n xs
  refine Evt.succ ((sl4Copies_ev (xs := xs) (by omega) fun x hx => ih x hx (by have := bulk_mem hx; omega)).imp fun fu hf => ?_)
  simp only [sl4Copy_M, sl4Copy_G, GType.gKind_mk, GType.gName_mk, GType.gArgs_mk, hf, bd]
theorem sl4Copy_fn (t : GType) (hb : Tr.bulkL t.tr ≤ 68719476735) : AFun Tryz.prog 110 [(GType.pv t)] (GType.pv t) := by
  obtain ⟨fu, h⟩ := (sl4Copy_ev t hb).get
  exact sl4Copy_ok fu t _ h
/-- A slice filled in order. -/
theorem loopN_fill {α β : Type} [Inhabited α] {f : Nat → List α → Option (LR (List α) β)} {l : List α} {g : α → α} (hs : ∀ i s, i < l.length → s.length = i → f i s = some (.next (s ++ [g (atD l i)]))) : loopN f (l.length - 0) 0 [] = some (.inr (l.map g)) := by
  rw [loopN_fold0 (l := l) (g := fun s x => s ++ [g x]) (fun i s => s.length = i) (fun i s hi hp => ⟨hs i s hi hp, by simp [hp]⟩) rfl]
  have key : ∀ (l a : List α), l.foldl (fun s x => s ++ [g x]) a = a ++ l.map g := by
    intro l
    induction l with
    | nil => intro a; simp
    | cons x l ih => intro a; rw [List.foldl_cons, ih]; simp
  rw [key, List.nil_append]
theorem icopyTypes_ev {xs : List GType} (hb : xs.length ≤ 68719476735) (h : ∀ x ∈ xs, Evt fun fu => icopyType_M fu x = some x) : Evt fun fu => icopyTypes_M fu xs = some xs := by
  refine Evt.succ ((Evt.list h).imp fun fu hf => ?_)
  simp only [icopyTypes_M, icopyTypes_G]
  rw [gdT (by omega) rfl]
  have hR : icopyTypes_R1 fu (icopyType_M fu) (icopyTypes_M fu) xs = some (.inr xs) := by
    unfold icopyTypes_R1
    rw [loopN_fill (l := xs) (g := id) fun i s hi hp => ?_, List.map_id]
    rw [icopyTypes_F1, bdS (hf _ (atD_mem hi)) rfl, gdT (by omega) rfl]
    rfl
  rw [soR hR rfl, gdT rfl rfl]
theorem icopyType_ev : ∀ t : GType, Tr.bulkL t.tr ≤ 68719476735 → Evt fun fu => icopyType_M fu t = some t := by
  refine GType.ind fun k n xs ih hb => ?_
  have h1 := bulk_args k n xs
  refine Evt.succ ((icopyTypes_ev (xs := xs) (by omega) fun x hx => ih x hx (by have := bulk_mem hx; omega)).imp fun fu hf => ?_)
  simp only [icopyType_M, icopyType_G, GType.gKind_mk, GType.gName_mk, GType.gArgs_mk, hf, bd]
theorem icopyType_fn (t : GType) (hb : Tr.bulkL t.tr ≤ 68719476735) : AFun Tryz.prog 111 [(GType.pv t)] (GType.pv t) := by
  obtain ⟨fu, h⟩ := (icopyType_ev t hb).get
  exact icopyType_ok fu t _ h
end Go.Proofs.YtnakkelglbcecaaGreat
