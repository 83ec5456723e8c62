/- The first trait, data type, function of a name, on both sides. No conditions. -/
import Derived.Test.YtnakkelglbcecaaGreatPmX
import Derived.Test.YtnakkelglbcecaaGreatPmT
namespace Go.Proofs.YtnakkelglbcecaaGreat
open Go.RowKit Go.Proofs
set_option linter.unusedSimpArgs false
set_option linter.unusedVariables false

/-- The first item of a name in a list of packages, and its package's number. -/
def findP {α : Type} (key : α → ByteArray) (items : GPackage → List α) (s : ByteArray) : Nat → List GPackage → Option (α × Nat)
  | _, [] => none
  | i, p :: ps => match (items p).find? (fun x => decide (key x = s)) with
    | some x => some (x, i)
    | none => findP key items s (i + 1) ps
theorem findP_hit {α : Type} {key : α → ByteArray} {items : GPackage → List α} {s : ByteArray} {ps : List GPackage} {i k : Nat} (hi : i < ps.length) (hk : k < (items ps[i]).length) (h1 : findP key items s 0 ps = findP key items s i (ps.drop i)) (h2 : (items ps[i]).find? (fun x => decide (key x = s)) = ((items ps[i]).drop k).find? (fun x => decide (key x = s)))
    (h : key (items ps[i])[k] = s) : findP key items s 0 ps = some ((items ps[i])[k], i) := by
  rw [h1, List.drop_eq_getElem_cons hi, findP, h2, List.drop_eq_getElem_cons hk, List.find?_cons_of_pos (by simpa using h)]
theorem findP_next {α : Type} {key : α → ByteArray} {items : GPackage → List α} {s : ByteArray} {p : GPackage} {k : Nat} (hk : k < (items p).length) (h2 : (items p).find? (fun x => decide (key x = s)) = ((items p).drop k).find? (fun x => decide (key x = s)))
    (h : ¬ key (items p)[k] = s) : (items p).find? (fun x => decide (key x = s)) = ((items p).drop (k + 1)).find? (fun x => decide (key x = s)) := by
  rw [h2, List.drop_eq_getElem_cons hk, List.find?_cons_of_neg (by simpa using h)]
theorem findP_miss {α : Type} {key : α → ByteArray} {items : GPackage → List α} {s : ByteArray} {ps : List GPackage} {i k : Nat} (hi : i < ps.length) (h1 : findP key items s 0 ps = findP key items s i (ps.drop i)) (h2 : (items ps[i]).find? (fun x => decide (key x = s)) = ((items ps[i]).drop k).find? (fun x => decide (key x = s)))
    (hk : (items ps[i]).length ≤ k) : findP key items s 0 ps = findP key items s (i + 1) (ps.drop (i + 1)) := by
  rw [h1, List.drop_eq_getElem_cons hi, findP, h2, List.drop_eq_nil_of_le hk]
  rfl
theorem findP_end {α : Type} {key : α → ByteArray} {items : GPackage → List α} {s : ByteArray} {ps : List GPackage} {i : Nat} (h1 : findP key items s 0 ps = findP key items s i (ps.drop i)) (hi : ps.length ≤ i) : findP key items s 0 ps = none := by
  rw [h1, List.drop_eq_nil_of_le hi, findP]
def oInt {α : Type} (o : Option (α × Nat)) : Int := match o with | some (_, i) => (i : Int) | none => 0

def GProgram.traitAt (w : GProgram) (s : ByteArray) : Option (GTrait × Nat) := findP GTrait.gName GPackage.gTraits s 0 w.gPackages
def GTrait.zero : GTrait := .mk ⟨#[]⟩ [] false false []
def oTrait (o : Option (GTrait × Nat)) : GTrait := match o with | some (x, _) => x | none => GTrait.zero
abbrev optTrait (o : Option (GTrait × Nat)) : PV := .tup [GTrait.pv (oTrait o), .t (.leaf (.int .i64 (oInt o))), .t (.leaf (.bool o.isSome))]
theorem optTrait_some {o : Option (GTrait × Nat)} {x : GTrait} {i : Nat} (h : o = some (x, i)) : PV.tup [GTrait.pv x, .t (.leaf (.int .i64 (i : Int))), .t (.leaf (.bool true))] = optTrait o := by rw [h]; rfl
theorem optTrait_none {o : Option (GTrait × Nat)} (h : o = none) : PV.tup [GTrait.pv GTrait.zero, .t (.leaf (.int .i64 0)), .t (.leaf (.bool false))] = optTrait o := by rw [h]; rfl

set_option maxRecDepth 100000 in
theorem trait_impl (w : GProgram) (s : ByteArray) : AFun Tryz.prog 82 [(GProgram.pv w), .t (.leaf (.string (s)))] (.tup [(GTrait.pv (oTrait (w.traitAt s))), .t (.leaf (.int .i64 (oInt (w.traitAt s)))), .t (.leaf (.bool ((w.traitAt s).isSome)))]) := by
  refine ACalls.intro Tryz.func82 rfl (by first | decide | (simp; done) | (simp; decide)) ?_
  intro C hC
  refine AWP.seq ?_
  refine AWP.region_lit ?_
  refine AL.cons rfl (AOp.box (cs := [.t (.row 6 (GPackage.trs (w.gPackages)))]) rfl rfl rfl rfl rfl) ?_
  refine AL.cons rfl (AOp.alloc rfl rfl zr94) ?_
  refine AL.cons rfl (AOp.move (.inr rfl) rfl rfl) ?_
  refine AL.cons rfl (AOp.move (.inr rfl) rfl rfl) ?_
  refine AL.nil ?_
  refine AWP.seq ?_
  refine AWP.seq ?_
  refine AWP.region_lit ?_
  refine AL.cons rfl (AOp.fieldPtr (k := 0) (d := 0) (e := 0) rfl rfl rfl fo31_0) ?_
  refine AL.cons rfl (AOp.loadPtr1 rfl rfl rfl rfl sh29 rfl) ?_
  refine AL.fact (lk_lenN 12 rfl rfl (GPackage.trs_len _)) (fun hl1 => ?_)
  refine AL.cons rfl (AOp.lenN rfl rfl rfl rfl el29 (GPackage.trs_len _)) ?_
  refine AL.cons rfl (AOp.move (.inl rfl) rfl rfl) ?_
  refine AL.nil ?_
  refine AWP.block ?_
  refine AWP.loopJ (ι := Nat) (fun i => i ≤ w.gPackages.length ∧ findP GTrait.gName GPackage.gTraits s 0 w.gPackages = findP GTrait.gName GPackage.gTraits s i (w.gPackages.drop i)) (fun i => ⟨[(0, (GProgram.pv w)), (1, .t (.leaf (.string (s)))), (2, .ptr 0 0), (4, .ptr 1 0), (12, .t (.row 6 (GPackage.trs (w.gPackages)))), (13, .t (.leaf (.int .i64 (((w.gPackages.length : Nat) : Int))))), (14, .t (.leaf (.int .i64 (((i : Nat) : Int)))))], ⟨[some ⟨31, [.t (.row 6 (GPackage.trs (w.gPackages)))]⟩, some ⟨94, [.t (.leaf (.string (⟨#[]⟩))), .nil, .t (.leaf (.bool (false))), .t (.leaf (.bool (false))), .nil]⟩], []⟩⟩) (fun i => w.gPackages.length - i) 0 ?_ ?_ ?_
  · exact ⟨Nat.zero_le _, rfl⟩
  · skip
    exact Wk.mk (StLe.mk' ⟨⟨rfl, by (repeat' (first | exact PV.Le.refl _ | exact LeL.nil | exact PV.Le.nil _ | exact PV.Le.acc _ _ _ | apply LeL.cons | apply PV.Le.agg | apply PV.Le.tup)), rfl⟩, ⟨⟨rfl, by (repeat' (first | exact PV.Le.refl _ | exact LeL.nil | exact PV.Le.nil _ | exact PV.Le.acc _ _ _ | apply LeL.cons | apply PV.Le.agg | apply PV.Le.tup)), rfl⟩, trivial⟩⟩ rfl) (keeps_nil hC) ⟨⟨_, rfl, .refl _, rfl⟩, ⟨⟨_, rfl, .refl _, rfl⟩, ⟨⟨_, rfl, .refl _, rfl⟩, ⟨⟨_, rfl, .refl _, rfl⟩, ⟨⟨_, rfl, .refl _, rfl⟩, ⟨⟨_, rfl, .refl _, rfl⟩, ⟨⟨_, rfl, by (repeat' (first | exact PV.Le.refl _ | exact LeL.nil | exact PV.Le.nil _ | exact PV.Le.acc _ _ _ | apply LeL.cons | apply PV.Le.agg | apply PV.Le.tup)), rfl⟩, trivial⟩⟩⟩⟩⟩⟩⟩
  rintro i hJ2
  obtain ⟨hi1, hi2⟩ := hJ2
  refine AWP.seq ?_
  refine AWP.region_lit ?_
  refine AL.cons rfl (AOp.lss rfl rfl rfl rfl) ?_
  refine AL.nil ?_
  refine AWP.seq ?_
  refine AWP.cond rfl (fun h3 => ?_) (fun h3 => ?_)
  · skip
    have h3b := h3
    try simp only [Bool.and_eq_true, Bool.or_eq_true, Bool.and_eq_false_iff, Bool.or_eq_false_iff, decide_eq_true_eq, decide_eq_false_iff_not, Bool.not_eq_true', Bool.not_eq_false', Bool.not_eq_eq_eq_not, Bool.not_true, Bool.not_false, ge_iff_le, gt_iff_lt, Int.not_lt, Int.not_le] at h3b
    have h3n : i < w.gPackages.length := by omega
    refine AWP.skip ?_
    refine AWP.seq ?_
    refine AWP.block ?_
    refine AWP.seq ?_
    refine AWP.region_lit ?_
    refine AL.cons rfl (AOp.move (.inl rfl) rfl rfl) ?_
    refine AL.cons rfl (AOp.index (k := i) rfl rfl rfl rfl rfl (GPackage.trs_cs h3n) el29) ?_
    refine AL.cons rfl (AOp.loadEptr (ds := [.leaf (.string ((w.gPackages[i]).gName)), .row 1 (strTrs ((w.gPackages[i]).gDeps)), .row 5 (GTrait.trs ((w.gPackages[i]).gTraits)), .row 3 (GDataType.trs ((w.gPackages[i]).gDataTypes)), .row 12 (GInstance.trs ((w.gPackages[i]).gInstances)), .row 16 (GFunction.trs ((w.gPackages[i]).gFunctions))]) rfl rfl rfl sh126 rfl rfl) ?_
    refine AL.cons rfl (AOp.alloc rfl rfl zr126) ?_
    refine AL.cons rfl (AOp.move (.inr rfl) rfl rfl) ?_
    refine AL.cons rfl (AOp.storePtr (cs := [.t (.leaf (.string ((w.gPackages[i]).gName))), .t (.row 1 (strTrs ((w.gPackages[i]).gDeps))), .t (.row 5 (GTrait.trs ((w.gPackages[i]).gTraits))), .t (.row 3 (GDataType.trs ((w.gPackages[i]).gDataTypes))), .t (.row 12 (GInstance.trs ((w.gPackages[i]).gInstances))), .t (.row 16 (GFunction.trs ((w.gPackages[i]).gFunctions)))]) (ds := [.t (.leaf (.string ((w.gPackages[i]).gName))), .t (.row 1 (strTrs ((w.gPackages[i]).gDeps))), .t (.row 5 (GTrait.trs ((w.gPackages[i]).gTraits))), .t (.row 3 (GDataType.trs ((w.gPackages[i]).gDataTypes))), .t (.row 12 (GInstance.trs ((w.gPackages[i]).gInstances))), .t (.row 16 (GFunction.trs ((w.gPackages[i]).gFunctions)))]) rfl rfl rfl rfl rfl rfl rfl sz126 (Nat.le_of_ble_eq_true rfl) rfl) ?_
    refine AL.nil ?_
    refine AWP.seq ?_
    refine AWP.region_lit ?_
    refine AL.cons rfl (AOp.fieldPtr (k := 2) (d := 0) (e := 2) rfl rfl rfl fo126_2) ?_
    refine AL.cons rfl (AOp.loadPtr1 rfl rfl rfl rfl sh121 rfl) ?_
    refine AL.fact (lk_lenN 20 rfl rfl (GTrait.trs_len _)) (fun hl4 => ?_)
    refine AL.cons rfl (AOp.lenN rfl rfl rfl rfl el121 (GTrait.trs_len _)) ?_
    refine AL.cons rfl (AOp.move (.inl rfl) rfl rfl) ?_
    refine AL.nil ?_
    refine AWP.block ?_
    refine AWP.loopJ (ι := Nat) (fun k => k ≤ (w.gPackages[i]).gTraits.length ∧ (w.gPackages[i]).gTraits.find? (fun x => decide (GTrait.gName x = s)) = ((w.gPackages[i]).gTraits.drop k).find? (fun x => decide (GTrait.gName x = s))) (fun k => ⟨[(0, (GProgram.pv w)), (1, .t (.leaf (.string (s)))), (2, .ptr 0 0), (4, .ptr 1 0), (7, .t (.leaf (.int .i64 (((i : Nat) : Int))))), (8, .ptr 2 0), (12, .t (.row 6 (GPackage.trs (w.gPackages)))), (13, .t (.leaf (.int .i64 (((w.gPackages.length : Nat) : Int))))), (14, .t (.leaf (.int .i64 (((i : Nat) : Int))))), (20, .t (.row 5 (GTrait.trs ((w.gPackages[i]).gTraits)))), (21, .t (.leaf (.int .i64 (((((w.gPackages[i]).gTraits).length : Nat) : Int))))), (22, .t (.leaf (.int .i64 (((k : Nat) : Int)))))], ⟨[some ⟨31, [.t (.row 6 (GPackage.trs (w.gPackages)))]⟩, some ⟨94, [.t (.leaf (.string (⟨#[]⟩))), .nil, .t (.leaf (.bool (false))), .t (.leaf (.bool (false))), .nil]⟩, some ⟨126, [.t (.leaf (.string ((w.gPackages[i]).gName))), .t (.row 1 (strTrs ((w.gPackages[i]).gDeps))), .t (.row 5 (GTrait.trs ((w.gPackages[i]).gTraits))), .t (.row 3 (GDataType.trs ((w.gPackages[i]).gDataTypes))), .t (.row 12 (GInstance.trs ((w.gPackages[i]).gInstances))), .t (.row 16 (GFunction.trs ((w.gPackages[i]).gFunctions)))]⟩], []⟩⟩) (fun k => (w.gPackages[i]).gTraits.length - k) 0 ?_ ?_ ?_
    · exact ⟨Nat.zero_le _, rfl⟩
    · skip
      exact Wk.mk (StLe.mk' ⟨⟨rfl, by (repeat' (first | exact PV.Le.refl _ | exact LeL.nil | exact PV.Le.nil _ | exact PV.Le.acc _ _ _ | apply LeL.cons | apply PV.Le.agg | apply PV.Le.tup)), rfl⟩, ⟨⟨rfl, by (repeat' (first | exact PV.Le.refl _ | exact LeL.nil | exact PV.Le.nil _ | exact PV.Le.acc _ _ _ | apply LeL.cons | apply PV.Le.agg | apply PV.Le.tup)), rfl⟩, ⟨⟨rfl, by (repeat' (first | exact PV.Le.refl _ | exact LeL.nil | exact PV.Le.nil _ | exact PV.Le.acc _ _ _ | apply LeL.cons | apply PV.Le.agg | apply PV.Le.tup)), rfl⟩, trivial⟩⟩⟩ rfl) (keeps_nil hC) ⟨⟨_, rfl, .refl _, rfl⟩, ⟨⟨_, rfl, .refl _, rfl⟩, ⟨⟨_, rfl, .refl _, rfl⟩, ⟨⟨_, rfl, .refl _, rfl⟩, ⟨⟨_, rfl, .refl _, rfl⟩, ⟨⟨_, rfl, .refl _, rfl⟩, ⟨⟨_, rfl, .refl _, rfl⟩, ⟨⟨_, rfl, .refl _, rfl⟩, ⟨⟨_, rfl, .refl _, rfl⟩, ⟨⟨_, rfl, .refl _, rfl⟩, ⟨⟨_, rfl, .refl _, rfl⟩, ⟨⟨_, rfl, by (repeat' (first | exact PV.Le.refl _ | exact LeL.nil | exact PV.Le.nil _ | exact PV.Le.acc _ _ _ | apply LeL.cons | apply PV.Le.agg | apply PV.Le.tup)), rfl⟩, trivial⟩⟩⟩⟩⟩⟩⟩⟩⟩⟩⟩⟩
    rintro k hJ5
    obtain ⟨hk1, hk2⟩ := hJ5
    refine AWP.seq ?_
    refine AWP.region_lit ?_
    refine AL.cons rfl (AOp.lss rfl rfl rfl rfl) ?_
    refine AL.nil ?_
    refine AWP.seq ?_
    refine AWP.cond rfl (fun h6 => ?_) (fun h6 => ?_)
    · skip
      have h6b := h6
      try simp only [Bool.and_eq_true, Bool.or_eq_true, Bool.and_eq_false_iff, Bool.or_eq_false_iff, decide_eq_true_eq, decide_eq_false_iff_not, Bool.not_eq_true', Bool.not_eq_false', Bool.not_eq_eq_eq_not, Bool.not_true, Bool.not_false, ge_iff_le, gt_iff_lt, Int.not_lt, Int.not_le] at h6b
      have h6n : k < ((w.gPackages[i]).gTraits).length := by omega
      refine AWP.skip ?_
      refine AWP.seq ?_
      refine AWP.block ?_
      refine AWP.seq ?_
      refine AWP.region_lit ?_
      refine AL.cons rfl (AOp.index (k := k) rfl rfl rfl rfl rfl (GTrait.trs_cs h6n) el121) ?_
      refine AL.cons rfl (AOp.loadEptr (ds := [.leaf (.string ((((w.gPackages[i]).gTraits)[k]).gName)), .row 1 (strTrs ((((w.gPackages[i]).gTraits)[k]).gSupertraits)), .leaf (.bool ((((w.gPackages[i]).gTraits)[k]).gAuto)), .leaf (.bool ((((w.gPackages[i]).gTraits)[k]).gAssoc)), .row 16 (GSignature.trs ((((w.gPackages[i]).gTraits)[k]).gSignatures))]) rfl rfl rfl sh94 rfl rfl) ?_
      refine AL.cons rfl (AOp.alloc rfl rfl zr94) ?_
      refine AL.cons rfl (AOp.storePtr (cs := [.t (.leaf (.string ((((w.gPackages[i]).gTraits)[k]).gName))), .t (.row 1 (strTrs ((((w.gPackages[i]).gTraits)[k]).gSupertraits))), .t (.leaf (.bool ((((w.gPackages[i]).gTraits)[k]).gAuto))), .t (.leaf (.bool ((((w.gPackages[i]).gTraits)[k]).gAssoc))), .t (.row 16 (GSignature.trs ((((w.gPackages[i]).gTraits)[k]).gSignatures)))]) (ds := [.t (.leaf (.string ((((w.gPackages[i]).gTraits)[k]).gName))), .t (.row 1 (strTrs ((((w.gPackages[i]).gTraits)[k]).gSupertraits))), .t (.leaf (.bool ((((w.gPackages[i]).gTraits)[k]).gAuto))), .t (.leaf (.bool ((((w.gPackages[i]).gTraits)[k]).gAssoc))), .t (.row 16 (GSignature.trs ((((w.gPackages[i]).gTraits)[k]).gSignatures)))]) rfl rfl rfl rfl rfl rfl rfl sz94 (Nat.le_of_ble_eq_true rfl) rfl) ?_
      refine AL.nil ?_
      refine AWP.seq ?_
      refine AWP.region_lit ?_
      refine AL.cons rfl (AOp.fieldPtr (k := 3) (d := 0) (e := 0) rfl rfl rfl fo94_0) ?_
      refine AL.cons rfl (AOp.loadPtr1 rfl rfl rfl rfl sh9 rfl) ?_
      refine AL.cons rfl (AOp.move (.inl rfl) rfl rfl) ?_
      refine AL.cons rfl (AOp.eqlS rfl rfl rfl rfl) ?_
      refine AL.nil ?_
      refine AWP.cond rfl (fun h7 => ?_) (fun h7 => ?_)
      · skip
        have h7b := h7
        try simp only [Bool.and_eq_true, Bool.or_eq_true, Bool.and_eq_false_iff, Bool.or_eq_false_iff, decide_eq_true_eq, decide_eq_false_iff_not, Bool.not_eq_true', Bool.not_eq_false', Bool.not_eq_eq_eq_not, Bool.not_true, Bool.not_false, ge_iff_le, gt_iff_lt, Int.not_lt, Int.not_le] at h7b
        refine AWP.seq ?_
        refine AWP.region_lit ?_
        refine AL.cons rfl (AOp.loadPtr (cs := [.t (.leaf (.string (((((w.gPackages[i]).gTraits)[k])).gName))), .t (.row 1 (strTrs (((((w.gPackages[i]).gTraits)[k])).gSupertraits))), .t (.leaf (.bool (((((w.gPackages[i]).gTraits)[k])).gAuto))), .t (.leaf (.bool (((((w.gPackages[i]).gTraits)[k])).gAssoc))), .t (.row 16 (GSignature.trs (((((w.gPackages[i]).gTraits)[k])).gSignatures)))]) rfl rfl rfl rfl sh94 rfl rfl) ?_
        refine AL.cons rfl (AOp.move (.inl rfl) rfl rfl) ?_
        refine AL.cons rfl (AOp.storePtr (cs := [.t (.leaf (.string (((((w.gPackages[i]).gTraits)[k])).gName))), .t (.row 1 (strTrs (((((w.gPackages[i]).gTraits)[k])).gSupertraits))), .t (.leaf (.bool (((((w.gPackages[i]).gTraits)[k])).gAuto))), .t (.leaf (.bool (((((w.gPackages[i]).gTraits)[k])).gAssoc))), .t (.row 16 (GSignature.trs (((((w.gPackages[i]).gTraits)[k])).gSignatures)))]) (ds := [.t (.leaf (.string (((((w.gPackages[i]).gTraits)[k])).gName))), .t (.row 1 (strTrs (((((w.gPackages[i]).gTraits)[k])).gSupertraits))), .t (.leaf (.bool (((((w.gPackages[i]).gTraits)[k])).gAuto))), .t (.leaf (.bool (((((w.gPackages[i]).gTraits)[k])).gAssoc))), .t (.row 16 (GSignature.trs (((((w.gPackages[i]).gTraits)[k])).gSignatures)))]) rfl rfl rfl rfl rfl rfl rfl sz94 (Nat.le_of_ble_eq_true rfl) rfl) ?_
        refine AL.cons rfl (AOp.move (.inr rfl) rfl rfl) ?_
        refine AL.cons rfl (AOp.move (.inr rfl) rfl rfl) ?_
        refine AL.nil ?_
        refine AWP.ret ?_
        exact Ends.mk (ps := [_, _, _]) (.inr rfl) ⟨⟨_, _, _, rfl, rfl, sh94, rfl, rfl⟩, rfl, rfl, trivial⟩ rfl (StLe.mk' (st' := ⟨[], []⟩) trivial rfl) (keeps_nil hC) (q := (.tup [(GTrait.pv (((((w.gPackages[i]).gTraits)[k])))), .t (.leaf (.int .i64 (((i : Nat) : Int)))), .t (.leaf (.bool (true)))] : PV)) (by (repeat' (first | exact PV.Le.refl _ | exact LeL.nil | exact PV.Le.nil _ | exact PV.Le.acc _ _ _ | apply LeL.cons | apply PV.Le.agg | apply PV.Le.tup))) rfl ⟨by exact optTrait_some (findP_hit (by omega) (by omega) hi2 hk2 (by assumption)), rfl⟩
      · skip
        have h7b := h7
        try simp only [Bool.and_eq_true, Bool.or_eq_true, Bool.and_eq_false_iff, Bool.or_eq_false_iff, decide_eq_true_eq, decide_eq_false_iff_not, Bool.not_eq_true', Bool.not_eq_false', Bool.not_eq_eq_eq_not, Bool.not_true, Bool.not_false, ge_iff_le, gt_iff_lt, Int.not_lt, Int.not_le] at h7b
        refine AWP.skip ?_
        refine AWP.region_lit ?_
        refine AL.cons rfl (AOp.addI rfl rfl rfl rfl (c := ((k + 1 : Nat) : Int)) (by omega) (by omega)) ?_
        refine AL.cons rfl (AOp.move (.inl rfl) rfl rfl) ?_
        refine AL.nil ?_
        refine ⟨k + 1, ?_, ?_, ?_⟩
        · exact ⟨by omega, findP_next (by omega) hk2 (by assumption)⟩
        · skip
          exact Wk.mk (StLe.mk' ⟨⟨rfl, by (repeat' (first | exact PV.Le.refl _ | exact LeL.nil | exact PV.Le.nil _ | exact PV.Le.acc _ _ _ | apply LeL.cons | apply PV.Le.agg | apply PV.Le.tup)), rfl⟩, ⟨⟨rfl, by (repeat' (first | exact PV.Le.refl _ | exact LeL.nil | exact PV.Le.nil _ | exact PV.Le.acc _ _ _ | apply LeL.cons | apply PV.Le.agg | apply PV.Le.tup)), rfl⟩, ⟨⟨rfl, by (repeat' (first | exact PV.Le.refl _ | exact LeL.nil | exact PV.Le.nil _ | exact PV.Le.acc _ _ _ | apply LeL.cons | apply PV.Le.agg | apply PV.Le.tup)), rfl⟩, trivial⟩⟩⟩ rfl) (keeps_nil hC) ⟨⟨_, rfl, .refl _, rfl⟩, ⟨⟨_, rfl, .refl _, rfl⟩, ⟨⟨_, rfl, .refl _, rfl⟩, ⟨⟨_, rfl, .refl _, rfl⟩, ⟨⟨_, rfl, .refl _, rfl⟩, ⟨⟨_, rfl, .refl _, rfl⟩, ⟨⟨_, rfl, .refl _, rfl⟩, ⟨⟨_, rfl, .refl _, rfl⟩, ⟨⟨_, rfl, .refl _, rfl⟩, ⟨⟨_, rfl, .refl _, rfl⟩, ⟨⟨_, rfl, .refl _, rfl⟩, ⟨⟨_, rfl, by (repeat' (first | exact PV.Le.refl _ | exact LeL.nil | exact PV.Le.nil _ | exact PV.Le.acc _ _ _ | apply LeL.cons | apply PV.Le.agg | apply PV.Le.tup)), rfl⟩, trivial⟩⟩⟩⟩⟩⟩⟩⟩⟩⟩⟩⟩
        · omega
    · skip
      have h6b := h6
      try simp only [Bool.and_eq_true, Bool.or_eq_true, Bool.and_eq_false_iff, Bool.or_eq_false_iff, decide_eq_true_eq, decide_eq_false_iff_not, Bool.not_eq_true', Bool.not_eq_false', Bool.not_eq_eq_eq_not, Bool.not_true, Bool.not_false, ge_iff_le, gt_iff_lt, Int.not_lt, Int.not_le] at h6b
      have h6n : k ≥ ((w.gPackages[i]).gTraits).length := by omega
      refine AWP.exit ?_
      refine AWP.region_lit ?_
      refine AL.cons rfl (AOp.addI rfl rfl rfl rfl (c := ((i + 1 : Nat) : Int)) (by omega) (by omega)) ?_
      refine AL.cons rfl (AOp.move (.inl rfl) rfl rfl) ?_
      refine AL.nil ?_
      refine ⟨i + 1, ?_, ?_, ?_⟩
      · exact ⟨by omega, findP_miss (by omega) hi2 hk2 (by omega)⟩
      · skip
        exact Wk.mk (StLe.mk' ⟨⟨rfl, by (repeat' (first | exact PV.Le.refl _ | exact LeL.nil | exact PV.Le.nil _ | exact PV.Le.acc _ _ _ | apply LeL.cons | apply PV.Le.agg | apply PV.Le.tup)), rfl⟩, ⟨⟨rfl, by (repeat' (first | exact PV.Le.refl _ | exact LeL.nil | exact PV.Le.nil _ | exact PV.Le.acc _ _ _ | apply LeL.cons | apply PV.Le.agg | apply PV.Le.tup)), rfl⟩, trivial⟩⟩ rfl) (keeps_nil hC) ⟨⟨_, rfl, .refl _, rfl⟩, ⟨⟨_, rfl, .refl _, rfl⟩, ⟨⟨_, rfl, .refl _, rfl⟩, ⟨⟨_, rfl, .refl _, rfl⟩, ⟨⟨_, rfl, .refl _, rfl⟩, ⟨⟨_, rfl, .refl _, rfl⟩, ⟨⟨_, rfl, by (repeat' (first | exact PV.Le.refl _ | exact LeL.nil | exact PV.Le.nil _ | exact PV.Le.acc _ _ _ | apply LeL.cons | apply PV.Le.agg | apply PV.Le.tup)), rfl⟩, trivial⟩⟩⟩⟩⟩⟩⟩
      · omega
  · skip
    have h3b := h3
    try simp only [Bool.and_eq_true, Bool.or_eq_true, Bool.and_eq_false_iff, Bool.or_eq_false_iff, decide_eq_true_eq, decide_eq_false_iff_not, Bool.not_eq_true', Bool.not_eq_false', Bool.not_eq_eq_eq_not, Bool.not_true, Bool.not_false, ge_iff_le, gt_iff_lt, Int.not_lt, Int.not_le] at h3b
    have h3n : i ≥ w.gPackages.length := by omega
    refine AWP.exit ?_
    refine AWP.seq ?_
    refine AWP.region_lit ?_
    refine AL.cons rfl (AOp.build rfl rfl zr94 pl94 rfl rfl) ?_
    refine AL.cons rfl (AOp.storePtr (cs := [.t (.leaf (.string (⟨#[]⟩))), .nil, .t (.leaf (.bool (false))), .t (.leaf (.bool (false))), .nil]) (ds := [.t (.leaf (.string (⟨#[]⟩))), .nil, .t (.leaf (.bool (false))), .t (.leaf (.bool (false))), .nil]) rfl rfl rfl rfl rfl rfl rfl sz94 (Nat.le_of_ble_eq_true rfl) rfl) ?_
    refine AL.cons rfl (AOp.move (.inr rfl) rfl rfl) ?_
    refine AL.cons rfl (AOp.move (.inr rfl) rfl rfl) ?_
    refine AL.nil ?_
    refine AWP.ret ?_
    exact Ends.mk (ps := [_, _, _]) (.inr rfl) ⟨⟨_, _, _, rfl, rfl, sh94, rfl, rfl⟩, rfl, rfl, trivial⟩ rfl (StLe.mk' (st' := ⟨[], []⟩) trivial rfl) (keeps_nil hC) (q := PV.tup [GTrait.pv GTrait.zero, .t (.leaf (.int .i64 (0))), .t (.leaf (.bool (false)))]) (by (repeat' (first | exact PV.Le.refl _ | exact LeL.nil | exact PV.Le.nil _ | exact PV.Le.acc _ _ _ | apply LeL.cons | apply PV.Le.agg | apply PV.Le.tup))) rfl ⟨by exact optTrait_none (findP_end hi2 (by omega)), rfl⟩

set_option maxRecDepth 100000 in
theorem trait_spec (w : GProgram) (s : ByteArray) : AFun Tryz.prog 78 [(GProgram.pv w), .t (.leaf (.string (s)))] (.tup [(GTrait.pv (oTrait (w.traitAt s))), .t (.leaf (.int .i64 (oInt (w.traitAt s)))), .t (.leaf (.bool ((w.traitAt s).isSome)))]) := by
  refine ACalls.intro Tryz.func78 rfl (by first | decide | (simp; done) | (simp; decide)) ?_
  intro C hC
  refine AWP.seq ?_
  refine AWP.region_lit ?_
  refine AL.cons rfl (AOp.box (cs := [.t (.row 6 (GPackage.trs (w.gPackages)))]) rfl rfl rfl rfl rfl) ?_
  refine AL.cons rfl (AOp.alloc rfl rfl zr94) ?_
  refine AL.cons rfl (AOp.move (.inr rfl) rfl rfl) ?_
  refine AL.cons rfl (AOp.move (.inr rfl) rfl rfl) ?_
  refine AL.nil ?_
  refine AWP.seq ?_
  refine AWP.seq ?_
  refine AWP.region_lit ?_
  refine AL.cons rfl (AOp.move (.inr rfl) rfl rfl) ?_
  refine AL.nil ?_
  refine AWP.block ?_
  refine AWP.loopJ (ι := Nat) (fun i => i ≤ w.gPackages.length ∧ findP GTrait.gName GPackage.gTraits s 0 w.gPackages = findP GTrait.gName GPackage.gTraits s i (w.gPackages.drop i)) (fun i => ⟨[(0, (GProgram.pv w)), (1, .t (.leaf (.string (s)))), (2, .ptr 0 0), (4, .ptr 1 0), (7, .t (.leaf (.int .i64 (((i : Nat) : Int)))))], ⟨[some ⟨31, [.t (.row 6 (GPackage.trs (w.gPackages)))]⟩, some ⟨94, [.t (.leaf (.string (⟨#[]⟩))), .nil, .t (.leaf (.bool (false))), .t (.leaf (.bool (false))), .nil]⟩], []⟩⟩) (fun i => w.gPackages.length - i) 0 ?_ ?_ ?_
  · exact ⟨Nat.zero_le _, rfl⟩
  · skip
    exact Wk.mk (StLe.mk' ⟨⟨rfl, by (repeat' (first | exact PV.Le.refl _ | exact LeL.nil | exact PV.Le.nil _ | exact PV.Le.acc _ _ _ | apply LeL.cons | apply PV.Le.agg | apply PV.Le.tup)), rfl⟩, ⟨⟨rfl, by (repeat' (first | exact PV.Le.refl _ | exact LeL.nil | exact PV.Le.nil _ | exact PV.Le.acc _ _ _ | apply LeL.cons | apply PV.Le.agg | apply PV.Le.tup)), rfl⟩, trivial⟩⟩ rfl) (keeps_nil hC) ⟨⟨_, rfl, .refl _, rfl⟩, ⟨⟨_, rfl, .refl _, rfl⟩, ⟨⟨_, rfl, .refl _, rfl⟩, ⟨⟨_, rfl, .refl _, rfl⟩, ⟨⟨_, rfl, by (repeat' (first | exact PV.Le.refl _ | exact LeL.nil | exact PV.Le.nil _ | exact PV.Le.acc _ _ _ | apply LeL.cons | apply PV.Le.agg | apply PV.Le.tup)), rfl⟩, trivial⟩⟩⟩⟩⟩
  rintro i hJ1
  obtain ⟨hi1, hi2⟩ := hJ1
  refine AWP.seq ?_
  refine AWP.seq ?_
  refine AWP.region_lit ?_
  refine AL.cons rfl (AOp.move (.inl rfl) rfl rfl) ?_
  refine AL.cons rfl (AOp.fieldPtr (k := 0) (d := 0) (e := 0) rfl rfl rfl fo31_0) ?_
  refine AL.cons rfl (AOp.loadPtr1 rfl rfl rfl rfl sh29 rfl) ?_
  refine AL.fact (lk_lenN 11 rfl rfl (GPackage.trs_len _)) (fun hl2 => ?_)
  refine AL.cons rfl (AOp.lenN rfl rfl rfl rfl el29 (GPackage.trs_len _)) ?_
  refine AL.cons rfl (AOp.lss rfl rfl rfl rfl) ?_
  refine AL.nil ?_
  refine AWP.cond rfl (fun h3 => ?_) (fun h3 => ?_)
  · skip
    have h3b := h3
    try simp only [Bool.and_eq_true, Bool.or_eq_true, Bool.and_eq_false_iff, Bool.or_eq_false_iff, decide_eq_true_eq, decide_eq_false_iff_not, Bool.not_eq_true', Bool.not_eq_false', Bool.not_eq_eq_eq_not, Bool.not_true, Bool.not_false, ge_iff_le, gt_iff_lt, Int.not_lt, Int.not_le] at h3b
    have h3n : i < w.gPackages.length := by omega
    refine AWP.skip ?_
    refine AWP.seq ?_
    refine AWP.block ?_
    refine AWP.seq ?_
    refine AWP.region_lit ?_
    refine AL.cons rfl (AOp.move (.inr rfl) rfl rfl) ?_
    refine AL.nil ?_
    refine AWP.block ?_
    refine AWP.loopJ (ι := Nat) (fun k => k ≤ (w.gPackages[i]).gTraits.length ∧ (w.gPackages[i]).gTraits.find? (fun x => decide (GTrait.gName x = s)) = ((w.gPackages[i]).gTraits.drop k).find? (fun x => decide (GTrait.gName x = s))) (fun k => ⟨[(0, (GProgram.pv w)), (1, .t (.leaf (.string (s)))), (2, .ptr 0 0), (4, .ptr 1 0), (7, .t (.leaf (.int .i64 (((i : Nat) : Int))))), (8, .t (.leaf (.int .i64 (((k : Nat) : Int)))))], ⟨[some ⟨31, [.t (.row 6 (GPackage.trs (w.gPackages)))]⟩, some ⟨94, [.t (.leaf (.string (⟨#[]⟩))), .nil, .t (.leaf (.bool (false))), .t (.leaf (.bool (false))), .nil]⟩], []⟩⟩) (fun k => (w.gPackages[i]).gTraits.length - k) 0 ?_ ?_ ?_
    · exact ⟨Nat.zero_le _, rfl⟩
    · skip
      exact Wk.mk (StLe.mk' ⟨⟨rfl, by (repeat' (first | exact PV.Le.refl _ | exact LeL.nil | exact PV.Le.nil _ | exact PV.Le.acc _ _ _ | apply LeL.cons | apply PV.Le.agg | apply PV.Le.tup)), rfl⟩, ⟨⟨rfl, by (repeat' (first | exact PV.Le.refl _ | exact LeL.nil | exact PV.Le.nil _ | exact PV.Le.acc _ _ _ | apply LeL.cons | apply PV.Le.agg | apply PV.Le.tup)), rfl⟩, trivial⟩⟩ rfl) (keeps_nil hC) ⟨⟨_, rfl, .refl _, rfl⟩, ⟨⟨_, rfl, .refl _, rfl⟩, ⟨⟨_, rfl, .refl _, rfl⟩, ⟨⟨_, rfl, .refl _, rfl⟩, ⟨⟨_, rfl, .refl _, rfl⟩, ⟨⟨_, rfl, by (repeat' (first | exact PV.Le.refl _ | exact LeL.nil | exact PV.Le.nil _ | exact PV.Le.acc _ _ _ | apply LeL.cons | apply PV.Le.agg | apply PV.Le.tup)), rfl⟩, trivial⟩⟩⟩⟩⟩⟩
    rintro k hJ4
    obtain ⟨hk1, hk2⟩ := hJ4
    refine AWP.seq ?_
    refine AWP.seq ?_
    refine AWP.region_lit ?_
    refine AL.cons rfl (AOp.move (.inl rfl) rfl rfl) ?_
    refine AL.cons rfl (AOp.fieldPtr (k := 0) (d := 0) (e := 0) rfl rfl rfl fo31_0) ?_
    refine AL.cons rfl (AOp.loadPtr1 rfl rfl rfl rfl sh29 rfl) ?_
    refine AL.cons rfl (AOp.move (.inl rfl) rfl rfl) ?_
    refine AL.cons rfl (AOp.index (k := i) rfl rfl rfl rfl rfl (GPackage.trs_cs h3n) el29) ?_
    refine AL.cons rfl (AOp.fieldEptr (cs := (GPackage.cs (w.gPackages[i]))) (e := 2) rfl rfl rfl fo126_2) ?_
    refine AL.cons rfl (AOp.loadEptr1 (d := .row 5 (GTrait.trs ((w.gPackages[i]).gTraits))) rfl rfl rfl sh121 rfl) ?_
    refine AL.fact (lk_lenN 22 rfl rfl (GTrait.trs_len _)) (fun hl5 => ?_)
    refine AL.cons rfl (AOp.lenN rfl rfl rfl rfl el121 (GTrait.trs_len _)) ?_
    refine AL.cons rfl (AOp.lss rfl rfl rfl rfl) ?_
    refine AL.nil ?_
    refine AWP.cond rfl (fun h6 => ?_) (fun h6 => ?_)
    · skip
      have h6b := h6
      try simp only [Bool.and_eq_true, Bool.or_eq_true, Bool.and_eq_false_iff, Bool.or_eq_false_iff, decide_eq_true_eq, decide_eq_false_iff_not, Bool.not_eq_true', Bool.not_eq_false', Bool.not_eq_eq_eq_not, Bool.not_true, Bool.not_false, ge_iff_le, gt_iff_lt, Int.not_lt, Int.not_le] at h6b
      have h6n : k < ((w.gPackages[i]).gTraits).length := by omega
      refine AWP.skip ?_
      refine AWP.seq ?_
      refine AWP.block ?_
      refine AWP.seq ?_
      refine AWP.region_lit ?_
      refine AL.cons rfl (AOp.fieldPtr (k := 0) (d := 0) (e := 0) rfl rfl rfl fo31_0) ?_
      refine AL.cons rfl (AOp.loadPtr1 rfl rfl rfl rfl sh29 rfl) ?_
      refine AL.cons rfl (AOp.move (.inl rfl) rfl rfl) ?_
      refine AL.cons rfl (AOp.index (k := i) rfl rfl rfl rfl rfl (GPackage.trs_cs h3n) el29) ?_
      refine AL.cons rfl (AOp.fieldEptr (cs := (GPackage.cs (w.gPackages[i]))) (e := 2) rfl rfl rfl fo126_2) ?_
      refine AL.cons rfl (AOp.loadEptr1 (d := .row 5 (GTrait.trs ((w.gPackages[i]).gTraits))) rfl rfl rfl sh121 rfl) ?_
      refine AL.cons rfl (AOp.move (.inl rfl) rfl rfl) ?_
      refine AL.cons rfl (AOp.index (k := k) rfl rfl rfl rfl rfl (GTrait.trs_cs h6n) el121) ?_
      refine AL.cons rfl (AOp.fieldEptr (cs := (GTrait.cs (((w.gPackages[i]).gTraits)[k]))) (e := 0) rfl rfl rfl fo94_0) ?_
      refine AL.cons rfl (AOp.loadEptr1 (d := .leaf (.string ((((w.gPackages[i]).gTraits)[k]).gName))) rfl rfl rfl sh9 rfl) ?_
      refine AL.cons rfl (AOp.move (.inl rfl) rfl rfl) ?_
      refine AL.cons rfl (AOp.eqlS rfl rfl rfl rfl) ?_
      refine AL.nil ?_
      refine AWP.cond rfl (fun h7 => ?_) (fun h7 => ?_)
      · skip
        have h7b := h7
        try simp only [Bool.and_eq_true, Bool.or_eq_true, Bool.and_eq_false_iff, Bool.or_eq_false_iff, decide_eq_true_eq, decide_eq_false_iff_not, Bool.not_eq_true', Bool.not_eq_false', Bool.not_eq_eq_eq_not, Bool.not_true, Bool.not_false, ge_iff_le, gt_iff_lt, Int.not_lt, Int.not_le] at h7b
        refine AWP.seq ?_
        refine AWP.region_lit ?_
        refine AL.cons rfl (AOp.fieldPtr (k := 0) (d := 0) (e := 0) rfl rfl rfl fo31_0) ?_
        refine AL.cons rfl (AOp.loadPtr1 rfl rfl rfl rfl sh29 rfl) ?_
        refine AL.cons rfl (AOp.move (.inl rfl) rfl rfl) ?_
        refine AL.cons rfl (AOp.index (k := i) rfl rfl rfl rfl rfl (GPackage.trs_cs h3n) el29) ?_
        refine AL.cons rfl (AOp.fieldEptr (cs := (GPackage.cs (w.gPackages[i]))) (e := 2) rfl rfl rfl fo126_2) ?_
        refine AL.cons rfl (AOp.loadEptr1 (d := .row 5 (GTrait.trs ((w.gPackages[i]).gTraits))) rfl rfl rfl sh121 rfl) ?_
        refine AL.cons rfl (AOp.move (.inl rfl) rfl rfl) ?_
        refine AL.cons rfl (AOp.index (k := k) rfl rfl rfl rfl rfl (GTrait.trs_cs h6n) el121) ?_
        refine AL.cons rfl (AOp.loadEptr (ds := [.leaf (.string ((((w.gPackages[i]).gTraits)[k]).gName)), .row 1 (strTrs ((((w.gPackages[i]).gTraits)[k]).gSupertraits)), .leaf (.bool ((((w.gPackages[i]).gTraits)[k]).gAuto)), .leaf (.bool ((((w.gPackages[i]).gTraits)[k]).gAssoc)), .row 16 (GSignature.trs ((((w.gPackages[i]).gTraits)[k]).gSignatures))]) rfl rfl rfl sh94 rfl rfl) ?_
        refine AL.cons rfl (AOp.move (.inl rfl) rfl rfl) ?_
        refine AL.cons rfl (AOp.storePtr (cs := [.t (.leaf (.string ((((w.gPackages[i]).gTraits)[k]).gName))), .t (.row 1 (strTrs ((((w.gPackages[i]).gTraits)[k]).gSupertraits))), .t (.leaf (.bool ((((w.gPackages[i]).gTraits)[k]).gAuto))), .t (.leaf (.bool ((((w.gPackages[i]).gTraits)[k]).gAssoc))), .t (.row 16 (GSignature.trs ((((w.gPackages[i]).gTraits)[k]).gSignatures)))]) (ds := [.t (.leaf (.string ((((w.gPackages[i]).gTraits)[k]).gName))), .t (.row 1 (strTrs ((((w.gPackages[i]).gTraits)[k]).gSupertraits))), .t (.leaf (.bool ((((w.gPackages[i]).gTraits)[k]).gAuto))), .t (.leaf (.bool ((((w.gPackages[i]).gTraits)[k]).gAssoc))), .t (.row 16 (GSignature.trs ((((w.gPackages[i]).gTraits)[k]).gSignatures)))]) rfl rfl rfl rfl rfl rfl rfl sz94 (Nat.le_of_ble_eq_true rfl) rfl) ?_
        refine AL.cons rfl (AOp.move (.inr rfl) rfl rfl) ?_
        refine AL.cons rfl (AOp.move (.inr rfl) rfl rfl) ?_
        refine AL.nil ?_
        refine AWP.ret ?_
        exact Ends.mk (ps := [_, _, _]) (.inr rfl) ⟨⟨_, _, _, rfl, rfl, sh94, rfl, rfl⟩, rfl, rfl, trivial⟩ rfl (StLe.mk' (st' := ⟨[], []⟩) trivial rfl) (keeps_nil hC) (q := (.tup [(GTrait.pv ((((w.gPackages[i]).gTraits)[k]))), .t (.leaf (.int .i64 (((i : Nat) : Int)))), .t (.leaf (.bool (true)))] : PV)) (by (repeat' (first | exact PV.Le.refl _ | exact LeL.nil | exact PV.Le.nil _ | exact PV.Le.acc _ _ _ | apply LeL.cons | apply PV.Le.agg | apply PV.Le.tup))) rfl ⟨by exact optTrait_some (findP_hit (by omega) (by omega) hi2 hk2 (by assumption)), rfl⟩
      · skip
        have h7b := h7
        try simp only [Bool.and_eq_true, Bool.or_eq_true, Bool.and_eq_false_iff, Bool.or_eq_false_iff, decide_eq_true_eq, decide_eq_false_iff_not, Bool.not_eq_true', Bool.not_eq_false', Bool.not_eq_eq_eq_not, Bool.not_true, Bool.not_false, ge_iff_le, gt_iff_lt, Int.not_lt, Int.not_le] at h7b
        refine AWP.skip ?_
        refine AWP.region_lit ?_
        refine AL.cons rfl (AOp.move (.inl rfl) rfl rfl) ?_
        refine AL.cons rfl (AOp.addI rfl rfl rfl rfl (c := ((k + 1 : Nat) : Int)) (by omega) (by omega)) ?_
        refine AL.cons rfl (AOp.move (.inr rfl) rfl rfl) ?_
        refine AL.nil ?_
        refine ⟨k + 1, ?_, ?_, ?_⟩
        · exact ⟨by omega, findP_next (by omega) hk2 (by assumption)⟩
        · skip
          exact Wk.mk (StLe.mk' ⟨⟨rfl, by (repeat' (first | exact PV.Le.refl _ | exact LeL.nil | exact PV.Le.nil _ | exact PV.Le.acc _ _ _ | apply LeL.cons | apply PV.Le.agg | apply PV.Le.tup)), rfl⟩, ⟨⟨rfl, by (repeat' (first | exact PV.Le.refl _ | exact LeL.nil | exact PV.Le.nil _ | exact PV.Le.acc _ _ _ | apply LeL.cons | apply PV.Le.agg | apply PV.Le.tup)), rfl⟩, trivial⟩⟩ rfl) (keeps_nil hC) ⟨⟨_, rfl, .refl _, rfl⟩, ⟨⟨_, rfl, .refl _, rfl⟩, ⟨⟨_, rfl, .refl _, rfl⟩, ⟨⟨_, rfl, .refl _, rfl⟩, ⟨⟨_, rfl, .refl _, rfl⟩, ⟨⟨_, rfl, by (repeat' (first | exact PV.Le.refl _ | exact LeL.nil | exact PV.Le.nil _ | exact PV.Le.acc _ _ _ | apply LeL.cons | apply PV.Le.agg | apply PV.Le.tup)), rfl⟩, trivial⟩⟩⟩⟩⟩⟩
        · omega
    · skip
      have h6b := h6
      try simp only [Bool.and_eq_true, Bool.or_eq_true, Bool.and_eq_false_iff, Bool.or_eq_false_iff, decide_eq_true_eq, decide_eq_false_iff_not, Bool.not_eq_true', Bool.not_eq_false', Bool.not_eq_eq_eq_not, Bool.not_true, Bool.not_false, ge_iff_le, gt_iff_lt, Int.not_lt, Int.not_le] at h6b
      have h6n : k ≥ ((w.gPackages[i]).gTraits).length := by omega
      refine AWP.exit ?_
      refine AWP.region_lit ?_
      refine AL.cons rfl (AOp.move (.inl rfl) rfl rfl) ?_
      refine AL.cons rfl (AOp.addI rfl rfl rfl rfl (c := ((i + 1 : Nat) : Int)) (by omega) (by omega)) ?_
      refine AL.cons rfl (AOp.move (.inr rfl) rfl rfl) ?_
      refine AL.nil ?_
      refine ⟨i + 1, ?_, ?_, ?_⟩
      · exact ⟨by omega, findP_miss (by omega) hi2 hk2 (by omega)⟩
      · skip
        exact Wk.mk (StLe.mk' ⟨⟨rfl, by (repeat' (first | exact PV.Le.refl _ | exact LeL.nil | exact PV.Le.nil _ | exact PV.Le.acc _ _ _ | apply LeL.cons | apply PV.Le.agg | apply PV.Le.tup)), rfl⟩, ⟨⟨rfl, by (repeat' (first | exact PV.Le.refl _ | exact LeL.nil | exact PV.Le.nil _ | exact PV.Le.acc _ _ _ | apply LeL.cons | apply PV.Le.agg | apply PV.Le.tup)), rfl⟩, trivial⟩⟩ rfl) (keeps_nil hC) ⟨⟨_, rfl, .refl _, rfl⟩, ⟨⟨_, rfl, .refl _, rfl⟩, ⟨⟨_, rfl, .refl _, rfl⟩, ⟨⟨_, rfl, .refl _, rfl⟩, ⟨⟨_, rfl, by (repeat' (first | exact PV.Le.refl _ | exact LeL.nil | exact PV.Le.nil _ | exact PV.Le.acc _ _ _ | apply LeL.cons | apply PV.Le.agg | apply PV.Le.tup)), rfl⟩, trivial⟩⟩⟩⟩⟩
      · omega
  · skip
    have h3b := h3
    try simp only [Bool.and_eq_true, Bool.or_eq_true, Bool.and_eq_false_iff, Bool.or_eq_false_iff, decide_eq_true_eq, decide_eq_false_iff_not, Bool.not_eq_true', Bool.not_eq_false', Bool.not_eq_eq_eq_not, Bool.not_true, Bool.not_false, ge_iff_le, gt_iff_lt, Int.not_lt, Int.not_le] at h3b
    have h3n : i ≥ w.gPackages.length := by omega
    refine AWP.exit ?_
    refine AWP.seq ?_
    refine AWP.region_lit ?_
    refine AL.cons rfl (AOp.build rfl rfl zr94 pl94 rfl rfl) ?_
    refine AL.cons rfl (AOp.storePtr (cs := [.t (.leaf (.string (⟨#[]⟩))), .nil, .t (.leaf (.bool (false))), .t (.leaf (.bool (false))), .nil]) (ds := [.t (.leaf (.string (⟨#[]⟩))), .nil, .t (.leaf (.bool (false))), .t (.leaf (.bool (false))), .nil]) rfl rfl rfl rfl rfl rfl rfl sz94 (Nat.le_of_ble_eq_true rfl) rfl) ?_
    refine AL.cons rfl (AOp.move (.inr rfl) rfl rfl) ?_
    refine AL.cons rfl (AOp.move (.inr rfl) rfl rfl) ?_
    refine AL.nil ?_
    refine AWP.ret ?_
    exact Ends.mk (ps := [_, _, _]) (.inr rfl) ⟨⟨_, _, _, rfl, rfl, sh94, rfl, rfl⟩, rfl, rfl, trivial⟩ rfl (StLe.mk' (st' := ⟨[], []⟩) trivial rfl) (keeps_nil hC) (q := PV.tup [GTrait.pv GTrait.zero, .t (.leaf (.int .i64 (0))), .t (.leaf (.bool (false)))]) (by (repeat' (first | exact PV.Le.refl _ | exact LeL.nil | exact PV.Le.nil _ | exact PV.Le.acc _ _ _ | apply LeL.cons | apply PV.Le.agg | apply PV.Le.tup))) rfl ⟨by exact optTrait_none (findP_end hi2 (by omega)), rfl⟩

def GProgram.dataAt (w : GProgram) (s : ByteArray) : Option (GDataType × Nat) := findP GDataType.gName GPackage.gDataTypes s 0 w.gPackages
def GDataType.zero : GDataType := .mk ⟨#[]⟩ [] []
def oDataType (o : Option (GDataType × Nat)) : GDataType := match o with | some (x, _) => x | none => GDataType.zero
abbrev optDataType (o : Option (GDataType × Nat)) : PV := .tup [GDataType.pv (oDataType o), .t (.leaf (.int .i64 (oInt o))), .t (.leaf (.bool o.isSome))]
theorem optDataType_some {o : Option (GDataType × Nat)} {x : GDataType} {i : Nat} (h : o = some (x, i)) : PV.tup [GDataType.pv x, .t (.leaf (.int .i64 (i : Int))), .t (.leaf (.bool true))] = optDataType o := by rw [h]; rfl
theorem optDataType_none {o : Option (GDataType × Nat)} (h : o = none) : PV.tup [GDataType.pv GDataType.zero, .t (.leaf (.int .i64 0)), .t (.leaf (.bool false))] = optDataType o := by rw [h]; rfl

set_option maxRecDepth 100000 in
theorem data_impl (w : GProgram) (s : ByteArray) : AFun Tryz.prog 142 [(GProgram.pv w), .t (.leaf (.string (s)))] (.tup [(GDataType.pv (oDataType (w.dataAt s))), .t (.leaf (.int .i64 (oInt (w.dataAt s)))), .t (.leaf (.bool ((w.dataAt s).isSome)))]) := by
  refine ACalls.intro Tryz.func142 rfl (by first | decide | (simp; done) | (simp; decide)) ?_
  intro C hC
  refine AWP.seq ?_
  refine AWP.region_lit ?_
  refine AL.cons rfl (AOp.box (cs := [.t (.row 6 (GPackage.trs (w.gPackages)))]) rfl rfl rfl rfl rfl) ?_
  refine AL.cons rfl (AOp.alloc rfl rfl zr171) ?_
  refine AL.cons rfl (AOp.move (.inr rfl) rfl rfl) ?_
  refine AL.cons rfl (AOp.move (.inr rfl) rfl rfl) ?_
  refine AL.nil ?_
  refine AWP.seq ?_
  refine AWP.seq ?_
  refine AWP.region_lit ?_
  refine AL.cons rfl (AOp.fieldPtr (k := 0) (d := 0) (e := 0) rfl rfl rfl fo31_0) ?_
  refine AL.cons rfl (AOp.loadPtr1 rfl rfl rfl rfl sh29 rfl) ?_
  refine AL.fact (lk_lenN 12 rfl rfl (GPackage.trs_len _)) (fun hl1 => ?_)
  refine AL.cons rfl (AOp.lenN rfl rfl rfl rfl el29 (GPackage.trs_len _)) ?_
  refine AL.cons rfl (AOp.move (.inl rfl) rfl rfl) ?_
  refine AL.nil ?_
  refine AWP.block ?_
  refine AWP.loopJ (ι := Nat) (fun i => i ≤ w.gPackages.length ∧ findP GDataType.gName GPackage.gDataTypes s 0 w.gPackages = findP GDataType.gName GPackage.gDataTypes s i (w.gPackages.drop i)) (fun i => ⟨[(0, (GProgram.pv w)), (1, .t (.leaf (.string (s)))), (2, .ptr 0 0), (4, .ptr 1 0), (12, .t (.row 6 (GPackage.trs (w.gPackages)))), (13, .t (.leaf (.int .i64 (((w.gPackages.length : Nat) : Int))))), (14, .t (.leaf (.int .i64 (((i : Nat) : Int)))))], ⟨[some ⟨31, [.t (.row 6 (GPackage.trs (w.gPackages)))]⟩, some ⟨171, [.t (.leaf (.string (⟨#[]⟩))), .nil, .nil]⟩], []⟩⟩) (fun i => w.gPackages.length - i) 0 ?_ ?_ ?_
  · exact ⟨Nat.zero_le _, rfl⟩
  · skip
    exact Wk.mk (StLe.mk' ⟨⟨rfl, by (repeat' (first | exact PV.Le.refl _ | exact LeL.nil | exact PV.Le.nil _ | exact PV.Le.acc _ _ _ | apply LeL.cons | apply PV.Le.agg | apply PV.Le.tup)), rfl⟩, ⟨⟨rfl, by (repeat' (first | exact PV.Le.refl _ | exact LeL.nil | exact PV.Le.nil _ | exact PV.Le.acc _ _ _ | apply LeL.cons | apply PV.Le.agg | apply PV.Le.tup)), rfl⟩, trivial⟩⟩ rfl) (keeps_nil hC) ⟨⟨_, rfl, .refl _, rfl⟩, ⟨⟨_, rfl, .refl _, rfl⟩, ⟨⟨_, rfl, .refl _, rfl⟩, ⟨⟨_, rfl, .refl _, rfl⟩, ⟨⟨_, rfl, .refl _, rfl⟩, ⟨⟨_, rfl, .refl _, rfl⟩, ⟨⟨_, rfl, by (repeat' (first | exact PV.Le.refl _ | exact LeL.nil | exact PV.Le.nil _ | exact PV.Le.acc _ _ _ | apply LeL.cons | apply PV.Le.agg | apply PV.Le.tup)), rfl⟩, trivial⟩⟩⟩⟩⟩⟩⟩
  rintro i hJ2
  obtain ⟨hi1, hi2⟩ := hJ2
  refine AWP.seq ?_
  refine AWP.region_lit ?_
  refine AL.cons rfl (AOp.lss rfl rfl rfl rfl) ?_
  refine AL.nil ?_
  refine AWP.seq ?_
  refine AWP.cond rfl (fun h3 => ?_) (fun h3 => ?_)
  · skip
    have h3b := h3
    try simp only [Bool.and_eq_true, Bool.or_eq_true, Bool.and_eq_false_iff, Bool.or_eq_false_iff, decide_eq_true_eq, decide_eq_false_iff_not, Bool.not_eq_true', Bool.not_eq_false', Bool.not_eq_eq_eq_not, Bool.not_true, Bool.not_false, ge_iff_le, gt_iff_lt, Int.not_lt, Int.not_le] at h3b
    have h3n : i < w.gPackages.length := by omega
    refine AWP.skip ?_
    refine AWP.seq ?_
    refine AWP.block ?_
    refine AWP.seq ?_
    refine AWP.region_lit ?_
    refine AL.cons rfl (AOp.move (.inl rfl) rfl rfl) ?_
    refine AL.cons rfl (AOp.index (k := i) rfl rfl rfl rfl rfl (GPackage.trs_cs h3n) el29) ?_
    refine AL.cons rfl (AOp.loadEptr (ds := [.leaf (.string ((w.gPackages[i]).gName)), .row 1 (strTrs ((w.gPackages[i]).gDeps)), .row 5 (GTrait.trs ((w.gPackages[i]).gTraits)), .row 3 (GDataType.trs ((w.gPackages[i]).gDataTypes)), .row 12 (GInstance.trs ((w.gPackages[i]).gInstances)), .row 16 (GFunction.trs ((w.gPackages[i]).gFunctions))]) rfl rfl rfl sh126 rfl rfl) ?_
    refine AL.cons rfl (AOp.alloc rfl rfl zr126) ?_
    refine AL.cons rfl (AOp.move (.inr rfl) rfl rfl) ?_
    refine AL.cons rfl (AOp.storePtr (cs := [.t (.leaf (.string ((w.gPackages[i]).gName))), .t (.row 1 (strTrs ((w.gPackages[i]).gDeps))), .t (.row 5 (GTrait.trs ((w.gPackages[i]).gTraits))), .t (.row 3 (GDataType.trs ((w.gPackages[i]).gDataTypes))), .t (.row 12 (GInstance.trs ((w.gPackages[i]).gInstances))), .t (.row 16 (GFunction.trs ((w.gPackages[i]).gFunctions)))]) (ds := [.t (.leaf (.string ((w.gPackages[i]).gName))), .t (.row 1 (strTrs ((w.gPackages[i]).gDeps))), .t (.row 5 (GTrait.trs ((w.gPackages[i]).gTraits))), .t (.row 3 (GDataType.trs ((w.gPackages[i]).gDataTypes))), .t (.row 12 (GInstance.trs ((w.gPackages[i]).gInstances))), .t (.row 16 (GFunction.trs ((w.gPackages[i]).gFunctions)))]) rfl rfl rfl rfl rfl rfl rfl sz126 (Nat.le_of_ble_eq_true rfl) rfl) ?_
    refine AL.nil ?_
    refine AWP.seq ?_
    refine AWP.region_lit ?_
    refine AL.cons rfl (AOp.fieldPtr (k := 2) (d := 0) (e := 3) rfl rfl rfl fo126_3) ?_
    refine AL.cons rfl (AOp.loadPtr1 rfl rfl rfl rfl sh122 rfl) ?_
    refine AL.fact (lk_lenN 20 rfl rfl (GDataType.trs_len _)) (fun hl4 => ?_)
    refine AL.cons rfl (AOp.lenN rfl rfl rfl rfl el122 (GDataType.trs_len _)) ?_
    refine AL.cons rfl (AOp.move (.inl rfl) rfl rfl) ?_
    refine AL.nil ?_
    refine AWP.block ?_
    refine AWP.loopJ (ι := Nat) (fun k => k ≤ (w.gPackages[i]).gDataTypes.length ∧ (w.gPackages[i]).gDataTypes.find? (fun x => decide (GDataType.gName x = s)) = ((w.gPackages[i]).gDataTypes.drop k).find? (fun x => decide (GDataType.gName x = s))) (fun k => ⟨[(0, (GProgram.pv w)), (1, .t (.leaf (.string (s)))), (2, .ptr 0 0), (4, .ptr 1 0), (7, .t (.leaf (.int .i64 (((i : Nat) : Int))))), (8, .ptr 2 0), (12, .t (.row 6 (GPackage.trs (w.gPackages)))), (13, .t (.leaf (.int .i64 (((w.gPackages.length : Nat) : Int))))), (14, .t (.leaf (.int .i64 (((i : Nat) : Int))))), (20, .t (.row 3 (GDataType.trs ((w.gPackages[i]).gDataTypes)))), (21, .t (.leaf (.int .i64 (((((w.gPackages[i]).gDataTypes).length : Nat) : Int))))), (22, .t (.leaf (.int .i64 (((k : Nat) : Int)))))], ⟨[some ⟨31, [.t (.row 6 (GPackage.trs (w.gPackages)))]⟩, some ⟨171, [.t (.leaf (.string (⟨#[]⟩))), .nil, .nil]⟩, some ⟨126, [.t (.leaf (.string ((w.gPackages[i]).gName))), .t (.row 1 (strTrs ((w.gPackages[i]).gDeps))), .t (.row 5 (GTrait.trs ((w.gPackages[i]).gTraits))), .t (.row 3 (GDataType.trs ((w.gPackages[i]).gDataTypes))), .t (.row 12 (GInstance.trs ((w.gPackages[i]).gInstances))), .t (.row 16 (GFunction.trs ((w.gPackages[i]).gFunctions)))]⟩], []⟩⟩) (fun k => (w.gPackages[i]).gDataTypes.length - k) 0 ?_ ?_ ?_
    · exact ⟨Nat.zero_le _, rfl⟩
    · skip
      exact Wk.mk (StLe.mk' ⟨⟨rfl, by (repeat' (first | exact PV.Le.refl _ | exact LeL.nil | exact PV.Le.nil _ | exact PV.Le.acc _ _ _ | apply LeL.cons | apply PV.Le.agg | apply PV.Le.tup)), rfl⟩, ⟨⟨rfl, by (repeat' (first | exact PV.Le.refl _ | exact LeL.nil | exact PV.Le.nil _ | exact PV.Le.acc _ _ _ | apply LeL.cons | apply PV.Le.agg | apply PV.Le.tup)), rfl⟩, ⟨⟨rfl, by (repeat' (first | exact PV.Le.refl _ | exact LeL.nil | exact PV.Le.nil _ | exact PV.Le.acc _ _ _ | apply LeL.cons | apply PV.Le.agg | apply PV.Le.tup)), rfl⟩, trivial⟩⟩⟩ rfl) (keeps_nil hC) ⟨⟨_, rfl, .refl _, rfl⟩, ⟨⟨_, rfl, .refl _, rfl⟩, ⟨⟨_, rfl, .refl _, rfl⟩, ⟨⟨_, rfl, .refl _, rfl⟩, ⟨⟨_, rfl, .refl _, rfl⟩, ⟨⟨_, rfl, .refl _, rfl⟩, ⟨⟨_, rfl, .refl _, rfl⟩, ⟨⟨_, rfl, .refl _, rfl⟩, ⟨⟨_, rfl, .refl _, rfl⟩, ⟨⟨_, rfl, .refl _, rfl⟩, ⟨⟨_, rfl, .refl _, rfl⟩, ⟨⟨_, rfl, by (repeat' (first | exact PV.Le.refl _ | exact LeL.nil | exact PV.Le.nil _ | exact PV.Le.acc _ _ _ | apply LeL.cons | apply PV.Le.agg | apply PV.Le.tup)), rfl⟩, trivial⟩⟩⟩⟩⟩⟩⟩⟩⟩⟩⟩⟩
    rintro k hJ5
    obtain ⟨hk1, hk2⟩ := hJ5
    refine AWP.seq ?_
    refine AWP.region_lit ?_
    refine AL.cons rfl (AOp.lss rfl rfl rfl rfl) ?_
    refine AL.nil ?_
    refine AWP.seq ?_
    refine AWP.cond rfl (fun h6 => ?_) (fun h6 => ?_)
    · skip
      have h6b := h6
      try simp only [Bool.and_eq_true, Bool.or_eq_true, Bool.and_eq_false_iff, Bool.or_eq_false_iff, decide_eq_true_eq, decide_eq_false_iff_not, Bool.not_eq_true', Bool.not_eq_false', Bool.not_eq_eq_eq_not, Bool.not_true, Bool.not_false, ge_iff_le, gt_iff_lt, Int.not_lt, Int.not_le] at h6b
      have h6n : k < ((w.gPackages[i]).gDataTypes).length := by omega
      refine AWP.skip ?_
      refine AWP.seq ?_
      refine AWP.block ?_
      refine AWP.seq ?_
      refine AWP.region_lit ?_
      refine AL.cons rfl (AOp.index (k := k) rfl rfl rfl rfl rfl (GDataType.trs_cs h6n) el122) ?_
      refine AL.cons rfl (AOp.loadEptr (ds := [.leaf (.string ((((w.gPackages[i]).gDataTypes)[k]).gName)), .row 1 (strTrs ((((w.gPackages[i]).gDataTypes)[k]).gVars)), .row 2 (GConstructor.trs ((((w.gPackages[i]).gDataTypes)[k]).gConstructors))]) rfl rfl rfl sh171 rfl rfl) ?_
      refine AL.cons rfl (AOp.alloc rfl rfl zr171) ?_
      refine AL.cons rfl (AOp.storePtr (cs := [.t (.leaf (.string ((((w.gPackages[i]).gDataTypes)[k]).gName))), .t (.row 1 (strTrs ((((w.gPackages[i]).gDataTypes)[k]).gVars))), .t (.row 2 (GConstructor.trs ((((w.gPackages[i]).gDataTypes)[k]).gConstructors)))]) (ds := [.t (.leaf (.string ((((w.gPackages[i]).gDataTypes)[k]).gName))), .t (.row 1 (strTrs ((((w.gPackages[i]).gDataTypes)[k]).gVars))), .t (.row 2 (GConstructor.trs ((((w.gPackages[i]).gDataTypes)[k]).gConstructors)))]) rfl rfl rfl rfl rfl rfl rfl sz171 (Nat.le_of_ble_eq_true rfl) rfl) ?_
      refine AL.nil ?_
      refine AWP.seq ?_
      refine AWP.region_lit ?_
      refine AL.cons rfl (AOp.fieldPtr (k := 3) (d := 0) (e := 0) rfl rfl rfl fo171_0) ?_
      refine AL.cons rfl (AOp.loadPtr1 rfl rfl rfl rfl sh9 rfl) ?_
      refine AL.cons rfl (AOp.move (.inl rfl) rfl rfl) ?_
      refine AL.cons rfl (AOp.eqlS rfl rfl rfl rfl) ?_
      refine AL.nil ?_
      refine AWP.cond rfl (fun h7 => ?_) (fun h7 => ?_)
      · skip
        have h7b := h7
        try simp only [Bool.and_eq_true, Bool.or_eq_true, Bool.and_eq_false_iff, Bool.or_eq_false_iff, decide_eq_true_eq, decide_eq_false_iff_not, Bool.not_eq_true', Bool.not_eq_false', Bool.not_eq_eq_eq_not, Bool.not_true, Bool.not_false, ge_iff_le, gt_iff_lt, Int.not_lt, Int.not_le] at h7b
        refine AWP.seq ?_
        refine AWP.region_lit ?_
        refine AL.cons rfl (AOp.loadPtr (cs := [.t (.leaf (.string (((((w.gPackages[i]).gDataTypes)[k])).gName))), .t (.row 1 (strTrs (((((w.gPackages[i]).gDataTypes)[k])).gVars))), .t (.row 2 (GConstructor.trs (((((w.gPackages[i]).gDataTypes)[k])).gConstructors)))]) rfl rfl rfl rfl sh171 rfl rfl) ?_
        refine AL.cons rfl (AOp.move (.inl rfl) rfl rfl) ?_
        refine AL.cons rfl (AOp.storePtr (cs := [.t (.leaf (.string (((((w.gPackages[i]).gDataTypes)[k])).gName))), .t (.row 1 (strTrs (((((w.gPackages[i]).gDataTypes)[k])).gVars))), .t (.row 2 (GConstructor.trs (((((w.gPackages[i]).gDataTypes)[k])).gConstructors)))]) (ds := [.t (.leaf (.string (((((w.gPackages[i]).gDataTypes)[k])).gName))), .t (.row 1 (strTrs (((((w.gPackages[i]).gDataTypes)[k])).gVars))), .t (.row 2 (GConstructor.trs (((((w.gPackages[i]).gDataTypes)[k])).gConstructors)))]) rfl rfl rfl rfl rfl rfl rfl sz171 (Nat.le_of_ble_eq_true rfl) rfl) ?_
        refine AL.cons rfl (AOp.move (.inr rfl) rfl rfl) ?_
        refine AL.cons rfl (AOp.move (.inr rfl) rfl rfl) ?_
        refine AL.nil ?_
        refine AWP.ret ?_
        exact Ends.mk (ps := [_, _, _]) (.inr rfl) ⟨⟨_, _, _, rfl, rfl, sh171, rfl, rfl⟩, rfl, rfl, trivial⟩ rfl (StLe.mk' (st' := ⟨[], []⟩) trivial rfl) (keeps_nil hC) (q := (.tup [(GDataType.pv (((((w.gPackages[i]).gDataTypes)[k])))), .t (.leaf (.int .i64 (((i : Nat) : Int)))), .t (.leaf (.bool (true)))] : PV)) (by (repeat' (first | exact PV.Le.refl _ | exact LeL.nil | exact PV.Le.nil _ | exact PV.Le.acc _ _ _ | apply LeL.cons | apply PV.Le.agg | apply PV.Le.tup))) rfl ⟨by exact optDataType_some (findP_hit (by omega) (by omega) hi2 hk2 (by assumption)), rfl⟩
      · skip
        have h7b := h7
        try simp only [Bool.and_eq_true, Bool.or_eq_true, Bool.and_eq_false_iff, Bool.or_eq_false_iff, decide_eq_true_eq, decide_eq_false_iff_not, Bool.not_eq_true', Bool.not_eq_false', Bool.not_eq_eq_eq_not, Bool.not_true, Bool.not_false, ge_iff_le, gt_iff_lt, Int.not_lt, Int.not_le] at h7b
        refine AWP.skip ?_
        refine AWP.region_lit ?_
        refine AL.cons rfl (AOp.addI rfl rfl rfl rfl (c := ((k + 1 : Nat) : Int)) (by omega) (by omega)) ?_
        refine AL.cons rfl (AOp.move (.inl rfl) rfl rfl) ?_
        refine AL.nil ?_
        refine ⟨k + 1, ?_, ?_, ?_⟩
        · exact ⟨by omega, findP_next (by omega) hk2 (by assumption)⟩
        · skip
          exact Wk.mk (StLe.mk' ⟨⟨rfl, by (repeat' (first | exact PV.Le.refl _ | exact LeL.nil | exact PV.Le.nil _ | exact PV.Le.acc _ _ _ | apply LeL.cons | apply PV.Le.agg | apply PV.Le.tup)), rfl⟩, ⟨⟨rfl, by (repeat' (first | exact PV.Le.refl _ | exact LeL.nil | exact PV.Le.nil _ | exact PV.Le.acc _ _ _ | apply LeL.cons | apply PV.Le.agg | apply PV.Le.tup)), rfl⟩, ⟨⟨rfl, by (repeat' (first | exact PV.Le.refl _ | exact LeL.nil | exact PV.Le.nil _ | exact PV.Le.acc _ _ _ | apply LeL.cons | apply PV.Le.agg | apply PV.Le.tup)), rfl⟩, trivial⟩⟩⟩ rfl) (keeps_nil hC) ⟨⟨_, rfl, .refl _, rfl⟩, ⟨⟨_, rfl, .refl _, rfl⟩, ⟨⟨_, rfl, .refl _, rfl⟩, ⟨⟨_, rfl, .refl _, rfl⟩, ⟨⟨_, rfl, .refl _, rfl⟩, ⟨⟨_, rfl, .refl _, rfl⟩, ⟨⟨_, rfl, .refl _, rfl⟩, ⟨⟨_, rfl, .refl _, rfl⟩, ⟨⟨_, rfl, .refl _, rfl⟩, ⟨⟨_, rfl, .refl _, rfl⟩, ⟨⟨_, rfl, .refl _, rfl⟩, ⟨⟨_, rfl, by (repeat' (first | exact PV.Le.refl _ | exact LeL.nil | exact PV.Le.nil _ | exact PV.Le.acc _ _ _ | apply LeL.cons | apply PV.Le.agg | apply PV.Le.tup)), rfl⟩, trivial⟩⟩⟩⟩⟩⟩⟩⟩⟩⟩⟩⟩
        · omega
    · skip
      have h6b := h6
      try simp only [Bool.and_eq_true, Bool.or_eq_true, Bool.and_eq_false_iff, Bool.or_eq_false_iff, decide_eq_true_eq, decide_eq_false_iff_not, Bool.not_eq_true', Bool.not_eq_false', Bool.not_eq_eq_eq_not, Bool.not_true, Bool.not_false, ge_iff_le, gt_iff_lt, Int.not_lt, Int.not_le] at h6b
      have h6n : k ≥ ((w.gPackages[i]).gDataTypes).length := by omega
      refine AWP.exit ?_
      refine AWP.region_lit ?_
      refine AL.cons rfl (AOp.addI rfl rfl rfl rfl (c := ((i + 1 : Nat) : Int)) (by omega) (by omega)) ?_
      refine AL.cons rfl (AOp.move (.inl rfl) rfl rfl) ?_
      refine AL.nil ?_
      refine ⟨i + 1, ?_, ?_, ?_⟩
      · exact ⟨by omega, findP_miss (by omega) hi2 hk2 (by omega)⟩
      · skip
        exact Wk.mk (StLe.mk' ⟨⟨rfl, by (repeat' (first | exact PV.Le.refl _ | exact LeL.nil | exact PV.Le.nil _ | exact PV.Le.acc _ _ _ | apply LeL.cons | apply PV.Le.agg | apply PV.Le.tup)), rfl⟩, ⟨⟨rfl, by (repeat' (first | exact PV.Le.refl _ | exact LeL.nil | exact PV.Le.nil _ | exact PV.Le.acc _ _ _ | apply LeL.cons | apply PV.Le.agg | apply PV.Le.tup)), rfl⟩, trivial⟩⟩ rfl) (keeps_nil hC) ⟨⟨_, rfl, .refl _, rfl⟩, ⟨⟨_, rfl, .refl _, rfl⟩, ⟨⟨_, rfl, .refl _, rfl⟩, ⟨⟨_, rfl, .refl _, rfl⟩, ⟨⟨_, rfl, .refl _, rfl⟩, ⟨⟨_, rfl, .refl _, rfl⟩, ⟨⟨_, rfl, by (repeat' (first | exact PV.Le.refl _ | exact LeL.nil | exact PV.Le.nil _ | exact PV.Le.acc _ _ _ | apply LeL.cons | apply PV.Le.agg | apply PV.Le.tup)), rfl⟩, trivial⟩⟩⟩⟩⟩⟩⟩
      · omega
  · skip
    have h3b := h3
    try simp only [Bool.and_eq_true, Bool.or_eq_true, Bool.and_eq_false_iff, Bool.or_eq_false_iff, decide_eq_true_eq, decide_eq_false_iff_not, Bool.not_eq_true', Bool.not_eq_false', Bool.not_eq_eq_eq_not, Bool.not_true, Bool.not_false, ge_iff_le, gt_iff_lt, Int.not_lt, Int.not_le] at h3b
    have h3n : i ≥ w.gPackages.length := by omega
    refine AWP.exit ?_
    refine AWP.seq ?_
    refine AWP.region_lit ?_
    refine AL.cons rfl (AOp.build rfl rfl zr171 pl171 rfl rfl) ?_
    refine AL.cons rfl (AOp.storePtr (cs := [.t (.leaf (.string (⟨#[]⟩))), .nil, .nil]) (ds := [.t (.leaf (.string (⟨#[]⟩))), .nil, .nil]) rfl rfl rfl rfl rfl rfl rfl sz171 (Nat.le_of_ble_eq_true rfl) rfl) ?_
    refine AL.cons rfl (AOp.move (.inr rfl) rfl rfl) ?_
    refine AL.cons rfl (AOp.move (.inr rfl) rfl rfl) ?_
    refine AL.nil ?_
    refine AWP.ret ?_
    exact Ends.mk (ps := [_, _, _]) (.inr rfl) ⟨⟨_, _, _, rfl, rfl, sh171, rfl, rfl⟩, rfl, rfl, trivial⟩ rfl (StLe.mk' (st' := ⟨[], []⟩) trivial rfl) (keeps_nil hC) (q := PV.tup [GDataType.pv GDataType.zero, .t (.leaf (.int .i64 (0))), .t (.leaf (.bool (false)))]) (by (repeat' (first | exact PV.Le.refl _ | exact LeL.nil | exact PV.Le.nil _ | exact PV.Le.acc _ _ _ | apply LeL.cons | apply PV.Le.agg | apply PV.Le.tup))) rfl ⟨by exact optDataType_none (findP_end hi2 (by omega)), rfl⟩

set_option maxRecDepth 100000 in
theorem data_spec (w : GProgram) (s : ByteArray) : AFun Tryz.prog 139 [(GProgram.pv w), .t (.leaf (.string (s)))] (.tup [(GDataType.pv (oDataType (w.dataAt s))), .t (.leaf (.int .i64 (oInt (w.dataAt s)))), .t (.leaf (.bool ((w.dataAt s).isSome)))]) := by
  refine ACalls.intro Tryz.func139 rfl (by first | decide | (simp; done) | (simp; decide)) ?_
  intro C hC
  refine AWP.seq ?_
  refine AWP.region_lit ?_
  refine AL.cons rfl (AOp.box (cs := [.t (.row 6 (GPackage.trs (w.gPackages)))]) rfl rfl rfl rfl rfl) ?_
  refine AL.cons rfl (AOp.alloc rfl rfl zr171) ?_
  refine AL.cons rfl (AOp.move (.inr rfl) rfl rfl) ?_
  refine AL.cons rfl (AOp.move (.inr rfl) rfl rfl) ?_
  refine AL.nil ?_
  refine AWP.seq ?_
  refine AWP.seq ?_
  refine AWP.region_lit ?_
  refine AL.cons rfl (AOp.move (.inr rfl) rfl rfl) ?_
  refine AL.nil ?_
  refine AWP.block ?_
  refine AWP.loopJ (ι := Nat) (fun i => i ≤ w.gPackages.length ∧ findP GDataType.gName GPackage.gDataTypes s 0 w.gPackages = findP GDataType.gName GPackage.gDataTypes s i (w.gPackages.drop i)) (fun i => ⟨[(0, (GProgram.pv w)), (1, .t (.leaf (.string (s)))), (2, .ptr 0 0), (4, .ptr 1 0), (7, .t (.leaf (.int .i64 (((i : Nat) : Int)))))], ⟨[some ⟨31, [.t (.row 6 (GPackage.trs (w.gPackages)))]⟩, some ⟨171, [.t (.leaf (.string (⟨#[]⟩))), .nil, .nil]⟩], []⟩⟩) (fun i => w.gPackages.length - i) 0 ?_ ?_ ?_
  · exact ⟨Nat.zero_le _, rfl⟩
  · skip
    exact Wk.mk (StLe.mk' ⟨⟨rfl, by (repeat' (first | exact PV.Le.refl _ | exact LeL.nil | exact PV.Le.nil _ | exact PV.Le.acc _ _ _ | apply LeL.cons | apply PV.Le.agg | apply PV.Le.tup)), rfl⟩, ⟨⟨rfl, by (repeat' (first | exact PV.Le.refl _ | exact LeL.nil | exact PV.Le.nil _ | exact PV.Le.acc _ _ _ | apply LeL.cons | apply PV.Le.agg | apply PV.Le.tup)), rfl⟩, trivial⟩⟩ rfl) (keeps_nil hC) ⟨⟨_, rfl, .refl _, rfl⟩, ⟨⟨_, rfl, .refl _, rfl⟩, ⟨⟨_, rfl, .refl _, rfl⟩, ⟨⟨_, rfl, .refl _, rfl⟩, ⟨⟨_, rfl, by (repeat' (first | exact PV.Le.refl _ | exact LeL.nil | exact PV.Le.nil _ | exact PV.Le.acc _ _ _ | apply LeL.cons | apply PV.Le.agg | apply PV.Le.tup)), rfl⟩, trivial⟩⟩⟩⟩⟩
  rintro i hJ1
  obtain ⟨hi1, hi2⟩ := hJ1
  refine AWP.seq ?_
  refine AWP.seq ?_
  refine AWP.region_lit ?_
  refine AL.cons rfl (AOp.move (.inl rfl) rfl rfl) ?_
  refine AL.cons rfl (AOp.fieldPtr (k := 0) (d := 0) (e := 0) rfl rfl rfl fo31_0) ?_
  refine AL.cons rfl (AOp.loadPtr1 rfl rfl rfl rfl sh29 rfl) ?_
  refine AL.fact (lk_lenN 11 rfl rfl (GPackage.trs_len _)) (fun hl2 => ?_)
  refine AL.cons rfl (AOp.lenN rfl rfl rfl rfl el29 (GPackage.trs_len _)) ?_
  refine AL.cons rfl (AOp.lss rfl rfl rfl rfl) ?_
  refine AL.nil ?_
  refine AWP.cond rfl (fun h3 => ?_) (fun h3 => ?_)
  · skip
    have h3b := h3
    try simp only [Bool.and_eq_true, Bool.or_eq_true, Bool.and_eq_false_iff, Bool.or_eq_false_iff, decide_eq_true_eq, decide_eq_false_iff_not, Bool.not_eq_true', Bool.not_eq_false', Bool.not_eq_eq_eq_not, Bool.not_true, Bool.not_false, ge_iff_le, gt_iff_lt, Int.not_lt, Int.not_le] at h3b
    have h3n : i < w.gPackages.length := by omega
    refine AWP.skip ?_
    refine AWP.seq ?_
    refine AWP.block ?_
    refine AWP.seq ?_
    refine AWP.region_lit ?_
    refine AL.cons rfl (AOp.move (.inr rfl) rfl rfl) ?_
    refine AL.nil ?_
    refine AWP.block ?_
    refine AWP.loopJ (ι := Nat) (fun k => k ≤ (w.gPackages[i]).gDataTypes.length ∧ (w.gPackages[i]).gDataTypes.find? (fun x => decide (GDataType.gName x = s)) = ((w.gPackages[i]).gDataTypes.drop k).find? (fun x => decide (GDataType.gName x = s))) (fun k => ⟨[(0, (GProgram.pv w)), (1, .t (.leaf (.string (s)))), (2, .ptr 0 0), (4, .ptr 1 0), (7, .t (.leaf (.int .i64 (((i : Nat) : Int))))), (8, .t (.leaf (.int .i64 (((k : Nat) : Int)))))], ⟨[some ⟨31, [.t (.row 6 (GPackage.trs (w.gPackages)))]⟩, some ⟨171, [.t (.leaf (.string (⟨#[]⟩))), .nil, .nil]⟩], []⟩⟩) (fun k => (w.gPackages[i]).gDataTypes.length - k) 0 ?_ ?_ ?_
    · exact ⟨Nat.zero_le _, rfl⟩
    · skip
      exact Wk.mk (StLe.mk' ⟨⟨rfl, by (repeat' (first | exact PV.Le.refl _ | exact LeL.nil | exact PV.Le.nil _ | exact PV.Le.acc _ _ _ | apply LeL.cons | apply PV.Le.agg | apply PV.Le.tup)), rfl⟩, ⟨⟨rfl, by (repeat' (first | exact PV.Le.refl _ | exact LeL.nil | exact PV.Le.nil _ | exact PV.Le.acc _ _ _ | apply LeL.cons | apply PV.Le.agg | apply PV.Le.tup)), rfl⟩, trivial⟩⟩ rfl) (keeps_nil hC) ⟨⟨_, rfl, .refl _, rfl⟩, ⟨⟨_, rfl, .refl _, rfl⟩, ⟨⟨_, rfl, .refl _, rfl⟩, ⟨⟨_, rfl, .refl _, rfl⟩, ⟨⟨_, rfl, .refl _, rfl⟩, ⟨⟨_, rfl, by (repeat' (first | exact PV.Le.refl _ | exact LeL.nil | exact PV.Le.nil _ | exact PV.Le.acc _ _ _ | apply LeL.cons | apply PV.Le.agg | apply PV.Le.tup)), rfl⟩, trivial⟩⟩⟩⟩⟩⟩
    rintro k hJ4
    obtain ⟨hk1, hk2⟩ := hJ4
    refine AWP.seq ?_
    refine AWP.seq ?_
    refine AWP.region_lit ?_
    refine AL.cons rfl (AOp.move (.inl rfl) rfl rfl) ?_
    refine AL.cons rfl (AOp.fieldPtr (k := 0) (d := 0) (e := 0) rfl rfl rfl fo31_0) ?_
    refine AL.cons rfl (AOp.loadPtr1 rfl rfl rfl rfl sh29 rfl) ?_
    refine AL.cons rfl (AOp.move (.inl rfl) rfl rfl) ?_
    refine AL.cons rfl (AOp.index (k := i) rfl rfl rfl rfl rfl (GPackage.trs_cs h3n) el29) ?_
    refine AL.cons rfl (AOp.fieldEptr (cs := (GPackage.cs (w.gPackages[i]))) (e := 3) rfl rfl rfl fo126_3) ?_
    refine AL.cons rfl (AOp.loadEptr1 (d := .row 3 (GDataType.trs ((w.gPackages[i]).gDataTypes))) rfl rfl rfl sh122 rfl) ?_
    refine AL.fact (lk_lenN 22 rfl rfl (GDataType.trs_len _)) (fun hl5 => ?_)
    refine AL.cons rfl (AOp.lenN rfl rfl rfl rfl el122 (GDataType.trs_len _)) ?_
    refine AL.cons rfl (AOp.lss rfl rfl rfl rfl) ?_
    refine AL.nil ?_
    refine AWP.cond rfl (fun h6 => ?_) (fun h6 => ?_)
    · skip
      have h6b := h6
      try simp only [Bool.and_eq_true, Bool.or_eq_true, Bool.and_eq_false_iff, Bool.or_eq_false_iff, decide_eq_true_eq, decide_eq_false_iff_not, Bool.not_eq_true', Bool.not_eq_false', Bool.not_eq_eq_eq_not, Bool.not_true, Bool.not_false, ge_iff_le, gt_iff_lt, Int.not_lt, Int.not_le] at h6b
      have h6n : k < ((w.gPackages[i]).gDataTypes).length := by omega
      refine AWP.skip ?_
      refine AWP.seq ?_
      refine AWP.block ?_
      refine AWP.seq ?_
      refine AWP.region_lit ?_
      refine AL.cons rfl (AOp.fieldPtr (k := 0) (d := 0) (e := 0) rfl rfl rfl fo31_0) ?_
      refine AL.cons rfl (AOp.loadPtr1 rfl rfl rfl rfl sh29 rfl) ?_
      refine AL.cons rfl (AOp.move (.inl rfl) rfl rfl) ?_
      refine AL.cons rfl (AOp.index (k := i) rfl rfl rfl rfl rfl (GPackage.trs_cs h3n) el29) ?_
      refine AL.cons rfl (AOp.fieldEptr (cs := (GPackage.cs (w.gPackages[i]))) (e := 3) rfl rfl rfl fo126_3) ?_
      refine AL.cons rfl (AOp.loadEptr1 (d := .row 3 (GDataType.trs ((w.gPackages[i]).gDataTypes))) rfl rfl rfl sh122 rfl) ?_
      refine AL.cons rfl (AOp.move (.inl rfl) rfl rfl) ?_
      refine AL.cons rfl (AOp.index (k := k) rfl rfl rfl rfl rfl (GDataType.trs_cs h6n) el122) ?_
      refine AL.cons rfl (AOp.fieldEptr (cs := (GDataType.cs (((w.gPackages[i]).gDataTypes)[k]))) (e := 0) rfl rfl rfl fo171_0) ?_
      refine AL.cons rfl (AOp.loadEptr1 (d := .leaf (.string ((((w.gPackages[i]).gDataTypes)[k]).gName))) rfl rfl rfl sh9 rfl) ?_
      refine AL.cons rfl (AOp.move (.inl rfl) rfl rfl) ?_
      refine AL.cons rfl (AOp.eqlS rfl rfl rfl rfl) ?_
      refine AL.nil ?_
      refine AWP.cond rfl (fun h7 => ?_) (fun h7 => ?_)
      · skip
        have h7b := h7
        try simp only [Bool.and_eq_true, Bool.or_eq_true, Bool.and_eq_false_iff, Bool.or_eq_false_iff, decide_eq_true_eq, decide_eq_false_iff_not, Bool.not_eq_true', Bool.not_eq_false', Bool.not_eq_eq_eq_not, Bool.not_true, Bool.not_false, ge_iff_le, gt_iff_lt, Int.not_lt, Int.not_le] at h7b
        refine AWP.seq ?_
        refine AWP.region_lit ?_
        refine AL.cons rfl (AOp.fieldPtr (k := 0) (d := 0) (e := 0) rfl rfl rfl fo31_0) ?_
        refine AL.cons rfl (AOp.loadPtr1 rfl rfl rfl rfl sh29 rfl) ?_
        refine AL.cons rfl (AOp.move (.inl rfl) rfl rfl) ?_
        refine AL.cons rfl (AOp.index (k := i) rfl rfl rfl rfl rfl (GPackage.trs_cs h3n) el29) ?_
        refine AL.cons rfl (AOp.fieldEptr (cs := (GPackage.cs (w.gPackages[i]))) (e := 3) rfl rfl rfl fo126_3) ?_
        refine AL.cons rfl (AOp.loadEptr1 (d := .row 3 (GDataType.trs ((w.gPackages[i]).gDataTypes))) rfl rfl rfl sh122 rfl) ?_
        refine AL.cons rfl (AOp.move (.inl rfl) rfl rfl) ?_
        refine AL.cons rfl (AOp.index (k := k) rfl rfl rfl rfl rfl (GDataType.trs_cs h6n) el122) ?_
        refine AL.cons rfl (AOp.loadEptr (ds := [.leaf (.string ((((w.gPackages[i]).gDataTypes)[k]).gName)), .row 1 (strTrs ((((w.gPackages[i]).gDataTypes)[k]).gVars)), .row 2 (GConstructor.trs ((((w.gPackages[i]).gDataTypes)[k]).gConstructors))]) rfl rfl rfl sh171 rfl rfl) ?_
        refine AL.cons rfl (AOp.move (.inl rfl) rfl rfl) ?_
        refine AL.cons rfl (AOp.storePtr (cs := [.t (.leaf (.string ((((w.gPackages[i]).gDataTypes)[k]).gName))), .t (.row 1 (strTrs ((((w.gPackages[i]).gDataTypes)[k]).gVars))), .t (.row 2 (GConstructor.trs ((((w.gPackages[i]).gDataTypes)[k]).gConstructors)))]) (ds := [.t (.leaf (.string ((((w.gPackages[i]).gDataTypes)[k]).gName))), .t (.row 1 (strTrs ((((w.gPackages[i]).gDataTypes)[k]).gVars))), .t (.row 2 (GConstructor.trs ((((w.gPackages[i]).gDataTypes)[k]).gConstructors)))]) rfl rfl rfl rfl rfl rfl rfl sz171 (Nat.le_of_ble_eq_true rfl) rfl) ?_
        refine AL.cons rfl (AOp.move (.inr rfl) rfl rfl) ?_
        refine AL.cons rfl (AOp.move (.inr rfl) rfl rfl) ?_
        refine AL.nil ?_
        refine AWP.ret ?_
        exact Ends.mk (ps := [_, _, _]) (.inr rfl) ⟨⟨_, _, _, rfl, rfl, sh171, rfl, rfl⟩, rfl, rfl, trivial⟩ rfl (StLe.mk' (st' := ⟨[], []⟩) trivial rfl) (keeps_nil hC) (q := (.tup [(GDataType.pv ((((w.gPackages[i]).gDataTypes)[k]))), .t (.leaf (.int .i64 (((i : Nat) : Int)))), .t (.leaf (.bool (true)))] : PV)) (by (repeat' (first | exact PV.Le.refl _ | exact LeL.nil | exact PV.Le.nil _ | exact PV.Le.acc _ _ _ | apply LeL.cons | apply PV.Le.agg | apply PV.Le.tup))) rfl ⟨by exact optDataType_some (findP_hit (by omega) (by omega) hi2 hk2 (by assumption)), rfl⟩
      · skip
        have h7b := h7
        try simp only [Bool.and_eq_true, Bool.or_eq_true, Bool.and_eq_false_iff, Bool.or_eq_false_iff, decide_eq_true_eq, decide_eq_false_iff_not, Bool.not_eq_true', Bool.not_eq_false', Bool.not_eq_eq_eq_not, Bool.not_true, Bool.not_false, ge_iff_le, gt_iff_lt, Int.not_lt, Int.not_le] at h7b
        refine AWP.skip ?_
        refine AWP.region_lit ?_
        refine AL.cons rfl (AOp.move (.inl rfl) rfl rfl) ?_
        refine AL.cons rfl (AOp.addI rfl rfl rfl rfl (c := ((k + 1 : Nat) : Int)) (by omega) (by omega)) ?_
        refine AL.cons rfl (AOp.move (.inr rfl) rfl rfl) ?_
        refine AL.nil ?_
        refine ⟨k + 1, ?_, ?_, ?_⟩
        · exact ⟨by omega, findP_next (by omega) hk2 (by assumption)⟩
        · skip
          exact Wk.mk (StLe.mk' ⟨⟨rfl, by (repeat' (first | exact PV.Le.refl _ | exact LeL.nil | exact PV.Le.nil _ | exact PV.Le.acc _ _ _ | apply LeL.cons | apply PV.Le.agg | apply PV.Le.tup)), rfl⟩, ⟨⟨rfl, by (repeat' (first | exact PV.Le.refl _ | exact LeL.nil | exact PV.Le.nil _ | exact PV.Le.acc _ _ _ | apply LeL.cons | apply PV.Le.agg | apply PV.Le.tup)), rfl⟩, trivial⟩⟩ rfl) (keeps_nil hC) ⟨⟨_, rfl, .refl _, rfl⟩, ⟨⟨_, rfl, .refl _, rfl⟩, ⟨⟨_, rfl, .refl _, rfl⟩, ⟨⟨_, rfl, .refl _, rfl⟩, ⟨⟨_, rfl, .refl _, rfl⟩, ⟨⟨_, rfl, by (repeat' (first | exact PV.Le.refl _ | exact LeL.nil | exact PV.Le.nil _ | exact PV.Le.acc _ _ _ | apply LeL.cons | apply PV.Le.agg | apply PV.Le.tup)), rfl⟩, trivial⟩⟩⟩⟩⟩⟩
        · omega
    · skip
      have h6b := h6
      try simp only [Bool.and_eq_true, Bool.or_eq_true, Bool.and_eq_false_iff, Bool.or_eq_false_iff, decide_eq_true_eq, decide_eq_false_iff_not, Bool.not_eq_true', Bool.not_eq_false', Bool.not_eq_eq_eq_not, Bool.not_true, Bool.not_false, ge_iff_le, gt_iff_lt, Int.not_lt, Int.not_le] at h6b
      have h6n : k ≥ ((w.gPackages[i]).gDataTypes).length := by omega
      refine AWP.exit ?_
      refine AWP.region_lit ?_
      refine AL.cons rfl (AOp.move (.inl rfl) rfl rfl) ?_
      refine AL.cons rfl (AOp.addI rfl rfl rfl rfl (c := ((i + 1 : Nat) : Int)) (by omega) (by omega)) ?_
      refine AL.cons rfl (AOp.move (.inr rfl) rfl rfl) ?_
      refine AL.nil ?_
      refine ⟨i + 1, ?_, ?_, ?_⟩
      · exact ⟨by omega, findP_miss (by omega) hi2 hk2 (by omega)⟩
      · skip
        exact Wk.mk (StLe.mk' ⟨⟨rfl, by (repeat' (first | exact PV.Le.refl _ | exact LeL.nil | exact PV.Le.nil _ | exact PV.Le.acc _ _ _ | apply LeL.cons | apply PV.Le.agg | apply PV.Le.tup)), rfl⟩, ⟨⟨rfl, by (repeat' (first | exact PV.Le.refl _ | exact LeL.nil | exact PV.Le.nil _ | exact PV.Le.acc _ _ _ | apply LeL.cons | apply PV.Le.agg | apply PV.Le.tup)), rfl⟩, trivial⟩⟩ rfl) (keeps_nil hC) ⟨⟨_, rfl, .refl _, rfl⟩, ⟨⟨_, rfl, .refl _, rfl⟩, ⟨⟨_, rfl, .refl _, rfl⟩, ⟨⟨_, rfl, .refl _, rfl⟩, ⟨⟨_, rfl, by (repeat' (first | exact PV.Le.refl _ | exact LeL.nil | exact PV.Le.nil _ | exact PV.Le.acc _ _ _ | apply LeL.cons | apply PV.Le.agg | apply PV.Le.tup)), rfl⟩, trivial⟩⟩⟩⟩⟩
      · omega
  · skip
    have h3b := h3
    try simp only [Bool.and_eq_true, Bool.or_eq_true, Bool.and_eq_false_iff, Bool.or_eq_false_iff, decide_eq_true_eq, decide_eq_false_iff_not, Bool.not_eq_true', Bool.not_eq_false', Bool.not_eq_eq_eq_not, Bool.not_true, Bool.not_false, ge_iff_le, gt_iff_lt, Int.not_lt, Int.not_le] at h3b
    have h3n : i ≥ w.gPackages.length := by omega
    refine AWP.exit ?_
    refine AWP.seq ?_
    refine AWP.region_lit ?_
    refine AL.cons rfl (AOp.build rfl rfl zr171 pl171 rfl rfl) ?_
    refine AL.cons rfl (AOp.storePtr (cs := [.t (.leaf (.string (⟨#[]⟩))), .nil, .nil]) (ds := [.t (.leaf (.string (⟨#[]⟩))), .nil, .nil]) rfl rfl rfl rfl rfl rfl rfl sz171 (Nat.le_of_ble_eq_true rfl) rfl) ?_
    refine AL.cons rfl (AOp.move (.inr rfl) rfl rfl) ?_
    refine AL.cons rfl (AOp.move (.inr rfl) rfl rfl) ?_
    refine AL.nil ?_
    refine AWP.ret ?_
    exact Ends.mk (ps := [_, _, _]) (.inr rfl) ⟨⟨_, _, _, rfl, rfl, sh171, rfl, rfl⟩, rfl, rfl, trivial⟩ rfl (StLe.mk' (st' := ⟨[], []⟩) trivial rfl) (keeps_nil hC) (q := PV.tup [GDataType.pv GDataType.zero, .t (.leaf (.int .i64 (0))), .t (.leaf (.bool (false)))]) (by (repeat' (first | exact PV.Le.refl _ | exact LeL.nil | exact PV.Le.nil _ | exact PV.Le.acc _ _ _ | apply LeL.cons | apply PV.Le.agg | apply PV.Le.tup))) rfl ⟨by exact optDataType_none (findP_end hi2 (by omega)), rfl⟩

def GProgram.functionAt (w : GProgram) (s : ByteArray) : Option (GFunction × Nat) := findP GFunction.gName GPackage.gFunctions s 0 w.gPackages
def GFunction.zero : GFunction := .mk ⟨#[]⟩ [] [] [] (.mk 0 ⟨#[]⟩ []) (.mk 0 ⟨#[]⟩ ⟨#[]⟩ 0 (.mk 0 ⟨#[]⟩ []) [] [])
def oFunction (o : Option (GFunction × Nat)) : GFunction := match o with | some (x, _) => x | none => GFunction.zero
abbrev optFunction (o : Option (GFunction × Nat)) : PV := .tup [GFunction.pv (oFunction o), .t (.leaf (.int .i64 (oInt o))), .t (.leaf (.bool o.isSome))]
theorem optFunction_some {o : Option (GFunction × Nat)} {x : GFunction} {i : Nat} (h : o = some (x, i)) : PV.tup [GFunction.pv x, .t (.leaf (.int .i64 (i : Int))), .t (.leaf (.bool true))] = optFunction o := by rw [h]; rfl
theorem optFunction_none {o : Option (GFunction × Nat)} (h : o = none) : PV.tup [GFunction.pv GFunction.zero, .t (.leaf (.int .i64 0)), .t (.leaf (.bool false))] = optFunction o := by rw [h]; rfl

set_option maxRecDepth 100000 in
theorem function_impl (w : GProgram) (s : ByteArray) : AFun Tryz.prog 127 [(GProgram.pv w), .t (.leaf (.string (s)))] (.tup [(GFunction.pv (oFunction (w.functionAt s))), .t (.leaf (.int .i64 (oInt (w.functionAt s)))), .t (.leaf (.bool ((w.functionAt s).isSome)))]) := by
  refine ACalls.intro Tryz.func127 rfl (by first | decide | (simp; done) | (simp; decide)) ?_
  intro C hC
  refine AWP.seq ?_
  refine AWP.region_lit ?_
  refine AL.cons rfl (AOp.box (cs := [.t (.row 6 (GPackage.trs (w.gPackages)))]) rfl rfl rfl rfl rfl) ?_
  refine AL.cons rfl (AOp.alloc rfl rfl zr105) ?_
  refine AL.cons rfl (AOp.move (.inr rfl) rfl rfl) ?_
  refine AL.cons rfl (AOp.move (.inr rfl) rfl rfl) ?_
  refine AL.nil ?_
  refine AWP.seq ?_
  refine AWP.seq ?_
  refine AWP.region_lit ?_
  refine AL.cons rfl (AOp.fieldPtr (k := 0) (d := 0) (e := 0) rfl rfl rfl fo31_0) ?_
  refine AL.cons rfl (AOp.loadPtr1 rfl rfl rfl rfl sh29 rfl) ?_
  refine AL.fact (lk_lenN 12 rfl rfl (GPackage.trs_len _)) (fun hl1 => ?_)
  refine AL.cons rfl (AOp.lenN rfl rfl rfl rfl el29 (GPackage.trs_len _)) ?_
  refine AL.cons rfl (AOp.move (.inl rfl) rfl rfl) ?_
  refine AL.nil ?_
  refine AWP.block ?_
  refine AWP.loopJ (ι := Nat) (fun i => i ≤ w.gPackages.length ∧ findP GFunction.gName GPackage.gFunctions s 0 w.gPackages = findP GFunction.gName GPackage.gFunctions s i (w.gPackages.drop i)) (fun i => ⟨[(0, (GProgram.pv w)), (1, .t (.leaf (.string (s)))), (2, .ptr 0 0), (4, .ptr 1 0), (12, .t (.row 6 (GPackage.trs (w.gPackages)))), (13, .t (.leaf (.int .i64 (((w.gPackages.length : Nat) : Int))))), (14, .t (.leaf (.int .i64 (((i : Nat) : Int)))))], ⟨[some ⟨31, [.t (.row 6 (GPackage.trs (w.gPackages)))]⟩, some ⟨105, [.t (.leaf (.string (⟨#[]⟩))), .nil, .nil, .nil, .t (.leaf (.int .i64 (0))), .t (.leaf (.string (⟨#[]⟩))), .nil, .t (.leaf (.int .i64 (0))), .t (.leaf (.string (⟨#[]⟩))), .t (.leaf (.string (⟨#[]⟩))), .t (.leaf (.int .i64 (0))), .t (.leaf (.int .i64 (0))), .t (.leaf (.string (⟨#[]⟩))), .nil, .nil, .nil]⟩], []⟩⟩) (fun i => w.gPackages.length - i) 0 ?_ ?_ ?_
  · exact ⟨Nat.zero_le _, rfl⟩
  · skip
    exact Wk.mk (StLe.mk' ⟨⟨rfl, by (repeat' (first | exact PV.Le.refl _ | exact LeL.nil | exact PV.Le.nil _ | exact PV.Le.acc _ _ _ | apply LeL.cons | apply PV.Le.agg | apply PV.Le.tup)), rfl⟩, ⟨⟨rfl, by (repeat' (first | exact PV.Le.refl _ | exact LeL.nil | exact PV.Le.nil _ | exact PV.Le.acc _ _ _ | apply LeL.cons | apply PV.Le.agg | apply PV.Le.tup)), rfl⟩, trivial⟩⟩ rfl) (keeps_nil hC) ⟨⟨_, rfl, .refl _, rfl⟩, ⟨⟨_, rfl, .refl _, rfl⟩, ⟨⟨_, rfl, .refl _, rfl⟩, ⟨⟨_, rfl, .refl _, rfl⟩, ⟨⟨_, rfl, .refl _, rfl⟩, ⟨⟨_, rfl, .refl _, rfl⟩, ⟨⟨_, rfl, by (repeat' (first | exact PV.Le.refl _ | exact LeL.nil | exact PV.Le.nil _ | exact PV.Le.acc _ _ _ | apply LeL.cons | apply PV.Le.agg | apply PV.Le.tup)), rfl⟩, trivial⟩⟩⟩⟩⟩⟩⟩
  rintro i hJ2
  obtain ⟨hi1, hi2⟩ := hJ2
  refine AWP.seq ?_
  refine AWP.region_lit ?_
  refine AL.cons rfl (AOp.lss rfl rfl rfl rfl) ?_
  refine AL.nil ?_
  refine AWP.seq ?_
  refine AWP.cond rfl (fun h3 => ?_) (fun h3 => ?_)
  · skip
    have h3b := h3
    try simp only [Bool.and_eq_true, Bool.or_eq_true, Bool.and_eq_false_iff, Bool.or_eq_false_iff, decide_eq_true_eq, decide_eq_false_iff_not, Bool.not_eq_true', Bool.not_eq_false', Bool.not_eq_eq_eq_not, Bool.not_true, Bool.not_false, ge_iff_le, gt_iff_lt, Int.not_lt, Int.not_le] at h3b
    have h3n : i < w.gPackages.length := by omega
    refine AWP.skip ?_
    refine AWP.seq ?_
    refine AWP.block ?_
    refine AWP.seq ?_
    refine AWP.region_lit ?_
    refine AL.cons rfl (AOp.move (.inl rfl) rfl rfl) ?_
    refine AL.cons rfl (AOp.index (k := i) rfl rfl rfl rfl rfl (GPackage.trs_cs h3n) el29) ?_
    refine AL.cons rfl (AOp.loadEptr (ds := [.leaf (.string ((w.gPackages[i]).gName)), .row 1 (strTrs ((w.gPackages[i]).gDeps)), .row 5 (GTrait.trs ((w.gPackages[i]).gTraits)), .row 3 (GDataType.trs ((w.gPackages[i]).gDataTypes)), .row 12 (GInstance.trs ((w.gPackages[i]).gInstances)), .row 16 (GFunction.trs ((w.gPackages[i]).gFunctions))]) rfl rfl rfl sh126 rfl rfl) ?_
    refine AL.cons rfl (AOp.alloc rfl rfl zr126) ?_
    refine AL.cons rfl (AOp.move (.inr rfl) rfl rfl) ?_
    refine AL.cons rfl (AOp.storePtr (cs := [.t (.leaf (.string ((w.gPackages[i]).gName))), .t (.row 1 (strTrs ((w.gPackages[i]).gDeps))), .t (.row 5 (GTrait.trs ((w.gPackages[i]).gTraits))), .t (.row 3 (GDataType.trs ((w.gPackages[i]).gDataTypes))), .t (.row 12 (GInstance.trs ((w.gPackages[i]).gInstances))), .t (.row 16 (GFunction.trs ((w.gPackages[i]).gFunctions)))]) (ds := [.t (.leaf (.string ((w.gPackages[i]).gName))), .t (.row 1 (strTrs ((w.gPackages[i]).gDeps))), .t (.row 5 (GTrait.trs ((w.gPackages[i]).gTraits))), .t (.row 3 (GDataType.trs ((w.gPackages[i]).gDataTypes))), .t (.row 12 (GInstance.trs ((w.gPackages[i]).gInstances))), .t (.row 16 (GFunction.trs ((w.gPackages[i]).gFunctions)))]) rfl rfl rfl rfl rfl rfl rfl sz126 (Nat.le_of_ble_eq_true rfl) rfl) ?_
    refine AL.nil ?_
    refine AWP.seq ?_
    refine AWP.region_lit ?_
    refine AL.cons rfl (AOp.fieldPtr (k := 2) (d := 0) (e := 5) rfl rfl rfl fo126_5) ?_
    refine AL.cons rfl (AOp.loadPtr1 rfl rfl rfl rfl sh124 rfl) ?_
    refine AL.fact (lk_lenN 20 rfl rfl (GFunction.trs_len _)) (fun hl4 => ?_)
    refine AL.cons rfl (AOp.lenN rfl rfl rfl rfl el124 (GFunction.trs_len _)) ?_
    refine AL.cons rfl (AOp.move (.inl rfl) rfl rfl) ?_
    refine AL.nil ?_
    refine AWP.block ?_
    refine AWP.loopJ (ι := Nat) (fun k => k ≤ (w.gPackages[i]).gFunctions.length ∧ (w.gPackages[i]).gFunctions.find? (fun x => decide (GFunction.gName x = s)) = ((w.gPackages[i]).gFunctions.drop k).find? (fun x => decide (GFunction.gName x = s))) (fun k => ⟨[(0, (GProgram.pv w)), (1, .t (.leaf (.string (s)))), (2, .ptr 0 0), (4, .ptr 1 0), (7, .t (.leaf (.int .i64 (((i : Nat) : Int))))), (8, .ptr 2 0), (12, .t (.row 6 (GPackage.trs (w.gPackages)))), (13, .t (.leaf (.int .i64 (((w.gPackages.length : Nat) : Int))))), (14, .t (.leaf (.int .i64 (((i : Nat) : Int))))), (20, .t (.row 16 (GFunction.trs ((w.gPackages[i]).gFunctions)))), (21, .t (.leaf (.int .i64 (((((w.gPackages[i]).gFunctions).length : Nat) : Int))))), (22, .t (.leaf (.int .i64 (((k : Nat) : Int)))))], ⟨[some ⟨31, [.t (.row 6 (GPackage.trs (w.gPackages)))]⟩, some ⟨105, [.t (.leaf (.string (⟨#[]⟩))), .nil, .nil, .nil, .t (.leaf (.int .i64 (0))), .t (.leaf (.string (⟨#[]⟩))), .nil, .t (.leaf (.int .i64 (0))), .t (.leaf (.string (⟨#[]⟩))), .t (.leaf (.string (⟨#[]⟩))), .t (.leaf (.int .i64 (0))), .t (.leaf (.int .i64 (0))), .t (.leaf (.string (⟨#[]⟩))), .nil, .nil, .nil]⟩, some ⟨126, [.t (.leaf (.string ((w.gPackages[i]).gName))), .t (.row 1 (strTrs ((w.gPackages[i]).gDeps))), .t (.row 5 (GTrait.trs ((w.gPackages[i]).gTraits))), .t (.row 3 (GDataType.trs ((w.gPackages[i]).gDataTypes))), .t (.row 12 (GInstance.trs ((w.gPackages[i]).gInstances))), .t (.row 16 (GFunction.trs ((w.gPackages[i]).gFunctions)))]⟩], []⟩⟩) (fun k => (w.gPackages[i]).gFunctions.length - k) 0 ?_ ?_ ?_
    · exact ⟨Nat.zero_le _, rfl⟩
    · skip
      exact Wk.mk (StLe.mk' ⟨⟨rfl, by (repeat' (first | exact PV.Le.refl _ | exact LeL.nil | exact PV.Le.nil _ | exact PV.Le.acc _ _ _ | apply LeL.cons | apply PV.Le.agg | apply PV.Le.tup)), rfl⟩, ⟨⟨rfl, by (repeat' (first | exact PV.Le.refl _ | exact LeL.nil | exact PV.Le.nil _ | exact PV.Le.acc _ _ _ | apply LeL.cons | apply PV.Le.agg | apply PV.Le.tup)), rfl⟩, ⟨⟨rfl, by (repeat' (first | exact PV.Le.refl _ | exact LeL.nil | exact PV.Le.nil _ | exact PV.Le.acc _ _ _ | apply LeL.cons | apply PV.Le.agg | apply PV.Le.tup)), rfl⟩, trivial⟩⟩⟩ rfl) (keeps_nil hC) ⟨⟨_, rfl, .refl _, rfl⟩, ⟨⟨_, rfl, .refl _, rfl⟩, ⟨⟨_, rfl, .refl _, rfl⟩, ⟨⟨_, rfl, .refl _, rfl⟩, ⟨⟨_, rfl, .refl _, rfl⟩, ⟨⟨_, rfl, .refl _, rfl⟩, ⟨⟨_, rfl, .refl _, rfl⟩, ⟨⟨_, rfl, .refl _, rfl⟩, ⟨⟨_, rfl, .refl _, rfl⟩, ⟨⟨_, rfl, .refl _, rfl⟩, ⟨⟨_, rfl, .refl _, rfl⟩, ⟨⟨_, rfl, by (repeat' (first | exact PV.Le.refl _ | exact LeL.nil | exact PV.Le.nil _ | exact PV.Le.acc _ _ _ | apply LeL.cons | apply PV.Le.agg | apply PV.Le.tup)), rfl⟩, trivial⟩⟩⟩⟩⟩⟩⟩⟩⟩⟩⟩⟩
    rintro k hJ5
    obtain ⟨hk1, hk2⟩ := hJ5
    refine AWP.seq ?_
    refine AWP.region_lit ?_
    refine AL.cons rfl (AOp.lss rfl rfl rfl rfl) ?_
    refine AL.nil ?_
    refine AWP.seq ?_
    refine AWP.cond rfl (fun h6 => ?_) (fun h6 => ?_)
    · skip
      have h6b := h6
      try simp only [Bool.and_eq_true, Bool.or_eq_true, Bool.and_eq_false_iff, Bool.or_eq_false_iff, decide_eq_true_eq, decide_eq_false_iff_not, Bool.not_eq_true', Bool.not_eq_false', Bool.not_eq_eq_eq_not, Bool.not_true, Bool.not_false, ge_iff_le, gt_iff_lt, Int.not_lt, Int.not_le] at h6b
      have h6n : k < ((w.gPackages[i]).gFunctions).length := by omega
      refine AWP.skip ?_
      refine AWP.seq ?_
      refine AWP.block ?_
      refine AWP.seq ?_
      refine AWP.region_lit ?_
      refine AL.cons rfl (AOp.index (k := k) rfl rfl rfl rfl rfl (GFunction.trs_cs h6n) el124) ?_
      refine AL.cons rfl (AOp.loadEptr (ds := [.leaf (.string ((((w.gPackages[i]).gFunctions)[k]).gName)), .row 1 (strTrs ((((w.gPackages[i]).gFunctions)[k]).gVars)), .row 4 (GBound.trs ((((w.gPackages[i]).gFunctions)[k]).gWhere)), .row 4 (GParam.trs ((((w.gPackages[i]).gFunctions)[k]).gParams)), .leaf (.int .i64 ((((w.gPackages[i]).gFunctions)[k]).gResult.gKind)), .leaf (.string ((((w.gPackages[i]).gFunctions)[k]).gResult.gName)), .row 3 (GType.trs ((((w.gPackages[i]).gFunctions)[k]).gResult.gArgs)), .leaf (.int .i64 ((((w.gPackages[i]).gFunctions)[k]).gBody.gKind)), .leaf (.string ((((w.gPackages[i]).gFunctions)[k]).gBody.gTrait)), .leaf (.string ((((w.gPackages[i]).gFunctions)[k]).gBody.gName)), .leaf (.int .i64 ((((w.gPackages[i]).gFunctions)[k]).gBody.gN)), .leaf (.int .i64 ((((w.gPackages[i]).gFunctions)[k]).gBody.gType.gKind)), .leaf (.string ((((w.gPackages[i]).gFunctions)[k]).gBody.gType.gName)), .row 3 (GType.trs ((((w.gPackages[i]).gFunctions)[k]).gBody.gType.gArgs)), .row 9 (GExpr.trs ((((w.gPackages[i]).gFunctions)[k]).gBody.gArgs)), .row 11 (GArm.trs ((((w.gPackages[i]).gFunctions)[k]).gBody.gArms))]) rfl rfl rfl sh105 rfl rfl) ?_
      refine AL.cons rfl (AOp.alloc rfl rfl zr105) ?_
      refine AL.cons rfl (AOp.storePtr (cs := [.t (.leaf (.string ((((w.gPackages[i]).gFunctions)[k]).gName))), .t (.row 1 (strTrs ((((w.gPackages[i]).gFunctions)[k]).gVars))), .t (.row 4 (GBound.trs ((((w.gPackages[i]).gFunctions)[k]).gWhere))), .t (.row 4 (GParam.trs ((((w.gPackages[i]).gFunctions)[k]).gParams))), .t (.leaf (.int .i64 ((((w.gPackages[i]).gFunctions)[k]).gResult.gKind))), .t (.leaf (.string ((((w.gPackages[i]).gFunctions)[k]).gResult.gName))), .t (.row 3 (GType.trs ((((w.gPackages[i]).gFunctions)[k]).gResult.gArgs))), .t (.leaf (.int .i64 ((((w.gPackages[i]).gFunctions)[k]).gBody.gKind))), .t (.leaf (.string ((((w.gPackages[i]).gFunctions)[k]).gBody.gTrait))), .t (.leaf (.string ((((w.gPackages[i]).gFunctions)[k]).gBody.gName))), .t (.leaf (.int .i64 ((((w.gPackages[i]).gFunctions)[k]).gBody.gN))), .t (.leaf (.int .i64 ((((w.gPackages[i]).gFunctions)[k]).gBody.gType.gKind))), .t (.leaf (.string ((((w.gPackages[i]).gFunctions)[k]).gBody.gType.gName))), .t (.row 3 (GType.trs ((((w.gPackages[i]).gFunctions)[k]).gBody.gType.gArgs))), .t (.row 9 (GExpr.trs ((((w.gPackages[i]).gFunctions)[k]).gBody.gArgs))), .t (.row 11 (GArm.trs ((((w.gPackages[i]).gFunctions)[k]).gBody.gArms)))]) (ds := [.t (.leaf (.string ((((w.gPackages[i]).gFunctions)[k]).gName))), .t (.row 1 (strTrs ((((w.gPackages[i]).gFunctions)[k]).gVars))), .t (.row 4 (GBound.trs ((((w.gPackages[i]).gFunctions)[k]).gWhere))), .t (.row 4 (GParam.trs ((((w.gPackages[i]).gFunctions)[k]).gParams))), .t (.leaf (.int .i64 ((((w.gPackages[i]).gFunctions)[k]).gResult.gKind))), .t (.leaf (.string ((((w.gPackages[i]).gFunctions)[k]).gResult.gName))), .t (.row 3 (GType.trs ((((w.gPackages[i]).gFunctions)[k]).gResult.gArgs))), .t (.leaf (.int .i64 ((((w.gPackages[i]).gFunctions)[k]).gBody.gKind))), .t (.leaf (.string ((((w.gPackages[i]).gFunctions)[k]).gBody.gTrait))), .t (.leaf (.string ((((w.gPackages[i]).gFunctions)[k]).gBody.gName))), .t (.leaf (.int .i64 ((((w.gPackages[i]).gFunctions)[k]).gBody.gN))), .t (.leaf (.int .i64 ((((w.gPackages[i]).gFunctions)[k]).gBody.gType.gKind))), .t (.leaf (.string ((((w.gPackages[i]).gFunctions)[k]).gBody.gType.gName))), .t (.row 3 (GType.trs ((((w.gPackages[i]).gFunctions)[k]).gBody.gType.gArgs))), .t (.row 9 (GExpr.trs ((((w.gPackages[i]).gFunctions)[k]).gBody.gArgs))), .t (.row 11 (GArm.trs ((((w.gPackages[i]).gFunctions)[k]).gBody.gArms)))]) rfl rfl rfl rfl rfl rfl rfl sz105 (Nat.le_of_ble_eq_true rfl) rfl) ?_
      refine AL.nil ?_
      refine AWP.seq ?_
      refine AWP.region_lit ?_
      refine AL.cons rfl (AOp.fieldPtr (k := 3) (d := 0) (e := 0) rfl rfl rfl fo105_0) ?_
      refine AL.cons rfl (AOp.loadPtr1 rfl rfl rfl rfl sh9 rfl) ?_
      refine AL.cons rfl (AOp.move (.inl rfl) rfl rfl) ?_
      refine AL.cons rfl (AOp.eqlS rfl rfl rfl rfl) ?_
      refine AL.nil ?_
      refine AWP.cond rfl (fun h7 => ?_) (fun h7 => ?_)
      · skip
        have h7b := h7
        try simp only [Bool.and_eq_true, Bool.or_eq_true, Bool.and_eq_false_iff, Bool.or_eq_false_iff, decide_eq_true_eq, decide_eq_false_iff_not, Bool.not_eq_true', Bool.not_eq_false', Bool.not_eq_eq_eq_not, Bool.not_true, Bool.not_false, ge_iff_le, gt_iff_lt, Int.not_lt, Int.not_le] at h7b
        refine AWP.seq ?_
        refine AWP.region_lit ?_
        refine AL.cons rfl (AOp.loadPtr (cs := [.t (.leaf (.string (((((w.gPackages[i]).gFunctions)[k])).gName))), .t (.row 1 (strTrs (((((w.gPackages[i]).gFunctions)[k])).gVars))), .t (.row 4 (GBound.trs (((((w.gPackages[i]).gFunctions)[k])).gWhere))), .t (.row 4 (GParam.trs (((((w.gPackages[i]).gFunctions)[k])).gParams))), .t (.leaf (.int .i64 (((((w.gPackages[i]).gFunctions)[k])).gResult.gKind))), .t (.leaf (.string (((((w.gPackages[i]).gFunctions)[k])).gResult.gName))), .t (.row 3 (GType.trs (((((w.gPackages[i]).gFunctions)[k])).gResult.gArgs))), .t (.leaf (.int .i64 (((((w.gPackages[i]).gFunctions)[k])).gBody.gKind))), .t (.leaf (.string (((((w.gPackages[i]).gFunctions)[k])).gBody.gTrait))), .t (.leaf (.string (((((w.gPackages[i]).gFunctions)[k])).gBody.gName))), .t (.leaf (.int .i64 (((((w.gPackages[i]).gFunctions)[k])).gBody.gN))), .t (.leaf (.int .i64 (((((w.gPackages[i]).gFunctions)[k])).gBody.gType.gKind))), .t (.leaf (.string (((((w.gPackages[i]).gFunctions)[k])).gBody.gType.gName))), .t (.row 3 (GType.trs (((((w.gPackages[i]).gFunctions)[k])).gBody.gType.gArgs))), .t (.row 9 (GExpr.trs (((((w.gPackages[i]).gFunctions)[k])).gBody.gArgs))), .t (.row 11 (GArm.trs (((((w.gPackages[i]).gFunctions)[k])).gBody.gArms)))]) rfl rfl rfl rfl sh105 rfl rfl) ?_
        refine AL.cons rfl (AOp.move (.inl rfl) rfl rfl) ?_
        refine AL.cons rfl (AOp.storePtr (cs := [.t (.leaf (.string (((((w.gPackages[i]).gFunctions)[k])).gName))), .t (.row 1 (strTrs (((((w.gPackages[i]).gFunctions)[k])).gVars))), .t (.row 4 (GBound.trs (((((w.gPackages[i]).gFunctions)[k])).gWhere))), .t (.row 4 (GParam.trs (((((w.gPackages[i]).gFunctions)[k])).gParams))), .t (.leaf (.int .i64 (((((w.gPackages[i]).gFunctions)[k])).gResult.gKind))), .t (.leaf (.string (((((w.gPackages[i]).gFunctions)[k])).gResult.gName))), .t (.row 3 (GType.trs (((((w.gPackages[i]).gFunctions)[k])).gResult.gArgs))), .t (.leaf (.int .i64 (((((w.gPackages[i]).gFunctions)[k])).gBody.gKind))), .t (.leaf (.string (((((w.gPackages[i]).gFunctions)[k])).gBody.gTrait))), .t (.leaf (.string (((((w.gPackages[i]).gFunctions)[k])).gBody.gName))), .t (.leaf (.int .i64 (((((w.gPackages[i]).gFunctions)[k])).gBody.gN))), .t (.leaf (.int .i64 (((((w.gPackages[i]).gFunctions)[k])).gBody.gType.gKind))), .t (.leaf (.string (((((w.gPackages[i]).gFunctions)[k])).gBody.gType.gName))), .t (.row 3 (GType.trs (((((w.gPackages[i]).gFunctions)[k])).gBody.gType.gArgs))), .t (.row 9 (GExpr.trs (((((w.gPackages[i]).gFunctions)[k])).gBody.gArgs))), .t (.row 11 (GArm.trs (((((w.gPackages[i]).gFunctions)[k])).gBody.gArms)))]) (ds := [.t (.leaf (.string (((((w.gPackages[i]).gFunctions)[k])).gName))), .t (.row 1 (strTrs (((((w.gPackages[i]).gFunctions)[k])).gVars))), .t (.row 4 (GBound.trs (((((w.gPackages[i]).gFunctions)[k])).gWhere))), .t (.row 4 (GParam.trs (((((w.gPackages[i]).gFunctions)[k])).gParams))), .t (.leaf (.int .i64 (((((w.gPackages[i]).gFunctions)[k])).gResult.gKind))), .t (.leaf (.string (((((w.gPackages[i]).gFunctions)[k])).gResult.gName))), .t (.row 3 (GType.trs (((((w.gPackages[i]).gFunctions)[k])).gResult.gArgs))), .t (.leaf (.int .i64 (((((w.gPackages[i]).gFunctions)[k])).gBody.gKind))), .t (.leaf (.string (((((w.gPackages[i]).gFunctions)[k])).gBody.gTrait))), .t (.leaf (.string (((((w.gPackages[i]).gFunctions)[k])).gBody.gName))), .t (.leaf (.int .i64 (((((w.gPackages[i]).gFunctions)[k])).gBody.gN))), .t (.leaf (.int .i64 (((((w.gPackages[i]).gFunctions)[k])).gBody.gType.gKind))), .t (.leaf (.string (((((w.gPackages[i]).gFunctions)[k])).gBody.gType.gName))), .t (.row 3 (GType.trs (((((w.gPackages[i]).gFunctions)[k])).gBody.gType.gArgs))), .t (.row 9 (GExpr.trs (((((w.gPackages[i]).gFunctions)[k])).gBody.gArgs))), .t (.row 11 (GArm.trs (((((w.gPackages[i]).gFunctions)[k])).gBody.gArms)))]) rfl rfl rfl rfl rfl rfl rfl sz105 (Nat.le_of_ble_eq_true rfl) rfl) ?_
        refine AL.cons rfl (AOp.move (.inr rfl) rfl rfl) ?_
        refine AL.cons rfl (AOp.move (.inr rfl) rfl rfl) ?_
        refine AL.nil ?_
        refine AWP.ret ?_
        exact Ends.mk (ps := [_, _, _]) (.inr rfl) ⟨⟨_, _, _, rfl, rfl, sh105, rfl, rfl⟩, rfl, rfl, trivial⟩ rfl (StLe.mk' (st' := ⟨[], []⟩) trivial rfl) (keeps_nil hC) (q := (.tup [(GFunction.pv (((((w.gPackages[i]).gFunctions)[k])))), .t (.leaf (.int .i64 (((i : Nat) : Int)))), .t (.leaf (.bool (true)))] : PV)) (by (repeat' (first | exact PV.Le.refl _ | exact LeL.nil | exact PV.Le.nil _ | exact PV.Le.acc _ _ _ | apply LeL.cons | apply PV.Le.agg | apply PV.Le.tup))) rfl ⟨by exact optFunction_some (findP_hit (by omega) (by omega) hi2 hk2 (by assumption)), rfl⟩
      · skip
        have h7b := h7
        try simp only [Bool.and_eq_true, Bool.or_eq_true, Bool.and_eq_false_iff, Bool.or_eq_false_iff, decide_eq_true_eq, decide_eq_false_iff_not, Bool.not_eq_true', Bool.not_eq_false', Bool.not_eq_eq_eq_not, Bool.not_true, Bool.not_false, ge_iff_le, gt_iff_lt, Int.not_lt, Int.not_le] at h7b
        refine AWP.skip ?_
        refine AWP.region_lit ?_
        refine AL.cons rfl (AOp.addI rfl rfl rfl rfl (c := ((k + 1 : Nat) : Int)) (by omega) (by omega)) ?_
        refine AL.cons rfl (AOp.move (.inl rfl) rfl rfl) ?_
        refine AL.nil ?_
        refine ⟨k + 1, ?_, ?_, ?_⟩
        · exact ⟨by omega, findP_next (by omega) hk2 (by assumption)⟩
        · skip
          exact Wk.mk (StLe.mk' ⟨⟨rfl, by (repeat' (first | exact PV.Le.refl _ | exact LeL.nil | exact PV.Le.nil _ | exact PV.Le.acc _ _ _ | apply LeL.cons | apply PV.Le.agg | apply PV.Le.tup)), rfl⟩, ⟨⟨rfl, by (repeat' (first | exact PV.Le.refl _ | exact LeL.nil | exact PV.Le.nil _ | exact PV.Le.acc _ _ _ | apply LeL.cons | apply PV.Le.agg | apply PV.Le.tup)), rfl⟩, ⟨⟨rfl, by (repeat' (first | exact PV.Le.refl _ | exact LeL.nil | exact PV.Le.nil _ | exact PV.Le.acc _ _ _ | apply LeL.cons | apply PV.Le.agg | apply PV.Le.tup)), rfl⟩, trivial⟩⟩⟩ rfl) (keeps_nil hC) ⟨⟨_, rfl, .refl _, rfl⟩, ⟨⟨_, rfl, .refl _, rfl⟩, ⟨⟨_, rfl, .refl _, rfl⟩, ⟨⟨_, rfl, .refl _, rfl⟩, ⟨⟨_, rfl, .refl _, rfl⟩, ⟨⟨_, rfl, .refl _, rfl⟩, ⟨⟨_, rfl, .refl _, rfl⟩, ⟨⟨_, rfl, .refl _, rfl⟩, ⟨⟨_, rfl, .refl _, rfl⟩, ⟨⟨_, rfl, .refl _, rfl⟩, ⟨⟨_, rfl, .refl _, rfl⟩, ⟨⟨_, rfl, by (repeat' (first | exact PV.Le.refl _ | exact LeL.nil | exact PV.Le.nil _ | exact PV.Le.acc _ _ _ | apply LeL.cons | apply PV.Le.agg | apply PV.Le.tup)), rfl⟩, trivial⟩⟩⟩⟩⟩⟩⟩⟩⟩⟩⟩⟩
        · omega
    · skip
      have h6b := h6
      try simp only [Bool.and_eq_true, Bool.or_eq_true, Bool.and_eq_false_iff, Bool.or_eq_false_iff, decide_eq_true_eq, decide_eq_false_iff_not, Bool.not_eq_true', Bool.not_eq_false', Bool.not_eq_eq_eq_not, Bool.not_true, Bool.not_false, ge_iff_le, gt_iff_lt, Int.not_lt, Int.not_le] at h6b
      have h6n : k ≥ ((w.gPackages[i]).gFunctions).length := by omega
      refine AWP.exit ?_
      refine AWP.region_lit ?_
      refine AL.cons rfl (AOp.addI rfl rfl rfl rfl (c := ((i + 1 : Nat) : Int)) (by omega) (by omega)) ?_
      refine AL.cons rfl (AOp.move (.inl rfl) rfl rfl) ?_
      refine AL.nil ?_
      refine ⟨i + 1, ?_, ?_, ?_⟩
      · exact ⟨by omega, findP_miss (by omega) hi2 hk2 (by omega)⟩
      · skip
        exact Wk.mk (StLe.mk' ⟨⟨rfl, by (repeat' (first | exact PV.Le.refl _ | exact LeL.nil | exact PV.Le.nil _ | exact PV.Le.acc _ _ _ | apply LeL.cons | apply PV.Le.agg | apply PV.Le.tup)), rfl⟩, ⟨⟨rfl, by (repeat' (first | exact PV.Le.refl _ | exact LeL.nil | exact PV.Le.nil _ | exact PV.Le.acc _ _ _ | apply LeL.cons | apply PV.Le.agg | apply PV.Le.tup)), rfl⟩, trivial⟩⟩ rfl) (keeps_nil hC) ⟨⟨_, rfl, .refl _, rfl⟩, ⟨⟨_, rfl, .refl _, rfl⟩, ⟨⟨_, rfl, .refl _, rfl⟩, ⟨⟨_, rfl, .refl _, rfl⟩, ⟨⟨_, rfl, .refl _, rfl⟩, ⟨⟨_, rfl, .refl _, rfl⟩, ⟨⟨_, rfl, by (repeat' (first | exact PV.Le.refl _ | exact LeL.nil | exact PV.Le.nil _ | exact PV.Le.acc _ _ _ | apply LeL.cons | apply PV.Le.agg | apply PV.Le.tup)), rfl⟩, trivial⟩⟩⟩⟩⟩⟩⟩
      · omega
  · skip
    have h3b := h3
    try simp only [Bool.and_eq_true, Bool.or_eq_true, Bool.and_eq_false_iff, Bool.or_eq_false_iff, decide_eq_true_eq, decide_eq_false_iff_not, Bool.not_eq_true', Bool.not_eq_false', Bool.not_eq_eq_eq_not, Bool.not_true, Bool.not_false, ge_iff_le, gt_iff_lt, Int.not_lt, Int.not_le] at h3b
    have h3n : i ≥ w.gPackages.length := by omega
    refine AWP.exit ?_
    refine AWP.seq ?_
    refine AWP.region_lit ?_
    refine AL.cons rfl (AOp.build rfl rfl zr105 pl105 rfl rfl) ?_
    refine AL.cons rfl (AOp.storePtr (cs := [.t (.leaf (.string (⟨#[]⟩))), .nil, .nil, .nil, .t (.leaf (.int .i64 (0))), .t (.leaf (.string (⟨#[]⟩))), .nil, .t (.leaf (.int .i64 (0))), .t (.leaf (.string (⟨#[]⟩))), .t (.leaf (.string (⟨#[]⟩))), .t (.leaf (.int .i64 (0))), .t (.leaf (.int .i64 (0))), .t (.leaf (.string (⟨#[]⟩))), .nil, .nil, .nil]) (ds := [.t (.leaf (.string (⟨#[]⟩))), .nil, .nil, .nil, .t (.leaf (.int .i64 (0))), .t (.leaf (.string (⟨#[]⟩))), .nil, .t (.leaf (.int .i64 (0))), .t (.leaf (.string (⟨#[]⟩))), .t (.leaf (.string (⟨#[]⟩))), .t (.leaf (.int .i64 (0))), .t (.leaf (.int .i64 (0))), .t (.leaf (.string (⟨#[]⟩))), .nil, .nil, .nil]) rfl rfl rfl rfl rfl rfl rfl sz105 (Nat.le_of_ble_eq_true rfl) rfl) ?_
    refine AL.cons rfl (AOp.move (.inr rfl) rfl rfl) ?_
    refine AL.cons rfl (AOp.move (.inr rfl) rfl rfl) ?_
    refine AL.nil ?_
    refine AWP.ret ?_
    exact Ends.mk (ps := [_, _, _]) (.inr rfl) ⟨⟨_, _, _, rfl, rfl, sh105, rfl, rfl⟩, rfl, rfl, trivial⟩ rfl (StLe.mk' (st' := ⟨[], []⟩) trivial rfl) (keeps_nil hC) (q := PV.tup [GFunction.pv GFunction.zero, .t (.leaf (.int .i64 (0))), .t (.leaf (.bool (false)))]) (by (repeat' (first | exact PV.Le.refl _ | exact LeL.nil | exact PV.Le.nil _ | exact PV.Le.acc _ _ _ | apply LeL.cons | apply PV.Le.agg | apply PV.Le.tup))) rfl ⟨by exact optFunction_none (findP_end hi2 (by omega)), rfl⟩

set_option maxRecDepth 100000 in
theorem function_spec (w : GProgram) (s : ByteArray) : AFun Tryz.prog 125 [(GProgram.pv w), .t (.leaf (.string (s)))] (.tup [(GFunction.pv (oFunction (w.functionAt s))), .t (.leaf (.int .i64 (oInt (w.functionAt s)))), .t (.leaf (.bool ((w.functionAt s).isSome)))]) := by
  refine ACalls.intro Tryz.func125 rfl (by first | decide | (simp; done) | (simp; decide)) ?_
  intro C hC
  refine AWP.seq ?_
  refine AWP.region_lit ?_
  refine AL.cons rfl (AOp.box (cs := [.t (.row 6 (GPackage.trs (w.gPackages)))]) rfl rfl rfl rfl rfl) ?_
  refine AL.cons rfl (AOp.alloc rfl rfl zr105) ?_
  refine AL.cons rfl (AOp.move (.inr rfl) rfl rfl) ?_
  refine AL.cons rfl (AOp.move (.inr rfl) rfl rfl) ?_
  refine AL.nil ?_
  refine AWP.seq ?_
  refine AWP.seq ?_
  refine AWP.region_lit ?_
  refine AL.cons rfl (AOp.move (.inr rfl) rfl rfl) ?_
  refine AL.nil ?_
  refine AWP.block ?_
  refine AWP.loopJ (ι := Nat) (fun i => i ≤ w.gPackages.length ∧ findP GFunction.gName GPackage.gFunctions s 0 w.gPackages = findP GFunction.gName GPackage.gFunctions s i (w.gPackages.drop i)) (fun i => ⟨[(0, (GProgram.pv w)), (1, .t (.leaf (.string (s)))), (2, .ptr 0 0), (4, .ptr 1 0), (7, .t (.leaf (.int .i64 (((i : Nat) : Int)))))], ⟨[some ⟨31, [.t (.row 6 (GPackage.trs (w.gPackages)))]⟩, some ⟨105, [.t (.leaf (.string (⟨#[]⟩))), .nil, .nil, .nil, .t (.leaf (.int .i64 (0))), .t (.leaf (.string (⟨#[]⟩))), .nil, .t (.leaf (.int .i64 (0))), .t (.leaf (.string (⟨#[]⟩))), .t (.leaf (.string (⟨#[]⟩))), .t (.leaf (.int .i64 (0))), .t (.leaf (.int .i64 (0))), .t (.leaf (.string (⟨#[]⟩))), .nil, .nil, .nil]⟩], []⟩⟩) (fun i => w.gPackages.length - i) 0 ?_ ?_ ?_
  · exact ⟨Nat.zero_le _, rfl⟩
  · skip
    exact Wk.mk (StLe.mk' ⟨⟨rfl, by (repeat' (first | exact PV.Le.refl _ | exact LeL.nil | exact PV.Le.nil _ | exact PV.Le.acc _ _ _ | apply LeL.cons | apply PV.Le.agg | apply PV.Le.tup)), rfl⟩, ⟨⟨rfl, by (repeat' (first | exact PV.Le.refl _ | exact LeL.nil | exact PV.Le.nil _ | exact PV.Le.acc _ _ _ | apply LeL.cons | apply PV.Le.agg | apply PV.Le.tup)), rfl⟩, trivial⟩⟩ rfl) (keeps_nil hC) ⟨⟨_, rfl, .refl _, rfl⟩, ⟨⟨_, rfl, .refl _, rfl⟩, ⟨⟨_, rfl, .refl _, rfl⟩, ⟨⟨_, rfl, .refl _, rfl⟩, ⟨⟨_, rfl, by (repeat' (first | exact PV.Le.refl _ | exact LeL.nil | exact PV.Le.nil _ | exact PV.Le.acc _ _ _ | apply LeL.cons | apply PV.Le.agg | apply PV.Le.tup)), rfl⟩, trivial⟩⟩⟩⟩⟩
  rintro i hJ1
  obtain ⟨hi1, hi2⟩ := hJ1
  refine AWP.seq ?_
  refine AWP.seq ?_
  refine AWP.region_lit ?_
  refine AL.cons rfl (AOp.move (.inl rfl) rfl rfl) ?_
  refine AL.cons rfl (AOp.fieldPtr (k := 0) (d := 0) (e := 0) rfl rfl rfl fo31_0) ?_
  refine AL.cons rfl (AOp.loadPtr1 rfl rfl rfl rfl sh29 rfl) ?_
  refine AL.fact (lk_lenN 11 rfl rfl (GPackage.trs_len _)) (fun hl2 => ?_)
  refine AL.cons rfl (AOp.lenN rfl rfl rfl rfl el29 (GPackage.trs_len _)) ?_
  refine AL.cons rfl (AOp.lss rfl rfl rfl rfl) ?_
  refine AL.nil ?_
  refine AWP.cond rfl (fun h3 => ?_) (fun h3 => ?_)
  · skip
    have h3b := h3
    try simp only [Bool.and_eq_true, Bool.or_eq_true, Bool.and_eq_false_iff, Bool.or_eq_false_iff, decide_eq_true_eq, decide_eq_false_iff_not, Bool.not_eq_true', Bool.not_eq_false', Bool.not_eq_eq_eq_not, Bool.not_true, Bool.not_false, ge_iff_le, gt_iff_lt, Int.not_lt, Int.not_le] at h3b
    have h3n : i < w.gPackages.length := by omega
    refine AWP.skip ?_
    refine AWP.seq ?_
    refine AWP.block ?_
    refine AWP.seq ?_
    refine AWP.region_lit ?_
    refine AL.cons rfl (AOp.move (.inr rfl) rfl rfl) ?_
    refine AL.nil ?_
    refine AWP.block ?_
    refine AWP.loopJ (ι := Nat) (fun k => k ≤ (w.gPackages[i]).gFunctions.length ∧ (w.gPackages[i]).gFunctions.find? (fun x => decide (GFunction.gName x = s)) = ((w.gPackages[i]).gFunctions.drop k).find? (fun x => decide (GFunction.gName x = s))) (fun k => ⟨[(0, (GProgram.pv w)), (1, .t (.leaf (.string (s)))), (2, .ptr 0 0), (4, .ptr 1 0), (7, .t (.leaf (.int .i64 (((i : Nat) : Int))))), (8, .t (.leaf (.int .i64 (((k : Nat) : Int)))))], ⟨[some ⟨31, [.t (.row 6 (GPackage.trs (w.gPackages)))]⟩, some ⟨105, [.t (.leaf (.string (⟨#[]⟩))), .nil, .nil, .nil, .t (.leaf (.int .i64 (0))), .t (.leaf (.string (⟨#[]⟩))), .nil, .t (.leaf (.int .i64 (0))), .t (.leaf (.string (⟨#[]⟩))), .t (.leaf (.string (⟨#[]⟩))), .t (.leaf (.int .i64 (0))), .t (.leaf (.int .i64 (0))), .t (.leaf (.string (⟨#[]⟩))), .nil, .nil, .nil]⟩], []⟩⟩) (fun k => (w.gPackages[i]).gFunctions.length - k) 0 ?_ ?_ ?_
    · exact ⟨Nat.zero_le _, rfl⟩
    · skip
      exact Wk.mk (StLe.mk' ⟨⟨rfl, by (repeat' (first | exact PV.Le.refl _ | exact LeL.nil | exact PV.Le.nil _ | exact PV.Le.acc _ _ _ | apply LeL.cons | apply PV.Le.agg | apply PV.Le.tup)), rfl⟩, ⟨⟨rfl, by (repeat' (first | exact PV.Le.refl _ | exact LeL.nil | exact PV.Le.nil _ | exact PV.Le.acc _ _ _ | apply LeL.cons | apply PV.Le.agg | apply PV.Le.tup)), rfl⟩, trivial⟩⟩ rfl) (keeps_nil hC) ⟨⟨_, rfl, .refl _, rfl⟩, ⟨⟨_, rfl, .refl _, rfl⟩, ⟨⟨_, rfl, .refl _, rfl⟩, ⟨⟨_, rfl, .refl _, rfl⟩, ⟨⟨_, rfl, .refl _, rfl⟩, ⟨⟨_, rfl, by (repeat' (first | exact PV.Le.refl _ | exact LeL.nil | exact PV.Le.nil _ | exact PV.Le.acc _ _ _ | apply LeL.cons | apply PV.Le.agg | apply PV.Le.tup)), rfl⟩, trivial⟩⟩⟩⟩⟩⟩
    rintro k hJ4
    obtain ⟨hk1, hk2⟩ := hJ4
    refine AWP.seq ?_
    refine AWP.seq ?_
    refine AWP.region_lit ?_
    refine AL.cons rfl (AOp.move (.inl rfl) rfl rfl) ?_
    refine AL.cons rfl (AOp.fieldPtr (k := 0) (d := 0) (e := 0) rfl rfl rfl fo31_0) ?_
    refine AL.cons rfl (AOp.loadPtr1 rfl rfl rfl rfl sh29 rfl) ?_
    refine AL.cons rfl (AOp.move (.inl rfl) rfl rfl) ?_
    refine AL.cons rfl (AOp.index (k := i) rfl rfl rfl rfl rfl (GPackage.trs_cs h3n) el29) ?_
    refine AL.cons rfl (AOp.fieldEptr (cs := (GPackage.cs (w.gPackages[i]))) (e := 5) rfl rfl rfl fo126_5) ?_
    refine AL.cons rfl (AOp.loadEptr1 (d := .row 16 (GFunction.trs ((w.gPackages[i]).gFunctions))) rfl rfl rfl sh124 rfl) ?_
    refine AL.fact (lk_lenN 22 rfl rfl (GFunction.trs_len _)) (fun hl5 => ?_)
    refine AL.cons rfl (AOp.lenN rfl rfl rfl rfl el124 (GFunction.trs_len _)) ?_
    refine AL.cons rfl (AOp.lss rfl rfl rfl rfl) ?_
    refine AL.nil ?_
    refine AWP.cond rfl (fun h6 => ?_) (fun h6 => ?_)
    · skip
      have h6b := h6
      try simp only [Bool.and_eq_true, Bool.or_eq_true, Bool.and_eq_false_iff, Bool.or_eq_false_iff, decide_eq_true_eq, decide_eq_false_iff_not, Bool.not_eq_true', Bool.not_eq_false', Bool.not_eq_eq_eq_not, Bool.not_true, Bool.not_false, ge_iff_le, gt_iff_lt, Int.not_lt, Int.not_le] at h6b
      have h6n : k < ((w.gPackages[i]).gFunctions).length := by omega
      refine AWP.skip ?_
      refine AWP.seq ?_
      refine AWP.block ?_
      refine AWP.seq ?_
      refine AWP.region_lit ?_
      refine AL.cons rfl (AOp.fieldPtr (k := 0) (d := 0) (e := 0) rfl rfl rfl fo31_0) ?_
      refine AL.cons rfl (AOp.loadPtr1 rfl rfl rfl rfl sh29 rfl) ?_
      refine AL.cons rfl (AOp.move (.inl rfl) rfl rfl) ?_
      refine AL.cons rfl (AOp.index (k := i) rfl rfl rfl rfl rfl (GPackage.trs_cs h3n) el29) ?_
      refine AL.cons rfl (AOp.fieldEptr (cs := (GPackage.cs (w.gPackages[i]))) (e := 5) rfl rfl rfl fo126_5) ?_
      refine AL.cons rfl (AOp.loadEptr1 (d := .row 16 (GFunction.trs ((w.gPackages[i]).gFunctions))) rfl rfl rfl sh124 rfl) ?_
      refine AL.cons rfl (AOp.move (.inl rfl) rfl rfl) ?_
      refine AL.cons rfl (AOp.index (k := k) rfl rfl rfl rfl rfl (GFunction.trs_cs h6n) el124) ?_
      refine AL.cons rfl (AOp.fieldEptr (cs := (GFunction.cs (((w.gPackages[i]).gFunctions)[k]))) (e := 0) rfl rfl rfl fo105_0) ?_
      refine AL.cons rfl (AOp.loadEptr1 (d := .leaf (.string ((((w.gPackages[i]).gFunctions)[k]).gName))) rfl rfl rfl sh9 rfl) ?_
      refine AL.cons rfl (AOp.move (.inl rfl) rfl rfl) ?_
      refine AL.cons rfl (AOp.eqlS rfl rfl rfl rfl) ?_
      refine AL.nil ?_
      refine AWP.cond rfl (fun h7 => ?_) (fun h7 => ?_)
      · skip
        have h7b := h7
        try simp only [Bool.and_eq_true, Bool.or_eq_true, Bool.and_eq_false_iff, Bool.or_eq_false_iff, decide_eq_true_eq, decide_eq_false_iff_not, Bool.not_eq_true', Bool.not_eq_false', Bool.not_eq_eq_eq_not, Bool.not_true, Bool.not_false, ge_iff_le, gt_iff_lt, Int.not_lt, Int.not_le] at h7b
        refine AWP.seq ?_
        refine AWP.region_lit ?_
        refine AL.cons rfl (AOp.fieldPtr (k := 0) (d := 0) (e := 0) rfl rfl rfl fo31_0) ?_
        refine AL.cons rfl (AOp.loadPtr1 rfl rfl rfl rfl sh29 rfl) ?_
        refine AL.cons rfl (AOp.move (.inl rfl) rfl rfl) ?_
        refine AL.cons rfl (AOp.index (k := i) rfl rfl rfl rfl rfl (GPackage.trs_cs h3n) el29) ?_
        refine AL.cons rfl (AOp.fieldEptr (cs := (GPackage.cs (w.gPackages[i]))) (e := 5) rfl rfl rfl fo126_5) ?_
        refine AL.cons rfl (AOp.loadEptr1 (d := .row 16 (GFunction.trs ((w.gPackages[i]).gFunctions))) rfl rfl rfl sh124 rfl) ?_
        refine AL.cons rfl (AOp.move (.inl rfl) rfl rfl) ?_
        refine AL.cons rfl (AOp.index (k := k) rfl rfl rfl rfl rfl (GFunction.trs_cs h6n) el124) ?_
        refine AL.cons rfl (AOp.loadEptr (ds := [.leaf (.string ((((w.gPackages[i]).gFunctions)[k]).gName)), .row 1 (strTrs ((((w.gPackages[i]).gFunctions)[k]).gVars)), .row 4 (GBound.trs ((((w.gPackages[i]).gFunctions)[k]).gWhere)), .row 4 (GParam.trs ((((w.gPackages[i]).gFunctions)[k]).gParams)), .leaf (.int .i64 ((((w.gPackages[i]).gFunctions)[k]).gResult.gKind)), .leaf (.string ((((w.gPackages[i]).gFunctions)[k]).gResult.gName)), .row 3 (GType.trs ((((w.gPackages[i]).gFunctions)[k]).gResult.gArgs)), .leaf (.int .i64 ((((w.gPackages[i]).gFunctions)[k]).gBody.gKind)), .leaf (.string ((((w.gPackages[i]).gFunctions)[k]).gBody.gTrait)), .leaf (.string ((((w.gPackages[i]).gFunctions)[k]).gBody.gName)), .leaf (.int .i64 ((((w.gPackages[i]).gFunctions)[k]).gBody.gN)), .leaf (.int .i64 ((((w.gPackages[i]).gFunctions)[k]).gBody.gType.gKind)), .leaf (.string ((((w.gPackages[i]).gFunctions)[k]).gBody.gType.gName)), .row 3 (GType.trs ((((w.gPackages[i]).gFunctions)[k]).gBody.gType.gArgs)), .row 9 (GExpr.trs ((((w.gPackages[i]).gFunctions)[k]).gBody.gArgs)), .row 11 (GArm.trs ((((w.gPackages[i]).gFunctions)[k]).gBody.gArms))]) rfl rfl rfl sh105 rfl rfl) ?_
        refine AL.cons rfl (AOp.move (.inl rfl) rfl rfl) ?_
        refine AL.cons rfl (AOp.storePtr (cs := [.t (.leaf (.string ((((w.gPackages[i]).gFunctions)[k]).gName))), .t (.row 1 (strTrs ((((w.gPackages[i]).gFunctions)[k]).gVars))), .t (.row 4 (GBound.trs ((((w.gPackages[i]).gFunctions)[k]).gWhere))), .t (.row 4 (GParam.trs ((((w.gPackages[i]).gFunctions)[k]).gParams))), .t (.leaf (.int .i64 ((((w.gPackages[i]).gFunctions)[k]).gResult.gKind))), .t (.leaf (.string ((((w.gPackages[i]).gFunctions)[k]).gResult.gName))), .t (.row 3 (GType.trs ((((w.gPackages[i]).gFunctions)[k]).gResult.gArgs))), .t (.leaf (.int .i64 ((((w.gPackages[i]).gFunctions)[k]).gBody.gKind))), .t (.leaf (.string ((((w.gPackages[i]).gFunctions)[k]).gBody.gTrait))), .t (.leaf (.string ((((w.gPackages[i]).gFunctions)[k]).gBody.gName))), .t (.leaf (.int .i64 ((((w.gPackages[i]).gFunctions)[k]).gBody.gN))), .t (.leaf (.int .i64 ((((w.gPackages[i]).gFunctions)[k]).gBody.gType.gKind))), .t (.leaf (.string ((((w.gPackages[i]).gFunctions)[k]).gBody.gType.gName))), .t (.row 3 (GType.trs ((((w.gPackages[i]).gFunctions)[k]).gBody.gType.gArgs))), .t (.row 9 (GExpr.trs ((((w.gPackages[i]).gFunctions)[k]).gBody.gArgs))), .t (.row 11 (GArm.trs ((((w.gPackages[i]).gFunctions)[k]).gBody.gArms)))]) (ds := [.t (.leaf (.string ((((w.gPackages[i]).gFunctions)[k]).gName))), .t (.row 1 (strTrs ((((w.gPackages[i]).gFunctions)[k]).gVars))), .t (.row 4 (GBound.trs ((((w.gPackages[i]).gFunctions)[k]).gWhere))), .t (.row 4 (GParam.trs ((((w.gPackages[i]).gFunctions)[k]).gParams))), .t (.leaf (.int .i64 ((((w.gPackages[i]).gFunctions)[k]).gResult.gKind))), .t (.leaf (.string ((((w.gPackages[i]).gFunctions)[k]).gResult.gName))), .t (.row 3 (GType.trs ((((w.gPackages[i]).gFunctions)[k]).gResult.gArgs))), .t (.leaf (.int .i64 ((((w.gPackages[i]).gFunctions)[k]).gBody.gKind))), .t (.leaf (.string ((((w.gPackages[i]).gFunctions)[k]).gBody.gTrait))), .t (.leaf (.string ((((w.gPackages[i]).gFunctions)[k]).gBody.gName))), .t (.leaf (.int .i64 ((((w.gPackages[i]).gFunctions)[k]).gBody.gN))), .t (.leaf (.int .i64 ((((w.gPackages[i]).gFunctions)[k]).gBody.gType.gKind))), .t (.leaf (.string ((((w.gPackages[i]).gFunctions)[k]).gBody.gType.gName))), .t (.row 3 (GType.trs ((((w.gPackages[i]).gFunctions)[k]).gBody.gType.gArgs))), .t (.row 9 (GExpr.trs ((((w.gPackages[i]).gFunctions)[k]).gBody.gArgs))), .t (.row 11 (GArm.trs ((((w.gPackages[i]).gFunctions)[k]).gBody.gArms)))]) rfl rfl rfl rfl rfl rfl rfl sz105 (Nat.le_of_ble_eq_true rfl) rfl) ?_
        refine AL.cons rfl (AOp.move (.inr rfl) rfl rfl) ?_
        refine AL.cons rfl (AOp.move (.inr rfl) rfl rfl) ?_
        refine AL.nil ?_
        refine AWP.ret ?_
        exact Ends.mk (ps := [_, _, _]) (.inr rfl) ⟨⟨_, _, _, rfl, rfl, sh105, rfl, rfl⟩, rfl, rfl, trivial⟩ rfl (StLe.mk' (st' := ⟨[], []⟩) trivial rfl) (keeps_nil hC) (q := (.tup [(GFunction.pv ((((w.gPackages[i]).gFunctions)[k]))), .t (.leaf (.int .i64 (((i : Nat) : Int)))), .t (.leaf (.bool (true)))] : PV)) (by (repeat' (first | exact PV.Le.refl _ | exact LeL.nil | exact PV.Le.nil _ | exact PV.Le.acc _ _ _ | apply LeL.cons | apply PV.Le.agg | apply PV.Le.tup))) rfl ⟨by exact optFunction_some (findP_hit (by omega) (by omega) hi2 hk2 (by assumption)), rfl⟩
      · skip
        have h7b := h7
        try simp only [Bool.and_eq_true, Bool.or_eq_true, Bool.and_eq_false_iff, Bool.or_eq_false_iff, decide_eq_true_eq, decide_eq_false_iff_not, Bool.not_eq_true', Bool.not_eq_false', Bool.not_eq_eq_eq_not, Bool.not_true, Bool.not_false, ge_iff_le, gt_iff_lt, Int.not_lt, Int.not_le] at h7b
        refine AWP.skip ?_
        refine AWP.region_lit ?_
        refine AL.cons rfl (AOp.move (.inl rfl) rfl rfl) ?_
        refine AL.cons rfl (AOp.addI rfl rfl rfl rfl (c := ((k + 1 : Nat) : Int)) (by omega) (by omega)) ?_
        refine AL.cons rfl (AOp.move (.inr rfl) rfl rfl) ?_
        refine AL.nil ?_
        refine ⟨k + 1, ?_, ?_, ?_⟩
        · exact ⟨by omega, findP_next (by omega) hk2 (by assumption)⟩
        · skip
          exact Wk.mk (StLe.mk' ⟨⟨rfl, by (repeat' (first | exact PV.Le.refl _ | exact LeL.nil | exact PV.Le.nil _ | exact PV.Le.acc _ _ _ | apply LeL.cons | apply PV.Le.agg | apply PV.Le.tup)), rfl⟩, ⟨⟨rfl, by (repeat' (first | exact PV.Le.refl _ | exact LeL.nil | exact PV.Le.nil _ | exact PV.Le.acc _ _ _ | apply LeL.cons | apply PV.Le.agg | apply PV.Le.tup)), rfl⟩, trivial⟩⟩ rfl) (keeps_nil hC) ⟨⟨_, rfl, .refl _, rfl⟩, ⟨⟨_, rfl, .refl _, rfl⟩, ⟨⟨_, rfl, .refl _, rfl⟩, ⟨⟨_, rfl, .refl _, rfl⟩, ⟨⟨_, rfl, .refl _, rfl⟩, ⟨⟨_, rfl, by (repeat' (first | exact PV.Le.refl _ | exact LeL.nil | exact PV.Le.nil _ | exact PV.Le.acc _ _ _ | apply LeL.cons | apply PV.Le.agg | apply PV.Le.tup)), rfl⟩, trivial⟩⟩⟩⟩⟩⟩
        · omega
    · skip
      have h6b := h6
      try simp only [Bool.and_eq_true, Bool.or_eq_true, Bool.and_eq_false_iff, Bool.or_eq_false_iff, decide_eq_true_eq, decide_eq_false_iff_not, Bool.not_eq_true', Bool.not_eq_false', Bool.not_eq_eq_eq_not, Bool.not_true, Bool.not_false, ge_iff_le, gt_iff_lt, Int.not_lt, Int.not_le] at h6b
      have h6n : k ≥ ((w.gPackages[i]).gFunctions).length := by omega
      refine AWP.exit ?_
      refine AWP.region_lit ?_
      refine AL.cons rfl (AOp.move (.inl rfl) rfl rfl) ?_
      refine AL.cons rfl (AOp.addI rfl rfl rfl rfl (c := ((i + 1 : Nat) : Int)) (by omega) (by omega)) ?_
      refine AL.cons rfl (AOp.move (.inr rfl) rfl rfl) ?_
      refine AL.nil ?_
      refine ⟨i + 1, ?_, ?_, ?_⟩
      · exact ⟨by omega, findP_miss (by omega) hi2 hk2 (by omega)⟩
      · skip
        exact Wk.mk (StLe.mk' ⟨⟨rfl, by (repeat' (first | exact PV.Le.refl _ | exact LeL.nil | exact PV.Le.nil _ | exact PV.Le.acc _ _ _ | apply LeL.cons | apply PV.Le.agg | apply PV.Le.tup)), rfl⟩, ⟨⟨rfl, by (repeat' (first | exact PV.Le.refl _ | exact LeL.nil | exact PV.Le.nil _ | exact PV.Le.acc _ _ _ | apply LeL.cons | apply PV.Le.agg | apply PV.Le.tup)), rfl⟩, trivial⟩⟩ rfl) (keeps_nil hC) ⟨⟨_, rfl, .refl _, rfl⟩, ⟨⟨_, rfl, .refl _, rfl⟩, ⟨⟨_, rfl, .refl _, rfl⟩, ⟨⟨_, rfl, .refl _, rfl⟩, ⟨⟨_, rfl, by (repeat' (first | exact PV.Le.refl _ | exact LeL.nil | exact PV.Le.nil _ | exact PV.Le.acc _ _ _ | apply LeL.cons | apply PV.Le.agg | apply PV.Le.tup)), rfl⟩, trivial⟩⟩⟩⟩⟩
      · omega
  · skip
    have h3b := h3
    try simp only [Bool.and_eq_true, Bool.or_eq_true, Bool.and_eq_false_iff, Bool.or_eq_false_iff, decide_eq_true_eq, decide_eq_false_iff_not, Bool.not_eq_true', Bool.not_eq_false', Bool.not_eq_eq_eq_not, Bool.not_true, Bool.not_false, ge_iff_le, gt_iff_lt, Int.not_lt, Int.not_le] at h3b
    have h3n : i ≥ w.gPackages.length := by omega
    refine AWP.exit ?_
    refine AWP.seq ?_
    refine AWP.region_lit ?_
    refine AL.cons rfl (AOp.build rfl rfl zr105 pl105 rfl rfl) ?_
    refine AL.cons rfl (AOp.storePtr (cs := [.t (.leaf (.string (⟨#[]⟩))), .nil, .nil, .nil, .t (.leaf (.int .i64 (0))), .t (.leaf (.string (⟨#[]⟩))), .nil, .t (.leaf (.int .i64 (0))), .t (.leaf (.string (⟨#[]⟩))), .t (.leaf (.string (⟨#[]⟩))), .t (.leaf (.int .i64 (0))), .t (.leaf (.int .i64 (0))), .t (.leaf (.string (⟨#[]⟩))), .nil, .nil, .nil]) (ds := [.t (.leaf (.string (⟨#[]⟩))), .nil, .nil, .nil, .t (.leaf (.int .i64 (0))), .t (.leaf (.string (⟨#[]⟩))), .nil, .t (.leaf (.int .i64 (0))), .t (.leaf (.string (⟨#[]⟩))), .t (.leaf (.string (⟨#[]⟩))), .t (.leaf (.int .i64 (0))), .t (.leaf (.int .i64 (0))), .t (.leaf (.string (⟨#[]⟩))), .nil, .nil, .nil]) rfl rfl rfl rfl rfl rfl rfl sz105 (Nat.le_of_ble_eq_true rfl) rfl) ?_
    refine AL.cons rfl (AOp.move (.inr rfl) rfl rfl) ?_
    refine AL.cons rfl (AOp.move (.inr rfl) rfl rfl) ?_
    refine AL.nil ?_
    refine AWP.ret ?_
    exact Ends.mk (ps := [_, _, _]) (.inr rfl) ⟨⟨_, _, _, rfl, rfl, sh105, rfl, rfl⟩, rfl, rfl, trivial⟩ rfl (StLe.mk' (st' := ⟨[], []⟩) trivial rfl) (keeps_nil hC) (q := PV.tup [GFunction.pv GFunction.zero, .t (.leaf (.int .i64 (0))), .t (.leaf (.bool (false)))]) (by (repeat' (first | exact PV.Le.refl _ | exact LeL.nil | exact PV.Le.nil _ | exact PV.Le.acc _ _ _ | apply LeL.cons | apply PV.Le.agg | apply PV.Le.tup))) rfl ⟨by exact optFunction_none (findP_end hi2 (by omega)), rfl⟩

end Go.Proofs.YtnakkelglbcecaaGreat
