/- Words, rules and walks of several kinds, laid together: PmFind, PmHome, PmInst. No conditions but those that each theorem states. -/
import Derived.Test.YtnakkelglbcecaaGreatQh5611bbe8
import Derived.Test.YtnakkelglbcecaaGreatQhd57c2d15
import Derived.Test.YtnakkelglbcecaaGreatQh45a51f2a
import Derived.Test.YtnakkelglbcecaaGreatQhe49e622d
set_option linter.unusedSimpArgs false
set_option linter.unusedVariables false
namespace Go.Proofs.YtnakkelglbcecaaGreat
open Go.RowKit Go.Proofs
set_option linter.unusedSimpArgs false
set_option linter.unusedVariables false

/-- The first item of a name in a list of packages, and its package's number. -/
def findP {α : Type} (key : α → ByteArray) (items : GPackage → List α) (s : ByteArray) : Nat → List GPackage → Option (α × Nat)
  | _, [] => none
  | i, p :: ps => match (items p).find? (fun x => decide (key x = s)) with
    | some x => some (x, i)
    | none => findP key items s (i + 1) ps
theorem findP_hit {α : Type} {key : α → ByteArray} {items : GPackage → List α} {s : ByteArray} {ps : List GPackage} {i k : Nat} (hi : i < ps.length) (hk : k < (items ps[i]).length) (h1 : findP key items s 0 ps = findP key items s i (ps.drop i)) (h2 : (items ps[i]).find? (fun x => decide (key x = s)) = ((items ps[i]).drop k).find? (fun x => decide (key x = s)))
    (h : key (items ps[i])[k] = s) : findP key items s 0 ps = some ((items ps[i])[k], i) := by
  rw [h1, List.drop_eq_getElem_cons hi, findP, h2, List.drop_eq_getElem_cons hk, List.find?_cons_of_pos (by simpa using h)]
theorem findP_next {α : Type} {key : α → ByteArray} {items : GPackage → List α} {s : ByteArray} {p : GPackage} {k : Nat} (hk : k < (items p).length) (h2 : (items p).find? (fun x => decide (key x = s)) = ((items p).drop k).find? (fun x => decide (key x = s)))
    (h : ¬ key (items p)[k] = s) : (items p).find? (fun x => decide (key x = s)) = ((items p).drop (k + 1)).find? (fun x => decide (key x = s)) := by
  rw [h2, List.drop_eq_getElem_cons hk, List.find?_cons_of_neg (by simpa using h)]
theorem findP_miss {α : Type} {key : α → ByteArray} {items : GPackage → List α} {s : ByteArray} {ps : List GPackage} {i k : Nat} (hi : i < ps.length) (h1 : findP key items s 0 ps = findP key items s i (ps.drop i)) (h2 : (items ps[i]).find? (fun x => decide (key x = s)) = ((items ps[i]).drop k).find? (fun x => decide (key x = s)))
    (hk : (items ps[i]).length ≤ k) : findP key items s 0 ps = findP key items s (i + 1) (ps.drop (i + 1)) := by
  rw [h1, List.drop_eq_getElem_cons hi, findP, h2, List.drop_eq_nil_of_le hk]
  rfl
theorem findP_end {α : Type} {key : α → ByteArray} {items : GPackage → List α} {s : ByteArray} {ps : List GPackage} {i : Nat} (h1 : findP key items s 0 ps = findP key items s i (ps.drop i)) (hi : ps.length ≤ i) : findP key items s 0 ps = none := by
  rw [h1, List.drop_eq_nil_of_le hi, findP]
def oInt {α : Type} (o : Option (α × Nat)) : Int := match o with | some (_, i) => (i : Int) | none => 0

def GProgram.traitAt (w : GProgram) (s : ByteArray) : Option (GTrait × Nat) := findP GTrait.gName GPackage.gTraits s 0 w.gPackages
def GTrait.zero : GTrait := .mk ⟨#[]⟩ [] false false []
def oTrait (o : Option (GTrait × Nat)) : GTrait := match o with | some (x, _) => x | none => GTrait.zero
abbrev optTrait (o : Option (GTrait × Nat)) : PV := .tup [GTrait.pv (oTrait o), .t (.leaf (.int .i64 (oInt o))), .t (.leaf (.bool o.isSome))]
theorem optTrait_some {o : Option (GTrait × Nat)} {x : GTrait} {i : Nat} (h : o = some (x, i)) : PV.tup [GTrait.pv x, .t (.leaf (.int .i64 (i : Int))), .t (.leaf (.bool true))] = optTrait o := by rw [h]; rfl
theorem optTrait_none {o : Option (GTrait × Nat)} (h : o = none) : PV.tup [GTrait.pv GTrait.zero, .t (.leaf (.int .i64 0)), .t (.leaf (.bool false))] = optTrait o := by rw [h]; rfl

set_option maxRecDepth 100000 in
set_option maxHeartbeats 4000000 in
theorem trait_impl (w : GProgram) (s : ByteArray) : AFun Tryz.prog 82 [(GProgram.pv w), .t (.leaf (.string (s)))] (.tup [(GTrait.pv (oTrait (w.traitAt s))), .t (.leaf (.int .i64 (oInt (w.traitAt s)))), .t (.leaf (.bool ((w.traitAt s).isSome)))]) := by
  refine ACalls.intro Tryz.func82 rfl (by first | decide | (simp; done) | (simp; decide)) ?_
  intro C hC
  refine AWP.seq ?_
  refine AWP.region_lit ?_
  refine AL.cons rfl (AOp.box (cs := [.t (.row 6 (GPackage.trs (w.gPackages)))]) rfl rfl rfl rfl rfl) ?_
  refine AL.cons rfl (AOp.alloc rfl rfl zr94) ?_
  refine AL.cons rfl (AOp.move (.inr rfl) rfl rfl) ?_
  refine AL.cons rfl (AOp.move (.inr rfl) rfl rfl) ?_
  refine AL.nil ?_
  refine AWP.seq ?_
  refine AWP.seq ?_
  refine AWP.region_lit ?_
  refine AL.cons rfl (AOp.fieldPtr (k := 0) (d := 0) (e := 0) rfl rfl rfl fo31_0) ?_
  refine AL.cons rfl (AOp.loadPtr1 rfl rfl rfl rfl sh29 rfl) ?_
  refine AL.fact (lk_lenN 12 rfl rfl (GPackage.trs_len _)) (fun hl1 => ?_)
  refine AL.cons rfl (AOp.lenN rfl rfl rfl rfl el29 (GPackage.trs_len _)) ?_
  refine AL.cons rfl (AOp.move (.inl rfl) rfl rfl) ?_
  refine AL.nil ?_
  refine AWP.block ?_
  refine AWP.loopJ (ι := Nat) (fun i => i ≤ w.gPackages.length ∧ findP GTrait.gName GPackage.gTraits s 0 w.gPackages = findP GTrait.gName GPackage.gTraits s i (w.gPackages.drop i)) (fun i => ⟨[(0, (GProgram.pv w)), (1, .t (.leaf (.string (s)))), (2, .ptr 0 0), (4, .ptr 1 0), (12, .t (.row 6 (GPackage.trs (w.gPackages)))), (13, .t (.leaf (.int .i64 (((w.gPackages.length : Nat) : Int))))), (14, .t (.leaf (.int .i64 (((i : Nat) : Int)))))], ⟨[some ⟨31, [.t (.row 6 (GPackage.trs (w.gPackages)))]⟩, some ⟨94, [.t (.leaf (.string (⟨#[]⟩))), .nil, .t (.leaf (.bool (false))), .t (.leaf (.bool (false))), .nil]⟩], []⟩⟩) (fun i => w.gPackages.length - i) 0 ?_ ?_ ?_
  · exact ⟨Nat.zero_le _, rfl⟩
  · skip
    exact Wk.mk (StLe.mk' ⟨⟨rfl, by (repeat' (first | exact PV.Le.refl _ | exact LeL.nil | exact PV.Le.nil _ | exact PV.Le.acc _ _ _ | apply LeL.cons | apply PV.Le.agg | apply PV.Le.tup)), rfl⟩, ⟨⟨rfl, by (repeat' (first | exact PV.Le.refl _ | exact LeL.nil | exact PV.Le.nil _ | exact PV.Le.acc _ _ _ | apply LeL.cons | apply PV.Le.agg | apply PV.Le.tup)), rfl⟩, trivial⟩⟩ rfl) (keeps_nil hC) ⟨⟨_, rfl, .refl _, rfl⟩, ⟨⟨_, rfl, .refl _, rfl⟩, ⟨⟨_, rfl, .refl _, rfl⟩, ⟨⟨_, rfl, .refl _, rfl⟩, ⟨⟨_, rfl, .refl _, rfl⟩, ⟨⟨_, rfl, .refl _, rfl⟩, ⟨⟨_, rfl, by (repeat' (first | exact PV.Le.refl _ | exact LeL.nil | exact PV.Le.nil _ | exact PV.Le.acc _ _ _ | apply LeL.cons | apply PV.Le.agg | apply PV.Le.tup)), rfl⟩, trivial⟩⟩⟩⟩⟩⟩⟩
  rintro i hJ2
  obtain ⟨hi1, hi2⟩ := hJ2
  refine AWP.seq ?_
  refine AWP.region_lit ?_
  refine AL.cons rfl (AOp.lss rfl rfl rfl rfl) ?_
  refine AL.nil ?_
  refine AWP.seq ?_
  refine AWP.cond rfl (fun h3 => ?_) (fun h3 => ?_)
  · skip
    have h3b := h3
    try simp only [Bool.and_eq_true, Bool.or_eq_true, Bool.and_eq_false_iff, Bool.or_eq_false_iff, decide_eq_true_eq, decide_eq_false_iff_not, Bool.not_eq_true', Bool.not_eq_false', Bool.not_eq_eq_eq_not, Bool.not_true, Bool.not_false, ge_iff_le, gt_iff_lt, Int.not_lt, Int.not_le] at h3b
    have h3n : i < w.gPackages.length := by omega
    refine AWP.skip ?_
    refine AWP.seq ?_
    refine AWP.block ?_
    refine AWP.seq ?_
    refine AWP.region_lit ?_
    refine AL.cons rfl (AOp.move (.inl rfl) rfl rfl) ?_
    refine AL.cons rfl (AOp.index (k := i) rfl rfl rfl rfl rfl (GPackage.trs_cs h3n) el29) ?_
    refine AL.cons rfl (AOp.loadEptr (ds := [.leaf (.string ((w.gPackages[i]).gName)), .row 1 (strTrs ((w.gPackages[i]).gDeps)), .row 5 (GTrait.trs ((w.gPackages[i]).gTraits)), .row 3 (GDataType.trs ((w.gPackages[i]).gDataTypes)), .row 12 (GInstance.trs ((w.gPackages[i]).gInstances)), .row 16 (GFunction.trs ((w.gPackages[i]).gFunctions))]) rfl rfl rfl sh126 rfl rfl) ?_
    refine AL.cons rfl (AOp.alloc rfl rfl zr126) ?_
    refine AL.cons rfl (AOp.move (.inr rfl) rfl rfl) ?_
    refine AL.cons rfl (AOp.storePtr (cs := [.t (.leaf (.string ((w.gPackages[i]).gName))), .t (.row 1 (strTrs ((w.gPackages[i]).gDeps))), .t (.row 5 (GTrait.trs ((w.gPackages[i]).gTraits))), .t (.row 3 (GDataType.trs ((w.gPackages[i]).gDataTypes))), .t (.row 12 (GInstance.trs ((w.gPackages[i]).gInstances))), .t (.row 16 (GFunction.trs ((w.gPackages[i]).gFunctions)))]) (ds := [.t (.leaf (.string ((w.gPackages[i]).gName))), .t (.row 1 (strTrs ((w.gPackages[i]).gDeps))), .t (.row 5 (GTrait.trs ((w.gPackages[i]).gTraits))), .t (.row 3 (GDataType.trs ((w.gPackages[i]).gDataTypes))), .t (.row 12 (GInstance.trs ((w.gPackages[i]).gInstances))), .t (.row 16 (GFunction.trs ((w.gPackages[i]).gFunctions)))]) rfl rfl rfl rfl rfl rfl rfl sz126 (Nat.le_of_ble_eq_true rfl) rfl) ?_
    refine AL.nil ?_
    refine AWP.seq ?_
    refine AWP.region_lit ?_
    refine AL.cons rfl (AOp.fieldPtr (k := 2) (d := 0) (e := 2) rfl rfl rfl fo126_2) ?_
    refine AL.cons rfl (AOp.loadPtr1 rfl rfl rfl rfl sh121 rfl) ?_
    refine AL.fact (lk_lenN 20 rfl rfl (GTrait.trs_len _)) (fun hl4 => ?_)
    refine AL.cons rfl (AOp.lenN rfl rfl rfl rfl el121 (GTrait.trs_len _)) ?_
    refine AL.cons rfl (AOp.move (.inl rfl) rfl rfl) ?_
    refine AL.nil ?_
    refine AWP.block ?_
    refine AWP.loopJ (ι := Nat) (fun k => k ≤ (w.gPackages[i]).gTraits.length ∧ (w.gPackages[i]).gTraits.find? (fun x => decide (GTrait.gName x = s)) = ((w.gPackages[i]).gTraits.drop k).find? (fun x => decide (GTrait.gName x = s))) (fun k => ⟨[(0, (GProgram.pv w)), (1, .t (.leaf (.string (s)))), (2, .ptr 0 0), (4, .ptr 1 0), (7, .t (.leaf (.int .i64 (((i : Nat) : Int))))), (8, .ptr 2 0), (12, .t (.row 6 (GPackage.trs (w.gPackages)))), (13, .t (.leaf (.int .i64 (((w.gPackages.length : Nat) : Int))))), (14, .t (.leaf (.int .i64 (((i : Nat) : Int))))), (20, .t (.row 5 (GTrait.trs ((w.gPackages[i]).gTraits)))), (21, .t (.leaf (.int .i64 (((((w.gPackages[i]).gTraits).length : Nat) : Int))))), (22, .t (.leaf (.int .i64 (((k : Nat) : Int)))))], ⟨[some ⟨31, [.t (.row 6 (GPackage.trs (w.gPackages)))]⟩, some ⟨94, [.t (.leaf (.string (⟨#[]⟩))), .nil, .t (.leaf (.bool (false))), .t (.leaf (.bool (false))), .nil]⟩, some ⟨126, [.t (.leaf (.string ((w.gPackages[i]).gName))), .t (.row 1 (strTrs ((w.gPackages[i]).gDeps))), .t (.row 5 (GTrait.trs ((w.gPackages[i]).gTraits))), .t (.row 3 (GDataType.trs ((w.gPackages[i]).gDataTypes))), .t (.row 12 (GInstance.trs ((w.gPackages[i]).gInstances))), .t (.row 16 (GFunction.trs ((w.gPackages[i]).gFunctions)))]⟩], []⟩⟩) (fun k => (w.gPackages[i]).gTraits.length - k) 0 ?_ ?_ ?_
    · exact ⟨Nat.zero_le _, rfl⟩
    · skip
      exact Wk.mk (StLe.mk' ⟨⟨rfl, by (repeat' (first | exact PV.Le.refl _ | exact LeL.nil | exact PV.Le.nil _ | exact PV.Le.acc _ _ _ | apply LeL.cons | apply PV.Le.agg | apply PV.Le.tup)), rfl⟩, ⟨⟨rfl, by (repeat' (first | exact PV.Le.refl _ | exact LeL.nil | exact PV.Le.nil _ | exact PV.Le.acc _ _ _ | apply LeL.cons | apply PV.Le.agg | apply PV.Le.tup)), rfl⟩, ⟨⟨rfl, by (repeat' (first | exact PV.Le.refl _ | exact LeL.nil | exact PV.Le.nil _ | exact PV.Le.acc _ _ _ | apply LeL.cons | apply PV.Le.agg | apply PV.Le.tup)), rfl⟩, trivial⟩⟩⟩ rfl) (keeps_nil hC) ⟨⟨_, rfl, .refl _, rfl⟩, ⟨⟨_, rfl, .refl _, rfl⟩, ⟨⟨_, rfl, .refl _, rfl⟩, ⟨⟨_, rfl, .refl _, rfl⟩, ⟨⟨_, rfl, .refl _, rfl⟩, ⟨⟨_, rfl, .refl _, rfl⟩, ⟨⟨_, rfl, .refl _, rfl⟩, ⟨⟨_, rfl, .refl _, rfl⟩, ⟨⟨_, rfl, .refl _, rfl⟩, ⟨⟨_, rfl, .refl _, rfl⟩, ⟨⟨_, rfl, .refl _, rfl⟩, ⟨⟨_, rfl, by (repeat' (first | exact PV.Le.refl _ | exact LeL.nil | exact PV.Le.nil _ | exact PV.Le.acc _ _ _ | apply LeL.cons | apply PV.Le.agg | apply PV.Le.tup)), rfl⟩, trivial⟩⟩⟩⟩⟩⟩⟩⟩⟩⟩⟩⟩
    rintro k hJ5
    obtain ⟨hk1, hk2⟩ := hJ5
    refine AWP.seq ?_
    refine AWP.region_lit ?_
    refine AL.cons rfl (AOp.lss rfl rfl rfl rfl) ?_
    refine AL.nil ?_
    refine AWP.seq ?_
    refine AWP.cond rfl (fun h6 => ?_) (fun h6 => ?_)
    · skip
      have h6b := h6
      try simp only [Bool.and_eq_true, Bool.or_eq_true, Bool.and_eq_false_iff, Bool.or_eq_false_iff, decide_eq_true_eq, decide_eq_false_iff_not, Bool.not_eq_true', Bool.not_eq_false', Bool.not_eq_eq_eq_not, Bool.not_true, Bool.not_false, ge_iff_le, gt_iff_lt, Int.not_lt, Int.not_le] at h6b
      have h6n : k < ((w.gPackages[i]).gTraits).length := by omega
      refine AWP.skip ?_
      refine AWP.seq ?_
      refine AWP.block ?_
      refine AWP.seq ?_
      refine AWP.region_lit ?_
      refine AL.cons rfl (AOp.index (k := k) rfl rfl rfl rfl rfl (GTrait.trs_cs h6n) el121) ?_
      refine AL.cons rfl (AOp.loadEptr (ds := [.leaf (.string ((((w.gPackages[i]).gTraits)[k]).gName)), .row 1 (strTrs ((((w.gPackages[i]).gTraits)[k]).gSupertraits)), .leaf (.bool ((((w.gPackages[i]).gTraits)[k]).gAuto)), .leaf (.bool ((((w.gPackages[i]).gTraits)[k]).gAssoc)), .row 16 (GSignature.trs ((((w.gPackages[i]).gTraits)[k]).gSignatures))]) rfl rfl rfl sh94 rfl rfl) ?_
      refine AL.cons rfl (AOp.alloc rfl rfl zr94) ?_
      refine AL.cons rfl (AOp.storePtr (cs := [.t (.leaf (.string ((((w.gPackages[i]).gTraits)[k]).gName))), .t (.row 1 (strTrs ((((w.gPackages[i]).gTraits)[k]).gSupertraits))), .t (.leaf (.bool ((((w.gPackages[i]).gTraits)[k]).gAuto))), .t (.leaf (.bool ((((w.gPackages[i]).gTraits)[k]).gAssoc))), .t (.row 16 (GSignature.trs ((((w.gPackages[i]).gTraits)[k]).gSignatures)))]) (ds := [.t (.leaf (.string ((((w.gPackages[i]).gTraits)[k]).gName))), .t (.row 1 (strTrs ((((w.gPackages[i]).gTraits)[k]).gSupertraits))), .t (.leaf (.bool ((((w.gPackages[i]).gTraits)[k]).gAuto))), .t (.leaf (.bool ((((w.gPackages[i]).gTraits)[k]).gAssoc))), .t (.row 16 (GSignature.trs ((((w.gPackages[i]).gTraits)[k]).gSignatures)))]) rfl rfl rfl rfl rfl rfl rfl sz94 (Nat.le_of_ble_eq_true rfl) rfl) ?_
      refine AL.nil ?_
      refine AWP.seq ?_
      refine AWP.region_lit ?_
      refine AL.cons rfl (AOp.fieldPtr (k := 3) (d := 0) (e := 0) rfl rfl rfl fo94_0) ?_
      refine AL.cons rfl (AOp.loadPtr1 rfl rfl rfl rfl sh9 rfl) ?_
      refine AL.cons rfl (AOp.move (.inl rfl) rfl rfl) ?_
      refine AL.cons rfl (AOp.eqlS rfl rfl rfl rfl) ?_
      refine AL.nil ?_
      refine AWP.cond rfl (fun h7 => ?_) (fun h7 => ?_)
      · skip
        have h7b := h7
        try simp only [Bool.and_eq_true, Bool.or_eq_true, Bool.and_eq_false_iff, Bool.or_eq_false_iff, decide_eq_true_eq, decide_eq_false_iff_not, Bool.not_eq_true', Bool.not_eq_false', Bool.not_eq_eq_eq_not, Bool.not_true, Bool.not_false, ge_iff_le, gt_iff_lt, Int.not_lt, Int.not_le] at h7b
        refine AWP.seq ?_
        refine AWP.region_lit ?_
        refine AL.cons rfl (AOp.loadPtr (cs := [.t (.leaf (.string ((((w.gPackages[i]).gTraits)[k]).gName))), .t (.row 1 (strTrs ((((w.gPackages[i]).gTraits)[k]).gSupertraits))), .t (.leaf (.bool ((((w.gPackages[i]).gTraits)[k]).gAuto))), .t (.leaf (.bool ((((w.gPackages[i]).gTraits)[k]).gAssoc))), .t (.row 16 (GSignature.trs ((((w.gPackages[i]).gTraits)[k]).gSignatures)))]) rfl rfl rfl rfl sh94 rfl rfl) ?_
        refine AL.cons rfl (AOp.move (.inl rfl) rfl rfl) ?_
        refine AL.cons rfl (AOp.storePtr (cs := [.t (.leaf (.string ((((w.gPackages[i]).gTraits)[k]).gName))), .t (.row 1 (strTrs ((((w.gPackages[i]).gTraits)[k]).gSupertraits))), .t (.leaf (.bool ((((w.gPackages[i]).gTraits)[k]).gAuto))), .t (.leaf (.bool ((((w.gPackages[i]).gTraits)[k]).gAssoc))), .t (.row 16 (GSignature.trs ((((w.gPackages[i]).gTraits)[k]).gSignatures)))]) (ds := [.t (.leaf (.string ((((w.gPackages[i]).gTraits)[k]).gName))), .t (.row 1 (strTrs ((((w.gPackages[i]).gTraits)[k]).gSupertraits))), .t (.leaf (.bool ((((w.gPackages[i]).gTraits)[k]).gAuto))), .t (.leaf (.bool ((((w.gPackages[i]).gTraits)[k]).gAssoc))), .t (.row 16 (GSignature.trs ((((w.gPackages[i]).gTraits)[k]).gSignatures)))]) rfl rfl rfl rfl rfl rfl rfl sz94 (Nat.le_of_ble_eq_true rfl) rfl) ?_
        refine AL.cons rfl (AOp.move (.inr rfl) rfl rfl) ?_
        refine AL.cons rfl (AOp.move (.inr rfl) rfl rfl) ?_
        refine AL.nil ?_
        refine AWP.ret ?_
        exact Ends.mk (ps := [_, _, _]) (.inr rfl) ⟨⟨_, _, _, rfl, rfl, sh94, rfl, rfl⟩, rfl, rfl, trivial⟩ rfl (StLe.mk' (st' := ⟨[], []⟩) trivial rfl) (keeps_nil hC) (q := (.tup [(GTrait.pv (((w.gPackages[i]).gTraits)[k])), .t (.leaf (.int .i64 (((i : Nat) : Int)))), .t (.leaf (.bool (true)))] : PV)) (by (repeat' (first | exact PV.Le.refl _ | exact LeL.nil | exact PV.Le.nil _ | exact PV.Le.acc _ _ _ | apply LeL.cons | apply PV.Le.agg | apply PV.Le.tup))) rfl ⟨by exact optTrait_some (findP_hit (by omega) (by omega) hi2 hk2 (by assumption)), rfl⟩
      · skip
        have h7b := h7
        try simp only [Bool.and_eq_true, Bool.or_eq_true, Bool.and_eq_false_iff, Bool.or_eq_false_iff, decide_eq_true_eq, decide_eq_false_iff_not, Bool.not_eq_true', Bool.not_eq_false', Bool.not_eq_eq_eq_not, Bool.not_true, Bool.not_false, ge_iff_le, gt_iff_lt, Int.not_lt, Int.not_le] at h7b
        refine AWP.skip ?_
        refine AWP.region_lit ?_
        refine AL.cons rfl (AOp.addI rfl rfl rfl rfl (c := ((k + 1 : Nat) : Int)) (by omega) (by omega)) ?_
        refine AL.cons rfl (AOp.move (.inl rfl) rfl rfl) ?_
        refine AL.nil ?_
        refine ⟨k + 1, ?_, ?_, ?_⟩
        · exact ⟨by omega, findP_next (by omega) hk2 (by assumption)⟩
        · skip
          exact Wk.mk (StLe.mk' ⟨⟨rfl, by (repeat' (first | exact PV.Le.refl _ | exact LeL.nil | exact PV.Le.nil _ | exact PV.Le.acc _ _ _ | apply LeL.cons | apply PV.Le.agg | apply PV.Le.tup)), rfl⟩, ⟨⟨rfl, by (repeat' (first | exact PV.Le.refl _ | exact LeL.nil | exact PV.Le.nil _ | exact PV.Le.acc _ _ _ | apply LeL.cons | apply PV.Le.agg | apply PV.Le.tup)), rfl⟩, ⟨⟨rfl, by (repeat' (first | exact PV.Le.refl _ | exact LeL.nil | exact PV.Le.nil _ | exact PV.Le.acc _ _ _ | apply LeL.cons | apply PV.Le.agg | apply PV.Le.tup)), rfl⟩, trivial⟩⟩⟩ rfl) (keeps_nil hC) ⟨⟨_, rfl, .refl _, rfl⟩, ⟨⟨_, rfl, .refl _, rfl⟩, ⟨⟨_, rfl, .refl _, rfl⟩, ⟨⟨_, rfl, .refl _, rfl⟩, ⟨⟨_, rfl, .refl _, rfl⟩, ⟨⟨_, rfl, .refl _, rfl⟩, ⟨⟨_, rfl, .refl _, rfl⟩, ⟨⟨_, rfl, .refl _, rfl⟩, ⟨⟨_, rfl, .refl _, rfl⟩, ⟨⟨_, rfl, .refl _, rfl⟩, ⟨⟨_, rfl, .refl _, rfl⟩, ⟨⟨_, rfl, by (repeat' (first | exact PV.Le.refl _ | exact LeL.nil | exact PV.Le.nil _ | exact PV.Le.acc _ _ _ | apply LeL.cons | apply PV.Le.agg | apply PV.Le.tup)), rfl⟩, trivial⟩⟩⟩⟩⟩⟩⟩⟩⟩⟩⟩⟩
        · omega
    · skip
      have h6b := h6
      try simp only [Bool.and_eq_true, Bool.or_eq_true, Bool.and_eq_false_iff, Bool.or_eq_false_iff, decide_eq_true_eq, decide_eq_false_iff_not, Bool.not_eq_true', Bool.not_eq_false', Bool.not_eq_eq_eq_not, Bool.not_true, Bool.not_false, ge_iff_le, gt_iff_lt, Int.not_lt, Int.not_le] at h6b
      have h6n : k ≥ ((w.gPackages[i]).gTraits).length := by omega
      refine AWP.exit ?_
      refine AWP.region_lit ?_
      refine AL.cons rfl (AOp.addI rfl rfl rfl rfl (c := ((i + 1 : Nat) : Int)) (by omega) (by omega)) ?_
      refine AL.cons rfl (AOp.move (.inl rfl) rfl rfl) ?_
      refine AL.nil ?_
      refine ⟨i + 1, ?_, ?_, ?_⟩
      · exact ⟨by omega, findP_miss (by omega) hi2 hk2 (by omega)⟩
      · skip
        exact Wk.mk (StLe.mk' ⟨⟨rfl, by (repeat' (first | exact PV.Le.refl _ | exact LeL.nil | exact PV.Le.nil _ | exact PV.Le.acc _ _ _ | apply LeL.cons | apply PV.Le.agg | apply PV.Le.tup)), rfl⟩, ⟨⟨rfl, by (repeat' (first | exact PV.Le.refl _ | exact LeL.nil | exact PV.Le.nil _ | exact PV.Le.acc _ _ _ | apply LeL.cons | apply PV.Le.agg | apply PV.Le.tup)), rfl⟩, trivial⟩⟩ rfl) (keeps_nil hC) ⟨⟨_, rfl, .refl _, rfl⟩, ⟨⟨_, rfl, .refl _, rfl⟩, ⟨⟨_, rfl, .refl _, rfl⟩, ⟨⟨_, rfl, .refl _, rfl⟩, ⟨⟨_, rfl, .refl _, rfl⟩, ⟨⟨_, rfl, .refl _, rfl⟩, ⟨⟨_, rfl, by (repeat' (first | exact PV.Le.refl _ | exact LeL.nil | exact PV.Le.nil _ | exact PV.Le.acc _ _ _ | apply LeL.cons | apply PV.Le.agg | apply PV.Le.tup)), rfl⟩, trivial⟩⟩⟩⟩⟩⟩⟩
      · omega
  · skip
    have h3b := h3
    try simp only [Bool.and_eq_true, Bool.or_eq_true, Bool.and_eq_false_iff, Bool.or_eq_false_iff, decide_eq_true_eq, decide_eq_false_iff_not, Bool.not_eq_true', Bool.not_eq_false', Bool.not_eq_eq_eq_not, Bool.not_true, Bool.not_false, ge_iff_le, gt_iff_lt, Int.not_lt, Int.not_le] at h3b
    have h3n : i ≥ w.gPackages.length := by omega
    refine AWP.exit ?_
    refine AWP.seq ?_
    refine AWP.region_lit ?_
    refine AL.cons rfl (AOp.build rfl rfl zr94 pl94 rfl rfl) ?_
    refine AL.cons rfl (AOp.storePtr (cs := [.t (.leaf (.string (⟨#[]⟩))), .nil, .t (.leaf (.bool (false))), .t (.leaf (.bool (false))), .nil]) (ds := [.t (.leaf (.string (⟨#[]⟩))), .nil, .t (.leaf (.bool (false))), .t (.leaf (.bool (false))), .nil]) rfl rfl rfl rfl rfl rfl rfl sz94 (Nat.le_of_ble_eq_true rfl) rfl) ?_
    refine AL.cons rfl (AOp.move (.inr rfl) rfl rfl) ?_
    refine AL.cons rfl (AOp.move (.inr rfl) rfl rfl) ?_
    refine AL.nil ?_
    refine AWP.ret ?_
    exact Ends.mk (ps := [_, _, _]) (.inr rfl) ⟨⟨_, _, _, rfl, rfl, sh94, rfl, rfl⟩, rfl, rfl, trivial⟩ rfl (StLe.mk' (st' := ⟨[], []⟩) trivial rfl) (keeps_nil hC) (q := PV.tup [GTrait.pv GTrait.zero, .t (.leaf (.int .i64 (0))), .t (.leaf (.bool (false)))]) (by (repeat' (first | exact PV.Le.refl _ | exact LeL.nil | exact PV.Le.nil _ | exact PV.Le.acc _ _ _ | apply LeL.cons | apply PV.Le.agg | apply PV.Le.tup))) rfl ⟨by exact optTrait_none (findP_end hi2 (by omega)), rfl⟩

set_option maxRecDepth 100000 in
set_option maxHeartbeats 4000000 in
theorem trait_spec (w : GProgram) (s : ByteArray) : AFun Tryz.prog 78 [(GProgram.pv w), .t (.leaf (.string (s)))] (.tup [(GTrait.pv (oTrait (w.traitAt s))), .t (.leaf (.int .i64 (oInt (w.traitAt s)))), .t (.leaf (.bool ((w.traitAt s).isSome)))]) := by
  refine ACalls.intro Tryz.func78 rfl (by first | decide | (simp; done) | (simp; decide)) ?_
  intro C hC
  refine AWP.seq ?_
  refine AWP.region_lit ?_
  refine AL.cons rfl (AOp.box (cs := [.t (.row 6 (GPackage.trs (w.gPackages)))]) rfl rfl rfl rfl rfl) ?_
  refine AL.cons rfl (AOp.alloc rfl rfl zr94) ?_
  refine AL.cons rfl (AOp.move (.inr rfl) rfl rfl) ?_
  refine AL.cons rfl (AOp.move (.inr rfl) rfl rfl) ?_
  refine AL.nil ?_
  refine AWP.seq ?_
  refine AWP.seq ?_
  refine AWP.region_lit ?_
  refine AL.cons rfl (AOp.move (.inr rfl) rfl rfl) ?_
  refine AL.nil ?_
  refine AWP.block ?_
  refine AWP.loopJ (ι := Nat) (fun i => i ≤ w.gPackages.length ∧ findP GTrait.gName GPackage.gTraits s 0 w.gPackages = findP GTrait.gName GPackage.gTraits s i (w.gPackages.drop i)) (fun i => ⟨[(0, (GProgram.pv w)), (1, .t (.leaf (.string (s)))), (2, .ptr 0 0), (4, .ptr 1 0), (7, .t (.leaf (.int .i64 (((i : Nat) : Int)))))], ⟨[some ⟨31, [.t (.row 6 (GPackage.trs (w.gPackages)))]⟩, some ⟨94, [.t (.leaf (.string (⟨#[]⟩))), .nil, .t (.leaf (.bool (false))), .t (.leaf (.bool (false))), .nil]⟩], []⟩⟩) (fun i => w.gPackages.length - i) 0 ?_ ?_ ?_
  · exact ⟨Nat.zero_le _, rfl⟩
  · skip
    exact Wk.mk (StLe.mk' ⟨⟨rfl, by (repeat' (first | exact PV.Le.refl _ | exact LeL.nil | exact PV.Le.nil _ | exact PV.Le.acc _ _ _ | apply LeL.cons | apply PV.Le.agg | apply PV.Le.tup)), rfl⟩, ⟨⟨rfl, by (repeat' (first | exact PV.Le.refl _ | exact LeL.nil | exact PV.Le.nil _ | exact PV.Le.acc _ _ _ | apply LeL.cons | apply PV.Le.agg | apply PV.Le.tup)), rfl⟩, trivial⟩⟩ rfl) (keeps_nil hC) ⟨⟨_, rfl, .refl _, rfl⟩, ⟨⟨_, rfl, .refl _, rfl⟩, ⟨⟨_, rfl, .refl _, rfl⟩, ⟨⟨_, rfl, .refl _, rfl⟩, ⟨⟨_, rfl, by (repeat' (first | exact PV.Le.refl _ | exact LeL.nil | exact PV.Le.nil _ | exact PV.Le.acc _ _ _ | apply LeL.cons | apply PV.Le.agg | apply PV.Le.tup)), rfl⟩, trivial⟩⟩⟩⟩⟩
  rintro i hJ1
  obtain ⟨hi1, hi2⟩ := hJ1
  refine AWP.seq ?_
  refine AWP.seq ?_
  refine AWP.region_lit ?_
  refine AL.cons rfl (AOp.move (.inl rfl) rfl rfl) ?_
  refine AL.cons rfl (AOp.fieldPtr (k := 0) (d := 0) (e := 0) rfl rfl rfl fo31_0) ?_
  refine AL.cons rfl (AOp.loadPtr1 rfl rfl rfl rfl sh29 rfl) ?_
  refine AL.fact (lk_lenN 11 rfl rfl (GPackage.trs_len _)) (fun hl2 => ?_)
  refine AL.cons rfl (AOp.lenN rfl rfl rfl rfl el29 (GPackage.trs_len _)) ?_
  refine AL.cons rfl (AOp.lss rfl rfl rfl rfl) ?_
  refine AL.nil ?_
  refine AWP.cond rfl (fun h3 => ?_) (fun h3 => ?_)
  · skip
    have h3b := h3
    try simp only [Bool.and_eq_true, Bool.or_eq_true, Bool.and_eq_false_iff, Bool.or_eq_false_iff, decide_eq_true_eq, decide_eq_false_iff_not, Bool.not_eq_true', Bool.not_eq_false', Bool.not_eq_eq_eq_not, Bool.not_true, Bool.not_false, ge_iff_le, gt_iff_lt, Int.not_lt, Int.not_le] at h3b
    have h3n : i < w.gPackages.length := by omega
    refine AWP.skip ?_
    refine AWP.seq ?_
    refine AWP.block ?_
    refine AWP.seq ?_
    refine AWP.region_lit ?_
    refine AL.cons rfl (AOp.move (.inr rfl) rfl rfl) ?_
    refine AL.nil ?_
    refine AWP.block ?_
    refine AWP.loopJ (ι := Nat) (fun k => k ≤ (w.gPackages[i]).gTraits.length ∧ (w.gPackages[i]).gTraits.find? (fun x => decide (GTrait.gName x = s)) = ((w.gPackages[i]).gTraits.drop k).find? (fun x => decide (GTrait.gName x = s))) (fun k => ⟨[(0, (GProgram.pv w)), (1, .t (.leaf (.string (s)))), (2, .ptr 0 0), (4, .ptr 1 0), (7, .t (.leaf (.int .i64 (((i : Nat) : Int))))), (8, .t (.leaf (.int .i64 (((k : Nat) : Int)))))], ⟨[some ⟨31, [.t (.row 6 (GPackage.trs (w.gPackages)))]⟩, some ⟨94, [.t (.leaf (.string (⟨#[]⟩))), .nil, .t (.leaf (.bool (false))), .t (.leaf (.bool (false))), .nil]⟩], []⟩⟩) (fun k => (w.gPackages[i]).gTraits.length - k) 0 ?_ ?_ ?_
    · exact ⟨Nat.zero_le _, rfl⟩
    · skip
      exact Wk.mk (StLe.mk' ⟨⟨rfl, by (repeat' (first | exact PV.Le.refl _ | exact LeL.nil | exact PV.Le.nil _ | exact PV.Le.acc _ _ _ | apply LeL.cons | apply PV.Le.agg | apply PV.Le.tup)), rfl⟩, ⟨⟨rfl, by (repeat' (first | exact PV.Le.refl _ | exact LeL.nil | exact PV.Le.nil _ | exact PV.Le.acc _ _ _ | apply LeL.cons | apply PV.Le.agg | apply PV.Le.tup)), rfl⟩, trivial⟩⟩ rfl) (keeps_nil hC) ⟨⟨_, rfl, .refl _, rfl⟩, ⟨⟨_, rfl, .refl _, rfl⟩, ⟨⟨_, rfl, .refl _, rfl⟩, ⟨⟨_, rfl, .refl _, rfl⟩, ⟨⟨_, rfl, .refl _, rfl⟩, ⟨⟨_, rfl, by (repeat' (first | exact PV.Le.refl _ | exact LeL.nil | exact PV.Le.nil _ | exact PV.Le.acc _ _ _ | apply LeL.cons | apply PV.Le.agg | apply PV.Le.tup)), rfl⟩, trivial⟩⟩⟩⟩⟩⟩
    rintro k hJ4
    obtain ⟨hk1, hk2⟩ := hJ4
    refine AWP.seq ?_
    refine AWP.seq ?_
    refine AWP.region_lit ?_
    refine AL.cons rfl (AOp.move (.inl rfl) rfl rfl) ?_
    refine AL.cons rfl (AOp.fieldPtr (k := 0) (d := 0) (e := 0) rfl rfl rfl fo31_0) ?_
    refine AL.cons rfl (AOp.loadPtr1 rfl rfl rfl rfl sh29 rfl) ?_
    refine AL.cons rfl (AOp.move (.inl rfl) rfl rfl) ?_
    refine AL.cons rfl (AOp.index (k := i) rfl rfl rfl rfl rfl (GPackage.trs_cs h3n) el29) ?_
    refine AL.cons rfl (AOp.fieldEptr (cs := (GPackage.cs (w.gPackages[i]))) (e := 2) rfl rfl rfl fo126_2) ?_
    refine AL.cons rfl (AOp.loadEptr1 (d := .row 5 (GTrait.trs ((w.gPackages[i]).gTraits))) rfl rfl rfl sh121 rfl) ?_
    refine AL.fact (lk_lenN 22 rfl rfl (GTrait.trs_len _)) (fun hl5 => ?_)
    refine AL.cons rfl (AOp.lenN rfl rfl rfl rfl el121 (GTrait.trs_len _)) ?_
    refine AL.cons rfl (AOp.lss rfl rfl rfl rfl) ?_
    refine AL.nil ?_
    refine AWP.cond rfl (fun h6 => ?_) (fun h6 => ?_)
    · skip
      have h6b := h6
      try simp only [Bool.and_eq_true, Bool.or_eq_true, Bool.and_eq_false_iff, Bool.or_eq_false_iff, decide_eq_true_eq, decide_eq_false_iff_not, Bool.not_eq_true', Bool.not_eq_false', Bool.not_eq_eq_eq_not, Bool.not_true, Bool.not_false, ge_iff_le, gt_iff_lt, Int.not_lt, Int.not_le] at h6b
      have h6n : k < ((w.gPackages[i]).gTraits).length := by omega
      refine AWP.skip ?_
      refine AWP.seq ?_
      refine AWP.block ?_
      refine AWP.seq ?_
      refine AWP.region_lit ?_
      refine AL.cons rfl (AOp.fieldPtr (k := 0) (d := 0) (e := 0) rfl rfl rfl fo31_0) ?_
      refine AL.cons rfl (AOp.loadPtr1 rfl rfl rfl rfl sh29 rfl) ?_
      refine AL.cons rfl (AOp.move (.inl rfl) rfl rfl) ?_
      refine AL.cons rfl (AOp.index (k := i) rfl rfl rfl rfl rfl (GPackage.trs_cs h3n) el29) ?_
      refine AL.cons rfl (AOp.fieldEptr (cs := (GPackage.cs (w.gPackages[i]))) (e := 2) rfl rfl rfl fo126_2) ?_
      refine AL.cons rfl (AOp.loadEptr1 (d := .row 5 (GTrait.trs ((w.gPackages[i]).gTraits))) rfl rfl rfl sh121 rfl) ?_
      refine AL.cons rfl (AOp.move (.inl rfl) rfl rfl) ?_
      refine AL.cons rfl (AOp.index (k := k) rfl rfl rfl rfl rfl (GTrait.trs_cs h6n) el121) ?_
      refine AL.cons rfl (AOp.fieldEptr (cs := (GTrait.cs (((w.gPackages[i]).gTraits)[k]))) (e := 0) rfl rfl rfl fo94_0) ?_
      refine AL.cons rfl (AOp.loadEptr1 (d := .leaf (.string ((((w.gPackages[i]).gTraits)[k]).gName))) rfl rfl rfl sh9 rfl) ?_
      refine AL.cons rfl (AOp.move (.inl rfl) rfl rfl) ?_
      refine AL.cons rfl (AOp.eqlS rfl rfl rfl rfl) ?_
      refine AL.nil ?_
      refine AWP.cond rfl (fun h7 => ?_) (fun h7 => ?_)
      · skip
        have h7b := h7
        try simp only [Bool.and_eq_true, Bool.or_eq_true, Bool.and_eq_false_iff, Bool.or_eq_false_iff, decide_eq_true_eq, decide_eq_false_iff_not, Bool.not_eq_true', Bool.not_eq_false', Bool.not_eq_eq_eq_not, Bool.not_true, Bool.not_false, ge_iff_le, gt_iff_lt, Int.not_lt, Int.not_le] at h7b
        refine AWP.seq ?_
        refine AWP.region_lit ?_
        refine AL.cons rfl (AOp.fieldPtr (k := 0) (d := 0) (e := 0) rfl rfl rfl fo31_0) ?_
        refine AL.cons rfl (AOp.loadPtr1 rfl rfl rfl rfl sh29 rfl) ?_
        refine AL.cons rfl (AOp.move (.inl rfl) rfl rfl) ?_
        refine AL.cons rfl (AOp.index (k := i) rfl rfl rfl rfl rfl (GPackage.trs_cs h3n) el29) ?_
        refine AL.cons rfl (AOp.fieldEptr (cs := (GPackage.cs (w.gPackages[i]))) (e := 2) rfl rfl rfl fo126_2) ?_
        refine AL.cons rfl (AOp.loadEptr1 (d := .row 5 (GTrait.trs ((w.gPackages[i]).gTraits))) rfl rfl rfl sh121 rfl) ?_
        refine AL.cons rfl (AOp.move (.inl rfl) rfl rfl) ?_
        refine AL.cons rfl (AOp.index (k := k) rfl rfl rfl rfl rfl (GTrait.trs_cs h6n) el121) ?_
        refine AL.cons rfl (AOp.loadEptr (ds := [.leaf (.string ((((w.gPackages[i]).gTraits)[k]).gName)), .row 1 (strTrs ((((w.gPackages[i]).gTraits)[k]).gSupertraits)), .leaf (.bool ((((w.gPackages[i]).gTraits)[k]).gAuto)), .leaf (.bool ((((w.gPackages[i]).gTraits)[k]).gAssoc)), .row 16 (GSignature.trs ((((w.gPackages[i]).gTraits)[k]).gSignatures))]) rfl rfl rfl sh94 rfl rfl) ?_
        refine AL.cons rfl (AOp.move (.inl rfl) rfl rfl) ?_
        refine AL.cons rfl (AOp.storePtr (cs := [.t (.leaf (.string ((((w.gPackages[i]).gTraits)[k]).gName))), .t (.row 1 (strTrs ((((w.gPackages[i]).gTraits)[k]).gSupertraits))), .t (.leaf (.bool ((((w.gPackages[i]).gTraits)[k]).gAuto))), .t (.leaf (.bool ((((w.gPackages[i]).gTraits)[k]).gAssoc))), .t (.row 16 (GSignature.trs ((((w.gPackages[i]).gTraits)[k]).gSignatures)))]) (ds := [.t (.leaf (.string ((((w.gPackages[i]).gTraits)[k]).gName))), .t (.row 1 (strTrs ((((w.gPackages[i]).gTraits)[k]).gSupertraits))), .t (.leaf (.bool ((((w.gPackages[i]).gTraits)[k]).gAuto))), .t (.leaf (.bool ((((w.gPackages[i]).gTraits)[k]).gAssoc))), .t (.row 16 (GSignature.trs ((((w.gPackages[i]).gTraits)[k]).gSignatures)))]) rfl rfl rfl rfl rfl rfl rfl sz94 (Nat.le_of_ble_eq_true rfl) rfl) ?_
        refine AL.cons rfl (AOp.move (.inr rfl) rfl rfl) ?_
        refine AL.cons rfl (AOp.move (.inr rfl) rfl rfl) ?_
        refine AL.nil ?_
        refine AWP.ret ?_
        exact Ends.mk (ps := [_, _, _]) (.inr rfl) ⟨⟨_, _, _, rfl, rfl, sh94, rfl, rfl⟩, rfl, rfl, trivial⟩ rfl (StLe.mk' (st' := ⟨[], []⟩) trivial rfl) (keeps_nil hC) (q := (.tup [(GTrait.pv (((w.gPackages[i]).gTraits)[k])), .t (.leaf (.int .i64 (((i : Nat) : Int)))), .t (.leaf (.bool (true)))] : PV)) (by (repeat' (first | exact PV.Le.refl _ | exact LeL.nil | exact PV.Le.nil _ | exact PV.Le.acc _ _ _ | apply LeL.cons | apply PV.Le.agg | apply PV.Le.tup))) rfl ⟨by exact optTrait_some (findP_hit (by omega) (by omega) hi2 hk2 (by assumption)), rfl⟩
      · skip
        have h7b := h7
        try simp only [Bool.and_eq_true, Bool.or_eq_true, Bool.and_eq_false_iff, Bool.or_eq_false_iff, decide_eq_true_eq, decide_eq_false_iff_not, Bool.not_eq_true', Bool.not_eq_false', Bool.not_eq_eq_eq_not, Bool.not_true, Bool.not_false, ge_iff_le, gt_iff_lt, Int.not_lt, Int.not_le] at h7b
        refine AWP.skip ?_
        refine AWP.region_lit ?_
        refine AL.cons rfl (AOp.move (.inl rfl) rfl rfl) ?_
        refine AL.cons rfl (AOp.addI rfl rfl rfl rfl (c := ((k + 1 : Nat) : Int)) (by omega) (by omega)) ?_
        refine AL.cons rfl (AOp.move (.inr rfl) rfl rfl) ?_
        refine AL.nil ?_
        refine ⟨k + 1, ?_, ?_, ?_⟩
        · exact ⟨by omega, findP_next (by omega) hk2 (by assumption)⟩
        · skip
          exact Wk.mk (StLe.mk' ⟨⟨rfl, by (repeat' (first | exact PV.Le.refl _ | exact LeL.nil | exact PV.Le.nil _ | exact PV.Le.acc _ _ _ | apply LeL.cons | apply PV.Le.agg | apply PV.Le.tup)), rfl⟩, ⟨⟨rfl, by (repeat' (first | exact PV.Le.refl _ | exact LeL.nil | exact PV.Le.nil _ | exact PV.Le.acc _ _ _ | apply LeL.cons | apply PV.Le.agg | apply PV.Le.tup)), rfl⟩, trivial⟩⟩ rfl) (keeps_nil hC) ⟨⟨_, rfl, .refl _, rfl⟩, ⟨⟨_, rfl, .refl _, rfl⟩, ⟨⟨_, rfl, .refl _, rfl⟩, ⟨⟨_, rfl, .refl _, rfl⟩, ⟨⟨_, rfl, .refl _, rfl⟩, ⟨⟨_, rfl, by (repeat' (first | exact PV.Le.refl _ | exact LeL.nil | exact PV.Le.nil _ | exact PV.Le.acc _ _ _ | apply LeL.cons | apply PV.Le.agg | apply PV.Le.tup)), rfl⟩, trivial⟩⟩⟩⟩⟩⟩
        · omega
    · skip
      have h6b := h6
      try simp only [Bool.and_eq_true, Bool.or_eq_true, Bool.and_eq_false_iff, Bool.or_eq_false_iff, decide_eq_true_eq, decide_eq_false_iff_not, Bool.not_eq_true', Bool.not_eq_false', Bool.not_eq_eq_eq_not, Bool.not_true, Bool.not_false, ge_iff_le, gt_iff_lt, Int.not_lt, Int.not_le] at h6b
      have h6n : k ≥ ((w.gPackages[i]).gTraits).length := by omega
      refine AWP.exit ?_
      refine AWP.region_lit ?_
      refine AL.cons rfl (AOp.move (.inl rfl) rfl rfl) ?_
      refine AL.cons rfl (AOp.addI rfl rfl rfl rfl (c := ((i + 1 : Nat) : Int)) (by omega) (by omega)) ?_
      refine AL.cons rfl (AOp.move (.inr rfl) rfl rfl) ?_
      refine AL.nil ?_
      refine ⟨i + 1, ?_, ?_, ?_⟩
      · exact ⟨by omega, findP_miss (by omega) hi2 hk2 (by omega)⟩
      · skip
        exact Wk.mk (StLe.mk' ⟨⟨rfl, by (repeat' (first | exact PV.Le.refl _ | exact LeL.nil | exact PV.Le.nil _ | exact PV.Le.acc _ _ _ | apply LeL.cons | apply PV.Le.agg | apply PV.Le.tup)), rfl⟩, ⟨⟨rfl, by (repeat' (first | exact PV.Le.refl _ | exact LeL.nil | exact PV.Le.nil _ | exact PV.Le.acc _ _ _ | apply LeL.cons | apply PV.Le.agg | apply PV.Le.tup)), rfl⟩, trivial⟩⟩ rfl) (keeps_nil hC) ⟨⟨_, rfl, .refl _, rfl⟩, ⟨⟨_, rfl, .refl _, rfl⟩, ⟨⟨_, rfl, .refl _, rfl⟩, ⟨⟨_, rfl, .refl _, rfl⟩, ⟨⟨_, rfl, by (repeat' (first | exact PV.Le.refl _ | exact LeL.nil | exact PV.Le.nil _ | exact PV.Le.acc _ _ _ | apply LeL.cons | apply PV.Le.agg | apply PV.Le.tup)), rfl⟩, trivial⟩⟩⟩⟩⟩
      · omega
  · skip
    have h3b := h3
    try simp only [Bool.and_eq_true, Bool.or_eq_true, Bool.and_eq_false_iff, Bool.or_eq_false_iff, decide_eq_true_eq, decide_eq_false_iff_not, Bool.not_eq_true', Bool.not_eq_false', Bool.not_eq_eq_eq_not, Bool.not_true, Bool.not_false, ge_iff_le, gt_iff_lt, Int.not_lt, Int.not_le] at h3b
    have h3n : i ≥ w.gPackages.length := by omega
    refine AWP.exit ?_
    refine AWP.seq ?_
    refine AWP.region_lit ?_
    refine AL.cons rfl (AOp.build rfl rfl zr94 pl94 rfl rfl) ?_
    refine AL.cons rfl (AOp.storePtr (cs := [.t (.leaf (.string (⟨#[]⟩))), .nil, .t (.leaf (.bool (false))), .t (.leaf (.bool (false))), .nil]) (ds := [.t (.leaf (.string (⟨#[]⟩))), .nil, .t (.leaf (.bool (false))), .t (.leaf (.bool (false))), .nil]) rfl rfl rfl rfl rfl rfl rfl sz94 (Nat.le_of_ble_eq_true rfl) rfl) ?_
    refine AL.cons rfl (AOp.move (.inr rfl) rfl rfl) ?_
    refine AL.cons rfl (AOp.move (.inr rfl) rfl rfl) ?_
    refine AL.nil ?_
    refine AWP.ret ?_
    exact Ends.mk (ps := [_, _, _]) (.inr rfl) ⟨⟨_, _, _, rfl, rfl, sh94, rfl, rfl⟩, rfl, rfl, trivial⟩ rfl (StLe.mk' (st' := ⟨[], []⟩) trivial rfl) (keeps_nil hC) (q := PV.tup [GTrait.pv GTrait.zero, .t (.leaf (.int .i64 (0))), .t (.leaf (.bool (false)))]) (by (repeat' (first | exact PV.Le.refl _ | exact LeL.nil | exact PV.Le.nil _ | exact PV.Le.acc _ _ _ | apply LeL.cons | apply PV.Le.agg | apply PV.Le.tup))) rfl ⟨by exact optTrait_none (findP_end hi2 (by omega)), rfl⟩

def GProgram.dataAt (w : GProgram) (s : ByteArray) : Option (GDataType × Nat) := findP GDataType.gName GPackage.gDataTypes s 0 w.gPackages
def GDataType.zero : GDataType := .mk ⟨#[]⟩ [] []
def oDataType (o : Option (GDataType × Nat)) : GDataType := match o with | some (x, _) => x | none => GDataType.zero
abbrev optDataType (o : Option (GDataType × Nat)) : PV := .tup [GDataType.pv (oDataType o), .t (.leaf (.int .i64 (oInt o))), .t (.leaf (.bool o.isSome))]
theorem optDataType_some {o : Option (GDataType × Nat)} {x : GDataType} {i : Nat} (h : o = some (x, i)) : PV.tup [GDataType.pv x, .t (.leaf (.int .i64 (i : Int))), .t (.leaf (.bool true))] = optDataType o := by rw [h]; rfl
theorem optDataType_none {o : Option (GDataType × Nat)} (h : o = none) : PV.tup [GDataType.pv GDataType.zero, .t (.leaf (.int .i64 0)), .t (.leaf (.bool false))] = optDataType o := by rw [h]; rfl

set_option maxRecDepth 100000 in
set_option maxHeartbeats 4000000 in
theorem data_impl (w : GProgram) (s : ByteArray) : AFun Tryz.prog 142 [(GProgram.pv w), .t (.leaf (.string (s)))] (.tup [(GDataType.pv (oDataType (w.dataAt s))), .t (.leaf (.int .i64 (oInt (w.dataAt s)))), .t (.leaf (.bool ((w.dataAt s).isSome)))]) := by
  refine ACalls.intro Tryz.func142 rfl (by first | decide | (simp; done) | (simp; decide)) ?_
  intro C hC
  refine AWP.seq ?_
  refine AWP.region_lit ?_
  refine AL.cons rfl (AOp.box (cs := [.t (.row 6 (GPackage.trs (w.gPackages)))]) rfl rfl rfl rfl rfl) ?_
  refine AL.cons rfl (AOp.alloc rfl rfl zr171) ?_
  refine AL.cons rfl (AOp.move (.inr rfl) rfl rfl) ?_
  refine AL.cons rfl (AOp.move (.inr rfl) rfl rfl) ?_
  refine AL.nil ?_
  refine AWP.seq ?_
  refine AWP.seq ?_
  refine AWP.region_lit ?_
  refine AL.cons rfl (AOp.fieldPtr (k := 0) (d := 0) (e := 0) rfl rfl rfl fo31_0) ?_
  refine AL.cons rfl (AOp.loadPtr1 rfl rfl rfl rfl sh29 rfl) ?_
  refine AL.fact (lk_lenN 12 rfl rfl (GPackage.trs_len _)) (fun hl1 => ?_)
  refine AL.cons rfl (AOp.lenN rfl rfl rfl rfl el29 (GPackage.trs_len _)) ?_
  refine AL.cons rfl (AOp.move (.inl rfl) rfl rfl) ?_
  refine AL.nil ?_
  refine AWP.block ?_
  refine AWP.loopJ (ι := Nat) (fun i => i ≤ w.gPackages.length ∧ findP GDataType.gName GPackage.gDataTypes s 0 w.gPackages = findP GDataType.gName GPackage.gDataTypes s i (w.gPackages.drop i)) (fun i => ⟨[(0, (GProgram.pv w)), (1, .t (.leaf (.string (s)))), (2, .ptr 0 0), (4, .ptr 1 0), (12, .t (.row 6 (GPackage.trs (w.gPackages)))), (13, .t (.leaf (.int .i64 (((w.gPackages.length : Nat) : Int))))), (14, .t (.leaf (.int .i64 (((i : Nat) : Int)))))], ⟨[some ⟨31, [.t (.row 6 (GPackage.trs (w.gPackages)))]⟩, some ⟨171, [.t (.leaf (.string (⟨#[]⟩))), .nil, .nil]⟩], []⟩⟩) (fun i => w.gPackages.length - i) 0 ?_ ?_ ?_
  · exact ⟨Nat.zero_le _, rfl⟩
  · skip
    exact Wk.mk (StLe.mk' ⟨⟨rfl, by (repeat' (first | exact PV.Le.refl _ | exact LeL.nil | exact PV.Le.nil _ | exact PV.Le.acc _ _ _ | apply LeL.cons | apply PV.Le.agg | apply PV.Le.tup)), rfl⟩, ⟨⟨rfl, by (repeat' (first | exact PV.Le.refl _ | exact LeL.nil | exact PV.Le.nil _ | exact PV.Le.acc _ _ _ | apply LeL.cons | apply PV.Le.agg | apply PV.Le.tup)), rfl⟩, trivial⟩⟩ rfl) (keeps_nil hC) ⟨⟨_, rfl, .refl _, rfl⟩, ⟨⟨_, rfl, .refl _, rfl⟩, ⟨⟨_, rfl, .refl _, rfl⟩, ⟨⟨_, rfl, .refl _, rfl⟩, ⟨⟨_, rfl, .refl _, rfl⟩, ⟨⟨_, rfl, .refl _, rfl⟩, ⟨⟨_, rfl, by (repeat' (first | exact PV.Le.refl _ | exact LeL.nil | exact PV.Le.nil _ | exact PV.Le.acc _ _ _ | apply LeL.cons | apply PV.Le.agg | apply PV.Le.tup)), rfl⟩, trivial⟩⟩⟩⟩⟩⟩⟩
  rintro i hJ2
  obtain ⟨hi1, hi2⟩ := hJ2
  refine AWP.seq ?_
  refine AWP.region_lit ?_
  refine AL.cons rfl (AOp.lss rfl rfl rfl rfl) ?_
  refine AL.nil ?_
  refine AWP.seq ?_
  refine AWP.cond rfl (fun h3 => ?_) (fun h3 => ?_)
  · skip
    have h3b := h3
    try simp only [Bool.and_eq_true, Bool.or_eq_true, Bool.and_eq_false_iff, Bool.or_eq_false_iff, decide_eq_true_eq, decide_eq_false_iff_not, Bool.not_eq_true', Bool.not_eq_false', Bool.not_eq_eq_eq_not, Bool.not_true, Bool.not_false, ge_iff_le, gt_iff_lt, Int.not_lt, Int.not_le] at h3b
    have h3n : i < w.gPackages.length := by omega
    refine AWP.skip ?_
    refine AWP.seq ?_
    refine AWP.block ?_
    refine AWP.seq ?_
    refine AWP.region_lit ?_
    refine AL.cons rfl (AOp.move (.inl rfl) rfl rfl) ?_
    refine AL.cons rfl (AOp.index (k := i) rfl rfl rfl rfl rfl (GPackage.trs_cs h3n) el29) ?_
    refine AL.cons rfl (AOp.loadEptr (ds := [.leaf (.string ((w.gPackages[i]).gName)), .row 1 (strTrs ((w.gPackages[i]).gDeps)), .row 5 (GTrait.trs ((w.gPackages[i]).gTraits)), .row 3 (GDataType.trs ((w.gPackages[i]).gDataTypes)), .row 12 (GInstance.trs ((w.gPackages[i]).gInstances)), .row 16 (GFunction.trs ((w.gPackages[i]).gFunctions))]) rfl rfl rfl sh126 rfl rfl) ?_
    refine AL.cons rfl (AOp.alloc rfl rfl zr126) ?_
    refine AL.cons rfl (AOp.move (.inr rfl) rfl rfl) ?_
    refine AL.cons rfl (AOp.storePtr (cs := [.t (.leaf (.string ((w.gPackages[i]).gName))), .t (.row 1 (strTrs ((w.gPackages[i]).gDeps))), .t (.row 5 (GTrait.trs ((w.gPackages[i]).gTraits))), .t (.row 3 (GDataType.trs ((w.gPackages[i]).gDataTypes))), .t (.row 12 (GInstance.trs ((w.gPackages[i]).gInstances))), .t (.row 16 (GFunction.trs ((w.gPackages[i]).gFunctions)))]) (ds := [.t (.leaf (.string ((w.gPackages[i]).gName))), .t (.row 1 (strTrs ((w.gPackages[i]).gDeps))), .t (.row 5 (GTrait.trs ((w.gPackages[i]).gTraits))), .t (.row 3 (GDataType.trs ((w.gPackages[i]).gDataTypes))), .t (.row 12 (GInstance.trs ((w.gPackages[i]).gInstances))), .t (.row 16 (GFunction.trs ((w.gPackages[i]).gFunctions)))]) rfl rfl rfl rfl rfl rfl rfl sz126 (Nat.le_of_ble_eq_true rfl) rfl) ?_
    refine AL.nil ?_
    refine AWP.seq ?_
    refine AWP.region_lit ?_
    refine AL.cons rfl (AOp.fieldPtr (k := 2) (d := 0) (e := 3) rfl rfl rfl fo126_3) ?_
    refine AL.cons rfl (AOp.loadPtr1 rfl rfl rfl rfl sh122 rfl) ?_
    refine AL.fact (lk_lenN 20 rfl rfl (GDataType.trs_len _)) (fun hl4 => ?_)
    refine AL.cons rfl (AOp.lenN rfl rfl rfl rfl el122 (GDataType.trs_len _)) ?_
    refine AL.cons rfl (AOp.move (.inl rfl) rfl rfl) ?_
    refine AL.nil ?_
    refine AWP.block ?_
    refine AWP.loopJ (ι := Nat) (fun k => k ≤ (w.gPackages[i]).gDataTypes.length ∧ (w.gPackages[i]).gDataTypes.find? (fun x => decide (GDataType.gName x = s)) = ((w.gPackages[i]).gDataTypes.drop k).find? (fun x => decide (GDataType.gName x = s))) (fun k => ⟨[(0, (GProgram.pv w)), (1, .t (.leaf (.string (s)))), (2, .ptr 0 0), (4, .ptr 1 0), (7, .t (.leaf (.int .i64 (((i : Nat) : Int))))), (8, .ptr 2 0), (12, .t (.row 6 (GPackage.trs (w.gPackages)))), (13, .t (.leaf (.int .i64 (((w.gPackages.length : Nat) : Int))))), (14, .t (.leaf (.int .i64 (((i : Nat) : Int))))), (20, .t (.row 3 (GDataType.trs ((w.gPackages[i]).gDataTypes)))), (21, .t (.leaf (.int .i64 (((((w.gPackages[i]).gDataTypes).length : Nat) : Int))))), (22, .t (.leaf (.int .i64 (((k : Nat) : Int)))))], ⟨[some ⟨31, [.t (.row 6 (GPackage.trs (w.gPackages)))]⟩, some ⟨171, [.t (.leaf (.string (⟨#[]⟩))), .nil, .nil]⟩, some ⟨126, [.t (.leaf (.string ((w.gPackages[i]).gName))), .t (.row 1 (strTrs ((w.gPackages[i]).gDeps))), .t (.row 5 (GTrait.trs ((w.gPackages[i]).gTraits))), .t (.row 3 (GDataType.trs ((w.gPackages[i]).gDataTypes))), .t (.row 12 (GInstance.trs ((w.gPackages[i]).gInstances))), .t (.row 16 (GFunction.trs ((w.gPackages[i]).gFunctions)))]⟩], []⟩⟩) (fun k => (w.gPackages[i]).gDataTypes.length - k) 0 ?_ ?_ ?_
    · exact ⟨Nat.zero_le _, rfl⟩
    · skip
      exact Wk.mk (StLe.mk' ⟨⟨rfl, by (repeat' (first | exact PV.Le.refl _ | exact LeL.nil | exact PV.Le.nil _ | exact PV.Le.acc _ _ _ | apply LeL.cons | apply PV.Le.agg | apply PV.Le.tup)), rfl⟩, ⟨⟨rfl, by (repeat' (first | exact PV.Le.refl _ | exact LeL.nil | exact PV.Le.nil _ | exact PV.Le.acc _ _ _ | apply LeL.cons | apply PV.Le.agg | apply PV.Le.tup)), rfl⟩, ⟨⟨rfl, by (repeat' (first | exact PV.Le.refl _ | exact LeL.nil | exact PV.Le.nil _ | exact PV.Le.acc _ _ _ | apply LeL.cons | apply PV.Le.agg | apply PV.Le.tup)), rfl⟩, trivial⟩⟩⟩ rfl) (keeps_nil hC) ⟨⟨_, rfl, .refl _, rfl⟩, ⟨⟨_, rfl, .refl _, rfl⟩, ⟨⟨_, rfl, .refl _, rfl⟩, ⟨⟨_, rfl, .refl _, rfl⟩, ⟨⟨_, rfl, .refl _, rfl⟩, ⟨⟨_, rfl, .refl _, rfl⟩, ⟨⟨_, rfl, .refl _, rfl⟩, ⟨⟨_, rfl, .refl _, rfl⟩, ⟨⟨_, rfl, .refl _, rfl⟩, ⟨⟨_, rfl, .refl _, rfl⟩, ⟨⟨_, rfl, .refl _, rfl⟩, ⟨⟨_, rfl, by (repeat' (first | exact PV.Le.refl _ | exact LeL.nil | exact PV.Le.nil _ | exact PV.Le.acc _ _ _ | apply LeL.cons | apply PV.Le.agg | apply PV.Le.tup)), rfl⟩, trivial⟩⟩⟩⟩⟩⟩⟩⟩⟩⟩⟩⟩
    rintro k hJ5
    obtain ⟨hk1, hk2⟩ := hJ5
    refine AWP.seq ?_
    refine AWP.region_lit ?_
    refine AL.cons rfl (AOp.lss rfl rfl rfl rfl) ?_
    refine AL.nil ?_
    refine AWP.seq ?_
    refine AWP.cond rfl (fun h6 => ?_) (fun h6 => ?_)
    · skip
      have h6b := h6
      try simp only [Bool.and_eq_true, Bool.or_eq_true, Bool.and_eq_false_iff, Bool.or_eq_false_iff, decide_eq_true_eq, decide_eq_false_iff_not, Bool.not_eq_true', Bool.not_eq_false', Bool.not_eq_eq_eq_not, Bool.not_true, Bool.not_false, ge_iff_le, gt_iff_lt, Int.not_lt, Int.not_le] at h6b
      have h6n : k < ((w.gPackages[i]).gDataTypes).length := by omega
      refine AWP.skip ?_
      refine AWP.seq ?_
      refine AWP.block ?_
      refine AWP.seq ?_
      refine AWP.region_lit ?_
      refine AL.cons rfl (AOp.index (k := k) rfl rfl rfl rfl rfl (GDataType.trs_cs h6n) el122) ?_
      refine AL.cons rfl (AOp.loadEptr (ds := [.leaf (.string ((((w.gPackages[i]).gDataTypes)[k]).gName)), .row 1 (strTrs ((((w.gPackages[i]).gDataTypes)[k]).gVars)), .row 2 (GConstructor.trs ((((w.gPackages[i]).gDataTypes)[k]).gConstructors))]) rfl rfl rfl sh171 rfl rfl) ?_
      refine AL.cons rfl (AOp.alloc rfl rfl zr171) ?_
      refine AL.cons rfl (AOp.storePtr (cs := [.t (.leaf (.string ((((w.gPackages[i]).gDataTypes)[k]).gName))), .t (.row 1 (strTrs ((((w.gPackages[i]).gDataTypes)[k]).gVars))), .t (.row 2 (GConstructor.trs ((((w.gPackages[i]).gDataTypes)[k]).gConstructors)))]) (ds := [.t (.leaf (.string ((((w.gPackages[i]).gDataTypes)[k]).gName))), .t (.row 1 (strTrs ((((w.gPackages[i]).gDataTypes)[k]).gVars))), .t (.row 2 (GConstructor.trs ((((w.gPackages[i]).gDataTypes)[k]).gConstructors)))]) rfl rfl rfl rfl rfl rfl rfl sz171 (Nat.le_of_ble_eq_true rfl) rfl) ?_
      refine AL.nil ?_
      refine AWP.seq ?_
      refine AWP.region_lit ?_
      refine AL.cons rfl (AOp.fieldPtr (k := 3) (d := 0) (e := 0) rfl rfl rfl fo171_0) ?_
      refine AL.cons rfl (AOp.loadPtr1 rfl rfl rfl rfl sh9 rfl) ?_
      refine AL.cons rfl (AOp.move (.inl rfl) rfl rfl) ?_
      refine AL.cons rfl (AOp.eqlS rfl rfl rfl rfl) ?_
      refine AL.nil ?_
      refine AWP.cond rfl (fun h7 => ?_) (fun h7 => ?_)
      · skip
        have h7b := h7
        try simp only [Bool.and_eq_true, Bool.or_eq_true, Bool.and_eq_false_iff, Bool.or_eq_false_iff, decide_eq_true_eq, decide_eq_false_iff_not, Bool.not_eq_true', Bool.not_eq_false', Bool.not_eq_eq_eq_not, Bool.not_true, Bool.not_false, ge_iff_le, gt_iff_lt, Int.not_lt, Int.not_le] at h7b
        refine AWP.seq ?_
        refine AWP.region_lit ?_
        refine AL.cons rfl (AOp.loadPtr (cs := [.t (.leaf (.string ((((w.gPackages[i]).gDataTypes)[k]).gName))), .t (.row 1 (strTrs ((((w.gPackages[i]).gDataTypes)[k]).gVars))), .t (.row 2 (GConstructor.trs ((((w.gPackages[i]).gDataTypes)[k]).gConstructors)))]) rfl rfl rfl rfl sh171 rfl rfl) ?_
        refine AL.cons rfl (AOp.move (.inl rfl) rfl rfl) ?_
        refine AL.cons rfl (AOp.storePtr (cs := [.t (.leaf (.string ((((w.gPackages[i]).gDataTypes)[k]).gName))), .t (.row 1 (strTrs ((((w.gPackages[i]).gDataTypes)[k]).gVars))), .t (.row 2 (GConstructor.trs ((((w.gPackages[i]).gDataTypes)[k]).gConstructors)))]) (ds := [.t (.leaf (.string ((((w.gPackages[i]).gDataTypes)[k]).gName))), .t (.row 1 (strTrs ((((w.gPackages[i]).gDataTypes)[k]).gVars))), .t (.row 2 (GConstructor.trs ((((w.gPackages[i]).gDataTypes)[k]).gConstructors)))]) rfl rfl rfl rfl rfl rfl rfl sz171 (Nat.le_of_ble_eq_true rfl) rfl) ?_
        refine AL.cons rfl (AOp.move (.inr rfl) rfl rfl) ?_
        refine AL.cons rfl (AOp.move (.inr rfl) rfl rfl) ?_
        refine AL.nil ?_
        refine AWP.ret ?_
        exact Ends.mk (ps := [_, _, _]) (.inr rfl) ⟨⟨_, _, _, rfl, rfl, sh171, rfl, rfl⟩, rfl, rfl, trivial⟩ rfl (StLe.mk' (st' := ⟨[], []⟩) trivial rfl) (keeps_nil hC) (q := (.tup [(GDataType.pv (((w.gPackages[i]).gDataTypes)[k])), .t (.leaf (.int .i64 (((i : Nat) : Int)))), .t (.leaf (.bool (true)))] : PV)) (by (repeat' (first | exact PV.Le.refl _ | exact LeL.nil | exact PV.Le.nil _ | exact PV.Le.acc _ _ _ | apply LeL.cons | apply PV.Le.agg | apply PV.Le.tup))) rfl ⟨by exact optDataType_some (findP_hit (by omega) (by omega) hi2 hk2 (by assumption)), rfl⟩
      · skip
        have h7b := h7
        try simp only [Bool.and_eq_true, Bool.or_eq_true, Bool.and_eq_false_iff, Bool.or_eq_false_iff, decide_eq_true_eq, decide_eq_false_iff_not, Bool.not_eq_true', Bool.not_eq_false', Bool.not_eq_eq_eq_not, Bool.not_true, Bool.not_false, ge_iff_le, gt_iff_lt, Int.not_lt, Int.not_le] at h7b
        refine AWP.skip ?_
        refine AWP.region_lit ?_
        refine AL.cons rfl (AOp.addI rfl rfl rfl rfl (c := ((k + 1 : Nat) : Int)) (by omega) (by omega)) ?_
        refine AL.cons rfl (AOp.move (.inl rfl) rfl rfl) ?_
        refine AL.nil ?_
        refine ⟨k + 1, ?_, ?_, ?_⟩
        · exact ⟨by omega, findP_next (by omega) hk2 (by assumption)⟩
        · skip
          exact Wk.mk (StLe.mk' ⟨⟨rfl, by (repeat' (first | exact PV.Le.refl _ | exact LeL.nil | exact PV.Le.nil _ | exact PV.Le.acc _ _ _ | apply LeL.cons | apply PV.Le.agg | apply PV.Le.tup)), rfl⟩, ⟨⟨rfl, by (repeat' (first | exact PV.Le.refl _ | exact LeL.nil | exact PV.Le.nil _ | exact PV.Le.acc _ _ _ | apply LeL.cons | apply PV.Le.agg | apply PV.Le.tup)), rfl⟩, ⟨⟨rfl, by (repeat' (first | exact PV.Le.refl _ | exact LeL.nil | exact PV.Le.nil _ | exact PV.Le.acc _ _ _ | apply LeL.cons | apply PV.Le.agg | apply PV.Le.tup)), rfl⟩, trivial⟩⟩⟩ rfl) (keeps_nil hC) ⟨⟨_, rfl, .refl _, rfl⟩, ⟨⟨_, rfl, .refl _, rfl⟩, ⟨⟨_, rfl, .refl _, rfl⟩, ⟨⟨_, rfl, .refl _, rfl⟩, ⟨⟨_, rfl, .refl _, rfl⟩, ⟨⟨_, rfl, .refl _, rfl⟩, ⟨⟨_, rfl, .refl _, rfl⟩, ⟨⟨_, rfl, .refl _, rfl⟩, ⟨⟨_, rfl, .refl _, rfl⟩, ⟨⟨_, rfl, .refl _, rfl⟩, ⟨⟨_, rfl, .refl _, rfl⟩, ⟨⟨_, rfl, by (repeat' (first | exact PV.Le.refl _ | exact LeL.nil | exact PV.Le.nil _ | exact PV.Le.acc _ _ _ | apply LeL.cons | apply PV.Le.agg | apply PV.Le.tup)), rfl⟩, trivial⟩⟩⟩⟩⟩⟩⟩⟩⟩⟩⟩⟩
        · omega
    · skip
      have h6b := h6
      try simp only [Bool.and_eq_true, Bool.or_eq_true, Bool.and_eq_false_iff, Bool.or_eq_false_iff, decide_eq_true_eq, decide_eq_false_iff_not, Bool.not_eq_true', Bool.not_eq_false', Bool.not_eq_eq_eq_not, Bool.not_true, Bool.not_false, ge_iff_le, gt_iff_lt, Int.not_lt, Int.not_le] at h6b
      have h6n : k ≥ ((w.gPackages[i]).gDataTypes).length := by omega
      refine AWP.exit ?_
      refine AWP.region_lit ?_
      refine AL.cons rfl (AOp.addI rfl rfl rfl rfl (c := ((i + 1 : Nat) : Int)) (by omega) (by omega)) ?_
      refine AL.cons rfl (AOp.move (.inl rfl) rfl rfl) ?_
      refine AL.nil ?_
      refine ⟨i + 1, ?_, ?_, ?_⟩
      · exact ⟨by omega, findP_miss (by omega) hi2 hk2 (by omega)⟩
      · skip
        exact Wk.mk (StLe.mk' ⟨⟨rfl, by (repeat' (first | exact PV.Le.refl _ | exact LeL.nil | exact PV.Le.nil _ | exact PV.Le.acc _ _ _ | apply LeL.cons | apply PV.Le.agg | apply PV.Le.tup)), rfl⟩, ⟨⟨rfl, by (repeat' (first | exact PV.Le.refl _ | exact LeL.nil | exact PV.Le.nil _ | exact PV.Le.acc _ _ _ | apply LeL.cons | apply PV.Le.agg | apply PV.Le.tup)), rfl⟩, trivial⟩⟩ rfl) (keeps_nil hC) ⟨⟨_, rfl, .refl _, rfl⟩, ⟨⟨_, rfl, .refl _, rfl⟩, ⟨⟨_, rfl, .refl _, rfl⟩, ⟨⟨_, rfl, .refl _, rfl⟩, ⟨⟨_, rfl, .refl _, rfl⟩, ⟨⟨_, rfl, .refl _, rfl⟩, ⟨⟨_, rfl, by (repeat' (first | exact PV.Le.refl _ | exact LeL.nil | exact PV.Le.nil _ | exact PV.Le.acc _ _ _ | apply LeL.cons | apply PV.Le.agg | apply PV.Le.tup)), rfl⟩, trivial⟩⟩⟩⟩⟩⟩⟩
      · omega
  · skip
    have h3b := h3
    try simp only [Bool.and_eq_true, Bool.or_eq_true, Bool.and_eq_false_iff, Bool.or_eq_false_iff, decide_eq_true_eq, decide_eq_false_iff_not, Bool.not_eq_true', Bool.not_eq_false', Bool.not_eq_eq_eq_not, Bool.not_true, Bool.not_false, ge_iff_le, gt_iff_lt, Int.not_lt, Int.not_le] at h3b
    have h3n : i ≥ w.gPackages.length := by omega
    refine AWP.exit ?_
    refine AWP.seq ?_
    refine AWP.region_lit ?_
    refine AL.cons rfl (AOp.build rfl rfl zr171 pl171 rfl rfl) ?_
    refine AL.cons rfl (AOp.storePtr (cs := [.t (.leaf (.string (⟨#[]⟩))), .nil, .nil]) (ds := [.t (.leaf (.string (⟨#[]⟩))), .nil, .nil]) rfl rfl rfl rfl rfl rfl rfl sz171 (Nat.le_of_ble_eq_true rfl) rfl) ?_
    refine AL.cons rfl (AOp.move (.inr rfl) rfl rfl) ?_
    refine AL.cons rfl (AOp.move (.inr rfl) rfl rfl) ?_
    refine AL.nil ?_
    refine AWP.ret ?_
    exact Ends.mk (ps := [_, _, _]) (.inr rfl) ⟨⟨_, _, _, rfl, rfl, sh171, rfl, rfl⟩, rfl, rfl, trivial⟩ rfl (StLe.mk' (st' := ⟨[], []⟩) trivial rfl) (keeps_nil hC) (q := PV.tup [GDataType.pv GDataType.zero, .t (.leaf (.int .i64 (0))), .t (.leaf (.bool (false)))]) (by (repeat' (first | exact PV.Le.refl _ | exact LeL.nil | exact PV.Le.nil _ | exact PV.Le.acc _ _ _ | apply LeL.cons | apply PV.Le.agg | apply PV.Le.tup))) rfl ⟨by exact optDataType_none (findP_end hi2 (by omega)), rfl⟩

set_option maxRecDepth 100000 in
set_option maxHeartbeats 4000000 in
theorem data_spec (w : GProgram) (s : ByteArray) : AFun Tryz.prog 139 [(GProgram.pv w), .t (.leaf (.string (s)))] (.tup [(GDataType.pv (oDataType (w.dataAt s))), .t (.leaf (.int .i64 (oInt (w.dataAt s)))), .t (.leaf (.bool ((w.dataAt s).isSome)))]) := by
  refine ACalls.intro Tryz.func139 rfl (by first | decide | (simp; done) | (simp; decide)) ?_
  intro C hC
  refine AWP.seq ?_
  refine AWP.region_lit ?_
  refine AL.cons rfl (AOp.box (cs := [.t (.row 6 (GPackage.trs (w.gPackages)))]) rfl rfl rfl rfl rfl) ?_
  refine AL.cons rfl (AOp.alloc rfl rfl zr171) ?_
  refine AL.cons rfl (AOp.move (.inr rfl) rfl rfl) ?_
  refine AL.cons rfl (AOp.move (.inr rfl) rfl rfl) ?_
  refine AL.nil ?_
  refine AWP.seq ?_
  refine AWP.seq ?_
  refine AWP.region_lit ?_
  refine AL.cons rfl (AOp.move (.inr rfl) rfl rfl) ?_
  refine AL.nil ?_
  refine AWP.block ?_
  refine AWP.loopJ (ι := Nat) (fun i => i ≤ w.gPackages.length ∧ findP GDataType.gName GPackage.gDataTypes s 0 w.gPackages = findP GDataType.gName GPackage.gDataTypes s i (w.gPackages.drop i)) (fun i => ⟨[(0, (GProgram.pv w)), (1, .t (.leaf (.string (s)))), (2, .ptr 0 0), (4, .ptr 1 0), (7, .t (.leaf (.int .i64 (((i : Nat) : Int)))))], ⟨[some ⟨31, [.t (.row 6 (GPackage.trs (w.gPackages)))]⟩, some ⟨171, [.t (.leaf (.string (⟨#[]⟩))), .nil, .nil]⟩], []⟩⟩) (fun i => w.gPackages.length - i) 0 ?_ ?_ ?_
  · exact ⟨Nat.zero_le _, rfl⟩
  · skip
    exact Wk.mk (StLe.mk' ⟨⟨rfl, by (repeat' (first | exact PV.Le.refl _ | exact LeL.nil | exact PV.Le.nil _ | exact PV.Le.acc _ _ _ | apply LeL.cons | apply PV.Le.agg | apply PV.Le.tup)), rfl⟩, ⟨⟨rfl, by (repeat' (first | exact PV.Le.refl _ | exact LeL.nil | exact PV.Le.nil _ | exact PV.Le.acc _ _ _ | apply LeL.cons | apply PV.Le.agg | apply PV.Le.tup)), rfl⟩, trivial⟩⟩ rfl) (keeps_nil hC) ⟨⟨_, rfl, .refl _, rfl⟩, ⟨⟨_, rfl, .refl _, rfl⟩, ⟨⟨_, rfl, .refl _, rfl⟩, ⟨⟨_, rfl, .refl _, rfl⟩, ⟨⟨_, rfl, by (repeat' (first | exact PV.Le.refl _ | exact LeL.nil | exact PV.Le.nil _ | exact PV.Le.acc _ _ _ | apply LeL.cons | apply PV.Le.agg | apply PV.Le.tup)), rfl⟩, trivial⟩⟩⟩⟩⟩
  rintro i hJ1
  obtain ⟨hi1, hi2⟩ := hJ1
  refine AWP.seq ?_
  refine AWP.seq ?_
  refine AWP.region_lit ?_
  refine AL.cons rfl (AOp.move (.inl rfl) rfl rfl) ?_
  refine AL.cons rfl (AOp.fieldPtr (k := 0) (d := 0) (e := 0) rfl rfl rfl fo31_0) ?_
  refine AL.cons rfl (AOp.loadPtr1 rfl rfl rfl rfl sh29 rfl) ?_
  refine AL.fact (lk_lenN 11 rfl rfl (GPackage.trs_len _)) (fun hl2 => ?_)
  refine AL.cons rfl (AOp.lenN rfl rfl rfl rfl el29 (GPackage.trs_len _)) ?_
  refine AL.cons rfl (AOp.lss rfl rfl rfl rfl) ?_
  refine AL.nil ?_
  refine AWP.cond rfl (fun h3 => ?_) (fun h3 => ?_)
  · skip
    have h3b := h3
    try simp only [Bool.and_eq_true, Bool.or_eq_true, Bool.and_eq_false_iff, Bool.or_eq_false_iff, decide_eq_true_eq, decide_eq_false_iff_not, Bool.not_eq_true', Bool.not_eq_false', Bool.not_eq_eq_eq_not, Bool.not_true, Bool.not_false, ge_iff_le, gt_iff_lt, Int.not_lt, Int.not_le] at h3b
    have h3n : i < w.gPackages.length := by omega
    refine AWP.skip ?_
    refine AWP.seq ?_
    refine AWP.block ?_
    refine AWP.seq ?_
    refine AWP.region_lit ?_
    refine AL.cons rfl (AOp.move (.inr rfl) rfl rfl) ?_
    refine AL.nil ?_
    refine AWP.block ?_
    refine AWP.loopJ (ι := Nat) (fun k => k ≤ (w.gPackages[i]).gDataTypes.length ∧ (w.gPackages[i]).gDataTypes.find? (fun x => decide (GDataType.gName x = s)) = ((w.gPackages[i]).gDataTypes.drop k).find? (fun x => decide (GDataType.gName x = s))) (fun k => ⟨[(0, (GProgram.pv w)), (1, .t (.leaf (.string (s)))), (2, .ptr 0 0), (4, .ptr 1 0), (7, .t (.leaf (.int .i64 (((i : Nat) : Int))))), (8, .t (.leaf (.int .i64 (((k : Nat) : Int)))))], ⟨[some ⟨31, [.t (.row 6 (GPackage.trs (w.gPackages)))]⟩, some ⟨171, [.t (.leaf (.string (⟨#[]⟩))), .nil, .nil]⟩], []⟩⟩) (fun k => (w.gPackages[i]).gDataTypes.length - k) 0 ?_ ?_ ?_
    · exact ⟨Nat.zero_le _, rfl⟩
    · skip
      exact Wk.mk (StLe.mk' ⟨⟨rfl, by (repeat' (first | exact PV.Le.refl _ | exact LeL.nil | exact PV.Le.nil _ | exact PV.Le.acc _ _ _ | apply LeL.cons | apply PV.Le.agg | apply PV.Le.tup)), rfl⟩, ⟨⟨rfl, by (repeat' (first | exact PV.Le.refl _ | exact LeL.nil | exact PV.Le.nil _ | exact PV.Le.acc _ _ _ | apply LeL.cons | apply PV.Le.agg | apply PV.Le.tup)), rfl⟩, trivial⟩⟩ rfl) (keeps_nil hC) ⟨⟨_, rfl, .refl _, rfl⟩, ⟨⟨_, rfl, .refl _, rfl⟩, ⟨⟨_, rfl, .refl _, rfl⟩, ⟨⟨_, rfl, .refl _, rfl⟩, ⟨⟨_, rfl, .refl _, rfl⟩, ⟨⟨_, rfl, by (repeat' (first | exact PV.Le.refl _ | exact LeL.nil | exact PV.Le.nil _ | exact PV.Le.acc _ _ _ | apply LeL.cons | apply PV.Le.agg | apply PV.Le.tup)), rfl⟩, trivial⟩⟩⟩⟩⟩⟩
    rintro k hJ4
    obtain ⟨hk1, hk2⟩ := hJ4
    refine AWP.seq ?_
    refine AWP.seq ?_
    refine AWP.region_lit ?_
    refine AL.cons rfl (AOp.move (.inl rfl) rfl rfl) ?_
    refine AL.cons rfl (AOp.fieldPtr (k := 0) (d := 0) (e := 0) rfl rfl rfl fo31_0) ?_
    refine AL.cons rfl (AOp.loadPtr1 rfl rfl rfl rfl sh29 rfl) ?_
    refine AL.cons rfl (AOp.move (.inl rfl) rfl rfl) ?_
    refine AL.cons rfl (AOp.index (k := i) rfl rfl rfl rfl rfl (GPackage.trs_cs h3n) el29) ?_
    refine AL.cons rfl (AOp.fieldEptr (cs := (GPackage.cs (w.gPackages[i]))) (e := 3) rfl rfl rfl fo126_3) ?_
    refine AL.cons rfl (AOp.loadEptr1 (d := .row 3 (GDataType.trs ((w.gPackages[i]).gDataTypes))) rfl rfl rfl sh122 rfl) ?_
    refine AL.fact (lk_lenN 22 rfl rfl (GDataType.trs_len _)) (fun hl5 => ?_)
    refine AL.cons rfl (AOp.lenN rfl rfl rfl rfl el122 (GDataType.trs_len _)) ?_
    refine AL.cons rfl (AOp.lss rfl rfl rfl rfl) ?_
    refine AL.nil ?_
    refine AWP.cond rfl (fun h6 => ?_) (fun h6 => ?_)
    · skip
      have h6b := h6
      try simp only [Bool.and_eq_true, Bool.or_eq_true, Bool.and_eq_false_iff, Bool.or_eq_false_iff, decide_eq_true_eq, decide_eq_false_iff_not, Bool.not_eq_true', Bool.not_eq_false', Bool.not_eq_eq_eq_not, Bool.not_true, Bool.not_false, ge_iff_le, gt_iff_lt, Int.not_lt, Int.not_le] at h6b
      have h6n : k < ((w.gPackages[i]).gDataTypes).length := by omega
      refine AWP.skip ?_
      refine AWP.seq ?_
      refine AWP.block ?_
      refine AWP.seq ?_
      refine AWP.region_lit ?_
      refine AL.cons rfl (AOp.fieldPtr (k := 0) (d := 0) (e := 0) rfl rfl rfl fo31_0) ?_
      refine AL.cons rfl (AOp.loadPtr1 rfl rfl rfl rfl sh29 rfl) ?_
      refine AL.cons rfl (AOp.move (.inl rfl) rfl rfl) ?_
      refine AL.cons rfl (AOp.index (k := i) rfl rfl rfl rfl rfl (GPackage.trs_cs h3n) el29) ?_
      refine AL.cons rfl (AOp.fieldEptr (cs := (GPackage.cs (w.gPackages[i]))) (e := 3) rfl rfl rfl fo126_3) ?_
      refine AL.cons rfl (AOp.loadEptr1 (d := .row 3 (GDataType.trs ((w.gPackages[i]).gDataTypes))) rfl rfl rfl sh122 rfl) ?_
      refine AL.cons rfl (AOp.move (.inl rfl) rfl rfl) ?_
      refine AL.cons rfl (AOp.index (k := k) rfl rfl rfl rfl rfl (GDataType.trs_cs h6n) el122) ?_
      refine AL.cons rfl (AOp.fieldEptr (cs := (GDataType.cs (((w.gPackages[i]).gDataTypes)[k]))) (e := 0) rfl rfl rfl fo171_0) ?_
      refine AL.cons rfl (AOp.loadEptr1 (d := .leaf (.string ((((w.gPackages[i]).gDataTypes)[k]).gName))) rfl rfl rfl sh9 rfl) ?_
      refine AL.cons rfl (AOp.move (.inl rfl) rfl rfl) ?_
      refine AL.cons rfl (AOp.eqlS rfl rfl rfl rfl) ?_
      refine AL.nil ?_
      refine AWP.cond rfl (fun h7 => ?_) (fun h7 => ?_)
      · skip
        have h7b := h7
        try simp only [Bool.and_eq_true, Bool.or_eq_true, Bool.and_eq_false_iff, Bool.or_eq_false_iff, decide_eq_true_eq, decide_eq_false_iff_not, Bool.not_eq_true', Bool.not_eq_false', Bool.not_eq_eq_eq_not, Bool.not_true, Bool.not_false, ge_iff_le, gt_iff_lt, Int.not_lt, Int.not_le] at h7b
        refine AWP.seq ?_
        refine AWP.region_lit ?_
        refine AL.cons rfl (AOp.fieldPtr (k := 0) (d := 0) (e := 0) rfl rfl rfl fo31_0) ?_
        refine AL.cons rfl (AOp.loadPtr1 rfl rfl rfl rfl sh29 rfl) ?_
        refine AL.cons rfl (AOp.move (.inl rfl) rfl rfl) ?_
        refine AL.cons rfl (AOp.index (k := i) rfl rfl rfl rfl rfl (GPackage.trs_cs h3n) el29) ?_
        refine AL.cons rfl (AOp.fieldEptr (cs := (GPackage.cs (w.gPackages[i]))) (e := 3) rfl rfl rfl fo126_3) ?_
        refine AL.cons rfl (AOp.loadEptr1 (d := .row 3 (GDataType.trs ((w.gPackages[i]).gDataTypes))) rfl rfl rfl sh122 rfl) ?_
        refine AL.cons rfl (AOp.move (.inl rfl) rfl rfl) ?_
        refine AL.cons rfl (AOp.index (k := k) rfl rfl rfl rfl rfl (GDataType.trs_cs h6n) el122) ?_
        refine AL.cons rfl (AOp.loadEptr (ds := [.leaf (.string ((((w.gPackages[i]).gDataTypes)[k]).gName)), .row 1 (strTrs ((((w.gPackages[i]).gDataTypes)[k]).gVars)), .row 2 (GConstructor.trs ((((w.gPackages[i]).gDataTypes)[k]).gConstructors))]) rfl rfl rfl sh171 rfl rfl) ?_
        refine AL.cons rfl (AOp.move (.inl rfl) rfl rfl) ?_
        refine AL.cons rfl (AOp.storePtr (cs := [.t (.leaf (.string ((((w.gPackages[i]).gDataTypes)[k]).gName))), .t (.row 1 (strTrs ((((w.gPackages[i]).gDataTypes)[k]).gVars))), .t (.row 2 (GConstructor.trs ((((w.gPackages[i]).gDataTypes)[k]).gConstructors)))]) (ds := [.t (.leaf (.string ((((w.gPackages[i]).gDataTypes)[k]).gName))), .t (.row 1 (strTrs ((((w.gPackages[i]).gDataTypes)[k]).gVars))), .t (.row 2 (GConstructor.trs ((((w.gPackages[i]).gDataTypes)[k]).gConstructors)))]) rfl rfl rfl rfl rfl rfl rfl sz171 (Nat.le_of_ble_eq_true rfl) rfl) ?_
        refine AL.cons rfl (AOp.move (.inr rfl) rfl rfl) ?_
        refine AL.cons rfl (AOp.move (.inr rfl) rfl rfl) ?_
        refine AL.nil ?_
        refine AWP.ret ?_
        exact Ends.mk (ps := [_, _, _]) (.inr rfl) ⟨⟨_, _, _, rfl, rfl, sh171, rfl, rfl⟩, rfl, rfl, trivial⟩ rfl (StLe.mk' (st' := ⟨[], []⟩) trivial rfl) (keeps_nil hC) (q := (.tup [(GDataType.pv (((w.gPackages[i]).gDataTypes)[k])), .t (.leaf (.int .i64 (((i : Nat) : Int)))), .t (.leaf (.bool (true)))] : PV)) (by (repeat' (first | exact PV.Le.refl _ | exact LeL.nil | exact PV.Le.nil _ | exact PV.Le.acc _ _ _ | apply LeL.cons | apply PV.Le.agg | apply PV.Le.tup))) rfl ⟨by exact optDataType_some (findP_hit (by omega) (by omega) hi2 hk2 (by assumption)), rfl⟩
      · skip
        have h7b := h7
        try simp only [Bool.and_eq_true, Bool.or_eq_true, Bool.and_eq_false_iff, Bool.or_eq_false_iff, decide_eq_true_eq, decide_eq_false_iff_not, Bool.not_eq_true', Bool.not_eq_false', Bool.not_eq_eq_eq_not, Bool.not_true, Bool.not_false, ge_iff_le, gt_iff_lt, Int.not_lt, Int.not_le] at h7b
        refine AWP.skip ?_
        refine AWP.region_lit ?_
        refine AL.cons rfl (AOp.move (.inl rfl) rfl rfl) ?_
        refine AL.cons rfl (AOp.addI rfl rfl rfl rfl (c := ((k + 1 : Nat) : Int)) (by omega) (by omega)) ?_
        refine AL.cons rfl (AOp.move (.inr rfl) rfl rfl) ?_
        refine AL.nil ?_
        refine ⟨k + 1, ?_, ?_, ?_⟩
        · exact ⟨by omega, findP_next (by omega) hk2 (by assumption)⟩
        · skip
          exact Wk.mk (StLe.mk' ⟨⟨rfl, by (repeat' (first | exact PV.Le.refl _ | exact LeL.nil | exact PV.Le.nil _ | exact PV.Le.acc _ _ _ | apply LeL.cons | apply PV.Le.agg | apply PV.Le.tup)), rfl⟩, ⟨⟨rfl, by (repeat' (first | exact PV.Le.refl _ | exact LeL.nil | exact PV.Le.nil _ | exact PV.Le.acc _ _ _ | apply LeL.cons | apply PV.Le.agg | apply PV.Le.tup)), rfl⟩, trivial⟩⟩ rfl) (keeps_nil hC) ⟨⟨_, rfl, .refl _, rfl⟩, ⟨⟨_, rfl, .refl _, rfl⟩, ⟨⟨_, rfl, .refl _, rfl⟩, ⟨⟨_, rfl, .refl _, rfl⟩, ⟨⟨_, rfl, .refl _, rfl⟩, ⟨⟨_, rfl, by (repeat' (first | exact PV.Le.refl _ | exact LeL.nil | exact PV.Le.nil _ | exact PV.Le.acc _ _ _ | apply LeL.cons | apply PV.Le.agg | apply PV.Le.tup)), rfl⟩, trivial⟩⟩⟩⟩⟩⟩
        · omega
    · skip
      have h6b := h6
      try simp only [Bool.and_eq_true, Bool.or_eq_true, Bool.and_eq_false_iff, Bool.or_eq_false_iff, decide_eq_true_eq, decide_eq_false_iff_not, Bool.not_eq_true', Bool.not_eq_false', Bool.not_eq_eq_eq_not, Bool.not_true, Bool.not_false, ge_iff_le, gt_iff_lt, Int.not_lt, Int.not_le] at h6b
      have h6n : k ≥ ((w.gPackages[i]).gDataTypes).length := by omega
      refine AWP.exit ?_
      refine AWP.region_lit ?_
      refine AL.cons rfl (AOp.move (.inl rfl) rfl rfl) ?_
      refine AL.cons rfl (AOp.addI rfl rfl rfl rfl (c := ((i + 1 : Nat) : Int)) (by omega) (by omega)) ?_
      refine AL.cons rfl (AOp.move (.inr rfl) rfl rfl) ?_
      refine AL.nil ?_
      refine ⟨i + 1, ?_, ?_, ?_⟩
      · exact ⟨by omega, findP_miss (by omega) hi2 hk2 (by omega)⟩
      · skip
        exact Wk.mk (StLe.mk' ⟨⟨rfl, by (repeat' (first | exact PV.Le.refl _ | exact LeL.nil | exact PV.Le.nil _ | exact PV.Le.acc _ _ _ | apply LeL.cons | apply PV.Le.agg | apply PV.Le.tup)), rfl⟩, ⟨⟨rfl, by (repeat' (first | exact PV.Le.refl _ | exact LeL.nil | exact PV.Le.nil _ | exact PV.Le.acc _ _ _ | apply LeL.cons | apply PV.Le.agg | apply PV.Le.tup)), rfl⟩, trivial⟩⟩ rfl) (keeps_nil hC) ⟨⟨_, rfl, .refl _, rfl⟩, ⟨⟨_, rfl, .refl _, rfl⟩, ⟨⟨_, rfl, .refl _, rfl⟩, ⟨⟨_, rfl, .refl _, rfl⟩, ⟨⟨_, rfl, by (repeat' (first | exact PV.Le.refl _ | exact LeL.nil | exact PV.Le.nil _ | exact PV.Le.acc _ _ _ | apply LeL.cons | apply PV.Le.agg | apply PV.Le.tup)), rfl⟩, trivial⟩⟩⟩⟩⟩
      · omega
  · skip
    have h3b := h3
    try simp only [Bool.and_eq_true, Bool.or_eq_true, Bool.and_eq_false_iff, Bool.or_eq_false_iff, decide_eq_true_eq, decide_eq_false_iff_not, Bool.not_eq_true', Bool.not_eq_false', Bool.not_eq_eq_eq_not, Bool.not_true, Bool.not_false, ge_iff_le, gt_iff_lt, Int.not_lt, Int.not_le] at h3b
    have h3n : i ≥ w.gPackages.length := by omega
    refine AWP.exit ?_
    refine AWP.seq ?_
    refine AWP.region_lit ?_
    refine AL.cons rfl (AOp.build rfl rfl zr171 pl171 rfl rfl) ?_
    refine AL.cons rfl (AOp.storePtr (cs := [.t (.leaf (.string (⟨#[]⟩))), .nil, .nil]) (ds := [.t (.leaf (.string (⟨#[]⟩))), .nil, .nil]) rfl rfl rfl rfl rfl rfl rfl sz171 (Nat.le_of_ble_eq_true rfl) rfl) ?_
    refine AL.cons rfl (AOp.move (.inr rfl) rfl rfl) ?_
    refine AL.cons rfl (AOp.move (.inr rfl) rfl rfl) ?_
    refine AL.nil ?_
    refine AWP.ret ?_
    exact Ends.mk (ps := [_, _, _]) (.inr rfl) ⟨⟨_, _, _, rfl, rfl, sh171, rfl, rfl⟩, rfl, rfl, trivial⟩ rfl (StLe.mk' (st' := ⟨[], []⟩) trivial rfl) (keeps_nil hC) (q := PV.tup [GDataType.pv GDataType.zero, .t (.leaf (.int .i64 (0))), .t (.leaf (.bool (false)))]) (by (repeat' (first | exact PV.Le.refl _ | exact LeL.nil | exact PV.Le.nil _ | exact PV.Le.acc _ _ _ | apply LeL.cons | apply PV.Le.agg | apply PV.Le.tup))) rfl ⟨by exact optDataType_none (findP_end hi2 (by omega)), rfl⟩

def GFunction.zero : GFunction := .mk ⟨#[]⟩ [] [] [] (.mk 0 ⟨#[]⟩ []) (.mk 0 ⟨#[]⟩ ⟨#[]⟩ 0 (.mk 0 ⟨#[]⟩ []) [] [])
end Go.Proofs.YtnakkelglbcecaaGreat

namespace Go.Proofs.YtnakkelglbcecaaGreat
open Go.RowKit Go.Proofs
set_option linter.unusedSimpArgs false
set_option linter.unusedVariables false

def isBase (s : ByteArray) : Bool := decide (s = ⟨#[105, 110, 116]⟩) || decide (s = ⟨#[98, 111, 111, 108]⟩)
set_option maxRecDepth 100000 in
set_option maxHeartbeats 4000000 in
theorem isBase_impl (s : ByteArray) : AFun Tryz.prog 141 [.t (.leaf (.string (s)))] (.t (.leaf (.bool (isBase s)))) := by
  refine ACalls.intro Tryz.func141 rfl (by first | decide | (simp; done) | (simp; decide)) ?_
  intro C hC
  refine AWP.seq ?_
  refine AWP.region_lit ?_
  refine AL.cons rfl (AOp.move (.inr rfl) rfl rfl) ?_
  refine AL.nil ?_
  refine AWP.seq ?_
  refine AWP.region_lit ?_
  refine AL.cons rfl (AOp.move (.inl rfl) rfl rfl) ?_
  refine AL.cons rfl (AOp.eqlS rfl rfl rfl rfl) ?_
  refine AL.cons rfl (AOp.move (.inl rfl) rfl rfl) ?_
  refine AL.splitB 5 rfl (fun g1 => ?_) (fun g1 => ?_)
  · skip
    have g1b := g1
    try simp only [Bool.and_eq_true, Bool.or_eq_true, Bool.and_eq_false_iff, Bool.or_eq_false_iff, decide_eq_true_eq, decide_eq_false_iff_not, Bool.not_eq_true', Bool.not_eq_false', Bool.not_eq_eq_eq_not, Bool.not_true, Bool.not_false, ge_iff_le, gt_iff_lt, Int.not_lt, Int.not_le] at g1b
    refine AL.skip_v rfl rfl rfl g1 rfl ?_
    refine AL.skip_v rfl rfl rfl g1 rfl ?_
    refine AL.cons rfl (AOp.pickT rfl rfl rfl g1 rfl) ?_
    refine AL.cons rfl (AOp.move (.inr rfl) rfl rfl) ?_
    refine AL.nil ?_
    refine AWP.ret ?_
    exact Ends.mk (ps := [_]) (.inr rfl) ⟨rfl, trivial⟩ rfl (StLe.mk' (st' := ⟨[], []⟩) trivial rfl) (keeps_nil hC) (q := (.t (.leaf (.bool (true))) : PV)) (by (repeat' (first | exact PV.Le.refl _ | exact LeL.nil | exact PV.Le.nil _ | exact PV.Le.acc _ _ _ | apply LeL.cons | apply PV.Le.agg | apply PV.Le.tup))) rfl ⟨by simp_all [isBase], rfl⟩
  · skip
    have g1b := g1
    try simp only [Bool.and_eq_true, Bool.or_eq_true, Bool.and_eq_false_iff, Bool.or_eq_false_iff, decide_eq_true_eq, decide_eq_false_iff_not, Bool.not_eq_true', Bool.not_eq_false', Bool.not_eq_eq_eq_not, Bool.not_true, Bool.not_false, ge_iff_le, gt_iff_lt, Int.not_lt, Int.not_le] at g1b
    refine AL.cons_gv rfl rfl rfl g1 (AOp.move (.inl rfl) rfl rfl) ?_
    refine AL.cons_gv rfl rfl rfl g1 (AOp.eqlS rfl rfl rfl rfl) ?_
    refine AL.cons rfl (AOp.pickF rfl rfl rfl g1 rfl) ?_
    refine AL.cons rfl (AOp.move (.inr rfl) rfl rfl) ?_
    refine AL.nil ?_
    refine AWP.ret ?_
    exact Ends.mk (ps := [_]) (.inr rfl) ⟨rfl, trivial⟩ rfl (StLe.mk' (st' := ⟨[], []⟩) trivial rfl) (keeps_nil hC) (q := (.t (.leaf (.bool (decide (s = ⟨#[98, 111, 111, 108]⟩)))) : PV)) (by (repeat' (first | exact PV.Le.refl _ | exact LeL.nil | exact PV.Le.nil _ | exact PV.Le.acc _ _ _ | apply LeL.cons | apply PV.Le.agg | apply PV.Le.tup))) rfl ⟨by simp_all [isBase], rfl⟩

set_option maxRecDepth 100000 in
set_option maxHeartbeats 4000000 in
theorem isBase_spec (s : ByteArray) : AFun Tryz.prog 138 [.t (.leaf (.string (s)))] (.t (.leaf (.bool (isBase s)))) := by
  refine ACalls.intro Tryz.func138 rfl (by first | decide | (simp; done) | (simp; decide)) ?_
  intro C hC
  refine AWP.seq ?_
  refine AWP.region_lit ?_
  refine AL.cons rfl (AOp.move (.inr rfl) rfl rfl) ?_
  refine AL.nil ?_
  refine AWP.seq ?_
  refine AWP.region_lit ?_
  refine AL.cons rfl (AOp.move (.inl rfl) rfl rfl) ?_
  refine AL.cons rfl (AOp.eqlS rfl rfl rfl rfl) ?_
  refine AL.cons rfl (AOp.move (.inl rfl) rfl rfl) ?_
  refine AL.splitB 5 rfl (fun g1 => ?_) (fun g1 => ?_)
  · skip
    have g1b := g1
    try simp only [Bool.and_eq_true, Bool.or_eq_true, Bool.and_eq_false_iff, Bool.or_eq_false_iff, decide_eq_true_eq, decide_eq_false_iff_not, Bool.not_eq_true', Bool.not_eq_false', Bool.not_eq_eq_eq_not, Bool.not_true, Bool.not_false, ge_iff_le, gt_iff_lt, Int.not_lt, Int.not_le] at g1b
    refine AL.skip_v rfl rfl rfl g1 rfl ?_
    refine AL.skip_v rfl rfl rfl g1 rfl ?_
    refine AL.cons rfl (AOp.pickT rfl rfl rfl g1 rfl) ?_
    refine AL.cons rfl (AOp.move (.inr rfl) rfl rfl) ?_
    refine AL.nil ?_
    refine AWP.ret ?_
    exact Ends.mk (ps := [_]) (.inr rfl) ⟨rfl, trivial⟩ rfl (StLe.mk' (st' := ⟨[], []⟩) trivial rfl) (keeps_nil hC) (q := (.t (.leaf (.bool (true))) : PV)) (by (repeat' (first | exact PV.Le.refl _ | exact LeL.nil | exact PV.Le.nil _ | exact PV.Le.acc _ _ _ | apply LeL.cons | apply PV.Le.agg | apply PV.Le.tup))) rfl ⟨by simp_all [isBase], rfl⟩
  · skip
    have g1b := g1
    try simp only [Bool.and_eq_true, Bool.or_eq_true, Bool.and_eq_false_iff, Bool.or_eq_false_iff, decide_eq_true_eq, decide_eq_false_iff_not, Bool.not_eq_true', Bool.not_eq_false', Bool.not_eq_eq_eq_not, Bool.not_true, Bool.not_false, ge_iff_le, gt_iff_lt, Int.not_lt, Int.not_le] at g1b
    refine AL.cons_gv rfl rfl rfl g1 (AOp.move (.inl rfl) rfl rfl) ?_
    refine AL.cons_gv rfl rfl rfl g1 (AOp.eqlS rfl rfl rfl rfl) ?_
    refine AL.cons rfl (AOp.pickF rfl rfl rfl g1 rfl) ?_
    refine AL.cons rfl (AOp.move (.inr rfl) rfl rfl) ?_
    refine AL.nil ?_
    refine AWP.ret ?_
    exact Ends.mk (ps := [_]) (.inr rfl) ⟨rfl, trivial⟩ rfl (StLe.mk' (st' := ⟨[], []⟩) trivial rfl) (keeps_nil hC) (q := (.t (.leaf (.bool (decide (s = ⟨#[98, 111, 111, 108]⟩)))) : PV)) (by (repeat' (first | exact PV.Le.refl _ | exact LeL.nil | exact PV.Le.nil _ | exact PV.Le.acc _ _ _ | apply LeL.cons | apply PV.Le.agg | apply PV.Le.tup))) rfl ⟨by simp_all [isBase], rfl⟩

def GProgram.home (w : GProgram) (t : GType) : Int := if t.gKind = 2 ∧ isBase t.gName = false then (match w.dataAt t.gName with | some (_, i) => (i : Int) | none => -1) else -1
set_option maxRecDepth 100000 in
set_option maxHeartbeats 4000000 in
theorem home_impl (w : GProgram) (t : GType) : AFun Tryz.prog 83 [(GProgram.pv w), (GType.pv t)] (.t (.leaf (.int .i64 (GProgram.home w t)))) := by
  refine ACalls.intro Tryz.func83 rfl (by first | decide | (simp; done) | (simp; decide)) ?_
  intro C hC
  refine AWP.seq ?_
  refine AWP.region_lit ?_
  refine AL.cons rfl (AOp.box (cs := [.t (.row 6 (GPackage.trs (w.gPackages)))]) rfl rfl rfl rfl rfl) ?_
  refine AL.cons rfl (AOp.box (cs := [.t (.leaf (.int .i64 (t.gKind))), .t (.leaf (.string (t.gName))), .t (.row 3 (GType.trs (t.gArgs)))]) rfl rfl rfl rfl rfl) ?_
  refine AL.cons rfl (AOp.move (.inr rfl) rfl rfl) ?_
  refine AL.nil ?_
  refine AWP.seq ?_
  refine AWP.seq ?_
  refine AWP.region_lit ?_
  refine AL.cons rfl (AOp.fieldPtr (k := 1) (d := 0) (e := 0) rfl rfl rfl fo47_0) ?_
  refine AL.cons rfl (AOp.loadPtr1 rfl rfl rfl rfl sh3 rfl) ?_
  refine AL.cons rfl (AOp.neqI rfl rfl rfl rfl) ?_
  refine AL.cons rfl (AOp.move (.inl rfl) rfl rfl) ?_
  refine AL.splitB 11 rfl (fun g1 => ?_) (fun g1 => ?_)
  · skip
    have g1b := g1
    try simp only [Bool.and_eq_true, Bool.or_eq_true, Bool.and_eq_false_iff, Bool.or_eq_false_iff, decide_eq_true_eq, decide_eq_false_iff_not, Bool.not_eq_true', Bool.not_eq_false', Bool.not_eq_eq_eq_not, Bool.not_true, Bool.not_false, ge_iff_le, gt_iff_lt, Int.not_lt, Int.not_le] at g1b
    refine AL.skip_v rfl rfl rfl g1 rfl ?_
    refine AL.skip_v rfl rfl rfl g1 rfl ?_
    refine AL.skip_v rfl rfl rfl g1 rfl ?_
    refine AL.cons rfl (AOp.pickT rfl rfl rfl g1 rfl) ?_
    refine AL.nil ?_
    refine AWP.cond rfl (fun h2 => ?_) (fun h2 => ?_)
    · skip
      have h2b := h2
      try simp only [Bool.and_eq_true, Bool.or_eq_true, Bool.and_eq_false_iff, Bool.or_eq_false_iff, decide_eq_true_eq, decide_eq_false_iff_not, Bool.not_eq_true', Bool.not_eq_false', Bool.not_eq_eq_eq_not, Bool.not_true, Bool.not_false, ge_iff_le, gt_iff_lt, Int.not_lt, Int.not_le] at h2b
      refine AWP.seq ?_
      refine AWP.region_lit ?_
      refine AL.cons rfl (AOp.move (.inr rfl) rfl rfl) ?_
      refine AL.nil ?_
      refine AWP.ret ?_
      exact Ends.mk (ps := [_]) (.inr rfl) ⟨rfl, trivial⟩ rfl (StLe.mk' (st' := ⟨[], []⟩) trivial rfl) (keeps_nil hC) (q := (.t (.leaf (.int .i64 (-1))) : PV)) (by (repeat' (first | exact PV.Le.refl _ | exact LeL.nil | exact PV.Le.nil _ | exact PV.Le.acc _ _ _ | apply LeL.cons | apply PV.Le.agg | apply PV.Le.tup))) rfl ⟨by (cases hq : w.dataAt t.gName <;> simp_all [GProgram.home, oInt]), rfl⟩
    · skip
      exact absurd (h2.symm.trans rfl) (by decide)
  · skip
    have g1b := g1
    try simp only [Bool.and_eq_true, Bool.or_eq_true, Bool.and_eq_false_iff, Bool.or_eq_false_iff, decide_eq_true_eq, decide_eq_false_iff_not, Bool.not_eq_true', Bool.not_eq_false', Bool.not_eq_eq_eq_not, Bool.not_true, Bool.not_false, ge_iff_le, gt_iff_lt, Int.not_lt, Int.not_le] at g1b
    refine AL.cons_gv rfl rfl rfl g1 (AOp.fieldPtr (k := 1) (d := 0) (e := 1) rfl rfl rfl fo47_1) ?_
    refine AL.cons_gv rfl rfl rfl g1 (AOp.loadPtr1 rfl rfl rfl rfl sh9 rfl) ?_
    refine AL.cons_gv rfl rfl rfl g1 (AOp.callF (ps := [_]) rfl rfl Tryz.func141 (by kernel_rfl) rfl rfl (by (repeat' (first | exact PV.Le.refl _ | exact LeL.nil | exact PV.Le.nil _ | exact PV.Le.acc _ _ _ | apply LeL.cons | apply PV.Le.agg | apply PV.Le.tup))) rfl rfl (isBase_impl t.gName)) ?_
    refine AL.cons rfl (AOp.pickF rfl rfl rfl g1 rfl) ?_
    refine AL.nil ?_
    refine AWP.cond rfl (fun h3 => ?_) (fun h3 => ?_)
    · skip
      have h3b := h3
      try simp only [Bool.and_eq_true, Bool.or_eq_true, Bool.and_eq_false_iff, Bool.or_eq_false_iff, decide_eq_true_eq, decide_eq_false_iff_not, Bool.not_eq_true', Bool.not_eq_false', Bool.not_eq_eq_eq_not, Bool.not_true, Bool.not_false, ge_iff_le, gt_iff_lt, Int.not_lt, Int.not_le] at h3b
      refine AWP.seq ?_
      refine AWP.region_lit ?_
      refine AL.cons rfl (AOp.move (.inr rfl) rfl rfl) ?_
      refine AL.nil ?_
      refine AWP.ret ?_
      exact Ends.mk (ps := [_]) (.inr rfl) ⟨rfl, trivial⟩ rfl (StLe.mk' (st' := ⟨[], []⟩) trivial rfl) (keeps_nil hC) (q := (.t (.leaf (.int .i64 (-1))) : PV)) (by (repeat' (first | exact PV.Le.refl _ | exact LeL.nil | exact PV.Le.nil _ | exact PV.Le.acc _ _ _ | apply LeL.cons | apply PV.Le.agg | apply PV.Le.tup))) rfl ⟨by (cases hq : w.dataAt t.gName <;> simp_all [GProgram.home, oInt]), rfl⟩
    · skip
      have h3b := h3
      try simp only [Bool.and_eq_true, Bool.or_eq_true, Bool.and_eq_false_iff, Bool.or_eq_false_iff, decide_eq_true_eq, decide_eq_false_iff_not, Bool.not_eq_true', Bool.not_eq_false', Bool.not_eq_eq_eq_not, Bool.not_true, Bool.not_false, ge_iff_le, gt_iff_lt, Int.not_lt, Int.not_le] at h3b
      refine AWP.skip ?_
      refine AWP.seq ?_
      refine AWP.region_lit ?_
      refine AL.cons rfl (AOp.loadPtr (cs := [.t (.row 6 (GPackage.trs (w.gPackages)))]) rfl rfl rfl rfl sh31 rfl rfl) ?_
      refine AL.cons rfl (AOp.fieldPtr (k := 1) (d := 0) (e := 1) rfl rfl rfl fo47_1) ?_
      refine AL.cons rfl (AOp.loadPtr1 rfl rfl rfl rfl sh9 rfl) ?_
      refine AL.cons rfl (AOp.callF (ps := [_, _]) rfl rfl Tryz.func142 (by kernel_rfl) rfl rfl (by (repeat' (first | exact PV.Le.refl _ | exact LeL.nil | exact PV.Le.nil _ | exact PV.Le.acc _ _ _ | apply LeL.cons | apply PV.Le.agg | apply PV.Le.tup))) rfl rfl (data_impl w t.gName)) ?_
      refine AL.cons rfl (AOp.move (.inl rfl) rfl rfl) ?_
      refine AL.cons rfl (AOp.extract rfl rfl rfl rfl) ?_
      refine AL.cons rfl (AOp.extract rfl rfl rfl rfl) ?_
      refine AL.cons rfl (AOp.extract rfl rfl rfl rfl) ?_
      refine AL.cons rfl (AOp.alloc rfl rfl zr171) ?_
      refine AL.cons rfl (AOp.storePtr (cs := [.t (.leaf (.string ((oDataType (w.dataAt t.gName)).gName))), .t (.row 1 (strTrs ((oDataType (w.dataAt t.gName)).gVars))), .t (.row 2 (GConstructor.trs ((oDataType (w.dataAt t.gName)).gConstructors)))]) (ds := [.t (.leaf (.string ((oDataType (w.dataAt t.gName)).gName))), .t (.row 1 (strTrs ((oDataType (w.dataAt t.gName)).gVars))), .t (.row 2 (GConstructor.trs ((oDataType (w.dataAt t.gName)).gConstructors)))]) rfl rfl rfl rfl rfl rfl rfl sz171 (Nat.le_of_ble_eq_true rfl) rfl) ?_
      refine AL.cons rfl (AOp.move (.inr rfl) rfl rfl) ?_
      refine AL.cons rfl (AOp.move (.inr rfl) rfl rfl) ?_
      refine AL.nil ?_
      refine AWP.seq ?_
      refine AWP.seq ?_
      refine AWP.region_lit ?_
      refine AL.cons rfl (AOp.move (.inl rfl) rfl rfl) ?_
      refine AL.cons rfl (AOp.notB rfl rfl rfl) ?_
      refine AL.nil ?_
      refine AWP.cond rfl (fun h4 => ?_) (fun h4 => ?_)
      · skip
        have h4b := h4
        try simp only [Bool.and_eq_true, Bool.or_eq_true, Bool.and_eq_false_iff, Bool.or_eq_false_iff, decide_eq_true_eq, decide_eq_false_iff_not, Bool.not_eq_true', Bool.not_eq_false', Bool.not_eq_eq_eq_not, Bool.not_true, Bool.not_false, ge_iff_le, gt_iff_lt, Int.not_lt, Int.not_le] at h4b
        refine AWP.seq ?_
        refine AWP.region_lit ?_
        refine AL.cons rfl (AOp.move (.inr rfl) rfl rfl) ?_
        refine AL.nil ?_
        refine AWP.ret ?_
        exact Ends.mk (ps := [_]) (.inr rfl) ⟨rfl, trivial⟩ rfl (StLe.mk' (st' := ⟨[], []⟩) trivial rfl) (keeps_nil hC) (q := (.t (.leaf (.int .i64 (-1))) : PV)) (by (repeat' (first | exact PV.Le.refl _ | exact LeL.nil | exact PV.Le.nil _ | exact PV.Le.acc _ _ _ | apply LeL.cons | apply PV.Le.agg | apply PV.Le.tup))) rfl ⟨by (cases hq : w.dataAt t.gName <;> simp_all [GProgram.home, oInt]), rfl⟩
      · skip
        have h4b := h4
        try simp only [Bool.and_eq_true, Bool.or_eq_true, Bool.and_eq_false_iff, Bool.or_eq_false_iff, decide_eq_true_eq, decide_eq_false_iff_not, Bool.not_eq_true', Bool.not_eq_false', Bool.not_eq_eq_eq_not, Bool.not_true, Bool.not_false, ge_iff_le, gt_iff_lt, Int.not_lt, Int.not_le] at h4b
        refine AWP.skip ?_
        refine AWP.seq ?_
        refine AWP.region_lit ?_
        refine AL.cons rfl (AOp.move (.inl rfl) rfl rfl) ?_
        refine AL.cons rfl (AOp.move (.inr rfl) rfl rfl) ?_
        refine AL.nil ?_
        refine AWP.ret ?_
        exact Ends.mk (ps := [_]) (.inr rfl) ⟨rfl, trivial⟩ rfl (StLe.mk' (st' := ⟨[], []⟩) trivial rfl) (keeps_nil hC) (q := (.t (.leaf (.int .i64 (oInt (w.dataAt t.gName)))) : PV)) (by (repeat' (first | exact PV.Le.refl _ | exact LeL.nil | exact PV.Le.nil _ | exact PV.Le.acc _ _ _ | apply LeL.cons | apply PV.Le.agg | apply PV.Le.tup))) rfl ⟨by (cases hq : w.dataAt t.gName <;> simp_all [GProgram.home, oInt]), rfl⟩

set_option maxRecDepth 100000 in
set_option maxHeartbeats 4000000 in
theorem home_spec (w : GProgram) (t : GType) : AFun Tryz.prog 79 [(GProgram.pv w), (GType.pv t)] (.t (.leaf (.int .i64 (GProgram.home w t)))) := by
  refine ACalls.intro Tryz.func79 rfl (by first | decide | (simp; done) | (simp; decide)) ?_
  intro C hC
  refine AWP.seq ?_
  refine AWP.region_lit ?_
  refine AL.cons rfl (AOp.box (cs := [.t (.row 6 (GPackage.trs (w.gPackages)))]) rfl rfl rfl rfl rfl) ?_
  refine AL.cons rfl (AOp.box (cs := [.t (.leaf (.int .i64 (t.gKind))), .t (.leaf (.string (t.gName))), .t (.row 3 (GType.trs (t.gArgs)))]) rfl rfl rfl rfl rfl) ?_
  refine AL.cons rfl (AOp.move (.inr rfl) rfl rfl) ?_
  refine AL.nil ?_
  refine AWP.seq ?_
  refine AWP.seq ?_
  refine AWP.region_lit ?_
  refine AL.cons rfl (AOp.fieldPtr (k := 1) (d := 0) (e := 0) rfl rfl rfl fo47_0) ?_
  refine AL.cons rfl (AOp.loadPtr1 rfl rfl rfl rfl sh3 rfl) ?_
  refine AL.cons rfl (AOp.neqI rfl rfl rfl rfl) ?_
  refine AL.cons rfl (AOp.move (.inl rfl) rfl rfl) ?_
  refine AL.splitB 11 rfl (fun g1 => ?_) (fun g1 => ?_)
  · skip
    have g1b := g1
    try simp only [Bool.and_eq_true, Bool.or_eq_true, Bool.and_eq_false_iff, Bool.or_eq_false_iff, decide_eq_true_eq, decide_eq_false_iff_not, Bool.not_eq_true', Bool.not_eq_false', Bool.not_eq_eq_eq_not, Bool.not_true, Bool.not_false, ge_iff_le, gt_iff_lt, Int.not_lt, Int.not_le] at g1b
    refine AL.skip_v rfl rfl rfl g1 rfl ?_
    refine AL.skip_v rfl rfl rfl g1 rfl ?_
    refine AL.skip_v rfl rfl rfl g1 rfl ?_
    refine AL.cons rfl (AOp.pickT rfl rfl rfl g1 rfl) ?_
    refine AL.nil ?_
    refine AWP.cond rfl (fun h2 => ?_) (fun h2 => ?_)
    · skip
      have h2b := h2
      try simp only [Bool.and_eq_true, Bool.or_eq_true, Bool.and_eq_false_iff, Bool.or_eq_false_iff, decide_eq_true_eq, decide_eq_false_iff_not, Bool.not_eq_true', Bool.not_eq_false', Bool.not_eq_eq_eq_not, Bool.not_true, Bool.not_false, ge_iff_le, gt_iff_lt, Int.not_lt, Int.not_le] at h2b
      refine AWP.seq ?_
      refine AWP.region_lit ?_
      refine AL.cons rfl (AOp.move (.inr rfl) rfl rfl) ?_
      refine AL.nil ?_
      refine AWP.ret ?_
      exact Ends.mk (ps := [_]) (.inr rfl) ⟨rfl, trivial⟩ rfl (StLe.mk' (st' := ⟨[], []⟩) trivial rfl) (keeps_nil hC) (q := (.t (.leaf (.int .i64 (-1))) : PV)) (by (repeat' (first | exact PV.Le.refl _ | exact LeL.nil | exact PV.Le.nil _ | exact PV.Le.acc _ _ _ | apply LeL.cons | apply PV.Le.agg | apply PV.Le.tup))) rfl ⟨by (cases hq : w.dataAt t.gName <;> simp_all [GProgram.home, oInt]), rfl⟩
    · skip
      exact absurd (h2.symm.trans rfl) (by decide)
  · skip
    have g1b := g1
    try simp only [Bool.and_eq_true, Bool.or_eq_true, Bool.and_eq_false_iff, Bool.or_eq_false_iff, decide_eq_true_eq, decide_eq_false_iff_not, Bool.not_eq_true', Bool.not_eq_false', Bool.not_eq_eq_eq_not, Bool.not_true, Bool.not_false, ge_iff_le, gt_iff_lt, Int.not_lt, Int.not_le] at g1b
    refine AL.cons_gv rfl rfl rfl g1 (AOp.fieldPtr (k := 1) (d := 0) (e := 1) rfl rfl rfl fo47_1) ?_
    refine AL.cons_gv rfl rfl rfl g1 (AOp.loadPtr1 rfl rfl rfl rfl sh9 rfl) ?_
    refine AL.cons_gv rfl rfl rfl g1 (AOp.callF (ps := [_]) rfl rfl Tryz.func138 (by kernel_rfl) rfl rfl (by (repeat' (first | exact PV.Le.refl _ | exact LeL.nil | exact PV.Le.nil _ | exact PV.Le.acc _ _ _ | apply LeL.cons | apply PV.Le.agg | apply PV.Le.tup))) rfl rfl (isBase_spec t.gName)) ?_
    refine AL.cons rfl (AOp.pickF rfl rfl rfl g1 rfl) ?_
    refine AL.nil ?_
    refine AWP.cond rfl (fun h3 => ?_) (fun h3 => ?_)
    · skip
      have h3b := h3
      try simp only [Bool.and_eq_true, Bool.or_eq_true, Bool.and_eq_false_iff, Bool.or_eq_false_iff, decide_eq_true_eq, decide_eq_false_iff_not, Bool.not_eq_true', Bool.not_eq_false', Bool.not_eq_eq_eq_not, Bool.not_true, Bool.not_false, ge_iff_le, gt_iff_lt, Int.not_lt, Int.not_le] at h3b
      refine AWP.seq ?_
      refine AWP.region_lit ?_
      refine AL.cons rfl (AOp.move (.inr rfl) rfl rfl) ?_
      refine AL.nil ?_
      refine AWP.ret ?_
      exact Ends.mk (ps := [_]) (.inr rfl) ⟨rfl, trivial⟩ rfl (StLe.mk' (st' := ⟨[], []⟩) trivial rfl) (keeps_nil hC) (q := (.t (.leaf (.int .i64 (-1))) : PV)) (by (repeat' (first | exact PV.Le.refl _ | exact LeL.nil | exact PV.Le.nil _ | exact PV.Le.acc _ _ _ | apply LeL.cons | apply PV.Le.agg | apply PV.Le.tup))) rfl ⟨by (cases hq : w.dataAt t.gName <;> simp_all [GProgram.home, oInt]), rfl⟩
    · skip
      have h3b := h3
      try simp only [Bool.and_eq_true, Bool.or_eq_true, Bool.and_eq_false_iff, Bool.or_eq_false_iff, decide_eq_true_eq, decide_eq_false_iff_not, Bool.not_eq_true', Bool.not_eq_false', Bool.not_eq_eq_eq_not, Bool.not_true, Bool.not_false, ge_iff_le, gt_iff_lt, Int.not_lt, Int.not_le] at h3b
      refine AWP.skip ?_
      refine AWP.seq ?_
      refine AWP.region_lit ?_
      refine AL.cons rfl (AOp.loadPtr (cs := [.t (.row 6 (GPackage.trs (w.gPackages)))]) rfl rfl rfl rfl sh31 rfl rfl) ?_
      refine AL.cons rfl (AOp.fieldPtr (k := 1) (d := 0) (e := 1) rfl rfl rfl fo47_1) ?_
      refine AL.cons rfl (AOp.loadPtr1 rfl rfl rfl rfl sh9 rfl) ?_
      refine AL.cons rfl (AOp.callF (ps := [_, _]) rfl rfl Tryz.func139 (by kernel_rfl) rfl rfl (by (repeat' (first | exact PV.Le.refl _ | exact LeL.nil | exact PV.Le.nil _ | exact PV.Le.acc _ _ _ | apply LeL.cons | apply PV.Le.agg | apply PV.Le.tup))) rfl rfl (data_spec w t.gName)) ?_
      refine AL.cons rfl (AOp.move (.inl rfl) rfl rfl) ?_
      refine AL.cons rfl (AOp.extract rfl rfl rfl rfl) ?_
      refine AL.cons rfl (AOp.extract rfl rfl rfl rfl) ?_
      refine AL.cons rfl (AOp.extract rfl rfl rfl rfl) ?_
      refine AL.cons rfl (AOp.alloc rfl rfl zr171) ?_
      refine AL.cons rfl (AOp.storePtr (cs := [.t (.leaf (.string ((oDataType (w.dataAt t.gName)).gName))), .t (.row 1 (strTrs ((oDataType (w.dataAt t.gName)).gVars))), .t (.row 2 (GConstructor.trs ((oDataType (w.dataAt t.gName)).gConstructors)))]) (ds := [.t (.leaf (.string ((oDataType (w.dataAt t.gName)).gName))), .t (.row 1 (strTrs ((oDataType (w.dataAt t.gName)).gVars))), .t (.row 2 (GConstructor.trs ((oDataType (w.dataAt t.gName)).gConstructors)))]) rfl rfl rfl rfl rfl rfl rfl sz171 (Nat.le_of_ble_eq_true rfl) rfl) ?_
      refine AL.cons rfl (AOp.move (.inr rfl) rfl rfl) ?_
      refine AL.cons rfl (AOp.move (.inr rfl) rfl rfl) ?_
      refine AL.nil ?_
      refine AWP.seq ?_
      refine AWP.seq ?_
      refine AWP.region_lit ?_
      refine AL.cons rfl (AOp.move (.inl rfl) rfl rfl) ?_
      refine AL.cons rfl (AOp.notB rfl rfl rfl) ?_
      refine AL.nil ?_
      refine AWP.cond rfl (fun h4 => ?_) (fun h4 => ?_)
      · skip
        have h4b := h4
        try simp only [Bool.and_eq_true, Bool.or_eq_true, Bool.and_eq_false_iff, Bool.or_eq_false_iff, decide_eq_true_eq, decide_eq_false_iff_not, Bool.not_eq_true', Bool.not_eq_false', Bool.not_eq_eq_eq_not, Bool.not_true, Bool.not_false, ge_iff_le, gt_iff_lt, Int.not_lt, Int.not_le] at h4b
        refine AWP.seq ?_
        refine AWP.region_lit ?_
        refine AL.cons rfl (AOp.move (.inr rfl) rfl rfl) ?_
        refine AL.nil ?_
        refine AWP.ret ?_
        exact Ends.mk (ps := [_]) (.inr rfl) ⟨rfl, trivial⟩ rfl (StLe.mk' (st' := ⟨[], []⟩) trivial rfl) (keeps_nil hC) (q := (.t (.leaf (.int .i64 (-1))) : PV)) (by (repeat' (first | exact PV.Le.refl _ | exact LeL.nil | exact PV.Le.nil _ | exact PV.Le.acc _ _ _ | apply LeL.cons | apply PV.Le.agg | apply PV.Le.tup))) rfl ⟨by (cases hq : w.dataAt t.gName <;> simp_all [GProgram.home, oInt]), rfl⟩
      · skip
        have h4b := h4
        try simp only [Bool.and_eq_true, Bool.or_eq_true, Bool.and_eq_false_iff, Bool.or_eq_false_iff, decide_eq_true_eq, decide_eq_false_iff_not, Bool.not_eq_true', Bool.not_eq_false', Bool.not_eq_eq_eq_not, Bool.not_true, Bool.not_false, ge_iff_le, gt_iff_lt, Int.not_lt, Int.not_le] at h4b
        refine AWP.skip ?_
        refine AWP.seq ?_
        refine AWP.region_lit ?_
        refine AL.cons rfl (AOp.move (.inl rfl) rfl rfl) ?_
        refine AL.cons rfl (AOp.move (.inr rfl) rfl rfl) ?_
        refine AL.nil ?_
        refine AWP.ret ?_
        exact Ends.mk (ps := [_]) (.inr rfl) ⟨rfl, trivial⟩ rfl (StLe.mk' (st' := ⟨[], []⟩) trivial rfl) (keeps_nil hC) (q := (.t (.leaf (.int .i64 (oInt (w.dataAt t.gName)))) : PV)) (by (repeat' (first | exact PV.Le.refl _ | exact LeL.nil | exact PV.Le.nil _ | exact PV.Le.acc _ _ _ | apply LeL.cons | apply PV.Le.agg | apply PV.Le.tup))) rfl ⟨by (cases hq : w.dataAt t.gName <;> simp_all [GProgram.home, oInt]), rfl⟩

end Go.Proofs.YtnakkelglbcecaaGreat

namespace Go.Proofs.YtnakkelglbcecaaGreat
open Go.RowKit Go.Proofs
set_option linter.unusedSimpArgs false
set_option linter.unusedVariables false


def GProgram.instAt (w : GProgram) (o : GInstanceRef) : Option GInstance := if 0 ≤ o.gPackage ∧ 0 ≤ o.gAt then (w.gPackages[o.gPackage.toNat]?).bind (fun p => p.gInstances[o.gAt.toNat]?) else none
def GInstance.zero : GInstance := (.mk ⟨#[]⟩ [] (.mk 0 ⟨#[]⟩ []) [] false false (.mk 0 ⟨#[]⟩ []) [])
def oInst (o : Option GInstance) : GInstance := match o with | some x => x | none => GInstance.zero
abbrev optInst (o : Option GInstance) : PV := .tup [GInstance.pv (oInst o), .t (.leaf (.bool o.isSome))]
theorem optInst_some {o : Option GInstance} {x : GInstance} (h : o = some x) : PV.tup [GInstance.pv x, .t (.leaf (.bool true))] = optInst o := by rw [h]; rfl
theorem optInst_none {o : Option GInstance} (h : o = none) : PV.tup [GInstance.pv GInstance.zero, .t (.leaf (.bool false))] = optInst o := by rw [h]; rfl
theorem instAt_hit {w : GProgram} {o : GInstanceRef} (h0 : 0 ≤ o.gPackage) (h1 : 0 ≤ o.gAt) (hp : o.gPackage.toNat < w.gPackages.length) (hi : o.gAt.toNat < (w.gPackages[o.gPackage.toNat]).gInstances.length) : w.instAt o = some ((w.gPackages[o.gPackage.toNat]).gInstances[o.gAt.toNat]) := by
  simp [GProgram.instAt, h0, h1, List.getElem?_eq_getElem hp, List.getElem?_eq_getElem hi]
theorem instAt_m1 {w : GProgram} {o : GInstanceRef} (h : o.gPackage < 0 ∨ (w.gPackages.length : Int) ≤ o.gPackage) : w.instAt o = none := by
  unfold GProgram.instAt
  split
  · rw [List.getElem?_eq_none (by omega)]; rfl
  · rfl
theorem instAt_m2 {w : GProgram} {o : GInstanceRef} (hp : o.gPackage.toNat < w.gPackages.length) (h : o.gAt < 0 ∨ ((w.gPackages[o.gPackage.toNat]).gInstances.length : Int) ≤ o.gAt) : w.instAt o = none := by
  unfold GProgram.instAt
  split
  · rw [List.getElem?_eq_getElem hp, Option.bind_some, List.getElem?_eq_none (by omega)]
  · rfl

set_option maxRecDepth 100000 in
set_option maxHeartbeats 4000000 in
theorem in_ok (x : Int) (lo : Int) (hi : Int) : AFun Tryz.prog 137 [.t (.leaf (.int .i64 (x))), .t (.leaf (.int .i64 (lo))), .t (.leaf (.int .i64 (hi)))] (.t (.leaf (.bool (decide ((x : Int) ≥ lo) && decide ((x : Int) ≤ hi))))) := by
  refine ACalls.intro Tryz.func137 rfl (by first | decide | (simp; done) | (simp; decide)) ?_
  intro C hC
  refine AWP.seq ?_
  refine AWP.region_lit ?_
  refine AL.cons rfl (AOp.move (.inr rfl) rfl rfl) ?_
  refine AL.nil ?_
  refine AWP.seq ?_
  refine AWP.region_lit ?_
  refine AL.cons rfl (AOp.move (.inl rfl) rfl rfl) ?_
  refine AL.cons rfl (AOp.move (.inl rfl) rfl rfl) ?_
  refine AL.cons rfl (AOp.geq rfl rfl rfl rfl) ?_
  refine AL.cons rfl (AOp.move (.inl rfl) rfl rfl) ?_
  refine AL.splitB 10 rfl (fun g1 => ?_) (fun g1 => ?_)
  · skip
    have g1b := g1
    try simp only [Bool.and_eq_true, Bool.or_eq_true, Bool.and_eq_false_iff, Bool.or_eq_false_iff, decide_eq_true_eq, decide_eq_false_iff_not, Bool.not_eq_true', Bool.not_eq_false', Bool.not_eq_eq_eq_not, Bool.not_true, Bool.not_false, ge_iff_le, gt_iff_lt, Int.not_lt, Int.not_le] at g1b
    refine AL.cons_gv rfl rfl rfl g1 (AOp.move (.inl rfl) rfl rfl) ?_
    refine AL.cons_gv rfl rfl rfl g1 (AOp.move (.inl rfl) rfl rfl) ?_
    refine AL.cons_gv rfl rfl rfl g1 (AOp.leq rfl rfl rfl rfl) ?_
    refine AL.cons rfl (AOp.pickT rfl rfl rfl g1 rfl) ?_
    refine AL.cons rfl (AOp.move (.inr rfl) rfl rfl) ?_
    refine AL.nil ?_
    refine AWP.ret ?_
    exact Ends.mk (ps := [_]) (.inr rfl) ⟨rfl, trivial⟩ rfl (StLe.mk' (st' := ⟨[], []⟩) trivial rfl) (keeps_nil hC) (q := (.t (.leaf (.bool (decide ((x : Int) ≤ hi)))) : PV)) leA rfl ⟨by first | (simp_all; done) | (simp_all; omega), rfl⟩
  · skip
    have g1b := g1
    try simp only [Bool.and_eq_true, Bool.or_eq_true, Bool.and_eq_false_iff, Bool.or_eq_false_iff, decide_eq_true_eq, decide_eq_false_iff_not, Bool.not_eq_true', Bool.not_eq_false', Bool.not_eq_eq_eq_not, Bool.not_true, Bool.not_false, ge_iff_le, gt_iff_lt, Int.not_lt, Int.not_le] at g1b
    refine AL.skip_v rfl rfl rfl g1 rfl ?_
    refine AL.skip_v rfl rfl rfl g1 rfl ?_
    refine AL.skip_v rfl rfl rfl g1 rfl ?_
    refine AL.cons rfl (AOp.pickF rfl rfl rfl g1 rfl) ?_
    refine AL.cons rfl (AOp.move (.inr rfl) rfl rfl) ?_
    refine AL.nil ?_
    refine AWP.ret ?_
    exact Ends.mk (ps := [_]) (.inr rfl) ⟨rfl, trivial⟩ rfl (StLe.mk' (st' := ⟨[], []⟩) trivial rfl) (keeps_nil hC) (q := (.t (.leaf (.bool (false))) : PV)) leA rfl ⟨by first | (simp_all; done) | (simp_all; omega), rfl⟩

set_option maxRecDepth 100000 in
set_option maxHeartbeats 4000000 in
theorem inst_impl (w : GProgram) (o : GInstanceRef) : AFun Tryz.prog 81 [(GProgram.pv w), (GInstanceRef.pv o)] (.tup [(GInstance.pv (oInst (GProgram.instAt w o))), .t (.leaf (.bool ((GProgram.instAt w o).isSome)))]) := by
  refine ACalls.intro Tryz.func81 rfl (by first | decide | (simp; done) | (simp; decide)) ?_
  intro C hC
  refine AWP.seq ?_
  refine AWP.region_lit ?_
  refine AL.cons rfl (AOp.box (cs := [.t (.row 6 (GPackage.trs (w.gPackages)))]) rfl rfl rfl rfl rfl) ?_
  refine AL.cons rfl (AOp.box (cs := [.t (.leaf (.int .i64 (o.gPackage))), .t (.leaf (.int .i64 (o.gAt)))]) rfl rfl rfl rfl rfl) ?_
  refine AL.cons rfl (AOp.alloc rfl rfl zr113) ?_
  refine AL.cons rfl (AOp.move (.inr rfl) rfl rfl) ?_
  refine AL.nil ?_
  refine AWP.seq ?_
  refine AWP.seq ?_
  rcases bool2 (decide ((o.gPackage : Int) < 0)) with g1 | g1
  · skip
    have g1b := g1
    try simp only [Bool.and_eq_true, Bool.or_eq_true, Bool.and_eq_false_iff, Bool.or_eq_false_iff, decide_eq_true_eq, decide_eq_false_iff_not, Bool.not_eq_true', Bool.not_eq_false', Bool.not_eq_eq_eq_not, Bool.not_true, Bool.not_false, ge_iff_le, gt_iff_lt, Int.not_lt, Int.not_le] at g1b
    refine AWP.drawnL ⟨_, _, fun _ _ => (⟨[some ⟨31, [.t (.row 6 (GPackage.trs (w.gPackages)))]⟩, some ⟨33, [.t (.leaf (.int .i64 (o.gPackage))), .t (.leaf (.int .i64 (o.gAt)))]⟩, some ⟨113, [.t (.leaf (.string (⟨#[]⟩))), .nil, .t (.leaf (.int .i64 (0))), .t (.leaf (.string (⟨#[]⟩))), .nil, .nil, .t (.leaf (.bool (false))), .t (.leaf (.bool (false))), .t (.leaf (.int .i64 (0))), .t (.leaf (.string (⟨#[]⟩))), .nil, .nil]⟩], []⟩ : Sto), fun q' => ([some (.ptr 1 0), some (.t (.leaf (.int .i64 (o.gPackage)))), some (.t (.leaf (.bool (decide ((o.gPackage : Int) < 0))))), some (.t (.leaf (.bool (decide ((o.gPackage : Int) < 0))))), none, none, none, none, none, none, some (.t (.leaf (.bool (true)))), some (.t (.leaf (.bool (true)))), none, none, none, some (.t (.leaf (.bool (true)))), some (.t (.leaf (.bool (true)))), none, none, none, none, none, none, none, none, none, none, none, some (.t (.leaf (.bool (true))))] : List (Option PV)).getD q' none, fun q' => ([.q 0 0, .q 0 0, .q 0 0, .q 0 0, .q 0 0, .q 0 0, .q 0 0, .q 0 0, .q 0 0, .q 0 0, .q 0 0, .q 0 0, .q 0 0, .q 0 0, .q 0 0, .q 0 0, .q 0 0, .q 0 0, .q 0 0, .q 0 0, .q 0 0, .q 0 0, .q 0 0, .q 0 0, .q 0 0, .q 0 0, .q 0 0, .q 0 0, .q 0 0] : List DK).getD q' (.q 0 0), [], none, fun q' => ([[(3, none)], [(6, some 0)], [(7, some 1)], [(8, some 2)], [], [], [], [], [], [], [(9, some 3)], [(16, some 10)], [], [], [], [(17, some 11)], [(21, some 15)], [], [], [], [], [], [], [], [], [], [], [], [(22, some 16)]] : List (List (Nat × Option Nat))).getD q' []⟩ rfl mixed (by kernel_rfl) rfl rfl ⟨?_, ?_, ?_, ?_, ?_, ?_, ?_, ?_, ?_, ?_, ?_, ?_, ?_, ?_, ?_, ?_, ?_, ?_, ?_, ?_, ?_, ?_, ?_, ?_, ?_, ?_, ?_, ?_, ?_, trivial⟩ rfl ?_
    · refine .inl ⟨rfl, fun s' jj bb (h1 : 0 ≤ jj) (h2 : jj ≤ 0) hs hl => ?_⟩
      obtain rfl : jj = 0 := by omega
      exact ⟨_, rfl, AOp.fieldPtr (k := 1) (d := 0) (e := 0) rfl rfl (hl 3 none _ (.head _) rfl) fo33_0⟩
    · refine .inl ⟨rfl, fun s' jj bb (h1 : 0 ≤ jj) (h2 : jj ≤ 0) hs hl => ?_⟩
      obtain rfl : jj = 0 := by omega
      exact ⟨_, rfl, AOp.loadPtr1 rfl rfl (hl 6 (some 0) _ (.head _) rfl) (by rw [hs]; rfl) sh3 rfl⟩
    · refine .inl ⟨rfl, fun s' jj bb (h1 : 0 ≤ jj) (h2 : jj ≤ 0) hs hl => ?_⟩
      obtain rfl : jj = 0 := by omega
      exact ⟨_, rfl, AOp.lss rfl rfl (hl 7 (some 1) _ (.head _) rfl) rfl⟩
    · refine .inl ⟨rfl, fun s' jj bb (h1 : 0 ≤ jj) (h2 : jj ≤ 0) hs hl => ?_⟩
      obtain rfl : jj = 0 := by omega
      exact ⟨_, rfl, AOp.move (.inl rfl) rfl (hl 8 (some 2) _ (.head _) rfl)⟩
    · exact .inr ⟨(congrArg (fun b => some (b == false)) g1), rfl, ⟨_, _, rfl⟩, fun d hd => by cases hd; rfl⟩
    · exact .inr ⟨(congrArg (fun b => some (b == false)) g1), rfl, ⟨_, _, rfl⟩, fun d hd => by cases hd; rfl⟩
    · exact .inr ⟨(congrArg (fun b => some (b == false)) g1), rfl, ⟨_, _, rfl⟩, fun d hd => by cases hd; rfl⟩
    · exact .inr ⟨(congrArg (fun b => some (b == false)) g1), rfl, ⟨_, _, rfl⟩, fun d hd => by cases hd; rfl⟩
    · exact .inr ⟨(congrArg (fun b => some (b == false)) g1), rfl, ⟨_, _, rfl⟩, fun d hd => by cases hd; rfl⟩
    · exact .inr ⟨(congrArg (fun b => some (b == false)) g1), rfl, ⟨_, _, rfl⟩, fun d hd => by cases hd; rfl⟩
    · refine .inl ⟨rfl, fun s' jj bb (h1 : 0 ≤ jj) (h2 : jj ≤ 0) hs hl => ?_⟩
      obtain rfl : jj = 0 := by omega
      exact ⟨_, rfl, AOp.pickT rfl rfl (hl 9 (some 3) _ (.head _) rfl) g1 rfl⟩
    · refine .inl ⟨rfl, fun s' jj bb (h1 : 0 ≤ jj) (h2 : jj ≤ 0) hs hl => ?_⟩
      obtain rfl : jj = 0 := by omega
      exact ⟨_, rfl, AOp.move (.inl rfl) rfl (hl 16 (some 10) _ (.head _) rfl)⟩
    · exact .inr ⟨(congrArg (fun b => some (b == false)) (rfl : true = _)), rfl, ⟨_, _, rfl⟩, fun d hd => by cases hd; rfl⟩
    · exact .inr ⟨(congrArg (fun b => some (b == false)) (rfl : true = _)), rfl, ⟨_, _, rfl⟩, fun d hd => by cases hd; rfl⟩
    · exact .inr ⟨(congrArg (fun b => some (b == false)) (rfl : true = _)), rfl, ⟨_, _, rfl⟩, fun d hd => by cases hd; rfl⟩
    · refine .inl ⟨rfl, fun s' jj bb (h1 : 0 ≤ jj) (h2 : jj ≤ 0) hs hl => ?_⟩
      obtain rfl : jj = 0 := by omega
      exact ⟨_, rfl, AOp.pickT rfl rfl (hl 17 (some 11) _ (.head _) rfl) rfl rfl⟩
    · refine .inl ⟨rfl, fun s' jj bb (h1 : 0 ≤ jj) (h2 : jj ≤ 0) hs hl => ?_⟩
      obtain rfl : jj = 0 := by omega
      exact ⟨_, rfl, AOp.move (.inl rfl) rfl (hl 21 (some 15) _ (.head _) rfl)⟩
    · exact .inr ⟨(congrArg (fun b => some (b == false)) (rfl : true = _)), rfl, ⟨_, _, rfl⟩, fun d hd => by cases hd; rfl⟩
    · exact .inr ⟨(congrArg (fun b => some (b == false)) (rfl : true = _)), rfl, ⟨_, _, rfl⟩, fun d hd => by cases hd; rfl⟩
    · exact .inr ⟨(congrArg (fun b => some (b == false)) (rfl : true = _)), rfl, ⟨_, _, rfl⟩, fun d hd => by cases hd; rfl⟩
    · exact .inr ⟨(congrArg (fun b => some (b == false)) (rfl : true = _)), rfl, ⟨_, _, rfl⟩, fun d hd => by cases hd; rfl⟩
    · exact .inr ⟨(congrArg (fun b => some (b == false)) (rfl : true = _)), rfl, ⟨_, _, rfl⟩, fun d hd => by cases hd; rfl⟩
    · exact .inr ⟨(congrArg (fun b => some (b == false)) (rfl : true = _)), rfl, ⟨_, _, rfl⟩, fun d hd => by cases hd; rfl⟩
    · exact .inr ⟨(congrArg (fun b => some (b == false)) (rfl : true = _)), rfl, ⟨_, _, rfl⟩, fun d hd => by cases hd; rfl⟩
    · exact .inr ⟨(congrArg (fun b => some (b == false)) (rfl : true = _)), rfl, ⟨_, _, rfl⟩, fun d hd => by cases hd; rfl⟩
    · exact .inr ⟨(congrArg (fun b => some (b == false)) (rfl : true = _)), rfl, ⟨_, _, rfl⟩, fun d hd => by cases hd; rfl⟩
    · exact .inr ⟨(congrArg (fun b => some (b == false)) (rfl : true = _)), rfl, ⟨_, _, rfl⟩, fun d hd => by cases hd; rfl⟩
    · exact .inr ⟨(congrArg (fun b => some (b == false)) (rfl : true = _)), rfl, ⟨_, _, rfl⟩, fun d hd => by cases hd; rfl⟩
    · refine .inl ⟨rfl, fun s' jj bb (h1 : 0 ≤ jj) (h2 : jj ≤ 0) hs hl => ?_⟩
      obtain rfl : jj = 0 := by omega
      exact ⟨_, rfl, AOp.pickT rfl rfl (hl 22 (some 16) _ (.head _) rfl) rfl rfl⟩
    refine AWP.cond rfl (fun h2 => ?_) (fun h2 => ?_)
    · skip
      have h2b := h2
      try simp only [Bool.and_eq_true, Bool.or_eq_true, Bool.and_eq_false_iff, Bool.or_eq_false_iff, decide_eq_true_eq, decide_eq_false_iff_not, Bool.not_eq_true', Bool.not_eq_false', Bool.not_eq_eq_eq_not, Bool.not_true, Bool.not_false, ge_iff_le, gt_iff_lt, Int.not_lt, Int.not_le] at h2b
      refine AWP.seq ?_
      refine AWP.region_lit ?_
      refine AL.cons rfl (AOp.build rfl rfl zr113 pl113 rfl rfl) ?_
      refine AL.cons rfl (AOp.storePtr (cs := [.t (.leaf (.string (⟨#[]⟩))), .nil, .t (.leaf (.int .i64 (0))), .t (.leaf (.string (⟨#[]⟩))), .nil, .nil, .t (.leaf (.bool (false))), .t (.leaf (.bool (false))), .t (.leaf (.int .i64 (0))), .t (.leaf (.string (⟨#[]⟩))), .nil, .nil]) (ds := [.t (.leaf (.string (⟨#[]⟩))), .nil, .t (.leaf (.int .i64 (0))), .t (.leaf (.string (⟨#[]⟩))), .nil, .nil, .t (.leaf (.bool (false))), .t (.leaf (.bool (false))), .t (.leaf (.int .i64 (0))), .t (.leaf (.string (⟨#[]⟩))), .nil, .nil]) rfl rfl rfl rfl rfl rfl rfl sz113 (Nat.le_of_ble_eq_true rfl) rfl) ?_
      refine AL.cons rfl (AOp.move (.inr rfl) rfl rfl) ?_
      refine AL.nil ?_
      refine AWP.ret ?_
      exact Ends.mk (ps := [_, _]) (.inr rfl) ⟨⟨_, _, _, rfl, rfl, sh113, rfl, rfl⟩, rfl, trivial⟩ rfl (StLe.mk' (st' := ⟨[], []⟩) trivial rfl) (keeps_nil hC) (q := PV.tup [GInstance.pv GInstance.zero, .t (.leaf (.bool (false)))]) leA rfl ⟨by exact optInst_none (by first | exact instAt_m1 (by omega) | exact instAt_m2 (by omega) (by omega)), rfl⟩
    · skip
      exact absurd (h2.symm.trans rfl) (by decide)
  · skip
    have g1b := g1
    try simp only [Bool.and_eq_true, Bool.or_eq_true, Bool.and_eq_false_iff, Bool.or_eq_false_iff, decide_eq_true_eq, decide_eq_false_iff_not, Bool.not_eq_true', Bool.not_eq_false', Bool.not_eq_eq_eq_not, Bool.not_true, Bool.not_false, ge_iff_le, gt_iff_lt, Int.not_lt, Int.not_le] at g1b
    rcases bool2 (decide ((o.gPackage : Int) ≥ ((w.gPackages.length : Nat) : Int))) with g3 | g3
    · skip
      have g3b := g3
      try simp only [Bool.and_eq_true, Bool.or_eq_true, Bool.and_eq_false_iff, Bool.or_eq_false_iff, decide_eq_true_eq, decide_eq_false_iff_not, Bool.not_eq_true', Bool.not_eq_false', Bool.not_eq_eq_eq_not, Bool.not_true, Bool.not_false, ge_iff_le, gt_iff_lt, Int.not_lt, Int.not_le] at g3b
      refine AWP.drawnL ⟨_, _, fun _ _ => (⟨[some ⟨31, [.t (.row 6 (GPackage.trs (w.gPackages)))]⟩, some ⟨33, [.t (.leaf (.int .i64 (o.gPackage))), .t (.leaf (.int .i64 (o.gAt)))]⟩, some ⟨113, [.t (.leaf (.string (⟨#[]⟩))), .nil, .t (.leaf (.int .i64 (0))), .t (.leaf (.string (⟨#[]⟩))), .nil, .nil, .t (.leaf (.bool (false))), .t (.leaf (.bool (false))), .t (.leaf (.int .i64 (0))), .t (.leaf (.string (⟨#[]⟩))), .nil, .nil]⟩], []⟩ : Sto), fun q' => ([some (.ptr 1 0), some (.t (.leaf (.int .i64 (o.gPackage)))), some (.t (.leaf (.bool (decide ((o.gPackage : Int) < 0))))), some (.t (.leaf (.bool (decide ((o.gPackage : Int) < 0))))), some (.ptr 1 0), some (.t (.leaf (.int .i64 (o.gPackage)))), some (.ptr 0 0), some (.t (.row 6 (GPackage.trs (w.gPackages)))), some (.t (.leaf (.int .i64 (((w.gPackages.length : Nat) : Int))))), some (.t (.leaf (.bool (decide ((o.gPackage : Int) ≥ ((w.gPackages.length : Nat) : Int)))))), some (.t (.leaf (.bool (decide ((o.gPackage : Int) ≥ ((w.gPackages.length : Nat) : Int)))))), some (.t (.leaf (.bool (decide ((o.gPackage : Int) ≥ ((w.gPackages.length : Nat) : Int)))))), none, none, none, some (.t (.leaf (.bool (true)))), some (.t (.leaf (.bool (true)))), none, none, none, none, none, none, none, none, none, none, none, some (.t (.leaf (.bool (true))))] : List (Option PV)).getD q' none, fun q' => ([.q 0 0, .q 0 0, .q 0 0, .q 0 0, .q 0 0, .q 0 0, .q 0 0, .q 0 0, .q 0 0, .q 0 0, .q 0 0, .q 0 0, .q 0 0, .q 0 0, .q 0 0, .q 0 0, .q 0 0, .q 0 0, .q 0 0, .q 0 0, .q 0 0, .q 0 0, .q 0 0, .q 0 0, .q 0 0, .q 0 0, .q 0 0, .q 0 0, .q 0 0] : List DK).getD q' (.q 0 0), [], none, fun q' => ([[(3, none)], [(6, some 0)], [(7, some 1)], [(8, some 2)], [(3, none)], [(10, some 4)], [(2, none)], [(12, some 6)], [(13, some 7)], [(11, some 5), (14, some 8)], [(9, some 3), (15, some 9)], [(16, some 10)], [], [], [], [(17, some 11)], [(21, some 15)], [], [], [], [], [], [], [], [], [], [], [], [(22, some 16)]] : List (List (Nat × Option Nat))).getD q' []⟩ rfl mixed (by kernel_rfl) rfl rfl ⟨?_, ?_, ?_, ?_, ?_, ?_, ?_, ?_, ?_, ?_, ?_, ?_, ?_, ?_, ?_, ?_, ?_, ?_, ?_, ?_, ?_, ?_, ?_, ?_, ?_, ?_, ?_, ?_, ?_, trivial⟩ rfl ?_
      · refine .inl ⟨rfl, fun s' jj bb (h1 : 0 ≤ jj) (h2 : jj ≤ 0) hs hl => ?_⟩
        obtain rfl : jj = 0 := by omega
        exact ⟨_, rfl, AOp.fieldPtr (k := 1) (d := 0) (e := 0) rfl rfl (hl 3 none _ (.head _) rfl) fo33_0⟩
      · refine .inl ⟨rfl, fun s' jj bb (h1 : 0 ≤ jj) (h2 : jj ≤ 0) hs hl => ?_⟩
        obtain rfl : jj = 0 := by omega
        exact ⟨_, rfl, AOp.loadPtr1 rfl rfl (hl 6 (some 0) _ (.head _) rfl) (by rw [hs]; rfl) sh3 rfl⟩
      · refine .inl ⟨rfl, fun s' jj bb (h1 : 0 ≤ jj) (h2 : jj ≤ 0) hs hl => ?_⟩
        obtain rfl : jj = 0 := by omega
        exact ⟨_, rfl, AOp.lss rfl rfl (hl 7 (some 1) _ (.head _) rfl) rfl⟩
      · refine .inl ⟨rfl, fun s' jj bb (h1 : 0 ≤ jj) (h2 : jj ≤ 0) hs hl => ?_⟩
        obtain rfl : jj = 0 := by omega
        exact ⟨_, rfl, AOp.move (.inl rfl) rfl (hl 8 (some 2) _ (.head _) rfl)⟩
      · refine .inl ⟨(congrArg (fun b => some (b == false)) g1), fun s' jj bb (h1 : 0 ≤ jj) (h2 : jj ≤ 0) hs hl => ?_⟩
        obtain rfl : jj = 0 := by omega
        exact ⟨_, rfl, AOp.fieldPtr (k := 1) (d := 0) (e := 0) rfl rfl (hl 3 none _ (.head _) rfl) fo33_0⟩
      · refine .inl ⟨(congrArg (fun b => some (b == false)) g1), fun s' jj bb (h1 : 0 ≤ jj) (h2 : jj ≤ 0) hs hl => ?_⟩
        obtain rfl : jj = 0 := by omega
        exact ⟨_, rfl, AOp.loadPtr1 rfl rfl (hl 10 (some 4) _ (.head _) rfl) (by rw [hs]; rfl) sh3 rfl⟩
      · refine .inl ⟨(congrArg (fun b => some (b == false)) g1), fun s' jj bb (h1 : 0 ≤ jj) (h2 : jj ≤ 0) hs hl => ?_⟩
        obtain rfl : jj = 0 := by omega
        exact ⟨_, rfl, AOp.fieldPtr (k := 0) (d := 0) (e := 0) rfl rfl (hl 2 none _ (.head _) rfl) fo31_0⟩
      · refine .inl ⟨(congrArg (fun b => some (b == false)) g1), fun s' jj bb (h1 : 0 ≤ jj) (h2 : jj ≤ 0) hs hl => ?_⟩
        obtain rfl : jj = 0 := by omega
        exact ⟨_, rfl, AOp.loadPtr1 rfl rfl (hl 12 (some 6) _ (.head _) rfl) (by rw [hs]; rfl) sh29 rfl⟩
      · refine .inl ⟨(congrArg (fun b => some (b == false)) g1), fun s' jj bb (h1 : 0 ≤ jj) (h2 : jj ≤ 0) hs hl => ?_⟩
        obtain rfl : jj = 0 := by omega
        exact ⟨_, rfl, AOp.lenN rfl rfl (hl 13 (some 7) _ (.head _) rfl) rfl el29 (GPackage.trs_len _)⟩
      · refine .inl ⟨(congrArg (fun b => some (b == false)) g1), fun s' jj bb (h1 : 0 ≤ jj) (h2 : jj ≤ 0) hs hl => ?_⟩
        obtain rfl : jj = 0 := by omega
        exact ⟨_, rfl, AOp.geq rfl rfl (hl 11 (some 5) _ (.head _) rfl) (hl 14 (some 8) _ (.tail _ (.head _)) rfl)⟩
      · refine .inl ⟨rfl, fun s' jj bb (h1 : 0 ≤ jj) (h2 : jj ≤ 0) hs hl => ?_⟩
        obtain rfl : jj = 0 := by omega
        exact ⟨_, rfl, AOp.pickF rfl rfl (hl 9 (some 3) _ (.head _) rfl) g1 (hl 15 (some 9) _ (.tail _ (.head _)) rfl)⟩
      · refine .inl ⟨rfl, fun s' jj bb (h1 : 0 ≤ jj) (h2 : jj ≤ 0) hs hl => ?_⟩
        obtain rfl : jj = 0 := by omega
        exact ⟨_, rfl, AOp.move (.inl rfl) rfl (hl 16 (some 10) _ (.head _) rfl)⟩
      · exact .inr ⟨(congrArg (fun b => some (b == false)) g3), rfl, ⟨_, _, rfl⟩, fun d hd => by cases hd; rfl⟩
      · exact .inr ⟨(congrArg (fun b => some (b == false)) g3), rfl, ⟨_, _, rfl⟩, fun d hd => by cases hd; rfl⟩
      · exact .inr ⟨(congrArg (fun b => some (b == false)) g3), rfl, ⟨_, _, rfl⟩, fun d hd => by cases hd; rfl⟩
      · refine .inl ⟨rfl, fun s' jj bb (h1 : 0 ≤ jj) (h2 : jj ≤ 0) hs hl => ?_⟩
        obtain rfl : jj = 0 := by omega
        exact ⟨_, rfl, AOp.pickT rfl rfl (hl 17 (some 11) _ (.head _) rfl) g3 rfl⟩
      · refine .inl ⟨rfl, fun s' jj bb (h1 : 0 ≤ jj) (h2 : jj ≤ 0) hs hl => ?_⟩
        obtain rfl : jj = 0 := by omega
        exact ⟨_, rfl, AOp.move (.inl rfl) rfl (hl 21 (some 15) _ (.head _) rfl)⟩
      · exact .inr ⟨(congrArg (fun b => some (b == false)) (rfl : true = _)), rfl, ⟨_, _, rfl⟩, fun d hd => by cases hd; rfl⟩
      · exact .inr ⟨(congrArg (fun b => some (b == false)) (rfl : true = _)), rfl, ⟨_, _, rfl⟩, fun d hd => by cases hd; rfl⟩
      · exact .inr ⟨(congrArg (fun b => some (b == false)) (rfl : true = _)), rfl, ⟨_, _, rfl⟩, fun d hd => by cases hd; rfl⟩
      · exact .inr ⟨(congrArg (fun b => some (b == false)) (rfl : true = _)), rfl, ⟨_, _, rfl⟩, fun d hd => by cases hd; rfl⟩
      · exact .inr ⟨(congrArg (fun b => some (b == false)) (rfl : true = _)), rfl, ⟨_, _, rfl⟩, fun d hd => by cases hd; rfl⟩
      · exact .inr ⟨(congrArg (fun b => some (b == false)) (rfl : true = _)), rfl, ⟨_, _, rfl⟩, fun d hd => by cases hd; rfl⟩
      · exact .inr ⟨(congrArg (fun b => some (b == false)) (rfl : true = _)), rfl, ⟨_, _, rfl⟩, fun d hd => by cases hd; rfl⟩
      · exact .inr ⟨(congrArg (fun b => some (b == false)) (rfl : true = _)), rfl, ⟨_, _, rfl⟩, fun d hd => by cases hd; rfl⟩
      · exact .inr ⟨(congrArg (fun b => some (b == false)) (rfl : true = _)), rfl, ⟨_, _, rfl⟩, fun d hd => by cases hd; rfl⟩
      · exact .inr ⟨(congrArg (fun b => some (b == false)) (rfl : true = _)), rfl, ⟨_, _, rfl⟩, fun d hd => by cases hd; rfl⟩
      · exact .inr ⟨(congrArg (fun b => some (b == false)) (rfl : true = _)), rfl, ⟨_, _, rfl⟩, fun d hd => by cases hd; rfl⟩
      · refine .inl ⟨rfl, fun s' jj bb (h1 : 0 ≤ jj) (h2 : jj ≤ 0) hs hl => ?_⟩
        obtain rfl : jj = 0 := by omega
        exact ⟨_, rfl, AOp.pickT rfl rfl (hl 22 (some 16) _ (.head _) rfl) rfl rfl⟩
      refine AWP.cond rfl (fun h4 => ?_) (fun h4 => ?_)
      · skip
        have h4b := h4
        try simp only [Bool.and_eq_true, Bool.or_eq_true, Bool.and_eq_false_iff, Bool.or_eq_false_iff, decide_eq_true_eq, decide_eq_false_iff_not, Bool.not_eq_true', Bool.not_eq_false', Bool.not_eq_eq_eq_not, Bool.not_true, Bool.not_false, ge_iff_le, gt_iff_lt, Int.not_lt, Int.not_le] at h4b
        refine AWP.seq ?_
        refine AWP.region_lit ?_
        refine AL.cons rfl (AOp.build rfl rfl zr113 pl113 rfl rfl) ?_
        refine AL.cons rfl (AOp.storePtr (cs := [.t (.leaf (.string (⟨#[]⟩))), .nil, .t (.leaf (.int .i64 (0))), .t (.leaf (.string (⟨#[]⟩))), .nil, .nil, .t (.leaf (.bool (false))), .t (.leaf (.bool (false))), .t (.leaf (.int .i64 (0))), .t (.leaf (.string (⟨#[]⟩))), .nil, .nil]) (ds := [.t (.leaf (.string (⟨#[]⟩))), .nil, .t (.leaf (.int .i64 (0))), .t (.leaf (.string (⟨#[]⟩))), .nil, .nil, .t (.leaf (.bool (false))), .t (.leaf (.bool (false))), .t (.leaf (.int .i64 (0))), .t (.leaf (.string (⟨#[]⟩))), .nil, .nil]) rfl rfl rfl rfl rfl rfl rfl sz113 (Nat.le_of_ble_eq_true rfl) rfl) ?_
        refine AL.cons rfl (AOp.move (.inr rfl) rfl rfl) ?_
        refine AL.nil ?_
        refine AWP.ret ?_
        exact Ends.mk (ps := [_, _]) (.inr rfl) ⟨⟨_, _, _, rfl, rfl, sh113, rfl, rfl⟩, rfl, trivial⟩ rfl (StLe.mk' (st' := ⟨[], []⟩) trivial rfl) (keeps_nil hC) (q := PV.tup [GInstance.pv GInstance.zero, .t (.leaf (.bool (false)))]) leA rfl ⟨by exact optInst_none (by first | exact instAt_m1 (by omega) | exact instAt_m2 (by omega) (by omega)), rfl⟩
      · skip
        exact absurd (h4.symm.trans rfl) (by decide)
    · skip
      have g3b := g3
      try simp only [Bool.and_eq_true, Bool.or_eq_true, Bool.and_eq_false_iff, Bool.or_eq_false_iff, decide_eq_true_eq, decide_eq_false_iff_not, Bool.not_eq_true', Bool.not_eq_false', Bool.not_eq_eq_eq_not, Bool.not_true, Bool.not_false, ge_iff_le, gt_iff_lt, Int.not_lt, Int.not_le] at g3b
      rcases bool2 (decide ((o.gAt : Int) < 0)) with g5 | g5
      · skip
        have g5b := g5
        try simp only [Bool.and_eq_true, Bool.or_eq_true, Bool.and_eq_false_iff, Bool.or_eq_false_iff, decide_eq_true_eq, decide_eq_false_iff_not, Bool.not_eq_true', Bool.not_eq_false', Bool.not_eq_eq_eq_not, Bool.not_true, Bool.not_false, ge_iff_le, gt_iff_lt, Int.not_lt, Int.not_le] at g5b
        refine AWP.drawnL ⟨_, _, fun _ _ => (⟨[some ⟨31, [.t (.row 6 (GPackage.trs (w.gPackages)))]⟩, some ⟨33, [.t (.leaf (.int .i64 (o.gPackage))), .t (.leaf (.int .i64 (o.gAt)))]⟩, some ⟨113, [.t (.leaf (.string (⟨#[]⟩))), .nil, .t (.leaf (.int .i64 (0))), .t (.leaf (.string (⟨#[]⟩))), .nil, .nil, .t (.leaf (.bool (false))), .t (.leaf (.bool (false))), .t (.leaf (.int .i64 (0))), .t (.leaf (.string (⟨#[]⟩))), .nil, .nil]⟩], []⟩ : Sto), fun q' => ([some (.ptr 1 0), some (.t (.leaf (.int .i64 (o.gPackage)))), some (.t (.leaf (.bool (decide ((o.gPackage : Int) < 0))))), some (.t (.leaf (.bool (decide ((o.gPackage : Int) < 0))))), some (.ptr 1 0), some (.t (.leaf (.int .i64 (o.gPackage)))), some (.ptr 0 0), some (.t (.row 6 (GPackage.trs (w.gPackages)))), some (.t (.leaf (.int .i64 (((w.gPackages.length : Nat) : Int))))), some (.t (.leaf (.bool (decide ((o.gPackage : Int) ≥ ((w.gPackages.length : Nat) : Int)))))), some (.t (.leaf (.bool (decide ((o.gPackage : Int) ≥ ((w.gPackages.length : Nat) : Int)))))), some (.t (.leaf (.bool (decide ((o.gPackage : Int) ≥ ((w.gPackages.length : Nat) : Int)))))), some (.ptr 1 1), some (.t (.leaf (.int .i64 (o.gAt)))), some (.t (.leaf (.bool (decide ((o.gAt : Int) < 0))))), some (.t (.leaf (.bool (decide ((o.gAt : Int) < 0))))), some (.t (.leaf (.bool (decide ((o.gAt : Int) < 0))))), none, none, none, none, none, none, none, none, none, none, none, some (.t (.leaf (.bool (true))))] : List (Option PV)).getD q' none, fun q' => ([.q 0 0, .q 0 0, .q 0 0, .q 0 0, .q 0 0, .q 0 0, .q 0 0, .q 0 0, .q 0 0, .q 0 0, .q 0 0, .q 0 0, .q 0 0, .q 0 0, .q 0 0, .q 0 0, .q 0 0, .q 0 0, .q 0 0, .q 0 0, .q 0 0, .q 0 0, .q 0 0, .q 0 0, .q 0 0, .q 0 0, .q 0 0, .q 0 0, .q 0 0] : List DK).getD q' (.q 0 0), [], none, fun q' => ([[(3, none)], [(6, some 0)], [(7, some 1)], [(8, some 2)], [(3, none)], [(10, some 4)], [(2, none)], [(12, some 6)], [(13, some 7)], [(11, some 5), (14, some 8)], [(9, some 3), (15, some 9)], [(16, some 10)], [(3, none)], [(18, some 12)], [(19, some 13)], [(17, some 11), (20, some 14)], [(21, some 15)], [], [], [], [], [], [], [], [], [], [], [], [(22, some 16)]] : List (List (Nat × Option Nat))).getD q' []⟩ rfl mixed (by kernel_rfl) rfl rfl ⟨?_, ?_, ?_, ?_, ?_, ?_, ?_, ?_, ?_, ?_, ?_, ?_, ?_, ?_, ?_, ?_, ?_, ?_, ?_, ?_, ?_, ?_, ?_, ?_, ?_, ?_, ?_, ?_, ?_, trivial⟩ rfl ?_
        · refine .inl ⟨rfl, fun s' jj bb (h1 : 0 ≤ jj) (h2 : jj ≤ 0) hs hl => ?_⟩
          obtain rfl : jj = 0 := by omega
          exact ⟨_, rfl, AOp.fieldPtr (k := 1) (d := 0) (e := 0) rfl rfl (hl 3 none _ (.head _) rfl) fo33_0⟩
        · refine .inl ⟨rfl, fun s' jj bb (h1 : 0 ≤ jj) (h2 : jj ≤ 0) hs hl => ?_⟩
          obtain rfl : jj = 0 := by omega
          exact ⟨_, rfl, AOp.loadPtr1 rfl rfl (hl 6 (some 0) _ (.head _) rfl) (by rw [hs]; rfl) sh3 rfl⟩
        · refine .inl ⟨rfl, fun s' jj bb (h1 : 0 ≤ jj) (h2 : jj ≤ 0) hs hl => ?_⟩
          obtain rfl : jj = 0 := by omega
          exact ⟨_, rfl, AOp.lss rfl rfl (hl 7 (some 1) _ (.head _) rfl) rfl⟩
        · refine .inl ⟨rfl, fun s' jj bb (h1 : 0 ≤ jj) (h2 : jj ≤ 0) hs hl => ?_⟩
          obtain rfl : jj = 0 := by omega
          exact ⟨_, rfl, AOp.move (.inl rfl) rfl (hl 8 (some 2) _ (.head _) rfl)⟩
        · refine .inl ⟨(congrArg (fun b => some (b == false)) g1), fun s' jj bb (h1 : 0 ≤ jj) (h2 : jj ≤ 0) hs hl => ?_⟩
          obtain rfl : jj = 0 := by omega
          exact ⟨_, rfl, AOp.fieldPtr (k := 1) (d := 0) (e := 0) rfl rfl (hl 3 none _ (.head _) rfl) fo33_0⟩
        · refine .inl ⟨(congrArg (fun b => some (b == false)) g1), fun s' jj bb (h1 : 0 ≤ jj) (h2 : jj ≤ 0) hs hl => ?_⟩
          obtain rfl : jj = 0 := by omega
          exact ⟨_, rfl, AOp.loadPtr1 rfl rfl (hl 10 (some 4) _ (.head _) rfl) (by rw [hs]; rfl) sh3 rfl⟩
        · refine .inl ⟨(congrArg (fun b => some (b == false)) g1), fun s' jj bb (h1 : 0 ≤ jj) (h2 : jj ≤ 0) hs hl => ?_⟩
          obtain rfl : jj = 0 := by omega
          exact ⟨_, rfl, AOp.fieldPtr (k := 0) (d := 0) (e := 0) rfl rfl (hl 2 none _ (.head _) rfl) fo31_0⟩
        · refine .inl ⟨(congrArg (fun b => some (b == false)) g1), fun s' jj bb (h1 : 0 ≤ jj) (h2 : jj ≤ 0) hs hl => ?_⟩
          obtain rfl : jj = 0 := by omega
          exact ⟨_, rfl, AOp.loadPtr1 rfl rfl (hl 12 (some 6) _ (.head _) rfl) (by rw [hs]; rfl) sh29 rfl⟩
        · refine .inl ⟨(congrArg (fun b => some (b == false)) g1), fun s' jj bb (h1 : 0 ≤ jj) (h2 : jj ≤ 0) hs hl => ?_⟩
          obtain rfl : jj = 0 := by omega
          exact ⟨_, rfl, AOp.lenN rfl rfl (hl 13 (some 7) _ (.head _) rfl) rfl el29 (GPackage.trs_len _)⟩
        · refine .inl ⟨(congrArg (fun b => some (b == false)) g1), fun s' jj bb (h1 : 0 ≤ jj) (h2 : jj ≤ 0) hs hl => ?_⟩
          obtain rfl : jj = 0 := by omega
          exact ⟨_, rfl, AOp.geq rfl rfl (hl 11 (some 5) _ (.head _) rfl) (hl 14 (some 8) _ (.tail _ (.head _)) rfl)⟩
        · refine .inl ⟨rfl, fun s' jj bb (h1 : 0 ≤ jj) (h2 : jj ≤ 0) hs hl => ?_⟩
          obtain rfl : jj = 0 := by omega
          exact ⟨_, rfl, AOp.pickF rfl rfl (hl 9 (some 3) _ (.head _) rfl) g1 (hl 15 (some 9) _ (.tail _ (.head _)) rfl)⟩
        · refine .inl ⟨rfl, fun s' jj bb (h1 : 0 ≤ jj) (h2 : jj ≤ 0) hs hl => ?_⟩
          obtain rfl : jj = 0 := by omega
          exact ⟨_, rfl, AOp.move (.inl rfl) rfl (hl 16 (some 10) _ (.head _) rfl)⟩
        · refine .inl ⟨(congrArg (fun b => some (b == false)) g3), fun s' jj bb (h1 : 0 ≤ jj) (h2 : jj ≤ 0) hs hl => ?_⟩
          obtain rfl : jj = 0 := by omega
          exact ⟨_, rfl, AOp.fieldPtr (k := 1) (d := 0) (e := 1) rfl rfl (hl 3 none _ (.head _) rfl) fo33_1⟩
        · refine .inl ⟨(congrArg (fun b => some (b == false)) g3), fun s' jj bb (h1 : 0 ≤ jj) (h2 : jj ≤ 0) hs hl => ?_⟩
          obtain rfl : jj = 0 := by omega
          exact ⟨_, rfl, AOp.loadPtr1 rfl rfl (hl 18 (some 12) _ (.head _) rfl) (by rw [hs]; rfl) sh3 rfl⟩
        · refine .inl ⟨(congrArg (fun b => some (b == false)) g3), fun s' jj bb (h1 : 0 ≤ jj) (h2 : jj ≤ 0) hs hl => ?_⟩
          obtain rfl : jj = 0 := by omega
          exact ⟨_, rfl, AOp.lss rfl rfl (hl 19 (some 13) _ (.head _) rfl) rfl⟩
        · refine .inl ⟨rfl, fun s' jj bb (h1 : 0 ≤ jj) (h2 : jj ≤ 0) hs hl => ?_⟩
          obtain rfl : jj = 0 := by omega
          exact ⟨_, rfl, AOp.pickF rfl rfl (hl 17 (some 11) _ (.head _) rfl) g3 (hl 20 (some 14) _ (.tail _ (.head _)) rfl)⟩
        · refine .inl ⟨rfl, fun s' jj bb (h1 : 0 ≤ jj) (h2 : jj ≤ 0) hs hl => ?_⟩
          obtain rfl : jj = 0 := by omega
          exact ⟨_, rfl, AOp.move (.inl rfl) rfl (hl 21 (some 15) _ (.head _) rfl)⟩
        · exact .inr ⟨(congrArg (fun b => some (b == false)) g5), rfl, ⟨_, _, rfl⟩, fun d hd => by cases hd; rfl⟩
        · exact .inr ⟨(congrArg (fun b => some (b == false)) g5), rfl, ⟨_, _, rfl⟩, fun d hd => by cases hd; rfl⟩
        · exact .inr ⟨(congrArg (fun b => some (b == false)) g5), rfl, ⟨_, _, rfl⟩, fun d hd => by cases hd; rfl⟩
        · exact .inr ⟨(congrArg (fun b => some (b == false)) g5), rfl, ⟨_, _, rfl⟩, fun d hd => by cases hd; rfl⟩
        · exact .inr ⟨(congrArg (fun b => some (b == false)) g5), rfl, ⟨_, _, rfl⟩, fun d hd => by cases hd; rfl⟩
        · exact .inr ⟨(congrArg (fun b => some (b == false)) g5), rfl, ⟨_, _, rfl⟩, fun d hd => by cases hd; rfl⟩
        · exact .inr ⟨(congrArg (fun b => some (b == false)) g5), rfl, ⟨_, _, rfl⟩, fun d hd => by cases hd; rfl⟩
        · exact .inr ⟨(congrArg (fun b => some (b == false)) g5), rfl, ⟨_, _, rfl⟩, fun d hd => by cases hd; rfl⟩
        · exact .inr ⟨(congrArg (fun b => some (b == false)) g5), rfl, ⟨_, _, rfl⟩, fun d hd => by cases hd; rfl⟩
        · exact .inr ⟨(congrArg (fun b => some (b == false)) g5), rfl, ⟨_, _, rfl⟩, fun d hd => by cases hd; rfl⟩
        · exact .inr ⟨(congrArg (fun b => some (b == false)) g5), rfl, ⟨_, _, rfl⟩, fun d hd => by cases hd; rfl⟩
        · refine .inl ⟨rfl, fun s' jj bb (h1 : 0 ≤ jj) (h2 : jj ≤ 0) hs hl => ?_⟩
          obtain rfl : jj = 0 := by omega
          exact ⟨_, rfl, AOp.pickT rfl rfl (hl 22 (some 16) _ (.head _) rfl) g5 rfl⟩
        refine AWP.cond rfl (fun h6 => ?_) (fun h6 => ?_)
        · skip
          have h6b := h6
          try simp only [Bool.and_eq_true, Bool.or_eq_true, Bool.and_eq_false_iff, Bool.or_eq_false_iff, decide_eq_true_eq, decide_eq_false_iff_not, Bool.not_eq_true', Bool.not_eq_false', Bool.not_eq_eq_eq_not, Bool.not_true, Bool.not_false, ge_iff_le, gt_iff_lt, Int.not_lt, Int.not_le] at h6b
          refine AWP.seq ?_
          refine AWP.region_lit ?_
          refine AL.cons rfl (AOp.build rfl rfl zr113 pl113 rfl rfl) ?_
          refine AL.cons rfl (AOp.storePtr (cs := [.t (.leaf (.string (⟨#[]⟩))), .nil, .t (.leaf (.int .i64 (0))), .t (.leaf (.string (⟨#[]⟩))), .nil, .nil, .t (.leaf (.bool (false))), .t (.leaf (.bool (false))), .t (.leaf (.int .i64 (0))), .t (.leaf (.string (⟨#[]⟩))), .nil, .nil]) (ds := [.t (.leaf (.string (⟨#[]⟩))), .nil, .t (.leaf (.int .i64 (0))), .t (.leaf (.string (⟨#[]⟩))), .nil, .nil, .t (.leaf (.bool (false))), .t (.leaf (.bool (false))), .t (.leaf (.int .i64 (0))), .t (.leaf (.string (⟨#[]⟩))), .nil, .nil]) rfl rfl rfl rfl rfl rfl rfl sz113 (Nat.le_of_ble_eq_true rfl) rfl) ?_
          refine AL.cons rfl (AOp.move (.inr rfl) rfl rfl) ?_
          refine AL.nil ?_
          refine AWP.ret ?_
          exact Ends.mk (ps := [_, _]) (.inr rfl) ⟨⟨_, _, _, rfl, rfl, sh113, rfl, rfl⟩, rfl, trivial⟩ rfl (StLe.mk' (st' := ⟨[], []⟩) trivial rfl) (keeps_nil hC) (q := PV.tup [GInstance.pv GInstance.zero, .t (.leaf (.bool (false)))]) leA rfl ⟨by exact optInst_none (by first | exact instAt_m1 (by omega) | exact instAt_m2 (by omega) (by omega)), rfl⟩
        · skip
          exact absurd (h6.symm.trans rfl) (by decide)
      · skip
        have g5b := g5
        try simp only [Bool.and_eq_true, Bool.or_eq_true, Bool.and_eq_false_iff, Bool.or_eq_false_iff, decide_eq_true_eq, decide_eq_false_iff_not, Bool.not_eq_true', Bool.not_eq_false', Bool.not_eq_eq_eq_not, Bool.not_true, Bool.not_false, ge_iff_le, gt_iff_lt, Int.not_lt, Int.not_le] at g5b
        have hn7 : (o.gPackage).toNat < w.gPackages.length := by omega
        refine AWP.drawnL ⟨_, _, fun _ _ => (⟨[some ⟨31, [.t (.row 6 (GPackage.trs (w.gPackages)))]⟩, some ⟨33, [.t (.leaf (.int .i64 (o.gPackage))), .t (.leaf (.int .i64 (o.gAt)))]⟩, some ⟨113, [.t (.leaf (.string (⟨#[]⟩))), .nil, .t (.leaf (.int .i64 (0))), .t (.leaf (.string (⟨#[]⟩))), .nil, .nil, .t (.leaf (.bool (false))), .t (.leaf (.bool (false))), .t (.leaf (.int .i64 (0))), .t (.leaf (.string (⟨#[]⟩))), .nil, .nil]⟩], []⟩ : Sto), fun q' => ([some (.ptr 1 0), some (.t (.leaf (.int .i64 (o.gPackage)))), some (.t (.leaf (.bool (decide ((o.gPackage : Int) < 0))))), some (.t (.leaf (.bool (decide ((o.gPackage : Int) < 0))))), some (.ptr 1 0), some (.t (.leaf (.int .i64 (o.gPackage)))), some (.ptr 0 0), some (.t (.row 6 (GPackage.trs (w.gPackages)))), some (.t (.leaf (.int .i64 (((w.gPackages.length : Nat) : Int))))), some (.t (.leaf (.bool (decide ((o.gPackage : Int) ≥ ((w.gPackages.length : Nat) : Int)))))), some (.t (.leaf (.bool (decide ((o.gPackage : Int) ≥ ((w.gPackages.length : Nat) : Int)))))), some (.t (.leaf (.bool (decide ((o.gPackage : Int) ≥ ((w.gPackages.length : Nat) : Int)))))), some (.ptr 1 1), some (.t (.leaf (.int .i64 (o.gAt)))), some (.t (.leaf (.bool (decide ((o.gAt : Int) < 0))))), some (.t (.leaf (.bool (decide ((o.gAt : Int) < 0))))), some (.t (.leaf (.bool (decide ((o.gAt : Int) < 0))))), some (.ptr 1 1), some (.t (.leaf (.int .i64 (o.gAt)))), some (.ptr 0 0), some (.t (.row 6 (GPackage.trs (w.gPackages)))), some (.ptr 1 0), some (.t (.leaf (.int .i64 (o.gPackage)))), some (.eptr (GPackage.cs (w.gPackages[(o.gPackage).toNat]))), some (.eptr ((GPackage.cs (w.gPackages[(o.gPackage).toNat])).drop 4)), some (.t (.row 12 (GInstance.trs ((w.gPackages[(o.gPackage).toNat]).gInstances)))), some (.t (.leaf (.int .i64 (((((w.gPackages[(o.gPackage).toNat]).gInstances).length : Nat) : Int))))), some (.t (.leaf (.bool (decide ((o.gAt : Int) ≥ ((((w.gPackages[(o.gPackage).toNat]).gInstances).length : Nat) : Int)))))), some (.t (.leaf (.bool (decide ((o.gAt : Int) ≥ ((((w.gPackages[(o.gPackage).toNat]).gInstances).length : Nat) : Int))))))] : List (Option PV)).getD q' none, fun q' => ([.q 0 0, .q 0 0, .q 0 0, .q 0 0, .q 0 0, .q 0 0, .q 0 0, .q 0 0, .q 0 0, .q 0 0, .q 0 0, .q 0 0, .q 0 0, .q 0 0, .q 0 0, .q 0 0, .q 0 0, .q 0 0, .q 0 0, .q 0 0, .q 0 0, .q 0 0, .q 0 0, .q 0 0, .q 0 0, .q 0 0, .q 0 0, .q 0 0, .q 0 0] : List DK).getD q' (.q 0 0), [], none, fun q' => ([[(3, none)], [(6, some 0)], [(7, some 1)], [(8, some 2)], [(3, none)], [(10, some 4)], [(2, none)], [(12, some 6)], [(13, some 7)], [(11, some 5), (14, some 8)], [(9, some 3), (15, some 9)], [(16, some 10)], [(3, none)], [(18, some 12)], [(19, some 13)], [(17, some 11), (20, some 14)], [(21, some 15)], [(3, none)], [(23, some 17)], [(2, none)], [(25, some 19)], [(3, none)], [(27, some 21)], [(26, some 20), (28, some 22)], [(29, some 23)], [(30, some 24)], [(31, some 25)], [(24, some 18), (32, some 26)], [(22, some 16), (33, some 27)]] : List (List (Nat × Option Nat))).getD q' []⟩ rfl mixed (by kernel_rfl) rfl rfl ⟨?_, ?_, ?_, ?_, ?_, ?_, ?_, ?_, ?_, ?_, ?_, ?_, ?_, ?_, ?_, ?_, ?_, ?_, ?_, ?_, ?_, ?_, ?_, ?_, ?_, ?_, ?_, ?_, ?_, trivial⟩ rfl ?_
        · refine .inl ⟨rfl, fun s' jj bb (h1 : 0 ≤ jj) (h2 : jj ≤ 0) hs hl => ?_⟩
          obtain rfl : jj = 0 := by omega
          exact ⟨_, rfl, AOp.fieldPtr (k := 1) (d := 0) (e := 0) rfl rfl (hl 3 none _ (.head _) rfl) fo33_0⟩
        · refine .inl ⟨rfl, fun s' jj bb (h1 : 0 ≤ jj) (h2 : jj ≤ 0) hs hl => ?_⟩
          obtain rfl : jj = 0 := by omega
          exact ⟨_, rfl, AOp.loadPtr1 rfl rfl (hl 6 (some 0) _ (.head _) rfl) (by rw [hs]; rfl) sh3 rfl⟩
        · refine .inl ⟨rfl, fun s' jj bb (h1 : 0 ≤ jj) (h2 : jj ≤ 0) hs hl => ?_⟩
          obtain rfl : jj = 0 := by omega
          exact ⟨_, rfl, AOp.lss rfl rfl (hl 7 (some 1) _ (.head _) rfl) rfl⟩
        · refine .inl ⟨rfl, fun s' jj bb (h1 : 0 ≤ jj) (h2 : jj ≤ 0) hs hl => ?_⟩
          obtain rfl : jj = 0 := by omega
          exact ⟨_, rfl, AOp.move (.inl rfl) rfl (hl 8 (some 2) _ (.head _) rfl)⟩
        · refine .inl ⟨(congrArg (fun b => some (b == false)) g1), fun s' jj bb (h1 : 0 ≤ jj) (h2 : jj ≤ 0) hs hl => ?_⟩
          obtain rfl : jj = 0 := by omega
          exact ⟨_, rfl, AOp.fieldPtr (k := 1) (d := 0) (e := 0) rfl rfl (hl 3 none _ (.head _) rfl) fo33_0⟩
        · refine .inl ⟨(congrArg (fun b => some (b == false)) g1), fun s' jj bb (h1 : 0 ≤ jj) (h2 : jj ≤ 0) hs hl => ?_⟩
          obtain rfl : jj = 0 := by omega
          exact ⟨_, rfl, AOp.loadPtr1 rfl rfl (hl 10 (some 4) _ (.head _) rfl) (by rw [hs]; rfl) sh3 rfl⟩
        · refine .inl ⟨(congrArg (fun b => some (b == false)) g1), fun s' jj bb (h1 : 0 ≤ jj) (h2 : jj ≤ 0) hs hl => ?_⟩
          obtain rfl : jj = 0 := by omega
          exact ⟨_, rfl, AOp.fieldPtr (k := 0) (d := 0) (e := 0) rfl rfl (hl 2 none _ (.head _) rfl) fo31_0⟩
        · refine .inl ⟨(congrArg (fun b => some (b == false)) g1), fun s' jj bb (h1 : 0 ≤ jj) (h2 : jj ≤ 0) hs hl => ?_⟩
          obtain rfl : jj = 0 := by omega
          exact ⟨_, rfl, AOp.loadPtr1 rfl rfl (hl 12 (some 6) _ (.head _) rfl) (by rw [hs]; rfl) sh29 rfl⟩
        · refine .inl ⟨(congrArg (fun b => some (b == false)) g1), fun s' jj bb (h1 : 0 ≤ jj) (h2 : jj ≤ 0) hs hl => ?_⟩
          obtain rfl : jj = 0 := by omega
          exact ⟨_, rfl, AOp.lenN rfl rfl (hl 13 (some 7) _ (.head _) rfl) rfl el29 (GPackage.trs_len _)⟩
        · refine .inl ⟨(congrArg (fun b => some (b == false)) g1), fun s' jj bb (h1 : 0 ≤ jj) (h2 : jj ≤ 0) hs hl => ?_⟩
          obtain rfl : jj = 0 := by omega
          exact ⟨_, rfl, AOp.geq rfl rfl (hl 11 (some 5) _ (.head _) rfl) (hl 14 (some 8) _ (.tail _ (.head _)) rfl)⟩
        · refine .inl ⟨rfl, fun s' jj bb (h1 : 0 ≤ jj) (h2 : jj ≤ 0) hs hl => ?_⟩
          obtain rfl : jj = 0 := by omega
          exact ⟨_, rfl, AOp.pickF rfl rfl (hl 9 (some 3) _ (.head _) rfl) g1 (hl 15 (some 9) _ (.tail _ (.head _)) rfl)⟩
        · refine .inl ⟨rfl, fun s' jj bb (h1 : 0 ≤ jj) (h2 : jj ≤ 0) hs hl => ?_⟩
          obtain rfl : jj = 0 := by omega
          exact ⟨_, rfl, AOp.move (.inl rfl) rfl (hl 16 (some 10) _ (.head _) rfl)⟩
        · refine .inl ⟨(congrArg (fun b => some (b == false)) g3), fun s' jj bb (h1 : 0 ≤ jj) (h2 : jj ≤ 0) hs hl => ?_⟩
          obtain rfl : jj = 0 := by omega
          exact ⟨_, rfl, AOp.fieldPtr (k := 1) (d := 0) (e := 1) rfl rfl (hl 3 none _ (.head _) rfl) fo33_1⟩
        · refine .inl ⟨(congrArg (fun b => some (b == false)) g3), fun s' jj bb (h1 : 0 ≤ jj) (h2 : jj ≤ 0) hs hl => ?_⟩
          obtain rfl : jj = 0 := by omega
          exact ⟨_, rfl, AOp.loadPtr1 rfl rfl (hl 18 (some 12) _ (.head _) rfl) (by rw [hs]; rfl) sh3 rfl⟩
        · refine .inl ⟨(congrArg (fun b => some (b == false)) g3), fun s' jj bb (h1 : 0 ≤ jj) (h2 : jj ≤ 0) hs hl => ?_⟩
          obtain rfl : jj = 0 := by omega
          exact ⟨_, rfl, AOp.lss rfl rfl (hl 19 (some 13) _ (.head _) rfl) rfl⟩
        · refine .inl ⟨rfl, fun s' jj bb (h1 : 0 ≤ jj) (h2 : jj ≤ 0) hs hl => ?_⟩
          obtain rfl : jj = 0 := by omega
          exact ⟨_, rfl, AOp.pickF rfl rfl (hl 17 (some 11) _ (.head _) rfl) g3 (hl 20 (some 14) _ (.tail _ (.head _)) rfl)⟩
        · refine .inl ⟨rfl, fun s' jj bb (h1 : 0 ≤ jj) (h2 : jj ≤ 0) hs hl => ?_⟩
          obtain rfl : jj = 0 := by omega
          exact ⟨_, rfl, AOp.move (.inl rfl) rfl (hl 21 (some 15) _ (.head _) rfl)⟩
        · refine .inl ⟨(congrArg (fun b => some (b == false)) g5), fun s' jj bb (h1 : 0 ≤ jj) (h2 : jj ≤ 0) hs hl => ?_⟩
          obtain rfl : jj = 0 := by omega
          exact ⟨_, rfl, AOp.fieldPtr (k := 1) (d := 0) (e := 1) rfl rfl (hl 3 none _ (.head _) rfl) fo33_1⟩
        · refine .inl ⟨(congrArg (fun b => some (b == false)) g5), fun s' jj bb (h1 : 0 ≤ jj) (h2 : jj ≤ 0) hs hl => ?_⟩
          obtain rfl : jj = 0 := by omega
          exact ⟨_, rfl, AOp.loadPtr1 rfl rfl (hl 23 (some 17) _ (.head _) rfl) (by rw [hs]; rfl) sh3 rfl⟩
        · refine .inl ⟨(congrArg (fun b => some (b == false)) g5), fun s' jj bb (h1 : 0 ≤ jj) (h2 : jj ≤ 0) hs hl => ?_⟩
          obtain rfl : jj = 0 := by omega
          exact ⟨_, rfl, AOp.fieldPtr (k := 0) (d := 0) (e := 0) rfl rfl (hl 2 none _ (.head _) rfl) fo31_0⟩
        · refine .inl ⟨(congrArg (fun b => some (b == false)) g5), fun s' jj bb (h1 : 0 ≤ jj) (h2 : jj ≤ 0) hs hl => ?_⟩
          obtain rfl : jj = 0 := by omega
          exact ⟨_, rfl, AOp.loadPtr1 rfl rfl (hl 25 (some 19) _ (.head _) rfl) (by rw [hs]; rfl) sh29 rfl⟩
        · refine .inl ⟨(congrArg (fun b => some (b == false)) g5), fun s' jj bb (h1 : 0 ≤ jj) (h2 : jj ≤ 0) hs hl => ?_⟩
          obtain rfl : jj = 0 := by omega
          exact ⟨_, rfl, AOp.fieldPtr (k := 1) (d := 0) (e := 0) rfl rfl (hl 3 none _ (.head _) rfl) fo33_0⟩
        · refine .inl ⟨(congrArg (fun b => some (b == false)) g5), fun s' jj bb (h1 : 0 ≤ jj) (h2 : jj ≤ 0) hs hl => ?_⟩
          obtain rfl : jj = 0 := by omega
          exact ⟨_, rfl, AOp.loadPtr1 rfl rfl (hl 27 (some 21) _ (.head _) rfl) (by rw [hs]; rfl) sh3 rfl⟩
        · refine .inl ⟨(congrArg (fun b => some (b == false)) g5), fun s' jj bb (h1 : 0 ≤ jj) (h2 : jj ≤ 0) hs hl => ?_⟩
          obtain rfl : jj = 0 := by omega
          exact ⟨_, rfl, AOp.indexI (y := o.gPackage) rfl rfl (hl 26 (some 20) _ (.head _) rfl) rfl (hl 28 (some 22) _ (.tail _ (.head _)) rfl) (by omega) (GPackage.trs_cs hn7) el29⟩
        · refine .inl ⟨(congrArg (fun b => some (b == false)) g5), fun s' jj bb (h1 : 0 ≤ jj) (h2 : jj ≤ 0) hs hl => ?_⟩
          obtain rfl : jj = 0 := by omega
          exact ⟨_, rfl, AOp.fieldEptr (cs := (GPackage.cs (w.gPackages[(o.gPackage).toNat]))) (e := 4) rfl rfl (hl 29 (some 23) _ (.head _) rfl) fo126_4⟩
        · refine .inl ⟨(congrArg (fun b => some (b == false)) g5), fun s' jj bb (h1 : 0 ≤ jj) (h2 : jj ≤ 0) hs hl => ?_⟩
          obtain rfl : jj = 0 := by omega
          exact ⟨_, rfl, AOp.loadEptr1 (d := .row 12 (GInstance.trs ((w.gPackages[(o.gPackage).toNat]).gInstances))) rfl rfl (hl 30 (some 24) _ (.head _) rfl) sh123 rfl⟩
        · refine .inl ⟨(congrArg (fun b => some (b == false)) g5), fun s' jj bb (h1 : 0 ≤ jj) (h2 : jj ≤ 0) hs hl => ?_⟩
          obtain rfl : jj = 0 := by omega
          exact ⟨_, rfl, AOp.lenN rfl rfl (hl 31 (some 25) _ (.head _) rfl) rfl el123 (GInstance.trs_len _)⟩
        · refine .inl ⟨(congrArg (fun b => some (b == false)) g5), fun s' jj bb (h1 : 0 ≤ jj) (h2 : jj ≤ 0) hs hl => ?_⟩
          obtain rfl : jj = 0 := by omega
          exact ⟨_, rfl, AOp.geq rfl rfl (hl 24 (some 18) _ (.head _) rfl) (hl 32 (some 26) _ (.tail _ (.head _)) rfl)⟩
        · refine .inl ⟨rfl, fun s' jj bb (h1 : 0 ≤ jj) (h2 : jj ≤ 0) hs hl => ?_⟩
          obtain rfl : jj = 0 := by omega
          exact ⟨_, rfl, AOp.pickF rfl rfl (hl 22 (some 16) _ (.head _) rfl) g5 (hl 33 (some 27) _ (.tail _ (.head _)) rfl)⟩
        refine AWP.cond rfl (fun h8 => ?_) (fun h8 => ?_)
        · skip
          have h8b := h8
          try simp only [Bool.and_eq_true, Bool.or_eq_true, Bool.and_eq_false_iff, Bool.or_eq_false_iff, decide_eq_true_eq, decide_eq_false_iff_not, Bool.not_eq_true', Bool.not_eq_false', Bool.not_eq_eq_eq_not, Bool.not_true, Bool.not_false, ge_iff_le, gt_iff_lt, Int.not_lt, Int.not_le] at h8b
          refine AWP.seq ?_
          refine AWP.region_lit ?_
          refine AL.cons rfl (AOp.build rfl rfl zr113 pl113 rfl rfl) ?_
          refine AL.cons rfl (AOp.storePtr (cs := [.t (.leaf (.string (⟨#[]⟩))), .nil, .t (.leaf (.int .i64 (0))), .t (.leaf (.string (⟨#[]⟩))), .nil, .nil, .t (.leaf (.bool (false))), .t (.leaf (.bool (false))), .t (.leaf (.int .i64 (0))), .t (.leaf (.string (⟨#[]⟩))), .nil, .nil]) (ds := [.t (.leaf (.string (⟨#[]⟩))), .nil, .t (.leaf (.int .i64 (0))), .t (.leaf (.string (⟨#[]⟩))), .nil, .nil, .t (.leaf (.bool (false))), .t (.leaf (.bool (false))), .t (.leaf (.int .i64 (0))), .t (.leaf (.string (⟨#[]⟩))), .nil, .nil]) rfl rfl rfl rfl rfl rfl rfl sz113 (Nat.le_of_ble_eq_true rfl) rfl) ?_
          refine AL.cons rfl (AOp.move (.inr rfl) rfl rfl) ?_
          refine AL.nil ?_
          refine AWP.ret ?_
          exact Ends.mk (ps := [_, _]) (.inr rfl) ⟨⟨_, _, _, rfl, rfl, sh113, rfl, rfl⟩, rfl, trivial⟩ rfl (StLe.mk' (st' := ⟨[], []⟩) trivial rfl) (keeps_nil hC) (q := PV.tup [GInstance.pv GInstance.zero, .t (.leaf (.bool (false)))]) leA rfl ⟨by exact optInst_none (by first | exact instAt_m1 (by omega) | exact instAt_m2 (by omega) (by omega)), rfl⟩
        · skip
          have h8b := h8
          try simp only [Bool.and_eq_true, Bool.or_eq_true, Bool.and_eq_false_iff, Bool.or_eq_false_iff, decide_eq_true_eq, decide_eq_false_iff_not, Bool.not_eq_true', Bool.not_eq_false', Bool.not_eq_eq_eq_not, Bool.not_true, Bool.not_false, ge_iff_le, gt_iff_lt, Int.not_lt, Int.not_le] at h8b
          refine AWP.skip ?_
          refine AWP.seq ?_
          have hn9 : (o.gAt).toNat < ((w.gPackages[(o.gPackage).toNat]).gInstances).length := by omega
          refine AWP.drawnL ⟨_, _, fun j' _ => ([(⟨[some ⟨31, [.t (.row 6 (GPackage.trs (w.gPackages)))]⟩, some ⟨33, [.t (.leaf (.int .i64 (o.gPackage))), .t (.leaf (.int .i64 (o.gAt)))]⟩, some ⟨113, [.t (.leaf (.string (⟨#[]⟩))), .nil, .t (.leaf (.int .i64 (0))), .t (.leaf (.string (⟨#[]⟩))), .nil, .nil, .t (.leaf (.bool (false))), .t (.leaf (.bool (false))), .t (.leaf (.int .i64 (0))), .t (.leaf (.string (⟨#[]⟩))), .nil, .nil]⟩], []⟩ : Sto), (⟨[some ⟨31, [.t (.row 6 (GPackage.trs (w.gPackages)))]⟩, some ⟨33, [.t (.leaf (.int .i64 (o.gPackage))), .t (.leaf (.int .i64 (o.gAt)))]⟩, some ⟨113, [.t (.leaf (.string ((((w.gPackages[(o.gPackage).toNat]).gInstances)[(o.gAt).toNat]).gTrait))), .t (.row 1 (strTrs ((((w.gPackages[(o.gPackage).toNat]).gInstances)[(o.gAt).toNat]).gVars))), .t (.leaf (.int .i64 ((((w.gPackages[(o.gPackage).toNat]).gInstances)[(o.gAt).toNat]).gHead.gKind))), .t (.leaf (.string ((((w.gPackages[(o.gPackage).toNat]).gInstances)[(o.gAt).toNat]).gHead.gName))), .t (.row 3 (GType.trs ((((w.gPackages[(o.gPackage).toNat]).gInstances)[(o.gAt).toNat]).gHead.gArgs))), .t (.row 4 (GBound.trs ((((w.gPackages[(o.gPackage).toNat]).gInstances)[(o.gAt).toNat]).gWhere))), .t (.leaf (.bool ((((w.gPackages[(o.gPackage).toNat]).gInstances)[(o.gAt).toNat]).gDefault))), .t (.leaf (.bool ((((w.gPackages[(o.gPackage).toNat]).gInstances)[(o.gAt).toNat]).gHasAssoc))), .t (.leaf (.int .i64 ((((w.gPackages[(o.gPackage).toNat]).gInstances)[(o.gAt).toNat]).gAssoc.gKind))), .t (.leaf (.string ((((w.gPackages[(o.gPackage).toNat]).gInstances)[(o.gAt).toNat]).gAssoc.gName))), .t (.row 3 (GType.trs ((((w.gPackages[(o.gPackage).toNat]).gInstances)[(o.gAt).toNat]).gAssoc.gArgs))), .t (.row 11 (GMethod.trs ((((w.gPackages[(o.gPackage).toNat]).gInstances)[(o.gAt).toNat]).gMethods)))]⟩], []⟩ : Sto)] : List Sto).getD j' (⟨[some ⟨31, [.t (.row 6 (GPackage.trs (w.gPackages)))]⟩, some ⟨33, [.t (.leaf (.int .i64 (o.gPackage))), .t (.leaf (.int .i64 (o.gAt)))]⟩, some ⟨113, [.t (.leaf (.string ((((w.gPackages[(o.gPackage).toNat]).gInstances)[(o.gAt).toNat]).gTrait))), .t (.row 1 (strTrs ((((w.gPackages[(o.gPackage).toNat]).gInstances)[(o.gAt).toNat]).gVars))), .t (.leaf (.int .i64 ((((w.gPackages[(o.gPackage).toNat]).gInstances)[(o.gAt).toNat]).gHead.gKind))), .t (.leaf (.string ((((w.gPackages[(o.gPackage).toNat]).gInstances)[(o.gAt).toNat]).gHead.gName))), .t (.row 3 (GType.trs ((((w.gPackages[(o.gPackage).toNat]).gInstances)[(o.gAt).toNat]).gHead.gArgs))), .t (.row 4 (GBound.trs ((((w.gPackages[(o.gPackage).toNat]).gInstances)[(o.gAt).toNat]).gWhere))), .t (.leaf (.bool ((((w.gPackages[(o.gPackage).toNat]).gInstances)[(o.gAt).toNat]).gDefault))), .t (.leaf (.bool ((((w.gPackages[(o.gPackage).toNat]).gInstances)[(o.gAt).toNat]).gHasAssoc))), .t (.leaf (.int .i64 ((((w.gPackages[(o.gPackage).toNat]).gInstances)[(o.gAt).toNat]).gAssoc.gKind))), .t (.leaf (.string ((((w.gPackages[(o.gPackage).toNat]).gInstances)[(o.gAt).toNat]).gAssoc.gName))), .t (.row 3 (GType.trs ((((w.gPackages[(o.gPackage).toNat]).gInstances)[(o.gAt).toNat]).gAssoc.gArgs))), .t (.row 11 (GMethod.trs ((((w.gPackages[(o.gPackage).toNat]).gInstances)[(o.gAt).toNat]).gMethods)))]⟩], []⟩ : Sto), fun q' => ([some (.ptr 0 0), some (.t (.row 6 (GPackage.trs (w.gPackages)))), some (.ptr 1 0), some (.t (.leaf (.int .i64 (o.gPackage)))), some (.eptr (GPackage.cs (w.gPackages[(o.gPackage).toNat]))), some (.eptr ((GPackage.cs (w.gPackages[(o.gPackage).toNat])).drop 4)), some (.t (.row 12 (GInstance.trs ((w.gPackages[(o.gPackage).toNat]).gInstances)))), some (.ptr 1 1), some (.t (.leaf (.int .i64 (o.gAt)))), some (.eptr (GInstance.cs (((w.gPackages[(o.gPackage).toNat]).gInstances)[(o.gAt).toNat]))), some ((GInstance.pv (((w.gPackages[(o.gPackage).toNat]).gInstances)[(o.gAt).toNat]))), none, some (.t (.leaf (.bool (true))))] : List (Option PV)).getD q' none, fun q' => ([.q 0 0, .q 0 0, .q 0 0, .q 0 0, .q 0 0, .q 0 0, .q 0 0, .q 0 0, .q 0 0, .q 0 0, .q 0 0, .ef 0, .q 1 1] : List DK).getD q' (.q 0 0), [11], none, fun q' => ([[(2, none)], [(36, some 0)], [(3, none)], [(38, some 2)], [(37, some 1), (39, some 3)], [(40, some 4)], [(41, some 5)], [(3, none)], [(43, some 7)], [(42, some 6), (44, some 8)], [(45, some 9)], [(4, none), (46, some 10)], []] : List (List (Nat × Option Nat))).getD q' []⟩ rfl mixed (by kernel_rfl) rfl rfl ⟨?_, ?_, ?_, ?_, ?_, ?_, ?_, ?_, ?_, ?_, ?_, ?_, ?_, trivial⟩ rfl ?_
          · refine .inl ⟨rfl, fun s' jj bb (h1 : 0 ≤ jj) (h2 : jj ≤ 0) hs hl => ?_⟩
            obtain rfl : jj = 0 := by omega
            exact ⟨_, rfl, AOp.fieldPtr (k := 0) (d := 0) (e := 0) rfl rfl (hl 2 none _ (.head _) rfl) fo31_0⟩
          · refine .inl ⟨rfl, fun s' jj bb (h1 : 0 ≤ jj) (h2 : jj ≤ 0) hs hl => ?_⟩
            obtain rfl : jj = 0 := by omega
            exact ⟨_, rfl, AOp.loadPtr1 rfl rfl (hl 36 (some 0) _ (.head _) rfl) (by rw [hs]; rfl) sh29 rfl⟩
          · refine .inl ⟨rfl, fun s' jj bb (h1 : 0 ≤ jj) (h2 : jj ≤ 0) hs hl => ?_⟩
            obtain rfl : jj = 0 := by omega
            exact ⟨_, rfl, AOp.fieldPtr (k := 1) (d := 0) (e := 0) rfl rfl (hl 3 none _ (.head _) rfl) fo33_0⟩
          · refine .inl ⟨rfl, fun s' jj bb (h1 : 0 ≤ jj) (h2 : jj ≤ 0) hs hl => ?_⟩
            obtain rfl : jj = 0 := by omega
            exact ⟨_, rfl, AOp.loadPtr1 rfl rfl (hl 38 (some 2) _ (.head _) rfl) (by rw [hs]; rfl) sh3 rfl⟩
          · refine .inl ⟨rfl, fun s' jj bb (h1 : 0 ≤ jj) (h2 : jj ≤ 0) hs hl => ?_⟩
            obtain rfl : jj = 0 := by omega
            exact ⟨_, rfl, AOp.indexI (y := o.gPackage) rfl rfl (hl 37 (some 1) _ (.head _) rfl) rfl (hl 39 (some 3) _ (.tail _ (.head _)) rfl) (by omega) (GPackage.trs_cs hn7) el29⟩
          · refine .inl ⟨rfl, fun s' jj bb (h1 : 0 ≤ jj) (h2 : jj ≤ 0) hs hl => ?_⟩
            obtain rfl : jj = 0 := by omega
            exact ⟨_, rfl, AOp.fieldEptr (cs := (GPackage.cs (w.gPackages[(o.gPackage).toNat]))) (e := 4) rfl rfl (hl 40 (some 4) _ (.head _) rfl) fo126_4⟩
          · refine .inl ⟨rfl, fun s' jj bb (h1 : 0 ≤ jj) (h2 : jj ≤ 0) hs hl => ?_⟩
            obtain rfl : jj = 0 := by omega
            exact ⟨_, rfl, AOp.loadEptr1 (d := .row 12 (GInstance.trs ((w.gPackages[(o.gPackage).toNat]).gInstances))) rfl rfl (hl 41 (some 5) _ (.head _) rfl) sh123 rfl⟩
          · refine .inl ⟨rfl, fun s' jj bb (h1 : 0 ≤ jj) (h2 : jj ≤ 0) hs hl => ?_⟩
            obtain rfl : jj = 0 := by omega
            exact ⟨_, rfl, AOp.fieldPtr (k := 1) (d := 0) (e := 1) rfl rfl (hl 3 none _ (.head _) rfl) fo33_1⟩
          · refine .inl ⟨rfl, fun s' jj bb (h1 : 0 ≤ jj) (h2 : jj ≤ 0) hs hl => ?_⟩
            obtain rfl : jj = 0 := by omega
            exact ⟨_, rfl, AOp.loadPtr1 rfl rfl (hl 43 (some 7) _ (.head _) rfl) (by rw [hs]; rfl) sh3 rfl⟩
          · refine .inl ⟨rfl, fun s' jj bb (h1 : 0 ≤ jj) (h2 : jj ≤ 0) hs hl => ?_⟩
            obtain rfl : jj = 0 := by omega
            exact ⟨_, rfl, AOp.indexI (y := o.gAt) rfl rfl (hl 42 (some 6) _ (.head _) rfl) rfl (hl 44 (some 8) _ (.tail _ (.head _)) rfl) (by omega) (GInstance.trs_cs hn9) el123⟩
          · refine .inl ⟨rfl, fun s' jj bb (h1 : 0 ≤ jj) (h2 : jj ≤ 0) hs hl => ?_⟩
            obtain rfl : jj = 0 := by omega
            exact ⟨_, rfl, AOp.loadEptr (ds := [.leaf (.string ((((w.gPackages[(o.gPackage).toNat]).gInstances)[(o.gAt).toNat]).gTrait)), .row 1 (strTrs ((((w.gPackages[(o.gPackage).toNat]).gInstances)[(o.gAt).toNat]).gVars)), .leaf (.int .i64 ((((w.gPackages[(o.gPackage).toNat]).gInstances)[(o.gAt).toNat]).gHead.gKind)), .leaf (.string ((((w.gPackages[(o.gPackage).toNat]).gInstances)[(o.gAt).toNat]).gHead.gName)), .row 3 (GType.trs ((((w.gPackages[(o.gPackage).toNat]).gInstances)[(o.gAt).toNat]).gHead.gArgs)), .row 4 (GBound.trs ((((w.gPackages[(o.gPackage).toNat]).gInstances)[(o.gAt).toNat]).gWhere)), .leaf (.bool ((((w.gPackages[(o.gPackage).toNat]).gInstances)[(o.gAt).toNat]).gDefault)), .leaf (.bool ((((w.gPackages[(o.gPackage).toNat]).gInstances)[(o.gAt).toNat]).gHasAssoc)), .leaf (.int .i64 ((((w.gPackages[(o.gPackage).toNat]).gInstances)[(o.gAt).toNat]).gAssoc.gKind)), .leaf (.string ((((w.gPackages[(o.gPackage).toNat]).gInstances)[(o.gAt).toNat]).gAssoc.gName)), .row 3 (GType.trs ((((w.gPackages[(o.gPackage).toNat]).gInstances)[(o.gAt).toNat]).gAssoc.gArgs)), .row 11 (GMethod.trs ((((w.gPackages[(o.gPackage).toNat]).gInstances)[(o.gAt).toNat]).gMethods))]) rfl rfl (hl 45 (some 9) _ (.head _) rfl) sh113 rfl rfl⟩
          · refine .inl ⟨rfl, fun s' bb hs hl => ?_⟩
            refine .inr ⟨rfl, AOp.congr (AOp.storePtr (cs := [.t (.leaf (.string ((((w.gPackages[(o.gPackage).toNat]).gInstances)[(o.gAt).toNat]).gTrait))), .t (.row 1 (strTrs ((((w.gPackages[(o.gPackage).toNat]).gInstances)[(o.gAt).toNat]).gVars))), .t (.leaf (.int .i64 ((((w.gPackages[(o.gPackage).toNat]).gInstances)[(o.gAt).toNat]).gHead.gKind))), .t (.leaf (.string ((((w.gPackages[(o.gPackage).toNat]).gInstances)[(o.gAt).toNat]).gHead.gName))), .t (.row 3 (GType.trs ((((w.gPackages[(o.gPackage).toNat]).gInstances)[(o.gAt).toNat]).gHead.gArgs))), .t (.row 4 (GBound.trs ((((w.gPackages[(o.gPackage).toNat]).gInstances)[(o.gAt).toNat]).gWhere))), .t (.leaf (.bool ((((w.gPackages[(o.gPackage).toNat]).gInstances)[(o.gAt).toNat]).gDefault))), .t (.leaf (.bool ((((w.gPackages[(o.gPackage).toNat]).gInstances)[(o.gAt).toNat]).gHasAssoc))), .t (.leaf (.int .i64 ((((w.gPackages[(o.gPackage).toNat]).gInstances)[(o.gAt).toNat]).gAssoc.gKind))), .t (.leaf (.string ((((w.gPackages[(o.gPackage).toNat]).gInstances)[(o.gAt).toNat]).gAssoc.gName))), .t (.row 3 (GType.trs ((((w.gPackages[(o.gPackage).toNat]).gInstances)[(o.gAt).toNat]).gAssoc.gArgs))), .t (.row 11 (GMethod.trs ((((w.gPackages[(o.gPackage).toNat]).gInstances)[(o.gAt).toNat]).gMethods)))]) (ds := [.t (.leaf (.string ((((w.gPackages[(o.gPackage).toNat]).gInstances)[(o.gAt).toNat]).gTrait))), .t (.row 1 (strTrs ((((w.gPackages[(o.gPackage).toNat]).gInstances)[(o.gAt).toNat]).gVars))), .t (.leaf (.int .i64 ((((w.gPackages[(o.gPackage).toNat]).gInstances)[(o.gAt).toNat]).gHead.gKind))), .t (.leaf (.string ((((w.gPackages[(o.gPackage).toNat]).gInstances)[(o.gAt).toNat]).gHead.gName))), .t (.row 3 (GType.trs ((((w.gPackages[(o.gPackage).toNat]).gInstances)[(o.gAt).toNat]).gHead.gArgs))), .t (.row 4 (GBound.trs ((((w.gPackages[(o.gPackage).toNat]).gInstances)[(o.gAt).toNat]).gWhere))), .t (.leaf (.bool ((((w.gPackages[(o.gPackage).toNat]).gInstances)[(o.gAt).toNat]).gDefault))), .t (.leaf (.bool ((((w.gPackages[(o.gPackage).toNat]).gInstances)[(o.gAt).toNat]).gHasAssoc))), .t (.leaf (.int .i64 ((((w.gPackages[(o.gPackage).toNat]).gInstances)[(o.gAt).toNat]).gAssoc.gKind))), .t (.leaf (.string ((((w.gPackages[(o.gPackage).toNat]).gInstances)[(o.gAt).toNat]).gAssoc.gName))), .t (.row 3 (GType.trs ((((w.gPackages[(o.gPackage).toNat]).gInstances)[(o.gAt).toNat]).gAssoc.gArgs))), .t (.row 11 (GMethod.trs ((((w.gPackages[(o.gPackage).toNat]).gInstances)[(o.gAt).toNat]).gMethods)))]) rfl (hl 4 none _ (.head _) rfl) (by rw [hs]; rfl) (hl 46 (some 10) _ (.tail _ (.head _)) rfl) rfl rfl rfl sz113 (Nat.le_of_ble_eq_true rfl) rfl) ?_⟩
            first | (rw [hs]; rfl) | rfl
          · refine .inl ⟨rfl, fun s' jj bb (h1 : 1 ≤ jj) (h2 : jj ≤ 1) hs hl => ?_⟩
            obtain rfl : jj = 1 := by omega
            exact ⟨_, rfl, AOp.move (.inr rfl) rfl rfl⟩
          refine AWP.ret ?_
          exact Ends.mk (ps := [_, _]) (.inr rfl) ⟨⟨_, _, _, rfl, rfl, sh113, rfl, rfl⟩, rfl, trivial⟩ rfl (StLe.mk' (st' := ⟨[], []⟩) trivial rfl) (keeps_nil hC) (q := (.tup [(GInstance.pv (((w.gPackages[(o.gPackage).toNat]).gInstances)[(o.gAt).toNat])), .t (.leaf (.bool (true)))] : PV)) leA rfl ⟨by exact optInst_some (instAt_hit (by omega) (by omega) (by omega) (by omega)), rfl⟩

set_option maxRecDepth 100000 in
set_option maxHeartbeats 4000000 in
theorem inst_spec (w : GProgram) (o : GInstanceRef) : AFun Tryz.prog 77 [(GProgram.pv w), (GInstanceRef.pv o)] (.tup [(GInstance.pv (oInst (GProgram.instAt w o))), .t (.leaf (.bool ((GProgram.instAt w o).isSome)))]) := by
  refine ACalls.intro Tryz.func77 rfl (by first | decide | (simp; done) | (simp; decide)) ?_
  intro C hC
  refine AWP.seq ?_
  refine AWP.region_lit ?_
  refine AL.cons rfl (AOp.box (cs := [.t (.row 6 (GPackage.trs (w.gPackages)))]) rfl rfl rfl rfl rfl) ?_
  refine AL.cons rfl (AOp.box (cs := [.t (.leaf (.int .i64 (o.gPackage))), .t (.leaf (.int .i64 (o.gAt)))]) rfl rfl rfl rfl rfl) ?_
  refine AL.cons rfl (AOp.alloc rfl rfl zr113) ?_
  refine AL.cons rfl (AOp.move (.inr rfl) rfl rfl) ?_
  refine AL.nil ?_
  refine AWP.seq ?_
  refine AWP.seq ?_
  refine AWP.fact (box_lenN 0 0 rfl rfl rfl (GPackage.trs_len _)) (fun hl1 => ?_)
  rcases bool2 (!(decide ((o.gPackage : Int) ≥ 0) && decide ((o.gPackage : Int) ≤ (((w.gPackages.length : Nat) : Int) - 1)))) with g2 | g2
  · skip
    have g2b := g2
    try simp only [Bool.and_eq_true, Bool.or_eq_true, Bool.and_eq_false_iff, Bool.or_eq_false_iff, decide_eq_true_eq, decide_eq_false_iff_not, Bool.not_eq_true', Bool.not_eq_false', Bool.not_eq_eq_eq_not, Bool.not_true, Bool.not_false, ge_iff_le, gt_iff_lt, Int.not_lt, Int.not_le] at g2b
    refine AWP.drawnL ⟨_, _, fun _ _ => (⟨[some ⟨31, [.t (.row 6 (GPackage.trs (w.gPackages)))]⟩, some ⟨33, [.t (.leaf (.int .i64 (o.gPackage))), .t (.leaf (.int .i64 (o.gAt)))]⟩, some ⟨113, [.t (.leaf (.string (⟨#[]⟩))), .nil, .t (.leaf (.int .i64 (0))), .t (.leaf (.string (⟨#[]⟩))), .nil, .nil, .t (.leaf (.bool (false))), .t (.leaf (.bool (false))), .t (.leaf (.int .i64 (0))), .t (.leaf (.string (⟨#[]⟩))), .nil, .nil]⟩], []⟩ : Sto), fun q' => ([some (.ptr 1 0), some (.t (.leaf (.int .i64 (o.gPackage)))), some (.ptr 0 0), some (.t (.row 6 (GPackage.trs (w.gPackages)))), some (.t (.leaf (.int .i64 (((w.gPackages.length : Nat) : Int))))), some (.t (.leaf (.int .i64 (((w.gPackages.length : Nat) : Int) - 1)))), some (.t (.leaf (.bool (decide ((o.gPackage : Int) ≥ 0) && decide ((o.gPackage : Int) ≤ (((w.gPackages.length : Nat) : Int) - 1)))))), some (.t (.leaf (.bool (!(decide ((o.gPackage : Int) ≥ 0) && decide ((o.gPackage : Int) ≤ (((w.gPackages.length : Nat) : Int) - 1))))))), some (.t (.leaf (.bool (!(decide ((o.gPackage : Int) ≥ 0) && decide ((o.gPackage : Int) ≤ (((w.gPackages.length : Nat) : Int) - 1))))))), none, none, none, none, none, none, none, none, none, none, none, none, none, some (.t (.leaf (.bool (true))))] : List (Option PV)).getD q' none, fun q' => ([.q 0 0, .q 0 0, .q 0 0, .q 0 0, .q 0 0, .q 0 0, .q 0 0, .q 0 0, .q 0 0, .q 0 0, .q 0 0, .q 0 0, .q 0 0, .q 0 0, .q 0 0, .q 0 0, .q 0 0, .q 0 0, .q 0 0, .q 0 0, .q 0 0, .q 0 0, .q 0 0] : List DK).getD q' (.q 0 0), [], none, fun q' => ([[(3, none)], [(6, some 0)], [(2, none)], [(8, some 2)], [(9, some 3)], [(10, some 4)], [(11, some 5), (7, some 1)], [(12, some 6)], [(13, some 7)], [], [], [], [], [], [], [], [], [], [], [], [], [], [(14, some 8)]] : List (List (Nat × Option Nat))).getD q' []⟩ rfl mixed (by kernel_rfl) rfl rfl ⟨?_, ?_, ?_, ?_, ?_, ?_, ?_, ?_, ?_, ?_, ?_, ?_, ?_, ?_, ?_, ?_, ?_, ?_, ?_, ?_, ?_, ?_, ?_, trivial⟩ rfl ?_
    · refine .inl ⟨rfl, fun s' jj bb (h1 : 0 ≤ jj) (h2 : jj ≤ 0) hs hl => ?_⟩
      obtain rfl : jj = 0 := by omega
      exact ⟨_, rfl, AOp.fieldPtr (k := 1) (d := 0) (e := 0) rfl rfl (hl 3 none _ (.head _) rfl) fo33_0⟩
    · refine .inl ⟨rfl, fun s' jj bb (h1 : 0 ≤ jj) (h2 : jj ≤ 0) hs hl => ?_⟩
      obtain rfl : jj = 0 := by omega
      exact ⟨_, rfl, AOp.loadPtr1 rfl rfl (hl 6 (some 0) _ (.head _) rfl) (by rw [hs]; rfl) sh3 rfl⟩
    · refine .inl ⟨rfl, fun s' jj bb (h1 : 0 ≤ jj) (h2 : jj ≤ 0) hs hl => ?_⟩
      obtain rfl : jj = 0 := by omega
      exact ⟨_, rfl, AOp.fieldPtr (k := 0) (d := 0) (e := 0) rfl rfl (hl 2 none _ (.head _) rfl) fo31_0⟩
    · refine .inl ⟨rfl, fun s' jj bb (h1 : 0 ≤ jj) (h2 : jj ≤ 0) hs hl => ?_⟩
      obtain rfl : jj = 0 := by omega
      exact ⟨_, rfl, AOp.loadPtr1 rfl rfl (hl 8 (some 2) _ (.head _) rfl) (by rw [hs]; rfl) sh29 rfl⟩
    · refine .inl ⟨rfl, fun s' jj bb (h1 : 0 ≤ jj) (h2 : jj ≤ 0) hs hl => ?_⟩
      obtain rfl : jj = 0 := by omega
      exact ⟨_, rfl, AOp.lenN rfl rfl (hl 9 (some 3) _ (.head _) rfl) rfl el29 (GPackage.trs_len _)⟩
    · refine .inl ⟨rfl, fun s' jj bb (h1 : 0 ≤ jj) (h2 : jj ≤ 0) hs hl => ?_⟩
      obtain rfl : jj = 0 := by omega
      exact ⟨_, rfl, AOp.subI rfl rfl (hl 10 (some 4) _ (.head _) rfl) rfl (c := ((w.gPackages.length : Nat) : Int) - 1) (by omega) (by omega)⟩
    · refine .inl ⟨rfl, fun s' jj bb (h1 : 0 ≤ jj) (h2 : jj ≤ 0) hs hl => ?_⟩
      obtain rfl : jj = 0 := by omega
      exact ⟨_, rfl, AOp.callF (ps := [_, _, _]) rfl rfl Tryz.func137 (by kernel_rfl) rfl (evs_cons (hl 7 (some 1) _ (.tail _ (.head _)) rfl) (evs_cons rfl (evs_cons (hl 11 (some 5) _ (.head _) rfl) rfl))) leA rfl rfl (in_ok o.gPackage 0 (((w.gPackages.length : Nat) : Int) - 1))⟩
    · refine .inl ⟨rfl, fun s' jj bb (h1 : 0 ≤ jj) (h2 : jj ≤ 0) hs hl => ?_⟩
      obtain rfl : jj = 0 := by omega
      exact ⟨_, rfl, AOp.notB rfl rfl (hl 12 (some 6) _ (.head _) rfl)⟩
    · refine .inl ⟨rfl, fun s' jj bb (h1 : 0 ≤ jj) (h2 : jj ≤ 0) hs hl => ?_⟩
      obtain rfl : jj = 0 := by omega
      exact ⟨_, rfl, AOp.move (.inl rfl) rfl (hl 13 (some 7) _ (.head _) rfl)⟩
    · exact .inr ⟨(congrArg (fun b => some (b == false)) g2), rfl, ⟨_, _, rfl⟩, fun d hd => by cases hd; rfl⟩
    · exact .inr ⟨(congrArg (fun b => some (b == false)) g2), rfl, ⟨_, _, rfl⟩, fun d hd => by cases hd; rfl⟩
    · exact .inr ⟨(congrArg (fun b => some (b == false)) g2), rfl, ⟨_, _, rfl⟩, fun d hd => by cases hd; rfl⟩
    · exact .inr ⟨(congrArg (fun b => some (b == false)) g2), rfl, ⟨_, _, rfl⟩, fun d hd => by cases hd; rfl⟩
    · exact .inr ⟨(congrArg (fun b => some (b == false)) g2), rfl, ⟨_, _, rfl⟩, fun d hd => by cases hd; rfl⟩
    · exact .inr ⟨(congrArg (fun b => some (b == false)) g2), rfl, ⟨_, _, rfl⟩, fun d hd => by cases hd; rfl⟩
    · exact .inr ⟨(congrArg (fun b => some (b == false)) g2), rfl, ⟨_, _, rfl⟩, fun d hd => by cases hd; rfl⟩
    · exact .inr ⟨(congrArg (fun b => some (b == false)) g2), rfl, ⟨_, _, rfl⟩, fun d hd => by cases hd; rfl⟩
    · exact .inr ⟨(congrArg (fun b => some (b == false)) g2), rfl, ⟨_, _, rfl⟩, fun d hd => by cases hd; rfl⟩
    · exact .inr ⟨(congrArg (fun b => some (b == false)) g2), rfl, ⟨_, _, rfl⟩, fun d hd => by cases hd; rfl⟩
    · exact .inr ⟨(congrArg (fun b => some (b == false)) g2), rfl, ⟨_, _, rfl⟩, fun d hd => by cases hd; rfl⟩
    · exact .inr ⟨(congrArg (fun b => some (b == false)) g2), rfl, ⟨_, _, rfl⟩, fun d hd => by cases hd; rfl⟩
    · exact .inr ⟨(congrArg (fun b => some (b == false)) g2), rfl, ⟨_, _, rfl⟩, fun d hd => by cases hd; rfl⟩
    · refine .inl ⟨rfl, fun s' jj bb (h1 : 0 ≤ jj) (h2 : jj ≤ 0) hs hl => ?_⟩
      obtain rfl : jj = 0 := by omega
      exact ⟨_, rfl, AOp.pickT rfl rfl (hl 14 (some 8) _ (.head _) rfl) g2 rfl⟩
    refine AWP.cond rfl (fun h3 => ?_) (fun h3 => ?_)
    · skip
      have h3b := h3
      try simp only [Bool.and_eq_true, Bool.or_eq_true, Bool.and_eq_false_iff, Bool.or_eq_false_iff, decide_eq_true_eq, decide_eq_false_iff_not, Bool.not_eq_true', Bool.not_eq_false', Bool.not_eq_eq_eq_not, Bool.not_true, Bool.not_false, ge_iff_le, gt_iff_lt, Int.not_lt, Int.not_le] at h3b
      refine AWP.seq ?_
      refine AWP.region_lit ?_
      refine AL.cons rfl (AOp.build rfl rfl zr113 pl113 rfl rfl) ?_
      refine AL.cons rfl (AOp.storePtr (cs := [.t (.leaf (.string (⟨#[]⟩))), .nil, .t (.leaf (.int .i64 (0))), .t (.leaf (.string (⟨#[]⟩))), .nil, .nil, .t (.leaf (.bool (false))), .t (.leaf (.bool (false))), .t (.leaf (.int .i64 (0))), .t (.leaf (.string (⟨#[]⟩))), .nil, .nil]) (ds := [.t (.leaf (.string (⟨#[]⟩))), .nil, .t (.leaf (.int .i64 (0))), .t (.leaf (.string (⟨#[]⟩))), .nil, .nil, .t (.leaf (.bool (false))), .t (.leaf (.bool (false))), .t (.leaf (.int .i64 (0))), .t (.leaf (.string (⟨#[]⟩))), .nil, .nil]) rfl rfl rfl rfl rfl rfl rfl sz113 (Nat.le_of_ble_eq_true rfl) rfl) ?_
      refine AL.cons rfl (AOp.move (.inr rfl) rfl rfl) ?_
      refine AL.nil ?_
      refine AWP.ret ?_
      exact Ends.mk (ps := [_, _]) (.inr rfl) ⟨⟨_, _, _, rfl, rfl, sh113, rfl, rfl⟩, rfl, trivial⟩ rfl (StLe.mk' (st' := ⟨[], []⟩) trivial rfl) (keeps_nil hC) (q := PV.tup [GInstance.pv GInstance.zero, .t (.leaf (.bool (false)))]) leA rfl ⟨by exact optInst_none (by first | exact instAt_m1 (by omega) | exact instAt_m2 (by omega) (by omega)), rfl⟩
    · skip
      exact absurd (h3.symm.trans rfl) (by decide)
  · skip
    have g2b := g2
    try simp only [Bool.and_eq_true, Bool.or_eq_true, Bool.and_eq_false_iff, Bool.or_eq_false_iff, decide_eq_true_eq, decide_eq_false_iff_not, Bool.not_eq_true', Bool.not_eq_false', Bool.not_eq_eq_eq_not, Bool.not_true, Bool.not_false, ge_iff_le, gt_iff_lt, Int.not_lt, Int.not_le] at g2b
    have hn4 : (o.gPackage).toNat < w.gPackages.length := by omega
    refine AWP.fact (box_len2 0 0 rfl rfl rfl (GPackage.trs_cs hn4) (j2 := 4) rfl (GInstance.trs_len _)) (fun hl5 => ?_)
    refine AWP.drawnL ⟨_, _, fun _ _ => (⟨[some ⟨31, [.t (.row 6 (GPackage.trs (w.gPackages)))]⟩, some ⟨33, [.t (.leaf (.int .i64 (o.gPackage))), .t (.leaf (.int .i64 (o.gAt)))]⟩, some ⟨113, [.t (.leaf (.string (⟨#[]⟩))), .nil, .t (.leaf (.int .i64 (0))), .t (.leaf (.string (⟨#[]⟩))), .nil, .nil, .t (.leaf (.bool (false))), .t (.leaf (.bool (false))), .t (.leaf (.int .i64 (0))), .t (.leaf (.string (⟨#[]⟩))), .nil, .nil]⟩], []⟩ : Sto), fun q' => ([some (.ptr 1 0), some (.t (.leaf (.int .i64 (o.gPackage)))), some (.ptr 0 0), some (.t (.row 6 (GPackage.trs (w.gPackages)))), some (.t (.leaf (.int .i64 (((w.gPackages.length : Nat) : Int))))), some (.t (.leaf (.int .i64 (((w.gPackages.length : Nat) : Int) - 1)))), some (.t (.leaf (.bool (decide ((o.gPackage : Int) ≥ 0) && decide ((o.gPackage : Int) ≤ (((w.gPackages.length : Nat) : Int) - 1)))))), some (.t (.leaf (.bool (!(decide ((o.gPackage : Int) ≥ 0) && decide ((o.gPackage : Int) ≤ (((w.gPackages.length : Nat) : Int) - 1))))))), some (.t (.leaf (.bool (!(decide ((o.gPackage : Int) ≥ 0) && decide ((o.gPackage : Int) ≤ (((w.gPackages.length : Nat) : Int) - 1))))))), some (.ptr 1 1), some (.t (.leaf (.int .i64 (o.gAt)))), some (.ptr 0 0), some (.t (.row 6 (GPackage.trs (w.gPackages)))), some (.ptr 1 0), some (.t (.leaf (.int .i64 (o.gPackage)))), some (.eptr (GPackage.cs (w.gPackages[(o.gPackage).toNat]))), some (.eptr ((GPackage.cs (w.gPackages[(o.gPackage).toNat])).drop 4)), some (.t (.row 12 (GInstance.trs ((w.gPackages[(o.gPackage).toNat]).gInstances)))), some (.t (.leaf (.int .i64 (((((w.gPackages[(o.gPackage).toNat]).gInstances).length : Nat) : Int))))), some (.t (.leaf (.int .i64 (((((w.gPackages[(o.gPackage).toNat]).gInstances).length : Nat) : Int) - 1)))), some (.t (.leaf (.bool (decide ((o.gAt : Int) ≥ 0) && decide ((o.gAt : Int) ≤ (((((w.gPackages[(o.gPackage).toNat]).gInstances).length : Nat) : Int) - 1)))))), some (.t (.leaf (.bool (!(decide ((o.gAt : Int) ≥ 0) && decide ((o.gAt : Int) ≤ (((((w.gPackages[(o.gPackage).toNat]).gInstances).length : Nat) : Int) - 1))))))), some (.t (.leaf (.bool (!(decide ((o.gAt : Int) ≥ 0) && decide ((o.gAt : Int) ≤ (((((w.gPackages[(o.gPackage).toNat]).gInstances).length : Nat) : Int) - 1)))))))] : List (Option PV)).getD q' none, fun q' => ([.q 0 0, .q 0 0, .q 0 0, .q 0 0, .q 0 0, .q 0 0, .q 0 0, .q 0 0, .q 0 0, .q 0 0, .q 0 0, .q 0 0, .q 0 0, .q 0 0, .q 0 0, .q 0 0, .q 0 0, .q 0 0, .q 0 0, .q 0 0, .q 0 0, .q 0 0, .q 0 0] : List DK).getD q' (.q 0 0), [], none, fun q' => ([[(3, none)], [(6, some 0)], [(2, none)], [(8, some 2)], [(9, some 3)], [(10, some 4)], [(11, some 5), (7, some 1)], [(12, some 6)], [(13, some 7)], [(3, none)], [(15, some 9)], [(2, none)], [(17, some 11)], [(3, none)], [(19, some 13)], [(18, some 12), (20, some 14)], [(21, some 15)], [(22, some 16)], [(23, some 17)], [(24, some 18)], [(25, some 19), (16, some 10)], [(26, some 20)], [(14, some 8), (27, some 21)]] : List (List (Nat × Option Nat))).getD q' []⟩ rfl mixed (by kernel_rfl) rfl rfl ⟨?_, ?_, ?_, ?_, ?_, ?_, ?_, ?_, ?_, ?_, ?_, ?_, ?_, ?_, ?_, ?_, ?_, ?_, ?_, ?_, ?_, ?_, ?_, trivial⟩ rfl ?_
    · refine .inl ⟨rfl, fun s' jj bb (h1 : 0 ≤ jj) (h2 : jj ≤ 0) hs hl => ?_⟩
      obtain rfl : jj = 0 := by omega
      exact ⟨_, rfl, AOp.fieldPtr (k := 1) (d := 0) (e := 0) rfl rfl (hl 3 none _ (.head _) rfl) fo33_0⟩
    · refine .inl ⟨rfl, fun s' jj bb (h1 : 0 ≤ jj) (h2 : jj ≤ 0) hs hl => ?_⟩
      obtain rfl : jj = 0 := by omega
      exact ⟨_, rfl, AOp.loadPtr1 rfl rfl (hl 6 (some 0) _ (.head _) rfl) (by rw [hs]; rfl) sh3 rfl⟩
    · refine .inl ⟨rfl, fun s' jj bb (h1 : 0 ≤ jj) (h2 : jj ≤ 0) hs hl => ?_⟩
      obtain rfl : jj = 0 := by omega
      exact ⟨_, rfl, AOp.fieldPtr (k := 0) (d := 0) (e := 0) rfl rfl (hl 2 none _ (.head _) rfl) fo31_0⟩
    · refine .inl ⟨rfl, fun s' jj bb (h1 : 0 ≤ jj) (h2 : jj ≤ 0) hs hl => ?_⟩
      obtain rfl : jj = 0 := by omega
      exact ⟨_, rfl, AOp.loadPtr1 rfl rfl (hl 8 (some 2) _ (.head _) rfl) (by rw [hs]; rfl) sh29 rfl⟩
    · refine .inl ⟨rfl, fun s' jj bb (h1 : 0 ≤ jj) (h2 : jj ≤ 0) hs hl => ?_⟩
      obtain rfl : jj = 0 := by omega
      exact ⟨_, rfl, AOp.lenN rfl rfl (hl 9 (some 3) _ (.head _) rfl) rfl el29 (GPackage.trs_len _)⟩
    · refine .inl ⟨rfl, fun s' jj bb (h1 : 0 ≤ jj) (h2 : jj ≤ 0) hs hl => ?_⟩
      obtain rfl : jj = 0 := by omega
      exact ⟨_, rfl, AOp.subI rfl rfl (hl 10 (some 4) _ (.head _) rfl) rfl (c := ((w.gPackages.length : Nat) : Int) - 1) (by omega) (by omega)⟩
    · refine .inl ⟨rfl, fun s' jj bb (h1 : 0 ≤ jj) (h2 : jj ≤ 0) hs hl => ?_⟩
      obtain rfl : jj = 0 := by omega
      exact ⟨_, rfl, AOp.callF (ps := [_, _, _]) rfl rfl Tryz.func137 (by kernel_rfl) rfl (evs_cons (hl 7 (some 1) _ (.tail _ (.head _)) rfl) (evs_cons rfl (evs_cons (hl 11 (some 5) _ (.head _) rfl) rfl))) leA rfl rfl (in_ok o.gPackage 0 (((w.gPackages.length : Nat) : Int) - 1))⟩
    · refine .inl ⟨rfl, fun s' jj bb (h1 : 0 ≤ jj) (h2 : jj ≤ 0) hs hl => ?_⟩
      obtain rfl : jj = 0 := by omega
      exact ⟨_, rfl, AOp.notB rfl rfl (hl 12 (some 6) _ (.head _) rfl)⟩
    · refine .inl ⟨rfl, fun s' jj bb (h1 : 0 ≤ jj) (h2 : jj ≤ 0) hs hl => ?_⟩
      obtain rfl : jj = 0 := by omega
      exact ⟨_, rfl, AOp.move (.inl rfl) rfl (hl 13 (some 7) _ (.head _) rfl)⟩
    · refine .inl ⟨(congrArg (fun b => some (b == false)) g2), fun s' jj bb (h1 : 0 ≤ jj) (h2 : jj ≤ 0) hs hl => ?_⟩
      obtain rfl : jj = 0 := by omega
      exact ⟨_, rfl, AOp.fieldPtr (k := 1) (d := 0) (e := 1) rfl rfl (hl 3 none _ (.head _) rfl) fo33_1⟩
    · refine .inl ⟨(congrArg (fun b => some (b == false)) g2), fun s' jj bb (h1 : 0 ≤ jj) (h2 : jj ≤ 0) hs hl => ?_⟩
      obtain rfl : jj = 0 := by omega
      exact ⟨_, rfl, AOp.loadPtr1 rfl rfl (hl 15 (some 9) _ (.head _) rfl) (by rw [hs]; rfl) sh3 rfl⟩
    · refine .inl ⟨(congrArg (fun b => some (b == false)) g2), fun s' jj bb (h1 : 0 ≤ jj) (h2 : jj ≤ 0) hs hl => ?_⟩
      obtain rfl : jj = 0 := by omega
      exact ⟨_, rfl, AOp.fieldPtr (k := 0) (d := 0) (e := 0) rfl rfl (hl 2 none _ (.head _) rfl) fo31_0⟩
    · refine .inl ⟨(congrArg (fun b => some (b == false)) g2), fun s' jj bb (h1 : 0 ≤ jj) (h2 : jj ≤ 0) hs hl => ?_⟩
      obtain rfl : jj = 0 := by omega
      exact ⟨_, rfl, AOp.loadPtr1 rfl rfl (hl 17 (some 11) _ (.head _) rfl) (by rw [hs]; rfl) sh29 rfl⟩
    · refine .inl ⟨(congrArg (fun b => some (b == false)) g2), fun s' jj bb (h1 : 0 ≤ jj) (h2 : jj ≤ 0) hs hl => ?_⟩
      obtain rfl : jj = 0 := by omega
      exact ⟨_, rfl, AOp.fieldPtr (k := 1) (d := 0) (e := 0) rfl rfl (hl 3 none _ (.head _) rfl) fo33_0⟩
    · refine .inl ⟨(congrArg (fun b => some (b == false)) g2), fun s' jj bb (h1 : 0 ≤ jj) (h2 : jj ≤ 0) hs hl => ?_⟩
      obtain rfl : jj = 0 := by omega
      exact ⟨_, rfl, AOp.loadPtr1 rfl rfl (hl 19 (some 13) _ (.head _) rfl) (by rw [hs]; rfl) sh3 rfl⟩
    · refine .inl ⟨(congrArg (fun b => some (b == false)) g2), fun s' jj bb (h1 : 0 ≤ jj) (h2 : jj ≤ 0) hs hl => ?_⟩
      obtain rfl : jj = 0 := by omega
      exact ⟨_, rfl, AOp.indexI (y := o.gPackage) rfl rfl (hl 18 (some 12) _ (.head _) rfl) rfl (hl 20 (some 14) _ (.tail _ (.head _)) rfl) (by omega) (GPackage.trs_cs hn4) el29⟩
    · refine .inl ⟨(congrArg (fun b => some (b == false)) g2), fun s' jj bb (h1 : 0 ≤ jj) (h2 : jj ≤ 0) hs hl => ?_⟩
      obtain rfl : jj = 0 := by omega
      exact ⟨_, rfl, AOp.fieldEptr (cs := (GPackage.cs (w.gPackages[(o.gPackage).toNat]))) (e := 4) rfl rfl (hl 21 (some 15) _ (.head _) rfl) fo126_4⟩
    · refine .inl ⟨(congrArg (fun b => some (b == false)) g2), fun s' jj bb (h1 : 0 ≤ jj) (h2 : jj ≤ 0) hs hl => ?_⟩
      obtain rfl : jj = 0 := by omega
      exact ⟨_, rfl, AOp.loadEptr1 (d := .row 12 (GInstance.trs ((w.gPackages[(o.gPackage).toNat]).gInstances))) rfl rfl (hl 22 (some 16) _ (.head _) rfl) sh123 rfl⟩
    · refine .inl ⟨(congrArg (fun b => some (b == false)) g2), fun s' jj bb (h1 : 0 ≤ jj) (h2 : jj ≤ 0) hs hl => ?_⟩
      obtain rfl : jj = 0 := by omega
      exact ⟨_, rfl, AOp.lenN rfl rfl (hl 23 (some 17) _ (.head _) rfl) rfl el123 (GInstance.trs_len _)⟩
    · refine .inl ⟨(congrArg (fun b => some (b == false)) g2), fun s' jj bb (h1 : 0 ≤ jj) (h2 : jj ≤ 0) hs hl => ?_⟩
      obtain rfl : jj = 0 := by omega
      exact ⟨_, rfl, AOp.subI rfl rfl (hl 24 (some 18) _ (.head _) rfl) rfl (c := ((((w.gPackages[(o.gPackage).toNat]).gInstances).length : Nat) : Int) - 1) (by omega) (by omega)⟩
    · refine .inl ⟨(congrArg (fun b => some (b == false)) g2), fun s' jj bb (h1 : 0 ≤ jj) (h2 : jj ≤ 0) hs hl => ?_⟩
      obtain rfl : jj = 0 := by omega
      exact ⟨_, rfl, AOp.callF (ps := [_, _, _]) rfl rfl Tryz.func137 (by kernel_rfl) rfl (evs_cons (hl 16 (some 10) _ (.tail _ (.head _)) rfl) (evs_cons rfl (evs_cons (hl 25 (some 19) _ (.head _) rfl) rfl))) leA rfl rfl (in_ok o.gAt 0 (((((w.gPackages[(o.gPackage).toNat]).gInstances).length : Nat) : Int) - 1))⟩
    · refine .inl ⟨(congrArg (fun b => some (b == false)) g2), fun s' jj bb (h1 : 0 ≤ jj) (h2 : jj ≤ 0) hs hl => ?_⟩
      obtain rfl : jj = 0 := by omega
      exact ⟨_, rfl, AOp.notB rfl rfl (hl 26 (some 20) _ (.head _) rfl)⟩
    · refine .inl ⟨rfl, fun s' jj bb (h1 : 0 ≤ jj) (h2 : jj ≤ 0) hs hl => ?_⟩
      obtain rfl : jj = 0 := by omega
      exact ⟨_, rfl, AOp.pickF rfl rfl (hl 14 (some 8) _ (.head _) rfl) g2 (hl 27 (some 21) _ (.tail _ (.head _)) rfl)⟩
    refine AWP.cond rfl (fun h6 => ?_) (fun h6 => ?_)
    · skip
      have h6b := h6
      try simp only [Bool.and_eq_true, Bool.or_eq_true, Bool.and_eq_false_iff, Bool.or_eq_false_iff, decide_eq_true_eq, decide_eq_false_iff_not, Bool.not_eq_true', Bool.not_eq_false', Bool.not_eq_eq_eq_not, Bool.not_true, Bool.not_false, ge_iff_le, gt_iff_lt, Int.not_lt, Int.not_le] at h6b
      refine AWP.seq ?_
      refine AWP.region_lit ?_
      refine AL.cons rfl (AOp.build rfl rfl zr113 pl113 rfl rfl) ?_
      refine AL.cons rfl (AOp.storePtr (cs := [.t (.leaf (.string (⟨#[]⟩))), .nil, .t (.leaf (.int .i64 (0))), .t (.leaf (.string (⟨#[]⟩))), .nil, .nil, .t (.leaf (.bool (false))), .t (.leaf (.bool (false))), .t (.leaf (.int .i64 (0))), .t (.leaf (.string (⟨#[]⟩))), .nil, .nil]) (ds := [.t (.leaf (.string (⟨#[]⟩))), .nil, .t (.leaf (.int .i64 (0))), .t (.leaf (.string (⟨#[]⟩))), .nil, .nil, .t (.leaf (.bool (false))), .t (.leaf (.bool (false))), .t (.leaf (.int .i64 (0))), .t (.leaf (.string (⟨#[]⟩))), .nil, .nil]) rfl rfl rfl rfl rfl rfl rfl sz113 (Nat.le_of_ble_eq_true rfl) rfl) ?_
      refine AL.cons rfl (AOp.move (.inr rfl) rfl rfl) ?_
      refine AL.nil ?_
      refine AWP.ret ?_
      exact Ends.mk (ps := [_, _]) (.inr rfl) ⟨⟨_, _, _, rfl, rfl, sh113, rfl, rfl⟩, rfl, trivial⟩ rfl (StLe.mk' (st' := ⟨[], []⟩) trivial rfl) (keeps_nil hC) (q := PV.tup [GInstance.pv GInstance.zero, .t (.leaf (.bool (false)))]) leA rfl ⟨by exact optInst_none (by first | exact instAt_m1 (by omega) | exact instAt_m2 (by omega) (by omega)), rfl⟩
    · skip
      have h6b := h6
      try simp only [Bool.and_eq_true, Bool.or_eq_true, Bool.and_eq_false_iff, Bool.or_eq_false_iff, decide_eq_true_eq, decide_eq_false_iff_not, Bool.not_eq_true', Bool.not_eq_false', Bool.not_eq_eq_eq_not, Bool.not_true, Bool.not_false, ge_iff_le, gt_iff_lt, Int.not_lt, Int.not_le] at h6b
      refine AWP.skip ?_
      refine AWP.seq ?_
      have hn7 : (o.gAt).toNat < ((w.gPackages[(o.gPackage).toNat]).gInstances).length := by omega
      refine AWP.drawnL ⟨_, _, fun j' _ => ([(⟨[some ⟨31, [.t (.row 6 (GPackage.trs (w.gPackages)))]⟩, some ⟨33, [.t (.leaf (.int .i64 (o.gPackage))), .t (.leaf (.int .i64 (o.gAt)))]⟩, some ⟨113, [.t (.leaf (.string (⟨#[]⟩))), .nil, .t (.leaf (.int .i64 (0))), .t (.leaf (.string (⟨#[]⟩))), .nil, .nil, .t (.leaf (.bool (false))), .t (.leaf (.bool (false))), .t (.leaf (.int .i64 (0))), .t (.leaf (.string (⟨#[]⟩))), .nil, .nil]⟩], []⟩ : Sto), (⟨[some ⟨31, [.t (.row 6 (GPackage.trs (w.gPackages)))]⟩, some ⟨33, [.t (.leaf (.int .i64 (o.gPackage))), .t (.leaf (.int .i64 (o.gAt)))]⟩, some ⟨113, [.t (.leaf (.string ((((w.gPackages[(o.gPackage).toNat]).gInstances)[(o.gAt).toNat]).gTrait))), .t (.row 1 (strTrs ((((w.gPackages[(o.gPackage).toNat]).gInstances)[(o.gAt).toNat]).gVars))), .t (.leaf (.int .i64 ((((w.gPackages[(o.gPackage).toNat]).gInstances)[(o.gAt).toNat]).gHead.gKind))), .t (.leaf (.string ((((w.gPackages[(o.gPackage).toNat]).gInstances)[(o.gAt).toNat]).gHead.gName))), .t (.row 3 (GType.trs ((((w.gPackages[(o.gPackage).toNat]).gInstances)[(o.gAt).toNat]).gHead.gArgs))), .t (.row 4 (GBound.trs ((((w.gPackages[(o.gPackage).toNat]).gInstances)[(o.gAt).toNat]).gWhere))), .t (.leaf (.bool ((((w.gPackages[(o.gPackage).toNat]).gInstances)[(o.gAt).toNat]).gDefault))), .t (.leaf (.bool ((((w.gPackages[(o.gPackage).toNat]).gInstances)[(o.gAt).toNat]).gHasAssoc))), .t (.leaf (.int .i64 ((((w.gPackages[(o.gPackage).toNat]).gInstances)[(o.gAt).toNat]).gAssoc.gKind))), .t (.leaf (.string ((((w.gPackages[(o.gPackage).toNat]).gInstances)[(o.gAt).toNat]).gAssoc.gName))), .t (.row 3 (GType.trs ((((w.gPackages[(o.gPackage).toNat]).gInstances)[(o.gAt).toNat]).gAssoc.gArgs))), .t (.row 11 (GMethod.trs ((((w.gPackages[(o.gPackage).toNat]).gInstances)[(o.gAt).toNat]).gMethods)))]⟩], []⟩ : Sto)] : List Sto).getD j' (⟨[some ⟨31, [.t (.row 6 (GPackage.trs (w.gPackages)))]⟩, some ⟨33, [.t (.leaf (.int .i64 (o.gPackage))), .t (.leaf (.int .i64 (o.gAt)))]⟩, some ⟨113, [.t (.leaf (.string ((((w.gPackages[(o.gPackage).toNat]).gInstances)[(o.gAt).toNat]).gTrait))), .t (.row 1 (strTrs ((((w.gPackages[(o.gPackage).toNat]).gInstances)[(o.gAt).toNat]).gVars))), .t (.leaf (.int .i64 ((((w.gPackages[(o.gPackage).toNat]).gInstances)[(o.gAt).toNat]).gHead.gKind))), .t (.leaf (.string ((((w.gPackages[(o.gPackage).toNat]).gInstances)[(o.gAt).toNat]).gHead.gName))), .t (.row 3 (GType.trs ((((w.gPackages[(o.gPackage).toNat]).gInstances)[(o.gAt).toNat]).gHead.gArgs))), .t (.row 4 (GBound.trs ((((w.gPackages[(o.gPackage).toNat]).gInstances)[(o.gAt).toNat]).gWhere))), .t (.leaf (.bool ((((w.gPackages[(o.gPackage).toNat]).gInstances)[(o.gAt).toNat]).gDefault))), .t (.leaf (.bool ((((w.gPackages[(o.gPackage).toNat]).gInstances)[(o.gAt).toNat]).gHasAssoc))), .t (.leaf (.int .i64 ((((w.gPackages[(o.gPackage).toNat]).gInstances)[(o.gAt).toNat]).gAssoc.gKind))), .t (.leaf (.string ((((w.gPackages[(o.gPackage).toNat]).gInstances)[(o.gAt).toNat]).gAssoc.gName))), .t (.row 3 (GType.trs ((((w.gPackages[(o.gPackage).toNat]).gInstances)[(o.gAt).toNat]).gAssoc.gArgs))), .t (.row 11 (GMethod.trs ((((w.gPackages[(o.gPackage).toNat]).gInstances)[(o.gAt).toNat]).gMethods)))]⟩], []⟩ : Sto), fun q' => ([some (.ptr 0 0), some (.t (.row 6 (GPackage.trs (w.gPackages)))), some (.ptr 1 0), some (.t (.leaf (.int .i64 (o.gPackage)))), some (.eptr (GPackage.cs (w.gPackages[(o.gPackage).toNat]))), some (.eptr ((GPackage.cs (w.gPackages[(o.gPackage).toNat])).drop 4)), some (.t (.row 12 (GInstance.trs ((w.gPackages[(o.gPackage).toNat]).gInstances)))), some (.ptr 1 1), some (.t (.leaf (.int .i64 (o.gAt)))), some (.eptr (GInstance.cs (((w.gPackages[(o.gPackage).toNat]).gInstances)[(o.gAt).toNat]))), some ((GInstance.pv (((w.gPackages[(o.gPackage).toNat]).gInstances)[(o.gAt).toNat]))), none, some (.t (.leaf (.bool (true))))] : List (Option PV)).getD q' none, fun q' => ([.q 0 0, .q 0 0, .q 0 0, .q 0 0, .q 0 0, .q 0 0, .q 0 0, .q 0 0, .q 0 0, .q 0 0, .q 0 0, .ef 0, .q 1 1] : List DK).getD q' (.q 0 0), [11], none, fun q' => ([[(2, none)], [(30, some 0)], [(3, none)], [(32, some 2)], [(31, some 1), (33, some 3)], [(34, some 4)], [(35, some 5)], [(3, none)], [(37, some 7)], [(36, some 6), (38, some 8)], [(39, some 9)], [(4, none), (40, some 10)], []] : List (List (Nat × Option Nat))).getD q' []⟩ rfl mixed (by kernel_rfl) rfl rfl ⟨?_, ?_, ?_, ?_, ?_, ?_, ?_, ?_, ?_, ?_, ?_, ?_, ?_, trivial⟩ rfl ?_
      · refine .inl ⟨rfl, fun s' jj bb (h1 : 0 ≤ jj) (h2 : jj ≤ 0) hs hl => ?_⟩
        obtain rfl : jj = 0 := by omega
        exact ⟨_, rfl, AOp.fieldPtr (k := 0) (d := 0) (e := 0) rfl rfl (hl 2 none _ (.head _) rfl) fo31_0⟩
      · refine .inl ⟨rfl, fun s' jj bb (h1 : 0 ≤ jj) (h2 : jj ≤ 0) hs hl => ?_⟩
        obtain rfl : jj = 0 := by omega
        exact ⟨_, rfl, AOp.loadPtr1 rfl rfl (hl 30 (some 0) _ (.head _) rfl) (by rw [hs]; rfl) sh29 rfl⟩
      · refine .inl ⟨rfl, fun s' jj bb (h1 : 0 ≤ jj) (h2 : jj ≤ 0) hs hl => ?_⟩
        obtain rfl : jj = 0 := by omega
        exact ⟨_, rfl, AOp.fieldPtr (k := 1) (d := 0) (e := 0) rfl rfl (hl 3 none _ (.head _) rfl) fo33_0⟩
      · refine .inl ⟨rfl, fun s' jj bb (h1 : 0 ≤ jj) (h2 : jj ≤ 0) hs hl => ?_⟩
        obtain rfl : jj = 0 := by omega
        exact ⟨_, rfl, AOp.loadPtr1 rfl rfl (hl 32 (some 2) _ (.head _) rfl) (by rw [hs]; rfl) sh3 rfl⟩
      · refine .inl ⟨rfl, fun s' jj bb (h1 : 0 ≤ jj) (h2 : jj ≤ 0) hs hl => ?_⟩
        obtain rfl : jj = 0 := by omega
        exact ⟨_, rfl, AOp.indexI (y := o.gPackage) rfl rfl (hl 31 (some 1) _ (.head _) rfl) rfl (hl 33 (some 3) _ (.tail _ (.head _)) rfl) (by omega) (GPackage.trs_cs hn4) el29⟩
      · refine .inl ⟨rfl, fun s' jj bb (h1 : 0 ≤ jj) (h2 : jj ≤ 0) hs hl => ?_⟩
        obtain rfl : jj = 0 := by omega
        exact ⟨_, rfl, AOp.fieldEptr (cs := (GPackage.cs (w.gPackages[(o.gPackage).toNat]))) (e := 4) rfl rfl (hl 34 (some 4) _ (.head _) rfl) fo126_4⟩
      · refine .inl ⟨rfl, fun s' jj bb (h1 : 0 ≤ jj) (h2 : jj ≤ 0) hs hl => ?_⟩
        obtain rfl : jj = 0 := by omega
        exact ⟨_, rfl, AOp.loadEptr1 (d := .row 12 (GInstance.trs ((w.gPackages[(o.gPackage).toNat]).gInstances))) rfl rfl (hl 35 (some 5) _ (.head _) rfl) sh123 rfl⟩
      · refine .inl ⟨rfl, fun s' jj bb (h1 : 0 ≤ jj) (h2 : jj ≤ 0) hs hl => ?_⟩
        obtain rfl : jj = 0 := by omega
        exact ⟨_, rfl, AOp.fieldPtr (k := 1) (d := 0) (e := 1) rfl rfl (hl 3 none _ (.head _) rfl) fo33_1⟩
      · refine .inl ⟨rfl, fun s' jj bb (h1 : 0 ≤ jj) (h2 : jj ≤ 0) hs hl => ?_⟩
        obtain rfl : jj = 0 := by omega
        exact ⟨_, rfl, AOp.loadPtr1 rfl rfl (hl 37 (some 7) _ (.head _) rfl) (by rw [hs]; rfl) sh3 rfl⟩
      · refine .inl ⟨rfl, fun s' jj bb (h1 : 0 ≤ jj) (h2 : jj ≤ 0) hs hl => ?_⟩
        obtain rfl : jj = 0 := by omega
        exact ⟨_, rfl, AOp.indexI (y := o.gAt) rfl rfl (hl 36 (some 6) _ (.head _) rfl) rfl (hl 38 (some 8) _ (.tail _ (.head _)) rfl) (by omega) (GInstance.trs_cs hn7) el123⟩
      · refine .inl ⟨rfl, fun s' jj bb (h1 : 0 ≤ jj) (h2 : jj ≤ 0) hs hl => ?_⟩
        obtain rfl : jj = 0 := by omega
        exact ⟨_, rfl, AOp.loadEptr (ds := [.leaf (.string ((((w.gPackages[(o.gPackage).toNat]).gInstances)[(o.gAt).toNat]).gTrait)), .row 1 (strTrs ((((w.gPackages[(o.gPackage).toNat]).gInstances)[(o.gAt).toNat]).gVars)), .leaf (.int .i64 ((((w.gPackages[(o.gPackage).toNat]).gInstances)[(o.gAt).toNat]).gHead.gKind)), .leaf (.string ((((w.gPackages[(o.gPackage).toNat]).gInstances)[(o.gAt).toNat]).gHead.gName)), .row 3 (GType.trs ((((w.gPackages[(o.gPackage).toNat]).gInstances)[(o.gAt).toNat]).gHead.gArgs)), .row 4 (GBound.trs ((((w.gPackages[(o.gPackage).toNat]).gInstances)[(o.gAt).toNat]).gWhere)), .leaf (.bool ((((w.gPackages[(o.gPackage).toNat]).gInstances)[(o.gAt).toNat]).gDefault)), .leaf (.bool ((((w.gPackages[(o.gPackage).toNat]).gInstances)[(o.gAt).toNat]).gHasAssoc)), .leaf (.int .i64 ((((w.gPackages[(o.gPackage).toNat]).gInstances)[(o.gAt).toNat]).gAssoc.gKind)), .leaf (.string ((((w.gPackages[(o.gPackage).toNat]).gInstances)[(o.gAt).toNat]).gAssoc.gName)), .row 3 (GType.trs ((((w.gPackages[(o.gPackage).toNat]).gInstances)[(o.gAt).toNat]).gAssoc.gArgs)), .row 11 (GMethod.trs ((((w.gPackages[(o.gPackage).toNat]).gInstances)[(o.gAt).toNat]).gMethods))]) rfl rfl (hl 39 (some 9) _ (.head _) rfl) sh113 rfl rfl⟩
      · refine .inl ⟨rfl, fun s' bb hs hl => ?_⟩
        refine .inr ⟨rfl, AOp.congr (AOp.storePtr (cs := [.t (.leaf (.string ((((w.gPackages[(o.gPackage).toNat]).gInstances)[(o.gAt).toNat]).gTrait))), .t (.row 1 (strTrs ((((w.gPackages[(o.gPackage).toNat]).gInstances)[(o.gAt).toNat]).gVars))), .t (.leaf (.int .i64 ((((w.gPackages[(o.gPackage).toNat]).gInstances)[(o.gAt).toNat]).gHead.gKind))), .t (.leaf (.string ((((w.gPackages[(o.gPackage).toNat]).gInstances)[(o.gAt).toNat]).gHead.gName))), .t (.row 3 (GType.trs ((((w.gPackages[(o.gPackage).toNat]).gInstances)[(o.gAt).toNat]).gHead.gArgs))), .t (.row 4 (GBound.trs ((((w.gPackages[(o.gPackage).toNat]).gInstances)[(o.gAt).toNat]).gWhere))), .t (.leaf (.bool ((((w.gPackages[(o.gPackage).toNat]).gInstances)[(o.gAt).toNat]).gDefault))), .t (.leaf (.bool ((((w.gPackages[(o.gPackage).toNat]).gInstances)[(o.gAt).toNat]).gHasAssoc))), .t (.leaf (.int .i64 ((((w.gPackages[(o.gPackage).toNat]).gInstances)[(o.gAt).toNat]).gAssoc.gKind))), .t (.leaf (.string ((((w.gPackages[(o.gPackage).toNat]).gInstances)[(o.gAt).toNat]).gAssoc.gName))), .t (.row 3 (GType.trs ((((w.gPackages[(o.gPackage).toNat]).gInstances)[(o.gAt).toNat]).gAssoc.gArgs))), .t (.row 11 (GMethod.trs ((((w.gPackages[(o.gPackage).toNat]).gInstances)[(o.gAt).toNat]).gMethods)))]) (ds := [.t (.leaf (.string ((((w.gPackages[(o.gPackage).toNat]).gInstances)[(o.gAt).toNat]).gTrait))), .t (.row 1 (strTrs ((((w.gPackages[(o.gPackage).toNat]).gInstances)[(o.gAt).toNat]).gVars))), .t (.leaf (.int .i64 ((((w.gPackages[(o.gPackage).toNat]).gInstances)[(o.gAt).toNat]).gHead.gKind))), .t (.leaf (.string ((((w.gPackages[(o.gPackage).toNat]).gInstances)[(o.gAt).toNat]).gHead.gName))), .t (.row 3 (GType.trs ((((w.gPackages[(o.gPackage).toNat]).gInstances)[(o.gAt).toNat]).gHead.gArgs))), .t (.row 4 (GBound.trs ((((w.gPackages[(o.gPackage).toNat]).gInstances)[(o.gAt).toNat]).gWhere))), .t (.leaf (.bool ((((w.gPackages[(o.gPackage).toNat]).gInstances)[(o.gAt).toNat]).gDefault))), .t (.leaf (.bool ((((w.gPackages[(o.gPackage).toNat]).gInstances)[(o.gAt).toNat]).gHasAssoc))), .t (.leaf (.int .i64 ((((w.gPackages[(o.gPackage).toNat]).gInstances)[(o.gAt).toNat]).gAssoc.gKind))), .t (.leaf (.string ((((w.gPackages[(o.gPackage).toNat]).gInstances)[(o.gAt).toNat]).gAssoc.gName))), .t (.row 3 (GType.trs ((((w.gPackages[(o.gPackage).toNat]).gInstances)[(o.gAt).toNat]).gAssoc.gArgs))), .t (.row 11 (GMethod.trs ((((w.gPackages[(o.gPackage).toNat]).gInstances)[(o.gAt).toNat]).gMethods)))]) rfl (hl 4 none _ (.head _) rfl) (by rw [hs]; rfl) (hl 40 (some 10) _ (.tail _ (.head _)) rfl) rfl rfl rfl sz113 (Nat.le_of_ble_eq_true rfl) rfl) ?_⟩
        first | (rw [hs]; rfl) | rfl
      · refine .inl ⟨rfl, fun s' jj bb (h1 : 1 ≤ jj) (h2 : jj ≤ 1) hs hl => ?_⟩
        obtain rfl : jj = 1 := by omega
        exact ⟨_, rfl, AOp.move (.inr rfl) rfl rfl⟩
      refine AWP.ret ?_
      exact Ends.mk (ps := [_, _]) (.inr rfl) ⟨⟨_, _, _, rfl, rfl, sh113, rfl, rfl⟩, rfl, trivial⟩ rfl (StLe.mk' (st' := ⟨[], []⟩) trivial rfl) (keeps_nil hC) (q := (.tup [(GInstance.pv (((w.gPackages[(o.gPackage).toNat]).gInstances)[(o.gAt).toNat])), .t (.leaf (.bool (true)))] : PV)) leA rfl ⟨by exact optInst_some (instAt_hit (by omega) (by omega) (by omega) (by omega)), rfl⟩

end Go.Proofs.YtnakkelglbcecaaGreat
