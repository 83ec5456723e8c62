/- SatisfiesOrphanRule, on both sides. No conditions. -/
import Derived.Test.YtnakkelglbcecaaGreatPmHome
import Derived.Test.YtnakkelglbcecaaGreatPmInst
namespace Go.Proofs.YtnakkelglbcecaaGreat
open Go.RowKit Go.Proofs
set_option linter.unusedSimpArgs false
set_option linter.unusedVariables false

def GProgram.orphan (w : GProgram) (o : GInstanceRef) : Bool := (GProgram.instAt w o).isSome && (((w.traitAt (oInst (GProgram.instAt w o)).gTrait).isSome && decide (oInt (w.traitAt (oInst (GProgram.instAt w o)).gTrait) = o.gPackage)) || decide (GProgram.home w (oInst (GProgram.instAt w o)).gHead = o.gPackage))
set_option maxRecDepth 100000 in
set_option maxHeartbeats 4000000 in
theorem orphan_impl (w : GProgram) (o : GInstanceRef) : AFun Tryz.prog 19 [(GProgram.pv w), (GInstanceRef.pv o)] (.t (.leaf (.bool (GProgram.orphan w o)))) := by
  refine ACalls.intro Tryz.func19 rfl (by first | decide | (simp; done) | (simp; decide)) ?_
  intro C hC
  refine AWP.seq ?_
  refine AWP.region_lit ?_
  refine AL.cons rfl (AOp.box (cs := [.t (.row 6 (GPackage.trs (w.gPackages)))]) rfl rfl rfl rfl rfl) ?_
  refine AL.cons rfl (AOp.box (cs := [.t (.leaf (.int .i64 (o.gPackage))), .t (.leaf (.int .i64 (o.gAt)))]) rfl rfl rfl rfl rfl) ?_
  refine AL.cons rfl (AOp.move (.inr rfl) rfl rfl) ?_
  refine AL.nil ?_
  refine AWP.seq ?_
  refine AWP.region_lit ?_
  refine AL.cons rfl (AOp.loadPtr (cs := [.t (.row 6 (GPackage.trs (w.gPackages)))]) rfl rfl rfl rfl sh31 rfl rfl) ?_
  refine AL.cons rfl (AOp.loadPtr (cs := [.t (.leaf (.int .i64 (o.gPackage))), .t (.leaf (.int .i64 (o.gAt)))]) rfl rfl rfl rfl sh33 rfl rfl) ?_
  refine AL.cons rfl (AOp.callF (ps := [_, _]) rfl rfl Tryz.func81 (by kernel_rfl) rfl rfl (by (repeat' (first | exact PV.Le.refl _ | exact LeL.nil | exact PV.Le.nil _ | exact PV.Le.acc _ _ _ | apply LeL.cons | apply PV.Le.agg | apply PV.Le.tup))) rfl rfl (inst_impl w o)) ?_
  refine AL.cons rfl (AOp.move (.inl rfl) rfl rfl) ?_
  refine AL.cons rfl (AOp.extract rfl rfl rfl rfl) ?_
  refine AL.cons rfl (AOp.extract rfl rfl rfl rfl) ?_
  refine AL.cons rfl (AOp.alloc rfl rfl zr113) ?_
  refine AL.cons rfl (AOp.storePtr (cs := [.t (.leaf (.string ((oInst (GProgram.instAt w o)).gTrait))), .t (.row 1 (strTrs ((oInst (GProgram.instAt w o)).gVars))), .t (.leaf (.int .i64 ((oInst (GProgram.instAt w o)).gHead.gKind))), .t (.leaf (.string ((oInst (GProgram.instAt w o)).gHead.gName))), .t (.row 3 (GType.trs ((oInst (GProgram.instAt w o)).gHead.gArgs))), .t (.row 4 (GBound.trs ((oInst (GProgram.instAt w o)).gWhere))), .t (.leaf (.bool ((oInst (GProgram.instAt w o)).gDefault))), .t (.leaf (.bool ((oInst (GProgram.instAt w o)).gHasAssoc))), .t (.leaf (.int .i64 ((oInst (GProgram.instAt w o)).gAssoc.gKind))), .t (.leaf (.string ((oInst (GProgram.instAt w o)).gAssoc.gName))), .t (.row 3 (GType.trs ((oInst (GProgram.instAt w o)).gAssoc.gArgs))), .t (.row 11 (GMethod.trs ((oInst (GProgram.instAt w o)).gMethods)))]) (ds := [.t (.leaf (.string ((oInst (GProgram.instAt w o)).gTrait))), .t (.row 1 (strTrs ((oInst (GProgram.instAt w o)).gVars))), .t (.leaf (.int .i64 ((oInst (GProgram.instAt w o)).gHead.gKind))), .t (.leaf (.string ((oInst (GProgram.instAt w o)).gHead.gName))), .t (.row 3 (GType.trs ((oInst (GProgram.instAt w o)).gHead.gArgs))), .t (.row 4 (GBound.trs ((oInst (GProgram.instAt w o)).gWhere))), .t (.leaf (.bool ((oInst (GProgram.instAt w o)).gDefault))), .t (.leaf (.bool ((oInst (GProgram.instAt w o)).gHasAssoc))), .t (.leaf (.int .i64 ((oInst (GProgram.instAt w o)).gAssoc.gKind))), .t (.leaf (.string ((oInst (GProgram.instAt w o)).gAssoc.gName))), .t (.row 3 (GType.trs ((oInst (GProgram.instAt w o)).gAssoc.gArgs))), .t (.row 11 (GMethod.trs ((oInst (GProgram.instAt w o)).gMethods)))]) rfl rfl rfl rfl rfl rfl rfl sz113 (Nat.le_of_ble_eq_true rfl) rfl) ?_
  refine AL.cons rfl (AOp.move (.inr rfl) rfl rfl) ?_
  refine AL.nil ?_
  refine AWP.seq ?_
  refine AWP.seq ?_
  refine AWP.region_lit ?_
  refine AL.cons rfl (AOp.move (.inl rfl) rfl rfl) ?_
  refine AL.cons rfl (AOp.notB rfl rfl rfl) ?_
  refine AL.nil ?_
  refine AWP.cond rfl (fun h1 => ?_) (fun h1 => ?_)
  · skip
    have h1b := h1
    try simp only [Bool.and_eq_true, Bool.or_eq_true, Bool.and_eq_false_iff, Bool.or_eq_false_iff, decide_eq_true_eq, decide_eq_false_iff_not, Bool.not_eq_true', Bool.not_eq_false', Bool.not_eq_eq_eq_not, Bool.not_true, Bool.not_false, ge_iff_le, gt_iff_lt, Int.not_lt, Int.not_le] at h1b
    refine AWP.seq ?_
    refine AWP.region_lit ?_
    refine AL.cons rfl (AOp.move (.inr rfl) rfl rfl) ?_
    refine AL.nil ?_
    refine AWP.ret ?_
    exact Ends.mk (ps := [_]) (.inr rfl) ⟨rfl, trivial⟩ rfl (StLe.mk' (st' := ⟨[], []⟩) trivial rfl) (keeps_nil hC) (q := (.t (.leaf (.bool (false))) : PV)) (by (repeat' (first | exact PV.Le.refl _ | exact LeL.nil | exact PV.Le.nil _ | exact PV.Le.acc _ _ _ | apply LeL.cons | apply PV.Le.agg | apply PV.Le.tup))) rfl ⟨by simp_all [GProgram.orphan], rfl⟩
  · skip
    have h1b := h1
    try simp only [Bool.and_eq_true, Bool.or_eq_true, Bool.and_eq_false_iff, Bool.or_eq_false_iff, decide_eq_true_eq, decide_eq_false_iff_not, Bool.not_eq_true', Bool.not_eq_false', Bool.not_eq_eq_eq_not, Bool.not_true, Bool.not_false, ge_iff_le, gt_iff_lt, Int.not_lt, Int.not_le] at h1b
    refine AWP.skip ?_
    refine AWP.seq ?_
    refine AWP.region_lit ?_
    refine AL.cons rfl (AOp.loadPtr (cs := [.t (.row 6 (GPackage.trs (w.gPackages)))]) rfl rfl rfl rfl sh31 rfl rfl) ?_
    refine AL.cons rfl (AOp.fieldPtr (k := 2) (d := 0) (e := 0) rfl rfl rfl fo113_0) ?_
    refine AL.cons rfl (AOp.loadPtr1 rfl rfl rfl rfl sh9 rfl) ?_
    refine AL.cons rfl (AOp.callF (ps := [_, _]) rfl rfl Tryz.func82 (by kernel_rfl) rfl rfl (by (repeat' (first | exact PV.Le.refl _ | exact LeL.nil | exact PV.Le.nil _ | exact PV.Le.acc _ _ _ | apply LeL.cons | apply PV.Le.agg | apply PV.Le.tup))) rfl rfl (trait_impl w ((oInst (GProgram.instAt w o)).gTrait))) ?_
    refine AL.cons rfl (AOp.move (.inl rfl) rfl rfl) ?_
    refine AL.cons rfl (AOp.extract rfl rfl rfl rfl) ?_
    refine AL.cons rfl (AOp.extract rfl rfl rfl rfl) ?_
    refine AL.cons rfl (AOp.extract rfl rfl rfl rfl) ?_
    refine AL.cons rfl (AOp.alloc rfl rfl zr94) ?_
    refine AL.cons rfl (AOp.storePtr (cs := [.t (.leaf (.string ((oTrait (w.traitAt (((oInst (GProgram.instAt w o)).gTrait)))).gName))), .t (.row 1 (strTrs ((oTrait (w.traitAt (((oInst (GProgram.instAt w o)).gTrait)))).gSupertraits))), .t (.leaf (.bool ((oTrait (w.traitAt (((oInst (GProgram.instAt w o)).gTrait)))).gAuto))), .t (.leaf (.bool ((oTrait (w.traitAt (((oInst (GProgram.instAt w o)).gTrait)))).gAssoc))), .t (.row 16 (GSignature.trs ((oTrait (w.traitAt (((oInst (GProgram.instAt w o)).gTrait)))).gSignatures)))]) (ds := [.t (.leaf (.string ((oTrait (w.traitAt (((oInst (GProgram.instAt w o)).gTrait)))).gName))), .t (.row 1 (strTrs ((oTrait (w.traitAt (((oInst (GProgram.instAt w o)).gTrait)))).gSupertraits))), .t (.leaf (.bool ((oTrait (w.traitAt (((oInst (GProgram.instAt w o)).gTrait)))).gAuto))), .t (.leaf (.bool ((oTrait (w.traitAt (((oInst (GProgram.instAt w o)).gTrait)))).gAssoc))), .t (.row 16 (GSignature.trs ((oTrait (w.traitAt (((oInst (GProgram.instAt w o)).gTrait)))).gSignatures)))]) rfl rfl rfl rfl rfl rfl rfl sz94 (Nat.le_of_ble_eq_true rfl) rfl) ?_
    refine AL.cons rfl (AOp.move (.inr rfl) rfl rfl) ?_
    refine AL.cons rfl (AOp.move (.inr rfl) rfl rfl) ?_
    refine AL.nil ?_
    refine AWP.seq ?_
    rcases bool2 ((w.traitAt (((oInst (GProgram.instAt w o)).gTrait))).isSome) with g2 | g2
    · skip
      have g2b := g2
      try simp only [Bool.and_eq_true, Bool.or_eq_true, Bool.and_eq_false_iff, Bool.or_eq_false_iff, decide_eq_true_eq, decide_eq_false_iff_not, Bool.not_eq_true', Bool.not_eq_false', Bool.not_eq_eq_eq_not, Bool.not_true, Bool.not_false, ge_iff_le, gt_iff_lt, Int.not_lt, Int.not_le] at g2b
      rcases bool2 (decide ((oInt (w.traitAt (((oInst (GProgram.instAt w o)).gTrait))) : Int) = o.gPackage)) with g3 | g3
      · skip
        have g3b := g3
        try simp only [Bool.and_eq_true, Bool.or_eq_true, Bool.and_eq_false_iff, Bool.or_eq_false_iff, decide_eq_true_eq, decide_eq_false_iff_not, Bool.not_eq_true', Bool.not_eq_false', Bool.not_eq_eq_eq_not, Bool.not_true, Bool.not_false, ge_iff_le, gt_iff_lt, Int.not_lt, Int.not_le] at g3b
        refine AWP.drawnL ⟨_, _, fun _ _ => (⟨[some ⟨31, [.t (.row 6 (GPackage.trs (w.gPackages)))]⟩, some ⟨33, [.t (.leaf (.int .i64 (o.gPackage))), .t (.leaf (.int .i64 (o.gAt)))]⟩, some ⟨113, [.t (.leaf (.string ((oInst (GProgram.instAt w o)).gTrait))), .t (.row 1 (strTrs ((oInst (GProgram.instAt w o)).gVars))), .t (.leaf (.int .i64 ((oInst (GProgram.instAt w o)).gHead.gKind))), .t (.leaf (.string ((oInst (GProgram.instAt w o)).gHead.gName))), .t (.row 3 (GType.trs ((oInst (GProgram.instAt w o)).gHead.gArgs))), .t (.row 4 (GBound.trs ((oInst (GProgram.instAt w o)).gWhere))), .t (.leaf (.bool ((oInst (GProgram.instAt w o)).gDefault))), .t (.leaf (.bool ((oInst (GProgram.instAt w o)).gHasAssoc))), .t (.leaf (.int .i64 ((oInst (GProgram.instAt w o)).gAssoc.gKind))), .t (.leaf (.string ((oInst (GProgram.instAt w o)).gAssoc.gName))), .t (.row 3 (GType.trs ((oInst (GProgram.instAt w o)).gAssoc.gArgs))), .t (.row 11 (GMethod.trs ((oInst (GProgram.instAt w o)).gMethods)))]⟩, some ⟨94, [.t (.leaf (.string ((oTrait (w.traitAt (((oInst (GProgram.instAt w o)).gTrait)))).gName))), .t (.row 1 (strTrs ((oTrait (w.traitAt (((oInst (GProgram.instAt w o)).gTrait)))).gSupertraits))), .t (.leaf (.bool ((oTrait (w.traitAt (((oInst (GProgram.instAt w o)).gTrait)))).gAuto))), .t (.leaf (.bool ((oTrait (w.traitAt (((oInst (GProgram.instAt w o)).gTrait)))).gAssoc))), .t (.row 16 (GSignature.trs ((oTrait (w.traitAt (((oInst (GProgram.instAt w o)).gTrait)))).gSignatures)))]⟩], []⟩ : Sto), fun q' => ([some (.t (.leaf (.bool ((w.traitAt (((oInst (GProgram.instAt w o)).gTrait))).isSome)))), some (.t (.leaf (.bool ((w.traitAt (((oInst (GProgram.instAt w o)).gTrait))).isSome)))), some (.t (.leaf (.int .i64 (oInt (w.traitAt (((oInst (GProgram.instAt w o)).gTrait))))))), some (.ptr 1 0), some (.t (.leaf (.int .i64 (o.gPackage)))), some (.t (.leaf (.bool (decide ((oInt (w.traitAt (((oInst (GProgram.instAt w o)).gTrait))) : Int) = o.gPackage))))), some (.t (.leaf (.bool (decide ((oInt (w.traitAt (((oInst (GProgram.instAt w o)).gTrait))) : Int) = o.gPackage))))), some (.t (.leaf (.bool (decide ((oInt (w.traitAt (((oInst (GProgram.instAt w o)).gTrait))) : Int) = o.gPackage))))), none, none, none, none, none, none, none, some (.t (.leaf (.bool (true)))), some (.t (.leaf (.bool (true))))] : List (Option PV)).getD q' none, fun q' => ([.q 0 0, .q 0 0, .q 0 0, .q 0 0, .q 0 0, .q 0 0, .q 0 0, .q 0 0, .q 0 0, .q 0 0, .q 0 0, .q 0 0, .q 0 0, .q 0 0, .q 0 0, .q 0 0, .q 0 0] : List DK).getD q' (.q 0 0), [], none, fun q' => ([[(9, none)], [(26, some 0)], [(8, none)], [(3, none)], [(29, some 3)], [(28, some 2), (30, some 4)], [(27, some 1), (31, some 5)], [(32, some 6)], [], [], [], [], [], [], [], [(33, some 7)], [(41, some 15)]] : List (List (Nat × Option Nat))).getD q' []⟩ rfl mixed (by kernel_rfl) rfl rfl ⟨?_, ?_, ?_, ?_, ?_, ?_, ?_, ?_, ?_, ?_, ?_, ?_, ?_, ?_, ?_, ?_, ?_, trivial⟩ rfl ?_
        · refine .inl ⟨rfl, fun s' j b (h1 : 0 ≤ j) (h2 : j ≤ 0) hs hl => ?_⟩
          obtain rfl : j = 0 := by omega
          exact ⟨_, rfl, AOp.move (.inl rfl) rfl (hl 9 none _ (.head _) rfl)⟩
        · refine .inl ⟨rfl, fun s' j b (h1 : 0 ≤ j) (h2 : j ≤ 0) hs hl => ?_⟩
          obtain rfl : j = 0 := by omega
          exact ⟨_, rfl, AOp.move (.inl rfl) rfl (hl 26 (some 0) _ (.head _) rfl)⟩
        · refine .inl ⟨(congrArg (fun b => some (b == true)) g2), fun s' j b (h1 : 0 ≤ j) (h2 : j ≤ 0) hs hl => ?_⟩
          obtain rfl : j = 0 := by omega
          exact ⟨_, rfl, AOp.move (.inl rfl) rfl (hl 8 none _ (.head _) rfl)⟩
        · refine .inl ⟨(congrArg (fun b => some (b == true)) g2), fun s' j b (h1 : 0 ≤ j) (h2 : j ≤ 0) hs hl => ?_⟩
          obtain rfl : j = 0 := by omega
          exact ⟨_, rfl, AOp.fieldPtr (k := 1) (d := 0) (e := 0) rfl rfl (hl 3 none _ (.head _) rfl) fo33_0⟩
        · refine .inl ⟨(congrArg (fun b => some (b == true)) g2), fun s' j b (h1 : 0 ≤ j) (h2 : j ≤ 0) hs hl => ?_⟩
          obtain rfl : j = 0 := by omega
          exact ⟨_, rfl, AOp.loadPtr1 rfl rfl (hl 29 (some 3) _ (.head _) rfl) (by rw [hs]; rfl) sh3 rfl⟩
        · refine .inl ⟨(congrArg (fun b => some (b == true)) g2), fun s' j b (h1 : 0 ≤ j) (h2 : j ≤ 0) hs hl => ?_⟩
          obtain rfl : j = 0 := by omega
          exact ⟨_, rfl, AOp.eqlI rfl rfl (hl 28 (some 2) _ (.head _) rfl) (hl 30 (some 4) _ (.tail _ (.head _)) rfl)⟩
        · refine .inl ⟨rfl, fun s' j b (h1 : 0 ≤ j) (h2 : j ≤ 0) hs hl => ?_⟩
          obtain rfl : j = 0 := by omega
          exact ⟨_, rfl, AOp.pickT rfl rfl (hl 27 (some 1) _ (.head _) rfl) g2 (hl 31 (some 5) _ (.tail _ (.head _)) rfl)⟩
        · refine .inl ⟨rfl, fun s' j b (h1 : 0 ≤ j) (h2 : j ≤ 0) hs hl => ?_⟩
          obtain rfl : j = 0 := by omega
          exact ⟨_, rfl, AOp.move (.inl rfl) rfl (hl 32 (some 6) _ (.head _) rfl)⟩
        · exact .inr ⟨(congrArg (fun b => some (b == false)) g3), rfl, ⟨_, _, rfl⟩, fun d hd => by cases hd; rfl⟩
        · exact .inr ⟨(congrArg (fun b => some (b == false)) g3), rfl, ⟨_, _, rfl⟩, fun d hd => by cases hd; rfl⟩
        · exact .inr ⟨(congrArg (fun b => some (b == false)) g3), rfl, ⟨_, _, rfl⟩, fun d hd => by cases hd; rfl⟩
        · exact .inr ⟨(congrArg (fun b => some (b == false)) g3), rfl, ⟨_, _, rfl⟩, fun d hd => by cases hd; rfl⟩
        · exact .inr ⟨(congrArg (fun b => some (b == false)) g3), rfl, ⟨_, _, rfl⟩, fun d hd => by cases hd; rfl⟩
        · exact .inr ⟨(congrArg (fun b => some (b == false)) g3), rfl, ⟨_, _, rfl⟩, fun d hd => by cases hd; rfl⟩
        · exact .inr ⟨(congrArg (fun b => some (b == false)) g3), rfl, ⟨_, _, rfl⟩, fun d hd => by cases hd; rfl⟩
        · refine .inl ⟨rfl, fun s' j b (h1 : 0 ≤ j) (h2 : j ≤ 0) hs hl => ?_⟩
          obtain rfl : j = 0 := by omega
          exact ⟨_, rfl, AOp.pickT rfl rfl (hl 33 (some 7) _ (.head _) rfl) g3 rfl⟩
        · refine .inl ⟨rfl, fun s' j b (h1 : 0 ≤ j) (h2 : j ≤ 0) hs hl => ?_⟩
          obtain rfl : j = 0 := by omega
          exact ⟨_, rfl, AOp.move (.inr rfl) rfl (hl 41 (some 15) _ (.head _) rfl)⟩
        refine AWP.ret ?_
        exact Ends.mk (ps := [_]) (.inr rfl) ⟨rfl, trivial⟩ rfl (StLe.mk' (st' := ⟨[], []⟩) trivial rfl) (keeps_nil hC) (q := (.t (.leaf (.bool (true))) : PV)) (by (repeat' (first | exact PV.Le.refl _ | exact LeL.nil | exact PV.Le.nil _ | exact PV.Le.acc _ _ _ | apply LeL.cons | apply PV.Le.agg | apply PV.Le.tup))) rfl ⟨by simp_all [GProgram.orphan], rfl⟩
      · skip
        have g3b := g3
        try simp only [Bool.and_eq_true, Bool.or_eq_true, Bool.and_eq_false_iff, Bool.or_eq_false_iff, decide_eq_true_eq, decide_eq_false_iff_not, Bool.not_eq_true', Bool.not_eq_false', Bool.not_eq_eq_eq_not, Bool.not_true, Bool.not_false, ge_iff_le, gt_iff_lt, Int.not_lt, Int.not_le] at g3b
        refine AWP.drawnL ⟨_, _, fun _ _ => (⟨[some ⟨31, [.t (.row 6 (GPackage.trs (w.gPackages)))]⟩, some ⟨33, [.t (.leaf (.int .i64 (o.gPackage))), .t (.leaf (.int .i64 (o.gAt)))]⟩, some ⟨113, [.t (.leaf (.string ((oInst (GProgram.instAt w o)).gTrait))), .t (.row 1 (strTrs ((oInst (GProgram.instAt w o)).gVars))), .t (.leaf (.int .i64 ((oInst (GProgram.instAt w o)).gHead.gKind))), .t (.leaf (.string ((oInst (GProgram.instAt w o)).gHead.gName))), .t (.row 3 (GType.trs ((oInst (GProgram.instAt w o)).gHead.gArgs))), .t (.row 4 (GBound.trs ((oInst (GProgram.instAt w o)).gWhere))), .t (.leaf (.bool ((oInst (GProgram.instAt w o)).gDefault))), .t (.leaf (.bool ((oInst (GProgram.instAt w o)).gHasAssoc))), .t (.leaf (.int .i64 ((oInst (GProgram.instAt w o)).gAssoc.gKind))), .t (.leaf (.string ((oInst (GProgram.instAt w o)).gAssoc.gName))), .t (.row 3 (GType.trs ((oInst (GProgram.instAt w o)).gAssoc.gArgs))), .t (.row 11 (GMethod.trs ((oInst (GProgram.instAt w o)).gMethods)))]⟩, some ⟨94, [.t (.leaf (.string ((oTrait (w.traitAt (((oInst (GProgram.instAt w o)).gTrait)))).gName))), .t (.row 1 (strTrs ((oTrait (w.traitAt (((oInst (GProgram.instAt w o)).gTrait)))).gSupertraits))), .t (.leaf (.bool ((oTrait (w.traitAt (((oInst (GProgram.instAt w o)).gTrait)))).gAuto))), .t (.leaf (.bool ((oTrait (w.traitAt (((oInst (GProgram.instAt w o)).gTrait)))).gAssoc))), .t (.row 16 (GSignature.trs ((oTrait (w.traitAt (((oInst (GProgram.instAt w o)).gTrait)))).gSignatures)))]⟩], []⟩ : Sto), fun q' => ([some (.t (.leaf (.bool ((w.traitAt (((oInst (GProgram.instAt w o)).gTrait))).isSome)))), some (.t (.leaf (.bool ((w.traitAt (((oInst (GProgram.instAt w o)).gTrait))).isSome)))), some (.t (.leaf (.int .i64 (oInt (w.traitAt (((oInst (GProgram.instAt w o)).gTrait))))))), some (.ptr 1 0), some (.t (.leaf (.int .i64 (o.gPackage)))), some (.t (.leaf (.bool (decide ((oInt (w.traitAt (((oInst (GProgram.instAt w o)).gTrait))) : Int) = o.gPackage))))), some (.t (.leaf (.bool (decide ((oInt (w.traitAt (((oInst (GProgram.instAt w o)).gTrait))) : Int) = o.gPackage))))), some (.t (.leaf (.bool (decide ((oInt (w.traitAt (((oInst (GProgram.instAt w o)).gTrait))) : Int) = o.gPackage))))), some ((GProgram.pv w)), some (.ptr 2 2), some ((GType.pv (((oInst (GProgram.instAt w o))).gHead))), some (.t (.leaf (.int .i64 (GProgram.home w (((((oInst (GProgram.instAt w o))).gHead))))))), some (.ptr 1 0), some (.t (.leaf (.int .i64 (o.gPackage)))), some (.t (.leaf (.bool (decide ((GProgram.home w (((((oInst (GProgram.instAt w o))).gHead))) : Int) = o.gPackage))))), some (.t (.leaf (.bool (decide ((GProgram.home w (((((oInst (GProgram.instAt w o))).gHead))) : Int) = o.gPackage))))), some (.t (.leaf (.bool (decide ((GProgram.home w (((((oInst (GProgram.instAt w o))).gHead))) : Int) = o.gPackage)))))] : List (Option PV)).getD q' none, fun q' => ([.q 0 0, .q 0 0, .q 0 0, .q 0 0, .q 0 0, .q 0 0, .q 0 0, .q 0 0, .q 0 0, .q 0 0, .q 0 0, .q 0 0, .q 0 0, .q 0 0, .q 0 0, .q 0 0, .q 0 0] : List DK).getD q' (.q 0 0), [], none, fun q' => ([[(9, none)], [(26, some 0)], [(8, none)], [(3, none)], [(29, some 3)], [(28, some 2), (30, some 4)], [(27, some 1), (31, some 5)], [(32, some 6)], [(2, none)], [(5, none)], [(35, some 9)], [(36, some 10), (34, some 8)], [(3, none)], [(38, some 12)], [(37, some 11), (39, some 13)], [(33, some 7), (40, some 14)], [(41, some 15)]] : List (List (Nat × Option Nat))).getD q' []⟩ rfl mixed (by kernel_rfl) rfl rfl ⟨?_, ?_, ?_, ?_, ?_, ?_, ?_, ?_, ?_, ?_, ?_, ?_, ?_, ?_, ?_, ?_, ?_, trivial⟩ rfl ?_
        · refine .inl ⟨rfl, fun s' j b (h1 : 0 ≤ j) (h2 : j ≤ 0) hs hl => ?_⟩
          obtain rfl : j = 0 := by omega
          exact ⟨_, rfl, AOp.move (.inl rfl) rfl (hl 9 none _ (.head _) rfl)⟩
        · refine .inl ⟨rfl, fun s' j b (h1 : 0 ≤ j) (h2 : j ≤ 0) hs hl => ?_⟩
          obtain rfl : j = 0 := by omega
          exact ⟨_, rfl, AOp.move (.inl rfl) rfl (hl 26 (some 0) _ (.head _) rfl)⟩
        · refine .inl ⟨(congrArg (fun b => some (b == true)) g2), fun s' j b (h1 : 0 ≤ j) (h2 : j ≤ 0) hs hl => ?_⟩
          obtain rfl : j = 0 := by omega
          exact ⟨_, rfl, AOp.move (.inl rfl) rfl (hl 8 none _ (.head _) rfl)⟩
        · refine .inl ⟨(congrArg (fun b => some (b == true)) g2), fun s' j b (h1 : 0 ≤ j) (h2 : j ≤ 0) hs hl => ?_⟩
          obtain rfl : j = 0 := by omega
          exact ⟨_, rfl, AOp.fieldPtr (k := 1) (d := 0) (e := 0) rfl rfl (hl 3 none _ (.head _) rfl) fo33_0⟩
        · refine .inl ⟨(congrArg (fun b => some (b == true)) g2), fun s' j b (h1 : 0 ≤ j) (h2 : j ≤ 0) hs hl => ?_⟩
          obtain rfl : j = 0 := by omega
          exact ⟨_, rfl, AOp.loadPtr1 rfl rfl (hl 29 (some 3) _ (.head _) rfl) (by rw [hs]; rfl) sh3 rfl⟩
        · refine .inl ⟨(congrArg (fun b => some (b == true)) g2), fun s' j b (h1 : 0 ≤ j) (h2 : j ≤ 0) hs hl => ?_⟩
          obtain rfl : j = 0 := by omega
          exact ⟨_, rfl, AOp.eqlI rfl rfl (hl 28 (some 2) _ (.head _) rfl) (hl 30 (some 4) _ (.tail _ (.head _)) rfl)⟩
        · refine .inl ⟨rfl, fun s' j b (h1 : 0 ≤ j) (h2 : j ≤ 0) hs hl => ?_⟩
          obtain rfl : j = 0 := by omega
          exact ⟨_, rfl, AOp.pickT rfl rfl (hl 27 (some 1) _ (.head _) rfl) g2 (hl 31 (some 5) _ (.tail _ (.head _)) rfl)⟩
        · refine .inl ⟨rfl, fun s' j b (h1 : 0 ≤ j) (h2 : j ≤ 0) hs hl => ?_⟩
          obtain rfl : j = 0 := by omega
          exact ⟨_, rfl, AOp.move (.inl rfl) rfl (hl 32 (some 6) _ (.head _) rfl)⟩
        · refine .inl ⟨(congrArg (fun b => some (b == false)) g3), fun s' j b (h1 : 0 ≤ j) (h2 : j ≤ 0) hs hl => ?_⟩
          obtain rfl : j = 0 := by omega
          exact ⟨_, rfl, AOp.loadPtr (cs := [.t (.row 6 (GPackage.trs (w.gPackages)))]) rfl rfl (hl 2 none _ (.head _) rfl) (by rw [hs]; rfl) sh31 rfl rfl⟩
        · refine .inl ⟨(congrArg (fun b => some (b == false)) g3), fun s' j b (h1 : 0 ≤ j) (h2 : j ≤ 0) hs hl => ?_⟩
          obtain rfl : j = 0 := by omega
          exact ⟨_, rfl, AOp.fieldPtr (k := 2) (d := 0) (e := 2) rfl rfl (hl 5 none _ (.head _) rfl) fo113_2⟩
        · refine .inl ⟨(congrArg (fun b => some (b == false)) g3), fun s' j b (h1 : 0 ≤ j) (h2 : j ≤ 0) hs hl => ?_⟩
          obtain rfl : j = 0 := by omega
          exact ⟨_, rfl, AOp.loadPtr (cs := [.t (.leaf (.int .i64 ((((oInst (GProgram.instAt w o))).gHead).gKind))), .t (.leaf (.string ((((oInst (GProgram.instAt w o))).gHead).gName))), .t (.row 3 (GType.trs ((((oInst (GProgram.instAt w o))).gHead).gArgs)))]) rfl rfl (hl 35 (some 9) _ (.head _) rfl) (by rw [hs]; rfl) sh47 rfl rfl⟩
        · refine .inl ⟨(congrArg (fun b => some (b == false)) g3), fun s' j b (h1 : 0 ≤ j) (h2 : j ≤ 0) hs hl => ?_⟩
          obtain rfl : j = 0 := by omega
          exact ⟨_, rfl, AOp.callF (ps := [_, _]) rfl rfl Tryz.func83 (by kernel_rfl) rfl (evs_cons (hl 34 (some 8) _ (.tail _ (.head _)) rfl) (evs_cons (hl 36 (some 10) _ (.head _) rfl) rfl)) (by (repeat' (first | exact PV.Le.refl _ | exact LeL.nil | exact PV.Le.nil _ | exact PV.Le.acc _ _ _ | apply LeL.cons | apply PV.Le.agg | apply PV.Le.tup))) rfl rfl (home_impl w ((((oInst (GProgram.instAt w o))).gHead)))⟩
        · refine .inl ⟨(congrArg (fun b => some (b == false)) g3), fun s' j b (h1 : 0 ≤ j) (h2 : j ≤ 0) hs hl => ?_⟩
          obtain rfl : j = 0 := by omega
          exact ⟨_, rfl, AOp.fieldPtr (k := 1) (d := 0) (e := 0) rfl rfl (hl 3 none _ (.head _) rfl) fo33_0⟩
        · refine .inl ⟨(congrArg (fun b => some (b == false)) g3), fun s' j b (h1 : 0 ≤ j) (h2 : j ≤ 0) hs hl => ?_⟩
          obtain rfl : j = 0 := by omega
          exact ⟨_, rfl, AOp.loadPtr1 rfl rfl (hl 38 (some 12) _ (.head _) rfl) (by rw [hs]; rfl) sh3 rfl⟩
        · refine .inl ⟨(congrArg (fun b => some (b == false)) g3), fun s' j b (h1 : 0 ≤ j) (h2 : j ≤ 0) hs hl => ?_⟩
          obtain rfl : j = 0 := by omega
          exact ⟨_, rfl, AOp.eqlI rfl rfl (hl 37 (some 11) _ (.head _) rfl) (hl 39 (some 13) _ (.tail _ (.head _)) rfl)⟩
        · refine .inl ⟨rfl, fun s' j b (h1 : 0 ≤ j) (h2 : j ≤ 0) hs hl => ?_⟩
          obtain rfl : j = 0 := by omega
          exact ⟨_, rfl, AOp.pickF rfl rfl (hl 33 (some 7) _ (.head _) rfl) g3 (hl 40 (some 14) _ (.tail _ (.head _)) rfl)⟩
        · refine .inl ⟨rfl, fun s' j b (h1 : 0 ≤ j) (h2 : j ≤ 0) hs hl => ?_⟩
          obtain rfl : j = 0 := by omega
          exact ⟨_, rfl, AOp.move (.inr rfl) rfl (hl 41 (some 15) _ (.head _) rfl)⟩
        refine AWP.ret ?_
        exact Ends.mk (ps := [_]) (.inr rfl) ⟨rfl, trivial⟩ rfl (StLe.mk' (st' := ⟨[], []⟩) trivial rfl) (keeps_nil hC) (q := (.t (.leaf (.bool (decide ((GProgram.home w (((((oInst (GProgram.instAt w o))).gHead))) : Int) = o.gPackage)))) : PV)) (by (repeat' (first | exact PV.Le.refl _ | exact LeL.nil | exact PV.Le.nil _ | exact PV.Le.acc _ _ _ | apply LeL.cons | apply PV.Le.agg | apply PV.Le.tup))) rfl ⟨by simp_all [GProgram.orphan], rfl⟩
    · skip
      have g2b := g2
      try simp only [Bool.and_eq_true, Bool.or_eq_true, Bool.and_eq_false_iff, Bool.or_eq_false_iff, decide_eq_true_eq, decide_eq_false_iff_not, Bool.not_eq_true', Bool.not_eq_false', Bool.not_eq_eq_eq_not, Bool.not_true, Bool.not_false, ge_iff_le, gt_iff_lt, Int.not_lt, Int.not_le] at g2b
      refine AWP.drawnL ⟨_, _, fun _ _ => (⟨[some ⟨31, [.t (.row 6 (GPackage.trs (w.gPackages)))]⟩, some ⟨33, [.t (.leaf (.int .i64 (o.gPackage))), .t (.leaf (.int .i64 (o.gAt)))]⟩, some ⟨113, [.t (.leaf (.string ((oInst (GProgram.instAt w o)).gTrait))), .t (.row 1 (strTrs ((oInst (GProgram.instAt w o)).gVars))), .t (.leaf (.int .i64 ((oInst (GProgram.instAt w o)).gHead.gKind))), .t (.leaf (.string ((oInst (GProgram.instAt w o)).gHead.gName))), .t (.row 3 (GType.trs ((oInst (GProgram.instAt w o)).gHead.gArgs))), .t (.row 4 (GBound.trs ((oInst (GProgram.instAt w o)).gWhere))), .t (.leaf (.bool ((oInst (GProgram.instAt w o)).gDefault))), .t (.leaf (.bool ((oInst (GProgram.instAt w o)).gHasAssoc))), .t (.leaf (.int .i64 ((oInst (GProgram.instAt w o)).gAssoc.gKind))), .t (.leaf (.string ((oInst (GProgram.instAt w o)).gAssoc.gName))), .t (.row 3 (GType.trs ((oInst (GProgram.instAt w o)).gAssoc.gArgs))), .t (.row 11 (GMethod.trs ((oInst (GProgram.instAt w o)).gMethods)))]⟩, some ⟨94, [.t (.leaf (.string ((oTrait (w.traitAt (((oInst (GProgram.instAt w o)).gTrait)))).gName))), .t (.row 1 (strTrs ((oTrait (w.traitAt (((oInst (GProgram.instAt w o)).gTrait)))).gSupertraits))), .t (.leaf (.bool ((oTrait (w.traitAt (((oInst (GProgram.instAt w o)).gTrait)))).gAuto))), .t (.leaf (.bool ((oTrait (w.traitAt (((oInst (GProgram.instAt w o)).gTrait)))).gAssoc))), .t (.row 16 (GSignature.trs ((oTrait (w.traitAt (((oInst (GProgram.instAt w o)).gTrait)))).gSignatures)))]⟩], []⟩ : Sto), fun q' => ([some (.t (.leaf (.bool ((w.traitAt (((oInst (GProgram.instAt w o)).gTrait))).isSome)))), some (.t (.leaf (.bool ((w.traitAt (((oInst (GProgram.instAt w o)).gTrait))).isSome)))), none, none, none, none, some (.t (.leaf (.bool (false)))), some (.t (.leaf (.bool (false)))), some ((GProgram.pv w)), some (.ptr 2 2), some ((GType.pv (((oInst (GProgram.instAt w o))).gHead))), some (.t (.leaf (.int .i64 (GProgram.home w (((((oInst (GProgram.instAt w o))).gHead))))))), some (.ptr 1 0), some (.t (.leaf (.int .i64 (o.gPackage)))), some (.t (.leaf (.bool (decide ((GProgram.home w (((((oInst (GProgram.instAt w o))).gHead))) : Int) = o.gPackage))))), some (.t (.leaf (.bool (decide ((GProgram.home w (((((oInst (GProgram.instAt w o))).gHead))) : Int) = o.gPackage))))), some (.t (.leaf (.bool (decide ((GProgram.home w (((((oInst (GProgram.instAt w o))).gHead))) : Int) = o.gPackage)))))] : List (Option PV)).getD q' none, fun q' => ([.q 0 0, .q 0 0, .q 0 0, .q 0 0, .q 0 0, .q 0 0, .q 0 0, .q 0 0, .q 0 0, .q 0 0, .q 0 0, .q 0 0, .q 0 0, .q 0 0, .q 0 0, .q 0 0, .q 0 0] : List DK).getD q' (.q 0 0), [], none, fun q' => ([[(9, none)], [(26, some 0)], [], [], [], [], [(27, some 1)], [(32, some 6)], [(2, none)], [(5, none)], [(35, some 9)], [(36, some 10), (34, some 8)], [(3, none)], [(38, some 12)], [(37, some 11), (39, some 13)], [(33, some 7), (40, some 14)], [(41, some 15)]] : List (List (Nat × Option Nat))).getD q' []⟩ rfl mixed (by kernel_rfl) rfl rfl ⟨?_, ?_, ?_, ?_, ?_, ?_, ?_, ?_, ?_, ?_, ?_, ?_, ?_, ?_, ?_, ?_, ?_, trivial⟩ rfl ?_
      · refine .inl ⟨rfl, fun s' j b (h1 : 0 ≤ j) (h2 : j ≤ 0) hs hl => ?_⟩
        obtain rfl : j = 0 := by omega
        exact ⟨_, rfl, AOp.move (.inl rfl) rfl (hl 9 none _ (.head _) rfl)⟩
      · refine .inl ⟨rfl, fun s' j b (h1 : 0 ≤ j) (h2 : j ≤ 0) hs hl => ?_⟩
        obtain rfl : j = 0 := by omega
        exact ⟨_, rfl, AOp.move (.inl rfl) rfl (hl 26 (some 0) _ (.head _) rfl)⟩
      · exact .inr ⟨(congrArg (fun b => some (b == true)) g2), rfl, ⟨_, _, rfl⟩, fun d hd => by cases hd; rfl⟩
      · exact .inr ⟨(congrArg (fun b => some (b == true)) g2), rfl, ⟨_, _, rfl⟩, fun d hd => by cases hd; rfl⟩
      · exact .inr ⟨(congrArg (fun b => some (b == true)) g2), rfl, ⟨_, _, rfl⟩, fun d hd => by cases hd; rfl⟩
      · exact .inr ⟨(congrArg (fun b => some (b == true)) g2), rfl, ⟨_, _, rfl⟩, fun d hd => by cases hd; rfl⟩
      · refine .inl ⟨rfl, fun s' j b (h1 : 0 ≤ j) (h2 : j ≤ 0) hs hl => ?_⟩
        obtain rfl : j = 0 := by omega
        exact ⟨_, rfl, AOp.pickF rfl rfl (hl 27 (some 1) _ (.head _) rfl) g2 rfl⟩
      · refine .inl ⟨rfl, fun s' j b (h1 : 0 ≤ j) (h2 : j ≤ 0) hs hl => ?_⟩
        obtain rfl : j = 0 := by omega
        exact ⟨_, rfl, AOp.move (.inl rfl) rfl (hl 32 (some 6) _ (.head _) rfl)⟩
      · refine .inl ⟨(congrArg (fun b => some (b == false)) (rfl : false = _)), fun s' j b (h1 : 0 ≤ j) (h2 : j ≤ 0) hs hl => ?_⟩
        obtain rfl : j = 0 := by omega
        exact ⟨_, rfl, AOp.loadPtr (cs := [.t (.row 6 (GPackage.trs (w.gPackages)))]) rfl rfl (hl 2 none _ (.head _) rfl) (by rw [hs]; rfl) sh31 rfl rfl⟩
      · refine .inl ⟨(congrArg (fun b => some (b == false)) (rfl : false = _)), fun s' j b (h1 : 0 ≤ j) (h2 : j ≤ 0) hs hl => ?_⟩
        obtain rfl : j = 0 := by omega
        exact ⟨_, rfl, AOp.fieldPtr (k := 2) (d := 0) (e := 2) rfl rfl (hl 5 none _ (.head _) rfl) fo113_2⟩
      · refine .inl ⟨(congrArg (fun b => some (b == false)) (rfl : false = _)), fun s' j b (h1 : 0 ≤ j) (h2 : j ≤ 0) hs hl => ?_⟩
        obtain rfl : j = 0 := by omega
        exact ⟨_, rfl, AOp.loadPtr (cs := [.t (.leaf (.int .i64 ((((oInst (GProgram.instAt w o))).gHead).gKind))), .t (.leaf (.string ((((oInst (GProgram.instAt w o))).gHead).gName))), .t (.row 3 (GType.trs ((((oInst (GProgram.instAt w o))).gHead).gArgs)))]) rfl rfl (hl 35 (some 9) _ (.head _) rfl) (by rw [hs]; rfl) sh47 rfl rfl⟩
      · refine .inl ⟨(congrArg (fun b => some (b == false)) (rfl : false = _)), fun s' j b (h1 : 0 ≤ j) (h2 : j ≤ 0) hs hl => ?_⟩
        obtain rfl : j = 0 := by omega
        exact ⟨_, rfl, AOp.callF (ps := [_, _]) rfl rfl Tryz.func83 (by kernel_rfl) rfl (evs_cons (hl 34 (some 8) _ (.tail _ (.head _)) rfl) (evs_cons (hl 36 (some 10) _ (.head _) rfl) rfl)) (by (repeat' (first | exact PV.Le.refl _ | exact LeL.nil | exact PV.Le.nil _ | exact PV.Le.acc _ _ _ | apply LeL.cons | apply PV.Le.agg | apply PV.Le.tup))) rfl rfl (home_impl w ((((oInst (GProgram.instAt w o))).gHead)))⟩
      · refine .inl ⟨(congrArg (fun b => some (b == false)) (rfl : false = _)), fun s' j b (h1 : 0 ≤ j) (h2 : j ≤ 0) hs hl => ?_⟩
        obtain rfl : j = 0 := by omega
        exact ⟨_, rfl, AOp.fieldPtr (k := 1) (d := 0) (e := 0) rfl rfl (hl 3 none _ (.head _) rfl) fo33_0⟩
      · refine .inl ⟨(congrArg (fun b => some (b == false)) (rfl : false = _)), fun s' j b (h1 : 0 ≤ j) (h2 : j ≤ 0) hs hl => ?_⟩
        obtain rfl : j = 0 := by omega
        exact ⟨_, rfl, AOp.loadPtr1 rfl rfl (hl 38 (some 12) _ (.head _) rfl) (by rw [hs]; rfl) sh3 rfl⟩
      · refine .inl ⟨(congrArg (fun b => some (b == false)) (rfl : false = _)), fun s' j b (h1 : 0 ≤ j) (h2 : j ≤ 0) hs hl => ?_⟩
        obtain rfl : j = 0 := by omega
        exact ⟨_, rfl, AOp.eqlI rfl rfl (hl 37 (some 11) _ (.head _) rfl) (hl 39 (some 13) _ (.tail _ (.head _)) rfl)⟩
      · refine .inl ⟨rfl, fun s' j b (h1 : 0 ≤ j) (h2 : j ≤ 0) hs hl => ?_⟩
        obtain rfl : j = 0 := by omega
        exact ⟨_, rfl, AOp.pickF rfl rfl (hl 33 (some 7) _ (.head _) rfl) rfl (hl 40 (some 14) _ (.tail _ (.head _)) rfl)⟩
      · refine .inl ⟨rfl, fun s' j b (h1 : 0 ≤ j) (h2 : j ≤ 0) hs hl => ?_⟩
        obtain rfl : j = 0 := by omega
        exact ⟨_, rfl, AOp.move (.inr rfl) rfl (hl 41 (some 15) _ (.head _) rfl)⟩
      refine AWP.ret ?_
      exact Ends.mk (ps := [_]) (.inr rfl) ⟨rfl, trivial⟩ rfl (StLe.mk' (st' := ⟨[], []⟩) trivial rfl) (keeps_nil hC) (q := (.t (.leaf (.bool (decide ((GProgram.home w (((((oInst (GProgram.instAt w o))).gHead))) : Int) = o.gPackage)))) : PV)) (by (repeat' (first | exact PV.Le.refl _ | exact LeL.nil | exact PV.Le.nil _ | exact PV.Le.acc _ _ _ | apply LeL.cons | apply PV.Le.agg | apply PV.Le.tup))) rfl ⟨by simp_all [GProgram.orphan], rfl⟩

set_option maxRecDepth 100000 in
set_option maxHeartbeats 4000000 in
theorem orphan_spec (w : GProgram) (o : GInstanceRef) : AFun Tryz.prog 16 [(GProgram.pv w), (GInstanceRef.pv o)] (.t (.leaf (.bool (GProgram.orphan w o)))) := by
  refine ACalls.intro Tryz.func16 rfl (by first | decide | (simp; done) | (simp; decide)) ?_
  intro C hC
  refine AWP.seq ?_
  refine AWP.region_lit ?_
  refine AL.cons rfl (AOp.box (cs := [.t (.row 6 (GPackage.trs (w.gPackages)))]) rfl rfl rfl rfl rfl) ?_
  refine AL.cons rfl (AOp.box (cs := [.t (.leaf (.int .i64 (o.gPackage))), .t (.leaf (.int .i64 (o.gAt)))]) rfl rfl rfl rfl rfl) ?_
  refine AL.cons rfl (AOp.move (.inr rfl) rfl rfl) ?_
  refine AL.nil ?_
  refine AWP.seq ?_
  refine AWP.region_lit ?_
  refine AL.cons rfl (AOp.loadPtr (cs := [.t (.row 6 (GPackage.trs (w.gPackages)))]) rfl rfl rfl rfl sh31 rfl rfl) ?_
  refine AL.cons rfl (AOp.loadPtr (cs := [.t (.leaf (.int .i64 (o.gPackage))), .t (.leaf (.int .i64 (o.gAt)))]) rfl rfl rfl rfl sh33 rfl rfl) ?_
  refine AL.cons rfl (AOp.callF (ps := [_, _]) rfl rfl Tryz.func77 (by kernel_rfl) rfl rfl (by (repeat' (first | exact PV.Le.refl _ | exact LeL.nil | exact PV.Le.nil _ | exact PV.Le.acc _ _ _ | apply LeL.cons | apply PV.Le.agg | apply PV.Le.tup))) rfl rfl (inst_spec w o)) ?_
  refine AL.cons rfl (AOp.move (.inl rfl) rfl rfl) ?_
  refine AL.cons rfl (AOp.extract rfl rfl rfl rfl) ?_
  refine AL.cons rfl (AOp.extract rfl rfl rfl rfl) ?_
  refine AL.cons rfl (AOp.alloc rfl rfl zr113) ?_
  refine AL.cons rfl (AOp.storePtr (cs := [.t (.leaf (.string ((oInst (GProgram.instAt w o)).gTrait))), .t (.row 1 (strTrs ((oInst (GProgram.instAt w o)).gVars))), .t (.leaf (.int .i64 ((oInst (GProgram.instAt w o)).gHead.gKind))), .t (.leaf (.string ((oInst (GProgram.instAt w o)).gHead.gName))), .t (.row 3 (GType.trs ((oInst (GProgram.instAt w o)).gHead.gArgs))), .t (.row 4 (GBound.trs ((oInst (GProgram.instAt w o)).gWhere))), .t (.leaf (.bool ((oInst (GProgram.instAt w o)).gDefault))), .t (.leaf (.bool ((oInst (GProgram.instAt w o)).gHasAssoc))), .t (.leaf (.int .i64 ((oInst (GProgram.instAt w o)).gAssoc.gKind))), .t (.leaf (.string ((oInst (GProgram.instAt w o)).gAssoc.gName))), .t (.row 3 (GType.trs ((oInst (GProgram.instAt w o)).gAssoc.gArgs))), .t (.row 11 (GMethod.trs ((oInst (GProgram.instAt w o)).gMethods)))]) (ds := [.t (.leaf (.string ((oInst (GProgram.instAt w o)).gTrait))), .t (.row 1 (strTrs ((oInst (GProgram.instAt w o)).gVars))), .t (.leaf (.int .i64 ((oInst (GProgram.instAt w o)).gHead.gKind))), .t (.leaf (.string ((oInst (GProgram.instAt w o)).gHead.gName))), .t (.row 3 (GType.trs ((oInst (GProgram.instAt w o)).gHead.gArgs))), .t (.row 4 (GBound.trs ((oInst (GProgram.instAt w o)).gWhere))), .t (.leaf (.bool ((oInst (GProgram.instAt w o)).gDefault))), .t (.leaf (.bool ((oInst (GProgram.instAt w o)).gHasAssoc))), .t (.leaf (.int .i64 ((oInst (GProgram.instAt w o)).gAssoc.gKind))), .t (.leaf (.string ((oInst (GProgram.instAt w o)).gAssoc.gName))), .t (.row 3 (GType.trs ((oInst (GProgram.instAt w o)).gAssoc.gArgs))), .t (.row 11 (GMethod.trs ((oInst (GProgram.instAt w o)).gMethods)))]) rfl rfl rfl rfl rfl rfl rfl sz113 (Nat.le_of_ble_eq_true rfl) rfl) ?_
  refine AL.cons rfl (AOp.move (.inr rfl) rfl rfl) ?_
  refine AL.nil ?_
  refine AWP.seq ?_
  refine AWP.seq ?_
  refine AWP.region_lit ?_
  refine AL.cons rfl (AOp.move (.inl rfl) rfl rfl) ?_
  refine AL.cons rfl (AOp.notB rfl rfl rfl) ?_
  refine AL.nil ?_
  refine AWP.cond rfl (fun h1 => ?_) (fun h1 => ?_)
  · skip
    have h1b := h1
    try simp only [Bool.and_eq_true, Bool.or_eq_true, Bool.and_eq_false_iff, Bool.or_eq_false_iff, decide_eq_true_eq, decide_eq_false_iff_not, Bool.not_eq_true', Bool.not_eq_false', Bool.not_eq_eq_eq_not, Bool.not_true, Bool.not_false, ge_iff_le, gt_iff_lt, Int.not_lt, Int.not_le] at h1b
    refine AWP.seq ?_
    refine AWP.region_lit ?_
    refine AL.cons rfl (AOp.move (.inr rfl) rfl rfl) ?_
    refine AL.nil ?_
    refine AWP.ret ?_
    exact Ends.mk (ps := [_]) (.inr rfl) ⟨rfl, trivial⟩ rfl (StLe.mk' (st' := ⟨[], []⟩) trivial rfl) (keeps_nil hC) (q := (.t (.leaf (.bool (false))) : PV)) (by (repeat' (first | exact PV.Le.refl _ | exact LeL.nil | exact PV.Le.nil _ | exact PV.Le.acc _ _ _ | apply LeL.cons | apply PV.Le.agg | apply PV.Le.tup))) rfl ⟨by simp_all [GProgram.orphan], rfl⟩
  · skip
    have h1b := h1
    try simp only [Bool.and_eq_true, Bool.or_eq_true, Bool.and_eq_false_iff, Bool.or_eq_false_iff, decide_eq_true_eq, decide_eq_false_iff_not, Bool.not_eq_true', Bool.not_eq_false', Bool.not_eq_eq_eq_not, Bool.not_true, Bool.not_false, ge_iff_le, gt_iff_lt, Int.not_lt, Int.not_le] at h1b
    refine AWP.skip ?_
    refine AWP.seq ?_
    refine AWP.region_lit ?_
    refine AL.cons rfl (AOp.loadPtr (cs := [.t (.row 6 (GPackage.trs (w.gPackages)))]) rfl rfl rfl rfl sh31 rfl rfl) ?_
    refine AL.cons rfl (AOp.fieldPtr (k := 2) (d := 0) (e := 0) rfl rfl rfl fo113_0) ?_
    refine AL.cons rfl (AOp.loadPtr1 rfl rfl rfl rfl sh9 rfl) ?_
    refine AL.cons rfl (AOp.callF (ps := [_, _]) rfl rfl Tryz.func78 (by kernel_rfl) rfl rfl (by (repeat' (first | exact PV.Le.refl _ | exact LeL.nil | exact PV.Le.nil _ | exact PV.Le.acc _ _ _ | apply LeL.cons | apply PV.Le.agg | apply PV.Le.tup))) rfl rfl (trait_spec w ((oInst (GProgram.instAt w o)).gTrait))) ?_
    refine AL.cons rfl (AOp.move (.inl rfl) rfl rfl) ?_
    refine AL.cons rfl (AOp.extract rfl rfl rfl rfl) ?_
    refine AL.cons rfl (AOp.extract rfl rfl rfl rfl) ?_
    refine AL.cons rfl (AOp.extract rfl rfl rfl rfl) ?_
    refine AL.cons rfl (AOp.alloc rfl rfl zr94) ?_
    refine AL.cons rfl (AOp.storePtr (cs := [.t (.leaf (.string ((oTrait (w.traitAt (((oInst (GProgram.instAt w o)).gTrait)))).gName))), .t (.row 1 (strTrs ((oTrait (w.traitAt (((oInst (GProgram.instAt w o)).gTrait)))).gSupertraits))), .t (.leaf (.bool ((oTrait (w.traitAt (((oInst (GProgram.instAt w o)).gTrait)))).gAuto))), .t (.leaf (.bool ((oTrait (w.traitAt (((oInst (GProgram.instAt w o)).gTrait)))).gAssoc))), .t (.row 16 (GSignature.trs ((oTrait (w.traitAt (((oInst (GProgram.instAt w o)).gTrait)))).gSignatures)))]) (ds := [.t (.leaf (.string ((oTrait (w.traitAt (((oInst (GProgram.instAt w o)).gTrait)))).gName))), .t (.row 1 (strTrs ((oTrait (w.traitAt (((oInst (GProgram.instAt w o)).gTrait)))).gSupertraits))), .t (.leaf (.bool ((oTrait (w.traitAt (((oInst (GProgram.instAt w o)).gTrait)))).gAuto))), .t (.leaf (.bool ((oTrait (w.traitAt (((oInst (GProgram.instAt w o)).gTrait)))).gAssoc))), .t (.row 16 (GSignature.trs ((oTrait (w.traitAt (((oInst (GProgram.instAt w o)).gTrait)))).gSignatures)))]) rfl rfl rfl rfl rfl rfl rfl sz94 (Nat.le_of_ble_eq_true rfl) rfl) ?_
    refine AL.cons rfl (AOp.move (.inr rfl) rfl rfl) ?_
    refine AL.cons rfl (AOp.move (.inr rfl) rfl rfl) ?_
    refine AL.nil ?_
    refine AWP.seq ?_
    rcases bool2 ((w.traitAt (((oInst (GProgram.instAt w o)).gTrait))).isSome) with g2 | g2
    · skip
      have g2b := g2
      try simp only [Bool.and_eq_true, Bool.or_eq_true, Bool.and_eq_false_iff, Bool.or_eq_false_iff, decide_eq_true_eq, decide_eq_false_iff_not, Bool.not_eq_true', Bool.not_eq_false', Bool.not_eq_eq_eq_not, Bool.not_true, Bool.not_false, ge_iff_le, gt_iff_lt, Int.not_lt, Int.not_le] at g2b
      rcases bool2 (decide ((oInt (w.traitAt (((oInst (GProgram.instAt w o)).gTrait))) : Int) = o.gPackage)) with g3 | g3
      · skip
        have g3b := g3
        try simp only [Bool.and_eq_true, Bool.or_eq_true, Bool.and_eq_false_iff, Bool.or_eq_false_iff, decide_eq_true_eq, decide_eq_false_iff_not, Bool.not_eq_true', Bool.not_eq_false', Bool.not_eq_eq_eq_not, Bool.not_true, Bool.not_false, ge_iff_le, gt_iff_lt, Int.not_lt, Int.not_le] at g3b
        refine AWP.drawnL ⟨_, _, fun _ _ => (⟨[some ⟨31, [.t (.row 6 (GPackage.trs (w.gPackages)))]⟩, some ⟨33, [.t (.leaf (.int .i64 (o.gPackage))), .t (.leaf (.int .i64 (o.gAt)))]⟩, some ⟨113, [.t (.leaf (.string ((oInst (GProgram.instAt w o)).gTrait))), .t (.row 1 (strTrs ((oInst (GProgram.instAt w o)).gVars))), .t (.leaf (.int .i64 ((oInst (GProgram.instAt w o)).gHead.gKind))), .t (.leaf (.string ((oInst (GProgram.instAt w o)).gHead.gName))), .t (.row 3 (GType.trs ((oInst (GProgram.instAt w o)).gHead.gArgs))), .t (.row 4 (GBound.trs ((oInst (GProgram.instAt w o)).gWhere))), .t (.leaf (.bool ((oInst (GProgram.instAt w o)).gDefault))), .t (.leaf (.bool ((oInst (GProgram.instAt w o)).gHasAssoc))), .t (.leaf (.int .i64 ((oInst (GProgram.instAt w o)).gAssoc.gKind))), .t (.leaf (.string ((oInst (GProgram.instAt w o)).gAssoc.gName))), .t (.row 3 (GType.trs ((oInst (GProgram.instAt w o)).gAssoc.gArgs))), .t (.row 11 (GMethod.trs ((oInst (GProgram.instAt w o)).gMethods)))]⟩, some ⟨94, [.t (.leaf (.string ((oTrait (w.traitAt (((oInst (GProgram.instAt w o)).gTrait)))).gName))), .t (.row 1 (strTrs ((oTrait (w.traitAt (((oInst (GProgram.instAt w o)).gTrait)))).gSupertraits))), .t (.leaf (.bool ((oTrait (w.traitAt (((oInst (GProgram.instAt w o)).gTrait)))).gAuto))), .t (.leaf (.bool ((oTrait (w.traitAt (((oInst (GProgram.instAt w o)).gTrait)))).gAssoc))), .t (.row 16 (GSignature.trs ((oTrait (w.traitAt (((oInst (GProgram.instAt w o)).gTrait)))).gSignatures)))]⟩], []⟩ : Sto), fun q' => ([some (.t (.leaf (.bool ((w.traitAt (((oInst (GProgram.instAt w o)).gTrait))).isSome)))), some (.t (.leaf (.bool ((w.traitAt (((oInst (GProgram.instAt w o)).gTrait))).isSome)))), some (.t (.leaf (.int .i64 (oInt (w.traitAt (((oInst (GProgram.instAt w o)).gTrait))))))), some (.ptr 1 0), some (.t (.leaf (.int .i64 (o.gPackage)))), some (.t (.leaf (.bool (decide ((oInt (w.traitAt (((oInst (GProgram.instAt w o)).gTrait))) : Int) = o.gPackage))))), some (.t (.leaf (.bool (decide ((oInt (w.traitAt (((oInst (GProgram.instAt w o)).gTrait))) : Int) = o.gPackage))))), some (.t (.leaf (.bool (decide ((oInt (w.traitAt (((oInst (GProgram.instAt w o)).gTrait))) : Int) = o.gPackage))))), none, none, none, none, none, none, none, some (.t (.leaf (.bool (true)))), some (.t (.leaf (.bool (true))))] : List (Option PV)).getD q' none, fun q' => ([.q 0 0, .q 0 0, .q 0 0, .q 0 0, .q 0 0, .q 0 0, .q 0 0, .q 0 0, .q 0 0, .q 0 0, .q 0 0, .q 0 0, .q 0 0, .q 0 0, .q 0 0, .q 0 0, .q 0 0] : List DK).getD q' (.q 0 0), [], none, fun q' => ([[(9, none)], [(26, some 0)], [(8, none)], [(3, none)], [(29, some 3)], [(28, some 2), (30, some 4)], [(27, some 1), (31, some 5)], [(32, some 6)], [], [], [], [], [], [], [], [(33, some 7)], [(41, some 15)]] : List (List (Nat × Option Nat))).getD q' []⟩ rfl mixed (by kernel_rfl) rfl rfl ⟨?_, ?_, ?_, ?_, ?_, ?_, ?_, ?_, ?_, ?_, ?_, ?_, ?_, ?_, ?_, ?_, ?_, trivial⟩ rfl ?_
        · refine .inl ⟨rfl, fun s' j b (h1 : 0 ≤ j) (h2 : j ≤ 0) hs hl => ?_⟩
          obtain rfl : j = 0 := by omega
          exact ⟨_, rfl, AOp.move (.inl rfl) rfl (hl 9 none _ (.head _) rfl)⟩
        · refine .inl ⟨rfl, fun s' j b (h1 : 0 ≤ j) (h2 : j ≤ 0) hs hl => ?_⟩
          obtain rfl : j = 0 := by omega
          exact ⟨_, rfl, AOp.move (.inl rfl) rfl (hl 26 (some 0) _ (.head _) rfl)⟩
        · refine .inl ⟨(congrArg (fun b => some (b == true)) g2), fun s' j b (h1 : 0 ≤ j) (h2 : j ≤ 0) hs hl => ?_⟩
          obtain rfl : j = 0 := by omega
          exact ⟨_, rfl, AOp.move (.inl rfl) rfl (hl 8 none _ (.head _) rfl)⟩
        · refine .inl ⟨(congrArg (fun b => some (b == true)) g2), fun s' j b (h1 : 0 ≤ j) (h2 : j ≤ 0) hs hl => ?_⟩
          obtain rfl : j = 0 := by omega
          exact ⟨_, rfl, AOp.fieldPtr (k := 1) (d := 0) (e := 0) rfl rfl (hl 3 none _ (.head _) rfl) fo33_0⟩
        · refine .inl ⟨(congrArg (fun b => some (b == true)) g2), fun s' j b (h1 : 0 ≤ j) (h2 : j ≤ 0) hs hl => ?_⟩
          obtain rfl : j = 0 := by omega
          exact ⟨_, rfl, AOp.loadPtr1 rfl rfl (hl 29 (some 3) _ (.head _) rfl) (by rw [hs]; rfl) sh3 rfl⟩
        · refine .inl ⟨(congrArg (fun b => some (b == true)) g2), fun s' j b (h1 : 0 ≤ j) (h2 : j ≤ 0) hs hl => ?_⟩
          obtain rfl : j = 0 := by omega
          exact ⟨_, rfl, AOp.eqlI rfl rfl (hl 28 (some 2) _ (.head _) rfl) (hl 30 (some 4) _ (.tail _ (.head _)) rfl)⟩
        · refine .inl ⟨rfl, fun s' j b (h1 : 0 ≤ j) (h2 : j ≤ 0) hs hl => ?_⟩
          obtain rfl : j = 0 := by omega
          exact ⟨_, rfl, AOp.pickT rfl rfl (hl 27 (some 1) _ (.head _) rfl) g2 (hl 31 (some 5) _ (.tail _ (.head _)) rfl)⟩
        · refine .inl ⟨rfl, fun s' j b (h1 : 0 ≤ j) (h2 : j ≤ 0) hs hl => ?_⟩
          obtain rfl : j = 0 := by omega
          exact ⟨_, rfl, AOp.move (.inl rfl) rfl (hl 32 (some 6) _ (.head _) rfl)⟩
        · exact .inr ⟨(congrArg (fun b => some (b == false)) g3), rfl, ⟨_, _, rfl⟩, fun d hd => by cases hd; rfl⟩
        · exact .inr ⟨(congrArg (fun b => some (b == false)) g3), rfl, ⟨_, _, rfl⟩, fun d hd => by cases hd; rfl⟩
        · exact .inr ⟨(congrArg (fun b => some (b == false)) g3), rfl, ⟨_, _, rfl⟩, fun d hd => by cases hd; rfl⟩
        · exact .inr ⟨(congrArg (fun b => some (b == false)) g3), rfl, ⟨_, _, rfl⟩, fun d hd => by cases hd; rfl⟩
        · exact .inr ⟨(congrArg (fun b => some (b == false)) g3), rfl, ⟨_, _, rfl⟩, fun d hd => by cases hd; rfl⟩
        · exact .inr ⟨(congrArg (fun b => some (b == false)) g3), rfl, ⟨_, _, rfl⟩, fun d hd => by cases hd; rfl⟩
        · exact .inr ⟨(congrArg (fun b => some (b == false)) g3), rfl, ⟨_, _, rfl⟩, fun d hd => by cases hd; rfl⟩
        · refine .inl ⟨rfl, fun s' j b (h1 : 0 ≤ j) (h2 : j ≤ 0) hs hl => ?_⟩
          obtain rfl : j = 0 := by omega
          exact ⟨_, rfl, AOp.pickT rfl rfl (hl 33 (some 7) _ (.head _) rfl) g3 rfl⟩
        · refine .inl ⟨rfl, fun s' j b (h1 : 0 ≤ j) (h2 : j ≤ 0) hs hl => ?_⟩
          obtain rfl : j = 0 := by omega
          exact ⟨_, rfl, AOp.move (.inr rfl) rfl (hl 41 (some 15) _ (.head _) rfl)⟩
        refine AWP.ret ?_
        exact Ends.mk (ps := [_]) (.inr rfl) ⟨rfl, trivial⟩ rfl (StLe.mk' (st' := ⟨[], []⟩) trivial rfl) (keeps_nil hC) (q := (.t (.leaf (.bool (true))) : PV)) (by (repeat' (first | exact PV.Le.refl _ | exact LeL.nil | exact PV.Le.nil _ | exact PV.Le.acc _ _ _ | apply LeL.cons | apply PV.Le.agg | apply PV.Le.tup))) rfl ⟨by simp_all [GProgram.orphan], rfl⟩
      · skip
        have g3b := g3
        try simp only [Bool.and_eq_true, Bool.or_eq_true, Bool.and_eq_false_iff, Bool.or_eq_false_iff, decide_eq_true_eq, decide_eq_false_iff_not, Bool.not_eq_true', Bool.not_eq_false', Bool.not_eq_eq_eq_not, Bool.not_true, Bool.not_false, ge_iff_le, gt_iff_lt, Int.not_lt, Int.not_le] at g3b
        refine AWP.drawnL ⟨_, _, fun _ _ => (⟨[some ⟨31, [.t (.row 6 (GPackage.trs (w.gPackages)))]⟩, some ⟨33, [.t (.leaf (.int .i64 (o.gPackage))), .t (.leaf (.int .i64 (o.gAt)))]⟩, some ⟨113, [.t (.leaf (.string ((oInst (GProgram.instAt w o)).gTrait))), .t (.row 1 (strTrs ((oInst (GProgram.instAt w o)).gVars))), .t (.leaf (.int .i64 ((oInst (GProgram.instAt w o)).gHead.gKind))), .t (.leaf (.string ((oInst (GProgram.instAt w o)).gHead.gName))), .t (.row 3 (GType.trs ((oInst (GProgram.instAt w o)).gHead.gArgs))), .t (.row 4 (GBound.trs ((oInst (GProgram.instAt w o)).gWhere))), .t (.leaf (.bool ((oInst (GProgram.instAt w o)).gDefault))), .t (.leaf (.bool ((oInst (GProgram.instAt w o)).gHasAssoc))), .t (.leaf (.int .i64 ((oInst (GProgram.instAt w o)).gAssoc.gKind))), .t (.leaf (.string ((oInst (GProgram.instAt w o)).gAssoc.gName))), .t (.row 3 (GType.trs ((oInst (GProgram.instAt w o)).gAssoc.gArgs))), .t (.row 11 (GMethod.trs ((oInst (GProgram.instAt w o)).gMethods)))]⟩, some ⟨94, [.t (.leaf (.string ((oTrait (w.traitAt (((oInst (GProgram.instAt w o)).gTrait)))).gName))), .t (.row 1 (strTrs ((oTrait (w.traitAt (((oInst (GProgram.instAt w o)).gTrait)))).gSupertraits))), .t (.leaf (.bool ((oTrait (w.traitAt (((oInst (GProgram.instAt w o)).gTrait)))).gAuto))), .t (.leaf (.bool ((oTrait (w.traitAt (((oInst (GProgram.instAt w o)).gTrait)))).gAssoc))), .t (.row 16 (GSignature.trs ((oTrait (w.traitAt (((oInst (GProgram.instAt w o)).gTrait)))).gSignatures)))]⟩], []⟩ : Sto), fun q' => ([some (.t (.leaf (.bool ((w.traitAt (((oInst (GProgram.instAt w o)).gTrait))).isSome)))), some (.t (.leaf (.bool ((w.traitAt (((oInst (GProgram.instAt w o)).gTrait))).isSome)))), some (.t (.leaf (.int .i64 (oInt (w.traitAt (((oInst (GProgram.instAt w o)).gTrait))))))), some (.ptr 1 0), some (.t (.leaf (.int .i64 (o.gPackage)))), some (.t (.leaf (.bool (decide ((oInt (w.traitAt (((oInst (GProgram.instAt w o)).gTrait))) : Int) = o.gPackage))))), some (.t (.leaf (.bool (decide ((oInt (w.traitAt (((oInst (GProgram.instAt w o)).gTrait))) : Int) = o.gPackage))))), some (.t (.leaf (.bool (decide ((oInt (w.traitAt (((oInst (GProgram.instAt w o)).gTrait))) : Int) = o.gPackage))))), some ((GProgram.pv w)), some (.ptr 2 2), some ((GType.pv (((oInst (GProgram.instAt w o))).gHead))), some (.t (.leaf (.int .i64 (GProgram.home w (((((oInst (GProgram.instAt w o))).gHead))))))), some (.ptr 1 0), some (.t (.leaf (.int .i64 (o.gPackage)))), some (.t (.leaf (.bool (decide ((GProgram.home w (((((oInst (GProgram.instAt w o))).gHead))) : Int) = o.gPackage))))), some (.t (.leaf (.bool (decide ((GProgram.home w (((((oInst (GProgram.instAt w o))).gHead))) : Int) = o.gPackage))))), some (.t (.leaf (.bool (decide ((GProgram.home w (((((oInst (GProgram.instAt w o))).gHead))) : Int) = o.gPackage)))))] : List (Option PV)).getD q' none, fun q' => ([.q 0 0, .q 0 0, .q 0 0, .q 0 0, .q 0 0, .q 0 0, .q 0 0, .q 0 0, .q 0 0, .q 0 0, .q 0 0, .q 0 0, .q 0 0, .q 0 0, .q 0 0, .q 0 0, .q 0 0] : List DK).getD q' (.q 0 0), [], none, fun q' => ([[(9, none)], [(26, some 0)], [(8, none)], [(3, none)], [(29, some 3)], [(28, some 2), (30, some 4)], [(27, some 1), (31, some 5)], [(32, some 6)], [(2, none)], [(5, none)], [(35, some 9)], [(36, some 10), (34, some 8)], [(3, none)], [(38, some 12)], [(37, some 11), (39, some 13)], [(33, some 7), (40, some 14)], [(41, some 15)]] : List (List (Nat × Option Nat))).getD q' []⟩ rfl mixed (by kernel_rfl) rfl rfl ⟨?_, ?_, ?_, ?_, ?_, ?_, ?_, ?_, ?_, ?_, ?_, ?_, ?_, ?_, ?_, ?_, ?_, trivial⟩ rfl ?_
        · refine .inl ⟨rfl, fun s' j b (h1 : 0 ≤ j) (h2 : j ≤ 0) hs hl => ?_⟩
          obtain rfl : j = 0 := by omega
          exact ⟨_, rfl, AOp.move (.inl rfl) rfl (hl 9 none _ (.head _) rfl)⟩
        · refine .inl ⟨rfl, fun s' j b (h1 : 0 ≤ j) (h2 : j ≤ 0) hs hl => ?_⟩
          obtain rfl : j = 0 := by omega
          exact ⟨_, rfl, AOp.move (.inl rfl) rfl (hl 26 (some 0) _ (.head _) rfl)⟩
        · refine .inl ⟨(congrArg (fun b => some (b == true)) g2), fun s' j b (h1 : 0 ≤ j) (h2 : j ≤ 0) hs hl => ?_⟩
          obtain rfl : j = 0 := by omega
          exact ⟨_, rfl, AOp.move (.inl rfl) rfl (hl 8 none _ (.head _) rfl)⟩
        · refine .inl ⟨(congrArg (fun b => some (b == true)) g2), fun s' j b (h1 : 0 ≤ j) (h2 : j ≤ 0) hs hl => ?_⟩
          obtain rfl : j = 0 := by omega
          exact ⟨_, rfl, AOp.fieldPtr (k := 1) (d := 0) (e := 0) rfl rfl (hl 3 none _ (.head _) rfl) fo33_0⟩
        · refine .inl ⟨(congrArg (fun b => some (b == true)) g2), fun s' j b (h1 : 0 ≤ j) (h2 : j ≤ 0) hs hl => ?_⟩
          obtain rfl : j = 0 := by omega
          exact ⟨_, rfl, AOp.loadPtr1 rfl rfl (hl 29 (some 3) _ (.head _) rfl) (by rw [hs]; rfl) sh3 rfl⟩
        · refine .inl ⟨(congrArg (fun b => some (b == true)) g2), fun s' j b (h1 : 0 ≤ j) (h2 : j ≤ 0) hs hl => ?_⟩
          obtain rfl : j = 0 := by omega
          exact ⟨_, rfl, AOp.eqlI rfl rfl (hl 28 (some 2) _ (.head _) rfl) (hl 30 (some 4) _ (.tail _ (.head _)) rfl)⟩
        · refine .inl ⟨rfl, fun s' j b (h1 : 0 ≤ j) (h2 : j ≤ 0) hs hl => ?_⟩
          obtain rfl : j = 0 := by omega
          exact ⟨_, rfl, AOp.pickT rfl rfl (hl 27 (some 1) _ (.head _) rfl) g2 (hl 31 (some 5) _ (.tail _ (.head _)) rfl)⟩
        · refine .inl ⟨rfl, fun s' j b (h1 : 0 ≤ j) (h2 : j ≤ 0) hs hl => ?_⟩
          obtain rfl : j = 0 := by omega
          exact ⟨_, rfl, AOp.move (.inl rfl) rfl (hl 32 (some 6) _ (.head _) rfl)⟩
        · refine .inl ⟨(congrArg (fun b => some (b == false)) g3), fun s' j b (h1 : 0 ≤ j) (h2 : j ≤ 0) hs hl => ?_⟩
          obtain rfl : j = 0 := by omega
          exact ⟨_, rfl, AOp.loadPtr (cs := [.t (.row 6 (GPackage.trs (w.gPackages)))]) rfl rfl (hl 2 none _ (.head _) rfl) (by rw [hs]; rfl) sh31 rfl rfl⟩
        · refine .inl ⟨(congrArg (fun b => some (b == false)) g3), fun s' j b (h1 : 0 ≤ j) (h2 : j ≤ 0) hs hl => ?_⟩
          obtain rfl : j = 0 := by omega
          exact ⟨_, rfl, AOp.fieldPtr (k := 2) (d := 0) (e := 2) rfl rfl (hl 5 none _ (.head _) rfl) fo113_2⟩
        · refine .inl ⟨(congrArg (fun b => some (b == false)) g3), fun s' j b (h1 : 0 ≤ j) (h2 : j ≤ 0) hs hl => ?_⟩
          obtain rfl : j = 0 := by omega
          exact ⟨_, rfl, AOp.loadPtr (cs := [.t (.leaf (.int .i64 ((((oInst (GProgram.instAt w o))).gHead).gKind))), .t (.leaf (.string ((((oInst (GProgram.instAt w o))).gHead).gName))), .t (.row 3 (GType.trs ((((oInst (GProgram.instAt w o))).gHead).gArgs)))]) rfl rfl (hl 35 (some 9) _ (.head _) rfl) (by rw [hs]; rfl) sh47 rfl rfl⟩
        · refine .inl ⟨(congrArg (fun b => some (b == false)) g3), fun s' j b (h1 : 0 ≤ j) (h2 : j ≤ 0) hs hl => ?_⟩
          obtain rfl : j = 0 := by omega
          exact ⟨_, rfl, AOp.callF (ps := [_, _]) rfl rfl Tryz.func79 (by kernel_rfl) rfl (evs_cons (hl 34 (some 8) _ (.tail _ (.head _)) rfl) (evs_cons (hl 36 (some 10) _ (.head _) rfl) rfl)) (by (repeat' (first | exact PV.Le.refl _ | exact LeL.nil | exact PV.Le.nil _ | exact PV.Le.acc _ _ _ | apply LeL.cons | apply PV.Le.agg | apply PV.Le.tup))) rfl rfl (home_spec w ((((oInst (GProgram.instAt w o))).gHead)))⟩
        · refine .inl ⟨(congrArg (fun b => some (b == false)) g3), fun s' j b (h1 : 0 ≤ j) (h2 : j ≤ 0) hs hl => ?_⟩
          obtain rfl : j = 0 := by omega
          exact ⟨_, rfl, AOp.fieldPtr (k := 1) (d := 0) (e := 0) rfl rfl (hl 3 none _ (.head _) rfl) fo33_0⟩
        · refine .inl ⟨(congrArg (fun b => some (b == false)) g3), fun s' j b (h1 : 0 ≤ j) (h2 : j ≤ 0) hs hl => ?_⟩
          obtain rfl : j = 0 := by omega
          exact ⟨_, rfl, AOp.loadPtr1 rfl rfl (hl 38 (some 12) _ (.head _) rfl) (by rw [hs]; rfl) sh3 rfl⟩
        · refine .inl ⟨(congrArg (fun b => some (b == false)) g3), fun s' j b (h1 : 0 ≤ j) (h2 : j ≤ 0) hs hl => ?_⟩
          obtain rfl : j = 0 := by omega
          exact ⟨_, rfl, AOp.eqlI rfl rfl (hl 37 (some 11) _ (.head _) rfl) (hl 39 (some 13) _ (.tail _ (.head _)) rfl)⟩
        · refine .inl ⟨rfl, fun s' j b (h1 : 0 ≤ j) (h2 : j ≤ 0) hs hl => ?_⟩
          obtain rfl : j = 0 := by omega
          exact ⟨_, rfl, AOp.pickF rfl rfl (hl 33 (some 7) _ (.head _) rfl) g3 (hl 40 (some 14) _ (.tail _ (.head _)) rfl)⟩
        · refine .inl ⟨rfl, fun s' j b (h1 : 0 ≤ j) (h2 : j ≤ 0) hs hl => ?_⟩
          obtain rfl : j = 0 := by omega
          exact ⟨_, rfl, AOp.move (.inr rfl) rfl (hl 41 (some 15) _ (.head _) rfl)⟩
        refine AWP.ret ?_
        exact Ends.mk (ps := [_]) (.inr rfl) ⟨rfl, trivial⟩ rfl (StLe.mk' (st' := ⟨[], []⟩) trivial rfl) (keeps_nil hC) (q := (.t (.leaf (.bool (decide ((GProgram.home w (((((oInst (GProgram.instAt w o))).gHead))) : Int) = o.gPackage)))) : PV)) (by (repeat' (first | exact PV.Le.refl _ | exact LeL.nil | exact PV.Le.nil _ | exact PV.Le.acc _ _ _ | apply LeL.cons | apply PV.Le.agg | apply PV.Le.tup))) rfl ⟨by simp_all [GProgram.orphan], rfl⟩
    · skip
      have g2b := g2
      try simp only [Bool.and_eq_true, Bool.or_eq_true, Bool.and_eq_false_iff, Bool.or_eq_false_iff, decide_eq_true_eq, decide_eq_false_iff_not, Bool.not_eq_true', Bool.not_eq_false', Bool.not_eq_eq_eq_not, Bool.not_true, Bool.not_false, ge_iff_le, gt_iff_lt, Int.not_lt, Int.not_le] at g2b
      refine AWP.drawnL ⟨_, _, fun _ _ => (⟨[some ⟨31, [.t (.row 6 (GPackage.trs (w.gPackages)))]⟩, some ⟨33, [.t (.leaf (.int .i64 (o.gPackage))), .t (.leaf (.int .i64 (o.gAt)))]⟩, some ⟨113, [.t (.leaf (.string ((oInst (GProgram.instAt w o)).gTrait))), .t (.row 1 (strTrs ((oInst (GProgram.instAt w o)).gVars))), .t (.leaf (.int .i64 ((oInst (GProgram.instAt w o)).gHead.gKind))), .t (.leaf (.string ((oInst (GProgram.instAt w o)).gHead.gName))), .t (.row 3 (GType.trs ((oInst (GProgram.instAt w o)).gHead.gArgs))), .t (.row 4 (GBound.trs ((oInst (GProgram.instAt w o)).gWhere))), .t (.leaf (.bool ((oInst (GProgram.instAt w o)).gDefault))), .t (.leaf (.bool ((oInst (GProgram.instAt w o)).gHasAssoc))), .t (.leaf (.int .i64 ((oInst (GProgram.instAt w o)).gAssoc.gKind))), .t (.leaf (.string ((oInst (GProgram.instAt w o)).gAssoc.gName))), .t (.row 3 (GType.trs ((oInst (GProgram.instAt w o)).gAssoc.gArgs))), .t (.row 11 (GMethod.trs ((oInst (GProgram.instAt w o)).gMethods)))]⟩, some ⟨94, [.t (.leaf (.string ((oTrait (w.traitAt (((oInst (GProgram.instAt w o)).gTrait)))).gName))), .t (.row 1 (strTrs ((oTrait (w.traitAt (((oInst (GProgram.instAt w o)).gTrait)))).gSupertraits))), .t (.leaf (.bool ((oTrait (w.traitAt (((oInst (GProgram.instAt w o)).gTrait)))).gAuto))), .t (.leaf (.bool ((oTrait (w.traitAt (((oInst (GProgram.instAt w o)).gTrait)))).gAssoc))), .t (.row 16 (GSignature.trs ((oTrait (w.traitAt (((oInst (GProgram.instAt w o)).gTrait)))).gSignatures)))]⟩], []⟩ : Sto), fun q' => ([some (.t (.leaf (.bool ((w.traitAt (((oInst (GProgram.instAt w o)).gTrait))).isSome)))), some (.t (.leaf (.bool ((w.traitAt (((oInst (GProgram.instAt w o)).gTrait))).isSome)))), none, none, none, none, some (.t (.leaf (.bool (false)))), some (.t (.leaf (.bool (false)))), some ((GProgram.pv w)), some (.ptr 2 2), some ((GType.pv (((oInst (GProgram.instAt w o))).gHead))), some (.t (.leaf (.int .i64 (GProgram.home w (((((oInst (GProgram.instAt w o))).gHead))))))), some (.ptr 1 0), some (.t (.leaf (.int .i64 (o.gPackage)))), some (.t (.leaf (.bool (decide ((GProgram.home w (((((oInst (GProgram.instAt w o))).gHead))) : Int) = o.gPackage))))), some (.t (.leaf (.bool (decide ((GProgram.home w (((((oInst (GProgram.instAt w o))).gHead))) : Int) = o.gPackage))))), some (.t (.leaf (.bool (decide ((GProgram.home w (((((oInst (GProgram.instAt w o))).gHead))) : Int) = o.gPackage)))))] : List (Option PV)).getD q' none, fun q' => ([.q 0 0, .q 0 0, .q 0 0, .q 0 0, .q 0 0, .q 0 0, .q 0 0, .q 0 0, .q 0 0, .q 0 0, .q 0 0, .q 0 0, .q 0 0, .q 0 0, .q 0 0, .q 0 0, .q 0 0] : List DK).getD q' (.q 0 0), [], none, fun q' => ([[(9, none)], [(26, some 0)], [], [], [], [], [(27, some 1)], [(32, some 6)], [(2, none)], [(5, none)], [(35, some 9)], [(36, some 10), (34, some 8)], [(3, none)], [(38, some 12)], [(37, some 11), (39, some 13)], [(33, some 7), (40, some 14)], [(41, some 15)]] : List (List (Nat × Option Nat))).getD q' []⟩ rfl mixed (by kernel_rfl) rfl rfl ⟨?_, ?_, ?_, ?_, ?_, ?_, ?_, ?_, ?_, ?_, ?_, ?_, ?_, ?_, ?_, ?_, ?_, trivial⟩ rfl ?_
      · refine .inl ⟨rfl, fun s' j b (h1 : 0 ≤ j) (h2 : j ≤ 0) hs hl => ?_⟩
        obtain rfl : j = 0 := by omega
        exact ⟨_, rfl, AOp.move (.inl rfl) rfl (hl 9 none _ (.head _) rfl)⟩
      · refine .inl ⟨rfl, fun s' j b (h1 : 0 ≤ j) (h2 : j ≤ 0) hs hl => ?_⟩
        obtain rfl : j = 0 := by omega
        exact ⟨_, rfl, AOp.move (.inl rfl) rfl (hl 26 (some 0) _ (.head _) rfl)⟩
      · exact .inr ⟨(congrArg (fun b => some (b == true)) g2), rfl, ⟨_, _, rfl⟩, fun d hd => by cases hd; rfl⟩
      · exact .inr ⟨(congrArg (fun b => some (b == true)) g2), rfl, ⟨_, _, rfl⟩, fun d hd => by cases hd; rfl⟩
      · exact .inr ⟨(congrArg (fun b => some (b == true)) g2), rfl, ⟨_, _, rfl⟩, fun d hd => by cases hd; rfl⟩
      · exact .inr ⟨(congrArg (fun b => some (b == true)) g2), rfl, ⟨_, _, rfl⟩, fun d hd => by cases hd; rfl⟩
      · refine .inl ⟨rfl, fun s' j b (h1 : 0 ≤ j) (h2 : j ≤ 0) hs hl => ?_⟩
        obtain rfl : j = 0 := by omega
        exact ⟨_, rfl, AOp.pickF rfl rfl (hl 27 (some 1) _ (.head _) rfl) g2 rfl⟩
      · refine .inl ⟨rfl, fun s' j b (h1 : 0 ≤ j) (h2 : j ≤ 0) hs hl => ?_⟩
        obtain rfl : j = 0 := by omega
        exact ⟨_, rfl, AOp.move (.inl rfl) rfl (hl 32 (some 6) _ (.head _) rfl)⟩
      · refine .inl ⟨(congrArg (fun b => some (b == false)) (rfl : false = _)), fun s' j b (h1 : 0 ≤ j) (h2 : j ≤ 0) hs hl => ?_⟩
        obtain rfl : j = 0 := by omega
        exact ⟨_, rfl, AOp.loadPtr (cs := [.t (.row 6 (GPackage.trs (w.gPackages)))]) rfl rfl (hl 2 none _ (.head _) rfl) (by rw [hs]; rfl) sh31 rfl rfl⟩
      · refine .inl ⟨(congrArg (fun b => some (b == false)) (rfl : false = _)), fun s' j b (h1 : 0 ≤ j) (h2 : j ≤ 0) hs hl => ?_⟩
        obtain rfl : j = 0 := by omega
        exact ⟨_, rfl, AOp.fieldPtr (k := 2) (d := 0) (e := 2) rfl rfl (hl 5 none _ (.head _) rfl) fo113_2⟩
      · refine .inl ⟨(congrArg (fun b => some (b == false)) (rfl : false = _)), fun s' j b (h1 : 0 ≤ j) (h2 : j ≤ 0) hs hl => ?_⟩
        obtain rfl : j = 0 := by omega
        exact ⟨_, rfl, AOp.loadPtr (cs := [.t (.leaf (.int .i64 ((((oInst (GProgram.instAt w o))).gHead).gKind))), .t (.leaf (.string ((((oInst (GProgram.instAt w o))).gHead).gName))), .t (.row 3 (GType.trs ((((oInst (GProgram.instAt w o))).gHead).gArgs)))]) rfl rfl (hl 35 (some 9) _ (.head _) rfl) (by rw [hs]; rfl) sh47 rfl rfl⟩
      · refine .inl ⟨(congrArg (fun b => some (b == false)) (rfl : false = _)), fun s' j b (h1 : 0 ≤ j) (h2 : j ≤ 0) hs hl => ?_⟩
        obtain rfl : j = 0 := by omega
        exact ⟨_, rfl, AOp.callF (ps := [_, _]) rfl rfl Tryz.func79 (by kernel_rfl) rfl (evs_cons (hl 34 (some 8) _ (.tail _ (.head _)) rfl) (evs_cons (hl 36 (some 10) _ (.head _) rfl) rfl)) (by (repeat' (first | exact PV.Le.refl _ | exact LeL.nil | exact PV.Le.nil _ | exact PV.Le.acc _ _ _ | apply LeL.cons | apply PV.Le.agg | apply PV.Le.tup))) rfl rfl (home_spec w ((((oInst (GProgram.instAt w o))).gHead)))⟩
      · refine .inl ⟨(congrArg (fun b => some (b == false)) (rfl : false = _)), fun s' j b (h1 : 0 ≤ j) (h2 : j ≤ 0) hs hl => ?_⟩
        obtain rfl : j = 0 := by omega
        exact ⟨_, rfl, AOp.fieldPtr (k := 1) (d := 0) (e := 0) rfl rfl (hl 3 none _ (.head _) rfl) fo33_0⟩
      · refine .inl ⟨(congrArg (fun b => some (b == false)) (rfl : false = _)), fun s' j b (h1 : 0 ≤ j) (h2 : j ≤ 0) hs hl => ?_⟩
        obtain rfl : j = 0 := by omega
        exact ⟨_, rfl, AOp.loadPtr1 rfl rfl (hl 38 (some 12) _ (.head _) rfl) (by rw [hs]; rfl) sh3 rfl⟩
      · refine .inl ⟨(congrArg (fun b => some (b == false)) (rfl : false = _)), fun s' j b (h1 : 0 ≤ j) (h2 : j ≤ 0) hs hl => ?_⟩
        obtain rfl : j = 0 := by omega
        exact ⟨_, rfl, AOp.eqlI rfl rfl (hl 37 (some 11) _ (.head _) rfl) (hl 39 (some 13) _ (.tail _ (.head _)) rfl)⟩
      · refine .inl ⟨rfl, fun s' j b (h1 : 0 ≤ j) (h2 : j ≤ 0) hs hl => ?_⟩
        obtain rfl : j = 0 := by omega
        exact ⟨_, rfl, AOp.pickF rfl rfl (hl 33 (some 7) _ (.head _) rfl) rfl (hl 40 (some 14) _ (.tail _ (.head _)) rfl)⟩
      · refine .inl ⟨rfl, fun s' j b (h1 : 0 ≤ j) (h2 : j ≤ 0) hs hl => ?_⟩
        obtain rfl : j = 0 := by omega
        exact ⟨_, rfl, AOp.move (.inr rfl) rfl (hl 41 (some 15) _ (.head _) rfl)⟩
      refine AWP.ret ?_
      exact Ends.mk (ps := [_]) (.inr rfl) ⟨rfl, trivial⟩ rfl (StLe.mk' (st' := ⟨[], []⟩) trivial rfl) (keeps_nil hC) (q := (.t (.leaf (.bool (decide ((GProgram.home w (((((oInst (GProgram.instAt w o))).gHead))) : Int) = o.gPackage)))) : PV)) (by (repeat' (first | exact PV.Le.refl _ | exact LeL.nil | exact PV.Le.nil _ | exact PV.Le.acc _ _ _ | apply LeL.cons | apply PV.Le.agg | apply PV.Le.tup))) rfl ⟨by simp_all [GProgram.orphan], rfl⟩

end Go.Proofs.YtnakkelglbcecaaGreat
