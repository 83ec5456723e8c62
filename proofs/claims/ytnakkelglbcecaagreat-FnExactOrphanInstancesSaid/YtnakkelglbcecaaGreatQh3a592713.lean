/- Words, rules and walks of several kinds, laid together: PmOrph, MaOrphs, Plain, SL, Del, PmOrphZ, Orphs, PlOrphs. No conditions but those that each theorem states. -/
import Derived.Test.YtnakkelglbcecaaGreatQh8be9b30e
import Derived.Test.YtnakkelglbcecaaGreatQh5611bbe8
import Derived.Test.YtnakkelglbcecaaGreatQhd57c2d15
import Derived.Test.YtnakkelglbcecaaGreatQh45a51f2a
import Derived.WalkArith
import Derived.Test.YtnakkelglbcecaaGreatQhe49e622d
set_option linter.unusedSimpArgs false
set_option linter.unusedVariables false
namespace Go.Proofs.YtnakkelglbcecaaGreat
open Go.RowKit Go.Proofs
set_option linter.unusedSimpArgs false
set_option linter.unusedVariables false

def GProgram.orphan (w : GProgram) (o : GInstanceRef) : Bool := (GProgram.instAt w o).isSome && (((w.traitAt (oInst (GProgram.instAt w o)).gTrait).isSome && decide (oInt (w.traitAt (oInst (GProgram.instAt w o)).gTrait) = o.gPackage)) || decide (GProgram.home w (oInst (GProgram.instAt w o)).gHead = o.gPackage))
set_option maxRecDepth 100000 in
set_option maxHeartbeats 4000000 in
theorem orphan_impl (w : GProgram) (o : GInstanceRef) : AFun Tryz.prog 19 [(GProgram.pv w), (GInstanceRef.pv o)] (.t (.leaf (.bool (GProgram.orphan w o)))) := by
  refine ACalls.intro Tryz.func19 rfl (by first | decide | (simp; done) | (simp; decide)) ?_
  intro C hC
  refine AWP.seq ?_
  refine AWP.region_lit ?_
  refine AL.cons rfl (AOp.box (cs := [.t (.row 6 (GPackage.trs (w.gPackages)))]) rfl rfl rfl rfl rfl) ?_
  refine AL.cons rfl (AOp.box (cs := [.t (.leaf (.int .i64 (o.gPackage))), .t (.leaf (.int .i64 (o.gAt)))]) rfl rfl rfl rfl rfl) ?_
  refine AL.cons rfl (AOp.move (.inr rfl) rfl rfl) ?_
  refine AL.nil ?_
  refine AWP.seq ?_
  refine AWP.region_lit ?_
  refine AL.cons rfl (AOp.loadPtr (cs := [.t (.row 6 (GPackage.trs (w.gPackages)))]) rfl rfl rfl rfl sh31 rfl rfl) ?_
  refine AL.cons rfl (AOp.loadPtr (cs := [.t (.leaf (.int .i64 (o.gPackage))), .t (.leaf (.int .i64 (o.gAt)))]) rfl rfl rfl rfl sh33 rfl rfl) ?_
  refine AL.cons rfl (AOp.callF (ps := [_, _]) rfl rfl Tryz.func81 (by kernel_rfl) rfl rfl leA rfl rfl (inst_impl w o)) ?_
  refine AL.cons rfl (AOp.move (.inl rfl) rfl rfl) ?_
  refine AL.cons rfl (AOp.extract rfl rfl rfl rfl) ?_
  refine AL.cons rfl (AOp.extract rfl rfl rfl rfl) ?_
  refine AL.cons rfl (AOp.alloc rfl rfl zr113) ?_
  refine AL.cons rfl (AOp.storePtr (cs := [.t (.leaf (.string ((oInst (GProgram.instAt w o)).gTrait))), .t (.row 1 (strTrs ((oInst (GProgram.instAt w o)).gVars))), .t (.leaf (.int .i64 ((oInst (GProgram.instAt w o)).gHead.gKind))), .t (.leaf (.string ((oInst (GProgram.instAt w o)).gHead.gName))), .t (.row 3 (GType.trs ((oInst (GProgram.instAt w o)).gHead.gArgs))), .t (.row 4 (GBound.trs ((oInst (GProgram.instAt w o)).gWhere))), .t (.leaf (.bool ((oInst (GProgram.instAt w o)).gDefault))), .t (.leaf (.bool ((oInst (GProgram.instAt w o)).gHasAssoc))), .t (.leaf (.int .i64 ((oInst (GProgram.instAt w o)).gAssoc.gKind))), .t (.leaf (.string ((oInst (GProgram.instAt w o)).gAssoc.gName))), .t (.row 3 (GType.trs ((oInst (GProgram.instAt w o)).gAssoc.gArgs))), .t (.row 11 (GMethod.trs ((oInst (GProgram.instAt w o)).gMethods)))]) (ds := [.t (.leaf (.string ((oInst (GProgram.instAt w o)).gTrait))), .t (.row 1 (strTrs ((oInst (GProgram.instAt w o)).gVars))), .t (.leaf (.int .i64 ((oInst (GProgram.instAt w o)).gHead.gKind))), .t (.leaf (.string ((oInst (GProgram.instAt w o)).gHead.gName))), .t (.row 3 (GType.trs ((oInst (GProgram.instAt w o)).gHead.gArgs))), .t (.row 4 (GBound.trs ((oInst (GProgram.instAt w o)).gWhere))), .t (.leaf (.bool ((oInst (GProgram.instAt w o)).gDefault))), .t (.leaf (.bool ((oInst (GProgram.instAt w o)).gHasAssoc))), .t (.leaf (.int .i64 ((oInst (GProgram.instAt w o)).gAssoc.gKind))), .t (.leaf (.string ((oInst (GProgram.instAt w o)).gAssoc.gName))), .t (.row 3 (GType.trs ((oInst (GProgram.instAt w o)).gAssoc.gArgs))), .t (.row 11 (GMethod.trs ((oInst (GProgram.instAt w o)).gMethods)))]) rfl rfl rfl rfl rfl rfl rfl sz113 (Nat.le_of_ble_eq_true rfl) rfl) ?_
  refine AL.cons rfl (AOp.move (.inr rfl) rfl rfl) ?_
  refine AL.nil ?_
  refine AWP.seq ?_
  refine AWP.seq ?_
  refine AWP.region_lit ?_
  refine AL.cons rfl (AOp.move (.inl rfl) rfl rfl) ?_
  refine AL.cons rfl (AOp.notB rfl rfl rfl) ?_
  refine AL.nil ?_
  refine AWP.cond rfl (fun h1 => ?_) (fun h1 => ?_)
  · skip
    have h1b := h1
    try simp only [Bool.and_eq_true, Bool.or_eq_true, Bool.and_eq_false_iff, Bool.or_eq_false_iff, decide_eq_true_eq, decide_eq_false_iff_not, Bool.not_eq_true', Bool.not_eq_false', Bool.not_eq_eq_eq_not, Bool.not_true, Bool.not_false, ge_iff_le, gt_iff_lt, Int.not_lt, Int.not_le] at h1b
    refine AWP.seq ?_
    refine AWP.region_lit ?_
    refine AL.cons rfl (AOp.move (.inr rfl) rfl rfl) ?_
    refine AL.nil ?_
    refine AWP.ret ?_
    exact Ends.mk (ps := [_]) (.inr rfl) ⟨rfl, trivial⟩ rfl (StLe.mk' (st' := ⟨[], []⟩) trivial rfl) (keeps_nil hC) (q := (.t (.leaf (.bool (false))) : PV)) leA rfl ⟨by simp_all [GProgram.orphan], rfl⟩
  · skip
    have h1b := h1
    try simp only [Bool.and_eq_true, Bool.or_eq_true, Bool.and_eq_false_iff, Bool.or_eq_false_iff, decide_eq_true_eq, decide_eq_false_iff_not, Bool.not_eq_true', Bool.not_eq_false', Bool.not_eq_eq_eq_not, Bool.not_true, Bool.not_false, ge_iff_le, gt_iff_lt, Int.not_lt, Int.not_le] at h1b
    refine AWP.skip ?_
    refine AWP.seq ?_
    refine AWP.region_lit ?_
    refine AL.cons rfl (AOp.loadPtr (cs := [.t (.row 6 (GPackage.trs (w.gPackages)))]) rfl rfl rfl rfl sh31 rfl rfl) ?_
    refine AL.cons rfl (AOp.fieldPtr (k := 2) (d := 0) (e := 0) rfl rfl rfl fo113_0) ?_
    refine AL.cons rfl (AOp.loadPtr1 rfl rfl rfl rfl sh9 rfl) ?_
    refine AL.cons rfl (AOp.callF (ps := [_, _]) rfl rfl Tryz.func82 (by kernel_rfl) rfl rfl leA rfl rfl (trait_impl w ((oInst (GProgram.instAt w o)).gTrait))) ?_
    refine AL.cons rfl (AOp.move (.inl rfl) rfl rfl) ?_
    refine AL.cons rfl (AOp.extract rfl rfl rfl rfl) ?_
    refine AL.cons rfl (AOp.extract rfl rfl rfl rfl) ?_
    refine AL.cons rfl (AOp.extract rfl rfl rfl rfl) ?_
    refine AL.cons rfl (AOp.alloc rfl rfl zr94) ?_
    refine AL.cons rfl (AOp.storePtr (cs := [.t (.leaf (.string ((oTrait (w.traitAt ((oInst (GProgram.instAt w o)).gTrait))).gName))), .t (.row 1 (strTrs ((oTrait (w.traitAt ((oInst (GProgram.instAt w o)).gTrait))).gSupertraits))), .t (.leaf (.bool ((oTrait (w.traitAt ((oInst (GProgram.instAt w o)).gTrait))).gAuto))), .t (.leaf (.bool ((oTrait (w.traitAt ((oInst (GProgram.instAt w o)).gTrait))).gAssoc))), .t (.row 16 (GSignature.trs ((oTrait (w.traitAt ((oInst (GProgram.instAt w o)).gTrait))).gSignatures)))]) (ds := [.t (.leaf (.string ((oTrait (w.traitAt ((oInst (GProgram.instAt w o)).gTrait))).gName))), .t (.row 1 (strTrs ((oTrait (w.traitAt ((oInst (GProgram.instAt w o)).gTrait))).gSupertraits))), .t (.leaf (.bool ((oTrait (w.traitAt ((oInst (GProgram.instAt w o)).gTrait))).gAuto))), .t (.leaf (.bool ((oTrait (w.traitAt ((oInst (GProgram.instAt w o)).gTrait))).gAssoc))), .t (.row 16 (GSignature.trs ((oTrait (w.traitAt ((oInst (GProgram.instAt w o)).gTrait))).gSignatures)))]) rfl rfl rfl rfl rfl rfl rfl sz94 (Nat.le_of_ble_eq_true rfl) rfl) ?_
    refine AL.cons rfl (AOp.move (.inr rfl) rfl rfl) ?_
    refine AL.cons rfl (AOp.move (.inr rfl) rfl rfl) ?_
    refine AL.nil ?_
    refine AWP.seq ?_
    rcases bool2 ((w.traitAt ((oInst (GProgram.instAt w o)).gTrait)).isSome) with g2 | g2
    · skip
      have g2b := g2
      try simp only [Bool.and_eq_true, Bool.or_eq_true, Bool.and_eq_false_iff, Bool.or_eq_false_iff, decide_eq_true_eq, decide_eq_false_iff_not, Bool.not_eq_true', Bool.not_eq_false', Bool.not_eq_eq_eq_not, Bool.not_true, Bool.not_false, ge_iff_le, gt_iff_lt, Int.not_lt, Int.not_le] at g2b
      rcases bool2 (decide ((oInt (w.traitAt ((oInst (GProgram.instAt w o)).gTrait)) : Int) = o.gPackage)) with g3 | g3
      · skip
        have g3b := g3
        try simp only [Bool.and_eq_true, Bool.or_eq_true, Bool.and_eq_false_iff, Bool.or_eq_false_iff, decide_eq_true_eq, decide_eq_false_iff_not, Bool.not_eq_true', Bool.not_eq_false', Bool.not_eq_eq_eq_not, Bool.not_true, Bool.not_false, ge_iff_le, gt_iff_lt, Int.not_lt, Int.not_le] at g3b
        refine AWP.drawnL ⟨_, _, fun _ _ => (⟨[some ⟨31, [.t (.row 6 (GPackage.trs (w.gPackages)))]⟩, some ⟨33, [.t (.leaf (.int .i64 (o.gPackage))), .t (.leaf (.int .i64 (o.gAt)))]⟩, some ⟨113, [.t (.leaf (.string ((oInst (GProgram.instAt w o)).gTrait))), .t (.row 1 (strTrs ((oInst (GProgram.instAt w o)).gVars))), .t (.leaf (.int .i64 ((oInst (GProgram.instAt w o)).gHead.gKind))), .t (.leaf (.string ((oInst (GProgram.instAt w o)).gHead.gName))), .t (.row 3 (GType.trs ((oInst (GProgram.instAt w o)).gHead.gArgs))), .t (.row 4 (GBound.trs ((oInst (GProgram.instAt w o)).gWhere))), .t (.leaf (.bool ((oInst (GProgram.instAt w o)).gDefault))), .t (.leaf (.bool ((oInst (GProgram.instAt w o)).gHasAssoc))), .t (.leaf (.int .i64 ((oInst (GProgram.instAt w o)).gAssoc.gKind))), .t (.leaf (.string ((oInst (GProgram.instAt w o)).gAssoc.gName))), .t (.row 3 (GType.trs ((oInst (GProgram.instAt w o)).gAssoc.gArgs))), .t (.row 11 (GMethod.trs ((oInst (GProgram.instAt w o)).gMethods)))]⟩, some ⟨94, [.t (.leaf (.string ((oTrait (w.traitAt ((oInst (GProgram.instAt w o)).gTrait))).gName))), .t (.row 1 (strTrs ((oTrait (w.traitAt ((oInst (GProgram.instAt w o)).gTrait))).gSupertraits))), .t (.leaf (.bool ((oTrait (w.traitAt ((oInst (GProgram.instAt w o)).gTrait))).gAuto))), .t (.leaf (.bool ((oTrait (w.traitAt ((oInst (GProgram.instAt w o)).gTrait))).gAssoc))), .t (.row 16 (GSignature.trs ((oTrait (w.traitAt ((oInst (GProgram.instAt w o)).gTrait))).gSignatures)))]⟩], []⟩ : Sto), fun q' => ([some (.t (.leaf (.bool ((w.traitAt ((oInst (GProgram.instAt w o)).gTrait)).isSome)))), some (.t (.leaf (.bool ((w.traitAt ((oInst (GProgram.instAt w o)).gTrait)).isSome)))), some (.t (.leaf (.int .i64 (oInt (w.traitAt ((oInst (GProgram.instAt w o)).gTrait)))))), some (.ptr 1 0), some (.t (.leaf (.int .i64 (o.gPackage)))), some (.t (.leaf (.bool (decide ((oInt (w.traitAt ((oInst (GProgram.instAt w o)).gTrait)) : Int) = o.gPackage))))), some (.t (.leaf (.bool (decide ((oInt (w.traitAt ((oInst (GProgram.instAt w o)).gTrait)) : Int) = o.gPackage))))), some (.t (.leaf (.bool (decide ((oInt (w.traitAt ((oInst (GProgram.instAt w o)).gTrait)) : Int) = o.gPackage))))), none, none, none, none, none, none, none, some (.t (.leaf (.bool (true)))), some (.t (.leaf (.bool (true))))] : List (Option PV)).getD q' none, fun q' => ([.q 0 0, .q 0 0, .q 0 0, .q 0 0, .q 0 0, .q 0 0, .q 0 0, .q 0 0, .q 0 0, .q 0 0, .q 0 0, .q 0 0, .q 0 0, .q 0 0, .q 0 0, .q 0 0, .q 0 0] : List DK).getD q' (.q 0 0), [], none, fun q' => ([[(9, none)], [(26, some 0)], [(8, none)], [(3, none)], [(29, some 3)], [(28, some 2), (30, some 4)], [(27, some 1), (31, some 5)], [(32, some 6)], [], [], [], [], [], [], [], [(33, some 7)], [(41, some 15)]] : List (List (Nat × Option Nat))).getD q' []⟩ rfl mixed (by kernel_rfl) rfl rfl ⟨?_, ?_, ?_, ?_, ?_, ?_, ?_, ?_, ?_, ?_, ?_, ?_, ?_, ?_, ?_, ?_, ?_, trivial⟩ rfl ?_
        · refine .inl ⟨rfl, fun s' jj bb (h1 : 0 ≤ jj) (h2 : jj ≤ 0) hs hl => ?_⟩
          obtain rfl : jj = 0 := by omega
          exact ⟨_, rfl, AOp.move (.inl rfl) rfl (hl 9 none _ (.head _) rfl)⟩
        · refine .inl ⟨rfl, fun s' jj bb (h1 : 0 ≤ jj) (h2 : jj ≤ 0) hs hl => ?_⟩
          obtain rfl : jj = 0 := by omega
          exact ⟨_, rfl, AOp.move (.inl rfl) rfl (hl 26 (some 0) _ (.head _) rfl)⟩
        · refine .inl ⟨(congrArg (fun b => some (b == true)) g2), fun s' jj bb (h1 : 0 ≤ jj) (h2 : jj ≤ 0) hs hl => ?_⟩
          obtain rfl : jj = 0 := by omega
          exact ⟨_, rfl, AOp.move (.inl rfl) rfl (hl 8 none _ (.head _) rfl)⟩
        · refine .inl ⟨(congrArg (fun b => some (b == true)) g2), fun s' jj bb (h1 : 0 ≤ jj) (h2 : jj ≤ 0) hs hl => ?_⟩
          obtain rfl : jj = 0 := by omega
          exact ⟨_, rfl, AOp.fieldPtr (k := 1) (d := 0) (e := 0) rfl rfl (hl 3 none _ (.head _) rfl) fo33_0⟩
        · refine .inl ⟨(congrArg (fun b => some (b == true)) g2), fun s' jj bb (h1 : 0 ≤ jj) (h2 : jj ≤ 0) hs hl => ?_⟩
          obtain rfl : jj = 0 := by omega
          exact ⟨_, rfl, AOp.loadPtr1 rfl rfl (hl 29 (some 3) _ (.head _) rfl) (by rw [hs]; rfl) sh3 rfl⟩
        · refine .inl ⟨(congrArg (fun b => some (b == true)) g2), fun s' jj bb (h1 : 0 ≤ jj) (h2 : jj ≤ 0) hs hl => ?_⟩
          obtain rfl : jj = 0 := by omega
          exact ⟨_, rfl, AOp.eqlI rfl rfl (hl 28 (some 2) _ (.head _) rfl) (hl 30 (some 4) _ (.tail _ (.head _)) rfl)⟩
        · refine .inl ⟨rfl, fun s' jj bb (h1 : 0 ≤ jj) (h2 : jj ≤ 0) hs hl => ?_⟩
          obtain rfl : jj = 0 := by omega
          exact ⟨_, rfl, AOp.pickT rfl rfl (hl 27 (some 1) _ (.head _) rfl) g2 (hl 31 (some 5) _ (.tail _ (.head _)) rfl)⟩
        · refine .inl ⟨rfl, fun s' jj bb (h1 : 0 ≤ jj) (h2 : jj ≤ 0) hs hl => ?_⟩
          obtain rfl : jj = 0 := by omega
          exact ⟨_, rfl, AOp.move (.inl rfl) rfl (hl 32 (some 6) _ (.head _) rfl)⟩
        · exact .inr ⟨(congrArg (fun b => some (b == false)) g3), rfl, ⟨_, _, rfl⟩, fun d hd => by cases hd; rfl⟩
        · exact .inr ⟨(congrArg (fun b => some (b == false)) g3), rfl, ⟨_, _, rfl⟩, fun d hd => by cases hd; rfl⟩
        · exact .inr ⟨(congrArg (fun b => some (b == false)) g3), rfl, ⟨_, _, rfl⟩, fun d hd => by cases hd; rfl⟩
        · exact .inr ⟨(congrArg (fun b => some (b == false)) g3), rfl, ⟨_, _, rfl⟩, fun d hd => by cases hd; rfl⟩
        · exact .inr ⟨(congrArg (fun b => some (b == false)) g3), rfl, ⟨_, _, rfl⟩, fun d hd => by cases hd; rfl⟩
        · exact .inr ⟨(congrArg (fun b => some (b == false)) g3), rfl, ⟨_, _, rfl⟩, fun d hd => by cases hd; rfl⟩
        · exact .inr ⟨(congrArg (fun b => some (b == false)) g3), rfl, ⟨_, _, rfl⟩, fun d hd => by cases hd; rfl⟩
        · refine .inl ⟨rfl, fun s' jj bb (h1 : 0 ≤ jj) (h2 : jj ≤ 0) hs hl => ?_⟩
          obtain rfl : jj = 0 := by omega
          exact ⟨_, rfl, AOp.pickT rfl rfl (hl 33 (some 7) _ (.head _) rfl) g3 rfl⟩
        · refine .inl ⟨rfl, fun s' jj bb (h1 : 0 ≤ jj) (h2 : jj ≤ 0) hs hl => ?_⟩
          obtain rfl : jj = 0 := by omega
          exact ⟨_, rfl, AOp.move (.inr rfl) rfl (hl 41 (some 15) _ (.head _) rfl)⟩
        refine AWP.ret ?_
        exact Ends.mk (ps := [_]) (.inr rfl) ⟨rfl, trivial⟩ rfl (StLe.mk' (st' := ⟨[], []⟩) trivial rfl) (keeps_nil hC) (q := (.t (.leaf (.bool (true))) : PV)) leA rfl ⟨by simp_all [GProgram.orphan], rfl⟩
      · skip
        have g3b := g3
        try simp only [Bool.and_eq_true, Bool.or_eq_true, Bool.and_eq_false_iff, Bool.or_eq_false_iff, decide_eq_true_eq, decide_eq_false_iff_not, Bool.not_eq_true', Bool.not_eq_false', Bool.not_eq_eq_eq_not, Bool.not_true, Bool.not_false, ge_iff_le, gt_iff_lt, Int.not_lt, Int.not_le] at g3b
        refine AWP.drawnL ⟨_, _, fun _ _ => (⟨[some ⟨31, [.t (.row 6 (GPackage.trs (w.gPackages)))]⟩, some ⟨33, [.t (.leaf (.int .i64 (o.gPackage))), .t (.leaf (.int .i64 (o.gAt)))]⟩, some ⟨113, [.t (.leaf (.string ((oInst (GProgram.instAt w o)).gTrait))), .t (.row 1 (strTrs ((oInst (GProgram.instAt w o)).gVars))), .t (.leaf (.int .i64 ((oInst (GProgram.instAt w o)).gHead.gKind))), .t (.leaf (.string ((oInst (GProgram.instAt w o)).gHead.gName))), .t (.row 3 (GType.trs ((oInst (GProgram.instAt w o)).gHead.gArgs))), .t (.row 4 (GBound.trs ((oInst (GProgram.instAt w o)).gWhere))), .t (.leaf (.bool ((oInst (GProgram.instAt w o)).gDefault))), .t (.leaf (.bool ((oInst (GProgram.instAt w o)).gHasAssoc))), .t (.leaf (.int .i64 ((oInst (GProgram.instAt w o)).gAssoc.gKind))), .t (.leaf (.string ((oInst (GProgram.instAt w o)).gAssoc.gName))), .t (.row 3 (GType.trs ((oInst (GProgram.instAt w o)).gAssoc.gArgs))), .t (.row 11 (GMethod.trs ((oInst (GProgram.instAt w o)).gMethods)))]⟩, some ⟨94, [.t (.leaf (.string ((oTrait (w.traitAt ((oInst (GProgram.instAt w o)).gTrait))).gName))), .t (.row 1 (strTrs ((oTrait (w.traitAt ((oInst (GProgram.instAt w o)).gTrait))).gSupertraits))), .t (.leaf (.bool ((oTrait (w.traitAt ((oInst (GProgram.instAt w o)).gTrait))).gAuto))), .t (.leaf (.bool ((oTrait (w.traitAt ((oInst (GProgram.instAt w o)).gTrait))).gAssoc))), .t (.row 16 (GSignature.trs ((oTrait (w.traitAt ((oInst (GProgram.instAt w o)).gTrait))).gSignatures)))]⟩], []⟩ : Sto), fun q' => ([some (.t (.leaf (.bool ((w.traitAt ((oInst (GProgram.instAt w o)).gTrait)).isSome)))), some (.t (.leaf (.bool ((w.traitAt ((oInst (GProgram.instAt w o)).gTrait)).isSome)))), some (.t (.leaf (.int .i64 (oInt (w.traitAt ((oInst (GProgram.instAt w o)).gTrait)))))), some (.ptr 1 0), some (.t (.leaf (.int .i64 (o.gPackage)))), some (.t (.leaf (.bool (decide ((oInt (w.traitAt ((oInst (GProgram.instAt w o)).gTrait)) : Int) = o.gPackage))))), some (.t (.leaf (.bool (decide ((oInt (w.traitAt ((oInst (GProgram.instAt w o)).gTrait)) : Int) = o.gPackage))))), some (.t (.leaf (.bool (decide ((oInt (w.traitAt ((oInst (GProgram.instAt w o)).gTrait)) : Int) = o.gPackage))))), some ((GProgram.pv w)), some (.ptr 2 2), some ((GType.pv ((oInst (GProgram.instAt w o)).gHead))), some (.t (.leaf (.int .i64 (GProgram.home w ((oInst (GProgram.instAt w o)).gHead))))), some (.ptr 1 0), some (.t (.leaf (.int .i64 (o.gPackage)))), some (.t (.leaf (.bool (decide ((GProgram.home w ((oInst (GProgram.instAt w o)).gHead) : Int) = o.gPackage))))), some (.t (.leaf (.bool (decide ((GProgram.home w ((oInst (GProgram.instAt w o)).gHead) : Int) = o.gPackage))))), some (.t (.leaf (.bool (decide ((GProgram.home w ((oInst (GProgram.instAt w o)).gHead) : Int) = o.gPackage)))))] : List (Option PV)).getD q' none, fun q' => ([.q 0 0, .q 0 0, .q 0 0, .q 0 0, .q 0 0, .q 0 0, .q 0 0, .q 0 0, .q 0 0, .q 0 0, .q 0 0, .q 0 0, .q 0 0, .q 0 0, .q 0 0, .q 0 0, .q 0 0] : List DK).getD q' (.q 0 0), [], none, fun q' => ([[(9, none)], [(26, some 0)], [(8, none)], [(3, none)], [(29, some 3)], [(28, some 2), (30, some 4)], [(27, some 1), (31, some 5)], [(32, some 6)], [(2, none)], [(5, none)], [(35, some 9)], [(36, some 10), (34, some 8)], [(3, none)], [(38, some 12)], [(37, some 11), (39, some 13)], [(33, some 7), (40, some 14)], [(41, some 15)]] : List (List (Nat × Option Nat))).getD q' []⟩ rfl mixed (by kernel_rfl) rfl rfl ⟨?_, ?_, ?_, ?_, ?_, ?_, ?_, ?_, ?_, ?_, ?_, ?_, ?_, ?_, ?_, ?_, ?_, trivial⟩ rfl ?_
        · refine .inl ⟨rfl, fun s' jj bb (h1 : 0 ≤ jj) (h2 : jj ≤ 0) hs hl => ?_⟩
          obtain rfl : jj = 0 := by omega
          exact ⟨_, rfl, AOp.move (.inl rfl) rfl (hl 9 none _ (.head _) rfl)⟩
        · refine .inl ⟨rfl, fun s' jj bb (h1 : 0 ≤ jj) (h2 : jj ≤ 0) hs hl => ?_⟩
          obtain rfl : jj = 0 := by omega
          exact ⟨_, rfl, AOp.move (.inl rfl) rfl (hl 26 (some 0) _ (.head _) rfl)⟩
        · refine .inl ⟨(congrArg (fun b => some (b == true)) g2), fun s' jj bb (h1 : 0 ≤ jj) (h2 : jj ≤ 0) hs hl => ?_⟩
          obtain rfl : jj = 0 := by omega
          exact ⟨_, rfl, AOp.move (.inl rfl) rfl (hl 8 none _ (.head _) rfl)⟩
        · refine .inl ⟨(congrArg (fun b => some (b == true)) g2), fun s' jj bb (h1 : 0 ≤ jj) (h2 : jj ≤ 0) hs hl => ?_⟩
          obtain rfl : jj = 0 := by omega
          exact ⟨_, rfl, AOp.fieldPtr (k := 1) (d := 0) (e := 0) rfl rfl (hl 3 none _ (.head _) rfl) fo33_0⟩
        · refine .inl ⟨(congrArg (fun b => some (b == true)) g2), fun s' jj bb (h1 : 0 ≤ jj) (h2 : jj ≤ 0) hs hl => ?_⟩
          obtain rfl : jj = 0 := by omega
          exact ⟨_, rfl, AOp.loadPtr1 rfl rfl (hl 29 (some 3) _ (.head _) rfl) (by rw [hs]; rfl) sh3 rfl⟩
        · refine .inl ⟨(congrArg (fun b => some (b == true)) g2), fun s' jj bb (h1 : 0 ≤ jj) (h2 : jj ≤ 0) hs hl => ?_⟩
          obtain rfl : jj = 0 := by omega
          exact ⟨_, rfl, AOp.eqlI rfl rfl (hl 28 (some 2) _ (.head _) rfl) (hl 30 (some 4) _ (.tail _ (.head _)) rfl)⟩
        · refine .inl ⟨rfl, fun s' jj bb (h1 : 0 ≤ jj) (h2 : jj ≤ 0) hs hl => ?_⟩
          obtain rfl : jj = 0 := by omega
          exact ⟨_, rfl, AOp.pickT rfl rfl (hl 27 (some 1) _ (.head _) rfl) g2 (hl 31 (some 5) _ (.tail _ (.head _)) rfl)⟩
        · refine .inl ⟨rfl, fun s' jj bb (h1 : 0 ≤ jj) (h2 : jj ≤ 0) hs hl => ?_⟩
          obtain rfl : jj = 0 := by omega
          exact ⟨_, rfl, AOp.move (.inl rfl) rfl (hl 32 (some 6) _ (.head _) rfl)⟩
        · refine .inl ⟨(congrArg (fun b => some (b == false)) g3), fun s' jj bb (h1 : 0 ≤ jj) (h2 : jj ≤ 0) hs hl => ?_⟩
          obtain rfl : jj = 0 := by omega
          exact ⟨_, rfl, AOp.loadPtr (cs := [.t (.row 6 (GPackage.trs (w.gPackages)))]) rfl rfl (hl 2 none _ (.head _) rfl) (by rw [hs]; rfl) sh31 rfl rfl⟩
        · refine .inl ⟨(congrArg (fun b => some (b == false)) g3), fun s' jj bb (h1 : 0 ≤ jj) (h2 : jj ≤ 0) hs hl => ?_⟩
          obtain rfl : jj = 0 := by omega
          exact ⟨_, rfl, AOp.fieldPtr (k := 2) (d := 0) (e := 2) rfl rfl (hl 5 none _ (.head _) rfl) fo113_2⟩
        · refine .inl ⟨(congrArg (fun b => some (b == false)) g3), fun s' jj bb (h1 : 0 ≤ jj) (h2 : jj ≤ 0) hs hl => ?_⟩
          obtain rfl : jj = 0 := by omega
          exact ⟨_, rfl, AOp.loadPtr (cs := [.t (.leaf (.int .i64 (((oInst (GProgram.instAt w o)).gHead).gKind))), .t (.leaf (.string (((oInst (GProgram.instAt w o)).gHead).gName))), .t (.row 3 (GType.trs (((oInst (GProgram.instAt w o)).gHead).gArgs)))]) rfl rfl (hl 35 (some 9) _ (.head _) rfl) (by rw [hs]; rfl) sh47 rfl rfl⟩
        · refine .inl ⟨(congrArg (fun b => some (b == false)) g3), fun s' jj bb (h1 : 0 ≤ jj) (h2 : jj ≤ 0) hs hl => ?_⟩
          obtain rfl : jj = 0 := by omega
          exact ⟨_, rfl, AOp.callF (ps := [_, _]) rfl rfl Tryz.func83 (by kernel_rfl) rfl (evs_cons (hl 34 (some 8) _ (.tail _ (.head _)) rfl) (evs_cons (hl 36 (some 10) _ (.head _) rfl) rfl)) leA rfl rfl (home_impl w ((oInst (GProgram.instAt w o)).gHead))⟩
        · refine .inl ⟨(congrArg (fun b => some (b == false)) g3), fun s' jj bb (h1 : 0 ≤ jj) (h2 : jj ≤ 0) hs hl => ?_⟩
          obtain rfl : jj = 0 := by omega
          exact ⟨_, rfl, AOp.fieldPtr (k := 1) (d := 0) (e := 0) rfl rfl (hl 3 none _ (.head _) rfl) fo33_0⟩
        · refine .inl ⟨(congrArg (fun b => some (b == false)) g3), fun s' jj bb (h1 : 0 ≤ jj) (h2 : jj ≤ 0) hs hl => ?_⟩
          obtain rfl : jj = 0 := by omega
          exact ⟨_, rfl, AOp.loadPtr1 rfl rfl (hl 38 (some 12) _ (.head _) rfl) (by rw [hs]; rfl) sh3 rfl⟩
        · refine .inl ⟨(congrArg (fun b => some (b == false)) g3), fun s' jj bb (h1 : 0 ≤ jj) (h2 : jj ≤ 0) hs hl => ?_⟩
          obtain rfl : jj = 0 := by omega
          exact ⟨_, rfl, AOp.eqlI rfl rfl (hl 37 (some 11) _ (.head _) rfl) (hl 39 (some 13) _ (.tail _ (.head _)) rfl)⟩
        · refine .inl ⟨rfl, fun s' jj bb (h1 : 0 ≤ jj) (h2 : jj ≤ 0) hs hl => ?_⟩
          obtain rfl : jj = 0 := by omega
          exact ⟨_, rfl, AOp.pickF rfl rfl (hl 33 (some 7) _ (.head _) rfl) g3 (hl 40 (some 14) _ (.tail _ (.head _)) rfl)⟩
        · refine .inl ⟨rfl, fun s' jj bb (h1 : 0 ≤ jj) (h2 : jj ≤ 0) hs hl => ?_⟩
          obtain rfl : jj = 0 := by omega
          exact ⟨_, rfl, AOp.move (.inr rfl) rfl (hl 41 (some 15) _ (.head _) rfl)⟩
        refine AWP.ret ?_
        exact Ends.mk (ps := [_]) (.inr rfl) ⟨rfl, trivial⟩ rfl (StLe.mk' (st' := ⟨[], []⟩) trivial rfl) (keeps_nil hC) (q := (.t (.leaf (.bool (decide ((GProgram.home w ((oInst (GProgram.instAt w o)).gHead) : Int) = o.gPackage)))) : PV)) leA rfl ⟨by simp_all [GProgram.orphan], rfl⟩
    · skip
      have g2b := g2
      try simp only [Bool.and_eq_true, Bool.or_eq_true, Bool.and_eq_false_iff, Bool.or_eq_false_iff, decide_eq_true_eq, decide_eq_false_iff_not, Bool.not_eq_true', Bool.not_eq_false', Bool.not_eq_eq_eq_not, Bool.not_true, Bool.not_false, ge_iff_le, gt_iff_lt, Int.not_lt, Int.not_le] at g2b
      refine AWP.drawnL ⟨_, _, fun _ _ => (⟨[some ⟨31, [.t (.row 6 (GPackage.trs (w.gPackages)))]⟩, some ⟨33, [.t (.leaf (.int .i64 (o.gPackage))), .t (.leaf (.int .i64 (o.gAt)))]⟩, some ⟨113, [.t (.leaf (.string ((oInst (GProgram.instAt w o)).gTrait))), .t (.row 1 (strTrs ((oInst (GProgram.instAt w o)).gVars))), .t (.leaf (.int .i64 ((oInst (GProgram.instAt w o)).gHead.gKind))), .t (.leaf (.string ((oInst (GProgram.instAt w o)).gHead.gName))), .t (.row 3 (GType.trs ((oInst (GProgram.instAt w o)).gHead.gArgs))), .t (.row 4 (GBound.trs ((oInst (GProgram.instAt w o)).gWhere))), .t (.leaf (.bool ((oInst (GProgram.instAt w o)).gDefault))), .t (.leaf (.bool ((oInst (GProgram.instAt w o)).gHasAssoc))), .t (.leaf (.int .i64 ((oInst (GProgram.instAt w o)).gAssoc.gKind))), .t (.leaf (.string ((oInst (GProgram.instAt w o)).gAssoc.gName))), .t (.row 3 (GType.trs ((oInst (GProgram.instAt w o)).gAssoc.gArgs))), .t (.row 11 (GMethod.trs ((oInst (GProgram.instAt w o)).gMethods)))]⟩, some ⟨94, [.t (.leaf (.string ((oTrait (w.traitAt ((oInst (GProgram.instAt w o)).gTrait))).gName))), .t (.row 1 (strTrs ((oTrait (w.traitAt ((oInst (GProgram.instAt w o)).gTrait))).gSupertraits))), .t (.leaf (.bool ((oTrait (w.traitAt ((oInst (GProgram.instAt w o)).gTrait))).gAuto))), .t (.leaf (.bool ((oTrait (w.traitAt ((oInst (GProgram.instAt w o)).gTrait))).gAssoc))), .t (.row 16 (GSignature.trs ((oTrait (w.traitAt ((oInst (GProgram.instAt w o)).gTrait))).gSignatures)))]⟩], []⟩ : Sto), fun q' => ([some (.t (.leaf (.bool ((w.traitAt ((oInst (GProgram.instAt w o)).gTrait)).isSome)))), some (.t (.leaf (.bool ((w.traitAt ((oInst (GProgram.instAt w o)).gTrait)).isSome)))), none, none, none, none, some (.t (.leaf (.bool (false)))), some (.t (.leaf (.bool (false)))), some ((GProgram.pv w)), some (.ptr 2 2), some ((GType.pv ((oInst (GProgram.instAt w o)).gHead))), some (.t (.leaf (.int .i64 (GProgram.home w ((oInst (GProgram.instAt w o)).gHead))))), some (.ptr 1 0), some (.t (.leaf (.int .i64 (o.gPackage)))), some (.t (.leaf (.bool (decide ((GProgram.home w ((oInst (GProgram.instAt w o)).gHead) : Int) = o.gPackage))))), some (.t (.leaf (.bool (decide ((GProgram.home w ((oInst (GProgram.instAt w o)).gHead) : Int) = o.gPackage))))), some (.t (.leaf (.bool (decide ((GProgram.home w ((oInst (GProgram.instAt w o)).gHead) : Int) = o.gPackage)))))] : List (Option PV)).getD q' none, fun q' => ([.q 0 0, .q 0 0, .q 0 0, .q 0 0, .q 0 0, .q 0 0, .q 0 0, .q 0 0, .q 0 0, .q 0 0, .q 0 0, .q 0 0, .q 0 0, .q 0 0, .q 0 0, .q 0 0, .q 0 0] : List DK).getD q' (.q 0 0), [], none, fun q' => ([[(9, none)], [(26, some 0)], [], [], [], [], [(27, some 1)], [(32, some 6)], [(2, none)], [(5, none)], [(35, some 9)], [(36, some 10), (34, some 8)], [(3, none)], [(38, some 12)], [(37, some 11), (39, some 13)], [(33, some 7), (40, some 14)], [(41, some 15)]] : List (List (Nat × Option Nat))).getD q' []⟩ rfl mixed (by kernel_rfl) rfl rfl ⟨?_, ?_, ?_, ?_, ?_, ?_, ?_, ?_, ?_, ?_, ?_, ?_, ?_, ?_, ?_, ?_, ?_, trivial⟩ rfl ?_
      · refine .inl ⟨rfl, fun s' jj bb (h1 : 0 ≤ jj) (h2 : jj ≤ 0) hs hl => ?_⟩
        obtain rfl : jj = 0 := by omega
        exact ⟨_, rfl, AOp.move (.inl rfl) rfl (hl 9 none _ (.head _) rfl)⟩
      · refine .inl ⟨rfl, fun s' jj bb (h1 : 0 ≤ jj) (h2 : jj ≤ 0) hs hl => ?_⟩
        obtain rfl : jj = 0 := by omega
        exact ⟨_, rfl, AOp.move (.inl rfl) rfl (hl 26 (some 0) _ (.head _) rfl)⟩
      · exact .inr ⟨(congrArg (fun b => some (b == true)) g2), rfl, ⟨_, _, rfl⟩, fun d hd => by cases hd; rfl⟩
      · exact .inr ⟨(congrArg (fun b => some (b == true)) g2), rfl, ⟨_, _, rfl⟩, fun d hd => by cases hd; rfl⟩
      · exact .inr ⟨(congrArg (fun b => some (b == true)) g2), rfl, ⟨_, _, rfl⟩, fun d hd => by cases hd; rfl⟩
      · exact .inr ⟨(congrArg (fun b => some (b == true)) g2), rfl, ⟨_, _, rfl⟩, fun d hd => by cases hd; rfl⟩
      · refine .inl ⟨rfl, fun s' jj bb (h1 : 0 ≤ jj) (h2 : jj ≤ 0) hs hl => ?_⟩
        obtain rfl : jj = 0 := by omega
        exact ⟨_, rfl, AOp.pickF rfl rfl (hl 27 (some 1) _ (.head _) rfl) g2 rfl⟩
      · refine .inl ⟨rfl, fun s' jj bb (h1 : 0 ≤ jj) (h2 : jj ≤ 0) hs hl => ?_⟩
        obtain rfl : jj = 0 := by omega
        exact ⟨_, rfl, AOp.move (.inl rfl) rfl (hl 32 (some 6) _ (.head _) rfl)⟩
      · refine .inl ⟨(congrArg (fun b => some (b == false)) (rfl : false = _)), fun s' jj bb (h1 : 0 ≤ jj) (h2 : jj ≤ 0) hs hl => ?_⟩
        obtain rfl : jj = 0 := by omega
        exact ⟨_, rfl, AOp.loadPtr (cs := [.t (.row 6 (GPackage.trs (w.gPackages)))]) rfl rfl (hl 2 none _ (.head _) rfl) (by rw [hs]; rfl) sh31 rfl rfl⟩
      · refine .inl ⟨(congrArg (fun b => some (b == false)) (rfl : false = _)), fun s' jj bb (h1 : 0 ≤ jj) (h2 : jj ≤ 0) hs hl => ?_⟩
        obtain rfl : jj = 0 := by omega
        exact ⟨_, rfl, AOp.fieldPtr (k := 2) (d := 0) (e := 2) rfl rfl (hl 5 none _ (.head _) rfl) fo113_2⟩
      · refine .inl ⟨(congrArg (fun b => some (b == false)) (rfl : false = _)), fun s' jj bb (h1 : 0 ≤ jj) (h2 : jj ≤ 0) hs hl => ?_⟩
        obtain rfl : jj = 0 := by omega
        exact ⟨_, rfl, AOp.loadPtr (cs := [.t (.leaf (.int .i64 (((oInst (GProgram.instAt w o)).gHead).gKind))), .t (.leaf (.string (((oInst (GProgram.instAt w o)).gHead).gName))), .t (.row 3 (GType.trs (((oInst (GProgram.instAt w o)).gHead).gArgs)))]) rfl rfl (hl 35 (some 9) _ (.head _) rfl) (by rw [hs]; rfl) sh47 rfl rfl⟩
      · refine .inl ⟨(congrArg (fun b => some (b == false)) (rfl : false = _)), fun s' jj bb (h1 : 0 ≤ jj) (h2 : jj ≤ 0) hs hl => ?_⟩
        obtain rfl : jj = 0 := by omega
        exact ⟨_, rfl, AOp.callF (ps := [_, _]) rfl rfl Tryz.func83 (by kernel_rfl) rfl (evs_cons (hl 34 (some 8) _ (.tail _ (.head _)) rfl) (evs_cons (hl 36 (some 10) _ (.head _) rfl) rfl)) leA rfl rfl (home_impl w ((oInst (GProgram.instAt w o)).gHead))⟩
      · refine .inl ⟨(congrArg (fun b => some (b == false)) (rfl : false = _)), fun s' jj bb (h1 : 0 ≤ jj) (h2 : jj ≤ 0) hs hl => ?_⟩
        obtain rfl : jj = 0 := by omega
        exact ⟨_, rfl, AOp.fieldPtr (k := 1) (d := 0) (e := 0) rfl rfl (hl 3 none _ (.head _) rfl) fo33_0⟩
      · refine .inl ⟨(congrArg (fun b => some (b == false)) (rfl : false = _)), fun s' jj bb (h1 : 0 ≤ jj) (h2 : jj ≤ 0) hs hl => ?_⟩
        obtain rfl : jj = 0 := by omega
        exact ⟨_, rfl, AOp.loadPtr1 rfl rfl (hl 38 (some 12) _ (.head _) rfl) (by rw [hs]; rfl) sh3 rfl⟩
      · refine .inl ⟨(congrArg (fun b => some (b == false)) (rfl : false = _)), fun s' jj bb (h1 : 0 ≤ jj) (h2 : jj ≤ 0) hs hl => ?_⟩
        obtain rfl : jj = 0 := by omega
        exact ⟨_, rfl, AOp.eqlI rfl rfl (hl 37 (some 11) _ (.head _) rfl) (hl 39 (some 13) _ (.tail _ (.head _)) rfl)⟩
      · refine .inl ⟨rfl, fun s' jj bb (h1 : 0 ≤ jj) (h2 : jj ≤ 0) hs hl => ?_⟩
        obtain rfl : jj = 0 := by omega
        exact ⟨_, rfl, AOp.pickF rfl rfl (hl 33 (some 7) _ (.head _) rfl) rfl (hl 40 (some 14) _ (.tail _ (.head _)) rfl)⟩
      · refine .inl ⟨rfl, fun s' jj bb (h1 : 0 ≤ jj) (h2 : jj ≤ 0) hs hl => ?_⟩
        obtain rfl : jj = 0 := by omega
        exact ⟨_, rfl, AOp.move (.inr rfl) rfl (hl 41 (some 15) _ (.head _) rfl)⟩
      refine AWP.ret ?_
      exact Ends.mk (ps := [_]) (.inr rfl) ⟨rfl, trivial⟩ rfl (StLe.mk' (st' := ⟨[], []⟩) trivial rfl) (keeps_nil hC) (q := (.t (.leaf (.bool (decide ((GProgram.home w ((oInst (GProgram.instAt w o)).gHead) : Int) = o.gPackage)))) : PV)) leA rfl ⟨by simp_all [GProgram.orphan], rfl⟩

set_option maxRecDepth 100000 in
set_option maxHeartbeats 4000000 in
theorem orphan_spec (w : GProgram) (o : GInstanceRef) : AFun Tryz.prog 16 [(GProgram.pv w), (GInstanceRef.pv o)] (.t (.leaf (.bool (GProgram.orphan w o)))) := by
  refine ACalls.intro Tryz.func16 rfl (by first | decide | (simp; done) | (simp; decide)) ?_
  intro C hC
  refine AWP.seq ?_
  refine AWP.region_lit ?_
  refine AL.cons rfl (AOp.box (cs := [.t (.row 6 (GPackage.trs (w.gPackages)))]) rfl rfl rfl rfl rfl) ?_
  refine AL.cons rfl (AOp.box (cs := [.t (.leaf (.int .i64 (o.gPackage))), .t (.leaf (.int .i64 (o.gAt)))]) rfl rfl rfl rfl rfl) ?_
  refine AL.cons rfl (AOp.move (.inr rfl) rfl rfl) ?_
  refine AL.nil ?_
  refine AWP.seq ?_
  refine AWP.region_lit ?_
  refine AL.cons rfl (AOp.loadPtr (cs := [.t (.row 6 (GPackage.trs (w.gPackages)))]) rfl rfl rfl rfl sh31 rfl rfl) ?_
  refine AL.cons rfl (AOp.loadPtr (cs := [.t (.leaf (.int .i64 (o.gPackage))), .t (.leaf (.int .i64 (o.gAt)))]) rfl rfl rfl rfl sh33 rfl rfl) ?_
  refine AL.cons rfl (AOp.callF (ps := [_, _]) rfl rfl Tryz.func77 (by kernel_rfl) rfl rfl leA rfl rfl (inst_spec w o)) ?_
  refine AL.cons rfl (AOp.move (.inl rfl) rfl rfl) ?_
  refine AL.cons rfl (AOp.extract rfl rfl rfl rfl) ?_
  refine AL.cons rfl (AOp.extract rfl rfl rfl rfl) ?_
  refine AL.cons rfl (AOp.alloc rfl rfl zr113) ?_
  refine AL.cons rfl (AOp.storePtr (cs := [.t (.leaf (.string ((oInst (GProgram.instAt w o)).gTrait))), .t (.row 1 (strTrs ((oInst (GProgram.instAt w o)).gVars))), .t (.leaf (.int .i64 ((oInst (GProgram.instAt w o)).gHead.gKind))), .t (.leaf (.string ((oInst (GProgram.instAt w o)).gHead.gName))), .t (.row 3 (GType.trs ((oInst (GProgram.instAt w o)).gHead.gArgs))), .t (.row 4 (GBound.trs ((oInst (GProgram.instAt w o)).gWhere))), .t (.leaf (.bool ((oInst (GProgram.instAt w o)).gDefault))), .t (.leaf (.bool ((oInst (GProgram.instAt w o)).gHasAssoc))), .t (.leaf (.int .i64 ((oInst (GProgram.instAt w o)).gAssoc.gKind))), .t (.leaf (.string ((oInst (GProgram.instAt w o)).gAssoc.gName))), .t (.row 3 (GType.trs ((oInst (GProgram.instAt w o)).gAssoc.gArgs))), .t (.row 11 (GMethod.trs ((oInst (GProgram.instAt w o)).gMethods)))]) (ds := [.t (.leaf (.string ((oInst (GProgram.instAt w o)).gTrait))), .t (.row 1 (strTrs ((oInst (GProgram.instAt w o)).gVars))), .t (.leaf (.int .i64 ((oInst (GProgram.instAt w o)).gHead.gKind))), .t (.leaf (.string ((oInst (GProgram.instAt w o)).gHead.gName))), .t (.row 3 (GType.trs ((oInst (GProgram.instAt w o)).gHead.gArgs))), .t (.row 4 (GBound.trs ((oInst (GProgram.instAt w o)).gWhere))), .t (.leaf (.bool ((oInst (GProgram.instAt w o)).gDefault))), .t (.leaf (.bool ((oInst (GProgram.instAt w o)).gHasAssoc))), .t (.leaf (.int .i64 ((oInst (GProgram.instAt w o)).gAssoc.gKind))), .t (.leaf (.string ((oInst (GProgram.instAt w o)).gAssoc.gName))), .t (.row 3 (GType.trs ((oInst (GProgram.instAt w o)).gAssoc.gArgs))), .t (.row 11 (GMethod.trs ((oInst (GProgram.instAt w o)).gMethods)))]) rfl rfl rfl rfl rfl rfl rfl sz113 (Nat.le_of_ble_eq_true rfl) rfl) ?_
  refine AL.cons rfl (AOp.move (.inr rfl) rfl rfl) ?_
  refine AL.nil ?_
  refine AWP.seq ?_
  refine AWP.seq ?_
  refine AWP.region_lit ?_
  refine AL.cons rfl (AOp.move (.inl rfl) rfl rfl) ?_
  refine AL.cons rfl (AOp.notB rfl rfl rfl) ?_
  refine AL.nil ?_
  refine AWP.cond rfl (fun h1 => ?_) (fun h1 => ?_)
  · skip
    have h1b := h1
    try simp only [Bool.and_eq_true, Bool.or_eq_true, Bool.and_eq_false_iff, Bool.or_eq_false_iff, decide_eq_true_eq, decide_eq_false_iff_not, Bool.not_eq_true', Bool.not_eq_false', Bool.not_eq_eq_eq_not, Bool.not_true, Bool.not_false, ge_iff_le, gt_iff_lt, Int.not_lt, Int.not_le] at h1b
    refine AWP.seq ?_
    refine AWP.region_lit ?_
    refine AL.cons rfl (AOp.move (.inr rfl) rfl rfl) ?_
    refine AL.nil ?_
    refine AWP.ret ?_
    exact Ends.mk (ps := [_]) (.inr rfl) ⟨rfl, trivial⟩ rfl (StLe.mk' (st' := ⟨[], []⟩) trivial rfl) (keeps_nil hC) (q := (.t (.leaf (.bool (false))) : PV)) leA rfl ⟨by simp_all [GProgram.orphan], rfl⟩
  · skip
    have h1b := h1
    try simp only [Bool.and_eq_true, Bool.or_eq_true, Bool.and_eq_false_iff, Bool.or_eq_false_iff, decide_eq_true_eq, decide_eq_false_iff_not, Bool.not_eq_true', Bool.not_eq_false', Bool.not_eq_eq_eq_not, Bool.not_true, Bool.not_false, ge_iff_le, gt_iff_lt, Int.not_lt, Int.not_le] at h1b
    refine AWP.skip ?_
    refine AWP.seq ?_
    refine AWP.region_lit ?_
    refine AL.cons rfl (AOp.loadPtr (cs := [.t (.row 6 (GPackage.trs (w.gPackages)))]) rfl rfl rfl rfl sh31 rfl rfl) ?_
    refine AL.cons rfl (AOp.fieldPtr (k := 2) (d := 0) (e := 0) rfl rfl rfl fo113_0) ?_
    refine AL.cons rfl (AOp.loadPtr1 rfl rfl rfl rfl sh9 rfl) ?_
    refine AL.cons rfl (AOp.callF (ps := [_, _]) rfl rfl Tryz.func78 (by kernel_rfl) rfl rfl leA rfl rfl (trait_spec w ((oInst (GProgram.instAt w o)).gTrait))) ?_
    refine AL.cons rfl (AOp.move (.inl rfl) rfl rfl) ?_
    refine AL.cons rfl (AOp.extract rfl rfl rfl rfl) ?_
    refine AL.cons rfl (AOp.extract rfl rfl rfl rfl) ?_
    refine AL.cons rfl (AOp.extract rfl rfl rfl rfl) ?_
    refine AL.cons rfl (AOp.alloc rfl rfl zr94) ?_
    refine AL.cons rfl (AOp.storePtr (cs := [.t (.leaf (.string ((oTrait (w.traitAt ((oInst (GProgram.instAt w o)).gTrait))).gName))), .t (.row 1 (strTrs ((oTrait (w.traitAt ((oInst (GProgram.instAt w o)).gTrait))).gSupertraits))), .t (.leaf (.bool ((oTrait (w.traitAt ((oInst (GProgram.instAt w o)).gTrait))).gAuto))), .t (.leaf (.bool ((oTrait (w.traitAt ((oInst (GProgram.instAt w o)).gTrait))).gAssoc))), .t (.row 16 (GSignature.trs ((oTrait (w.traitAt ((oInst (GProgram.instAt w o)).gTrait))).gSignatures)))]) (ds := [.t (.leaf (.string ((oTrait (w.traitAt ((oInst (GProgram.instAt w o)).gTrait))).gName))), .t (.row 1 (strTrs ((oTrait (w.traitAt ((oInst (GProgram.instAt w o)).gTrait))).gSupertraits))), .t (.leaf (.bool ((oTrait (w.traitAt ((oInst (GProgram.instAt w o)).gTrait))).gAuto))), .t (.leaf (.bool ((oTrait (w.traitAt ((oInst (GProgram.instAt w o)).gTrait))).gAssoc))), .t (.row 16 (GSignature.trs ((oTrait (w.traitAt ((oInst (GProgram.instAt w o)).gTrait))).gSignatures)))]) rfl rfl rfl rfl rfl rfl rfl sz94 (Nat.le_of_ble_eq_true rfl) rfl) ?_
    refine AL.cons rfl (AOp.move (.inr rfl) rfl rfl) ?_
    refine AL.cons rfl (AOp.move (.inr rfl) rfl rfl) ?_
    refine AL.nil ?_
    refine AWP.seq ?_
    rcases bool2 ((w.traitAt ((oInst (GProgram.instAt w o)).gTrait)).isSome) with g2 | g2
    · skip
      have g2b := g2
      try simp only [Bool.and_eq_true, Bool.or_eq_true, Bool.and_eq_false_iff, Bool.or_eq_false_iff, decide_eq_true_eq, decide_eq_false_iff_not, Bool.not_eq_true', Bool.not_eq_false', Bool.not_eq_eq_eq_not, Bool.not_true, Bool.not_false, ge_iff_le, gt_iff_lt, Int.not_lt, Int.not_le] at g2b
      rcases bool2 (decide ((oInt (w.traitAt ((oInst (GProgram.instAt w o)).gTrait)) : Int) = o.gPackage)) with g3 | g3
      · skip
        have g3b := g3
        try simp only [Bool.and_eq_true, Bool.or_eq_true, Bool.and_eq_false_iff, Bool.or_eq_false_iff, decide_eq_true_eq, decide_eq_false_iff_not, Bool.not_eq_true', Bool.not_eq_false', Bool.not_eq_eq_eq_not, Bool.not_true, Bool.not_false, ge_iff_le, gt_iff_lt, Int.not_lt, Int.not_le] at g3b
        refine AWP.drawnL ⟨_, _, fun _ _ => (⟨[some ⟨31, [.t (.row 6 (GPackage.trs (w.gPackages)))]⟩, some ⟨33, [.t (.leaf (.int .i64 (o.gPackage))), .t (.leaf (.int .i64 (o.gAt)))]⟩, some ⟨113, [.t (.leaf (.string ((oInst (GProgram.instAt w o)).gTrait))), .t (.row 1 (strTrs ((oInst (GProgram.instAt w o)).gVars))), .t (.leaf (.int .i64 ((oInst (GProgram.instAt w o)).gHead.gKind))), .t (.leaf (.string ((oInst (GProgram.instAt w o)).gHead.gName))), .t (.row 3 (GType.trs ((oInst (GProgram.instAt w o)).gHead.gArgs))), .t (.row 4 (GBound.trs ((oInst (GProgram.instAt w o)).gWhere))), .t (.leaf (.bool ((oInst (GProgram.instAt w o)).gDefault))), .t (.leaf (.bool ((oInst (GProgram.instAt w o)).gHasAssoc))), .t (.leaf (.int .i64 ((oInst (GProgram.instAt w o)).gAssoc.gKind))), .t (.leaf (.string ((oInst (GProgram.instAt w o)).gAssoc.gName))), .t (.row 3 (GType.trs ((oInst (GProgram.instAt w o)).gAssoc.gArgs))), .t (.row 11 (GMethod.trs ((oInst (GProgram.instAt w o)).gMethods)))]⟩, some ⟨94, [.t (.leaf (.string ((oTrait (w.traitAt ((oInst (GProgram.instAt w o)).gTrait))).gName))), .t (.row 1 (strTrs ((oTrait (w.traitAt ((oInst (GProgram.instAt w o)).gTrait))).gSupertraits))), .t (.leaf (.bool ((oTrait (w.traitAt ((oInst (GProgram.instAt w o)).gTrait))).gAuto))), .t (.leaf (.bool ((oTrait (w.traitAt ((oInst (GProgram.instAt w o)).gTrait))).gAssoc))), .t (.row 16 (GSignature.trs ((oTrait (w.traitAt ((oInst (GProgram.instAt w o)).gTrait))).gSignatures)))]⟩], []⟩ : Sto), fun q' => ([some (.t (.leaf (.bool ((w.traitAt ((oInst (GProgram.instAt w o)).gTrait)).isSome)))), some (.t (.leaf (.bool ((w.traitAt ((oInst (GProgram.instAt w o)).gTrait)).isSome)))), some (.t (.leaf (.int .i64 (oInt (w.traitAt ((oInst (GProgram.instAt w o)).gTrait)))))), some (.ptr 1 0), some (.t (.leaf (.int .i64 (o.gPackage)))), some (.t (.leaf (.bool (decide ((oInt (w.traitAt ((oInst (GProgram.instAt w o)).gTrait)) : Int) = o.gPackage))))), some (.t (.leaf (.bool (decide ((oInt (w.traitAt ((oInst (GProgram.instAt w o)).gTrait)) : Int) = o.gPackage))))), some (.t (.leaf (.bool (decide ((oInt (w.traitAt ((oInst (GProgram.instAt w o)).gTrait)) : Int) = o.gPackage))))), none, none, none, none, none, none, none, some (.t (.leaf (.bool (true)))), some (.t (.leaf (.bool (true))))] : List (Option PV)).getD q' none, fun q' => ([.q 0 0, .q 0 0, .q 0 0, .q 0 0, .q 0 0, .q 0 0, .q 0 0, .q 0 0, .q 0 0, .q 0 0, .q 0 0, .q 0 0, .q 0 0, .q 0 0, .q 0 0, .q 0 0, .q 0 0] : List DK).getD q' (.q 0 0), [], none, fun q' => ([[(9, none)], [(26, some 0)], [(8, none)], [(3, none)], [(29, some 3)], [(28, some 2), (30, some 4)], [(27, some 1), (31, some 5)], [(32, some 6)], [], [], [], [], [], [], [], [(33, some 7)], [(41, some 15)]] : List (List (Nat × Option Nat))).getD q' []⟩ rfl mixed (by kernel_rfl) rfl rfl ⟨?_, ?_, ?_, ?_, ?_, ?_, ?_, ?_, ?_, ?_, ?_, ?_, ?_, ?_, ?_, ?_, ?_, trivial⟩ rfl ?_
        · refine .inl ⟨rfl, fun s' jj bb (h1 : 0 ≤ jj) (h2 : jj ≤ 0) hs hl => ?_⟩
          obtain rfl : jj = 0 := by omega
          exact ⟨_, rfl, AOp.move (.inl rfl) rfl (hl 9 none _ (.head _) rfl)⟩
        · refine .inl ⟨rfl, fun s' jj bb (h1 : 0 ≤ jj) (h2 : jj ≤ 0) hs hl => ?_⟩
          obtain rfl : jj = 0 := by omega
          exact ⟨_, rfl, AOp.move (.inl rfl) rfl (hl 26 (some 0) _ (.head _) rfl)⟩
        · refine .inl ⟨(congrArg (fun b => some (b == true)) g2), fun s' jj bb (h1 : 0 ≤ jj) (h2 : jj ≤ 0) hs hl => ?_⟩
          obtain rfl : jj = 0 := by omega
          exact ⟨_, rfl, AOp.move (.inl rfl) rfl (hl 8 none _ (.head _) rfl)⟩
        · refine .inl ⟨(congrArg (fun b => some (b == true)) g2), fun s' jj bb (h1 : 0 ≤ jj) (h2 : jj ≤ 0) hs hl => ?_⟩
          obtain rfl : jj = 0 := by omega
          exact ⟨_, rfl, AOp.fieldPtr (k := 1) (d := 0) (e := 0) rfl rfl (hl 3 none _ (.head _) rfl) fo33_0⟩
        · refine .inl ⟨(congrArg (fun b => some (b == true)) g2), fun s' jj bb (h1 : 0 ≤ jj) (h2 : jj ≤ 0) hs hl => ?_⟩
          obtain rfl : jj = 0 := by omega
          exact ⟨_, rfl, AOp.loadPtr1 rfl rfl (hl 29 (some 3) _ (.head _) rfl) (by rw [hs]; rfl) sh3 rfl⟩
        · refine .inl ⟨(congrArg (fun b => some (b == true)) g2), fun s' jj bb (h1 : 0 ≤ jj) (h2 : jj ≤ 0) hs hl => ?_⟩
          obtain rfl : jj = 0 := by omega
          exact ⟨_, rfl, AOp.eqlI rfl rfl (hl 28 (some 2) _ (.head _) rfl) (hl 30 (some 4) _ (.tail _ (.head _)) rfl)⟩
        · refine .inl ⟨rfl, fun s' jj bb (h1 : 0 ≤ jj) (h2 : jj ≤ 0) hs hl => ?_⟩
          obtain rfl : jj = 0 := by omega
          exact ⟨_, rfl, AOp.pickT rfl rfl (hl 27 (some 1) _ (.head _) rfl) g2 (hl 31 (some 5) _ (.tail _ (.head _)) rfl)⟩
        · refine .inl ⟨rfl, fun s' jj bb (h1 : 0 ≤ jj) (h2 : jj ≤ 0) hs hl => ?_⟩
          obtain rfl : jj = 0 := by omega
          exact ⟨_, rfl, AOp.move (.inl rfl) rfl (hl 32 (some 6) _ (.head _) rfl)⟩
        · exact .inr ⟨(congrArg (fun b => some (b == false)) g3), rfl, ⟨_, _, rfl⟩, fun d hd => by cases hd; rfl⟩
        · exact .inr ⟨(congrArg (fun b => some (b == false)) g3), rfl, ⟨_, _, rfl⟩, fun d hd => by cases hd; rfl⟩
        · exact .inr ⟨(congrArg (fun b => some (b == false)) g3), rfl, ⟨_, _, rfl⟩, fun d hd => by cases hd; rfl⟩
        · exact .inr ⟨(congrArg (fun b => some (b == false)) g3), rfl, ⟨_, _, rfl⟩, fun d hd => by cases hd; rfl⟩
        · exact .inr ⟨(congrArg (fun b => some (b == false)) g3), rfl, ⟨_, _, rfl⟩, fun d hd => by cases hd; rfl⟩
        · exact .inr ⟨(congrArg (fun b => some (b == false)) g3), rfl, ⟨_, _, rfl⟩, fun d hd => by cases hd; rfl⟩
        · exact .inr ⟨(congrArg (fun b => some (b == false)) g3), rfl, ⟨_, _, rfl⟩, fun d hd => by cases hd; rfl⟩
        · refine .inl ⟨rfl, fun s' jj bb (h1 : 0 ≤ jj) (h2 : jj ≤ 0) hs hl => ?_⟩
          obtain rfl : jj = 0 := by omega
          exact ⟨_, rfl, AOp.pickT rfl rfl (hl 33 (some 7) _ (.head _) rfl) g3 rfl⟩
        · refine .inl ⟨rfl, fun s' jj bb (h1 : 0 ≤ jj) (h2 : jj ≤ 0) hs hl => ?_⟩
          obtain rfl : jj = 0 := by omega
          exact ⟨_, rfl, AOp.move (.inr rfl) rfl (hl 41 (some 15) _ (.head _) rfl)⟩
        refine AWP.ret ?_
        exact Ends.mk (ps := [_]) (.inr rfl) ⟨rfl, trivial⟩ rfl (StLe.mk' (st' := ⟨[], []⟩) trivial rfl) (keeps_nil hC) (q := (.t (.leaf (.bool (true))) : PV)) leA rfl ⟨by simp_all [GProgram.orphan], rfl⟩
      · skip
        have g3b := g3
        try simp only [Bool.and_eq_true, Bool.or_eq_true, Bool.and_eq_false_iff, Bool.or_eq_false_iff, decide_eq_true_eq, decide_eq_false_iff_not, Bool.not_eq_true', Bool.not_eq_false', Bool.not_eq_eq_eq_not, Bool.not_true, Bool.not_false, ge_iff_le, gt_iff_lt, Int.not_lt, Int.not_le] at g3b
        refine AWP.drawnL ⟨_, _, fun _ _ => (⟨[some ⟨31, [.t (.row 6 (GPackage.trs (w.gPackages)))]⟩, some ⟨33, [.t (.leaf (.int .i64 (o.gPackage))), .t (.leaf (.int .i64 (o.gAt)))]⟩, some ⟨113, [.t (.leaf (.string ((oInst (GProgram.instAt w o)).gTrait))), .t (.row 1 (strTrs ((oInst (GProgram.instAt w o)).gVars))), .t (.leaf (.int .i64 ((oInst (GProgram.instAt w o)).gHead.gKind))), .t (.leaf (.string ((oInst (GProgram.instAt w o)).gHead.gName))), .t (.row 3 (GType.trs ((oInst (GProgram.instAt w o)).gHead.gArgs))), .t (.row 4 (GBound.trs ((oInst (GProgram.instAt w o)).gWhere))), .t (.leaf (.bool ((oInst (GProgram.instAt w o)).gDefault))), .t (.leaf (.bool ((oInst (GProgram.instAt w o)).gHasAssoc))), .t (.leaf (.int .i64 ((oInst (GProgram.instAt w o)).gAssoc.gKind))), .t (.leaf (.string ((oInst (GProgram.instAt w o)).gAssoc.gName))), .t (.row 3 (GType.trs ((oInst (GProgram.instAt w o)).gAssoc.gArgs))), .t (.row 11 (GMethod.trs ((oInst (GProgram.instAt w o)).gMethods)))]⟩, some ⟨94, [.t (.leaf (.string ((oTrait (w.traitAt ((oInst (GProgram.instAt w o)).gTrait))).gName))), .t (.row 1 (strTrs ((oTrait (w.traitAt ((oInst (GProgram.instAt w o)).gTrait))).gSupertraits))), .t (.leaf (.bool ((oTrait (w.traitAt ((oInst (GProgram.instAt w o)).gTrait))).gAuto))), .t (.leaf (.bool ((oTrait (w.traitAt ((oInst (GProgram.instAt w o)).gTrait))).gAssoc))), .t (.row 16 (GSignature.trs ((oTrait (w.traitAt ((oInst (GProgram.instAt w o)).gTrait))).gSignatures)))]⟩], []⟩ : Sto), fun q' => ([some (.t (.leaf (.bool ((w.traitAt ((oInst (GProgram.instAt w o)).gTrait)).isSome)))), some (.t (.leaf (.bool ((w.traitAt ((oInst (GProgram.instAt w o)).gTrait)).isSome)))), some (.t (.leaf (.int .i64 (oInt (w.traitAt ((oInst (GProgram.instAt w o)).gTrait)))))), some (.ptr 1 0), some (.t (.leaf (.int .i64 (o.gPackage)))), some (.t (.leaf (.bool (decide ((oInt (w.traitAt ((oInst (GProgram.instAt w o)).gTrait)) : Int) = o.gPackage))))), some (.t (.leaf (.bool (decide ((oInt (w.traitAt ((oInst (GProgram.instAt w o)).gTrait)) : Int) = o.gPackage))))), some (.t (.leaf (.bool (decide ((oInt (w.traitAt ((oInst (GProgram.instAt w o)).gTrait)) : Int) = o.gPackage))))), some ((GProgram.pv w)), some (.ptr 2 2), some ((GType.pv ((oInst (GProgram.instAt w o)).gHead))), some (.t (.leaf (.int .i64 (GProgram.home w ((oInst (GProgram.instAt w o)).gHead))))), some (.ptr 1 0), some (.t (.leaf (.int .i64 (o.gPackage)))), some (.t (.leaf (.bool (decide ((GProgram.home w ((oInst (GProgram.instAt w o)).gHead) : Int) = o.gPackage))))), some (.t (.leaf (.bool (decide ((GProgram.home w ((oInst (GProgram.instAt w o)).gHead) : Int) = o.gPackage))))), some (.t (.leaf (.bool (decide ((GProgram.home w ((oInst (GProgram.instAt w o)).gHead) : Int) = o.gPackage)))))] : List (Option PV)).getD q' none, fun q' => ([.q 0 0, .q 0 0, .q 0 0, .q 0 0, .q 0 0, .q 0 0, .q 0 0, .q 0 0, .q 0 0, .q 0 0, .q 0 0, .q 0 0, .q 0 0, .q 0 0, .q 0 0, .q 0 0, .q 0 0] : List DK).getD q' (.q 0 0), [], none, fun q' => ([[(9, none)], [(26, some 0)], [(8, none)], [(3, none)], [(29, some 3)], [(28, some 2), (30, some 4)], [(27, some 1), (31, some 5)], [(32, some 6)], [(2, none)], [(5, none)], [(35, some 9)], [(36, some 10), (34, some 8)], [(3, none)], [(38, some 12)], [(37, some 11), (39, some 13)], [(33, some 7), (40, some 14)], [(41, some 15)]] : List (List (Nat × Option Nat))).getD q' []⟩ rfl mixed (by kernel_rfl) rfl rfl ⟨?_, ?_, ?_, ?_, ?_, ?_, ?_, ?_, ?_, ?_, ?_, ?_, ?_, ?_, ?_, ?_, ?_, trivial⟩ rfl ?_
        · refine .inl ⟨rfl, fun s' jj bb (h1 : 0 ≤ jj) (h2 : jj ≤ 0) hs hl => ?_⟩
          obtain rfl : jj = 0 := by omega
          exact ⟨_, rfl, AOp.move (.inl rfl) rfl (hl 9 none _ (.head _) rfl)⟩
        · refine .inl ⟨rfl, fun s' jj bb (h1 : 0 ≤ jj) (h2 : jj ≤ 0) hs hl => ?_⟩
          obtain rfl : jj = 0 := by omega
          exact ⟨_, rfl, AOp.move (.inl rfl) rfl (hl 26 (some 0) _ (.head _) rfl)⟩
        · refine .inl ⟨(congrArg (fun b => some (b == true)) g2), fun s' jj bb (h1 : 0 ≤ jj) (h2 : jj ≤ 0) hs hl => ?_⟩
          obtain rfl : jj = 0 := by omega
          exact ⟨_, rfl, AOp.move (.inl rfl) rfl (hl 8 none _ (.head _) rfl)⟩
        · refine .inl ⟨(congrArg (fun b => some (b == true)) g2), fun s' jj bb (h1 : 0 ≤ jj) (h2 : jj ≤ 0) hs hl => ?_⟩
          obtain rfl : jj = 0 := by omega
          exact ⟨_, rfl, AOp.fieldPtr (k := 1) (d := 0) (e := 0) rfl rfl (hl 3 none _ (.head _) rfl) fo33_0⟩
        · refine .inl ⟨(congrArg (fun b => some (b == true)) g2), fun s' jj bb (h1 : 0 ≤ jj) (h2 : jj ≤ 0) hs hl => ?_⟩
          obtain rfl : jj = 0 := by omega
          exact ⟨_, rfl, AOp.loadPtr1 rfl rfl (hl 29 (some 3) _ (.head _) rfl) (by rw [hs]; rfl) sh3 rfl⟩
        · refine .inl ⟨(congrArg (fun b => some (b == true)) g2), fun s' jj bb (h1 : 0 ≤ jj) (h2 : jj ≤ 0) hs hl => ?_⟩
          obtain rfl : jj = 0 := by omega
          exact ⟨_, rfl, AOp.eqlI rfl rfl (hl 28 (some 2) _ (.head _) rfl) (hl 30 (some 4) _ (.tail _ (.head _)) rfl)⟩
        · refine .inl ⟨rfl, fun s' jj bb (h1 : 0 ≤ jj) (h2 : jj ≤ 0) hs hl => ?_⟩
          obtain rfl : jj = 0 := by omega
          exact ⟨_, rfl, AOp.pickT rfl rfl (hl 27 (some 1) _ (.head _) rfl) g2 (hl 31 (some 5) _ (.tail _ (.head _)) rfl)⟩
        · refine .inl ⟨rfl, fun s' jj bb (h1 : 0 ≤ jj) (h2 : jj ≤ 0) hs hl => ?_⟩
          obtain rfl : jj = 0 := by omega
          exact ⟨_, rfl, AOp.move (.inl rfl) rfl (hl 32 (some 6) _ (.head _) rfl)⟩
        · refine .inl ⟨(congrArg (fun b => some (b == false)) g3), fun s' jj bb (h1 : 0 ≤ jj) (h2 : jj ≤ 0) hs hl => ?_⟩
          obtain rfl : jj = 0 := by omega
          exact ⟨_, rfl, AOp.loadPtr (cs := [.t (.row 6 (GPackage.trs (w.gPackages)))]) rfl rfl (hl 2 none _ (.head _) rfl) (by rw [hs]; rfl) sh31 rfl rfl⟩
        · refine .inl ⟨(congrArg (fun b => some (b == false)) g3), fun s' jj bb (h1 : 0 ≤ jj) (h2 : jj ≤ 0) hs hl => ?_⟩
          obtain rfl : jj = 0 := by omega
          exact ⟨_, rfl, AOp.fieldPtr (k := 2) (d := 0) (e := 2) rfl rfl (hl 5 none _ (.head _) rfl) fo113_2⟩
        · refine .inl ⟨(congrArg (fun b => some (b == false)) g3), fun s' jj bb (h1 : 0 ≤ jj) (h2 : jj ≤ 0) hs hl => ?_⟩
          obtain rfl : jj = 0 := by omega
          exact ⟨_, rfl, AOp.loadPtr (cs := [.t (.leaf (.int .i64 (((oInst (GProgram.instAt w o)).gHead).gKind))), .t (.leaf (.string (((oInst (GProgram.instAt w o)).gHead).gName))), .t (.row 3 (GType.trs (((oInst (GProgram.instAt w o)).gHead).gArgs)))]) rfl rfl (hl 35 (some 9) _ (.head _) rfl) (by rw [hs]; rfl) sh47 rfl rfl⟩
        · refine .inl ⟨(congrArg (fun b => some (b == false)) g3), fun s' jj bb (h1 : 0 ≤ jj) (h2 : jj ≤ 0) hs hl => ?_⟩
          obtain rfl : jj = 0 := by omega
          exact ⟨_, rfl, AOp.callF (ps := [_, _]) rfl rfl Tryz.func79 (by kernel_rfl) rfl (evs_cons (hl 34 (some 8) _ (.tail _ (.head _)) rfl) (evs_cons (hl 36 (some 10) _ (.head _) rfl) rfl)) leA rfl rfl (home_spec w ((oInst (GProgram.instAt w o)).gHead))⟩
        · refine .inl ⟨(congrArg (fun b => some (b == false)) g3), fun s' jj bb (h1 : 0 ≤ jj) (h2 : jj ≤ 0) hs hl => ?_⟩
          obtain rfl : jj = 0 := by omega
          exact ⟨_, rfl, AOp.fieldPtr (k := 1) (d := 0) (e := 0) rfl rfl (hl 3 none _ (.head _) rfl) fo33_0⟩
        · refine .inl ⟨(congrArg (fun b => some (b == false)) g3), fun s' jj bb (h1 : 0 ≤ jj) (h2 : jj ≤ 0) hs hl => ?_⟩
          obtain rfl : jj = 0 := by omega
          exact ⟨_, rfl, AOp.loadPtr1 rfl rfl (hl 38 (some 12) _ (.head _) rfl) (by rw [hs]; rfl) sh3 rfl⟩
        · refine .inl ⟨(congrArg (fun b => some (b == false)) g3), fun s' jj bb (h1 : 0 ≤ jj) (h2 : jj ≤ 0) hs hl => ?_⟩
          obtain rfl : jj = 0 := by omega
          exact ⟨_, rfl, AOp.eqlI rfl rfl (hl 37 (some 11) _ (.head _) rfl) (hl 39 (some 13) _ (.tail _ (.head _)) rfl)⟩
        · refine .inl ⟨rfl, fun s' jj bb (h1 : 0 ≤ jj) (h2 : jj ≤ 0) hs hl => ?_⟩
          obtain rfl : jj = 0 := by omega
          exact ⟨_, rfl, AOp.pickF rfl rfl (hl 33 (some 7) _ (.head _) rfl) g3 (hl 40 (some 14) _ (.tail _ (.head _)) rfl)⟩
        · refine .inl ⟨rfl, fun s' jj bb (h1 : 0 ≤ jj) (h2 : jj ≤ 0) hs hl => ?_⟩
          obtain rfl : jj = 0 := by omega
          exact ⟨_, rfl, AOp.move (.inr rfl) rfl (hl 41 (some 15) _ (.head _) rfl)⟩
        refine AWP.ret ?_
        exact Ends.mk (ps := [_]) (.inr rfl) ⟨rfl, trivial⟩ rfl (StLe.mk' (st' := ⟨[], []⟩) trivial rfl) (keeps_nil hC) (q := (.t (.leaf (.bool (decide ((GProgram.home w ((oInst (GProgram.instAt w o)).gHead) : Int) = o.gPackage)))) : PV)) leA rfl ⟨by simp_all [GProgram.orphan], rfl⟩
    · skip
      have g2b := g2
      try simp only [Bool.and_eq_true, Bool.or_eq_true, Bool.and_eq_false_iff, Bool.or_eq_false_iff, decide_eq_true_eq, decide_eq_false_iff_not, Bool.not_eq_true', Bool.not_eq_false', Bool.not_eq_eq_eq_not, Bool.not_true, Bool.not_false, ge_iff_le, gt_iff_lt, Int.not_lt, Int.not_le] at g2b
      refine AWP.drawnL ⟨_, _, fun _ _ => (⟨[some ⟨31, [.t (.row 6 (GPackage.trs (w.gPackages)))]⟩, some ⟨33, [.t (.leaf (.int .i64 (o.gPackage))), .t (.leaf (.int .i64 (o.gAt)))]⟩, some ⟨113, [.t (.leaf (.string ((oInst (GProgram.instAt w o)).gTrait))), .t (.row 1 (strTrs ((oInst (GProgram.instAt w o)).gVars))), .t (.leaf (.int .i64 ((oInst (GProgram.instAt w o)).gHead.gKind))), .t (.leaf (.string ((oInst (GProgram.instAt w o)).gHead.gName))), .t (.row 3 (GType.trs ((oInst (GProgram.instAt w o)).gHead.gArgs))), .t (.row 4 (GBound.trs ((oInst (GProgram.instAt w o)).gWhere))), .t (.leaf (.bool ((oInst (GProgram.instAt w o)).gDefault))), .t (.leaf (.bool ((oInst (GProgram.instAt w o)).gHasAssoc))), .t (.leaf (.int .i64 ((oInst (GProgram.instAt w o)).gAssoc.gKind))), .t (.leaf (.string ((oInst (GProgram.instAt w o)).gAssoc.gName))), .t (.row 3 (GType.trs ((oInst (GProgram.instAt w o)).gAssoc.gArgs))), .t (.row 11 (GMethod.trs ((oInst (GProgram.instAt w o)).gMethods)))]⟩, some ⟨94, [.t (.leaf (.string ((oTrait (w.traitAt ((oInst (GProgram.instAt w o)).gTrait))).gName))), .t (.row 1 (strTrs ((oTrait (w.traitAt ((oInst (GProgram.instAt w o)).gTrait))).gSupertraits))), .t (.leaf (.bool ((oTrait (w.traitAt ((oInst (GProgram.instAt w o)).gTrait))).gAuto))), .t (.leaf (.bool ((oTrait (w.traitAt ((oInst (GProgram.instAt w o)).gTrait))).gAssoc))), .t (.row 16 (GSignature.trs ((oTrait (w.traitAt ((oInst (GProgram.instAt w o)).gTrait))).gSignatures)))]⟩], []⟩ : Sto), fun q' => ([some (.t (.leaf (.bool ((w.traitAt ((oInst (GProgram.instAt w o)).gTrait)).isSome)))), some (.t (.leaf (.bool ((w.traitAt ((oInst (GProgram.instAt w o)).gTrait)).isSome)))), none, none, none, none, some (.t (.leaf (.bool (false)))), some (.t (.leaf (.bool (false)))), some ((GProgram.pv w)), some (.ptr 2 2), some ((GType.pv ((oInst (GProgram.instAt w o)).gHead))), some (.t (.leaf (.int .i64 (GProgram.home w ((oInst (GProgram.instAt w o)).gHead))))), some (.ptr 1 0), some (.t (.leaf (.int .i64 (o.gPackage)))), some (.t (.leaf (.bool (decide ((GProgram.home w ((oInst (GProgram.instAt w o)).gHead) : Int) = o.gPackage))))), some (.t (.leaf (.bool (decide ((GProgram.home w ((oInst (GProgram.instAt w o)).gHead) : Int) = o.gPackage))))), some (.t (.leaf (.bool (decide ((GProgram.home w ((oInst (GProgram.instAt w o)).gHead) : Int) = o.gPackage)))))] : List (Option PV)).getD q' none, fun q' => ([.q 0 0, .q 0 0, .q 0 0, .q 0 0, .q 0 0, .q 0 0, .q 0 0, .q 0 0, .q 0 0, .q 0 0, .q 0 0, .q 0 0, .q 0 0, .q 0 0, .q 0 0, .q 0 0, .q 0 0] : List DK).getD q' (.q 0 0), [], none, fun q' => ([[(9, none)], [(26, some 0)], [], [], [], [], [(27, some 1)], [(32, some 6)], [(2, none)], [(5, none)], [(35, some 9)], [(36, some 10), (34, some 8)], [(3, none)], [(38, some 12)], [(37, some 11), (39, some 13)], [(33, some 7), (40, some 14)], [(41, some 15)]] : List (List (Nat × Option Nat))).getD q' []⟩ rfl mixed (by kernel_rfl) rfl rfl ⟨?_, ?_, ?_, ?_, ?_, ?_, ?_, ?_, ?_, ?_, ?_, ?_, ?_, ?_, ?_, ?_, ?_, trivial⟩ rfl ?_
      · refine .inl ⟨rfl, fun s' jj bb (h1 : 0 ≤ jj) (h2 : jj ≤ 0) hs hl => ?_⟩
        obtain rfl : jj = 0 := by omega
        exact ⟨_, rfl, AOp.move (.inl rfl) rfl (hl 9 none _ (.head _) rfl)⟩
      · refine .inl ⟨rfl, fun s' jj bb (h1 : 0 ≤ jj) (h2 : jj ≤ 0) hs hl => ?_⟩
        obtain rfl : jj = 0 := by omega
        exact ⟨_, rfl, AOp.move (.inl rfl) rfl (hl 26 (some 0) _ (.head _) rfl)⟩
      · exact .inr ⟨(congrArg (fun b => some (b == true)) g2), rfl, ⟨_, _, rfl⟩, fun d hd => by cases hd; rfl⟩
      · exact .inr ⟨(congrArg (fun b => some (b == true)) g2), rfl, ⟨_, _, rfl⟩, fun d hd => by cases hd; rfl⟩
      · exact .inr ⟨(congrArg (fun b => some (b == true)) g2), rfl, ⟨_, _, rfl⟩, fun d hd => by cases hd; rfl⟩
      · exact .inr ⟨(congrArg (fun b => some (b == true)) g2), rfl, ⟨_, _, rfl⟩, fun d hd => by cases hd; rfl⟩
      · refine .inl ⟨rfl, fun s' jj bb (h1 : 0 ≤ jj) (h2 : jj ≤ 0) hs hl => ?_⟩
        obtain rfl : jj = 0 := by omega
        exact ⟨_, rfl, AOp.pickF rfl rfl (hl 27 (some 1) _ (.head _) rfl) g2 rfl⟩
      · refine .inl ⟨rfl, fun s' jj bb (h1 : 0 ≤ jj) (h2 : jj ≤ 0) hs hl => ?_⟩
        obtain rfl : jj = 0 := by omega
        exact ⟨_, rfl, AOp.move (.inl rfl) rfl (hl 32 (some 6) _ (.head _) rfl)⟩
      · refine .inl ⟨(congrArg (fun b => some (b == false)) (rfl : false = _)), fun s' jj bb (h1 : 0 ≤ jj) (h2 : jj ≤ 0) hs hl => ?_⟩
        obtain rfl : jj = 0 := by omega
        exact ⟨_, rfl, AOp.loadPtr (cs := [.t (.row 6 (GPackage.trs (w.gPackages)))]) rfl rfl (hl 2 none _ (.head _) rfl) (by rw [hs]; rfl) sh31 rfl rfl⟩
      · refine .inl ⟨(congrArg (fun b => some (b == false)) (rfl : false = _)), fun s' jj bb (h1 : 0 ≤ jj) (h2 : jj ≤ 0) hs hl => ?_⟩
        obtain rfl : jj = 0 := by omega
        exact ⟨_, rfl, AOp.fieldPtr (k := 2) (d := 0) (e := 2) rfl rfl (hl 5 none _ (.head _) rfl) fo113_2⟩
      · refine .inl ⟨(congrArg (fun b => some (b == false)) (rfl : false = _)), fun s' jj bb (h1 : 0 ≤ jj) (h2 : jj ≤ 0) hs hl => ?_⟩
        obtain rfl : jj = 0 := by omega
        exact ⟨_, rfl, AOp.loadPtr (cs := [.t (.leaf (.int .i64 (((oInst (GProgram.instAt w o)).gHead).gKind))), .t (.leaf (.string (((oInst (GProgram.instAt w o)).gHead).gName))), .t (.row 3 (GType.trs (((oInst (GProgram.instAt w o)).gHead).gArgs)))]) rfl rfl (hl 35 (some 9) _ (.head _) rfl) (by rw [hs]; rfl) sh47 rfl rfl⟩
      · refine .inl ⟨(congrArg (fun b => some (b == false)) (rfl : false = _)), fun s' jj bb (h1 : 0 ≤ jj) (h2 : jj ≤ 0) hs hl => ?_⟩
        obtain rfl : jj = 0 := by omega
        exact ⟨_, rfl, AOp.callF (ps := [_, _]) rfl rfl Tryz.func79 (by kernel_rfl) rfl (evs_cons (hl 34 (some 8) _ (.tail _ (.head _)) rfl) (evs_cons (hl 36 (some 10) _ (.head _) rfl) rfl)) leA rfl rfl (home_spec w ((oInst (GProgram.instAt w o)).gHead))⟩
      · refine .inl ⟨(congrArg (fun b => some (b == false)) (rfl : false = _)), fun s' jj bb (h1 : 0 ≤ jj) (h2 : jj ≤ 0) hs hl => ?_⟩
        obtain rfl : jj = 0 := by omega
        exact ⟨_, rfl, AOp.fieldPtr (k := 1) (d := 0) (e := 0) rfl rfl (hl 3 none _ (.head _) rfl) fo33_0⟩
      · refine .inl ⟨(congrArg (fun b => some (b == false)) (rfl : false = _)), fun s' jj bb (h1 : 0 ≤ jj) (h2 : jj ≤ 0) hs hl => ?_⟩
        obtain rfl : jj = 0 := by omega
        exact ⟨_, rfl, AOp.loadPtr1 rfl rfl (hl 38 (some 12) _ (.head _) rfl) (by rw [hs]; rfl) sh3 rfl⟩
      · refine .inl ⟨(congrArg (fun b => some (b == false)) (rfl : false = _)), fun s' jj bb (h1 : 0 ≤ jj) (h2 : jj ≤ 0) hs hl => ?_⟩
        obtain rfl : jj = 0 := by omega
        exact ⟨_, rfl, AOp.eqlI rfl rfl (hl 37 (some 11) _ (.head _) rfl) (hl 39 (some 13) _ (.tail _ (.head _)) rfl)⟩
      · refine .inl ⟨rfl, fun s' jj bb (h1 : 0 ≤ jj) (h2 : jj ≤ 0) hs hl => ?_⟩
        obtain rfl : jj = 0 := by omega
        exact ⟨_, rfl, AOp.pickF rfl rfl (hl 33 (some 7) _ (.head _) rfl) rfl (hl 40 (some 14) _ (.tail _ (.head _)) rfl)⟩
      · refine .inl ⟨rfl, fun s' jj bb (h1 : 0 ≤ jj) (h2 : jj ≤ 0) hs hl => ?_⟩
        obtain rfl : jj = 0 := by omega
        exact ⟨_, rfl, AOp.move (.inr rfl) rfl (hl 41 (some 15) _ (.head _) rfl)⟩
      refine AWP.ret ?_
      exact Ends.mk (ps := [_]) (.inr rfl) ⟨rfl, trivial⟩ rfl (StLe.mk' (st' := ⟨[], []⟩) trivial rfl) (keeps_nil hC) (q := (.t (.leaf (.bool (decide ((GProgram.home w ((oInst (GProgram.instAt w o)).gHead) : Int) = o.gPackage)))) : PV)) leA rfl ⟨by simp_all [GProgram.orphan], rfl⟩

end Go.Proofs.YtnakkelglbcecaaGreat

namespace Go.Proofs.YtnakkelglbcecaaGreat
open Go.RowKit Go.Proofs
set_option linter.unusedSimpArgs false
set_option linter.unusedVariables false

attribute [local irreducible] lt

noncomputable def sOrphanInstances_F1 (fu : Nat) (pw : GProgram) : Nat → ((List GInstanceRef)) → Option (LR ((List GInstanceRef)) ((List GInstanceRef))) :=
 fun i2 v4 => sw (!(GProgram.orphan pw (atD (GProgram.allRefs pw) i2)))
 (gd ((v4).length + (([(atD (GProgram.allRefs pw) i2)] : List GInstanceRef)).length ≤ 68719476736)
 (some (.next (v4 ++ ([(atD (GProgram.allRefs pw) i2)] : List GInstanceRef)))))
 (some (.next v4))
noncomputable def sOrphanInstances_R1 (fu : Nat) (pw : GProgram) : Option (((List GInstanceRef)) ⊕ ((List GInstanceRef))) :=
 loopN (sOrphanInstances_F1 fu pw) ((GProgram.allRefs pw).length - 0) 0 ([])
noncomputable def sOrphanInstances_M (fu : Nat)  (pw : GProgram) : Option ((List GInstanceRef)) :=
 gd ((GProgram.allRefs pw).length ≤ 68719476735)
 (so (sOrphanInstances_R1 fu pw) (fun v4 =>
 some v4))
set_option maxRecDepth 100000 in
set_option maxHeartbeats 4000000 in
theorem sOrphanInstances_ok  (fu : Nat)  (pw : GProgram) (r : (List GInstanceRef)) (H : sOrphanInstances_M fu pw = some r) : AFun Tryz.prog 38 [(GProgram.pv pw)] (.t (.row 2 (GInstanceRef.trs (r))) : PV) := by
  refine ACalls.intro Tryz.func38 rfl (by first | decide | (simp; done) | (simp; decide)) ?_
  intro C hC
  refine AWP.seq ?_
  refine AWP.region_lit ?_
  refine AL.cons rfl (AOp.box (cs := [.t (.row 6 (GPackage.trs (pw.gPackages)))]) rfl rfl rfl rfl rfl) ?_
  refine AL.cons rfl (AOp.move (.inr rfl) rfl rfl) ?_
  refine AL.nil ?_
  refine AWP.seq ?_
  refine AWP.region_lit ?_
  refine AL.cons rfl (AOp.buildSliceA (es := []) (es' := GInstanceRef.trs ([])) (cs := []) rfl rfl el66 zr33 rfl rfl leA rfl (by simp [GInstanceRef.cs]) (by decide) rfl (by decide) (by simp [GInstanceRef.trs_map, GInstanceRef.tr_cs])) ?_
  refine AL.cons rfl (AOp.move (.inr rfl) rfl rfl) ?_
  refine AL.nil ?_
  refine AWP.seq ?_
  refine AWP.region_lit ?_
  refine AL.cons rfl (AOp.loadPtr (cs := [.t (.row 6 (GPackage.trs (pw.gPackages)))]) rfl rfl rfl rfl sh31 rfl rfl) ?_
  rcases Classical.em ((GProgram.allRefs pw).length ≤ 68719476735) with hg1 | hg1
  · skip
    refine AL.cons rfl (AOp.callF (res := .t (.row 2 (GInstanceRef.trs ((GProgram.allRefs pw))))) (ps := [_]) rfl rfl Tryz.func97 (by kernel_rfl) rfl rfl leA rfl rfl (sAllInst_ok pw hg1)) ?_
    refine AL.cons rfl (AOp.move (.inr rfl) rfl rfl) ?_
    refine AL.nil ?_
    refine AWP.seq ?_
    refine AWP.seq ?_
    refine AWP.region_lit ?_
    refine AL.cons rfl (AOp.move (.inr rfl) rfl rfl) ?_
    refine AL.nil ?_
    refine AWP.fact (lk_lenN 3 rfl rfl (GInstanceRef.trs_len _)) (fun hl5 => ?_)
    refine AWP.fact (lk_lenN 4 rfl rfl (GInstanceRef.trs_len _)) (fun hl6 => ?_)
    refine AWP.cut (ι := (List GInstanceRef)) (fun v4 => sOrphanInstances_R1 fu pw = some (.inr v4)) (fun v4 => ⟨[(2, .nil), (3, .acc 2 (GInstanceRef.trs (v4)) 0)], ⟨[some ⟨31, [.t (.row 6 (GPackage.trs (pw.gPackages)))]⟩], [⟨33, 2, GInstanceRef.trs (v4), false⟩]⟩⟩) (by repeat' (first | exact qcEnds | exact ncAWP | exact ncRound | exact ncEx | apply qcThen | apply qcBlock | apply qcCut)) ?_ ?_
    · skip
      refine AWP.block ?_
      refine AWP.loopR (ι := Nat × ((List GInstanceRef))) (fun (i2, v4) => sOrphanInstances_R1 fu pw = loopN (sOrphanInstances_F1 fu pw) ((GProgram.allRefs pw).length - i2) i2 v4) (fun (i2, v4) => ⟨[(1, .ptr 0 0), (2, .nil), (3, .acc 2 (GInstanceRef.trs (v4)) 0), (4, .t (.row 2 (GInstanceRef.trs ((GProgram.allRefs pw))))), (5, .t (.leaf (.int .i64 (((i2 : Nat) : Int)))))], ⟨[some ⟨31, [.t (.row 6 (GPackage.trs (pw.gPackages)))]⟩], [⟨33, 2, GInstanceRef.trs (v4), false⟩]⟩⟩) (fun (i2, v4) => (GProgram.allRefs pw).length - i2) (0, ([])) ?_ ?_ ?_
      · exact rfl
      · skip
        exact Wk.mk (StLe.mk' ⟨⟨rfl, leA, rfl⟩, trivial⟩ (by first | rfl | simp)) (keeps_nil hC) ⟨⟨_, rfl, .refl _, rfl⟩, ⟨⟨_, rfl, .refl _, rfl⟩, ⟨⟨_, rfl, leA, rfl⟩, ⟨⟨_, rfl, .refl _, rfl⟩, ⟨⟨_, rfl, leA, rfl⟩, trivial⟩⟩⟩⟩⟩
      · rintro ⟨i2, v4⟩ hJ7
        refine AWP.seq ?_
        refine AWP.seq ?_
        refine AWP.region_lit ?_
        refine AL.cons rfl (AOp.move (.inl rfl) rfl rfl) ?_
        refine AL.cons rfl (AOp.move (.inl rfl) rfl rfl) ?_
        refine AL.cons rfl (AOp.lenN rfl rfl rfl rfl el66 (GInstanceRef.trs_len _)) ?_
        refine AL.cons rfl (AOp.lss rfl rfl rfl rfl) ?_
        refine AL.nil ?_
        refine AWP.cond rfl (fun h8 => ?_) (fun h8 => ?_)
        · skip
          have h8l : i2 < (GProgram.allRefs pw).length := nat_lt_of2 h8
          have h8n := nat_lt_of h8
          refine AWP.skip ?_
          refine AWP.seq ?_
          refine AWP.block ?_
          refine AWP.seq ?_
          refine AWP.drawnL ⟨_, _, fun _ _ => (⟨[some ⟨31, [.t (.row 6 (GPackage.trs (pw.gPackages)))]⟩], [⟨33, 2, GInstanceRef.trs (v4), false⟩]⟩ : Sto), fun q' => ([some ((GProgram.pv pw)), some (.t (.row 2 (GInstanceRef.trs ((GProgram.allRefs pw))))), some (.t (.leaf (.int .i64 (((i2 : Nat) : Int))))), some (.eptr (GInstanceRef.cs (atD (GProgram.allRefs pw) i2))), some ((GInstanceRef.pv (atD (GProgram.allRefs pw) i2))), some (.t (.leaf (.bool (GProgram.orphan pw (atD (GProgram.allRefs pw) i2))))), some (.t (.leaf (.bool (!(GProgram.orphan pw (atD (GProgram.allRefs pw) i2))))))] : List (Option PV)).getD q' none, fun q' => ([.q 0 0, .q 0 0, .q 0 0, .q 0 0, .q 0 0, .q 0 0, .q 0 0] : List DK).getD q' (.q 0 0), [], none, fun q' => ([[(1, none)], [(4, none)], [(5, none)], [(16, some 1), (17, some 2)], [(18, some 3)], [(19, some 4), (15, some 0)], [(20, some 5)]] : List (List (Nat × Option Nat))).getD q' []⟩ rfl mixed (by kernel_rfl) rfl rfl ⟨?_, ?_, ?_, ?_, ?_, ?_, ?_, trivial⟩ rfl ?_
          · refine .inl ⟨rfl, fun s' jj bb (h1 : 0 ≤ jj) (h2 : jj ≤ 0) hs hl => ?_⟩
            obtain rfl : jj = 0 := by omega
            exact ⟨_, rfl, AOp.loadPtr (cs := [.t (.row 6 (GPackage.trs (pw.gPackages)))]) rfl rfl (hl 1 none _ (.head _) rfl) (by rw [hs]; rfl) sh31 rfl rfl⟩
          · refine .inl ⟨rfl, fun s' jj bb (h1 : 0 ≤ jj) (h2 : jj ≤ 0) hs hl => ?_⟩
            obtain rfl : jj = 0 := by omega
            exact ⟨_, rfl, AOp.move (.inl rfl) rfl (hl 4 none _ (.head _) rfl)⟩
          · refine .inl ⟨rfl, fun s' jj bb (h1 : 0 ≤ jj) (h2 : jj ≤ 0) hs hl => ?_⟩
            obtain rfl : jj = 0 := by omega
            exact ⟨_, rfl, AOp.move (.inl rfl) rfl (hl 5 none _ (.head _) rfl)⟩
          · refine .inl ⟨rfl, fun s' jj bb (h1 : 0 ≤ jj) (h2 : jj ≤ 0) hs hl => ?_⟩
            obtain rfl : jj = 0 := by omega
            exact ⟨_, rfl, AOp.index (k := i2) rfl rfl (hl 16 (some 1) _ (.head _) rfl) rfl (hl 17 (some 2) _ (.tail _ (.head _)) rfl) (GInstanceRef.trs_at h8n) el66⟩
          · refine .inl ⟨rfl, fun s' jj bb (h1 : 0 ≤ jj) (h2 : jj ≤ 0) hs hl => ?_⟩
            obtain rfl : jj = 0 := by omega
            exact ⟨_, rfl, AOp.loadEptr (ds := [.leaf (.int .i64 ((atD (GProgram.allRefs pw) i2).gPackage)), .leaf (.int .i64 ((atD (GProgram.allRefs pw) i2).gAt))]) rfl rfl (hl 18 (some 3) _ (.head _) rfl) sh33 rfl rfl⟩
          · refine .inl ⟨rfl, fun s' jj bb (h1 : 0 ≤ jj) (h2 : jj ≤ 0) hs hl => ?_⟩
            obtain rfl : jj = 0 := by omega
            exact ⟨_, rfl, AOp.callF (res := .t (.leaf (.bool (GProgram.orphan pw (atD (GProgram.allRefs pw) i2))))) (ps := [_, _]) rfl rfl Tryz.func16 (by kernel_rfl) rfl (evs_cons (hl 15 (some 0) _ (.tail _ (.head _)) rfl) (evs_cons (hl 19 (some 4) _ (.head _) rfl) rfl)) leA rfl rfl (orphan_spec pw (atD (GProgram.allRefs pw) i2))⟩
          · refine .inl ⟨rfl, fun s' jj bb (h1 : 0 ≤ jj) (h2 : jj ≤ 0) hs hl => ?_⟩
            obtain rfl : jj = 0 := by omega
            exact ⟨_, rfl, AOp.notB rfl rfl (hl 20 (some 5) _ (.head _) rfl)⟩
          refine AWP.cond rfl (fun h9 => ?_) (fun h9 => ?_)
          · skip
            refine AWP.region_lit ?_
            refine AL.cons rfl (AOp.move (.inl rfl) rfl rfl) ?_
            refine AL.cons rfl (AOp.move (.inl rfl) rfl rfl) ?_
            refine AL.cons rfl (AOp.move (.inl rfl) rfl rfl) ?_
            refine AL.cons rfl (AOp.index (k := i2) rfl rfl rfl rfl rfl (GInstanceRef.trs_at h8n) el66) ?_
            refine AL.cons rfl (AOp.loadEptr (ds := [.leaf (.int .i64 ((atD (GProgram.allRefs pw) i2).gPackage)), .leaf (.int .i64 ((atD (GProgram.allRefs pw) i2).gAt))]) rfl rfl rfl sh33 rfl rfl) ?_
            refine AL.cons rfl (AOp.buildSliceE (es := [GInstanceRef.cs (atD (GProgram.allRefs pw) i2)]) (es' := GInstanceRef.trs (([(atD (GProgram.allRefs pw) i2)] : List GInstanceRef))) (cs := [.t (.leaf (.int .i64 ((atD (GProgram.allRefs pw) i2).gPackage))), .t (.leaf (.int .i64 ((atD (GProgram.allRefs pw) i2).gAt)))]) rfl rfl el66 zr33 rfl rfl leA rfl (by simp [GInstanceRef.cs]) (by decide) rfl (by decide) (by simp [GInstanceRef.trs_map, GInstanceRef.tr_cs])) ?_
            rcases Classical.em ((v4).length + (([(atD (GProgram.allRefs pw) i2)] : List GInstanceRef)).length ≤ 68719476736) with hg10 | hg10
            · skip
              refine AL.cons rfl (AOp.appendE (es3 := GInstanceRef.trs (v4 ++ ([(atD (GProgram.allRefs pw) i2)] : List GInstanceRef))) rfl rfl rfl rfl rfl rfl rfl rfl rfl (fun e he => by rw [GInstanceRef.trs_map] at he; obtain ⟨x, _, rfl⟩ := List.mem_map.1 he; rw [GInstanceRef.tr_cs]; rfl) el66 ze66 (by decide) (by rw [GInstanceRef.trs_len, GInstanceRef.trs_len]; exact room_le hg10 (by decide)) (by rw [GInstanceRef.trs_map, GInstanceRef.trs_map, GInstanceRef.trs_map, List.map_append])) ?_
              refine AL.cons rfl (AOp.move (.inr rfl) rfl rfl) ?_
              refine AL.nil ?_
              refine AWP.region_lit ?_
              refine AL.cons rfl (AOp.move (.inl rfl) rfl rfl) ?_
              refine AL.cons rfl (AOp.addI rfl rfl rfl rfl (c := ((i2 + 1 : Nat) : Int)) (by omega) (by omega)) ?_
              refine AL.cons rfl (AOp.move (.inr rfl) rfl rfl) ?_
              refine AL.nil ?_
              have e11 : (sOrphanInstances_F1 fu pw) i2 v4 = some (.next (v4 ++ ([(atD (GProgram.allRefs pw) i2)] : List GInstanceRef))) := swT h9 (gdT hg10 (rfl))
              refine ⟨(i2 + 1, (v4 ++ ([(atD (GProgram.allRefs pw) i2)] : List GInstanceRef))), loopN_next h8l hJ7 e11, ?_, ?_⟩
              · skip
                exact Wk.mk (StLe.mk' ⟨⟨rfl, leA, rfl⟩, trivial⟩ (by first | rfl | simp)) (keeps_nil hC) ⟨⟨_, rfl, .refl _, rfl⟩, ⟨⟨_, rfl, .refl _, rfl⟩, ⟨⟨_, rfl, leA, rfl⟩, ⟨⟨_, rfl, .refl _, rfl⟩, ⟨⟨_, rfl, leA, rfl⟩, trivial⟩⟩⟩⟩⟩
              · dsimp only; omega
            · skip
              have e12 : (sOrphanInstances_F1 fu pw) i2 v4 = none := swT h9 (gdF hg10)
              have e13 : sOrphanInstances_R1 fu pw = none := loopN_non h8l hJ7 e12
              have e14 : sOrphanInstances_M fu pw = none := gdT hg1 (soN e13)
              exact none_some H e14
          · skip
            refine AWP.skip ?_
            refine AWP.region_lit ?_
            refine AL.cons rfl (AOp.move (.inl rfl) rfl rfl) ?_
            refine AL.cons rfl (AOp.addI rfl rfl rfl rfl (c := ((i2 + 1 : Nat) : Int)) (by omega) (by omega)) ?_
            refine AL.cons rfl (AOp.move (.inr rfl) rfl rfl) ?_
            refine AL.nil ?_
            have e15 : (sOrphanInstances_F1 fu pw) i2 v4 = some (.next v4) := swF h9 (rfl)
            refine ⟨(i2 + 1, v4), loopN_next h8l hJ7 e15, ?_, ?_⟩
            · skip
              exact Wk.mk (StLe.mk' ⟨⟨rfl, leA, rfl⟩, trivial⟩ (by first | rfl | simp)) (keeps_nil hC) ⟨⟨_, rfl, .refl _, rfl⟩, ⟨⟨_, rfl, .refl _, rfl⟩, ⟨⟨_, rfl, .refl _, rfl⟩, ⟨⟨_, rfl, .refl _, rfl⟩, ⟨⟨_, rfl, leA, rfl⟩, trivial⟩⟩⟩⟩⟩
            · dsimp only; omega
        · skip
          have h8l : (GProgram.allRefs pw).length ≤ i2 := nat_ge_of2 h8
          refine AWP.exit ?_
          refine ⟨v4, loopN_end h8l hJ7, ?_⟩
          exact Wk.mk (StLe.mk' ⟨⟨rfl, leA, rfl⟩, trivial⟩ (by first | rfl | simp)) (keeps_nil hC) ⟨⟨_, rfl, .refl _, rfl⟩, ⟨⟨_, rfl, .refl _, rfl⟩, trivial⟩⟩
    · rintro v4 hR16
      refine AWP.seq ?_
      refine AWP.region_lit ?_
      refine AL.cons rfl (AOp.move (.inl rfl) rfl rfl) ?_
      refine AL.cons rfl (AOp.move (.inr rfl) rfl rfl) ?_
      refine AL.nil ?_
      refine AWP.ret ?_
      have e17 : sOrphanInstances_M fu pw = some v4 := gdT hg1 (soR hR16 (rfl))
      have hz : v4 = r := Option.some.inj (e17.symm.trans H)
      subst hz
      exact Ends.mk (ps := [_]) (by first | exact .inr rfl | exact .inl rfl) ⟨rfl, trivial⟩ rfl (StLe.mk' (st' := ⟨[], []⟩) trivial rfl) (keeps_nil hC) (q := (.t (.row 2 (GInstanceRef.trs (v4))) : PV)) leA rfl ⟨rfl, rfl⟩
  · skip
    have e18 : sOrphanInstances_M fu pw = none := gdF hg1
    exact none_some H e18

end Go.Proofs.YtnakkelglbcecaaGreat

namespace Go.Proofs.YtnakkelglbcecaaGreat

/-- The index of the first element that meets p, counted from i; -1 if there is none. -/
def idxL {α : Type} (p : α → Bool) : List α → Nat → Int
  | [], _ => -1
  | a :: l, i => if p a then i else idxL p l (i + 1)
theorem idxL_step {α : Type} {p : α → Bool} {l : List α} {k : Nat} (h : k < l.length) : idxL p (l.drop k) k = if p l[k] then (k : Int) else idxL p (l.drop (k + 1)) (k + 1) := by
  rw [List.drop_eq_getElem_cons h, idxL]
end Go.Proofs.YtnakkelglbcecaaGreat

namespace Go.Proofs.YtnakkelglbcecaaGreat
open Go.RowKit Go.Proofs


set_option maxRecDepth 100000 in
set_option maxHeartbeats 1000000 in
theorem indexFunc_147 {α : Type} (tr : α → List Tr) (p : α → Bool) (xs : List α) (g : FuncId) (caps : Array Value) (hg : ∀ (args : Array Value) (w : World), (callFunc g args).run Tryz.prog w = .ok (.enter g args) w) (hl : ∀ x, (tr x).length = 2) (s : Value) (w : World)
    (H : ∀ x ∈ xs, ∀ cs w', Ext w w' → RepL w' (tr x) cs → Calls Tryz.prog g (#[.agg ⟨cs⟩] ++ caps) w' fun e w'' => e = .returned (.bool (p x)) ∧ Ext w' w'')
    (hs : Rep w (.row 2 (xs.map tr)) s) :
    Calls Tryz.prog 147 #[s, .func (.func g) #[] caps] w fun e w' => e = .returned (.int .i64 (idxL p xs 0)) ∧ Ext w w' := by
  obtain ⟨a, cap, rfl, hlc, hm⟩ := hs.shape
  unfold maxLen at hm
  rw [List.length_map] at hlc ⊢
  rw [List.length_map] at hs
  have HS := Lib.hid hs
  have HH := Lib.hid H
  have HL := Lib.hid hl
  clear hs H hl
  go_enter Tryz.func147, Tryz.ntmps147
  go_wp2_with fail
  go_loopw [5, 8] (fun _ i wr => ∃ k : Nat, k ≤ xs.length ∧ i = .int .i64 k ∧ Ext w wr ∧ Hid (idxL p xs 0 = idxL p (xs.drop k) k)) (fun _ i _ => xs.length - (intOf i).toNat)
  case atStart => exact ⟨0, Nat.zero_le _, rfl, .refl _, rfl⟩
  case round =>
    obtain ⟨k, hk, rfl, hw, HE⟩ := hrel
    by_cases hlt : k < xs.length
    · obtain ⟨b, off, cs, rfl, hb, hcs, hc⟩ := (HS.out.ext hw).at2 (k := k) (e := tr xs[k]) (by rw [List.getElem?_map, List.getElem?_eq_getElem hlt]; rfl)
      have HST := Lib.hid (idxL_step (p := p) hlt)
      have HM := Lib.hid (List.getElem_mem hlt)
      have HCS := Lib.hid hcs
      have HC := Lib.hid hc
      have HI : Hid ((Tryz.prog.info? 33).map (·.size) = some cs.length) := by rw [← hcs.length, HL.out]; exact isz33
      clear hcs hc
      go_wp2_with (refine wpList_load_rep rfl 33 (.tmp 14) rfl b (off + k * 2) rfl cs _ Tryz.underlying33 HI.out HC.out ?_)
      refine (HH.out _ HM.out _ _ hw HCS.out).mono ?_
      rintro e w1 ⟨rfl, hw1⟩
      have HW1 := Lib.hid (hw.trans hw1)
      clear hw1
      cases hp : p xs[k]
      · have HP := Lib.hid hp
        clear hp
        go_wp2_with fail
        go_roundw
        case rel => exact ⟨k + 1, by omega, by go_num, HW1.out, by rw [HE.out, HST.out, HP.out]; rfl⟩
        case measure => simp [intOf]; omega
      · have HP := Lib.hid hp
        clear hp
        go_wp2_with fail
        go_ret
        exact ⟨ret_int (by rw [HE.out, HST.out, HP.out]; rfl), HW1.out⟩
    · have hkl : k = xs.length := by omega
      go_wp2_with fail
      go_ret
      exact ⟨ret_int (by rw [HE.out, hkl, List.drop_length]; rfl), hw⟩


end Go.Proofs.YtnakkelglbcecaaGreat

namespace Go.Proofs.YtnakkelglbcecaaGreat
set_option linter.unusedSimpArgs false
set_option linter.unusedVariables false
open Go.RowKit Go.Proofs

theorem idxL_spec {α : Type} (p : α → Bool) : ∀ (l : List α) (i : Nat), (idxL p l i = -1 ∧ ∀ x ∈ l, p x = false) ∨ ∃ k, ∃ h : k < l.length, idxL p l i = ((i + k : Nat) : Int) ∧ p l[k] = true ∧ ∀ x ∈ l.take k, p x = false
  | [], i => .inl ⟨rfl, fun x hx => by simp at hx⟩
  | a :: l, i => by
    rw [idxL]
    cases ha : p a with
    | true => exact .inr ⟨0, by simp, by simp, by simpa using ha, by simp⟩
    | false =>
      rcases idxL_spec p l (i + 1) with ⟨h1, h2⟩ | ⟨k, hk, h1, h2, h3⟩
      · exact .inl ⟨by simpa using h1, fun x hx => by
          rcases List.mem_cons.1 hx with rfl | hx
          · exact ha
          · exact h2 x hx⟩
      · refine .inr ⟨k + 1, by simpa using hk, ?_, by simpa using h2, fun x hx => ?_⟩
        · simp only [Bool.false_eq_true, if_false]
          rw [h1]
          congr 1
          omega
        · rw [List.take_succ_cons] at hx
          rcases List.mem_cons.1 hx with rfl | hx
          · exact ha
          · exact h3 x hx
/-- j places have been looked at; what is kept of them, i elements, lies at the head; from place j on all is as it was. -/
structure DInv {α : Type} (p : α → Bool) (l : List α) (i j : Nat) (dk : List α) : Prop where
  len : dk.length = l.length
  lt : i < j
  low : dk.take i = (l.take j).filter (fun x => !p x)
  high : ∀ q, j ≤ q → dk[q]? = l[q]?
theorem DInv.start {α : Type} {p : α → Bool} {l : List α} {k : Nat} (hk : k < l.length) (ht : p l[k] = true) (hf : ∀ x ∈ l.take k, p x = false) : DInv p l k (k + 1) l := by
  refine ⟨rfl, by omega, ?_, fun _ _ => rfl⟩
  rw [List.take_succ_eq_append_getElem hk, List.filter_append, List.filter_eq_self.2 (fun x hx => by simp [hf x hx])]
  simp [ht]
theorem DInv.keep {α : Type} {p : α → Bool} {l dk : List α} {i j : Nat} (h : DInv p l i j dk) (hj : j < l.length) (hp : p l[j] = false) : DInv p l (i + 1) (j + 1) (dk.set i l[j]) := by
  have hl := h.len
  have hlt := h.lt
  refine ⟨by simp [hl], by omega, ?_, fun q hq => ?_⟩
  · rw [List.take_succ_eq_append_getElem hj, List.filter_append, ← h.low]
    rw [List.take_succ_eq_append_getElem (by simp; omega), List.take_set_of_le (Nat.le_refl _)]
    simp [hp]
  · rw [List.getElem?_set_ne (by omega)]
    exact h.high q (by omega)
theorem DInv.skip {α : Type} {p : α → Bool} {l dk : List α} {i j : Nat} (h : DInv p l i j dk) (hj : j < l.length) (hp : p l[j] = true) : DInv p l i (j + 1) dk := by
  have hlt := h.lt
  refine ⟨h.len, by omega, ?_, fun q hq => h.high q (by omega)⟩
  rw [List.take_succ_eq_append_getElem hj, List.filter_append, ← h.low]
  simp [hp]
/-- A head of an own slice. -/
theorem Own.head {w : World} {sz : Nat} {es : List (List Tr)} {a : Option Addr} {n cap i : Nat} {S : Nat → Prop} (h : Own w (.row sz es) (.slice a n cap) S) (hi : i ≤ es.length) : Own w (.row sz (es.take i)) (.slice a i cap) S := by
  cases h with
  | row c T h1 h2 h3 h4 h5 h6 =>
    have hg : ∀ q e, (es.take i)[q]? = some e → es[q]? = some e := fun q e he => by
      rw [List.getElem?_take] at he
      split at he
      · exact he
      · cases he
    have hl : (es.take i).length = i := by simp; omega
    have := Own.row (w := w) (sz := sz) (es := es.take i) (a := a) (cap := cap) (S := S) c T (by omega) h2 (fun hne => by
      obtain ⟨b, off, E, arr, ha, hob, hs, hc⟩ := h3 (fun h0 => hne (by rw [h0]; simp))
      exact ⟨b, off, E, arr, ha, hob, hs, fun q e he => hc q e (hg q e he)⟩) (fun q e he => h4 q e (hg q e he)) (fun q e he => h5 q e (hg q e he)) (fun q e he j d hd q' e' he' => h6 q e (hg q e he) j d hd q' e' (hg q' e' he'))
    rwa [hl] at this
theorem OwnL.flat {w0 w : World} {S : Nat → Prop} : ∀ {ts : List Tr} {cs : List Value}, RepL w0 ts cs → (∀ d ∈ ts, ∃ v, d = .leaf v) → OwnL w ts cs S
  | [], cs, h, _ => by
    obtain rfl := RepL.nil_eq h
    exact OwnL.nil _ _
  | t :: ts, cs, h, hf => by
    obtain ⟨v, rfl⟩ := hf t (by simp)
    cases cs with
    | nil => exact h.elim
    | cons c cs =>
      obtain ⟨rfl, hv⟩ := h.1.leaf_eq
      exact OwnL.cons_leaf hv (OwnL.flat h.2 fun d hd => hf d (List.mem_cons_of_mem _ hd))
theorem ref_flat (x : GInstanceRef) : ∀ d ∈ GInstanceRef.tr x, ∃ v, d = .leaf v := by
  obtain ⟨a, b⟩ := x
  intro d hd
  simp only [GInstanceRef.tr, List.mem_append, List.mem_singleton, List.not_mem_nil, or_false] at hd
  rcases hd with rfl | rfl
  · exact ⟨_, rfl⟩
  · exact ⟨_, rfl⟩
theorem run_clear_own {P : Program} (t e ty : TypeId) (z : Value) (ht : P.underlying t = some (.slice e)) (hv : ∀ w, (zeroValue e).run P w = .ok z w) (B off n c : Nat) (E : TypeId) (arr : Array Value) (w : World) (hob : OB w B E arr) (hn : 0 < n) (zs : List Value) (hz : (Builtin.zeroCells z.cells n).toList = zs)
    (hfit : off + zs.length ≤ arr.size) (h1 : ∀ v ∈ zs, v.oneCell' = true) : (Builtin.clear_ #[t] ty #[.slice (some ⟨B, off, none⟩) n c]).run P w = .ok (.tuple #[]) (w.setRow B (splice arr off zs)) := by
  have hst := run_storeCells_at P B off E zs 0 arr w hob (by simpa using hfit) h1
  simp only [Nat.add_zero] at hst
  obtain ⟨m, rfl⟩ : ∃ m, n = m + 1 := ⟨n - 1, by omega⟩
  simp [Builtin.clear_, run_underlying ht, hv, hz, hst, splice]
/-- A flat own slice whose cells are as they were. -/
theorem Own.cellsSame {w w' : World} {sz b off n cap : Nat} {es : List (List Tr)} {S : Nat → Prop} {E E' : TypeId} {arr arr' : Array Value} (h : Own w (.row sz es) (.slice (some ⟨b, off, none⟩) n cap) S) (hob : OB w b E arr) (hob' : OB w' b E' arr')
    (hc : ∀ q j, q < es.length → j < sz → arr'[off + q * sz + j]? = arr[off + q * sz + j]?) (hl : ∀ e ∈ es, e.length = sz) (hf : ∀ e ∈ es, ∀ d ∈ e, ∃ v, d = .leaf v) : Own w' (.row sz es) (.slice (some ⟨b, off, none⟩) n cap) S := by
  cases h with
  | row c T h1 h2 h3 h4 h5 h6 =>
    refine .row c (fun _ _ _ => False) h1 h2 (fun hne => ?_) (fun i e he j d hd => ?_) (fun _ _ _ _ _ _ x hx => hx.elim) (fun _ _ _ _ _ _ _ _ _ _ _ _ _ x hx => hx.elim)
    · obtain ⟨b1, off1, E1, arr1, ha, ho, hs, hcc⟩ := h3 hne
      obtain ⟨rfl, rfl⟩ : b = b1 ∧ off = off1 := by simpa using ha
      have he : arr1 = arr ∧ E1 = E := by
        have := ho.symm.trans hob
        simpa using this
      obtain ⟨rfl, rfl⟩ := he
      refine ⟨b, off, E', arr', rfl, hob', hs, fun i e he j d hd => ⟨?_, fun x hx => hx.elim⟩⟩
      have hle := hl e (List.mem_of_getElem? he)
      rw [hc i j (List.getElem?_eq_some_iff.1 he).1 (by rw [← hle]; exact (List.getElem?_eq_some_iff.1 hd).1)]
      exact (hcc i e he j d hd).1
    · obtain ⟨v, rfl⟩ := hf e (List.mem_of_getElem? he) d (List.mem_of_getElem? hd)
      obtain ⟨hv, hl⟩ := (h4 i e he j _ hd).rep.leaf_eq
      rw [hv]
      exact .leaf hl
theorem zeroCells2 (a b : Value) (n : Nat) : (Builtin.zeroCells #[a, b] n).toList.length = n * 2 ∧ ∀ v ∈ (Builtin.zeroCells #[a, b] n).toList, v = a ∨ v = b := by
  refine ⟨by simp [Builtin.zeroCells], fun v hv => ?_⟩
  simp only [Builtin.zeroCells, Array.toList_map, List.mem_map] at hv
  obtain ⟨i, _, rfl⟩ := hv
  have : i % 2 = 0 ∨ i % 2 = 1 := by omega
  rcases this with h | h <;> simp [h]

set_option maxRecDepth 100000 in
set_option maxHeartbeats 2000000 in
theorem deleteFunc_ref (l : List GInstanceRef) (p : GInstanceRef → Bool) (g : FuncId) (caps : Array Value) (hg : ∀ (args : Array Value) (w : World), (callFunc g args).run Tryz.prog w = .ok (.enter g args) w) (s : Value) (w : World) (S : Nat → Prop) (hS : ∀ x, S x → x < w.heap.size)
    (H : ∀ x ∈ l, ∀ cs W, Chg S w W → RepL W (GInstanceRef.tr x) cs → Calls Tryz.prog g (#[.agg ⟨cs⟩] ++ caps) W fun e W' => e = .returned (.bool (p x)) ∧ Ext W W')
    (hs : Own w (.row 2 (l.map GInstanceRef.tr)) s S) :
    Calls Tryz.prog 98 #[s, .func (.func g) #[] caps] w fun e w' => ∃ v, e = .returned v ∧ Chg S w w' ∧ Own w' (.row 2 ((l.filter (fun x => !p x)).map GInstanceRef.tr)) v S := by
  obtain ⟨a, cap, rfl, hlc, hm⟩ := hs.rep.shape
  unfold maxLen at hm
  rw [List.length_map] at hlc
  rw [List.length_map] at hs ⊢
  have HS := Lib.hid hs
  have HH := Lib.hid H
  have HSS := Lib.hid hS
  clear hs H hS
  go_enter Tryz.func98, Tryz.ntmps98
  go_wp2_with fail
  refine (indexFunc_147 GInstanceRef.tr p l g caps hg GInstanceRef.tr_len _ _ (fun x hx cs w' hw hr => HH.out x hx cs w' (.of_ext hw) hr) HS.out.rep).mono ?_
  rintro e w1 ⟨rfl, hw1⟩
  have HW1 := Lib.hid hw1
  clear hw1
  rcases idxL_spec p l 0 with ⟨e1, hall⟩ | ⟨k0, hk0, e1, ht, hall⟩
  · have HA := Lib.hid hall
    rw [e1]
    clear hall e1
    go_wp2_with fail
    go_ret
    refine ⟨_, rfl, .of_ext HW1.out, ?_⟩
    rw [List.filter_eq_self.2 (fun x hx => by simp [HA.out x hx])]
    exact HS.out.ext HW1.out
  · have HD := Lib.hid (DInv.start hk0 ht hall)
    rw [e1, Nat.zero_add]
    clear ht hall e1
    have hne : ¬ ((k0 : Int) = -1) := by omega
    go_wp2_with fail
    go_loopw [5, 6] (fun iv jv wr => ∃ (i j : Nat) (dk : List GInstanceRef), iv = .int .i64 i ∧ jv = .int .i64 j ∧ i < j ∧ j ≤ l.length ∧ Hid (DInv p l i j dk) ∧ Hid (Chg S w wr) ∧ Hid (Own wr (.row 2 (dk.map GInstanceRef.tr)) (.slice a l.length cap) S)) (fun _ jv _ => l.length - (intOf jv).toNat)
    case atStart => exact ⟨k0, k0 + 1, l, rfl, by go_num, by omega, by omega, HD.out, Chg.of_ext HW1.out, HS.out.ext HW1.out⟩
    case round =>
      obtain ⟨i, j, dk, rfl, rfl, hij, hjl, HD1, HC1, HO1⟩ := hrel
      by_cases hlt : j < l.length
      · have hdl := HD1.out.len
        have hjd : dk[j]? = some l[j] := by rw [HD1.out.high j (Nat.le_refl _)]; exact List.getElem?_eq_getElem hlt
        obtain ⟨b, off, cs, rfl, hb, hcs, hc⟩ := (HO1.out.rep).at2 (k := j) (e := GInstanceRef.tr l[j]) (by rw [List.getElem?_map, hjd]; rfl)
        have HM := Lib.hid (List.getElem_mem hlt)
        have HCS := Lib.hid hcs
        have HC := Lib.hid hc
        have HCL : Hid (cs.length = 2) := by rw [← hcs.length]; exact GInstanceRef.tr_len _
        have HI : Hid ((Tryz.prog.info? 33).map (·.size) = some cs.length) := by rw [HCL.out]; exact isz33
        have HDL := Lib.hid hdl
        clear hcs hc hdl hjd
        go_wp2_with (first
          | (refine wpList_load_rep rfl 33 (.tmp 24) rfl b (off + j * 2) rfl cs _ Tryz.underlying33 HI.out HC.out ?_)
          | (refine wpList_store_rep rfl 33 (.tmp 7) (.tmp 25) rfl wr.heap.size 0 rfl cs rfl 33 _ (OB.new wr _ _) HI.out (by rw [HCL.out]; exact Nat.le_refl _) HCS.out.one ?_; intro w2 hob hgb hzb; rw [splice_whole (by rw [HCL.out]; rfl)] at hob; have HOB := Lib.hid hob; have HXB := Lib.hid (grown_ext (.alloc (.refl wr) _) hgb (Nat.le_refl _)); clear hob hgb hzb)
          | (refine wpList_load_rep rfl 33 (.tmp 7) rfl wr.heap.size 0 rfl cs _ Tryz.underlying33 HI.out HOB.out.cells0 ?_))
        refine (HH.out _ HM.out cs w2 (HC1.out.trans (.of_ext HXB.out)) (HCS.out.ext HXB.out)).mono ?_
        rintro e w3 ⟨rfl, hw3⟩
        have HW3 := Lib.hid (HXB.out.trans hw3)
        have HOB3 := Lib.hid (HOB.out.ext hw3)
        have HC3 := Lib.hid (HC1.out.trans (.of_ext HW3.out))
        have HO3 := Lib.hid (HO1.out.ext HW3.out)
        clear hw3
        cases hp : p l[j] with
        | true =>
          have HP := Lib.hid hp
          clear hp
          go_wp2_with fail
          refine ⟨⟨_, _, _, _, _, _, _, _, _, _, _, _, _, _, _, _, _, _, _, _, _, _, _, ?rel, rfl⟩, ?measure⟩
          case rel => exact ⟨i, j + 1, dk, rfl, by go_num, by omega, by omega, HD1.out.skip hlt HP.out, HC3.out, HO3.out⟩
          case measure => simp [intOf]; omega
        | false =>
          have HP := Lib.hid hp
          clear hp
          have hid : i < dk.length := by have := HDL.out; omega
          obtain ⟨b2, off2, E0, arr0, cs0, T, hab, hob, hsb, how, hT, hcl, hfit, hcc, hback⟩ := HO3.out.focus (i := i) (e := GInstanceRef.tr dk[i]) (by rw [List.getElem?_map, List.getElem?_eq_getElem hid]; rfl) (by intro x hx; obtain ⟨y, _, rfl⟩ := List.mem_map.1 hx; exact GInstanceRef.tr_len _)
          obtain ⟨rfl, rfl⟩ : b = b2 ∧ off = off2 := by simpa using hab
          have HOBb := Lib.hid hob
          have HSB := Lib.hid hsb
          have HBK := Lib.hid hback
          have HFIT := Lib.hid (hfit (by omega))
          clear hob hsb how hT hcl hfit hcc hback hab
          go_wp2_with (first
            | (refine wpList_load_rep rfl 33 (.tmp 7) rfl wr.heap.size 0 rfl cs _ Tryz.underlying33 HI.out HOB3.out.cells0 ?_)
            | (refine wpList_store_rep rfl 33 (.tmp 33) (.tmp 32) rfl b (off + i * 2) rfl cs rfl E0 arr0 HOBb.out HI.out (by rw [HCL.out]; exact HFIT.out) HCS.out.one ?_; intro w4 hob4 hg4 hz4; have HOB4 := Lib.hid hob4; have HG4 := Lib.hid hg4; clear hob4 hg4 hz4))
          refine ⟨⟨_, _, _, _, _, _, _, _, _, _, _, _, _, _, _, _, _, _, _, _, _, _, _, ?rel, rfl⟩, ?measure⟩
          case rel =>
            refine ⟨i + 1, j + 1, dk.set i l[j], by go_num, by go_num, by omega, by omega, HD1.out.keep hlt HP.out, HC3.out.trans (Chg.of_grown HG4.out HSB.out), ?_⟩
            show Own _ _ _ _
            rw [List.map_set]
            exact HBK.out w4 cs _ (GInstanceRef.tr_len _) HOB4.out (OwnL.flat HCS.out (ref_flat _)) (fun x hx _ hne _ => HG4.out.block x hx (by simpa using hne)) HFIT.out
          case measure => simp [intOf]; omega
      · obtain rfl : j = l.length := by omega
        have hdl := HD1.out.len
        have hil : l.length - 1 < dk.length := by omega
        obtain ⟨b, off, E0, arr0, cs0, T, rfl, hob, hsb, how, hT, hcl, hfit, hcc, hback⟩ := HO1.out.focus (i := l.length - 1) (e := GInstanceRef.tr dk[l.length - 1]) (by rw [List.getElem?_map, List.getElem?_eq_getElem hil]; rfl) (by intro x hx; obtain ⟨y, _, rfl⟩ := List.mem_map.1 hx; exact GInstanceRef.tr_len _)
        have HOBb := Lib.hid hob
        have HSB := Lib.hid hsb
        have hfit2 := hfit (by omega)
        have hfz : off + i * 2 + (l.length - i) * 2 ≤ arr0.size := by omega
        have HDL := Lib.hid hdl
        clear hob hsb how hT hcl hfit hcc hback hil hfit2 hdl
        obtain ⟨hzl, hzm⟩ := zeroCells2 (.int .i64 0) (.int .i64 0) (l.length - i)
        have hz33 : ∀ w, (zeroValue 33).run Tryz.prog w = .ok (.agg #[.int .i64 0, .int .i64 0]) w := fun w => rfl
        have hcl : ∀ ty, (Builtin.clear_ #[66] ty #[.slice (some ⟨b, off + i * 2, none⟩) (l.length - i) (cap - i)]).run Tryz.prog wr = .ok (.tuple #[]) (wr.setRow b (splice arr0 (off + i * 2) (Builtin.zeroCells #[.int .i64 0, .int .i64 0] (l.length - i)).toList)) := fun ty =>
          run_clear_own 66 33 ty (.agg #[.int .i64 0, .int .i64 0]) Tryz.underlying66 hz33 b (off + i * 2) (l.length - i) (cap - i) E0 arr0 wr HOBb.out (by omega) _ rfl (by rw [hzl]; exact hfz) (fun v hv => by rcases hzm v hv with rfl | rfl <;> rfl)
        have HFZ := Lib.hid hfz
        have HZL := Lib.hid hzl
        clear hzm hz33 hfz hzl
        generalize (Builtin.zeroCells #[.int .i64 0, .int .i64 0] (l.length - i)).toList = zs at *
        go_wp2_with fail
        go_ret
        have hob5 : OB (wr.setRow b (splice arr0 (off + i * 2) zs)) b E0 (splice arr0 (off + i * 2) zs) := setRow_heap wr b arr0 _ E0 _ HOBb.out
        refine ⟨_, rfl, HC1.out.trans ?_, ?_⟩
        · exact ⟨rfl, rfl, rfl, by simp, fun k _ hk => setRow_other wr b k _ (fun e => hk (by rw [e]; exact HSB.out))⟩
        · have hd := HD1.out.low
          rw [List.take_length] at hd
          rw [← hd, List.map_take]
          have hh := HO1.out.head (i := i) (by have := HDL.out; simp; omega)
          have := HDL.out
          refine hh.cellsSame HOBb.out hob5 (fun q j hq hj => ?_) (fun e he => ?_) (fun e he => ?_)
          · have hq2 : q < i := by rw [List.length_take] at hq; omega
            rw [splice_get (by rw [HZL.out]; exact HFZ.out), if_pos (by omega)]
          · obtain ⟨y, _, rfl⟩ := List.mem_map.1 (List.mem_of_mem_take he)
            exact GInstanceRef.tr_len _
          · obtain ⟨y, _, rfl⟩ := List.mem_map.1 (List.mem_of_mem_take he)
            exact ref_flat _

end Go.Proofs.YtnakkelglbcecaaGreat

namespace Go.Proofs.YtnakkelglbcecaaGreat
open Go.RowKit

theorem orphanPlain_impl (x0 : GProgram) (x1 : GInstanceRef) (w : World) (c0 c1 : List Value) (h0 : RepL w x0.tr c0) (h1 : RepL w x1.tr c1) : Calls Tryz.prog 19 #[.agg ⟨c0⟩, .agg ⟨c1⟩] w fun e w' => e = .returned (.bool (GProgram.orphan x0 x1)) ∧ Ext w w' := by
  rw [GProgram.tr_cs] at h0
  rw [GInstanceRef.tr_cs] at h1
  exact AFun.plain (orphan_impl x0 x1) ⟨RV0.agg h0, RV0.agg h1, trivial⟩
end Go.Proofs.YtnakkelglbcecaaGreat

namespace Go.Proofs.YtnakkelglbcecaaGreat
set_option linter.unusedSimpArgs false
set_option linter.unusedVariables false
open Go.RowKit Go.Proofs

set_option maxRecDepth 100000 in
set_option maxHeartbeats 2000000 in
theorem orphanClosure (x0 : GProgram) (c0 : List Value) (B : Nat) (o : GInstanceRef) (cs : List Value) (w : World) (hob : OB w B 31 ⟨c0⟩) (h0 : RepL w x0.tr c0) (hr : RepL w o.tr cs) : Calls Tryz.prog 100 (#[.agg ⟨cs⟩] ++ #[.pointer (some ⟨B, 0, none⟩)]) w fun e w' => e = .returned (.bool (GProgram.orphan x0 o)) ∧ Ext w w' := by
  have HOB := Lib.hid hob
  have H0 := Lib.hid h0
  have HR := Lib.hid hr
  have HI0 : Hid ((Tryz.prog.info? 31).map (·.size) = some c0.length) := by rw [← h0.length, GProgram.tr_len]; exact isz31
  have HI1 : Hid ((Tryz.prog.info? 33).map (·.size) = some cs.length) := by rw [← hr.length, GInstanceRef.tr_len]; exact isz33
  clear hob h0 hr
  go_enter Tryz.func100, Tryz.ntmps100
  go_wp2_with (first
    | (refine wpList_load_rep rfl 31 (.tmp 1) rfl B 0 rfl c0 _ Tryz.underlying31 HI0.out (HOB.out.ext (.alloc (.refl _) _)).cells0 ?_)
    | (refine wpList_load_rep rfl 33 (.tmp 2) rfl w.heap.size 0 rfl cs _ Tryz.underlying33 HI1.out (OB.new w _ _).cells0 ?_))
  refine (orphanPlain_impl x0 o _ _ _ (H0.out.ext (.alloc (.refl _) _)) (HR.out.ext (.alloc (.refl _) _))).mono ?_
  rintro e w1 ⟨rfl, hw1⟩
  have HX := Lib.hid (Ext.trans (.alloc (.refl _) _) hw1)
  clear hw1
  go_wp2_with fail
  go_ret
  exact ⟨rfl, HX.out⟩

set_option maxRecDepth 100000 in
set_option maxHeartbeats 2000000 in
theorem orphansP_impl (x0 : GProgram) (w : World) (c0 : List Value) (h0 : RepL w x0.tr c0) (hb : x0.allRefs.length ≤ 68719476735) : Calls Tryz.prog 39 #[.agg ⟨c0⟩] w fun e w' => ∃ v, e = .returned v ∧ Ext w w' ∧ Own w' (.row 2 (GInstanceRef.trs (x0.allRefs.filter fun o => !GProgram.orphan x0 o))) v (Between w w') := by
  have H0 := Lib.hid h0
  have HI0 : Hid ((Tryz.prog.info? 31).map (·.size) = some c0.length) := by rw [← h0.length, GProgram.tr_len]; exact isz31
  clear h0
  go_enter Tryz.func39, Tryz.ntmps39
  go_wp2_with (refine wpList_load_rep rfl 31 (.tmp 1) rfl w.heap.size 0 rfl c0 _ Tryz.underlying31 HI0.out (OB.new w _ _).cells0 ?_)
  refine (allInstP x0 _ c0 (H0.out.ext (.alloc (.refl _) _)) hb).mono ?_
  rintro e w1 ⟨v, rfl, hw1, ho1⟩
  have HW1 := Lib.hid hw1
  have HO1 := Lib.hid ho1
  clear hw1 ho1
  go_wp2_with fail
  refine (deleteFunc_ref x0.allRefs (fun o => GProgram.orphan x0 o) 100 #[.pointer (some ⟨w.heap.size, 0, none⟩)] (run_callFunc_body Tryz.func100 (by kernel_rfl) (by kernel_rfl)) v w1 (Between (w.alloc _) w1) (fun x hx => hx.2) (fun o _ cs W hW hr => by
    have hx := Chg.ext HW1.out hW (fun x hx => hx.1)
    exact orphanClosure x0 c0 w.heap.size o cs W ((OB.new w _ _).ext hx) (H0.out.ext (Ext.trans (.alloc (.refl _) _) hx)) hr) (by rw [← GInstanceRef.trs_map]; exact HO1.out)).mono ?_
  rintro e w2 ⟨v2, rfl, hc2, ho2⟩
  have hx2 := Chg.ext HW1.out hc2 (fun x hx => hx.1)
  have HX2 := Lib.hid (Ext.trans (.alloc (.refl _) _) hx2)
  have hz : w1.heap.size ≤ w2.heap.size := hc2.size
  have HO2 := Lib.hid ho2
  clear hc2 hx2 ho2
  go_wp2_with fail
  go_ret
  refine ⟨_, rfl, HX2.out, ?_⟩
  rw [GInstanceRef.trs_map]
  exact HO2.out.mono fun x hx => ⟨by have h1 := hx.1; simp only [World.size_alloc] at h1; omega, by have h1 := hx.2; omega⟩
end Go.Proofs.YtnakkelglbcecaaGreat

namespace Go.Proofs.YtnakkelglbcecaaGreat
set_option linter.unusedSimpArgs false
set_option linter.unusedVariables false
attribute [local irreducible] lt
open Go.RowKit Go.WalkArith

theorem range_filter {α : Type} [Inhabited α] (q : α → Bool) : ∀ (l : List α) (k j : Nat), l.length - j = k → (List.range' j k).flatMap (fun i => bif q (atD l i) then [] else [atD l i]) = (l.drop j).filter (fun x => !q x)
  | l, 0, j, hk => by rw [List.drop_of_length_le (by omega)]; simp
  | l, k + 1, j, hk => by
    have hj : j < l.length := by omega
    rw [List.range'_succ, List.flatMap_cons, range_filter q l k (j + 1) (by omega), drop_atD hj, List.filter_cons]
    cases q (atD l j) <;> rfl
theorem sOrphans_fn (fu : Nat) (w : GProgram) (hw : w.allRefs.length ≤ 68719476735) : sOrphanInstances_M fu w = some (w.allRefs.filter fun o => !GProgram.orphan w o) := by
  unfold sOrphanInstances_M
  refine gdT hw ?_
  have hr := range_filter (GProgram.orphan w) w.allRefs w.allRefs.length 0 rfl
  rw [List.drop_zero] at hr
  have h := loopN_app0 (F := sOrphanInstances_F1 fu w) (n := w.allRefs.length) (g := fun i => bif GProgram.orphan w (atD w.allRefs i) then [] else [atD w.allRefs i]) (M := 68719476736) (v := []) (fun i v hi hv => by
    unfold sOrphanInstances_F1
    cases hq : GProgram.orphan w (atD w.allRefs i) with
    | true => exact swF rfl (by rw [cond_true, List.append_nil])
    | false =>
      rw [hq] at hv
      exact swT rfl (gdT hv rfl)) (by
    rw [hr, List.length_nil, Nat.zero_add]
    have := List.length_filter_le (fun o => !GProgram.orphan w o) w.allRefs
    omega)
  rw [hr] at h
  exact soR h rfl
theorem orphansP_spec (x0 : GProgram) (w : World) (c0 : List Value) (h0 : RepL w x0.tr c0) (hb : x0.allRefs.length ≤ 68719476735) : Calls Tryz.prog 38 #[.agg ⟨c0⟩] w fun e w' => ∃ v, e = .returned v ∧ Ext w w' ∧ Rep w' (.row 2 (GInstanceRef.trs (x0.allRefs.filter fun o => !GProgram.orphan x0 o))) v := by
  rw [GProgram.tr_cs] at h0
  exact (sOrphanInstances_ok 0 x0 _ (sOrphans_fn 0 x0 hb)).plainR (RVL0.cons (RV0.agg h0) RVL0.nil)
end Go.Proofs.YtnakkelglbcecaaGreat
