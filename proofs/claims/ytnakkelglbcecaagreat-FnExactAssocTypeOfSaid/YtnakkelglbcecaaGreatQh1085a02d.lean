/- Words, rules and walks of several kinds, laid together: PmInst, MaAssoc, AccT, CopyTy, LookP, ApplyTy, Del, PmK, MaInst, Cnt, PlInst, Cands, AssocP, MaCands, PmFind, PmHome, PmOrph, MaOrphs, PmOrphZ, Orphs, PlOrphs, PlCands, MkB, PlHead, PlCandF, RepX, PlAssoc, AssocBulk, MarksT. No conditions but those that each theorem states. -/
import Derived.Test.YtnakkelglbcecaaGreatQh8608bef2
import Derived.Test.YtnakkelglbcecaaGreatQh71482ac5
import Derived.Test.YtnakkelglbcecaaGreatQhcc049c1e
import Derived.Deep.AppendLies
import Derived.Test.YtnakkelglbcecaaGreatQhf9b1f5bd
import Derived.WalkArith
import Derived.Test.YtnakkelglbcecaaGreatQh103e0d01
set_option linter.unusedSimpArgs false
set_option linter.unusedVariables false
namespace Go.Proofs.YtnakkelglbcecaaGreat
open Go.RowKit Go.Proofs
set_option linter.unusedSimpArgs false
set_option linter.unusedVariables false


def GProgram.instAt (w : GProgram) (o : GInstanceRef) : Option GInstance := if 0 ≤ o.gPackage ∧ 0 ≤ o.gAt then (w.gPackages[o.gPackage.toNat]?).bind (fun p => p.gInstances[o.gAt.toNat]?) else none
def GInstance.zero : GInstance := (.mk ⟨#[]⟩ [] (.mk 0 ⟨#[]⟩ []) [] false false (.mk 0 ⟨#[]⟩ []) [])
def oInst (o : Option GInstance) : GInstance := match o with | some x => x | none => GInstance.zero
abbrev optInst (o : Option GInstance) : PV := .tup [GInstance.pv (oInst o), .t (.leaf (.bool o.isSome))]
theorem optInst_some {o : Option GInstance} {x : GInstance} (h : o = some x) : PV.tup [GInstance.pv x, .t (.leaf (.bool true))] = optInst o := by rw [h]; rfl
theorem optInst_none {o : Option GInstance} (h : o = none) : PV.tup [GInstance.pv GInstance.zero, .t (.leaf (.bool false))] = optInst o := by rw [h]; rfl
theorem instAt_hit {w : GProgram} {o : GInstanceRef} (h0 : 0 ≤ o.gPackage) (h1 : 0 ≤ o.gAt) (hp : o.gPackage.toNat < w.gPackages.length) (hi : o.gAt.toNat < (w.gPackages[o.gPackage.toNat]).gInstances.length) : w.instAt o = some ((w.gPackages[o.gPackage.toNat]).gInstances[o.gAt.toNat]) := by
  simp [GProgram.instAt, h0, h1, List.getElem?_eq_getElem hp, List.getElem?_eq_getElem hi]
theorem instAt_m1 {w : GProgram} {o : GInstanceRef} (h : o.gPackage < 0 ∨ (w.gPackages.length : Int) ≤ o.gPackage) : w.instAt o = none := by
  unfold GProgram.instAt
  split
  · rw [List.getElem?_eq_none (by omega)]; rfl
  · rfl
theorem instAt_m2 {w : GProgram} {o : GInstanceRef} (hp : o.gPackage.toNat < w.gPackages.length) (h : o.gAt < 0 ∨ ((w.gPackages[o.gPackage.toNat]).gInstances.length : Int) ≤ o.gAt) : w.instAt o = none := by
  unfold GProgram.instAt
  split
  · rw [List.getElem?_eq_getElem hp, Option.bind_some, List.getElem?_eq_none (by omega)]
  · rfl

set_option maxRecDepth 100000 in
set_option maxHeartbeats 4000000 in
theorem in_ok (x : Int) (lo : Int) (hi : Int) : AFun Tryz.prog 137 [.t (.leaf (.int .i64 (x))), .t (.leaf (.int .i64 (lo))), .t (.leaf (.int .i64 (hi)))] (.t (.leaf (.bool (decide ((x : Int) ≥ lo) && decide ((x : Int) ≤ hi))))) := by
  refine ACalls.intro Tryz.func137 rfl (by first | decide | (simp; done) | (simp; decide)) ?_; intro C hC
  refine AWP.seq ?_; refine AWP.region_lit ?_; refine AL.cons rfl (AOp.move (.inr rfl) rfl rfl) ?_; refine AL.nil ?_; refine AWP.seq ?_; refine AWP.region_lit ?_; refine AL.cons rfl (AOp.move (.inl rfl) rfl rfl) ?_; refine AL.cons rfl (AOp.move (.inl rfl) rfl rfl) ?_; refine AL.cons rfl (AOp.geq rfl rfl rfl rfl) ?_; refine AL.cons rfl (AOp.move (.inl rfl) rfl rfl) ?_; refine AL.splitB 10 rfl (fun g1 => ?_) (fun g1 => ?_)
  · have g1b := g1
    try simp only [Bool.and_eq_true, Bool.or_eq_true, Bool.and_eq_false_iff, Bool.or_eq_false_iff, decide_eq_true_eq, decide_eq_false_iff_not, Bool.not_eq_true', Bool.not_eq_false', Bool.not_eq_eq_eq_not, Bool.not_true, Bool.not_false, ge_iff_le, gt_iff_lt, Int.not_lt, Int.not_le] at g1b
    refine AL.cons_gv rfl rfl rfl g1 (AOp.move (.inl rfl) rfl rfl) ?_; refine AL.cons_gv rfl rfl rfl g1 (AOp.move (.inl rfl) rfl rfl) ?_; refine AL.cons_gv rfl rfl rfl g1 (AOp.leq rfl rfl rfl rfl) ?_; refine AL.cons rfl (AOp.pickT rfl rfl rfl g1 rfl) ?_; refine AL.cons rfl (AOp.move (.inr rfl) rfl rfl) ?_; refine AL.nil ?_; refine AWP.ret ?_; exact Ends.mk (ps := [_]) (.inr rfl) ⟨rfl, trivial⟩ rfl (StLe.mk' (st' := ⟨[], []⟩) trivial rfl) (keeps_nil hC) (q := (.t (.leaf (.bool (decide ((x : Int) ≤ hi)))) : PV)) leA rfl ⟨by first | (simp_all; done) | (simp_all; omega), rfl⟩
  · have g1b := g1
    try simp only [Bool.and_eq_true, Bool.or_eq_true, Bool.and_eq_false_iff, Bool.or_eq_false_iff, decide_eq_true_eq, decide_eq_false_iff_not, Bool.not_eq_true', Bool.not_eq_false', Bool.not_eq_eq_eq_not, Bool.not_true, Bool.not_false, ge_iff_le, gt_iff_lt, Int.not_lt, Int.not_le] at g1b
    refine AL.skip_v rfl rfl rfl g1 rfl ?_; refine AL.skip_v rfl rfl rfl g1 rfl ?_; refine AL.skip_v rfl rfl rfl g1 rfl ?_; refine AL.cons rfl (AOp.pickF rfl rfl rfl g1 rfl) ?_; refine AL.cons rfl (AOp.move (.inr rfl) rfl rfl) ?_; refine AL.nil ?_; refine AWP.ret ?_; exact Ends.mk (ps := [_]) (.inr rfl) ⟨rfl, trivial⟩ rfl (StLe.mk' (st' := ⟨[], []⟩) trivial rfl) (keeps_nil hC) (q := (.t (.leaf (.bool (false))) : PV)) leA rfl ⟨by first | (simp_all; done) | (simp_all; omega), rfl⟩

set_option maxRecDepth 100000 in
set_option maxHeartbeats 4000000 in
theorem inst_impl (w : GProgram) (o : GInstanceRef) : AFun Tryz.prog 81 [(GProgram.pv w), (GInstanceRef.pv o)] (.tup [(GInstance.pv (oInst (GProgram.instAt w o))), .t (.leaf (.bool ((GProgram.instAt w o).isSome)))]) := by
  refine ACalls.intro Tryz.func81 rfl (by first | decide | (simp; done) | (simp; decide)) ?_; intro C hC
  refine AWP.seq ?_; refine AWP.region_lit ?_; refine AL.cons rfl (AOp.box (cs := [.t (.row 6 (GPackage.trs (w.gPackages)))]) rfl rfl rfl rfl rfl) ?_; refine AL.cons rfl (AOp.box (cs := [.t (.leaf (.int .i64 (o.gPackage))), .t (.leaf (.int .i64 (o.gAt)))]) rfl rfl rfl rfl rfl) ?_; refine AL.cons rfl (AOp.alloc rfl rfl zr113) ?_; refine AL.cons rfl (AOp.move (.inr rfl) rfl rfl) ?_; refine AL.nil ?_; refine AWP.seq ?_; refine AWP.seq ?_
  rcases bool2 (decide ((o.gPackage : Int) < 0)) with g1 | g1
  · have g1b := g1
    try simp only [Bool.and_eq_true, Bool.or_eq_true, Bool.and_eq_false_iff, Bool.or_eq_false_iff, decide_eq_true_eq, decide_eq_false_iff_not, Bool.not_eq_true', Bool.not_eq_false', Bool.not_eq_eq_eq_not, Bool.not_true, Bool.not_false, ge_iff_le, gt_iff_lt, Int.not_lt, Int.not_le] at g1b
    refine AWP.drawnL ⟨_, _, fun _ _ => (⟨[some ⟨31, [.t (.row 6 (GPackage.trs (w.gPackages)))]⟩, some ⟨33, [.t (.leaf (.int .i64 (o.gPackage))), .t (.leaf (.int .i64 (o.gAt)))]⟩, some ⟨113, [.t (.leaf (.string (⟨#[]⟩))), .nil, .t (.leaf (.int .i64 (0))), .t (.leaf (.string (⟨#[]⟩))), .nil, .nil, .t (.leaf (.bool (false))), .t (.leaf (.bool (false))), .t (.leaf (.int .i64 (0))), .t (.leaf (.string (⟨#[]⟩))), .nil, .nil]⟩], []⟩ : Sto), fun q' => ([some (.ptr 1 0), some (.t (.leaf (.int .i64 (o.gPackage)))), some (.t (.leaf (.bool (decide ((o.gPackage : Int) < 0))))), some (.t (.leaf (.bool (decide ((o.gPackage : Int) < 0))))), none, none, none, none, none, none, some (.t (.leaf (.bool (true)))), some (.t (.leaf (.bool (true)))), none, none, none, some (.t (.leaf (.bool (true)))), some (.t (.leaf (.bool (true)))), none, none, none, none, none, none, none, none, none, none, none, some (.t (.leaf (.bool (true))))] : List (Option PV)).getD q' none, fun q' => ([.q 0 0, .q 0 0, .q 0 0, .q 0 0, .q 0 0, .q 0 0, .q 0 0, .q 0 0, .q 0 0, .q 0 0, .q 0 0, .q 0 0, .q 0 0, .q 0 0, .q 0 0, .q 0 0, .q 0 0, .q 0 0, .q 0 0, .q 0 0, .q 0 0, .q 0 0, .q 0 0, .q 0 0, .q 0 0, .q 0 0, .q 0 0, .q 0 0, .q 0 0] : List DK).getD q' (.q 0 0), [], none, fun q' => ([[(3, none)], [(6, some 0)], [(7, some 1)], [(8, some 2)], [], [], [], [], [], [], [(9, some 3)], [(16, some 10)], [], [], [], [(17, some 11)], [(21, some 15)], [], [], [], [], [], [], [], [], [], [], [], [(22, some 16)]] : List (List (Nat × Option Nat))).getD q' []⟩ rfl mixed (by kernel_rfl) rfl rfl ⟨?_, ?_, ?_, ?_, ?_, ?_, ?_, ?_, ?_, ?_, ?_, ?_, ?_, ?_, ?_, ?_, ?_, ?_, ?_, ?_, ?_, ?_, ?_, ?_, ?_, ?_, ?_, ?_, ?_, trivial⟩ rfl ?_
    · exact Draw.step.q1 0 rfl rfl fun s' bb hs hl => ⟨_, rfl, AOp.fieldPtr (k := 1) (d := 0) (e := 0) rfl rfl (hl 3 none _ (.head _) rfl) fo33_0⟩
    · exact Draw.step.q1 0 rfl rfl fun s' bb hs hl => ⟨_, rfl, AOp.loadPtr1 rfl rfl (hl 6 (some 0) _ (.head _) rfl) (by rw [hs]; rfl) sh3 rfl⟩
    · exact Draw.step.q1 0 rfl rfl fun s' bb hs hl => ⟨_, rfl, AOp.lss rfl rfl (hl 7 (some 1) _ (.head _) rfl) rfl⟩
    · exact Draw.step.q1 0 rfl rfl fun s' bb hs hl => ⟨_, rfl, AOp.move (.inl rfl) rfl (hl 8 (some 2) _ (.head _) rfl)⟩
    · exact .inr ⟨(congrArg (fun b => some (b == false)) g1), rfl, ⟨_, _, rfl⟩, fun d hd => by cases hd; rfl⟩
    · exact .inr ⟨(congrArg (fun b => some (b == false)) g1), rfl, ⟨_, _, rfl⟩, fun d hd => by cases hd; rfl⟩
    · exact .inr ⟨(congrArg (fun b => some (b == false)) g1), rfl, ⟨_, _, rfl⟩, fun d hd => by cases hd; rfl⟩
    · exact .inr ⟨(congrArg (fun b => some (b == false)) g1), rfl, ⟨_, _, rfl⟩, fun d hd => by cases hd; rfl⟩
    · exact .inr ⟨(congrArg (fun b => some (b == false)) g1), rfl, ⟨_, _, rfl⟩, fun d hd => by cases hd; rfl⟩
    · exact .inr ⟨(congrArg (fun b => some (b == false)) g1), rfl, ⟨_, _, rfl⟩, fun d hd => by cases hd; rfl⟩
    · exact Draw.step.q1 0 rfl rfl fun s' bb hs hl => ⟨_, rfl, AOp.pickT rfl rfl (hl 9 (some 3) _ (.head _) rfl) g1 rfl⟩
    · exact Draw.step.q1 0 rfl rfl fun s' bb hs hl => ⟨_, rfl, AOp.move (.inl rfl) rfl (hl 16 (some 10) _ (.head _) rfl)⟩
    · exact .inr ⟨(congrArg (fun b => some (b == false)) (rfl : true = _)), rfl, ⟨_, _, rfl⟩, fun d hd => by cases hd; rfl⟩
    · exact .inr ⟨(congrArg (fun b => some (b == false)) (rfl : true = _)), rfl, ⟨_, _, rfl⟩, fun d hd => by cases hd; rfl⟩
    · exact .inr ⟨(congrArg (fun b => some (b == false)) (rfl : true = _)), rfl, ⟨_, _, rfl⟩, fun d hd => by cases hd; rfl⟩
    · exact Draw.step.q1 0 rfl rfl fun s' bb hs hl => ⟨_, rfl, AOp.pickT rfl rfl (hl 17 (some 11) _ (.head _) rfl) rfl rfl⟩
    · exact Draw.step.q1 0 rfl rfl fun s' bb hs hl => ⟨_, rfl, AOp.move (.inl rfl) rfl (hl 21 (some 15) _ (.head _) rfl)⟩
    · exact .inr ⟨(congrArg (fun b => some (b == false)) (rfl : true = _)), rfl, ⟨_, _, rfl⟩, fun d hd => by cases hd; rfl⟩
    · exact .inr ⟨(congrArg (fun b => some (b == false)) (rfl : true = _)), rfl, ⟨_, _, rfl⟩, fun d hd => by cases hd; rfl⟩
    · exact .inr ⟨(congrArg (fun b => some (b == false)) (rfl : true = _)), rfl, ⟨_, _, rfl⟩, fun d hd => by cases hd; rfl⟩
    · exact .inr ⟨(congrArg (fun b => some (b == false)) (rfl : true = _)), rfl, ⟨_, _, rfl⟩, fun d hd => by cases hd; rfl⟩
    · exact .inr ⟨(congrArg (fun b => some (b == false)) (rfl : true = _)), rfl, ⟨_, _, rfl⟩, fun d hd => by cases hd; rfl⟩
    · exact .inr ⟨(congrArg (fun b => some (b == false)) (rfl : true = _)), rfl, ⟨_, _, rfl⟩, fun d hd => by cases hd; rfl⟩
    · exact .inr ⟨(congrArg (fun b => some (b == false)) (rfl : true = _)), rfl, ⟨_, _, rfl⟩, fun d hd => by cases hd; rfl⟩
    · exact .inr ⟨(congrArg (fun b => some (b == false)) (rfl : true = _)), rfl, ⟨_, _, rfl⟩, fun d hd => by cases hd; rfl⟩
    · exact .inr ⟨(congrArg (fun b => some (b == false)) (rfl : true = _)), rfl, ⟨_, _, rfl⟩, fun d hd => by cases hd; rfl⟩
    · exact .inr ⟨(congrArg (fun b => some (b == false)) (rfl : true = _)), rfl, ⟨_, _, rfl⟩, fun d hd => by cases hd; rfl⟩
    · exact .inr ⟨(congrArg (fun b => some (b == false)) (rfl : true = _)), rfl, ⟨_, _, rfl⟩, fun d hd => by cases hd; rfl⟩
    · exact Draw.step.q1 0 rfl rfl fun s' bb hs hl => ⟨_, rfl, AOp.pickT rfl rfl (hl 22 (some 16) _ (.head _) rfl) rfl rfl⟩
    refine AWP.cond rfl (fun h2 => ?_) (fun h2 => ?_)
    · have h2b := h2
      try simp only [Bool.and_eq_true, Bool.or_eq_true, Bool.and_eq_false_iff, Bool.or_eq_false_iff, decide_eq_true_eq, decide_eq_false_iff_not, Bool.not_eq_true', Bool.not_eq_false', Bool.not_eq_eq_eq_not, Bool.not_true, Bool.not_false, ge_iff_le, gt_iff_lt, Int.not_lt, Int.not_le] at h2b
      refine AWP.seq ?_; refine AWP.region_lit ?_; refine AL.cons rfl (AOp.build rfl rfl zr113 pl113 rfl rfl) ?_; refine AL.cons rfl (AOp.storePtr (cs := [.t (.leaf (.string (⟨#[]⟩))), .nil, .t (.leaf (.int .i64 (0))), .t (.leaf (.string (⟨#[]⟩))), .nil, .nil, .t (.leaf (.bool (false))), .t (.leaf (.bool (false))), .t (.leaf (.int .i64 (0))), .t (.leaf (.string (⟨#[]⟩))), .nil, .nil]) (ds := [.t (.leaf (.string (⟨#[]⟩))), .nil, .t (.leaf (.int .i64 (0))), .t (.leaf (.string (⟨#[]⟩))), .nil, .nil, .t (.leaf (.bool (false))), .t (.leaf (.bool (false))), .t (.leaf (.int .i64 (0))), .t (.leaf (.string (⟨#[]⟩))), .nil, .nil]) rfl rfl rfl rfl rfl rfl rfl sz113 (Nat.le_of_ble_eq_true rfl) rfl) ?_; refine AL.cons rfl (AOp.move (.inr rfl) rfl rfl) ?_; refine AL.nil ?_; refine AWP.ret ?_; exact Ends.mk (ps := [_, _]) (.inr rfl) ⟨⟨_, _, _, rfl, rfl, sh113, rfl, rfl⟩, rfl, trivial⟩ rfl (StLe.mk' (st' := ⟨[], []⟩) trivial rfl) (keeps_nil hC) (q := PV.tup [GInstance.pv GInstance.zero, .t (.leaf (.bool (false)))]) leA rfl ⟨by exact optInst_none (by first | exact instAt_m1 (by omega) | exact instAt_m2 (by omega) (by omega)), rfl⟩
    · exact absurd (h2.symm.trans rfl) (by decide)
  · have g1b := g1
    try simp only [Bool.and_eq_true, Bool.or_eq_true, Bool.and_eq_false_iff, Bool.or_eq_false_iff, decide_eq_true_eq, decide_eq_false_iff_not, Bool.not_eq_true', Bool.not_eq_false', Bool.not_eq_eq_eq_not, Bool.not_true, Bool.not_false, ge_iff_le, gt_iff_lt, Int.not_lt, Int.not_le] at g1b
    rcases bool2 (decide ((o.gPackage : Int) ≥ ((w.gPackages.length : Nat) : Int))) with g3 | g3
    · have g3b := g3
      try simp only [Bool.and_eq_true, Bool.or_eq_true, Bool.and_eq_false_iff, Bool.or_eq_false_iff, decide_eq_true_eq, decide_eq_false_iff_not, Bool.not_eq_true', Bool.not_eq_false', Bool.not_eq_eq_eq_not, Bool.not_true, Bool.not_false, ge_iff_le, gt_iff_lt, Int.not_lt, Int.not_le] at g3b
      refine AWP.drawnL ⟨_, _, fun _ _ => (⟨[some ⟨31, [.t (.row 6 (GPackage.trs (w.gPackages)))]⟩, some ⟨33, [.t (.leaf (.int .i64 (o.gPackage))), .t (.leaf (.int .i64 (o.gAt)))]⟩, some ⟨113, [.t (.leaf (.string (⟨#[]⟩))), .nil, .t (.leaf (.int .i64 (0))), .t (.leaf (.string (⟨#[]⟩))), .nil, .nil, .t (.leaf (.bool (false))), .t (.leaf (.bool (false))), .t (.leaf (.int .i64 (0))), .t (.leaf (.string (⟨#[]⟩))), .nil, .nil]⟩], []⟩ : Sto), fun q' => ([some (.ptr 1 0), some (.t (.leaf (.int .i64 (o.gPackage)))), some (.t (.leaf (.bool (decide ((o.gPackage : Int) < 0))))), some (.t (.leaf (.bool (decide ((o.gPackage : Int) < 0))))), some (.ptr 1 0), some (.t (.leaf (.int .i64 (o.gPackage)))), some (.ptr 0 0), some (.t (.row 6 (GPackage.trs (w.gPackages)))), some (.t (.leaf (.int .i64 (((w.gPackages.length : Nat) : Int))))), some (.t (.leaf (.bool (decide ((o.gPackage : Int) ≥ ((w.gPackages.length : Nat) : Int)))))), some (.t (.leaf (.bool (decide ((o.gPackage : Int) ≥ ((w.gPackages.length : Nat) : Int)))))), some (.t (.leaf (.bool (decide ((o.gPackage : Int) ≥ ((w.gPackages.length : Nat) : Int)))))), none, none, none, some (.t (.leaf (.bool (true)))), some (.t (.leaf (.bool (true)))), none, none, none, none, none, none, none, none, none, none, none, some (.t (.leaf (.bool (true))))] : List (Option PV)).getD q' none, fun q' => ([.q 0 0, .q 0 0, .q 0 0, .q 0 0, .q 0 0, .q 0 0, .q 0 0, .q 0 0, .q 0 0, .q 0 0, .q 0 0, .q 0 0, .q 0 0, .q 0 0, .q 0 0, .q 0 0, .q 0 0, .q 0 0, .q 0 0, .q 0 0, .q 0 0, .q 0 0, .q 0 0, .q 0 0, .q 0 0, .q 0 0, .q 0 0, .q 0 0, .q 0 0] : List DK).getD q' (.q 0 0), [], none, fun q' => ([[(3, none)], [(6, some 0)], [(7, some 1)], [(8, some 2)], [(3, none)], [(10, some 4)], [(2, none)], [(12, some 6)], [(13, some 7)], [(11, some 5), (14, some 8)], [(9, some 3), (15, some 9)], [(16, some 10)], [], [], [], [(17, some 11)], [(21, some 15)], [], [], [], [], [], [], [], [], [], [], [], [(22, some 16)]] : List (List (Nat × Option Nat))).getD q' []⟩ rfl mixed (by kernel_rfl) rfl rfl ⟨?_, ?_, ?_, ?_, ?_, ?_, ?_, ?_, ?_, ?_, ?_, ?_, ?_, ?_, ?_, ?_, ?_, ?_, ?_, ?_, ?_, ?_, ?_, ?_, ?_, ?_, ?_, ?_, ?_, trivial⟩ rfl ?_
      · exact Draw.step.q1 0 rfl rfl fun s' bb hs hl => ⟨_, rfl, AOp.fieldPtr (k := 1) (d := 0) (e := 0) rfl rfl (hl 3 none _ (.head _) rfl) fo33_0⟩
      · exact Draw.step.q1 0 rfl rfl fun s' bb hs hl => ⟨_, rfl, AOp.loadPtr1 rfl rfl (hl 6 (some 0) _ (.head _) rfl) (by rw [hs]; rfl) sh3 rfl⟩
      · exact Draw.step.q1 0 rfl rfl fun s' bb hs hl => ⟨_, rfl, AOp.lss rfl rfl (hl 7 (some 1) _ (.head _) rfl) rfl⟩
      · exact Draw.step.q1 0 rfl rfl fun s' bb hs hl => ⟨_, rfl, AOp.move (.inl rfl) rfl (hl 8 (some 2) _ (.head _) rfl)⟩
      · exact Draw.step.q1 0 (congrArg (fun b => some (b == false)) g1) rfl fun s' bb hs hl => ⟨_, rfl, AOp.fieldPtr (k := 1) (d := 0) (e := 0) rfl rfl (hl 3 none _ (.head _) rfl) fo33_0⟩
      · exact Draw.step.q1 0 (congrArg (fun b => some (b == false)) g1) rfl fun s' bb hs hl => ⟨_, rfl, AOp.loadPtr1 rfl rfl (hl 10 (some 4) _ (.head _) rfl) (by rw [hs]; rfl) sh3 rfl⟩
      · exact Draw.step.q1 0 (congrArg (fun b => some (b == false)) g1) rfl fun s' bb hs hl => ⟨_, rfl, AOp.fieldPtr (k := 0) (d := 0) (e := 0) rfl rfl (hl 2 none _ (.head _) rfl) fo31_0⟩
      · exact Draw.step.q1 0 (congrArg (fun b => some (b == false)) g1) rfl fun s' bb hs hl => ⟨_, rfl, AOp.loadPtr1 rfl rfl (hl 12 (some 6) _ (.head _) rfl) (by rw [hs]; rfl) sh29 rfl⟩
      · exact Draw.step.q1 0 (congrArg (fun b => some (b == false)) g1) rfl fun s' bb hs hl => ⟨_, rfl, AOp.lenN rfl rfl (hl 13 (some 7) _ (.head _) rfl) rfl el29 (GPackage.trs_len _)⟩
      · exact Draw.step.q1 0 (congrArg (fun b => some (b == false)) g1) rfl fun s' bb hs hl => ⟨_, rfl, AOp.geq rfl rfl (hl 11 (some 5) _ (.head _) rfl) (hl 14 (some 8) _ (.tail _ (.head _)) rfl)⟩
      · exact Draw.step.q1 0 rfl rfl fun s' bb hs hl => ⟨_, rfl, AOp.pickF rfl rfl (hl 9 (some 3) _ (.head _) rfl) g1 (hl 15 (some 9) _ (.tail _ (.head _)) rfl)⟩
      · exact Draw.step.q1 0 rfl rfl fun s' bb hs hl => ⟨_, rfl, AOp.move (.inl rfl) rfl (hl 16 (some 10) _ (.head _) rfl)⟩
      · exact .inr ⟨(congrArg (fun b => some (b == false)) g3), rfl, ⟨_, _, rfl⟩, fun d hd => by cases hd; rfl⟩
      · exact .inr ⟨(congrArg (fun b => some (b == false)) g3), rfl, ⟨_, _, rfl⟩, fun d hd => by cases hd; rfl⟩
      · exact .inr ⟨(congrArg (fun b => some (b == false)) g3), rfl, ⟨_, _, rfl⟩, fun d hd => by cases hd; rfl⟩
      · exact Draw.step.q1 0 rfl rfl fun s' bb hs hl => ⟨_, rfl, AOp.pickT rfl rfl (hl 17 (some 11) _ (.head _) rfl) g3 rfl⟩
      · exact Draw.step.q1 0 rfl rfl fun s' bb hs hl => ⟨_, rfl, AOp.move (.inl rfl) rfl (hl 21 (some 15) _ (.head _) rfl)⟩
      · exact .inr ⟨(congrArg (fun b => some (b == false)) (rfl : true = _)), rfl, ⟨_, _, rfl⟩, fun d hd => by cases hd; rfl⟩
      · exact .inr ⟨(congrArg (fun b => some (b == false)) (rfl : true = _)), rfl, ⟨_, _, rfl⟩, fun d hd => by cases hd; rfl⟩
      · exact .inr ⟨(congrArg (fun b => some (b == false)) (rfl : true = _)), rfl, ⟨_, _, rfl⟩, fun d hd => by cases hd; rfl⟩
      · exact .inr ⟨(congrArg (fun b => some (b == false)) (rfl : true = _)), rfl, ⟨_, _, rfl⟩, fun d hd => by cases hd; rfl⟩
      · exact .inr ⟨(congrArg (fun b => some (b == false)) (rfl : true = _)), rfl, ⟨_, _, rfl⟩, fun d hd => by cases hd; rfl⟩
      · exact .inr ⟨(congrArg (fun b => some (b == false)) (rfl : true = _)), rfl, ⟨_, _, rfl⟩, fun d hd => by cases hd; rfl⟩
      · exact .inr ⟨(congrArg (fun b => some (b == false)) (rfl : true = _)), rfl, ⟨_, _, rfl⟩, fun d hd => by cases hd; rfl⟩
      · exact .inr ⟨(congrArg (fun b => some (b == false)) (rfl : true = _)), rfl, ⟨_, _, rfl⟩, fun d hd => by cases hd; rfl⟩
      · exact .inr ⟨(congrArg (fun b => some (b == false)) (rfl : true = _)), rfl, ⟨_, _, rfl⟩, fun d hd => by cases hd; rfl⟩
      · exact .inr ⟨(congrArg (fun b => some (b == false)) (rfl : true = _)), rfl, ⟨_, _, rfl⟩, fun d hd => by cases hd; rfl⟩
      · exact .inr ⟨(congrArg (fun b => some (b == false)) (rfl : true = _)), rfl, ⟨_, _, rfl⟩, fun d hd => by cases hd; rfl⟩
      · exact Draw.step.q1 0 rfl rfl fun s' bb hs hl => ⟨_, rfl, AOp.pickT rfl rfl (hl 22 (some 16) _ (.head _) rfl) rfl rfl⟩
      refine AWP.cond rfl (fun h4 => ?_) (fun h4 => ?_)
      · have h4b := h4
        try simp only [Bool.and_eq_true, Bool.or_eq_true, Bool.and_eq_false_iff, Bool.or_eq_false_iff, decide_eq_true_eq, decide_eq_false_iff_not, Bool.not_eq_true', Bool.not_eq_false', Bool.not_eq_eq_eq_not, Bool.not_true, Bool.not_false, ge_iff_le, gt_iff_lt, Int.not_lt, Int.not_le] at h4b
        refine AWP.seq ?_; refine AWP.region_lit ?_; refine AL.cons rfl (AOp.build rfl rfl zr113 pl113 rfl rfl) ?_; refine AL.cons rfl (AOp.storePtr (cs := [.t (.leaf (.string (⟨#[]⟩))), .nil, .t (.leaf (.int .i64 (0))), .t (.leaf (.string (⟨#[]⟩))), .nil, .nil, .t (.leaf (.bool (false))), .t (.leaf (.bool (false))), .t (.leaf (.int .i64 (0))), .t (.leaf (.string (⟨#[]⟩))), .nil, .nil]) (ds := [.t (.leaf (.string (⟨#[]⟩))), .nil, .t (.leaf (.int .i64 (0))), .t (.leaf (.string (⟨#[]⟩))), .nil, .nil, .t (.leaf (.bool (false))), .t (.leaf (.bool (false))), .t (.leaf (.int .i64 (0))), .t (.leaf (.string (⟨#[]⟩))), .nil, .nil]) rfl rfl rfl rfl rfl rfl rfl sz113 (Nat.le_of_ble_eq_true rfl) rfl) ?_; refine AL.cons rfl (AOp.move (.inr rfl) rfl rfl) ?_; refine AL.nil ?_; refine AWP.ret ?_; exact Ends.mk (ps := [_, _]) (.inr rfl) ⟨⟨_, _, _, rfl, rfl, sh113, rfl, rfl⟩, rfl, trivial⟩ rfl (StLe.mk' (st' := ⟨[], []⟩) trivial rfl) (keeps_nil hC) (q := PV.tup [GInstance.pv GInstance.zero, .t (.leaf (.bool (false)))]) leA rfl ⟨by exact optInst_none (by first | exact instAt_m1 (by omega) | exact instAt_m2 (by omega) (by omega)), rfl⟩
      · exact absurd (h4.symm.trans rfl) (by decide)
    · have g3b := g3
      try simp only [Bool.and_eq_true, Bool.or_eq_true, Bool.and_eq_false_iff, Bool.or_eq_false_iff, decide_eq_true_eq, decide_eq_false_iff_not, Bool.not_eq_true', Bool.not_eq_false', Bool.not_eq_eq_eq_not, Bool.not_true, Bool.not_false, ge_iff_le, gt_iff_lt, Int.not_lt, Int.not_le] at g3b
      rcases bool2 (decide ((o.gAt : Int) < 0)) with g5 | g5
      · have g5b := g5
        try simp only [Bool.and_eq_true, Bool.or_eq_true, Bool.and_eq_false_iff, Bool.or_eq_false_iff, decide_eq_true_eq, decide_eq_false_iff_not, Bool.not_eq_true', Bool.not_eq_false', Bool.not_eq_eq_eq_not, Bool.not_true, Bool.not_false, ge_iff_le, gt_iff_lt, Int.not_lt, Int.not_le] at g5b
        refine AWP.drawnL ⟨_, _, fun _ _ => (⟨[some ⟨31, [.t (.row 6 (GPackage.trs (w.gPackages)))]⟩, some ⟨33, [.t (.leaf (.int .i64 (o.gPackage))), .t (.leaf (.int .i64 (o.gAt)))]⟩, some ⟨113, [.t (.leaf (.string (⟨#[]⟩))), .nil, .t (.leaf (.int .i64 (0))), .t (.leaf (.string (⟨#[]⟩))), .nil, .nil, .t (.leaf (.bool (false))), .t (.leaf (.bool (false))), .t (.leaf (.int .i64 (0))), .t (.leaf (.string (⟨#[]⟩))), .nil, .nil]⟩], []⟩ : Sto), fun q' => ([some (.ptr 1 0), some (.t (.leaf (.int .i64 (o.gPackage)))), some (.t (.leaf (.bool (decide ((o.gPackage : Int) < 0))))), some (.t (.leaf (.bool (decide ((o.gPackage : Int) < 0))))), some (.ptr 1 0), some (.t (.leaf (.int .i64 (o.gPackage)))), some (.ptr 0 0), some (.t (.row 6 (GPackage.trs (w.gPackages)))), some (.t (.leaf (.int .i64 (((w.gPackages.length : Nat) : Int))))), some (.t (.leaf (.bool (decide ((o.gPackage : Int) ≥ ((w.gPackages.length : Nat) : Int)))))), some (.t (.leaf (.bool (decide ((o.gPackage : Int) ≥ ((w.gPackages.length : Nat) : Int)))))), some (.t (.leaf (.bool (decide ((o.gPackage : Int) ≥ ((w.gPackages.length : Nat) : Int)))))), some (.ptr 1 1), some (.t (.leaf (.int .i64 (o.gAt)))), some (.t (.leaf (.bool (decide ((o.gAt : Int) < 0))))), some (.t (.leaf (.bool (decide ((o.gAt : Int) < 0))))), some (.t (.leaf (.bool (decide ((o.gAt : Int) < 0))))), none, none, none, none, none, none, none, none, none, none, none, some (.t (.leaf (.bool (true))))] : List (Option PV)).getD q' none, fun q' => ([.q 0 0, .q 0 0, .q 0 0, .q 0 0, .q 0 0, .q 0 0, .q 0 0, .q 0 0, .q 0 0, .q 0 0, .q 0 0, .q 0 0, .q 0 0, .q 0 0, .q 0 0, .q 0 0, .q 0 0, .q 0 0, .q 0 0, .q 0 0, .q 0 0, .q 0 0, .q 0 0, .q 0 0, .q 0 0, .q 0 0, .q 0 0, .q 0 0, .q 0 0] : List DK).getD q' (.q 0 0), [], none, fun q' => ([[(3, none)], [(6, some 0)], [(7, some 1)], [(8, some 2)], [(3, none)], [(10, some 4)], [(2, none)], [(12, some 6)], [(13, some 7)], [(11, some 5), (14, some 8)], [(9, some 3), (15, some 9)], [(16, some 10)], [(3, none)], [(18, some 12)], [(19, some 13)], [(17, some 11), (20, some 14)], [(21, some 15)], [], [], [], [], [], [], [], [], [], [], [], [(22, some 16)]] : List (List (Nat × Option Nat))).getD q' []⟩ rfl mixed (by kernel_rfl) rfl rfl ⟨?_, ?_, ?_, ?_, ?_, ?_, ?_, ?_, ?_, ?_, ?_, ?_, ?_, ?_, ?_, ?_, ?_, ?_, ?_, ?_, ?_, ?_, ?_, ?_, ?_, ?_, ?_, ?_, ?_, trivial⟩ rfl ?_
        · exact Draw.step.q1 0 rfl rfl fun s' bb hs hl => ⟨_, rfl, AOp.fieldPtr (k := 1) (d := 0) (e := 0) rfl rfl (hl 3 none _ (.head _) rfl) fo33_0⟩
        · exact Draw.step.q1 0 rfl rfl fun s' bb hs hl => ⟨_, rfl, AOp.loadPtr1 rfl rfl (hl 6 (some 0) _ (.head _) rfl) (by rw [hs]; rfl) sh3 rfl⟩
        · exact Draw.step.q1 0 rfl rfl fun s' bb hs hl => ⟨_, rfl, AOp.lss rfl rfl (hl 7 (some 1) _ (.head _) rfl) rfl⟩
        · exact Draw.step.q1 0 rfl rfl fun s' bb hs hl => ⟨_, rfl, AOp.move (.inl rfl) rfl (hl 8 (some 2) _ (.head _) rfl)⟩
        · exact Draw.step.q1 0 (congrArg (fun b => some (b == false)) g1) rfl fun s' bb hs hl => ⟨_, rfl, AOp.fieldPtr (k := 1) (d := 0) (e := 0) rfl rfl (hl 3 none _ (.head _) rfl) fo33_0⟩
        · exact Draw.step.q1 0 (congrArg (fun b => some (b == false)) g1) rfl fun s' bb hs hl => ⟨_, rfl, AOp.loadPtr1 rfl rfl (hl 10 (some 4) _ (.head _) rfl) (by rw [hs]; rfl) sh3 rfl⟩
        · exact Draw.step.q1 0 (congrArg (fun b => some (b == false)) g1) rfl fun s' bb hs hl => ⟨_, rfl, AOp.fieldPtr (k := 0) (d := 0) (e := 0) rfl rfl (hl 2 none _ (.head _) rfl) fo31_0⟩
        · exact Draw.step.q1 0 (congrArg (fun b => some (b == false)) g1) rfl fun s' bb hs hl => ⟨_, rfl, AOp.loadPtr1 rfl rfl (hl 12 (some 6) _ (.head _) rfl) (by rw [hs]; rfl) sh29 rfl⟩
        · exact Draw.step.q1 0 (congrArg (fun b => some (b == false)) g1) rfl fun s' bb hs hl => ⟨_, rfl, AOp.lenN rfl rfl (hl 13 (some 7) _ (.head _) rfl) rfl el29 (GPackage.trs_len _)⟩
        · exact Draw.step.q1 0 (congrArg (fun b => some (b == false)) g1) rfl fun s' bb hs hl => ⟨_, rfl, AOp.geq rfl rfl (hl 11 (some 5) _ (.head _) rfl) (hl 14 (some 8) _ (.tail _ (.head _)) rfl)⟩
        · exact Draw.step.q1 0 rfl rfl fun s' bb hs hl => ⟨_, rfl, AOp.pickF rfl rfl (hl 9 (some 3) _ (.head _) rfl) g1 (hl 15 (some 9) _ (.tail _ (.head _)) rfl)⟩
        · exact Draw.step.q1 0 rfl rfl fun s' bb hs hl => ⟨_, rfl, AOp.move (.inl rfl) rfl (hl 16 (some 10) _ (.head _) rfl)⟩
        · exact Draw.step.q1 0 (congrArg (fun b => some (b == false)) g3) rfl fun s' bb hs hl => ⟨_, rfl, AOp.fieldPtr (k := 1) (d := 0) (e := 1) rfl rfl (hl 3 none _ (.head _) rfl) fo33_1⟩
        · exact Draw.step.q1 0 (congrArg (fun b => some (b == false)) g3) rfl fun s' bb hs hl => ⟨_, rfl, AOp.loadPtr1 rfl rfl (hl 18 (some 12) _ (.head _) rfl) (by rw [hs]; rfl) sh3 rfl⟩
        · exact Draw.step.q1 0 (congrArg (fun b => some (b == false)) g3) rfl fun s' bb hs hl => ⟨_, rfl, AOp.lss rfl rfl (hl 19 (some 13) _ (.head _) rfl) rfl⟩
        · exact Draw.step.q1 0 rfl rfl fun s' bb hs hl => ⟨_, rfl, AOp.pickF rfl rfl (hl 17 (some 11) _ (.head _) rfl) g3 (hl 20 (some 14) _ (.tail _ (.head _)) rfl)⟩
        · exact Draw.step.q1 0 rfl rfl fun s' bb hs hl => ⟨_, rfl, AOp.move (.inl rfl) rfl (hl 21 (some 15) _ (.head _) rfl)⟩
        · exact .inr ⟨(congrArg (fun b => some (b == false)) g5), rfl, ⟨_, _, rfl⟩, fun d hd => by cases hd; rfl⟩
        · exact .inr ⟨(congrArg (fun b => some (b == false)) g5), rfl, ⟨_, _, rfl⟩, fun d hd => by cases hd; rfl⟩
        · exact .inr ⟨(congrArg (fun b => some (b == false)) g5), rfl, ⟨_, _, rfl⟩, fun d hd => by cases hd; rfl⟩
        · exact .inr ⟨(congrArg (fun b => some (b == false)) g5), rfl, ⟨_, _, rfl⟩, fun d hd => by cases hd; rfl⟩
        · exact .inr ⟨(congrArg (fun b => some (b == false)) g5), rfl, ⟨_, _, rfl⟩, fun d hd => by cases hd; rfl⟩
        · exact .inr ⟨(congrArg (fun b => some (b == false)) g5), rfl, ⟨_, _, rfl⟩, fun d hd => by cases hd; rfl⟩
        · exact .inr ⟨(congrArg (fun b => some (b == false)) g5), rfl, ⟨_, _, rfl⟩, fun d hd => by cases hd; rfl⟩
        · exact .inr ⟨(congrArg (fun b => some (b == false)) g5), rfl, ⟨_, _, rfl⟩, fun d hd => by cases hd; rfl⟩
        · exact .inr ⟨(congrArg (fun b => some (b == false)) g5), rfl, ⟨_, _, rfl⟩, fun d hd => by cases hd; rfl⟩
        · exact .inr ⟨(congrArg (fun b => some (b == false)) g5), rfl, ⟨_, _, rfl⟩, fun d hd => by cases hd; rfl⟩
        · exact .inr ⟨(congrArg (fun b => some (b == false)) g5), rfl, ⟨_, _, rfl⟩, fun d hd => by cases hd; rfl⟩
        · exact Draw.step.q1 0 rfl rfl fun s' bb hs hl => ⟨_, rfl, AOp.pickT rfl rfl (hl 22 (some 16) _ (.head _) rfl) g5 rfl⟩
        refine AWP.cond rfl (fun h6 => ?_) (fun h6 => ?_)
        · have h6b := h6
          try simp only [Bool.and_eq_true, Bool.or_eq_true, Bool.and_eq_false_iff, Bool.or_eq_false_iff, decide_eq_true_eq, decide_eq_false_iff_not, Bool.not_eq_true', Bool.not_eq_false', Bool.not_eq_eq_eq_not, Bool.not_true, Bool.not_false, ge_iff_le, gt_iff_lt, Int.not_lt, Int.not_le] at h6b
          refine AWP.seq ?_; refine AWP.region_lit ?_; refine AL.cons rfl (AOp.build rfl rfl zr113 pl113 rfl rfl) ?_; refine AL.cons rfl (AOp.storePtr (cs := [.t (.leaf (.string (⟨#[]⟩))), .nil, .t (.leaf (.int .i64 (0))), .t (.leaf (.string (⟨#[]⟩))), .nil, .nil, .t (.leaf (.bool (false))), .t (.leaf (.bool (false))), .t (.leaf (.int .i64 (0))), .t (.leaf (.string (⟨#[]⟩))), .nil, .nil]) (ds := [.t (.leaf (.string (⟨#[]⟩))), .nil, .t (.leaf (.int .i64 (0))), .t (.leaf (.string (⟨#[]⟩))), .nil, .nil, .t (.leaf (.bool (false))), .t (.leaf (.bool (false))), .t (.leaf (.int .i64 (0))), .t (.leaf (.string (⟨#[]⟩))), .nil, .nil]) rfl rfl rfl rfl rfl rfl rfl sz113 (Nat.le_of_ble_eq_true rfl) rfl) ?_; refine AL.cons rfl (AOp.move (.inr rfl) rfl rfl) ?_; refine AL.nil ?_; refine AWP.ret ?_; exact Ends.mk (ps := [_, _]) (.inr rfl) ⟨⟨_, _, _, rfl, rfl, sh113, rfl, rfl⟩, rfl, trivial⟩ rfl (StLe.mk' (st' := ⟨[], []⟩) trivial rfl) (keeps_nil hC) (q := PV.tup [GInstance.pv GInstance.zero, .t (.leaf (.bool (false)))]) leA rfl ⟨by exact optInst_none (by first | exact instAt_m1 (by omega) | exact instAt_m2 (by omega) (by omega)), rfl⟩
        · exact absurd (h6.symm.trans rfl) (by decide)
      · have g5b := g5
        try simp only [Bool.and_eq_true, Bool.or_eq_true, Bool.and_eq_false_iff, Bool.or_eq_false_iff, decide_eq_true_eq, decide_eq_false_iff_not, Bool.not_eq_true', Bool.not_eq_false', Bool.not_eq_eq_eq_not, Bool.not_true, Bool.not_false, ge_iff_le, gt_iff_lt, Int.not_lt, Int.not_le] at g5b
        have hn7 : (o.gPackage).toNat < w.gPackages.length := by omega
        refine AWP.drawnL ⟨_, _, fun _ _ => (⟨[some ⟨31, [.t (.row 6 (GPackage.trs (w.gPackages)))]⟩, some ⟨33, [.t (.leaf (.int .i64 (o.gPackage))), .t (.leaf (.int .i64 (o.gAt)))]⟩, some ⟨113, [.t (.leaf (.string (⟨#[]⟩))), .nil, .t (.leaf (.int .i64 (0))), .t (.leaf (.string (⟨#[]⟩))), .nil, .nil, .t (.leaf (.bool (false))), .t (.leaf (.bool (false))), .t (.leaf (.int .i64 (0))), .t (.leaf (.string (⟨#[]⟩))), .nil, .nil]⟩], []⟩ : Sto), fun q' => ([some (.ptr 1 0), some (.t (.leaf (.int .i64 (o.gPackage)))), some (.t (.leaf (.bool (decide ((o.gPackage : Int) < 0))))), some (.t (.leaf (.bool (decide ((o.gPackage : Int) < 0))))), some (.ptr 1 0), some (.t (.leaf (.int .i64 (o.gPackage)))), some (.ptr 0 0), some (.t (.row 6 (GPackage.trs (w.gPackages)))), some (.t (.leaf (.int .i64 (((w.gPackages.length : Nat) : Int))))), some (.t (.leaf (.bool (decide ((o.gPackage : Int) ≥ ((w.gPackages.length : Nat) : Int)))))), some (.t (.leaf (.bool (decide ((o.gPackage : Int) ≥ ((w.gPackages.length : Nat) : Int)))))), some (.t (.leaf (.bool (decide ((o.gPackage : Int) ≥ ((w.gPackages.length : Nat) : Int)))))), some (.ptr 1 1), some (.t (.leaf (.int .i64 (o.gAt)))), some (.t (.leaf (.bool (decide ((o.gAt : Int) < 0))))), some (.t (.leaf (.bool (decide ((o.gAt : Int) < 0))))), some (.t (.leaf (.bool (decide ((o.gAt : Int) < 0))))), some (.ptr 1 1), some (.t (.leaf (.int .i64 (o.gAt)))), some (.ptr 0 0), some (.t (.row 6 (GPackage.trs (w.gPackages)))), some (.ptr 1 0), some (.t (.leaf (.int .i64 (o.gPackage)))), some (.eptr (GPackage.cs (w.gPackages[(o.gPackage).toNat]))), some (.eptr ((GPackage.cs (w.gPackages[(o.gPackage).toNat])).drop 4)), some (.t (.row 12 (GInstance.trs ((w.gPackages[(o.gPackage).toNat]).gInstances)))), some (.t (.leaf (.int .i64 (((((w.gPackages[(o.gPackage).toNat]).gInstances).length : Nat) : Int))))), some (.t (.leaf (.bool (decide ((o.gAt : Int) ≥ ((((w.gPackages[(o.gPackage).toNat]).gInstances).length : Nat) : Int)))))), some (.t (.leaf (.bool (decide ((o.gAt : Int) ≥ ((((w.gPackages[(o.gPackage).toNat]).gInstances).length : Nat) : Int))))))] : List (Option PV)).getD q' none, fun q' => ([.q 0 0, .q 0 0, .q 0 0, .q 0 0, .q 0 0, .q 0 0, .q 0 0, .q 0 0, .q 0 0, .q 0 0, .q 0 0, .q 0 0, .q 0 0, .q 0 0, .q 0 0, .q 0 0, .q 0 0, .q 0 0, .q 0 0, .q 0 0, .q 0 0, .q 0 0, .q 0 0, .q 0 0, .q 0 0, .q 0 0, .q 0 0, .q 0 0, .q 0 0] : List DK).getD q' (.q 0 0), [], none, fun q' => ([[(3, none)], [(6, some 0)], [(7, some 1)], [(8, some 2)], [(3, none)], [(10, some 4)], [(2, none)], [(12, some 6)], [(13, some 7)], [(11, some 5), (14, some 8)], [(9, some 3), (15, some 9)], [(16, some 10)], [(3, none)], [(18, some 12)], [(19, some 13)], [(17, some 11), (20, some 14)], [(21, some 15)], [(3, none)], [(23, some 17)], [(2, none)], [(25, some 19)], [(3, none)], [(27, some 21)], [(26, some 20), (28, some 22)], [(29, some 23)], [(30, some 24)], [(31, some 25)], [(24, some 18), (32, some 26)], [(22, some 16), (33, some 27)]] : List (List (Nat × Option Nat))).getD q' []⟩ rfl mixed (by kernel_rfl) rfl rfl ⟨?_, ?_, ?_, ?_, ?_, ?_, ?_, ?_, ?_, ?_, ?_, ?_, ?_, ?_, ?_, ?_, ?_, ?_, ?_, ?_, ?_, ?_, ?_, ?_, ?_, ?_, ?_, ?_, ?_, trivial⟩ rfl ?_
        · exact Draw.step.q1 0 rfl rfl fun s' bb hs hl => ⟨_, rfl, AOp.fieldPtr (k := 1) (d := 0) (e := 0) rfl rfl (hl 3 none _ (.head _) rfl) fo33_0⟩
        · exact Draw.step.q1 0 rfl rfl fun s' bb hs hl => ⟨_, rfl, AOp.loadPtr1 rfl rfl (hl 6 (some 0) _ (.head _) rfl) (by rw [hs]; rfl) sh3 rfl⟩
        · exact Draw.step.q1 0 rfl rfl fun s' bb hs hl => ⟨_, rfl, AOp.lss rfl rfl (hl 7 (some 1) _ (.head _) rfl) rfl⟩
        · exact Draw.step.q1 0 rfl rfl fun s' bb hs hl => ⟨_, rfl, AOp.move (.inl rfl) rfl (hl 8 (some 2) _ (.head _) rfl)⟩
        · exact Draw.step.q1 0 (congrArg (fun b => some (b == false)) g1) rfl fun s' bb hs hl => ⟨_, rfl, AOp.fieldPtr (k := 1) (d := 0) (e := 0) rfl rfl (hl 3 none _ (.head _) rfl) fo33_0⟩
        · exact Draw.step.q1 0 (congrArg (fun b => some (b == false)) g1) rfl fun s' bb hs hl => ⟨_, rfl, AOp.loadPtr1 rfl rfl (hl 10 (some 4) _ (.head _) rfl) (by rw [hs]; rfl) sh3 rfl⟩
        · exact Draw.step.q1 0 (congrArg (fun b => some (b == false)) g1) rfl fun s' bb hs hl => ⟨_, rfl, AOp.fieldPtr (k := 0) (d := 0) (e := 0) rfl rfl (hl 2 none _ (.head _) rfl) fo31_0⟩
        · exact Draw.step.q1 0 (congrArg (fun b => some (b == false)) g1) rfl fun s' bb hs hl => ⟨_, rfl, AOp.loadPtr1 rfl rfl (hl 12 (some 6) _ (.head _) rfl) (by rw [hs]; rfl) sh29 rfl⟩
        · exact Draw.step.q1 0 (congrArg (fun b => some (b == false)) g1) rfl fun s' bb hs hl => ⟨_, rfl, AOp.lenN rfl rfl (hl 13 (some 7) _ (.head _) rfl) rfl el29 (GPackage.trs_len _)⟩
        · exact Draw.step.q1 0 (congrArg (fun b => some (b == false)) g1) rfl fun s' bb hs hl => ⟨_, rfl, AOp.geq rfl rfl (hl 11 (some 5) _ (.head _) rfl) (hl 14 (some 8) _ (.tail _ (.head _)) rfl)⟩
        · exact Draw.step.q1 0 rfl rfl fun s' bb hs hl => ⟨_, rfl, AOp.pickF rfl rfl (hl 9 (some 3) _ (.head _) rfl) g1 (hl 15 (some 9) _ (.tail _ (.head _)) rfl)⟩
        · exact Draw.step.q1 0 rfl rfl fun s' bb hs hl => ⟨_, rfl, AOp.move (.inl rfl) rfl (hl 16 (some 10) _ (.head _) rfl)⟩
        · exact Draw.step.q1 0 (congrArg (fun b => some (b == false)) g3) rfl fun s' bb hs hl => ⟨_, rfl, AOp.fieldPtr (k := 1) (d := 0) (e := 1) rfl rfl (hl 3 none _ (.head _) rfl) fo33_1⟩
        · exact Draw.step.q1 0 (congrArg (fun b => some (b == false)) g3) rfl fun s' bb hs hl => ⟨_, rfl, AOp.loadPtr1 rfl rfl (hl 18 (some 12) _ (.head _) rfl) (by rw [hs]; rfl) sh3 rfl⟩
        · exact Draw.step.q1 0 (congrArg (fun b => some (b == false)) g3) rfl fun s' bb hs hl => ⟨_, rfl, AOp.lss rfl rfl (hl 19 (some 13) _ (.head _) rfl) rfl⟩
        · exact Draw.step.q1 0 rfl rfl fun s' bb hs hl => ⟨_, rfl, AOp.pickF rfl rfl (hl 17 (some 11) _ (.head _) rfl) g3 (hl 20 (some 14) _ (.tail _ (.head _)) rfl)⟩
        · exact Draw.step.q1 0 rfl rfl fun s' bb hs hl => ⟨_, rfl, AOp.move (.inl rfl) rfl (hl 21 (some 15) _ (.head _) rfl)⟩
        · exact Draw.step.q1 0 (congrArg (fun b => some (b == false)) g5) rfl fun s' bb hs hl => ⟨_, rfl, AOp.fieldPtr (k := 1) (d := 0) (e := 1) rfl rfl (hl 3 none _ (.head _) rfl) fo33_1⟩
        · exact Draw.step.q1 0 (congrArg (fun b => some (b == false)) g5) rfl fun s' bb hs hl => ⟨_, rfl, AOp.loadPtr1 rfl rfl (hl 23 (some 17) _ (.head _) rfl) (by rw [hs]; rfl) sh3 rfl⟩
        · exact Draw.step.q1 0 (congrArg (fun b => some (b == false)) g5) rfl fun s' bb hs hl => ⟨_, rfl, AOp.fieldPtr (k := 0) (d := 0) (e := 0) rfl rfl (hl 2 none _ (.head _) rfl) fo31_0⟩
        · exact Draw.step.q1 0 (congrArg (fun b => some (b == false)) g5) rfl fun s' bb hs hl => ⟨_, rfl, AOp.loadPtr1 rfl rfl (hl 25 (some 19) _ (.head _) rfl) (by rw [hs]; rfl) sh29 rfl⟩
        · exact Draw.step.q1 0 (congrArg (fun b => some (b == false)) g5) rfl fun s' bb hs hl => ⟨_, rfl, AOp.fieldPtr (k := 1) (d := 0) (e := 0) rfl rfl (hl 3 none _ (.head _) rfl) fo33_0⟩
        · exact Draw.step.q1 0 (congrArg (fun b => some (b == false)) g5) rfl fun s' bb hs hl => ⟨_, rfl, AOp.loadPtr1 rfl rfl (hl 27 (some 21) _ (.head _) rfl) (by rw [hs]; rfl) sh3 rfl⟩
        · exact Draw.step.q1 0 (congrArg (fun b => some (b == false)) g5) rfl fun s' bb hs hl => ⟨_, rfl, AOp.indexI (y := o.gPackage) rfl rfl (hl 26 (some 20) _ (.head _) rfl) rfl (hl 28 (some 22) _ (.tail _ (.head _)) rfl) (by omega) (GPackage.trs_cs hn7) el29⟩
        · exact Draw.step.q1 0 (congrArg (fun b => some (b == false)) g5) rfl fun s' bb hs hl => ⟨_, rfl, AOp.fieldEptr (cs := (GPackage.cs (w.gPackages[(o.gPackage).toNat]))) (e := 4) rfl rfl (hl 29 (some 23) _ (.head _) rfl) fo126_4⟩
        · exact Draw.step.q1 0 (congrArg (fun b => some (b == false)) g5) rfl fun s' bb hs hl => ⟨_, rfl, AOp.loadEptr1 (d := .row 12 (GInstance.trs ((w.gPackages[(o.gPackage).toNat]).gInstances))) rfl rfl (hl 30 (some 24) _ (.head _) rfl) sh123 rfl⟩
        · exact Draw.step.q1 0 (congrArg (fun b => some (b == false)) g5) rfl fun s' bb hs hl => ⟨_, rfl, AOp.lenN rfl rfl (hl 31 (some 25) _ (.head _) rfl) rfl el123 (GInstance.trs_len _)⟩
        · exact Draw.step.q1 0 (congrArg (fun b => some (b == false)) g5) rfl fun s' bb hs hl => ⟨_, rfl, AOp.geq rfl rfl (hl 24 (some 18) _ (.head _) rfl) (hl 32 (some 26) _ (.tail _ (.head _)) rfl)⟩
        · exact Draw.step.q1 0 rfl rfl fun s' bb hs hl => ⟨_, rfl, AOp.pickF rfl rfl (hl 22 (some 16) _ (.head _) rfl) g5 (hl 33 (some 27) _ (.tail _ (.head _)) rfl)⟩
        refine AWP.cond rfl (fun h8 => ?_) (fun h8 => ?_)
        · have h8b := h8
          try simp only [Bool.and_eq_true, Bool.or_eq_true, Bool.and_eq_false_iff, Bool.or_eq_false_iff, decide_eq_true_eq, decide_eq_false_iff_not, Bool.not_eq_true', Bool.not_eq_false', Bool.not_eq_eq_eq_not, Bool.not_true, Bool.not_false, ge_iff_le, gt_iff_lt, Int.not_lt, Int.not_le] at h8b
          refine AWP.seq ?_; refine AWP.region_lit ?_; refine AL.cons rfl (AOp.build rfl rfl zr113 pl113 rfl rfl) ?_; refine AL.cons rfl (AOp.storePtr (cs := [.t (.leaf (.string (⟨#[]⟩))), .nil, .t (.leaf (.int .i64 (0))), .t (.leaf (.string (⟨#[]⟩))), .nil, .nil, .t (.leaf (.bool (false))), .t (.leaf (.bool (false))), .t (.leaf (.int .i64 (0))), .t (.leaf (.string (⟨#[]⟩))), .nil, .nil]) (ds := [.t (.leaf (.string (⟨#[]⟩))), .nil, .t (.leaf (.int .i64 (0))), .t (.leaf (.string (⟨#[]⟩))), .nil, .nil, .t (.leaf (.bool (false))), .t (.leaf (.bool (false))), .t (.leaf (.int .i64 (0))), .t (.leaf (.string (⟨#[]⟩))), .nil, .nil]) rfl rfl rfl rfl rfl rfl rfl sz113 (Nat.le_of_ble_eq_true rfl) rfl) ?_; refine AL.cons rfl (AOp.move (.inr rfl) rfl rfl) ?_; refine AL.nil ?_; refine AWP.ret ?_; exact Ends.mk (ps := [_, _]) (.inr rfl) ⟨⟨_, _, _, rfl, rfl, sh113, rfl, rfl⟩, rfl, trivial⟩ rfl (StLe.mk' (st' := ⟨[], []⟩) trivial rfl) (keeps_nil hC) (q := PV.tup [GInstance.pv GInstance.zero, .t (.leaf (.bool (false)))]) leA rfl ⟨by exact optInst_none (by first | exact instAt_m1 (by omega) | exact instAt_m2 (by omega) (by omega)), rfl⟩
        · have h8b := h8
          try simp only [Bool.and_eq_true, Bool.or_eq_true, Bool.and_eq_false_iff, Bool.or_eq_false_iff, decide_eq_true_eq, decide_eq_false_iff_not, Bool.not_eq_true', Bool.not_eq_false', Bool.not_eq_eq_eq_not, Bool.not_true, Bool.not_false, ge_iff_le, gt_iff_lt, Int.not_lt, Int.not_le] at h8b
          refine AWP.skip ?_; refine AWP.seq ?_
          have hn9 : (o.gAt).toNat < ((w.gPackages[(o.gPackage).toNat]).gInstances).length := by omega
          refine AWP.drawnL ⟨_, _, fun j' _ => ([(⟨[some ⟨31, [.t (.row 6 (GPackage.trs (w.gPackages)))]⟩, some ⟨33, [.t (.leaf (.int .i64 (o.gPackage))), .t (.leaf (.int .i64 (o.gAt)))]⟩, some ⟨113, [.t (.leaf (.string (⟨#[]⟩))), .nil, .t (.leaf (.int .i64 (0))), .t (.leaf (.string (⟨#[]⟩))), .nil, .nil, .t (.leaf (.bool (false))), .t (.leaf (.bool (false))), .t (.leaf (.int .i64 (0))), .t (.leaf (.string (⟨#[]⟩))), .nil, .nil]⟩], []⟩ : Sto), (⟨[some ⟨31, [.t (.row 6 (GPackage.trs (w.gPackages)))]⟩, some ⟨33, [.t (.leaf (.int .i64 (o.gPackage))), .t (.leaf (.int .i64 (o.gAt)))]⟩, some ⟨113, [.t (.leaf (.string ((((w.gPackages[(o.gPackage).toNat]).gInstances)[(o.gAt).toNat]).gTrait))), .t (.row 1 (strTrs ((((w.gPackages[(o.gPackage).toNat]).gInstances)[(o.gAt).toNat]).gVars))), .t (.leaf (.int .i64 ((((w.gPackages[(o.gPackage).toNat]).gInstances)[(o.gAt).toNat]).gHead.gKind))), .t (.leaf (.string ((((w.gPackages[(o.gPackage).toNat]).gInstances)[(o.gAt).toNat]).gHead.gName))), .t (.row 3 (GType.trs ((((w.gPackages[(o.gPackage).toNat]).gInstances)[(o.gAt).toNat]).gHead.gArgs))), .t (.row 4 (GBound.trs ((((w.gPackages[(o.gPackage).toNat]).gInstances)[(o.gAt).toNat]).gWhere))), .t (.leaf (.bool ((((w.gPackages[(o.gPackage).toNat]).gInstances)[(o.gAt).toNat]).gDefault))), .t (.leaf (.bool ((((w.gPackages[(o.gPackage).toNat]).gInstances)[(o.gAt).toNat]).gHasAssoc))), .t (.leaf (.int .i64 ((((w.gPackages[(o.gPackage).toNat]).gInstances)[(o.gAt).toNat]).gAssoc.gKind))), .t (.leaf (.string ((((w.gPackages[(o.gPackage).toNat]).gInstances)[(o.gAt).toNat]).gAssoc.gName))), .t (.row 3 (GType.trs ((((w.gPackages[(o.gPackage).toNat]).gInstances)[(o.gAt).toNat]).gAssoc.gArgs))), .t (.row 11 (GMethod.trs ((((w.gPackages[(o.gPackage).toNat]).gInstances)[(o.gAt).toNat]).gMethods)))]⟩], []⟩ : Sto)] : List Sto).getD j' (⟨[some ⟨31, [.t (.row 6 (GPackage.trs (w.gPackages)))]⟩, some ⟨33, [.t (.leaf (.int .i64 (o.gPackage))), .t (.leaf (.int .i64 (o.gAt)))]⟩, some ⟨113, [.t (.leaf (.string ((((w.gPackages[(o.gPackage).toNat]).gInstances)[(o.gAt).toNat]).gTrait))), .t (.row 1 (strTrs ((((w.gPackages[(o.gPackage).toNat]).gInstances)[(o.gAt).toNat]).gVars))), .t (.leaf (.int .i64 ((((w.gPackages[(o.gPackage).toNat]).gInstances)[(o.gAt).toNat]).gHead.gKind))), .t (.leaf (.string ((((w.gPackages[(o.gPackage).toNat]).gInstances)[(o.gAt).toNat]).gHead.gName))), .t (.row 3 (GType.trs ((((w.gPackages[(o.gPackage).toNat]).gInstances)[(o.gAt).toNat]).gHead.gArgs))), .t (.row 4 (GBound.trs ((((w.gPackages[(o.gPackage).toNat]).gInstances)[(o.gAt).toNat]).gWhere))), .t (.leaf (.bool ((((w.gPackages[(o.gPackage).toNat]).gInstances)[(o.gAt).toNat]).gDefault))), .t (.leaf (.bool ((((w.gPackages[(o.gPackage).toNat]).gInstances)[(o.gAt).toNat]).gHasAssoc))), .t (.leaf (.int .i64 ((((w.gPackages[(o.gPackage).toNat]).gInstances)[(o.gAt).toNat]).gAssoc.gKind))), .t (.leaf (.string ((((w.gPackages[(o.gPackage).toNat]).gInstances)[(o.gAt).toNat]).gAssoc.gName))), .t (.row 3 (GType.trs ((((w.gPackages[(o.gPackage).toNat]).gInstances)[(o.gAt).toNat]).gAssoc.gArgs))), .t (.row 11 (GMethod.trs ((((w.gPackages[(o.gPackage).toNat]).gInstances)[(o.gAt).toNat]).gMethods)))]⟩], []⟩ : Sto), fun q' => ([some (.ptr 0 0), some (.t (.row 6 (GPackage.trs (w.gPackages)))), some (.ptr 1 0), some (.t (.leaf (.int .i64 (o.gPackage)))), some (.eptr (GPackage.cs (w.gPackages[(o.gPackage).toNat]))), some (.eptr ((GPackage.cs (w.gPackages[(o.gPackage).toNat])).drop 4)), some (.t (.row 12 (GInstance.trs ((w.gPackages[(o.gPackage).toNat]).gInstances)))), some (.ptr 1 1), some (.t (.leaf (.int .i64 (o.gAt)))), some (.eptr (GInstance.cs (((w.gPackages[(o.gPackage).toNat]).gInstances)[(o.gAt).toNat]))), some ((GInstance.pv (((w.gPackages[(o.gPackage).toNat]).gInstances)[(o.gAt).toNat]))), none, some (.t (.leaf (.bool (true))))] : List (Option PV)).getD q' none, fun q' => ([.q 0 0, .q 0 0, .q 0 0, .q 0 0, .q 0 0, .q 0 0, .q 0 0, .q 0 0, .q 0 0, .q 0 0, .q 0 0, .ef 0, .q 1 1] : List DK).getD q' (.q 0 0), [11], none, fun q' => ([[(2, none)], [(36, some 0)], [(3, none)], [(38, some 2)], [(37, some 1), (39, some 3)], [(40, some 4)], [(41, some 5)], [(3, none)], [(43, some 7)], [(42, some 6), (44, some 8)], [(45, some 9)], [(4, none), (46, some 10)], []] : List (List (Nat × Option Nat))).getD q' []⟩ rfl mixed (by kernel_rfl) rfl rfl ⟨?_, ?_, ?_, ?_, ?_, ?_, ?_, ?_, ?_, ?_, ?_, ?_, ?_, trivial⟩ rfl ?_
          · exact Draw.step.q1 0 rfl rfl fun s' bb hs hl => ⟨_, rfl, AOp.fieldPtr (k := 0) (d := 0) (e := 0) rfl rfl (hl 2 none _ (.head _) rfl) fo31_0⟩
          · exact Draw.step.q1 0 rfl rfl fun s' bb hs hl => ⟨_, rfl, AOp.loadPtr1 rfl rfl (hl 36 (some 0) _ (.head _) rfl) (by rw [hs]; rfl) sh29 rfl⟩
          · exact Draw.step.q1 0 rfl rfl fun s' bb hs hl => ⟨_, rfl, AOp.fieldPtr (k := 1) (d := 0) (e := 0) rfl rfl (hl 3 none _ (.head _) rfl) fo33_0⟩
          · exact Draw.step.q1 0 rfl rfl fun s' bb hs hl => ⟨_, rfl, AOp.loadPtr1 rfl rfl (hl 38 (some 2) _ (.head _) rfl) (by rw [hs]; rfl) sh3 rfl⟩
          · exact Draw.step.q1 0 rfl rfl fun s' bb hs hl => ⟨_, rfl, AOp.indexI (y := o.gPackage) rfl rfl (hl 37 (some 1) _ (.head _) rfl) rfl (hl 39 (some 3) _ (.tail _ (.head _)) rfl) (by omega) (GPackage.trs_cs hn7) el29⟩
          · exact Draw.step.q1 0 rfl rfl fun s' bb hs hl => ⟨_, rfl, AOp.fieldEptr (cs := (GPackage.cs (w.gPackages[(o.gPackage).toNat]))) (e := 4) rfl rfl (hl 40 (some 4) _ (.head _) rfl) fo126_4⟩
          · exact Draw.step.q1 0 rfl rfl fun s' bb hs hl => ⟨_, rfl, AOp.loadEptr1 (d := .row 12 (GInstance.trs ((w.gPackages[(o.gPackage).toNat]).gInstances))) rfl rfl (hl 41 (some 5) _ (.head _) rfl) sh123 rfl⟩
          · exact Draw.step.q1 0 rfl rfl fun s' bb hs hl => ⟨_, rfl, AOp.fieldPtr (k := 1) (d := 0) (e := 1) rfl rfl (hl 3 none _ (.head _) rfl) fo33_1⟩
          · exact Draw.step.q1 0 rfl rfl fun s' bb hs hl => ⟨_, rfl, AOp.loadPtr1 rfl rfl (hl 43 (some 7) _ (.head _) rfl) (by rw [hs]; rfl) sh3 rfl⟩
          · exact Draw.step.q1 0 rfl rfl fun s' bb hs hl => ⟨_, rfl, AOp.indexI (y := o.gAt) rfl rfl (hl 42 (some 6) _ (.head _) rfl) rfl (hl 44 (some 8) _ (.tail _ (.head _)) rfl) (by omega) (GInstance.trs_cs hn9) el123⟩
          · exact Draw.step.q1 0 rfl rfl fun s' bb hs hl => ⟨_, rfl, AOp.loadEptr (ds := [.leaf (.string ((((w.gPackages[(o.gPackage).toNat]).gInstances)[(o.gAt).toNat]).gTrait)), .row 1 (strTrs ((((w.gPackages[(o.gPackage).toNat]).gInstances)[(o.gAt).toNat]).gVars)), .leaf (.int .i64 ((((w.gPackages[(o.gPackage).toNat]).gInstances)[(o.gAt).toNat]).gHead.gKind)), .leaf (.string ((((w.gPackages[(o.gPackage).toNat]).gInstances)[(o.gAt).toNat]).gHead.gName)), .row 3 (GType.trs ((((w.gPackages[(o.gPackage).toNat]).gInstances)[(o.gAt).toNat]).gHead.gArgs)), .row 4 (GBound.trs ((((w.gPackages[(o.gPackage).toNat]).gInstances)[(o.gAt).toNat]).gWhere)), .leaf (.bool ((((w.gPackages[(o.gPackage).toNat]).gInstances)[(o.gAt).toNat]).gDefault)), .leaf (.bool ((((w.gPackages[(o.gPackage).toNat]).gInstances)[(o.gAt).toNat]).gHasAssoc)), .leaf (.int .i64 ((((w.gPackages[(o.gPackage).toNat]).gInstances)[(o.gAt).toNat]).gAssoc.gKind)), .leaf (.string ((((w.gPackages[(o.gPackage).toNat]).gInstances)[(o.gAt).toNat]).gAssoc.gName)), .row 3 (GType.trs ((((w.gPackages[(o.gPackage).toNat]).gInstances)[(o.gAt).toNat]).gAssoc.gArgs)), .row 11 (GMethod.trs ((((w.gPackages[(o.gPackage).toNat]).gInstances)[(o.gAt).toNat]).gMethods))]) rfl rfl (hl 45 (some 9) _ (.head _) rfl) sh113 rfl rfl⟩
          · refine .inl ⟨rfl, fun s' bb hs hl => ?_⟩
            refine .inr ⟨rfl, AOp.congr (AOp.storePtr (cs := [.t (.leaf (.string ((((w.gPackages[(o.gPackage).toNat]).gInstances)[(o.gAt).toNat]).gTrait))), .t (.row 1 (strTrs ((((w.gPackages[(o.gPackage).toNat]).gInstances)[(o.gAt).toNat]).gVars))), .t (.leaf (.int .i64 ((((w.gPackages[(o.gPackage).toNat]).gInstances)[(o.gAt).toNat]).gHead.gKind))), .t (.leaf (.string ((((w.gPackages[(o.gPackage).toNat]).gInstances)[(o.gAt).toNat]).gHead.gName))), .t (.row 3 (GType.trs ((((w.gPackages[(o.gPackage).toNat]).gInstances)[(o.gAt).toNat]).gHead.gArgs))), .t (.row 4 (GBound.trs ((((w.gPackages[(o.gPackage).toNat]).gInstances)[(o.gAt).toNat]).gWhere))), .t (.leaf (.bool ((((w.gPackages[(o.gPackage).toNat]).gInstances)[(o.gAt).toNat]).gDefault))), .t (.leaf (.bool ((((w.gPackages[(o.gPackage).toNat]).gInstances)[(o.gAt).toNat]).gHasAssoc))), .t (.leaf (.int .i64 ((((w.gPackages[(o.gPackage).toNat]).gInstances)[(o.gAt).toNat]).gAssoc.gKind))), .t (.leaf (.string ((((w.gPackages[(o.gPackage).toNat]).gInstances)[(o.gAt).toNat]).gAssoc.gName))), .t (.row 3 (GType.trs ((((w.gPackages[(o.gPackage).toNat]).gInstances)[(o.gAt).toNat]).gAssoc.gArgs))), .t (.row 11 (GMethod.trs ((((w.gPackages[(o.gPackage).toNat]).gInstances)[(o.gAt).toNat]).gMethods)))]) (ds := [.t (.leaf (.string ((((w.gPackages[(o.gPackage).toNat]).gInstances)[(o.gAt).toNat]).gTrait))), .t (.row 1 (strTrs ((((w.gPackages[(o.gPackage).toNat]).gInstances)[(o.gAt).toNat]).gVars))), .t (.leaf (.int .i64 ((((w.gPackages[(o.gPackage).toNat]).gInstances)[(o.gAt).toNat]).gHead.gKind))), .t (.leaf (.string ((((w.gPackages[(o.gPackage).toNat]).gInstances)[(o.gAt).toNat]).gHead.gName))), .t (.row 3 (GType.trs ((((w.gPackages[(o.gPackage).toNat]).gInstances)[(o.gAt).toNat]).gHead.gArgs))), .t (.row 4 (GBound.trs ((((w.gPackages[(o.gPackage).toNat]).gInstances)[(o.gAt).toNat]).gWhere))), .t (.leaf (.bool ((((w.gPackages[(o.gPackage).toNat]).gInstances)[(o.gAt).toNat]).gDefault))), .t (.leaf (.bool ((((w.gPackages[(o.gPackage).toNat]).gInstances)[(o.gAt).toNat]).gHasAssoc))), .t (.leaf (.int .i64 ((((w.gPackages[(o.gPackage).toNat]).gInstances)[(o.gAt).toNat]).gAssoc.gKind))), .t (.leaf (.string ((((w.gPackages[(o.gPackage).toNat]).gInstances)[(o.gAt).toNat]).gAssoc.gName))), .t (.row 3 (GType.trs ((((w.gPackages[(o.gPackage).toNat]).gInstances)[(o.gAt).toNat]).gAssoc.gArgs))), .t (.row 11 (GMethod.trs ((((w.gPackages[(o.gPackage).toNat]).gInstances)[(o.gAt).toNat]).gMethods)))]) rfl (hl 4 none _ (.head _) rfl) (by rw [hs]; rfl) (hl 46 (some 10) _ (.tail _ (.head _)) rfl) rfl rfl rfl sz113 (Nat.le_of_ble_eq_true rfl) rfl) ?_⟩
            first | (rw [hs]; rfl) | rfl
          · exact Draw.step.q1 1 rfl rfl fun s' bb hs hl => ⟨_, rfl, AOp.move (.inr rfl) rfl rfl⟩
          refine AWP.ret ?_; exact Ends.mk (ps := [_, _]) (.inr rfl) ⟨⟨_, _, _, rfl, rfl, sh113, rfl, rfl⟩, rfl, trivial⟩ rfl (StLe.mk' (st' := ⟨[], []⟩) trivial rfl) (keeps_nil hC) (q := (.tup [(GInstance.pv (((w.gPackages[(o.gPackage).toNat]).gInstances)[(o.gAt).toNat])), .t (.leaf (.bool (true)))] : PV)) leA rfl ⟨by exact optInst_some (instAt_hit (by omega) (by omega) (by omega) (by omega)), rfl⟩

set_option maxRecDepth 100000 in
set_option maxHeartbeats 4000000 in
theorem inst_spec (w : GProgram) (o : GInstanceRef) : AFun Tryz.prog 77 [(GProgram.pv w), (GInstanceRef.pv o)] (.tup [(GInstance.pv (oInst (GProgram.instAt w o))), .t (.leaf (.bool ((GProgram.instAt w o).isSome)))]) := by
  refine ACalls.intro Tryz.func77 rfl (by first | decide | (simp; done) | (simp; decide)) ?_; intro C hC
  refine AWP.seq ?_; refine AWP.region_lit ?_; refine AL.cons rfl (AOp.box (cs := [.t (.row 6 (GPackage.trs (w.gPackages)))]) rfl rfl rfl rfl rfl) ?_; refine AL.cons rfl (AOp.box (cs := [.t (.leaf (.int .i64 (o.gPackage))), .t (.leaf (.int .i64 (o.gAt)))]) rfl rfl rfl rfl rfl) ?_; refine AL.cons rfl (AOp.alloc rfl rfl zr113) ?_; refine AL.cons rfl (AOp.move (.inr rfl) rfl rfl) ?_; refine AL.nil ?_; refine AWP.seq ?_; refine AWP.seq ?_; refine AWP.fact (box_lenN 0 0 rfl rfl rfl (GPackage.trs_len _)) (fun hl1 => ?_)
  rcases bool2 (!(decide ((o.gPackage : Int) ≥ 0) && decide ((o.gPackage : Int) ≤ (((w.gPackages.length : Nat) : Int) - 1)))) with g2 | g2
  · have g2b := g2
    try simp only [Bool.and_eq_true, Bool.or_eq_true, Bool.and_eq_false_iff, Bool.or_eq_false_iff, decide_eq_true_eq, decide_eq_false_iff_not, Bool.not_eq_true', Bool.not_eq_false', Bool.not_eq_eq_eq_not, Bool.not_true, Bool.not_false, ge_iff_le, gt_iff_lt, Int.not_lt, Int.not_le] at g2b
    refine AWP.drawnL ⟨_, _, fun _ _ => (⟨[some ⟨31, [.t (.row 6 (GPackage.trs (w.gPackages)))]⟩, some ⟨33, [.t (.leaf (.int .i64 (o.gPackage))), .t (.leaf (.int .i64 (o.gAt)))]⟩, some ⟨113, [.t (.leaf (.string (⟨#[]⟩))), .nil, .t (.leaf (.int .i64 (0))), .t (.leaf (.string (⟨#[]⟩))), .nil, .nil, .t (.leaf (.bool (false))), .t (.leaf (.bool (false))), .t (.leaf (.int .i64 (0))), .t (.leaf (.string (⟨#[]⟩))), .nil, .nil]⟩], []⟩ : Sto), fun q' => ([some (.ptr 1 0), some (.t (.leaf (.int .i64 (o.gPackage)))), some (.ptr 0 0), some (.t (.row 6 (GPackage.trs (w.gPackages)))), some (.t (.leaf (.int .i64 (((w.gPackages.length : Nat) : Int))))), some (.t (.leaf (.int .i64 (((w.gPackages.length : Nat) : Int) - 1)))), some (.t (.leaf (.bool (decide ((o.gPackage : Int) ≥ 0) && decide ((o.gPackage : Int) ≤ (((w.gPackages.length : Nat) : Int) - 1)))))), some (.t (.leaf (.bool (!(decide ((o.gPackage : Int) ≥ 0) && decide ((o.gPackage : Int) ≤ (((w.gPackages.length : Nat) : Int) - 1))))))), some (.t (.leaf (.bool (!(decide ((o.gPackage : Int) ≥ 0) && decide ((o.gPackage : Int) ≤ (((w.gPackages.length : Nat) : Int) - 1))))))), none, none, none, none, none, none, none, none, none, none, none, none, none, some (.t (.leaf (.bool (true))))] : List (Option PV)).getD q' none, fun q' => ([.q 0 0, .q 0 0, .q 0 0, .q 0 0, .q 0 0, .q 0 0, .q 0 0, .q 0 0, .q 0 0, .q 0 0, .q 0 0, .q 0 0, .q 0 0, .q 0 0, .q 0 0, .q 0 0, .q 0 0, .q 0 0, .q 0 0, .q 0 0, .q 0 0, .q 0 0, .q 0 0] : List DK).getD q' (.q 0 0), [], none, fun q' => ([[(3, none)], [(6, some 0)], [(2, none)], [(8, some 2)], [(9, some 3)], [(10, some 4)], [(11, some 5), (7, some 1)], [(12, some 6)], [(13, some 7)], [], [], [], [], [], [], [], [], [], [], [], [], [], [(14, some 8)]] : List (List (Nat × Option Nat))).getD q' []⟩ rfl mixed (by kernel_rfl) rfl rfl ⟨?_, ?_, ?_, ?_, ?_, ?_, ?_, ?_, ?_, ?_, ?_, ?_, ?_, ?_, ?_, ?_, ?_, ?_, ?_, ?_, ?_, ?_, ?_, trivial⟩ rfl ?_
    · exact Draw.step.q1 0 rfl rfl fun s' bb hs hl => ⟨_, rfl, AOp.fieldPtr (k := 1) (d := 0) (e := 0) rfl rfl (hl 3 none _ (.head _) rfl) fo33_0⟩
    · exact Draw.step.q1 0 rfl rfl fun s' bb hs hl => ⟨_, rfl, AOp.loadPtr1 rfl rfl (hl 6 (some 0) _ (.head _) rfl) (by rw [hs]; rfl) sh3 rfl⟩
    · exact Draw.step.q1 0 rfl rfl fun s' bb hs hl => ⟨_, rfl, AOp.fieldPtr (k := 0) (d := 0) (e := 0) rfl rfl (hl 2 none _ (.head _) rfl) fo31_0⟩
    · exact Draw.step.q1 0 rfl rfl fun s' bb hs hl => ⟨_, rfl, AOp.loadPtr1 rfl rfl (hl 8 (some 2) _ (.head _) rfl) (by rw [hs]; rfl) sh29 rfl⟩
    · exact Draw.step.q1 0 rfl rfl fun s' bb hs hl => ⟨_, rfl, AOp.lenN rfl rfl (hl 9 (some 3) _ (.head _) rfl) rfl el29 (GPackage.trs_len _)⟩
    · exact Draw.step.q1 0 rfl rfl fun s' bb hs hl => ⟨_, rfl, AOp.subI rfl rfl (hl 10 (some 4) _ (.head _) rfl) rfl (c := ((w.gPackages.length : Nat) : Int) - 1) (by omega) (by omega)⟩
    · exact Draw.step.q1 0 rfl rfl fun s' bb hs hl => ⟨_, rfl, AOp.callF (ps := [_, _, _]) rfl rfl Tryz.func137 (by kernel_rfl) rfl (evs_cons (hl 7 (some 1) _ (.tail _ (.head _)) rfl) (evs_cons rfl (evs_cons (hl 11 (some 5) _ (.head _) rfl) rfl))) leA rfl rfl (in_ok o.gPackage 0 (((w.gPackages.length : Nat) : Int) - 1))⟩
    · exact Draw.step.q1 0 rfl rfl fun s' bb hs hl => ⟨_, rfl, AOp.notB rfl rfl (hl 12 (some 6) _ (.head _) rfl)⟩
    · exact Draw.step.q1 0 rfl rfl fun s' bb hs hl => ⟨_, rfl, AOp.move (.inl rfl) rfl (hl 13 (some 7) _ (.head _) rfl)⟩
    · exact .inr ⟨(congrArg (fun b => some (b == false)) g2), rfl, ⟨_, _, rfl⟩, fun d hd => by cases hd; rfl⟩
    · exact .inr ⟨(congrArg (fun b => some (b == false)) g2), rfl, ⟨_, _, rfl⟩, fun d hd => by cases hd; rfl⟩
    · exact .inr ⟨(congrArg (fun b => some (b == false)) g2), rfl, ⟨_, _, rfl⟩, fun d hd => by cases hd; rfl⟩
    · exact .inr ⟨(congrArg (fun b => some (b == false)) g2), rfl, ⟨_, _, rfl⟩, fun d hd => by cases hd; rfl⟩
    · exact .inr ⟨(congrArg (fun b => some (b == false)) g2), rfl, ⟨_, _, rfl⟩, fun d hd => by cases hd; rfl⟩
    · exact .inr ⟨(congrArg (fun b => some (b == false)) g2), rfl, ⟨_, _, rfl⟩, fun d hd => by cases hd; rfl⟩
    · exact .inr ⟨(congrArg (fun b => some (b == false)) g2), rfl, ⟨_, _, rfl⟩, fun d hd => by cases hd; rfl⟩
    · exact .inr ⟨(congrArg (fun b => some (b == false)) g2), rfl, ⟨_, _, rfl⟩, fun d hd => by cases hd; rfl⟩
    · exact .inr ⟨(congrArg (fun b => some (b == false)) g2), rfl, ⟨_, _, rfl⟩, fun d hd => by cases hd; rfl⟩
    · exact .inr ⟨(congrArg (fun b => some (b == false)) g2), rfl, ⟨_, _, rfl⟩, fun d hd => by cases hd; rfl⟩
    · exact .inr ⟨(congrArg (fun b => some (b == false)) g2), rfl, ⟨_, _, rfl⟩, fun d hd => by cases hd; rfl⟩
    · exact .inr ⟨(congrArg (fun b => some (b == false)) g2), rfl, ⟨_, _, rfl⟩, fun d hd => by cases hd; rfl⟩
    · exact .inr ⟨(congrArg (fun b => some (b == false)) g2), rfl, ⟨_, _, rfl⟩, fun d hd => by cases hd; rfl⟩
    · exact Draw.step.q1 0 rfl rfl fun s' bb hs hl => ⟨_, rfl, AOp.pickT rfl rfl (hl 14 (some 8) _ (.head _) rfl) g2 rfl⟩
    refine AWP.cond rfl (fun h3 => ?_) (fun h3 => ?_)
    · have h3b := h3
      try simp only [Bool.and_eq_true, Bool.or_eq_true, Bool.and_eq_false_iff, Bool.or_eq_false_iff, decide_eq_true_eq, decide_eq_false_iff_not, Bool.not_eq_true', Bool.not_eq_false', Bool.not_eq_eq_eq_not, Bool.not_true, Bool.not_false, ge_iff_le, gt_iff_lt, Int.not_lt, Int.not_le] at h3b
      refine AWP.seq ?_; refine AWP.region_lit ?_; refine AL.cons rfl (AOp.build rfl rfl zr113 pl113 rfl rfl) ?_; refine AL.cons rfl (AOp.storePtr (cs := [.t (.leaf (.string (⟨#[]⟩))), .nil, .t (.leaf (.int .i64 (0))), .t (.leaf (.string (⟨#[]⟩))), .nil, .nil, .t (.leaf (.bool (false))), .t (.leaf (.bool (false))), .t (.leaf (.int .i64 (0))), .t (.leaf (.string (⟨#[]⟩))), .nil, .nil]) (ds := [.t (.leaf (.string (⟨#[]⟩))), .nil, .t (.leaf (.int .i64 (0))), .t (.leaf (.string (⟨#[]⟩))), .nil, .nil, .t (.leaf (.bool (false))), .t (.leaf (.bool (false))), .t (.leaf (.int .i64 (0))), .t (.leaf (.string (⟨#[]⟩))), .nil, .nil]) rfl rfl rfl rfl rfl rfl rfl sz113 (Nat.le_of_ble_eq_true rfl) rfl) ?_; refine AL.cons rfl (AOp.move (.inr rfl) rfl rfl) ?_; refine AL.nil ?_; refine AWP.ret ?_; exact Ends.mk (ps := [_, _]) (.inr rfl) ⟨⟨_, _, _, rfl, rfl, sh113, rfl, rfl⟩, rfl, trivial⟩ rfl (StLe.mk' (st' := ⟨[], []⟩) trivial rfl) (keeps_nil hC) (q := PV.tup [GInstance.pv GInstance.zero, .t (.leaf (.bool (false)))]) leA rfl ⟨by exact optInst_none (by first | exact instAt_m1 (by omega) | exact instAt_m2 (by omega) (by omega)), rfl⟩
    · exact absurd (h3.symm.trans rfl) (by decide)
  · have g2b := g2
    try simp only [Bool.and_eq_true, Bool.or_eq_true, Bool.and_eq_false_iff, Bool.or_eq_false_iff, decide_eq_true_eq, decide_eq_false_iff_not, Bool.not_eq_true', Bool.not_eq_false', Bool.not_eq_eq_eq_not, Bool.not_true, Bool.not_false, ge_iff_le, gt_iff_lt, Int.not_lt, Int.not_le] at g2b
    have hn4 : (o.gPackage).toNat < w.gPackages.length := by omega
    refine AWP.fact (box_len2 0 0 rfl rfl rfl (GPackage.trs_cs hn4) (j2 := 4) rfl (GInstance.trs_len _)) (fun hl5 => ?_)
    refine AWP.drawnL ⟨_, _, fun _ _ => (⟨[some ⟨31, [.t (.row 6 (GPackage.trs (w.gPackages)))]⟩, some ⟨33, [.t (.leaf (.int .i64 (o.gPackage))), .t (.leaf (.int .i64 (o.gAt)))]⟩, some ⟨113, [.t (.leaf (.string (⟨#[]⟩))), .nil, .t (.leaf (.int .i64 (0))), .t (.leaf (.string (⟨#[]⟩))), .nil, .nil, .t (.leaf (.bool (false))), .t (.leaf (.bool (false))), .t (.leaf (.int .i64 (0))), .t (.leaf (.string (⟨#[]⟩))), .nil, .nil]⟩], []⟩ : Sto), fun q' => ([some (.ptr 1 0), some (.t (.leaf (.int .i64 (o.gPackage)))), some (.ptr 0 0), some (.t (.row 6 (GPackage.trs (w.gPackages)))), some (.t (.leaf (.int .i64 (((w.gPackages.length : Nat) : Int))))), some (.t (.leaf (.int .i64 (((w.gPackages.length : Nat) : Int) - 1)))), some (.t (.leaf (.bool (decide ((o.gPackage : Int) ≥ 0) && decide ((o.gPackage : Int) ≤ (((w.gPackages.length : Nat) : Int) - 1)))))), some (.t (.leaf (.bool (!(decide ((o.gPackage : Int) ≥ 0) && decide ((o.gPackage : Int) ≤ (((w.gPackages.length : Nat) : Int) - 1))))))), some (.t (.leaf (.bool (!(decide ((o.gPackage : Int) ≥ 0) && decide ((o.gPackage : Int) ≤ (((w.gPackages.length : Nat) : Int) - 1))))))), some (.ptr 1 1), some (.t (.leaf (.int .i64 (o.gAt)))), some (.ptr 0 0), some (.t (.row 6 (GPackage.trs (w.gPackages)))), some (.ptr 1 0), some (.t (.leaf (.int .i64 (o.gPackage)))), some (.eptr (GPackage.cs (w.gPackages[(o.gPackage).toNat]))), some (.eptr ((GPackage.cs (w.gPackages[(o.gPackage).toNat])).drop 4)), some (.t (.row 12 (GInstance.trs ((w.gPackages[(o.gPackage).toNat]).gInstances)))), some (.t (.leaf (.int .i64 (((((w.gPackages[(o.gPackage).toNat]).gInstances).length : Nat) : Int))))), some (.t (.leaf (.int .i64 (((((w.gPackages[(o.gPackage).toNat]).gInstances).length : Nat) : Int) - 1)))), some (.t (.leaf (.bool (decide ((o.gAt : Int) ≥ 0) && decide ((o.gAt : Int) ≤ (((((w.gPackages[(o.gPackage).toNat]).gInstances).length : Nat) : Int) - 1)))))), some (.t (.leaf (.bool (!(decide ((o.gAt : Int) ≥ 0) && decide ((o.gAt : Int) ≤ (((((w.gPackages[(o.gPackage).toNat]).gInstances).length : Nat) : Int) - 1))))))), some (.t (.leaf (.bool (!(decide ((o.gAt : Int) ≥ 0) && decide ((o.gAt : Int) ≤ (((((w.gPackages[(o.gPackage).toNat]).gInstances).length : Nat) : Int) - 1)))))))] : List (Option PV)).getD q' none, fun q' => ([.q 0 0, .q 0 0, .q 0 0, .q 0 0, .q 0 0, .q 0 0, .q 0 0, .q 0 0, .q 0 0, .q 0 0, .q 0 0, .q 0 0, .q 0 0, .q 0 0, .q 0 0, .q 0 0, .q 0 0, .q 0 0, .q 0 0, .q 0 0, .q 0 0, .q 0 0, .q 0 0] : List DK).getD q' (.q 0 0), [], none, fun q' => ([[(3, none)], [(6, some 0)], [(2, none)], [(8, some 2)], [(9, some 3)], [(10, some 4)], [(11, some 5), (7, some 1)], [(12, some 6)], [(13, some 7)], [(3, none)], [(15, some 9)], [(2, none)], [(17, some 11)], [(3, none)], [(19, some 13)], [(18, some 12), (20, some 14)], [(21, some 15)], [(22, some 16)], [(23, some 17)], [(24, some 18)], [(25, some 19), (16, some 10)], [(26, some 20)], [(14, some 8), (27, some 21)]] : List (List (Nat × Option Nat))).getD q' []⟩ rfl mixed (by kernel_rfl) rfl rfl ⟨?_, ?_, ?_, ?_, ?_, ?_, ?_, ?_, ?_, ?_, ?_, ?_, ?_, ?_, ?_, ?_, ?_, ?_, ?_, ?_, ?_, ?_, ?_, trivial⟩ rfl ?_
    · exact Draw.step.q1 0 rfl rfl fun s' bb hs hl => ⟨_, rfl, AOp.fieldPtr (k := 1) (d := 0) (e := 0) rfl rfl (hl 3 none _ (.head _) rfl) fo33_0⟩
    · exact Draw.step.q1 0 rfl rfl fun s' bb hs hl => ⟨_, rfl, AOp.loadPtr1 rfl rfl (hl 6 (some 0) _ (.head _) rfl) (by rw [hs]; rfl) sh3 rfl⟩
    · exact Draw.step.q1 0 rfl rfl fun s' bb hs hl => ⟨_, rfl, AOp.fieldPtr (k := 0) (d := 0) (e := 0) rfl rfl (hl 2 none _ (.head _) rfl) fo31_0⟩
    · exact Draw.step.q1 0 rfl rfl fun s' bb hs hl => ⟨_, rfl, AOp.loadPtr1 rfl rfl (hl 8 (some 2) _ (.head _) rfl) (by rw [hs]; rfl) sh29 rfl⟩
    · exact Draw.step.q1 0 rfl rfl fun s' bb hs hl => ⟨_, rfl, AOp.lenN rfl rfl (hl 9 (some 3) _ (.head _) rfl) rfl el29 (GPackage.trs_len _)⟩
    · exact Draw.step.q1 0 rfl rfl fun s' bb hs hl => ⟨_, rfl, AOp.subI rfl rfl (hl 10 (some 4) _ (.head _) rfl) rfl (c := ((w.gPackages.length : Nat) : Int) - 1) (by omega) (by omega)⟩
    · exact Draw.step.q1 0 rfl rfl fun s' bb hs hl => ⟨_, rfl, AOp.callF (ps := [_, _, _]) rfl rfl Tryz.func137 (by kernel_rfl) rfl (evs_cons (hl 7 (some 1) _ (.tail _ (.head _)) rfl) (evs_cons rfl (evs_cons (hl 11 (some 5) _ (.head _) rfl) rfl))) leA rfl rfl (in_ok o.gPackage 0 (((w.gPackages.length : Nat) : Int) - 1))⟩
    · exact Draw.step.q1 0 rfl rfl fun s' bb hs hl => ⟨_, rfl, AOp.notB rfl rfl (hl 12 (some 6) _ (.head _) rfl)⟩
    · exact Draw.step.q1 0 rfl rfl fun s' bb hs hl => ⟨_, rfl, AOp.move (.inl rfl) rfl (hl 13 (some 7) _ (.head _) rfl)⟩
    · exact Draw.step.q1 0 (congrArg (fun b => some (b == false)) g2) rfl fun s' bb hs hl => ⟨_, rfl, AOp.fieldPtr (k := 1) (d := 0) (e := 1) rfl rfl (hl 3 none _ (.head _) rfl) fo33_1⟩
    · exact Draw.step.q1 0 (congrArg (fun b => some (b == false)) g2) rfl fun s' bb hs hl => ⟨_, rfl, AOp.loadPtr1 rfl rfl (hl 15 (some 9) _ (.head _) rfl) (by rw [hs]; rfl) sh3 rfl⟩
    · exact Draw.step.q1 0 (congrArg (fun b => some (b == false)) g2) rfl fun s' bb hs hl => ⟨_, rfl, AOp.fieldPtr (k := 0) (d := 0) (e := 0) rfl rfl (hl 2 none _ (.head _) rfl) fo31_0⟩
    · exact Draw.step.q1 0 (congrArg (fun b => some (b == false)) g2) rfl fun s' bb hs hl => ⟨_, rfl, AOp.loadPtr1 rfl rfl (hl 17 (some 11) _ (.head _) rfl) (by rw [hs]; rfl) sh29 rfl⟩
    · exact Draw.step.q1 0 (congrArg (fun b => some (b == false)) g2) rfl fun s' bb hs hl => ⟨_, rfl, AOp.fieldPtr (k := 1) (d := 0) (e := 0) rfl rfl (hl 3 none _ (.head _) rfl) fo33_0⟩
    · exact Draw.step.q1 0 (congrArg (fun b => some (b == false)) g2) rfl fun s' bb hs hl => ⟨_, rfl, AOp.loadPtr1 rfl rfl (hl 19 (some 13) _ (.head _) rfl) (by rw [hs]; rfl) sh3 rfl⟩
    · exact Draw.step.q1 0 (congrArg (fun b => some (b == false)) g2) rfl fun s' bb hs hl => ⟨_, rfl, AOp.indexI (y := o.gPackage) rfl rfl (hl 18 (some 12) _ (.head _) rfl) rfl (hl 20 (some 14) _ (.tail _ (.head _)) rfl) (by omega) (GPackage.trs_cs hn4) el29⟩
    · exact Draw.step.q1 0 (congrArg (fun b => some (b == false)) g2) rfl fun s' bb hs hl => ⟨_, rfl, AOp.fieldEptr (cs := (GPackage.cs (w.gPackages[(o.gPackage).toNat]))) (e := 4) rfl rfl (hl 21 (some 15) _ (.head _) rfl) fo126_4⟩
    · exact Draw.step.q1 0 (congrArg (fun b => some (b == false)) g2) rfl fun s' bb hs hl => ⟨_, rfl, AOp.loadEptr1 (d := .row 12 (GInstance.trs ((w.gPackages[(o.gPackage).toNat]).gInstances))) rfl rfl (hl 22 (some 16) _ (.head _) rfl) sh123 rfl⟩
    · exact Draw.step.q1 0 (congrArg (fun b => some (b == false)) g2) rfl fun s' bb hs hl => ⟨_, rfl, AOp.lenN rfl rfl (hl 23 (some 17) _ (.head _) rfl) rfl el123 (GInstance.trs_len _)⟩
    · exact Draw.step.q1 0 (congrArg (fun b => some (b == false)) g2) rfl fun s' bb hs hl => ⟨_, rfl, AOp.subI rfl rfl (hl 24 (some 18) _ (.head _) rfl) rfl (c := ((((w.gPackages[(o.gPackage).toNat]).gInstances).length : Nat) : Int) - 1) (by omega) (by omega)⟩
    · exact Draw.step.q1 0 (congrArg (fun b => some (b == false)) g2) rfl fun s' bb hs hl => ⟨_, rfl, AOp.callF (ps := [_, _, _]) rfl rfl Tryz.func137 (by kernel_rfl) rfl (evs_cons (hl 16 (some 10) _ (.tail _ (.head _)) rfl) (evs_cons rfl (evs_cons (hl 25 (some 19) _ (.head _) rfl) rfl))) leA rfl rfl (in_ok o.gAt 0 (((((w.gPackages[(o.gPackage).toNat]).gInstances).length : Nat) : Int) - 1))⟩
    · exact Draw.step.q1 0 (congrArg (fun b => some (b == false)) g2) rfl fun s' bb hs hl => ⟨_, rfl, AOp.notB rfl rfl (hl 26 (some 20) _ (.head _) rfl)⟩
    · exact Draw.step.q1 0 rfl rfl fun s' bb hs hl => ⟨_, rfl, AOp.pickF rfl rfl (hl 14 (some 8) _ (.head _) rfl) g2 (hl 27 (some 21) _ (.tail _ (.head _)) rfl)⟩
    refine AWP.cond rfl (fun h6 => ?_) (fun h6 => ?_)
    · have h6b := h6
      try simp only [Bool.and_eq_true, Bool.or_eq_true, Bool.and_eq_false_iff, Bool.or_eq_false_iff, decide_eq_true_eq, decide_eq_false_iff_not, Bool.not_eq_true', Bool.not_eq_false', Bool.not_eq_eq_eq_not, Bool.not_true, Bool.not_false, ge_iff_le, gt_iff_lt, Int.not_lt, Int.not_le] at h6b
      refine AWP.seq ?_; refine AWP.region_lit ?_; refine AL.cons rfl (AOp.build rfl rfl zr113 pl113 rfl rfl) ?_; refine AL.cons rfl (AOp.storePtr (cs := [.t (.leaf (.string (⟨#[]⟩))), .nil, .t (.leaf (.int .i64 (0))), .t (.leaf (.string (⟨#[]⟩))), .nil, .nil, .t (.leaf (.bool (false))), .t (.leaf (.bool (false))), .t (.leaf (.int .i64 (0))), .t (.leaf (.string (⟨#[]⟩))), .nil, .nil]) (ds := [.t (.leaf (.string (⟨#[]⟩))), .nil, .t (.leaf (.int .i64 (0))), .t (.leaf (.string (⟨#[]⟩))), .nil, .nil, .t (.leaf (.bool (false))), .t (.leaf (.bool (false))), .t (.leaf (.int .i64 (0))), .t (.leaf (.string (⟨#[]⟩))), .nil, .nil]) rfl rfl rfl rfl rfl rfl rfl sz113 (Nat.le_of_ble_eq_true rfl) rfl) ?_; refine AL.cons rfl (AOp.move (.inr rfl) rfl rfl) ?_; refine AL.nil ?_; refine AWP.ret ?_; exact Ends.mk (ps := [_, _]) (.inr rfl) ⟨⟨_, _, _, rfl, rfl, sh113, rfl, rfl⟩, rfl, trivial⟩ rfl (StLe.mk' (st' := ⟨[], []⟩) trivial rfl) (keeps_nil hC) (q := PV.tup [GInstance.pv GInstance.zero, .t (.leaf (.bool (false)))]) leA rfl ⟨by exact optInst_none (by first | exact instAt_m1 (by omega) | exact instAt_m2 (by omega) (by omega)), rfl⟩
    · have h6b := h6
      try simp only [Bool.and_eq_true, Bool.or_eq_true, Bool.and_eq_false_iff, Bool.or_eq_false_iff, decide_eq_true_eq, decide_eq_false_iff_not, Bool.not_eq_true', Bool.not_eq_false', Bool.not_eq_eq_eq_not, Bool.not_true, Bool.not_false, ge_iff_le, gt_iff_lt, Int.not_lt, Int.not_le] at h6b
      refine AWP.skip ?_; refine AWP.seq ?_
      have hn7 : (o.gAt).toNat < ((w.gPackages[(o.gPackage).toNat]).gInstances).length := by omega
      refine AWP.drawnL ⟨_, _, fun j' _ => ([(⟨[some ⟨31, [.t (.row 6 (GPackage.trs (w.gPackages)))]⟩, some ⟨33, [.t (.leaf (.int .i64 (o.gPackage))), .t (.leaf (.int .i64 (o.gAt)))]⟩, some ⟨113, [.t (.leaf (.string (⟨#[]⟩))), .nil, .t (.leaf (.int .i64 (0))), .t (.leaf (.string (⟨#[]⟩))), .nil, .nil, .t (.leaf (.bool (false))), .t (.leaf (.bool (false))), .t (.leaf (.int .i64 (0))), .t (.leaf (.string (⟨#[]⟩))), .nil, .nil]⟩], []⟩ : Sto), (⟨[some ⟨31, [.t (.row 6 (GPackage.trs (w.gPackages)))]⟩, some ⟨33, [.t (.leaf (.int .i64 (o.gPackage))), .t (.leaf (.int .i64 (o.gAt)))]⟩, some ⟨113, [.t (.leaf (.string ((((w.gPackages[(o.gPackage).toNat]).gInstances)[(o.gAt).toNat]).gTrait))), .t (.row 1 (strTrs ((((w.gPackages[(o.gPackage).toNat]).gInstances)[(o.gAt).toNat]).gVars))), .t (.leaf (.int .i64 ((((w.gPackages[(o.gPackage).toNat]).gInstances)[(o.gAt).toNat]).gHead.gKind))), .t (.leaf (.string ((((w.gPackages[(o.gPackage).toNat]).gInstances)[(o.gAt).toNat]).gHead.gName))), .t (.row 3 (GType.trs ((((w.gPackages[(o.gPackage).toNat]).gInstances)[(o.gAt).toNat]).gHead.gArgs))), .t (.row 4 (GBound.trs ((((w.gPackages[(o.gPackage).toNat]).gInstances)[(o.gAt).toNat]).gWhere))), .t (.leaf (.bool ((((w.gPackages[(o.gPackage).toNat]).gInstances)[(o.gAt).toNat]).gDefault))), .t (.leaf (.bool ((((w.gPackages[(o.gPackage).toNat]).gInstances)[(o.gAt).toNat]).gHasAssoc))), .t (.leaf (.int .i64 ((((w.gPackages[(o.gPackage).toNat]).gInstances)[(o.gAt).toNat]).gAssoc.gKind))), .t (.leaf (.string ((((w.gPackages[(o.gPackage).toNat]).gInstances)[(o.gAt).toNat]).gAssoc.gName))), .t (.row 3 (GType.trs ((((w.gPackages[(o.gPackage).toNat]).gInstances)[(o.gAt).toNat]).gAssoc.gArgs))), .t (.row 11 (GMethod.trs ((((w.gPackages[(o.gPackage).toNat]).gInstances)[(o.gAt).toNat]).gMethods)))]⟩], []⟩ : Sto)] : List Sto).getD j' (⟨[some ⟨31, [.t (.row 6 (GPackage.trs (w.gPackages)))]⟩, some ⟨33, [.t (.leaf (.int .i64 (o.gPackage))), .t (.leaf (.int .i64 (o.gAt)))]⟩, some ⟨113, [.t (.leaf (.string ((((w.gPackages[(o.gPackage).toNat]).gInstances)[(o.gAt).toNat]).gTrait))), .t (.row 1 (strTrs ((((w.gPackages[(o.gPackage).toNat]).gInstances)[(o.gAt).toNat]).gVars))), .t (.leaf (.int .i64 ((((w.gPackages[(o.gPackage).toNat]).gInstances)[(o.gAt).toNat]).gHead.gKind))), .t (.leaf (.string ((((w.gPackages[(o.gPackage).toNat]).gInstances)[(o.gAt).toNat]).gHead.gName))), .t (.row 3 (GType.trs ((((w.gPackages[(o.gPackage).toNat]).gInstances)[(o.gAt).toNat]).gHead.gArgs))), .t (.row 4 (GBound.trs ((((w.gPackages[(o.gPackage).toNat]).gInstances)[(o.gAt).toNat]).gWhere))), .t (.leaf (.bool ((((w.gPackages[(o.gPackage).toNat]).gInstances)[(o.gAt).toNat]).gDefault))), .t (.leaf (.bool ((((w.gPackages[(o.gPackage).toNat]).gInstances)[(o.gAt).toNat]).gHasAssoc))), .t (.leaf (.int .i64 ((((w.gPackages[(o.gPackage).toNat]).gInstances)[(o.gAt).toNat]).gAssoc.gKind))), .t (.leaf (.string ((((w.gPackages[(o.gPackage).toNat]).gInstances)[(o.gAt).toNat]).gAssoc.gName))), .t (.row 3 (GType.trs ((((w.gPackages[(o.gPackage).toNat]).gInstances)[(o.gAt).toNat]).gAssoc.gArgs))), .t (.row 11 (GMethod.trs ((((w.gPackages[(o.gPackage).toNat]).gInstances)[(o.gAt).toNat]).gMethods)))]⟩], []⟩ : Sto), fun q' => ([some (.ptr 0 0), some (.t (.row 6 (GPackage.trs (w.gPackages)))), some (.ptr 1 0), some (.t (.leaf (.int .i64 (o.gPackage)))), some (.eptr (GPackage.cs (w.gPackages[(o.gPackage).toNat]))), some (.eptr ((GPackage.cs (w.gPackages[(o.gPackage).toNat])).drop 4)), some (.t (.row 12 (GInstance.trs ((w.gPackages[(o.gPackage).toNat]).gInstances)))), some (.ptr 1 1), some (.t (.leaf (.int .i64 (o.gAt)))), some (.eptr (GInstance.cs (((w.gPackages[(o.gPackage).toNat]).gInstances)[(o.gAt).toNat]))), some ((GInstance.pv (((w.gPackages[(o.gPackage).toNat]).gInstances)[(o.gAt).toNat]))), none, some (.t (.leaf (.bool (true))))] : List (Option PV)).getD q' none, fun q' => ([.q 0 0, .q 0 0, .q 0 0, .q 0 0, .q 0 0, .q 0 0, .q 0 0, .q 0 0, .q 0 0, .q 0 0, .q 0 0, .ef 0, .q 1 1] : List DK).getD q' (.q 0 0), [11], none, fun q' => ([[(2, none)], [(30, some 0)], [(3, none)], [(32, some 2)], [(31, some 1), (33, some 3)], [(34, some 4)], [(35, some 5)], [(3, none)], [(37, some 7)], [(36, some 6), (38, some 8)], [(39, some 9)], [(4, none), (40, some 10)], []] : List (List (Nat × Option Nat))).getD q' []⟩ rfl mixed (by kernel_rfl) rfl rfl ⟨?_, ?_, ?_, ?_, ?_, ?_, ?_, ?_, ?_, ?_, ?_, ?_, ?_, trivial⟩ rfl ?_
      · exact Draw.step.q1 0 rfl rfl fun s' bb hs hl => ⟨_, rfl, AOp.fieldPtr (k := 0) (d := 0) (e := 0) rfl rfl (hl 2 none _ (.head _) rfl) fo31_0⟩
      · exact Draw.step.q1 0 rfl rfl fun s' bb hs hl => ⟨_, rfl, AOp.loadPtr1 rfl rfl (hl 30 (some 0) _ (.head _) rfl) (by rw [hs]; rfl) sh29 rfl⟩
      · exact Draw.step.q1 0 rfl rfl fun s' bb hs hl => ⟨_, rfl, AOp.fieldPtr (k := 1) (d := 0) (e := 0) rfl rfl (hl 3 none _ (.head _) rfl) fo33_0⟩
      · exact Draw.step.q1 0 rfl rfl fun s' bb hs hl => ⟨_, rfl, AOp.loadPtr1 rfl rfl (hl 32 (some 2) _ (.head _) rfl) (by rw [hs]; rfl) sh3 rfl⟩
      · exact Draw.step.q1 0 rfl rfl fun s' bb hs hl => ⟨_, rfl, AOp.indexI (y := o.gPackage) rfl rfl (hl 31 (some 1) _ (.head _) rfl) rfl (hl 33 (some 3) _ (.tail _ (.head _)) rfl) (by omega) (GPackage.trs_cs hn4) el29⟩
      · exact Draw.step.q1 0 rfl rfl fun s' bb hs hl => ⟨_, rfl, AOp.fieldEptr (cs := (GPackage.cs (w.gPackages[(o.gPackage).toNat]))) (e := 4) rfl rfl (hl 34 (some 4) _ (.head _) rfl) fo126_4⟩
      · exact Draw.step.q1 0 rfl rfl fun s' bb hs hl => ⟨_, rfl, AOp.loadEptr1 (d := .row 12 (GInstance.trs ((w.gPackages[(o.gPackage).toNat]).gInstances))) rfl rfl (hl 35 (some 5) _ (.head _) rfl) sh123 rfl⟩
      · exact Draw.step.q1 0 rfl rfl fun s' bb hs hl => ⟨_, rfl, AOp.fieldPtr (k := 1) (d := 0) (e := 1) rfl rfl (hl 3 none _ (.head _) rfl) fo33_1⟩
      · exact Draw.step.q1 0 rfl rfl fun s' bb hs hl => ⟨_, rfl, AOp.loadPtr1 rfl rfl (hl 37 (some 7) _ (.head _) rfl) (by rw [hs]; rfl) sh3 rfl⟩
      · exact Draw.step.q1 0 rfl rfl fun s' bb hs hl => ⟨_, rfl, AOp.indexI (y := o.gAt) rfl rfl (hl 36 (some 6) _ (.head _) rfl) rfl (hl 38 (some 8) _ (.tail _ (.head _)) rfl) (by omega) (GInstance.trs_cs hn7) el123⟩
      · exact Draw.step.q1 0 rfl rfl fun s' bb hs hl => ⟨_, rfl, AOp.loadEptr (ds := [.leaf (.string ((((w.gPackages[(o.gPackage).toNat]).gInstances)[(o.gAt).toNat]).gTrait)), .row 1 (strTrs ((((w.gPackages[(o.gPackage).toNat]).gInstances)[(o.gAt).toNat]).gVars)), .leaf (.int .i64 ((((w.gPackages[(o.gPackage).toNat]).gInstances)[(o.gAt).toNat]).gHead.gKind)), .leaf (.string ((((w.gPackages[(o.gPackage).toNat]).gInstances)[(o.gAt).toNat]).gHead.gName)), .row 3 (GType.trs ((((w.gPackages[(o.gPackage).toNat]).gInstances)[(o.gAt).toNat]).gHead.gArgs)), .row 4 (GBound.trs ((((w.gPackages[(o.gPackage).toNat]).gInstances)[(o.gAt).toNat]).gWhere)), .leaf (.bool ((((w.gPackages[(o.gPackage).toNat]).gInstances)[(o.gAt).toNat]).gDefault)), .leaf (.bool ((((w.gPackages[(o.gPackage).toNat]).gInstances)[(o.gAt).toNat]).gHasAssoc)), .leaf (.int .i64 ((((w.gPackages[(o.gPackage).toNat]).gInstances)[(o.gAt).toNat]).gAssoc.gKind)), .leaf (.string ((((w.gPackages[(o.gPackage).toNat]).gInstances)[(o.gAt).toNat]).gAssoc.gName)), .row 3 (GType.trs ((((w.gPackages[(o.gPackage).toNat]).gInstances)[(o.gAt).toNat]).gAssoc.gArgs)), .row 11 (GMethod.trs ((((w.gPackages[(o.gPackage).toNat]).gInstances)[(o.gAt).toNat]).gMethods))]) rfl rfl (hl 39 (some 9) _ (.head _) rfl) sh113 rfl rfl⟩
      · refine .inl ⟨rfl, fun s' bb hs hl => ?_⟩
        refine .inr ⟨rfl, AOp.congr (AOp.storePtr (cs := [.t (.leaf (.string ((((w.gPackages[(o.gPackage).toNat]).gInstances)[(o.gAt).toNat]).gTrait))), .t (.row 1 (strTrs ((((w.gPackages[(o.gPackage).toNat]).gInstances)[(o.gAt).toNat]).gVars))), .t (.leaf (.int .i64 ((((w.gPackages[(o.gPackage).toNat]).gInstances)[(o.gAt).toNat]).gHead.gKind))), .t (.leaf (.string ((((w.gPackages[(o.gPackage).toNat]).gInstances)[(o.gAt).toNat]).gHead.gName))), .t (.row 3 (GType.trs ((((w.gPackages[(o.gPackage).toNat]).gInstances)[(o.gAt).toNat]).gHead.gArgs))), .t (.row 4 (GBound.trs ((((w.gPackages[(o.gPackage).toNat]).gInstances)[(o.gAt).toNat]).gWhere))), .t (.leaf (.bool ((((w.gPackages[(o.gPackage).toNat]).gInstances)[(o.gAt).toNat]).gDefault))), .t (.leaf (.bool ((((w.gPackages[(o.gPackage).toNat]).gInstances)[(o.gAt).toNat]).gHasAssoc))), .t (.leaf (.int .i64 ((((w.gPackages[(o.gPackage).toNat]).gInstances)[(o.gAt).toNat]).gAssoc.gKind))), .t (.leaf (.string ((((w.gPackages[(o.gPackage).toNat]).gInstances)[(o.gAt).toNat]).gAssoc.gName))), .t (.row 3 (GType.trs ((((w.gPackages[(o.gPackage).toNat]).gInstances)[(o.gAt).toNat]).gAssoc.gArgs))), .t (.row 11 (GMethod.trs ((((w.gPackages[(o.gPackage).toNat]).gInstances)[(o.gAt).toNat]).gMethods)))]) (ds := [.t (.leaf (.string ((((w.gPackages[(o.gPackage).toNat]).gInstances)[(o.gAt).toNat]).gTrait))), .t (.row 1 (strTrs ((((w.gPackages[(o.gPackage).toNat]).gInstances)[(o.gAt).toNat]).gVars))), .t (.leaf (.int .i64 ((((w.gPackages[(o.gPackage).toNat]).gInstances)[(o.gAt).toNat]).gHead.gKind))), .t (.leaf (.string ((((w.gPackages[(o.gPackage).toNat]).gInstances)[(o.gAt).toNat]).gHead.gName))), .t (.row 3 (GType.trs ((((w.gPackages[(o.gPackage).toNat]).gInstances)[(o.gAt).toNat]).gHead.gArgs))), .t (.row 4 (GBound.trs ((((w.gPackages[(o.gPackage).toNat]).gInstances)[(o.gAt).toNat]).gWhere))), .t (.leaf (.bool ((((w.gPackages[(o.gPackage).toNat]).gInstances)[(o.gAt).toNat]).gDefault))), .t (.leaf (.bool ((((w.gPackages[(o.gPackage).toNat]).gInstances)[(o.gAt).toNat]).gHasAssoc))), .t (.leaf (.int .i64 ((((w.gPackages[(o.gPackage).toNat]).gInstances)[(o.gAt).toNat]).gAssoc.gKind))), .t (.leaf (.string ((((w.gPackages[(o.gPackage).toNat]).gInstances)[(o.gAt).toNat]).gAssoc.gName))), .t (.row 3 (GType.trs ((((w.gPackages[(o.gPackage).toNat]).gInstances)[(o.gAt).toNat]).gAssoc.gArgs))), .t (.row 11 (GMethod.trs ((((w.gPackages[(o.gPackage).toNat]).gInstances)[(o.gAt).toNat]).gMethods)))]) rfl (hl 4 none _ (.head _) rfl) (by rw [hs]; rfl) (hl 40 (some 10) _ (.tail _ (.head _)) rfl) rfl rfl rfl sz113 (Nat.le_of_ble_eq_true rfl) rfl) ?_⟩
        first | (rw [hs]; rfl) | rfl
      · exact Draw.step.q1 1 rfl rfl fun s' bb hs hl => ⟨_, rfl, AOp.move (.inr rfl) rfl rfl⟩
      refine AWP.ret ?_; exact Ends.mk (ps := [_, _]) (.inr rfl) ⟨⟨_, _, _, rfl, rfl, sh113, rfl, rfl⟩, rfl, trivial⟩ rfl (StLe.mk' (st' := ⟨[], []⟩) trivial rfl) (keeps_nil hC) (q := (.tup [(GInstance.pv (((w.gPackages[(o.gPackage).toNat]).gInstances)[(o.gAt).toNat])), .t (.leaf (.bool (true)))] : PV)) leA rfl ⟨by exact optInst_some (instAt_hit (by omega) (by omega) (by omega) (by omega)), rfl⟩

end Go.Proofs.YtnakkelglbcecaaGreat

namespace Go.Proofs.YtnakkelglbcecaaGreat
open Go.RowKit Go.Proofs
set_option linter.unusedSimpArgs false
set_option linter.unusedVariables false

attribute [local irreducible] lt

noncomputable def sApply_G (fu : Nat) (r_sApply : (List GBinding) → GType → Option GType) (r_sApplyAll : (List GBinding) → (List GType) → Option ((List GType))) (plist : List GBinding) (pt : GType) : Option GType :=
 sw (decide ((pt.gKind : Int) = 1))
 (gd (BOk plist)
 (sw (lookOk plist pt.gName)
 (some (lookTy plist pt.gName))
 (bd (r_sApplyAll plist pt.gArgs) (fun x7 =>
 some (GType.mk pt.gKind pt.gName x7)))))
 (bd (r_sApplyAll plist pt.gArgs) (fun x12 =>
 some (GType.mk pt.gKind pt.gName x12)))
set_option maxRecDepth 100000 in
set_option maxHeartbeats 4000000 in
theorem sApply_step (r_sApply : (List GBinding) → GType → Option GType) (r_sApplyAll : (List GBinding) → (List GType) → Option ((List GType))) (fu : Nat) (h_sApply : ∀ (plist : List GBinding) (pt : GType) (r : GType), r_sApply plist pt = some r → AFun Tryz.prog 103 [.t (.row 4 (GBinding.trs (plist))), (GType.pv pt)] ((GType.pv r) : PV)) (h_sApplyAll : ∀ (plist : List GBinding) (pall : List GType) (r : (List GType)), r_sApplyAll plist pall = some r → AFun Tryz.prog 158 [.t (.row 4 (GBinding.trs (plist))), .t (.row 3 (GType.trs (pall)))] (.t (.row 3 (GType.trs (r))) : PV)) (plist : List GBinding) (pt : GType) (r : GType) (H : sApply_G fu r_sApply r_sApplyAll plist pt = some r) : AFun Tryz.prog 103 [.t (.row 4 (GBinding.trs (plist))), (GType.pv pt)] ((GType.pv r) : PV) := by
  refine ACalls.intro Tryz.func103 rfl (by first | decide | (simp; done) | (simp; decide)) ?_; intro C hC
  refine AWP.fact (lk_lenN 0 rfl rfl (GBinding.trs_len _)) (fun hl1 => ?_)
  refine AWP.seq ?_; refine AWP.region_lit ?_; refine AL.cons rfl (AOp.box (cs := [.t (.leaf (.int .i64 (pt.gKind))), .t (.leaf (.string (pt.gName))), .t (.row 3 (GType.trs (pt.gArgs)))]) rfl rfl rfl rfl rfl) ?_; refine AL.cons rfl (AOp.alloc rfl rfl zr47) ?_; refine AL.nil ?_; refine AWP.seq ?_; refine AWP.seq ?_; refine AWP.region_lit ?_; refine AL.cons rfl (AOp.fieldPtr (k := 0) (d := 0) (e := 0) rfl rfl rfl fo47_0) ?_; refine AL.cons rfl (AOp.loadPtr1 rfl rfl rfl rfl sh3 rfl) ?_; refine AL.cons rfl (AOp.eqlI rfl rfl rfl rfl) ?_; refine AL.nil ?_; refine AWP.cond rfl (fun h2 => ?_) (fun h2 => ?_)
  · refine AWP.seq ?_; refine AWP.region_lit ?_; refine AL.cons rfl (AOp.move (.inl rfl) rfl rfl) ?_; refine AL.cons rfl (AOp.fieldPtr (k := 0) (d := 0) (e := 1) rfl rfl rfl fo47_1) ?_; refine AL.cons rfl (AOp.loadPtr1 rfl rfl rfl rfl sh9 rfl) ?_
    rcases Classical.em (BOk plist) with hg3 | hg3
    · refine AL.cons rfl (AOp.callF (res := .tup [(GType.pv (lookTy plist pt.gName)), .t (.leaf (.bool (lookOk plist pt.gName)))]) (ps := [_, _]) rfl rfl Tryz.func157 (by kernel_rfl) rfl rfl leA rfl rfl (sLook_fn plist pt.gName hg3)) ?_; refine AL.cons rfl (AOp.move (.inl rfl) rfl rfl) ?_; refine AL.cons rfl (AOp.extract rfl rfl rfl rfl) ?_; refine AL.cons rfl (AOp.extract rfl rfl rfl rfl) ?_; refine AL.cons rfl (AOp.alloc rfl rfl zr47) ?_; refine AL.cons rfl (AOp.storePtr (cs := [.t (.leaf (.int .i64 ((lookTy plist pt.gName).gKind))), .t (.leaf (.string ((lookTy plist pt.gName).gName))), .t (.row 3 (GType.trs ((lookTy plist pt.gName).gArgs)))]) (ds := [.t (.leaf (.int .i64 ((lookTy plist pt.gName).gKind))), .t (.leaf (.string ((lookTy plist pt.gName).gName))), .t (.row 3 (GType.trs ((lookTy plist pt.gName).gArgs)))]) rfl rfl rfl rfl rfl rfl rfl sz47 (Nat.le_of_ble_eq_true rfl) rfl) ?_; refine AL.cons rfl (AOp.move (.inr rfl) rfl rfl) ?_; refine AL.nil ?_; refine AWP.seq ?_; refine AWP.region_lit ?_; refine AL.cons rfl (AOp.move (.inl rfl) rfl rfl) ?_; refine AL.nil ?_; refine AWP.cond rfl (fun h4 => ?_) (fun h4 => ?_)
      · refine AWP.seq ?_; refine AWP.region_lit ?_; refine AL.cons rfl (AOp.loadPtr (cs := [.t (.leaf (.int .i64 ((lookTy plist pt.gName).gKind))), .t (.leaf (.string ((lookTy plist pt.gName).gName))), .t (.row 3 (GType.trs ((lookTy plist pt.gName).gArgs)))]) rfl rfl rfl rfl sh47 rfl rfl) ?_; refine AL.cons rfl (AOp.storePtr (cs := [.t (.leaf (.int .i64 ((lookTy plist pt.gName).gKind))), .t (.leaf (.string ((lookTy plist pt.gName).gName))), .t (.row 3 (GType.trs ((lookTy plist pt.gName).gArgs)))]) (ds := [.t (.leaf (.int .i64 ((lookTy plist pt.gName).gKind))), .t (.leaf (.string ((lookTy plist pt.gName).gName))), .t (.row 3 (GType.trs ((lookTy plist pt.gName).gArgs)))]) rfl rfl rfl rfl rfl rfl rfl sz47 (Nat.le_of_ble_eq_true rfl) rfl) ?_; refine AL.nil ?_; refine AWP.ret ?_
        have e5 : sApply_G fu r_sApply r_sApplyAll plist pt = some (lookTy plist pt.gName) := swT h2 (gdT hg3 (swT h4 (rfl)))
        have hz : (lookTy plist pt.gName) = r := Option.some.inj (e5.symm.trans H)
        subst hz
        exact Ends.mk (ps := [_]) (by first | exact .inr rfl | exact .inl rfl) ⟨⟨_, _, _, rfl, rfl, sh47, rfl, rfl⟩, trivial⟩ rfl (StLe.mk' (st' := ⟨[], []⟩) trivial rfl) (keeps_nil hC) (q := ((GType.pv (lookTy plist pt.gName)) : PV)) leA rfl ⟨rfl, rfl⟩
      · refine AWP.skip ?_; refine AWP.seq ?_
        rcases hq6 : r_sApplyAll plist pt.gArgs with _ | x7
        · have e8 : sApply_G fu r_sApply r_sApplyAll plist pt = none := swT h2 (gdT hg3 (swF h4 (bdN hq6)))
          exact none_some H e8
        · refine AWP.drawnL ⟨_, _, fun j' _ => ([(⟨[some ⟨47, [.t (.leaf (.int .i64 (pt.gKind))), .t (.leaf (.string (pt.gName))), .t (.row 3 (GType.trs (pt.gArgs)))]⟩, some ⟨47, [.t (.leaf (.int .i64 (0))), .t (.leaf (.string (⟨#[]⟩))), .nil]⟩, some ⟨47, [.t (.leaf (.int .i64 ((lookTy plist pt.gName).gKind))), .t (.leaf (.string ((lookTy plist pt.gName).gName))), .t (.row 3 (GType.trs ((lookTy plist pt.gName).gArgs)))]⟩], []⟩ : Sto), (⟨[some ⟨47, [.t (.leaf (.int .i64 (pt.gKind))), .t (.leaf (.string (pt.gName))), .t (.row 3 (GType.trs (pt.gArgs)))]⟩, some ⟨47, [.t (.leaf (.int .i64 (pt.gKind))), .t (.leaf (.string (pt.gName))), .t (.row 3 (GType.trs (x7)))]⟩, some ⟨47, [.t (.leaf (.int .i64 ((lookTy plist pt.gName).gKind))), .t (.leaf (.string ((lookTy plist pt.gName).gName))), .t (.row 3 (GType.trs ((lookTy plist pt.gName).gArgs)))]⟩], []⟩ : Sto)] : List Sto).getD j' (⟨[some ⟨47, [.t (.leaf (.int .i64 (pt.gKind))), .t (.leaf (.string (pt.gName))), .t (.row 3 (GType.trs (pt.gArgs)))]⟩, some ⟨47, [.t (.leaf (.int .i64 (pt.gKind))), .t (.leaf (.string (pt.gName))), .t (.row 3 (GType.trs (x7)))]⟩, some ⟨47, [.t (.leaf (.int .i64 ((lookTy plist pt.gName).gKind))), .t (.leaf (.string ((lookTy plist pt.gName).gName))), .t (.row 3 (GType.trs ((lookTy plist pt.gName).gArgs)))]⟩], []⟩ : Sto), fun q' => ([some (.ptr 0 0), some (.t (.leaf (.int .i64 (pt.gKind)))), some (.ptr 0 1), some (.t (.leaf (.string (pt.gName)))), some (.t (.row 4 (GBinding.trs (plist)))), some (.ptr 0 2), some (.t (.row 3 (GType.trs (pt.gArgs)))), some (.t (.row 3 (GType.trs (x7)))), some (.agg [.t (.leaf (.int .i64 (pt.gKind))), .t (.leaf (.string (pt.gName))), .t (.row 3 (GType.trs (x7)))]), none] : List (Option PV)).getD q' none, fun q' => ([.q 0 0, .q 0 0, .q 0 0, .q 0 0, .q 0 0, .q 0 0, .q 0 0, .q 0 0, .q 0 0, .ef 0] : List DK).getD q' (.q 0 0), [9], none, fun q' => ([[(3, none)], [(19, some 0)], [(3, none)], [(21, some 2)], [(0, none)], [(3, none)], [(24, some 5)], [(25, some 6), (23, some 4)], [(26, some 7), (22, some 3), (20, some 1)], [(4, none), (27, some 8)]] : List (List (Nat × Option Nat))).getD q' []⟩ rfl mixed (by kernel_rfl) rfl rfl ⟨?_, ?_, ?_, ?_, ?_, ?_, ?_, ?_, ?_, ?_, trivial⟩ rfl ?_
          · exact Draw.step.q1 0 rfl rfl fun s' bb hs hl => ⟨_, rfl, AOp.fieldPtr (k := 0) (d := 0) (e := 0) rfl rfl (hl 3 none _ (.head _) rfl) fo47_0⟩
          · exact Draw.step.q1 0 rfl rfl fun s' bb hs hl => ⟨_, rfl, AOp.loadPtr1 rfl rfl (hl 19 (some 0) _ (.head _) rfl) (by rw [hs]; rfl) sh3 rfl⟩
          · exact Draw.step.q1 0 rfl rfl fun s' bb hs hl => ⟨_, rfl, AOp.fieldPtr (k := 0) (d := 0) (e := 1) rfl rfl (hl 3 none _ (.head _) rfl) fo47_1⟩
          · exact Draw.step.q1 0 rfl rfl fun s' bb hs hl => ⟨_, rfl, AOp.loadPtr1 rfl rfl (hl 21 (some 2) _ (.head _) rfl) (by rw [hs]; rfl) sh9 rfl⟩
          · exact Draw.step.q1 0 rfl rfl fun s' bb hs hl => ⟨_, rfl, AOp.move (.inl rfl) rfl (hl 0 none _ (.head _) rfl)⟩
          · exact Draw.step.q1 0 rfl rfl fun s' bb hs hl => ⟨_, rfl, AOp.fieldPtr (k := 0) (d := 0) (e := 2) rfl rfl (hl 3 none _ (.head _) rfl) fo47_2⟩
          · exact Draw.step.q1 0 rfl rfl fun s' bb hs hl => ⟨_, rfl, AOp.loadPtr1 rfl rfl (hl 24 (some 5) _ (.head _) rfl) (by rw [hs]; rfl) sh45 rfl⟩
          · exact Draw.step.q1 0 rfl rfl fun s' bb hs hl => ⟨_, rfl, AOp.callF (res := .t (.row 3 (GType.trs (x7)))) (ps := [_, _]) rfl rfl Tryz.func158 (by kernel_rfl) rfl (evs_cons (hl 23 (some 4) _ (.tail _ (.head _)) rfl) (evs_cons (hl 25 (some 6) _ (.head _) rfl) rfl)) leA rfl rfl (h_sApplyAll plist pt.gArgs _ hq6)⟩
          · exact Draw.step.q1 0 rfl rfl fun s' bb hs hl => ⟨_, rfl, AOp.build rfl rfl zr47 pl47 (parts_cons (hl 20 (some 1) _ (.tail _ (.tail _ (.head _))) rfl) rfl rfl (parts_cons (hl 22 (some 3) _ (.tail _ (.head _)) rfl) rfl rfl (parts_cons (hl 26 (some 7) _ (.head _) rfl) rfl rfl rfl))) rfl⟩
          · refine .inl ⟨rfl, fun s' bb hs hl => ?_⟩
            refine .inr ⟨rfl, AOp.congr (AOp.storePtr (cs := [.t (.leaf (.int .i64 (pt.gKind))), .t (.leaf (.string (pt.gName))), .t (.row 3 (GType.trs (x7)))]) (ds := [.t (.leaf (.int .i64 (pt.gKind))), .t (.leaf (.string (pt.gName))), .t (.row 3 (GType.trs (x7)))]) rfl (hl 4 none _ (.head _) rfl) (by rw [hs]; rfl) (hl 27 (some 8) _ (.tail _ (.head _)) rfl) rfl rfl rfl sz47 (Nat.le_of_ble_eq_true rfl) rfl) ?_⟩
            first | (rw [hs]; rfl) | rfl
          refine AWP.ret ?_
          have e9 : sApply_G fu r_sApply r_sApplyAll plist pt = some (GType.mk pt.gKind pt.gName x7) := swT h2 (gdT hg3 (swF h4 (bdS hq6 (rfl))))
          have hz : (GType.mk pt.gKind pt.gName x7) = r := Option.some.inj (e9.symm.trans H)
          subst hz
          exact Ends.mk (ps := [_]) (by first | exact .inr rfl | exact .inl rfl) ⟨⟨_, _, _, rfl, rfl, sh47, rfl, rfl⟩, trivial⟩ rfl (StLe.mk' (st' := ⟨[], []⟩) trivial rfl) (keeps_nil hC) (q := ((GType.pv (GType.mk pt.gKind pt.gName x7)) : PV)) leA rfl ⟨rfl, rfl⟩
    · have e10 : sApply_G fu r_sApply r_sApplyAll plist pt = none := swT h2 (gdF hg3)
      exact none_some H e10
  · refine AWP.skip ?_; refine AWP.seq ?_
    rcases hq11 : r_sApplyAll plist pt.gArgs with _ | x12
    · have e13 : sApply_G fu r_sApply r_sApplyAll plist pt = none := swF h2 (bdN hq11)
      exact none_some H e13
    · refine AWP.drawnL ⟨_, _, fun j' _ => ([(⟨[some ⟨47, [.t (.leaf (.int .i64 (pt.gKind))), .t (.leaf (.string (pt.gName))), .t (.row 3 (GType.trs (pt.gArgs)))]⟩, some ⟨47, [.t (.leaf (.int .i64 (0))), .t (.leaf (.string (⟨#[]⟩))), .nil]⟩], []⟩ : Sto), (⟨[some ⟨47, [.t (.leaf (.int .i64 (pt.gKind))), .t (.leaf (.string (pt.gName))), .t (.row 3 (GType.trs (pt.gArgs)))]⟩, some ⟨47, [.t (.leaf (.int .i64 (pt.gKind))), .t (.leaf (.string (pt.gName))), .t (.row 3 (GType.trs (x12)))]⟩], []⟩ : Sto)] : List Sto).getD j' (⟨[some ⟨47, [.t (.leaf (.int .i64 (pt.gKind))), .t (.leaf (.string (pt.gName))), .t (.row 3 (GType.trs (pt.gArgs)))]⟩, some ⟨47, [.t (.leaf (.int .i64 (pt.gKind))), .t (.leaf (.string (pt.gName))), .t (.row 3 (GType.trs (x12)))]⟩], []⟩ : Sto), fun q' => ([some (.ptr 0 0), some (.t (.leaf (.int .i64 (pt.gKind)))), some (.ptr 0 1), some (.t (.leaf (.string (pt.gName)))), some (.t (.row 4 (GBinding.trs (plist)))), some (.ptr 0 2), some (.t (.row 3 (GType.trs (pt.gArgs)))), some (.t (.row 3 (GType.trs (x12)))), some (.agg [.t (.leaf (.int .i64 (pt.gKind))), .t (.leaf (.string (pt.gName))), .t (.row 3 (GType.trs (x12)))]), none] : List (Option PV)).getD q' none, fun q' => ([.q 0 0, .q 0 0, .q 0 0, .q 0 0, .q 0 0, .q 0 0, .q 0 0, .q 0 0, .q 0 0, .ef 0] : List DK).getD q' (.q 0 0), [9], none, fun q' => ([[(3, none)], [(19, some 0)], [(3, none)], [(21, some 2)], [(0, none)], [(3, none)], [(24, some 5)], [(25, some 6), (23, some 4)], [(26, some 7), (22, some 3), (20, some 1)], [(4, none), (27, some 8)]] : List (List (Nat × Option Nat))).getD q' []⟩ rfl mixed (by kernel_rfl) rfl rfl ⟨?_, ?_, ?_, ?_, ?_, ?_, ?_, ?_, ?_, ?_, trivial⟩ rfl ?_
      · exact Draw.step.q1 0 rfl rfl fun s' bb hs hl => ⟨_, rfl, AOp.fieldPtr (k := 0) (d := 0) (e := 0) rfl rfl (hl 3 none _ (.head _) rfl) fo47_0⟩
      · exact Draw.step.q1 0 rfl rfl fun s' bb hs hl => ⟨_, rfl, AOp.loadPtr1 rfl rfl (hl 19 (some 0) _ (.head _) rfl) (by rw [hs]; rfl) sh3 rfl⟩
      · exact Draw.step.q1 0 rfl rfl fun s' bb hs hl => ⟨_, rfl, AOp.fieldPtr (k := 0) (d := 0) (e := 1) rfl rfl (hl 3 none _ (.head _) rfl) fo47_1⟩
      · exact Draw.step.q1 0 rfl rfl fun s' bb hs hl => ⟨_, rfl, AOp.loadPtr1 rfl rfl (hl 21 (some 2) _ (.head _) rfl) (by rw [hs]; rfl) sh9 rfl⟩
      · exact Draw.step.q1 0 rfl rfl fun s' bb hs hl => ⟨_, rfl, AOp.move (.inl rfl) rfl (hl 0 none _ (.head _) rfl)⟩
      · exact Draw.step.q1 0 rfl rfl fun s' bb hs hl => ⟨_, rfl, AOp.fieldPtr (k := 0) (d := 0) (e := 2) rfl rfl (hl 3 none _ (.head _) rfl) fo47_2⟩
      · exact Draw.step.q1 0 rfl rfl fun s' bb hs hl => ⟨_, rfl, AOp.loadPtr1 rfl rfl (hl 24 (some 5) _ (.head _) rfl) (by rw [hs]; rfl) sh45 rfl⟩
      · exact Draw.step.q1 0 rfl rfl fun s' bb hs hl => ⟨_, rfl, AOp.callF (res := .t (.row 3 (GType.trs (x12)))) (ps := [_, _]) rfl rfl Tryz.func158 (by kernel_rfl) rfl (evs_cons (hl 23 (some 4) _ (.tail _ (.head _)) rfl) (evs_cons (hl 25 (some 6) _ (.head _) rfl) rfl)) leA rfl rfl (h_sApplyAll plist pt.gArgs _ hq11)⟩
      · exact Draw.step.q1 0 rfl rfl fun s' bb hs hl => ⟨_, rfl, AOp.build rfl rfl zr47 pl47 (parts_cons (hl 20 (some 1) _ (.tail _ (.tail _ (.head _))) rfl) rfl rfl (parts_cons (hl 22 (some 3) _ (.tail _ (.head _)) rfl) rfl rfl (parts_cons (hl 26 (some 7) _ (.head _) rfl) rfl rfl rfl))) rfl⟩
      · refine .inl ⟨rfl, fun s' bb hs hl => ?_⟩
        refine .inr ⟨rfl, AOp.congr (AOp.storePtr (cs := [.t (.leaf (.int .i64 (pt.gKind))), .t (.leaf (.string (pt.gName))), .t (.row 3 (GType.trs (x12)))]) (ds := [.t (.leaf (.int .i64 (pt.gKind))), .t (.leaf (.string (pt.gName))), .t (.row 3 (GType.trs (x12)))]) rfl (hl 4 none _ (.head _) rfl) (by rw [hs]; rfl) (hl 27 (some 8) _ (.tail _ (.head _)) rfl) rfl rfl rfl sz47 (Nat.le_of_ble_eq_true rfl) rfl) ?_⟩
        first | (rw [hs]; rfl) | rfl
      refine AWP.ret ?_
      have e14 : sApply_G fu r_sApply r_sApplyAll plist pt = some (GType.mk pt.gKind pt.gName x12) := swF h2 (bdS hq11 (rfl))
      have hz : (GType.mk pt.gKind pt.gName x12) = r := Option.some.inj (e14.symm.trans H)
      subst hz
      exact Ends.mk (ps := [_]) (by first | exact .inr rfl | exact .inl rfl) ⟨⟨_, _, _, rfl, rfl, sh47, rfl, rfl⟩, trivial⟩ rfl (StLe.mk' (st' := ⟨[], []⟩) trivial rfl) (keeps_nil hC) (q := ((GType.pv (GType.mk pt.gKind pt.gName x12)) : PV)) leA rfl ⟨rfl, rfl⟩
noncomputable def sApplyAll_F1 (fu : Nat) (r_sApply : (List GBinding) → GType → Option GType) (r_sApplyAll : (List GBinding) → (List GType) → Option ((List GType))) (plist : List GBinding) (pall : List GType) : Nat → ((List GType)) → Option (LR ((List GType)) ((List GType))) :=
 fun i3 v5 => bd (r_sApply plist (atD pall i3)) (fun x10 =>
 gd ((v5).length + (([x10] : List GType)).length ≤ 68719476736)
 (some (.next (v5 ++ ([x10] : List GType)))))
noncomputable def sApplyAll_R1 (fu : Nat) (r_sApply : (List GBinding) → GType → Option GType) (r_sApplyAll : (List GBinding) → (List GType) → Option ((List GType))) (plist : List GBinding) (pall : List GType) : Option (((List GType)) ⊕ ((List GType))) :=
 loopN (sApplyAll_F1 fu r_sApply r_sApplyAll plist pall) (pall.length - 0) 0 ([])
noncomputable def sApplyAll_G (fu : Nat) (r_sApply : (List GBinding) → GType → Option GType) (r_sApplyAll : (List GBinding) → (List GType) → Option ((List GType))) (plist : List GBinding) (pall : List GType) : Option ((List GType)) :=
 so (sApplyAll_R1 fu r_sApply r_sApplyAll plist pall) (fun v5 =>
 some v5)
set_option maxRecDepth 100000 in
set_option maxHeartbeats 4000000 in
theorem sApplyAll_step (r_sApply : (List GBinding) → GType → Option GType) (r_sApplyAll : (List GBinding) → (List GType) → Option ((List GType))) (fu : Nat) (h_sApply : ∀ (plist : List GBinding) (pt : GType) (r : GType), r_sApply plist pt = some r → AFun Tryz.prog 103 [.t (.row 4 (GBinding.trs (plist))), (GType.pv pt)] ((GType.pv r) : PV)) (h_sApplyAll : ∀ (plist : List GBinding) (pall : List GType) (r : (List GType)), r_sApplyAll plist pall = some r → AFun Tryz.prog 158 [.t (.row 4 (GBinding.trs (plist))), .t (.row 3 (GType.trs (pall)))] (.t (.row 3 (GType.trs (r))) : PV)) (plist : List GBinding) (pall : List GType) (r : (List GType)) (H : sApplyAll_G fu r_sApply r_sApplyAll plist pall = some r) : AFun Tryz.prog 158 [.t (.row 4 (GBinding.trs (plist))), .t (.row 3 (GType.trs (pall)))] (.t (.row 3 (GType.trs (r))) : PV) := by
  refine ACalls.intro Tryz.func158 rfl (by first | decide | (simp; done) | (simp; decide)) ?_; intro C hC
  refine AWP.fact (lk_lenN 0 rfl rfl (GBinding.trs_len _)) (fun hl1 => ?_)
  refine AWP.fact (lk_lenN 1 rfl rfl (GType.trs_len _)) (fun hl2 => ?_)
  refine AWP.seq ?_; refine AWP.region_lit ?_; refine AL.cons rfl (AOp.move (.inr rfl) rfl rfl) ?_; refine AL.nil ?_; refine AWP.seq ?_; refine AWP.region_lit ?_; refine AL.cons rfl (AOp.buildSliceA (es := []) (es' := GType.trs ([])) (cs := []) rfl rfl el45 zr47 rfl rfl leA rfl (by simp [GType.cs]) (by decide) rfl (by decide) (by simp [GType.trs_map, GType.tr_cs])) ?_; refine AL.cons rfl (AOp.move (.inr rfl) rfl rfl) ?_; refine AL.nil ?_; refine AWP.seq ?_; refine AWP.seq ?_; refine AWP.region_lit ?_; refine AL.cons rfl (AOp.move (.inr rfl) rfl rfl) ?_; refine AL.nil ?_; refine AWP.fact (lk_lenN 5 rfl rfl (GType.trs_len _)) (fun hl6 => ?_)
  refine AWP.cut (ι := (List GType)) (fun v5 => sApplyAll_R1 fu r_sApply r_sApplyAll plist pall = some (.inr v5)) (fun v5 => ⟨[(4, .nil), (5, .acc 3 (GType.trs (v5)) 0)], ⟨[], [⟨47, 3, GType.trs (v5), false⟩]⟩⟩) (by repeat' (first | exact qcEnds | exact ncAWP | exact ncRound | exact ncEx | apply qcThen | apply qcBlock | apply qcCut)) ?_ ?_
  · refine AWP.block ?_; refine AWP.loopR (ι := Nat × ((List GType))) (fun (i3, v5) => sApplyAll_R1 fu r_sApply r_sApplyAll plist pall = loopN (sApplyAll_F1 fu r_sApply r_sApplyAll plist pall) (pall.length - i3) i3 v5) (fun (i3, v5) => ⟨[(0, .t (.row 4 (GBinding.trs (plist)))), (1, .t (.row 3 (GType.trs (pall)))), (4, .nil), (5, .acc 3 (GType.trs (v5)) 0), (6, .t (.leaf (.int .i64 (((i3 : Nat) : Int)))))], ⟨[], [⟨47, 3, GType.trs (v5), false⟩]⟩⟩) (fun (i3, v5) => pall.length - i3) (0, ([])) ?_ ?_ ?_
    · exact rfl
    · exact Wk.mk (StLe.mk' trivial (by first | rfl | simp)) (keeps_nil hC) ⟨⟨_, rfl, .refl _, rfl⟩, ⟨⟨_, rfl, .refl _, rfl⟩, ⟨⟨_, rfl, .refl _, rfl⟩, ⟨⟨_, rfl, leA, rfl⟩, ⟨⟨_, rfl, leA, rfl⟩, trivial⟩⟩⟩⟩⟩
    · rintro ⟨i3, v5⟩ hJ7
      refine AWP.seq ?_; refine AWP.seq ?_; refine AWP.region_lit ?_; refine AL.cons rfl (AOp.move (.inl rfl) rfl rfl) ?_; refine AL.cons rfl (AOp.move (.inl rfl) rfl rfl) ?_; refine AL.cons rfl (AOp.lenN rfl rfl rfl rfl el45 (GType.trs_len _)) ?_; refine AL.cons rfl (AOp.lss rfl rfl rfl rfl) ?_; refine AL.nil ?_; refine AWP.cond rfl (fun h8 => ?_) (fun h8 => ?_)
      · have h8l : i3 < pall.length := nat_lt_of2 h8
        have h8n := nat_lt_of h8
        refine AWP.skip ?_; refine AWP.seq ?_; refine AWP.block ?_; refine AWP.region_lit ?_; refine AL.cons rfl (AOp.move (.inl rfl) rfl rfl) ?_; refine AL.cons rfl (AOp.move (.inl rfl) rfl rfl) ?_; refine AL.cons rfl (AOp.move (.inl rfl) rfl rfl) ?_; refine AL.cons rfl (AOp.move (.inl rfl) rfl rfl) ?_; refine AL.cons rfl (AOp.index (k := i3) rfl rfl rfl rfl rfl (GType.trs_at h8n) el45) ?_; refine AL.cons rfl (AOp.loadEptr (ds := [.leaf (.int .i64 ((atD pall i3).gKind)), .leaf (.string ((atD pall i3).gName)), .row 3 (GType.trs ((atD pall i3).gArgs))]) rfl rfl rfl sh47 rfl rfl) ?_
        rcases hq9 : r_sApply plist (atD pall i3) with _ | x10
        · have e11 : (sApplyAll_F1 fu r_sApply r_sApplyAll plist pall) i3 v5 = none := bdN hq9
          have e12 : sApplyAll_R1 fu r_sApply r_sApplyAll plist pall = none := loopN_non h8l hJ7 e11
          have e13 : sApplyAll_G fu r_sApply r_sApplyAll plist pall = none := soN e12
          exact none_some H e13
        · refine AL.cons rfl (AOp.callF (res := (GType.pv x10)) (ps := [_, _]) rfl rfl Tryz.func103 (by kernel_rfl) rfl rfl leA rfl rfl (h_sApply plist (atD pall i3) _ hq9)) ?_; refine AL.cons rfl (AOp.buildSliceE (es := [GType.cs x10]) (es' := GType.trs (([x10] : List GType))) (cs := [.t (.leaf (.int .i64 (x10.gKind))), .t (.leaf (.string (x10.gName))), .t (.row 3 (GType.trs (x10.gArgs)))]) rfl rfl el45 zr47 rfl rfl leA rfl (by simp [GType.cs]) (by decide) rfl (by decide) (by simp [GType.trs_map, GType.tr_cs])) ?_
          rcases Classical.em ((v5).length + (([x10] : List GType)).length ≤ 68719476736) with hg14 | hg14
          · refine AL.cons rfl (AOp.appendE (es3 := GType.trs (v5 ++ ([x10] : List GType))) rfl rfl rfl rfl rfl rfl rfl rfl rfl (fun e he => by rw [GType.trs_map] at he; obtain ⟨x, _, rfl⟩ := List.mem_map.1 he; rw [GType.tr_cs]; rfl) el45 ze45 (by decide) (by rw [GType.trs_len, GType.trs_len]; exact room_le hg14 (by decide)) (by rw [GType.trs_map, GType.trs_map, GType.trs_map, List.map_append])) ?_; refine AL.cons rfl (AOp.move (.inr rfl) rfl rfl) ?_; refine AL.nil ?_; refine AWP.region_lit ?_; refine AL.cons rfl (AOp.move (.inl rfl) rfl rfl) ?_; refine AL.cons rfl (AOp.addI rfl rfl rfl rfl (c := ((i3 + 1 : Nat) : Int)) (by omega) (by omega)) ?_; refine AL.cons rfl (AOp.move (.inr rfl) rfl rfl) ?_; refine AL.nil ?_
            have e15 : (sApplyAll_F1 fu r_sApply r_sApplyAll plist pall) i3 v5 = some (.next (v5 ++ ([x10] : List GType))) := bdS hq9 (gdT hg14 (rfl))
            refine ⟨(i3 + 1, (v5 ++ ([x10] : List GType))), loopN_next h8l hJ7 e15, ?_, ?_⟩
            · exact Wk.mk (StLe.mk' trivial (by first | rfl | simp)) (keeps_nil hC) ⟨⟨_, rfl, .refl _, rfl⟩, ⟨⟨_, rfl, .refl _, rfl⟩, ⟨⟨_, rfl, .refl _, rfl⟩, ⟨⟨_, rfl, leA, rfl⟩, ⟨⟨_, rfl, leA, rfl⟩, trivial⟩⟩⟩⟩⟩
            · dsimp only; omega
          · have e16 : (sApplyAll_F1 fu r_sApply r_sApplyAll plist pall) i3 v5 = none := bdS hq9 (gdF hg14)
            have e17 : sApplyAll_R1 fu r_sApply r_sApplyAll plist pall = none := loopN_non h8l hJ7 e16
            have e18 : sApplyAll_G fu r_sApply r_sApplyAll plist pall = none := soN e17
            exact none_some H e18
      · have h8l : pall.length ≤ i3 := nat_ge_of2 h8
        refine AWP.exit ?_; refine ⟨v5, loopN_end h8l hJ7, ?_⟩
        exact Wk.mk (StLe.mk' trivial (by first | rfl | simp)) (keeps_nil hC) ⟨⟨_, rfl, .refl _, rfl⟩, ⟨⟨_, rfl, .refl _, rfl⟩, trivial⟩⟩
  · rintro v5 hR19
    refine AWP.seq ?_; refine AWP.region_lit ?_; refine AL.cons rfl (AOp.move (.inl rfl) rfl rfl) ?_; refine AL.cons rfl (AOp.move (.inr rfl) rfl rfl) ?_; refine AL.nil ?_; refine AWP.ret ?_
    have e20 : sApplyAll_G fu r_sApply r_sApplyAll plist pall = some v5 := soR hR19 (rfl)
    have hz : v5 = r := Option.some.inj (e20.symm.trans H)
    subst hz
    exact Ends.mk (ps := [_]) (by first | exact .inr rfl | exact .inl rfl) ⟨rfl, trivial⟩ rfl (StLe.mk' (st' := ⟨[], []⟩) trivial rfl) (keeps_nil hC) (q := (.t (.row 3 (GType.trs (v5))) : PV)) leA rfl ⟨rfl, rfl⟩
mutual
noncomputable def sApply_M : Nat → (List GBinding) → GType → Option GType
  | 0, _, _ => none
  | fu + 1, plist, pt => sApply_G fu (sApply_M fu) (sApplyAll_M fu) plist pt
noncomputable def sApplyAll_M : Nat → (List GBinding) → (List GType) → Option ((List GType))
  | 0, _, _ => none
  | fu + 1, plist, pall => sApplyAll_G fu (sApply_M fu) (sApplyAll_M fu) plist pall
end
theorem sApply_all (fu : Nat) : (∀ (plist : List GBinding) (pt : GType) (r : GType), sApply_M fu plist pt = some r → AFun Tryz.prog 103 [.t (.row 4 (GBinding.trs (plist))), (GType.pv pt)] ((GType.pv r) : PV)) ∧ (∀ (plist : List GBinding) (pall : List GType) (r : (List GType)), sApplyAll_M fu plist pall = some r → AFun Tryz.prog 158 [.t (.row 4 (GBinding.trs (plist))), .t (.row 3 (GType.trs (pall)))] (.t (.row 3 (GType.trs (r))) : PV)) := by
  induction fu with
  | zero => exact ⟨(fun plist pt r H => by simp only [sApply_M] at H; cases H), (fun plist pall r H => by simp only [sApplyAll_M] at H; cases H)⟩
  | succ fu ih => exact ⟨(fun plist pt r H => by simp only [sApply_M] at H; exact sApply_step (sApply_M fu) (sApplyAll_M fu) fu ih.1 ih.2 plist pt r H), (fun plist pall r H => by simp only [sApplyAll_M] at H; exact sApplyAll_step (sApply_M fu) (sApplyAll_M fu) fu ih.1 ih.2 plist pall r H)⟩
theorem sApply_ok (fu : Nat) (plist : List GBinding) (pt : GType) (r : GType) (H : sApply_M fu plist pt = some r) : AFun Tryz.prog 103 [.t (.row 4 (GBinding.trs (plist))), (GType.pv pt)] ((GType.pv r) : PV) := (sApply_all fu).1 plist pt r H
noncomputable def sAssocTypeOf_M (fu : Nat)  (pw : GProgram) (po : GInstanceRef) (phead : GType) : Option (GType × Bool) :=
 gd (Tr.bulkL (GType.tr ((oInst (GProgram.instAt pw po)).gHead)) ≤ 68719476735)
 (gd (Tr.bulkL (GType.tr phead) ≤ 68719476735)
 (sw (!(Option.isSome (GProgram.instAt pw po)))
 (some ((GType.mk 0 (⟨#[]⟩) []), false))
 (sw (!((oInst (GProgram.instAt pw po)).gHasAssoc))
 (some ((GType.mk 0 (⟨#[]⟩) []), false))
 (sw (!(matchB ((oInst (GProgram.instAt pw po)).gHead) phead))
 (some ((GType.mk 0 (⟨#[]⟩) []), false))
 (bd (sApply_M fu (matchLst ((oInst (GProgram.instAt pw po)).gHead) phead) ((oInst (GProgram.instAt pw po)).gAssoc)) (fun x12 =>
 some (x12, true)))))))
set_option maxRecDepth 100000 in
set_option maxHeartbeats 4000000 in
theorem sAssocTypeOf_ok  (fu : Nat)  (pw : GProgram) (po : GInstanceRef) (phead : GType) (r : GType × Bool) (H : sAssocTypeOf_M fu pw po phead = some r) : AFun Tryz.prog 44 [(GProgram.pv pw), (GInstanceRef.pv po), (GType.pv phead)] (.tup [(GType.pv r.1), .t (.leaf (.bool (r.2)))] : PV) := by
  refine ACalls.intro Tryz.func44 rfl (by first | decide | (simp; done) | (simp; decide)) ?_; intro C hC
  refine AWP.seq ?_; refine AWP.region_lit ?_; refine AL.cons rfl (AOp.box (cs := [.t (.row 6 (GPackage.trs (pw.gPackages)))]) rfl rfl rfl rfl rfl) ?_; refine AL.cons rfl (AOp.box (cs := [.t (.leaf (.int .i64 (po.gPackage))), .t (.leaf (.int .i64 (po.gAt)))]) rfl rfl rfl rfl rfl) ?_; refine AL.cons rfl (AOp.box (cs := [.t (.leaf (.int .i64 (phead.gKind))), .t (.leaf (.string (phead.gName))), .t (.row 3 (GType.trs (phead.gArgs)))]) rfl rfl rfl rfl rfl) ?_; refine AL.cons rfl (AOp.alloc rfl rfl zr47) ?_; refine AL.cons rfl (AOp.move (.inr rfl) rfl rfl) ?_; refine AL.nil ?_; refine AWP.seq ?_; refine AWP.region_lit ?_; refine AL.cons rfl (AOp.loadPtr (cs := [.t (.row 6 (GPackage.trs (pw.gPackages)))]) rfl rfl rfl rfl sh31 rfl rfl) ?_; refine AL.cons rfl (AOp.loadPtr (cs := [.t (.leaf (.int .i64 (po.gPackage))), .t (.leaf (.int .i64 (po.gAt)))]) rfl rfl rfl rfl sh33 rfl rfl) ?_; refine AL.cons rfl (AOp.callF (res := .tup [(GInstance.pv (oInst (GProgram.instAt pw po))), .t (.leaf (.bool (Option.isSome (GProgram.instAt pw po))))]) (ps := [_, _]) rfl rfl Tryz.func77 (by kernel_rfl) rfl rfl leA rfl rfl (inst_spec pw po)) ?_; refine AL.cons rfl (AOp.move (.inl rfl) rfl rfl) ?_; refine AL.cons rfl (AOp.extract rfl rfl rfl rfl) ?_; refine AL.cons rfl (AOp.extract rfl rfl rfl rfl) ?_; refine AL.cons rfl (AOp.alloc rfl rfl zr113) ?_; refine AL.cons rfl (AOp.storePtr (cs := [.t (.leaf (.string ((oInst (GProgram.instAt pw po)).gTrait))), .t (.row 1 (strTrs ((oInst (GProgram.instAt pw po)).gVars))), .t (.leaf (.int .i64 ((oInst (GProgram.instAt pw po)).gHead.gKind))), .t (.leaf (.string ((oInst (GProgram.instAt pw po)).gHead.gName))), .t (.row 3 (GType.trs ((oInst (GProgram.instAt pw po)).gHead.gArgs))), .t (.row 4 (GBound.trs ((oInst (GProgram.instAt pw po)).gWhere))), .t (.leaf (.bool ((oInst (GProgram.instAt pw po)).gDefault))), .t (.leaf (.bool ((oInst (GProgram.instAt pw po)).gHasAssoc))), .t (.leaf (.int .i64 ((oInst (GProgram.instAt pw po)).gAssoc.gKind))), .t (.leaf (.string ((oInst (GProgram.instAt pw po)).gAssoc.gName))), .t (.row 3 (GType.trs ((oInst (GProgram.instAt pw po)).gAssoc.gArgs))), .t (.row 11 (GMethod.trs ((oInst (GProgram.instAt pw po)).gMethods)))]) (ds := [.t (.leaf (.string ((oInst (GProgram.instAt pw po)).gTrait))), .t (.row 1 (strTrs ((oInst (GProgram.instAt pw po)).gVars))), .t (.leaf (.int .i64 ((oInst (GProgram.instAt pw po)).gHead.gKind))), .t (.leaf (.string ((oInst (GProgram.instAt pw po)).gHead.gName))), .t (.row 3 (GType.trs ((oInst (GProgram.instAt pw po)).gHead.gArgs))), .t (.row 4 (GBound.trs ((oInst (GProgram.instAt pw po)).gWhere))), .t (.leaf (.bool ((oInst (GProgram.instAt pw po)).gDefault))), .t (.leaf (.bool ((oInst (GProgram.instAt pw po)).gHasAssoc))), .t (.leaf (.int .i64 ((oInst (GProgram.instAt pw po)).gAssoc.gKind))), .t (.leaf (.string ((oInst (GProgram.instAt pw po)).gAssoc.gName))), .t (.row 3 (GType.trs ((oInst (GProgram.instAt pw po)).gAssoc.gArgs))), .t (.row 11 (GMethod.trs ((oInst (GProgram.instAt pw po)).gMethods)))]) rfl rfl rfl rfl rfl rfl rfl sz113 (Nat.le_of_ble_eq_true rfl) rfl) ?_; refine AL.cons rfl (AOp.move (.inr rfl) rfl rfl) ?_; refine AL.nil ?_; refine AWP.seq ?_; refine AWP.region_lit ?_; refine AL.cons rfl (AOp.fieldPtr (k := 4) (d := 0) (e := 2) rfl rfl rfl fo113_2) ?_; refine AL.cons rfl (AOp.loadPtr (cs := [.t (.leaf (.int .i64 (((oInst (GProgram.instAt pw po)).gHead).gKind))), .t (.leaf (.string (((oInst (GProgram.instAt pw po)).gHead).gName))), .t (.row 3 (GType.trs (((oInst (GProgram.instAt pw po)).gHead).gArgs)))]) rfl rfl rfl rfl sh47 rfl rfl) ?_; refine AL.cons rfl (AOp.loadPtr (cs := [.t (.leaf (.int .i64 (phead.gKind))), .t (.leaf (.string (phead.gName))), .t (.row 3 (GType.trs (phead.gArgs)))]) rfl rfl rfl rfl sh47 rfl rfl) ?_
  rcases Classical.em (Tr.bulkL (GType.tr ((oInst (GProgram.instAt pw po)).gHead)) ≤ 68719476735) with hg1 | hg1
  · rcases Classical.em (Tr.bulkL (GType.tr phead) ≤ 68719476735) with hg2 | hg2
    · refine AL.cons rfl (AOp.callF (res := .tup [.t (.row 4 (GBinding.trs (matchLst ((oInst (GProgram.instAt pw po)).gHead) phead))), .t (.leaf (.bool (matchB ((oInst (GProgram.instAt pw po)).gHead) phead)))]) (ps := [_, _]) rfl rfl Tryz.func102 (by kernel_rfl) rfl rfl leA rfl rfl (sMatch_fn ((oInst (GProgram.instAt pw po)).gHead) phead hg1 hg2)) ?_; refine AL.cons rfl (AOp.move (.inl rfl) rfl rfl) ?_; refine AL.cons rfl (AOp.extract rfl rfl rfl rfl) ?_; refine AL.cons rfl (AOp.extract rfl rfl rfl rfl) ?_; refine AL.cons rfl (AOp.move (.inr rfl) rfl rfl) ?_; refine AL.cons rfl (AOp.move (.inr rfl) rfl rfl) ?_; refine AL.nil ?_; refine AWP.seq ?_; refine AWP.seq ?_; refine AWP.region_lit ?_; refine AL.cons rfl (AOp.move (.inl rfl) rfl rfl) ?_; refine AL.cons rfl (AOp.notB rfl rfl rfl) ?_; refine AL.cons rfl (AOp.move (.inl rfl) rfl rfl) ?_; refine AL.splitB 27 rfl (fun g3 => ?_) (fun g3 => ?_)
      · refine AL.skipP rfl rfl rfl g3 rfl rfl ?_; refine AL.skipP rfl rfl rfl g3 rfl rfl ?_; refine AL.skipP rfl rfl rfl g3 rfl rfl ?_; refine AL.cons rfl (AOp.pickT rfl rfl rfl g3 rfl) ?_; refine AL.cons rfl (AOp.move (.inl rfl) rfl rfl) ?_; refine AL.skipP rfl rfl rfl rfl rfl rfl ?_; refine AL.skipP rfl rfl rfl rfl rfl rfl ?_; refine AL.cons rfl (AOp.pickT rfl rfl rfl rfl rfl) ?_; refine AL.nil ?_; refine AWP.cond rfl (fun h4 => ?_) (fun h4 => ?_)
        · refine AWP.seq ?_; refine AWP.region_lit ?_; refine AL.cons rfl (AOp.build rfl rfl zr47 pl47 rfl rfl) ?_; refine AL.cons rfl (AOp.storePtr (cs := [.t (.leaf (.int .i64 (0))), .t (.leaf (.string (⟨#[]⟩))), .nil]) (ds := [.t (.leaf (.int .i64 (0))), .t (.leaf (.string (⟨#[]⟩))), .nil]) rfl rfl rfl rfl rfl rfl rfl sz47 (Nat.le_of_ble_eq_true rfl) rfl) ?_; refine AL.cons rfl (AOp.move (.inr rfl) rfl rfl) ?_; refine AL.nil ?_; refine AWP.ret ?_
          have e5 : sAssocTypeOf_M fu pw po phead = some ((GType.mk 0 (⟨#[]⟩) []), false) := gdT hg1 (gdT hg2 (swT g3 (rfl)))
          have hz : ((GType.mk 0 (⟨#[]⟩) []), false) = r := Option.some.inj (e5.symm.trans H)
          subst hz
          exact Ends.mk (ps := [_, _]) (by first | exact .inr rfl | exact .inl rfl) ⟨⟨_, _, _, rfl, rfl, sh47, rfl, rfl⟩, rfl, trivial⟩ rfl (StLe.mk' (st' := ⟨[], []⟩) trivial rfl) (keeps_nil hC) (q := (.tup [(GType.pv (GType.mk 0 (⟨#[]⟩) [])), .t (.leaf (.bool (false)))] : PV)) leA rfl ⟨rfl, rfl⟩
        · exact absurd (h4.symm.trans rfl) (by decide)
      · refine AL.cons_gv rfl rfl rfl g3 (AOp.fieldPtr (k := 4) (d := 0) (e := 7) rfl rfl rfl fo113_5) ?_; refine AL.cons_gv rfl rfl rfl g3 (AOp.loadPtr1 rfl rfl rfl rfl sh4 rfl) ?_; refine AL.cons_gv rfl rfl rfl g3 (AOp.notB rfl rfl rfl) ?_; refine AL.cons rfl (AOp.pickF rfl rfl rfl g3 rfl) ?_; refine AL.cons rfl (AOp.move (.inl rfl) rfl rfl) ?_; refine AL.splitB 32 rfl (fun g6 => ?_) (fun g6 => ?_)
        · refine AL.skipP rfl rfl rfl g6 rfl rfl ?_; refine AL.skipP rfl rfl rfl g6 rfl rfl ?_; refine AL.cons rfl (AOp.pickT rfl rfl rfl g6 rfl) ?_; refine AL.nil ?_; refine AWP.cond rfl (fun h7 => ?_) (fun h7 => ?_)
          · refine AWP.seq ?_; refine AWP.region_lit ?_; refine AL.cons rfl (AOp.build rfl rfl zr47 pl47 rfl rfl) ?_; refine AL.cons rfl (AOp.storePtr (cs := [.t (.leaf (.int .i64 (0))), .t (.leaf (.string (⟨#[]⟩))), .nil]) (ds := [.t (.leaf (.int .i64 (0))), .t (.leaf (.string (⟨#[]⟩))), .nil]) rfl rfl rfl rfl rfl rfl rfl sz47 (Nat.le_of_ble_eq_true rfl) rfl) ?_; refine AL.cons rfl (AOp.move (.inr rfl) rfl rfl) ?_; refine AL.nil ?_; refine AWP.ret ?_
            have e8 : sAssocTypeOf_M fu pw po phead = some ((GType.mk 0 (⟨#[]⟩) []), false) := gdT hg1 (gdT hg2 (swF g3 (swT g6 (rfl))))
            have hz : ((GType.mk 0 (⟨#[]⟩) []), false) = r := Option.some.inj (e8.symm.trans H)
            subst hz
            exact Ends.mk (ps := [_, _]) (by first | exact .inr rfl | exact .inl rfl) ⟨⟨_, _, _, rfl, rfl, sh47, rfl, rfl⟩, rfl, trivial⟩ rfl (StLe.mk' (st' := ⟨[], []⟩) trivial rfl) (keeps_nil hC) (q := (.tup [(GType.pv (GType.mk 0 (⟨#[]⟩) [])), .t (.leaf (.bool (false)))] : PV)) leA rfl ⟨rfl, rfl⟩
          · exact absurd (h7.symm.trans rfl) (by decide)
        · refine AL.cons_gv rfl rfl rfl g6 (AOp.move (.inl rfl) rfl rfl) ?_; refine AL.cons_gv rfl rfl rfl g6 (AOp.notB rfl rfl rfl) ?_; refine AL.cons rfl (AOp.pickF rfl rfl rfl g6 rfl) ?_; refine AL.nil ?_; refine AWP.cond rfl (fun h9 => ?_) (fun h9 => ?_)
          · refine AWP.seq ?_; refine AWP.region_lit ?_; refine AL.cons rfl (AOp.build rfl rfl zr47 pl47 rfl rfl) ?_; refine AL.cons rfl (AOp.storePtr (cs := [.t (.leaf (.int .i64 (0))), .t (.leaf (.string (⟨#[]⟩))), .nil]) (ds := [.t (.leaf (.int .i64 (0))), .t (.leaf (.string (⟨#[]⟩))), .nil]) rfl rfl rfl rfl rfl rfl rfl sz47 (Nat.le_of_ble_eq_true rfl) rfl) ?_; refine AL.cons rfl (AOp.move (.inr rfl) rfl rfl) ?_; refine AL.nil ?_; refine AWP.ret ?_
            have e10 : sAssocTypeOf_M fu pw po phead = some ((GType.mk 0 (⟨#[]⟩) []), false) := gdT hg1 (gdT hg2 (swF g3 (swF g6 (swT h9 (rfl)))))
            have hz : ((GType.mk 0 (⟨#[]⟩) []), false) = r := Option.some.inj (e10.symm.trans H)
            subst hz
            exact Ends.mk (ps := [_, _]) (by first | exact .inr rfl | exact .inl rfl) ⟨⟨_, _, _, rfl, rfl, sh47, rfl, rfl⟩, rfl, trivial⟩ rfl (StLe.mk' (st' := ⟨[], []⟩) trivial rfl) (keeps_nil hC) (q := (.tup [(GType.pv (GType.mk 0 (⟨#[]⟩) [])), .t (.leaf (.bool (false)))] : PV)) leA rfl ⟨rfl, rfl⟩
          · refine AWP.skip ?_; refine AWP.seq ?_; refine AWP.region_lit ?_; refine AL.cons rfl (AOp.move (.inl rfl) rfl rfl) ?_; refine AL.cons rfl (AOp.fieldPtr (k := 4) (d := 0) (e := 8) rfl rfl rfl fo113_6) ?_; refine AL.cons rfl (AOp.loadPtr (cs := [.t (.leaf (.int .i64 (((oInst (GProgram.instAt pw po)).gAssoc).gKind))), .t (.leaf (.string (((oInst (GProgram.instAt pw po)).gAssoc).gName))), .t (.row 3 (GType.trs (((oInst (GProgram.instAt pw po)).gAssoc).gArgs)))]) rfl rfl rfl rfl sh47 rfl rfl) ?_
            rcases hq11 : sApply_M fu (matchLst ((oInst (GProgram.instAt pw po)).gHead) phead) ((oInst (GProgram.instAt pw po)).gAssoc) with _ | x12
            · have e13 : sAssocTypeOf_M fu pw po phead = none := gdT hg1 (gdT hg2 (swF g3 (swF g6 (swF h9 (bdN hq11)))))
              exact none_some H e13
            · refine AL.cons rfl (AOp.callF (res := (GType.pv x12)) (ps := [_, _]) rfl rfl Tryz.func103 (by kernel_rfl) rfl rfl leA rfl rfl (sApply_ok fu (matchLst ((oInst (GProgram.instAt pw po)).gHead) phead) ((oInst (GProgram.instAt pw po)).gAssoc) _ hq11)) ?_; refine AL.cons rfl (AOp.storePtr (cs := [.t (.leaf (.int .i64 (x12.gKind))), .t (.leaf (.string (x12.gName))), .t (.row 3 (GType.trs (x12.gArgs)))]) (ds := [.t (.leaf (.int .i64 (x12.gKind))), .t (.leaf (.string (x12.gName))), .t (.row 3 (GType.trs (x12.gArgs)))]) rfl rfl rfl rfl rfl rfl rfl sz47 (Nat.le_of_ble_eq_true rfl) rfl) ?_; refine AL.cons rfl (AOp.move (.inr rfl) rfl rfl) ?_; refine AL.nil ?_; refine AWP.ret ?_
              have e14 : sAssocTypeOf_M fu pw po phead = some (x12, true) := gdT hg1 (gdT hg2 (swF g3 (swF g6 (swF h9 (bdS hq11 (rfl))))))
              have hz : (x12, true) = r := Option.some.inj (e14.symm.trans H)
              subst hz
              exact Ends.mk (ps := [_, _]) (by first | exact .inr rfl | exact .inl rfl) ⟨⟨_, _, _, rfl, rfl, sh47, rfl, rfl⟩, rfl, trivial⟩ rfl (StLe.mk' (st' := ⟨[], []⟩) trivial rfl) (keeps_nil hC) (q := (.tup [(GType.pv x12), .t (.leaf (.bool (true)))] : PV)) leA rfl ⟨rfl, rfl⟩
    · have e15 : sAssocTypeOf_M fu pw po phead = none := gdT hg1 (gdF hg2)
      exact none_some H e15
  · have e16 : sAssocTypeOf_M fu pw po phead = none := gdF hg1
    exact none_some H e16

end Go.Proofs.YtnakkelglbcecaaGreat

namespace Go.Proofs.YtnakkelglbcecaaGreat
open Go.RowKit

/-- The slice is nil, or its row is known whole: it begins at 0 and the row's size is the capacity's. -/
def Whole (E : TypeId) (base sz : Nat) (w : World) (n : Nat) (v : Value) : Prop :=
  (v = .slice none 0 0 ∧ n = 0) ∨ ∃ g cap cur, v = .slice (some ⟨g, 0, none⟩) n cap ∧ base ≤ g ∧ OB w g E cur ∧ n ≤ cap ∧ cap ≤ maxLen ∧ cur.size = cap * sz

structure Acc (E : TypeId) (base sz : Nat) (w : World) (es : List (List Tr)) (v : Value) (S : Nat → Prop) : Prop where
  own : Own w (.row sz es) v S
  whole : Whole E base sz w es.length v
  lens : ∀ e ∈ es, e.length = sz
  lt : ∀ x, S x → base ≤ x ∧ x < w.heap.size

theorem Acc.rep {E : TypeId} {base sz : Nat} {w : World} {es : List (List Tr)} {v : Value} {S : Nat → Prop} (h : Acc E base sz w es v S) : Rep w (.row sz es) v := h.own.rep
theorem Acc.nil (E : TypeId) (base sz : Nat) (w : World) : Acc E base sz w [] (.slice none 0 0) (fun _ => False) :=
  ⟨Own.row (es := []) (fun _ _ => undef) (fun _ _ _ => False) (by simp) (by unfold maxLen; omega) (by simp) (by simp) (by simp) (by simp), .inl ⟨rfl, rfl⟩, by simp, by simp⟩
theorem Acc.keep {E : TypeId} {base sz : Nat} {w w' : World} {es : List (List Tr)} {v : Value} {S : Nat → Prop} (h : Acc E base sz w es v S) (hz : w.heap.size ≤ w'.heap.size)
    (hx : ∀ b, S b ∨ v.ownBlock = some b → b < w.heap.size → w'.heap[b]? = w.heap[b]?) : Acc E base sz w' es v S := by
  refine ⟨h.own.keep fun b hb => hx b (.inl hb), ?_, h.lens, fun x hs => ⟨(h.lt x hs).1, Nat.lt_of_lt_of_le (h.lt x hs).2 hz⟩⟩
  rcases h.whole with h1 | ⟨g, cap, cur, rfl, h2, h3, h4⟩
  · exact .inl h1
  · exact .inr ⟨g, cap, cur, rfl, h2, (hx g (.inr rfl) h3.lt).trans h3, h4⟩
theorem Acc.ext {E : TypeId} {base sz : Nat} {w w' : World} {es : List (List Tr)} {v : Value} {S : Nat → Prop} (h : Acc E base sz w es v S) (hx : Ext w w') : Acc E base sz w' es v S := h.keep hx.size fun b _ hb => hx.block b hb
theorem Acc.mono {E : TypeId} {base base' sz : Nat} {w : World} {es : List (List Tr)} {v : Value} {S S' : Nat → Prop} (h : Acc E base sz w es v S) (hb : base' ≤ base) (hS : ∀ x, S x → S' x) (hl : ∀ x, S' x → base' ≤ x ∧ x < w.heap.size) : Acc E base' sz w es v S' := by
  refine ⟨h.own.mono hS, ?_, h.lens, hl⟩
  rcases h.whole with h1 | ⟨g, cap, cur, h1, h2, h3⟩
  · exact .inl h1
  · exact .inr ⟨g, cap, cur, h1, by omega, h3⟩

theorem Acc.blk {E : TypeId} {base sz : Nat} {w : World} {es : List (List Tr)} {v : Value} {S : Nat → Prop} (h : Acc E base sz w es v S) {x : Nat} (hx : v.ownBlock = some x) : base ≤ x ∧ x < w.heap.size := by
  rcases h.whole with ⟨rfl, -⟩ | ⟨g0, c0, u0, rfl, h1, h3, -⟩
  · simp [Value.ownBlock] at hx
  · simp [Value.ownBlock] at hx
    subst hx
    exact ⟨h1, h3.lt⟩
theorem Acc.shape {E : TypeId} {base sz : Nat} {w : World} {es : List (List Tr)} {v : Value} {S : Nat → Prop} (h : Acc E base sz w es v S) : ∃ a cap, v = .slice a es.length cap ∧ es.length ≤ cap ∧ cap ≤ maxLen := h.rep.shape
/-- From world w on, a slice v of our own has been appended to: by now it is v' and holds es. -/
structure AccRun (E : TypeId) (base sz : Nat) (w : World) (v : Value) (w' : World) (es : List (List Tr)) (v' : Value) : Prop where
  acc : ∃ U, Acc E base sz w' es v' U
  chg : Chg (fun b => v.ownBlock = some b) w w'
  row : ∀ b, v'.ownBlock = some b → v.ownBlock = some b ∨ w.heap.size ≤ b
theorem AccRun.refl {E : TypeId} {base sz : Nat} {w : World} {es : List (List Tr)} {v : Value} {U : Nat → Prop} (h : Acc E base sz w es v U) : AccRun E base sz w v w es v := ⟨⟨U, h⟩, Chg.refl _ _, fun _ h => .inl h⟩
theorem AccRun.ext {E : TypeId} {base sz : Nat} {w w1 w2 : World} {es : List (List Tr)} {v v' : Value} (h : AccRun E base sz w v w1 es v') (hx : Ext w1 w2) : AccRun E base sz w v w2 es v' := by
  obtain ⟨U, h1⟩ := h.acc
  exact ⟨⟨U, h1.ext hx⟩, h.chg.trans (.of_ext hx), h.row⟩
theorem AccRun.trans {E : TypeId} {base sz : Nat} {w w1 w2 : World} {es es2 : List (List Tr)} {v v1 v2 : Value} (h : AccRun E base sz w v w1 es v1) (k : AccRun E base sz w1 v1 w2 es2 v2) : AccRun E base sz w v w2 es2 v2 := by
  refine ⟨k.acc, ⟨k.chg.os.trans h.chg.os, k.chg.tape.trans h.chg.tape, k.chg.output.trans h.chg.output, Nat.le_trans h.chg.size k.chg.size, fun b hb hn => ?_⟩, fun b hb => ?_⟩
  · refine (k.chg.block b (Nat.lt_of_lt_of_le hb h.chg.size) fun h1 => ?_).trans (h.chg.block b hb hn)
    rcases h.row b h1 with h2 | h2
    · exact hn h2
    · omega
  · rcases k.row b hb with h1 | h1
    · exact h.row b h1
    · exact .inr (Nat.le_trans h.chg.size h1)
/-- What lies elsewhere stays. -/
theorem AccRun.ob {E : TypeId} {base sz : Nat} {w w' : World} {es : List (List Tr)} {v v' : Value} (h : AccRun E base sz w v w' es v') {B : Nat} {T : TypeId} {cs : Array Value} (hB : OB w B T cs) (hn : v.ownBlock ≠ some B) : OB w' B T cs ∧ v'.ownBlock ≠ some B := by
  refine ⟨(h.chg.block B hB.lt hn).trans hB, fun h1 => ?_⟩
  rcases h.row B h1 with h2 | h2
  · exact hn h2
  · have := hB.lt; omega
theorem AccRun.old {E : TypeId} {base sz : Nat} {w0 w w' : World} {es : List (List Tr)} {v v' : Value} (h : AccRun E base sz w v w' es v') (hx : Ext w0 w) (hv : ∀ b, v.ownBlock = some b → w0.heap.size ≤ b) : Ext w0 w' := Chg.ext hx h.chg hv

end Go.Proofs.YtnakkelglbcecaaGreat

namespace Go.Proofs.YtnakkelglbcecaaGreat
open Go.RowKit Go.Proofs

set_option maxRecDepth 100000 in
set_option maxHeartbeats 1000000 in
theorem copiesType_impl_of (l : List GType) (H : ∀ x ∈ l, ToC 111 x.tr) : ToSC 163 3 (GType.trs l) := by
  intro s w hs hbk
  obtain ⟨a, cap, rfl, hl, hm⟩ := hs.shape
  rw [GType.trs_len] at *
  unfold maxLen at hm
  have HS := Lib.hid hs
  have HH := Lib.hid H
  have n0 : (0 : Int) ≤ l.length := by omega
  clear hs H
  go_enter Tryz.func163, Tryz.ntmps163
  go_wp2_with (refine wpList_make_rep rfl 45 (.tmp 7) rfl l.length rfl 47 Tryz.underlying45 3 48 iszb47 (by omega) (by omega) ?_; intro wm arr0 ha0 hob0 hx0 hz0; have HA0 := Lib.hid ha0; have HOB0 := Lib.hid hob0; have HX0 := Lib.hid hx0; have HZ0 := Lib.hid hz0; clear ha0 hob0 hx0 hz0)
  go_loopw [11] (fun i wr => ∃ (k : Nat) (arr : Array Value), k ≤ l.length ∧ i = .int .i64 k ∧ Ext w wr ∧ w.heap.size < wr.heap.size ∧ Hid (OB wr w.heap.size 47 arr) ∧ Hid (arr.size = (GType.trs l).length * 3) ∧ Hid (Part wr w.heap.size arr 3 (GType.trs l) k)) (fun i _ => l.length - (intOf i).toNat)
  case atStart => exact ⟨0, arr0, Nat.zero_le _, rfl, HX0.out, by rw [HZ0.out]; omega, HOB0.out, by show _ = _; rw [GType.trs_len]; exact HA0.out, Part.zero _ _ _ _ _⟩
  case round =>
    obtain ⟨k, arr, hk, rfl, hw, hgt, HOB, HAS, HP⟩ := hrel
    by_cases hlt : k < l.length
    · obtain ⟨b, off, cs, rfl, hb, hcs, hc⟩ := (HS.out.ext hw).at2 (k := k) (GType.trs_get hlt)
      have HM := Lib.hid (List.getElem_mem hlt)
      have HCS := Lib.hid hcs
      have HC := Lib.hid hc
      have HI : Hid ((Tryz.prog.info? 47).map (·.size) = some cs.length) := by rw [← hcs.length, GType.tr_len]; exact isz47
      have HCL : Hid (cs.length = 3) := by rw [← hcs.length, GType.tr_len]; rfl
      clear hcs hc
      have hbe : Tr.bulkL (l[k]).tr ≤ Tr.bulkAll (GType.trs l) := by
        have h1 : k < (GType.trs l).length := by rw [GType.trs_len]; exact hlt
        have h2 := Tr.bulkAll_le h1
        have h3 : (GType.trs l)[k] = (l[k]).tr := by have h4 := GType.trs_get hlt; rw [List.getElem?_eq_getElem h1] at h4; exact Option.some.inj h4
        rwa [h3] at h2
      have hbs : Tr.bulkL (l[k]).tr ≤ 68719476736 := by omega
      clear hbe
      go_wp2_with (first
        | (refine wpList_load_rep rfl 47 (.tmp 14) rfl b (off + k * 3) rfl cs _ Tryz.underlying47 HI.out HC.out ?_)
        | (refine wpList_store_rep rfl 47 (.tmp 5) (.tmp 15) rfl wr.heap.size 0 rfl cs rfl 47 _ (OB.new wr _ _) HI.out (by rw [HCL.out]; exact Nat.le_refl _) HCS.out.one ?_; intro wb hob hgb hzb; rw [splice_whole (by rw [HCL.out]; rfl)] at hob; have HOBV := Lib.hid hob; have HXBV := Lib.hid (grown_ext (.alloc (.refl wr) _) hgb (Nat.le_refl _)); clear hob hgb hzb)
        | (refine wpList_load_rep rfl 47 (.tmp 5) rfl wr.heap.size 0 rfl cs _ Tryz.underlying47 HI.out HOBV.out.cells0 ?_))
      refine (HH.out _ HM.out _ _ (HCS.out.ext HXBV.out) hbs).mono ?_; rintro e w1 ⟨cs1, rfl, hw1, ho1⟩
      have HW1 := Lib.hid (HXBV.out.trans hw1)
      have HO1 := Lib.hid (ho1.mono (S' := Between wr w1) fun x hx => ⟨Nat.le_trans HXBV.out.size hx.1, hx.2⟩)
      have HCL1 : Hid (cs1.length = 3) := ho1.1.trans (GType.tr_len _)
      have HF : Hid (0 + k * 3 + cs1.length ≤ arr.size) := by have h1 := HAS.out; have h2 := HCL1.out; rw [GType.trs_len] at h1; show _ ≤ _; omega
      clear hw1 ho1
      go_wp2_with (refine wpList_store_rep rfl 47 (.tmp 20) (.tmp 19) rfl w.heap.size (k * 3) rfl cs1 rfl 47 arr (HOB.out.ext HW1.out) (by rw [HCL1.out]; exact isz47) (by have := HF.out; omega) (HO1.out.rep.one) ?_; intro w2 hob2 hg2 hz2; have HOB2 := Lib.hid hob2; have HG2 := Lib.hid hg2; have HZ2 := Lib.hid hz2; clear hob2 hg2 hz2)
      go_roundw
      case rel =>
        have hfit : k * 3 + cs1.length ≤ arr.size := by have := HF.out; omega
        refine ⟨k + 1, _, by omega, by go_num, ?_, ?_, HOB2.out, by show _ = _; rw [splice_size hfit]; exact HAS.out, HP.out.step hgt HW1.out (GType.trs_get hlt) HO1.out HCL1.out HAS.out HG2.out HOB2.out⟩
        · exact grown_ext (hw.trans HW1.out) HG2.out (Nat.le_refl _)
        · have := HW1.out.size
          have := HZ2.out
          omega
      case measure => simp [intOf]; omega
    · have hkl : k = (GType.trs l).length := by rw [GType.trs_len]; omega
      go_wp2_with fail
      go_ret
      subst hkl
      have := (HP.out.done HOB.out (GType.sz l) (Nat.le_refl _) (by rw [GType.trs_len]; unfold maxLen; omega) (Nat.le_refl _)).mono (S' := Between w wr) fun x hx => ⟨hx.1, hx.2⟩
      rw [GType.trs_len] at this
      exact ⟨_, rfl, hw, this⟩

set_option maxRecDepth 100000 in
set_option maxHeartbeats 1000000 in
theorem copyType_impl : ∀ x : GType, ToC 111 x.tr := by
  refine GType.ind fun v0 v1 xs ih => ?_; intro cs w hr hbk
  obtain ⟨a, c, rfl, k0, k1, h3⟩ := GType.opened hr
  have hbk2 : xs.length + Tr.bulkAll (GType.trs xs) ≤ 68719476736 := by
    simp only [GType.tr, Tr.bulkL_append, Tr.bulkL, Tr.bulk, GType.trs_len] at hbk
    omega
  have HCC := Lib.hid (copiesType_impl_of xs ih)
  have HS := Lib.hid h3
  have K0 := Lib.hid k0
  have K1 := Lib.hid k1
  have HL : Hid (Tr.bulkAll (GType.trs xs) + (GType.trs xs).length ≤ 68719476736) := by show _ ≤ _; rw [GType.trs_len]; omega
  clear hr h3 ih hbk hbk2 k0 k1
  simp only [List.cons_append, List.nil_append] at *
  go_enter Tryz.func111, Tryz.ntmps111
  go_wp2_with fail
  refine (HCC.out _ _ (HS.out.ext (.alloc (.alloc (.refl _) _) _)) (by have := HL.out; omega)).mono ?_; rintro e w1 ⟨s', rfl, hw1, ho1⟩
  obtain ⟨da, dc, rfl, -, -⟩ := ho1.rep.shape
  rw [GType.trs_len] at *
  have h2w := (Two.new w 47 47 #[.int .i64 v0, .string v1, .slice a xs.length c] #[.int .i64 0, .string ⟨#[]⟩, .slice none 0 0]).ext hw1
  have H2 := Lib.hid h2w
  have HW1 := Lib.hid hw1
  have HO1 := Lib.hid ho1
  have hzz : w.heap.size + 1 < w1.heap.size := h2w.o1.lt
  clear h2w hw1 ho1
  have hone : Hid (∀ v ∈ ([.int .i64 v0, .string v1, .slice da xs.length dc] : List Value), v.oneCell' = true) := by
    intro v hv
    simp only [List.mem_cons, List.not_mem_nil, or_false] at hv
    rcases hv with rfl | rfl | rfl <;> rfl
  go_wp2_with (first
    | (refine wpList_store_cell rfl 45 (.tmp 6) (.tmp 5) rfl w.heap.size 2 rfl (.slice da xs.length dc) rfl rfl 47 _ H2.out.o0 isz45 (by simp) rfl ?_; intro w2 hob hg hz; have HOB := Lib.hid (show OB w2 w.heap.size 47 ⟨[.int .i64 v0, .string v1, .slice da xs.length dc]⟩ from hob); have HR2 := Lib.hid (H2.out.o1.grown hg (by omega)); have HG2 := Lib.hid hg; have hq2 : w1.heap.size = w2.heap.size := hz.symm; clear hob hg hz)
    | (refine wpList_load_rep rfl 47 (.tmp 1) rfl w.heap.size 0 rfl [.int .i64 v0, .string v1, .slice da xs.length dc] _ Tryz.underlying47 isz47 (OB.cells0 HOB.out) ?_)
    | (refine wpList_store_rep rfl 47 (.tmp 2) (.tmp 7) rfl (w.heap.size + 1) 0 rfl [.int .i64 v0, .string v1, .slice da xs.length dc] rfl 47 _ HR2.out isz47 (by simp) hone.out ?_; intro w3 hob hg hz; have HOB3 := Lib.hid (show OB w3 (w.heap.size + 1) 47 ⟨[.int .i64 v0, .string v1, .slice da xs.length dc]⟩ from hob); have HG3 := Lib.hid hg; have hq3 : w2.heap.size = w3.heap.size := hz.symm; clear hob hg hz))
  have hx3 : Ext w w3 := grown_ext (grown_ext (Ext.trans (.alloc (.alloc (.refl _) _) _) HW1.out) HG2.out (by omega)) HG3.out (by omega)
  refine bodyPost_ret (results_cell_row Tryz.results111 _ _ (w.heap.size + 1) 47 ⟨[.int .i64 v0, .string v1, .slice da xs.length dc]⟩ _ _ rfl HOB3.out Tryz.underlying47 rfl isz47) rfl ⟨[.int .i64 v0, .string v1, .slice da xs.length dc], rfl, hx3, ?_⟩
  have ow := HO1.out.keeps (lo := w.heap.size + 1 + 1) (Keeps.trans (Keeps.of_grown HG2.out (by omega)) (Keeps.of_grown HG3.out (by omega))) (by intro x hx; have := hx.1; simp only [World.size_alloc] at this; omega)
  have hall := OwnL.cons_leaf K0.out (OwnL.cons_leaf K1.out (OwnL.one ow))
  exact hall.mono (by intro x hx; have h1 := hx.1; have h2 := hx.2; simp only [World.size_alloc] at h1; exact ⟨by omega, by omega⟩)
end Go.Proofs.YtnakkelglbcecaaGreat

namespace Go.Proofs.YtnakkelglbcecaaGreat
open Go.RowKit Go.Proofs

theorem results_cell_row_tmp {P : Program} {fn : Func} {p q : Tmp} {ty : TypeId} (h : fn.results = #[.cell p ty, .tmp q]) (tmps : Array Value) (w : World) (g : Nat) (t : TypeId) (cs : Array Value) (fr : Nat × Nat) (d : TypeDesc) (v : Value)
    (hp : tmps.getD p undef = .pointer (some ⟨g, 0, none⟩)) (hv : tmps.getD q undef = v) (hg : w.heap[g]? = some (.cells cs t fr))
    (hu : P.underlying ty = some d) (hd : (match d with | .struct _ | .array _ _ => true | _ => false) = true) (hi : (P.info? ty).map (·.size) = some cs.size) :
    (results fn tmps).run P w = .ok (.tuple #[.agg cs, v]) w := by
  have hp' : tmps[p]?.getD undef = .pointer (some ⟨g, 0, none⟩) := by simpa using hp
  have hv' : tmps[q]?.getD undef = v := by simpa using hv
  simp [results, h, hp', hv', asAddr, run_loadVar_row w g t ty cs fr d hg hu hd hi]
theorem find_at {α : Type} {p : α → Bool} : ∀ {l : List α} {k : Nat} (hk : k < l.length), (∀ j (hj : j < l.length), j < k → p l[j] = false) → p l[k] = true → l.find? p = some l[k]
  | a :: l, 0, _, _, h => by simp only [List.getElem_cons_zero] at h ⊢; rw [List.find?_cons, h]
  | a :: l, k + 1, hk, hn, h => by
    have h0 := hn 0 (by simp) (by omega)
    simp only [List.getElem_cons_zero] at h0
    simp only [List.getElem_cons_succ] at h ⊢
    rw [List.find?_cons, h0]
    exact find_at (by simpa using hk) (fun j hj hlt => by have := hn (j + 1) (by simp; omega) (by omega); simpa using this) h
theorem find_not {α : Type} {p : α → Bool} {l : List α} (hn : ∀ j (hj : j < l.length), p l[j] = false) : l.find? p = none := by
  rw [List.find?_eq_none]
  intro x hx
  obtain ⟨j, hj, rfl⟩ := List.mem_iff_getElem.1 hx
  rw [hn j hj]
  simp
def zeroTy : List Value := [.int .i64 0, .string ⟨#[]⟩, .slice none 0 0]
def LookPost (l : List GBinding) (v : ByteArray) (w : World) (e : Ending) (w' : World) : Prop :=
  match l.find? (fun b => decide (b.gVar = v)) with
  | some b => ∃ cs, e = .returned (.tuple #[.agg ⟨cs⟩, .bool true]) ∧ Ext w w' ∧ OwnL w' b.gType.tr cs (Between w w')
  | none => e = .returned (.tuple #[.agg ⟨zeroTy⟩, .bool false]) ∧ Ext w w'

set_option maxRecDepth 100000 in
set_option maxHeartbeats 2000000 in
theorem lookP (l : List GBinding) (v : ByteArray) (s : Value) (w : World) (hs : Rep w (.row 4 (GBinding.trs l)) s) (hb : ∀ b ∈ l, Tr.bulkL b.gType.tr ≤ 68719476735) :
    Calls Tryz.prog 160 #[s, .string v] w (LookPost l v w) := by
  obtain ⟨a, cap, rfl, hl, hm⟩ := hs.shape
  rw [GBinding.trs_len] at *
  unfold maxLen at hm
  have isz225 : (Tryz.prog.info? 225).map (·.size) = some 4 := by kernel_rfl
  have HS := Lib.hid hs
  have HBB := Lib.hid hb
  have HSB := Lib.hid isz225
  clear hs hb
  go_enter Tryz.func160, Tryz.ntmps160
  go_wp2_with fail
  go_loopw [10] (fun i wr => ∃ k : Nat, k ≤ l.length ∧ i = .int .i64 k ∧ Hid (Ext w wr) ∧ w.heap.size < wr.heap.size ∧ Hid (OB wr w.heap.size 47 ⟨zeroTy⟩) ∧ Hid (∀ j (hj : j < l.length), j < k → decide (l[j].gVar = v) = false)) (fun i _ => l.length - (intOf i).toNat)
  case atStart => exact ⟨0, Nat.zero_le _, rfl, .alloc (.refl _) _, by simp only [World.size_alloc]; omega, OB.new w _ _, fun j hj h => by omega⟩
  case round =>
    obtain ⟨k, hk, rfl, HW, hgt, HOB, HNF⟩ := hrel
    by_cases hlt : k < l.length
    · obtain ⟨b, off, cs, rfl, hb, hcs, hc⟩ := (HS.out.ext HW.out).at2 (k := k) (GBinding.trs_get hlt)
      have HBK : Hid (Tr.bulkL (l[k]).gType.tr ≤ 68719476735) := HBB.out _ (List.getElem_mem hlt)
      have HFA : Hid (decide ((l[k]).gVar = v) = true → l.find? (fun b => decide (b.gVar = v)) = some l[k]) := find_at (p := fun b => decide (GBinding.gVar b = v)) hlt HNF.out
      have HNX : Hid (decide ((l[k]).gVar = v) = false → ∀ j (hj : j < l.length), j < k + 1 → decide (l[j].gVar = v) = false) := fun h j hj hjk => by
        rcases Nat.lt_or_ge j k with h1 | h1
        · exact HNF.out j hj h1
        · obtain rfl : j = k := by omega
          exact h
      clear HNF
      generalize l[k] = x at *
      obtain ⟨bv, bt⟩ := x
      simp only [GBinding.gVar_mk, GBinding.gType_mk] at *
      have HCS := Lib.hid hcs
      have HC := Lib.hid hc
      have HCL : Hid (cs.length = 4) := by rw [← hcs.length, GBinding.tr_len]; rfl
      have HI : Hid ((Tryz.prog.info? 225).map (·.size) = some cs.length) := by rw [HCL.out]; exact HSB.out
      clear hcs hc
      by_cases hv : bv = v
      · subst hv
        go_wp2_with (first
          | (refine wpList_load_rep rfl 225 (.tmp 12) rfl b (off + k * 4) rfl cs _ Tryz.underlying225 HI.out HC.out ?_)
          | (refine wpList_store_rep rfl 225 (.tmp 7) (.tmp 13) rfl wr.heap.size 0 rfl cs rfl 225 _ (OB.new wr _ _) HI.out (by rw [HCL.out]; exact Nat.le_refl _) HCS.out.one ?_; intro wb hob hgb hzb; rw [splice_whole (by rw [HCL.out]; rfl)] at hob; obtain ⟨x1, rfl, -, h1⟩ := GBinding.opened HCS.out; have HX1 := Lib.hid h1; obtain ⟨d0, d1, d2, rfl⟩ := list3 (h1.length.symm.trans (GType.tr_len bt)); clear h1; have HOBV := Lib.hid hob; have HXB := Lib.hid (grown_ext (.alloc (.refl wr) _) hgb (Nat.le_refl _)); have hcv : wb.cell? ⟨wr.heap.size, 0, none⟩ = some (.string bv) := (by rw [hob.cell]; rfl); clear hob hgb hzb)
          | (refine wpList_load_rep rfl 47 (.tmp 18) rfl wr.heap.size 1 rfl [d0, d1, d2] _ Tryz.underlying47 isz47 (fun j u hu => by rw [HOBV.out.cell]; rcases j with _ | _ | _ | j <;> first | (simp at hu; done) | simpa using hu) ?_))
        refine (copyType_impl bt _ _ (HX1.out.ext HXB.out) (by have := HBK.out; omega)).mono ?_; rintro e w1 ⟨cs1, rfl, hw1, ho1⟩
        have HCL1 : Hid (cs1.length = 3) := ho1.1.trans (GType.tr_len bt)
        have HI1 : Hid ((Tryz.prog.info? 47).map (·.size) = some cs1.length) := by rw [HCL1.out]; exact isz47
        have HW1 := Lib.hid (HXB.out.trans hw1)
        have hgb : wr.heap.size ≤ wb.heap.size := HXB.out.size
        have HO1 := Lib.hid ho1
        clear hw1 ho1
        go_wp2_with (refine wpList_store_rep rfl 47 (.tmp 4) (.tmp 20) rfl w.heap.size 0 rfl cs1 rfl 47 _ (HOB.out.ext HW1.out) HI1.out (by rw [HCL1.out]; exact Nat.le_refl _) HO1.out.rep.one ?_; intro w2 hob hg hz; rw [splice_whole (by rw [HCL1.out]; rfl)] at hob; have HOB2 := Lib.hid hob; have HG2 := Lib.hid hg; clear hob hg hz)
        have hx2 : Ext w w2 := grown_ext (HW.out.trans HW1.out) HG2.out (Nat.le_refl _)
        refine bodyPost_ret (results_cell_row_tmp Tryz.results160 _ _ w.heap.size 47 ⟨cs1⟩ _ _ _ rfl rfl HOB2.out Tryz.underlying47 rfl HI1.out) rfl ?_
        show LookPost l bv w _ w2
        unfold LookPost
        rw [HFA.out (by simp)]
        exact ⟨cs1, rfl, hx2, (HO1.out.keep fun b' hb' hbl => HG2.out.block b' hbl (by intro h; injection h with h; have := hb'.1; omega)).mono fun b' hb' => ⟨by have := hb'.1; omega, Nat.lt_of_lt_of_le hb'.2 HG2.out.size⟩⟩
      · have hne : ¬ bv.toList = v.toList := fun h => hv (bytes_inj h)
        have HD : Hid (decide (bv = v) = false) := decide_eq_false hv
        clear hv
        go_wp2_with (first
          | (refine wpList_load_rep rfl 225 (.tmp 12) rfl b (off + k * 4) rfl cs _ Tryz.underlying225 HI.out HC.out ?_)
          | (refine wpList_store_rep rfl 225 (.tmp 7) (.tmp 13) rfl wr.heap.size 0 rfl cs rfl 225 _ (OB.new wr _ _) HI.out (by rw [HCL.out]; exact Nat.le_refl _) HCS.out.one ?_; intro wb hob hgb hzb; rw [splice_whole (by rw [HCL.out]; rfl)] at hob; obtain ⟨x1, rfl, -, h1⟩ := GBinding.opened HCS.out; have HX1 := Lib.hid h1; obtain ⟨d0, d1, d2, rfl⟩ := list3 (h1.length.symm.trans (GType.tr_len bt)); clear h1; have HOBV := Lib.hid hob; have HXB := Lib.hid (grown_ext (.alloc (.refl wr) _) hgb (Nat.le_refl _)); have hcv : wb.cell? ⟨wr.heap.size, 0, none⟩ = some (.string bv) := (by rw [hob.cell]; rfl); clear hob hgb hzb)
          | (exfalso; exact hne (by simpa using (‹(bv.toList == v.toList) = true›))))
        go_roundw
        case rel => exact ⟨k + 1, by omega, by go_num, HW.out.trans HXB.out, by have := HXB.out.size; omega, HOB.out.ext HXB.out, HNX.out HD.out⟩
        case measure => simp [intOf]; omega
    · go_wp2_with (refine wpList_store_rep rfl 47 (.tmp 4) (.tmp 22) rfl w.heap.size 0 rfl zeroTy rfl 47 _ HOB.out isz47 (by exact Nat.le_refl _) (by intro v hv; simp only [zeroTy, List.mem_cons, List.not_mem_nil, or_false] at hv; rcases hv with rfl | rfl | rfl <;> rfl) ?_; intro w2 hob hg hz; rw [splice_whole rfl] at hob; have HOB2 := Lib.hid hob; have HG2 := Lib.hid hg; clear hob hg hz)
      have hx2 : Ext w w2 := grown_ext HW.out HG2.out (Nat.le_refl _)
      refine bodyPost_ret (results_cell_row_tmp Tryz.results160 _ _ w.heap.size 47 ⟨zeroTy⟩ _ _ _ rfl rfl HOB2.out Tryz.underlying47 rfl isz47) rfl ?_
      show LookPost l v w _ w2
      unfold LookPost
      rw [find_not (p := fun b => decide (GBinding.gVar b = v)) fun j hj => HNF.out j hj (by omega)]
      exact ⟨rfl, hx2⟩
end Go.Proofs.YtnakkelglbcecaaGreat

namespace Go.Proofs.YtnakkelglbcecaaGreat
open Go.RowKit Go.Proofs

mutual
def applyT (l : List GBinding) : GType → GType
  | .mk k n xs => if k = 1 then (match l.find? (fun b => decide (GBinding.gVar b = n)) with
      | some b => b.gType
      | none => .mk k n (applyL l xs)) else .mk k n (applyL l xs)
def applyL (l : List GBinding) : List GType → List GType
  | [] => []
  | x :: r => applyT l x :: applyL l r
end
theorem applyL_map (l : List GBinding) : ∀ xs, applyL l xs = xs.map (applyT l)
  | [] => rfl
  | x :: r => by rw [applyL, applyL_map l r, List.map_cons]
theorem applyL_len (l : List GBinding) (xs : List GType) : (applyL l xs).length = xs.length := by rw [applyL_map, List.length_map]
theorem applyL_get (l : List GBinding) {xs : List GType} {k : Nat} (h : k < xs.length) : (GType.trs (applyL l xs))[k]? = some (applyT l xs[k]).tr := by
  rw [GType.trs_map, applyL_map, List.map_map, List.getElem?_map, List.getElem?_eq_getElem h]; rfl


/-- What Apply is to do. -/
def ApC (l : List GBinding) (t : GType) : Prop := ∀ (s : Value) (cs : List Value) (w : World), Rep w (.row 4 (GBinding.trs l)) s → RepL w t.tr cs → Tr.bulkL t.tr ≤ 68719476736 →
  Calls Tryz.prog 106 #[s, .agg ⟨cs⟩] w fun e w' => ∃ cs', e = .returned (.agg ⟨cs'⟩) ∧ Ext w w' ∧ OwnL w' (applyT l t).tr cs' (Between w w')

set_option maxRecDepth 100000 in
set_option maxHeartbeats 2000000 in
theorem applyAllP (bs : List GBinding) (l : List GType) (H : ∀ x ∈ l, ApC bs x) (sb s : Value) (w : World) (hsb : Rep w (.row 4 (GBinding.trs bs)) sb) (hs : Rep w (.row 3 (GType.trs l)) s) (hbk : l.length + Tr.bulkAll (GType.trs l) ≤ 68719476736) :
    Calls Tryz.prog 161 #[sb, s] w fun e w' => ∃ s', e = .returned s' ∧ Ext w w' ∧ Own w' (.row 3 (GType.trs (applyL bs l))) s' (Between w w') := by
  obtain ⟨a, cap, rfl, hl, hm⟩ := hs.shape
  rw [GType.trs_len] at *
  unfold maxLen at hm
  have HS := Lib.hid hs
  have HSB := Lib.hid hsb
  have HH := Lib.hid H
  have n0 : (0 : Int) ≤ l.length := by omega
  have HLN : Hid ((GType.trs (applyL bs l)).length = l.length) := by show _ = _; rw [GType.trs_len, applyL_len]
  clear hs hsb H
  go_enter Tryz.func161, Tryz.ntmps161
  go_wp2_with (refine wpList_make_rep rfl 45 (.tmp 9) rfl l.length rfl 47 Tryz.underlying45 3 48 iszb47 (by omega) (by omega) ?_; intro wm arr0 ha0 hob0 hx0 hz0; have HA0 := Lib.hid ha0; have HOB0 := Lib.hid hob0; have HX0 := Lib.hid hx0; have HZ0 := Lib.hid hz0; clear ha0 hob0 hx0 hz0)
  go_loopw [13] (fun i wr => ∃ (k : Nat) (arr : Array Value), k ≤ l.length ∧ i = .int .i64 k ∧ Ext w wr ∧ w.heap.size < wr.heap.size ∧ Hid (OB wr w.heap.size 47 arr) ∧ Hid (arr.size = (GType.trs (applyL bs l)).length * 3) ∧ Hid (Part wr w.heap.size arr 3 (GType.trs (applyL bs l)) k)) (fun i _ => l.length - (intOf i).toNat)
  case atStart => exact ⟨0, arr0, Nat.zero_le _, rfl, HX0.out, by rw [HZ0.out]; omega, HOB0.out, by show _ = _; rw [HLN.out]; exact HA0.out, Part.zero _ _ _ _ _⟩
  case round =>
    obtain ⟨k, arr, hk, rfl, hw, hgt, HOB, HAS, HP⟩ := hrel
    by_cases hlt : k < l.length
    · obtain ⟨b, off, cs, rfl, hb, hcs, hc⟩ := (HS.out.ext hw).at2 (k := k) (GType.trs_get hlt)
      have HM := Lib.hid (List.getElem_mem hlt)
      have HCS := Lib.hid hcs
      have HC := Lib.hid hc
      have HI : Hid ((Tryz.prog.info? 47).map (·.size) = some cs.length) := by rw [← hcs.length, GType.tr_len]; exact isz47
      have HCL : Hid (cs.length = 3) := by rw [← hcs.length, GType.tr_len]; rfl
      clear hcs hc
      have hbe : Tr.bulkL (l[k]).tr ≤ Tr.bulkAll (GType.trs l) := by
        have h1 : k < (GType.trs l).length := by rw [GType.trs_len]; exact hlt
        have h2 := Tr.bulkAll_le h1
        have h3 : (GType.trs l)[k] = (l[k]).tr := by have h4 := GType.trs_get hlt; rw [List.getElem?_eq_getElem h1] at h4; exact Option.some.inj h4
        rwa [h3] at h2
      have hbs : Tr.bulkL (l[k]).tr ≤ 68719476736 := by omega
      clear hbe
      go_wp2_with (first
        | (refine wpList_load_rep rfl 47 (.tmp 16) rfl b (off + k * 3) rfl cs _ Tryz.underlying47 HI.out HC.out ?_)
        | (refine wpList_store_rep rfl 47 (.tmp 7) (.tmp 17) rfl wr.heap.size 0 rfl cs rfl 47 _ (OB.new wr _ _) HI.out (by rw [HCL.out]; exact Nat.le_refl _) HCS.out.one ?_; intro wb hob hgb hzb; rw [splice_whole (by rw [HCL.out]; rfl)] at hob; have HOBV := Lib.hid hob; have HXBV := Lib.hid (grown_ext (.alloc (.refl wr) _) hgb (Nat.le_refl _)); clear hob hgb hzb)
        | (refine wpList_load_rep rfl 47 (.tmp 7) rfl wr.heap.size 0 rfl cs _ Tryz.underlying47 HI.out HOBV.out.cells0 ?_))
      refine (HH.out _ HM.out _ _ _ ((HSB.out.ext hw).ext HXBV.out) (HCS.out.ext HXBV.out) hbs).mono ?_; rintro e w1 ⟨cs1, rfl, hw1, ho1⟩
      have HW1 := Lib.hid (HXBV.out.trans hw1)
      have HO1 := Lib.hid (ho1.mono (S' := Between wr w1) fun x hx => ⟨Nat.le_trans HXBV.out.size hx.1, hx.2⟩)
      have HCL1 : Hid (cs1.length = 3) := ho1.1.trans (GType.tr_len _)
      have HF : Hid (0 + k * 3 + cs1.length ≤ arr.size) := by have h1 := HAS.out; have h2 := HCL1.out; have h3 := HLN.out; rw [h3] at h1; show _ ≤ _; omega
      clear hw1 ho1
      go_wp2_with (refine wpList_store_rep rfl 47 (.tmp 23) (.tmp 22) rfl w.heap.size (k * 3) rfl cs1 rfl 47 arr (HOB.out.ext HW1.out) (by rw [HCL1.out]; exact isz47) (by have := HF.out; omega) (HO1.out.rep.one) ?_; intro w2 hob2 hg2 hz2; have HOB2 := Lib.hid hob2; have HG2 := Lib.hid hg2; have HZ2 := Lib.hid hz2; clear hob2 hg2 hz2)
      go_roundw
      case rel =>
        have hfit : k * 3 + cs1.length ≤ arr.size := by have := HF.out; omega
        refine ⟨k + 1, _, by omega, by go_num, ?_, ?_, HOB2.out, by show _ = _; rw [splice_size hfit]; exact HAS.out, HP.out.step hgt HW1.out (applyL_get bs hlt) HO1.out HCL1.out HAS.out HG2.out HOB2.out⟩
        · exact grown_ext (hw.trans HW1.out) HG2.out (Nat.le_refl _)
        · have := HW1.out.size
          have := HZ2.out
          omega
      case measure => simp [intOf]; omega
    · have hkl : k = (GType.trs (applyL bs l)).length := by have := HLN.out; omega
      go_wp2_with fail
      go_ret
      subst hkl
      have := (HP.out.done HOB.out (GType.sz (applyL bs l)) (Nat.le_refl _) (by rw [HLN.out]; unfold maxLen; omega) (Nat.le_refl _)).mono (S' := Between w wr) fun x hx => ⟨hx.1, hx.2⟩
      rw [HLN.out] at this
      exact ⟨_, rfl, hw, this⟩

set_option maxRecDepth 100000 in
set_option maxHeartbeats 2000000 in
theorem applyP (l : List GBinding) (hb : ∀ b ∈ l, Tr.bulkL b.gType.tr ≤ 68719476735) : ∀ t : GType, ApC l t := by
  refine GType.ind fun v0 v1 xs ih => ?_; intro s cs w hs hr hbk
  obtain ⟨a, c, rfl, k0, k1, h3⟩ := GType.opened hr
  have hbk2 : xs.length + Tr.bulkAll (GType.trs xs) ≤ 68719476736 := by
    simp only [GType.tr, Tr.bulkL_append, Tr.bulkL, Tr.bulk, GType.trs_len] at hbk
    omega
  have HCC := Lib.hid (applyAllP l xs ih)
  have HLK := Lib.hid (fun v s' w' h => lookP l v s' w' h hb)
  have HS := Lib.hid h3
  have HB := Lib.hid hs
  have K0 := Lib.hid k0
  have K1 := Lib.hid k1
  have HL := Lib.hid hbk2
  clear hr h3 ih hbk hbk2 k0 k1 hs hb
  simp only [List.cons_append, List.nil_append] at *
  -- the way on: the arguments are rewritten
  by_cases hk : v0 = 1
  · subst hk
    have HAT : Hid (applyT l (.mk 1 v1 xs) = match l.find? (fun b => decide (GBinding.gVar b = v1)) with | some b => b.gType | none => .mk 1 v1 (applyL l xs)) := by show _ = _; rw [applyT, if_pos rfl]
    go_enter Tryz.func106, Tryz.ntmps106
    go_wp2_with fail
    refine (HLK.out v1 s _ (HB.out.ext (.alloc (.alloc (.refl _) _) _))).mono ?_; intro e w1 hp
    unfold LookPost at hp
    cases hf : l.find? (fun b => decide (GBinding.gVar b = v1)) with
    | some b =>
      rw [hf] at hp HAT
      obtain ⟨cs1, rfl, hw1, ho1⟩ := hp
      have h2w := (Two.new w 47 47 #[.int .i64 1, .string v1, .slice a xs.length c] #[.int .i64 0, .string ⟨#[]⟩, .slice none 0 0]).ext hw1
      have HB1 := Lib.hid h2w.o1
      have HCL1 : Hid (cs1.length = 3) := ho1.1.trans (GType.tr_len _)
      have HI1 : Hid ((Tryz.prog.info? 47).map (·.size) = some cs1.length) := by rw [HCL1.out]; exact isz47
      have HXW : Hid (Ext w w1) := Ext.trans (.alloc (.alloc (.refl _) _) _) hw1
      have HO1 := Lib.hid (ho1.mono (S' := fun x => w.heap.size + 1 + 1 ≤ x ∧ x < w1.heap.size) fun x hx => ⟨by have h1 := hx.1; simp only [World.size_alloc] at h1; omega, hx.2⟩)
      have hz1 : w.heap.size + 1 < w1.heap.size := h2w.o1.lt
      clear h2w hw1 ho1
      go_wp2_with (first
        | (refine wpList_store_rep rfl 47 (.tmp 5) (.tmp 15) rfl w1.heap.size 0 rfl cs1 rfl 47 _ (OB.new w1 _ _) HI1.out (by rw [HCL1.out]; exact Nat.le_refl _) HO1.out.rep.one ?_; intro w2 hob hg hz; rw [splice_whole (by rw [HCL1.out]; rfl)] at hob; have HOB2 := Lib.hid hob; have HX2 := Lib.hid (grown_ext (.alloc (.refl w1) _) hg (Nat.le_refl _)); have hz2 : w1.heap.size < w2.heap.size := hob.lt; clear hob hg hz)
        | (refine wpList_load_rep rfl 47 (.tmp 5) rfl w1.heap.size 0 rfl cs1 _ Tryz.underlying47 HI1.out HOB2.out.cells0 ?_)
        | (refine wpList_store_rep rfl 47 (.tmp 4) (.tmp 18) rfl (w.heap.size + 1) 0 rfl cs1 rfl 47 _ (HB1.out.ext HX2.out) HI1.out (by rw [HCL1.out]; exact Nat.le_refl _) HO1.out.rep.one ?_; intro w3 hob hg hz; rw [splice_whole (by rw [HCL1.out]; rfl)] at hob; have HOB3 := Lib.hid hob; have HG3 := Lib.hid hg; clear hob hg hz))
      have hx3 : Ext w w3 := grown_ext (HXW.out.trans HX2.out) HG3.out (by omega)
      refine bodyPost_ret (results_cell_row Tryz.results106 _ _ (w.heap.size + 1) 47 ⟨cs1⟩ _ _ rfl HOB3.out Tryz.underlying47 rfl HI1.out) rfl ⟨cs1, rfl, hx3, ?_⟩
      rw [HAT.out]
      have hs3 := HG3.out.size
      exact ((HO1.out.ext HX2.out).keeps (lo := w.heap.size + 1 + 1) (Keeps.of_grown HG3.out (by omega)) (by intro x hx; exact hx.1)).mono fun x hx => ⟨by have := hx.1; omega, by have := hx.2; omega⟩
    | none =>
      rw [hf] at hp HAT
      obtain ⟨rfl, hw1⟩ := hp
      have h2w := (Two.new w 47 47 #[.int .i64 1, .string v1, .slice a xs.length c] #[.int .i64 0, .string ⟨#[]⟩, .slice none 0 0]).ext hw1
      have HB0' := Lib.hid h2w.o0
      have HB1' := Lib.hid h2w.o1
      have HXW' : Hid (Ext w w1) := Ext.trans (.alloc (.alloc (.refl _) _) _) hw1
      clear h2w hw1
      go_wp2_with (refine wpList_store_rep rfl 47 (.tmp 5) (.tmp 15) rfl w1.heap.size 0 rfl zeroTy rfl 47 _ (OB.new w1 _ _) isz47 (by exact Nat.le_refl _) (by intro v hv; simp only [zeroTy, List.mem_cons, List.not_mem_nil, or_false] at hv; rcases hv with rfl | rfl | rfl <;> rfl) ?_; intro w2 hob hg hz; have HX2 := Lib.hid (grown_ext (.alloc (.refl w1) _) hg (Nat.le_refl _)); have HXW := Lib.hid (HXW'.out.trans HX2.out); have HB0 := Lib.hid (HB0'.out.ext HX2.out); have HB1 := Lib.hid (HB1'.out.ext HX2.out); clear hob hg hz)
      have HX0 : Hid (Ext w (w2).drew) := .drew HXW.out
      have HC : Hid (∀ W : World, (Ext w W ∧ OB W w.heap.size 47 #[.int .i64 1, .string v1, .slice a xs.length c]) → ∀ q : Nat, W.cell? ⟨w.heap.size, q, none⟩ = (#[.int .i64 1, .string v1, .slice a xs.length c] : Array Value)[q]?) := fun W hW q => hW.2.cell q
      refine wp_region_held_drew (S := fun W => Ext w W ∧ OB W w.heap.size 47 #[.int .i64 1, .string v1, .slice a xs.length c]) (by kernel_rfl) ?_ (fun hHeld => ?_)
      · exact ⟨HX0.out, HB0.out.ext (.drew (.refl _))⟩
      refine wpAnyH_take (i := 0) rfl (by kernel_rfl) (by kernel_rfl) (by kernel_rfl) (fun _ _ _ h => h) (.inl ⟨rfl, fun _ _ => rfl⟩) (by assumption) ?_
      simp only [Act.put, List.getElem_toArray, List.getElem_cons_zero, List.setIfInBounds_toArray, List.set_cons_zero, List.set_cons_succ]
      refine wpAnyH_cell (i := 1) rfl (by kernel_rfl) (by kernel_rfl) (by kernel_rfl) rfl 3 (.tmp 19) rfl (w.heap.size) (0) rfl (.int .i64 1) _ Tryz.underlying3 rfl (fun W hW => HC.out W hW 0) (by assumption) (fun _ _ _ _ h => h) ?_
      simp only [Act.put, List.getElem_toArray, List.getElem_cons_zero, List.getElem_cons_succ, List.setIfInBounds_toArray, List.set_cons_zero, List.set_cons_succ]
      refine wpAnyH_take (i := 2) rfl (by kernel_rfl) (by kernel_rfl) (by kernel_rfl) (fun _ _ _ h => h) (.inl ⟨rfl, fun _ _ => rfl⟩) (by assumption) ?_
      simp only [Act.put, List.getElem_toArray, List.getElem_cons_zero, List.getElem_cons_succ, List.setIfInBounds_toArray, List.set_cons_zero, List.set_cons_succ]
      refine wpAnyH_cell (i := 3) rfl (by kernel_rfl) (by kernel_rfl) (by kernel_rfl) rfl 9 (.tmp 21) rfl (w.heap.size) (1) rfl (.string v1) _ Tryz.underlying9 rfl (fun W hW => HC.out W hW 1) (by assumption) (fun _ _ _ _ h => h) ?_
      simp only [Act.put, List.getElem_toArray, List.getElem_cons_zero, List.getElem_cons_succ, List.setIfInBounds_toArray, List.set_cons_zero, List.set_cons_succ]
      refine wpAnyH_take (i := 4) rfl (by kernel_rfl) (by kernel_rfl) (by kernel_rfl) (fun _ _ _ h => h) (.inl ⟨rfl, fun _ _ => rfl⟩) (by assumption) ?_
      simp only [Act.put, List.getElem_toArray, List.getElem_cons_zero, List.getElem_cons_succ, List.setIfInBounds_toArray, List.set_cons_zero, List.set_cons_succ]
      refine wpAnyH_take (i := 5) rfl (by kernel_rfl) (by kernel_rfl) (by kernel_rfl) (fun _ _ _ h => h) (.inl ⟨rfl, fun _ _ => rfl⟩) (by assumption) ?_
      simp only [Act.put, List.getElem_toArray, List.getElem_cons_zero, List.getElem_cons_succ, List.setIfInBounds_toArray, List.set_cons_zero, List.set_cons_succ]
      refine wpAnyH_cell (i := 6) rfl (by kernel_rfl) (by kernel_rfl) (by kernel_rfl) rfl 45 (.tmp 24) rfl (w.heap.size) (2) rfl (.slice a xs.length c) _ Tryz.underlying45 rfl (fun W hW => HC.out W hW 2) (by assumption) (fun _ _ _ _ h => h) ?_
      simp only [Act.put, List.getElem_toArray, List.getElem_cons_zero, List.getElem_cons_succ, List.setIfInBounds_toArray, List.set_cons_zero, List.set_cons_succ]
      refine wpAnyH_call (i := 7) (by kernel_rfl) rfl rfl (run_call_func rfl rfl #[s, .slice a xs.length c] (by simp only [List.map_toArray, List.map_cons, List.map_nil, Act.eval]; rfl) Tryz.func161 (by kernel_rfl) (by kernel_rfl) _) (HCC.out _ _ _ (HB.out.ext HX0.out) (HS.out.ext HX0.out) (by have := HL.out; omega)) ?_; rintro e wt ⟨s', rfl, hwt, hot⟩
      have hs1 := (⟨hHeld.1.trans hwt, hHeld.2.ext hwt⟩ : Ext w wt ∧ OB wt w.heap.size 47 #[.int .i64 1, .string v1, .slice a xs.length c])
      refine ⟨_, rfl, hs1, ?_⟩
      obtain ⟨da, dc, rfl, -, -⟩ := hot.rep.shape
      rw [GType.trs_len, applyL_len] at *
      have H2 := Lib.hid ((HB1.out.ext (.drew (.refl _))).ext hwt)
      have HWT := Lib.hid hwt
      have HOT := Lib.hid hot
      have hzz : w.heap.size + 1 < wt.heap.size := H2.out.lt
      have hone : Hid (∀ v ∈ ([.int .i64 1, .string v1, .slice da xs.length dc] : List Value), v.oneCell' = true) := by simp [Value.oneCell', Hid]
      simp only [Act.put, List.getElem_toArray, List.getElem_cons_zero, List.getElem_cons_succ, List.setIfInBounds_toArray, List.set_cons_zero, List.set_cons_succ]
      refine wpAnyH_take (i := 8) (v := .agg ⟨[.int .i64 1, .string v1, .slice da xs.length dc]⟩) rfl (by kernel_rfl) (by kernel_rfl) (by kernel_rfl) (fun _ _ _ h => h) (.inl ⟨rfl, fun _ _ => by simp [execOp, go_sem]⟩) (by assumption) ?_
      simp only [Act.put, List.getElem_toArray, List.getElem_cons_zero, List.getElem_cons_succ, List.setIfInBounds_toArray, List.set_cons_zero, List.set_cons_succ]
      refine wpAnyH_store_rep (i := 9) (by kernel_rfl) rfl rfl 47 (.tmp 4) (.tmp 27) rfl (w.heap.size + 1) (0) rfl ([.int .i64 1, .string v1, .slice da xs.length dc]) rfl 47 _ (H2.out) isz47 (by simp) (hone.out) ?_; intro w3 hob hgb hzb
      have hs2 := (⟨grown_ext hs1.1 hgb (by omega), hs1.2.grown hgb (by omega)⟩ : Ext w w3 ∧ OB w3 w.heap.size 47 #[.int .i64 1, .string v1, .slice a xs.length c])
      refine ⟨hs2, ?_⟩
      have HOB3 := Lib.hid (show OB w3 (w.heap.size + 1) 47 ⟨[.int .i64 1, .string v1, .slice da xs.length dc]⟩ from hob)
      have HG3 := Lib.hid hgb
      have hq3 : wt.heap.size = w3.heap.size := hzb.symm
      clear hob hgb hzb hwt hot
      simp only [Act.put, List.getElem_toArray, List.getElem_cons_zero, List.getElem_cons_succ, List.setIfInBounds_toArray, List.set_cons_zero, List.set_cons_succ]
      refine wpAnyH_done (by kernel_rfl) ?_ _
      clear hHeld hs1
      go_wp2_with fail
      have hx3 : Ext w w3 := grown_ext (HX0.out.trans HWT.out) HG3.out (by omega)
      refine bodyPost_ret (results_cell_row Tryz.results106 _ _ (w.heap.size + 1) 47 ⟨[.int .i64 1, .string v1, .slice da xs.length dc]⟩ _ _ rfl HOB3.out Tryz.underlying47 rfl isz47) rfl ⟨[.int .i64 1, .string v1, .slice da xs.length dc], rfl, hx3, ?_⟩
      have hzd : w.heap.size + 1 + 1 ≤ (w2).drew.heap.size := HB1.out.lt
      have ow := HOT.out.keeps (lo := w.heap.size + 1 + 1) (Keeps.of_grown HG3.out (by omega)) (by intro x hx; exact Nat.le_trans hzd hx.1)
      have hall := OwnL.cons_leaf K0.out (OwnL.cons_leaf K1.out (OwnL.one ow))
      rw [HAT.out]
      exact hall.mono (by intro x hx; have h1 := Nat.le_trans hzd hx.1; exact ⟨by omega, Nat.lt_of_lt_of_le hx.2 HG3.out.size⟩)
  · have HAT : Hid (applyT l (.mk v0 v1 xs) = .mk v0 v1 (applyL l xs)) := by show _ = _; rw [applyT, if_neg hk]
    go_enter Tryz.func106, Tryz.ntmps106
    go_wp2_with fail
    have hxw : Ext w ((w.alloc (.cells #[.int .i64 v0, .string v1, .slice a xs.length c] 47)).alloc (.cells #[.int .i64 0, .string ⟨#[]⟩, .slice none 0 0] 47)) := .alloc (.alloc (.refl _) _) _
    have HXW := Lib.hid hxw
    have h2w := Two.new w 47 47 #[.int .i64 v0, .string v1, .slice a xs.length c] #[.int .i64 0, .string ⟨#[]⟩, .slice none 0 0]
    have HB0 := Lib.hid h2w.o0
    have HB1 := Lib.hid h2w.o1
    clear h2w hxw
    have HX0 : Hid (Ext w ((w.alloc (.cells #[.int .i64 v0, .string v1, .slice a xs.length c] 47)).alloc (.cells #[.int .i64 0, .string ⟨#[]⟩, .slice none 0 0] 47)).drew) := .drew HXW.out
    have HC : Hid (∀ W : World, (Ext w W ∧ OB W w.heap.size 47 #[.int .i64 v0, .string v1, .slice a xs.length c]) → ∀ q : Nat, W.cell? ⟨w.heap.size, q, none⟩ = (#[.int .i64 v0, .string v1, .slice a xs.length c] : Array Value)[q]?) := fun W hW q => hW.2.cell q
    refine wp_region_held_drew (S := fun W => Ext w W ∧ OB W w.heap.size 47 #[.int .i64 v0, .string v1, .slice a xs.length c]) (by kernel_rfl) ?_ (fun hHeld => ?_)
    · exact ⟨HX0.out, HB0.out.ext (.drew (.refl _))⟩
    refine wpAnyH_take (i := 0) rfl (by kernel_rfl) (by kernel_rfl) (by kernel_rfl) (fun _ _ _ h => h) (.inl ⟨rfl, fun _ _ => rfl⟩) (by assumption) ?_
    simp only [Act.put, List.getElem_toArray, List.getElem_cons_zero, List.setIfInBounds_toArray, List.set_cons_zero, List.set_cons_succ]
    refine wpAnyH_cell (i := 1) rfl (by kernel_rfl) (by kernel_rfl) (by kernel_rfl) rfl 3 (.tmp 19) rfl (w.heap.size) (0) rfl (.int .i64 v0) _ Tryz.underlying3 rfl (fun W hW => HC.out W hW 0) (by assumption) (fun _ _ _ _ h => h) ?_
    simp only [Act.put, List.getElem_toArray, List.getElem_cons_zero, List.getElem_cons_succ, List.setIfInBounds_toArray, List.set_cons_zero, List.set_cons_succ]
    refine wpAnyH_take (i := 2) rfl (by kernel_rfl) (by kernel_rfl) (by kernel_rfl) (fun _ _ _ h => h) (.inl ⟨rfl, fun _ _ => rfl⟩) (by assumption) ?_
    simp only [Act.put, List.getElem_toArray, List.getElem_cons_zero, List.getElem_cons_succ, List.setIfInBounds_toArray, List.set_cons_zero, List.set_cons_succ]
    refine wpAnyH_cell (i := 3) rfl (by kernel_rfl) (by kernel_rfl) (by kernel_rfl) rfl 9 (.tmp 21) rfl (w.heap.size) (1) rfl (.string v1) _ Tryz.underlying9 rfl (fun W hW => HC.out W hW 1) (by assumption) (fun _ _ _ _ h => h) ?_
    simp only [Act.put, List.getElem_toArray, List.getElem_cons_zero, List.getElem_cons_succ, List.setIfInBounds_toArray, List.set_cons_zero, List.set_cons_succ]
    refine wpAnyH_take (i := 4) rfl (by kernel_rfl) (by kernel_rfl) (by kernel_rfl) (fun _ _ _ h => h) (.inl ⟨rfl, fun _ _ => rfl⟩) (by assumption) ?_
    simp only [Act.put, List.getElem_toArray, List.getElem_cons_zero, List.getElem_cons_succ, List.setIfInBounds_toArray, List.set_cons_zero, List.set_cons_succ]
    refine wpAnyH_take (i := 5) rfl (by kernel_rfl) (by kernel_rfl) (by kernel_rfl) (fun _ _ _ h => h) (.inl ⟨rfl, fun _ _ => rfl⟩) (by assumption) ?_
    simp only [Act.put, List.getElem_toArray, List.getElem_cons_zero, List.getElem_cons_succ, List.setIfInBounds_toArray, List.set_cons_zero, List.set_cons_succ]
    refine wpAnyH_cell (i := 6) rfl (by kernel_rfl) (by kernel_rfl) (by kernel_rfl) rfl 45 (.tmp 24) rfl (w.heap.size) (2) rfl (.slice a xs.length c) _ Tryz.underlying45 rfl (fun W hW => HC.out W hW 2) (by assumption) (fun _ _ _ _ h => h) ?_
    simp only [Act.put, List.getElem_toArray, List.getElem_cons_zero, List.getElem_cons_succ, List.setIfInBounds_toArray, List.set_cons_zero, List.set_cons_succ]
    refine wpAnyH_call (i := 7) (by kernel_rfl) rfl rfl (run_call_func rfl rfl #[s, .slice a xs.length c] (by simp only [List.map_toArray, List.map_cons, List.map_nil, Act.eval]; rfl) Tryz.func161 (by kernel_rfl) (by kernel_rfl) _) (HCC.out _ _ _ (HB.out.ext HX0.out) (HS.out.ext HX0.out) (by have := HL.out; omega)) ?_; rintro e wt ⟨s', rfl, hwt, hot⟩
    have hs1 := (⟨hHeld.1.trans hwt, hHeld.2.ext hwt⟩ : Ext w wt ∧ OB wt w.heap.size 47 #[.int .i64 v0, .string v1, .slice a xs.length c])
    refine ⟨_, rfl, hs1, ?_⟩
    obtain ⟨da, dc, rfl, -, -⟩ := hot.rep.shape
    rw [GType.trs_len, applyL_len] at *
    have H2 := Lib.hid ((HB1.out.ext (.drew (.refl _))).ext hwt)
    have HWT := Lib.hid hwt
    have HOT := Lib.hid hot
    have hzz : w.heap.size + 1 < wt.heap.size := H2.out.lt
    have hone : Hid (∀ v ∈ ([.int .i64 v0, .string v1, .slice da xs.length dc] : List Value), v.oneCell' = true) := by simp [Value.oneCell', Hid]
    simp only [Act.put, List.getElem_toArray, List.getElem_cons_zero, List.getElem_cons_succ, List.setIfInBounds_toArray, List.set_cons_zero, List.set_cons_succ]
    refine wpAnyH_take (i := 8) (v := .agg ⟨[.int .i64 v0, .string v1, .slice da xs.length dc]⟩) rfl (by kernel_rfl) (by kernel_rfl) (by kernel_rfl) (fun _ _ _ h => h) (.inl ⟨rfl, fun _ _ => by simp [execOp, go_sem]⟩) (by assumption) ?_
    simp only [Act.put, List.getElem_toArray, List.getElem_cons_zero, List.getElem_cons_succ, List.setIfInBounds_toArray, List.set_cons_zero, List.set_cons_succ]
    refine wpAnyH_store_rep (i := 9) (by kernel_rfl) rfl rfl 47 (.tmp 4) (.tmp 27) rfl (w.heap.size + 1) (0) rfl ([.int .i64 v0, .string v1, .slice da xs.length dc]) rfl 47 _ (H2.out) isz47 (by simp) (hone.out) ?_; intro w3 hob hgb hzb
    have hs2 := (⟨grown_ext hs1.1 hgb (by omega), hs1.2.grown hgb (by omega)⟩ : Ext w w3 ∧ OB w3 w.heap.size 47 #[.int .i64 v0, .string v1, .slice a xs.length c])
    refine ⟨hs2, ?_⟩
    have HOB3 := Lib.hid (show OB w3 (w.heap.size + 1) 47 ⟨[.int .i64 v0, .string v1, .slice da xs.length dc]⟩ from hob)
    have HG3 := Lib.hid hgb
    have hq3 : wt.heap.size = w3.heap.size := hzb.symm
    clear hob hgb hzb hwt hot
    simp only [Act.put, List.getElem_toArray, List.getElem_cons_zero, List.getElem_cons_succ, List.setIfInBounds_toArray, List.set_cons_zero, List.set_cons_succ]
    refine wpAnyH_done (by kernel_rfl) ?_ _
    clear hHeld hs1
    go_wp2_with fail
    have hx3 : Ext w w3 := grown_ext (HX0.out.trans HWT.out) HG3.out (by omega)
    refine bodyPost_ret (results_cell_row Tryz.results106 _ _ (w.heap.size + 1) 47 ⟨[.int .i64 v0, .string v1, .slice da xs.length dc]⟩ _ _ rfl HOB3.out Tryz.underlying47 rfl isz47) rfl ⟨[.int .i64 v0, .string v1, .slice da xs.length dc], rfl, hx3, ?_⟩
    have hzd : w.heap.size + 1 + 1 ≤ ((w.alloc (.cells #[.int .i64 v0, .string v1, .slice a xs.length c] 47)).alloc (.cells #[.int .i64 0, .string ⟨#[]⟩, .slice none 0 0] 47)).drew.heap.size := HB1.out.lt
    have ow := HOT.out.keeps (lo := w.heap.size + 1 + 1) (Keeps.of_grown HG3.out (by omega)) (by intro x hx; exact Nat.le_trans hzd hx.1)
    have hall := OwnL.cons_leaf K0.out (OwnL.cons_leaf K1.out (OwnL.one ow))
    rw [HAT.out]
    exact hall.mono (by intro x hx; have h1 := Nat.le_trans hzd hx.1; exact ⟨by omega, Nat.lt_of_lt_of_le hx.2 HG3.out.size⟩)
end Go.Proofs.YtnakkelglbcecaaGreat

namespace Go.Proofs.YtnakkelglbcecaaGreat
set_option linter.unusedSimpArgs false
set_option linter.unusedVariables false
open Go.RowKit Go.Proofs

/-- j places have been looked at; what is kept of them, i elements, lies at the head; from place j on all is as it was. -/
structure DInv {α : Type} (p : α → Bool) (l : List α) (i j : Nat) (dk : List α) : Prop where
  len : dk.length = l.length
  lt : i < j
  low : dk.take i = (l.take j).filter (fun x => !p x)
  high : ∀ q, j ≤ q → dk[q]? = l[q]?
theorem DInv.keep {α : Type} {p : α → Bool} {l dk : List α} {i j : Nat} (h : DInv p l i j dk) (hj : j < l.length) (hp : p l[j] = false) : DInv p l (i + 1) (j + 1) (dk.set i l[j]) := by
  have hl := h.len
  have hlt := h.lt
  refine ⟨by simp [hl], by omega, ?_, fun q hq => ?_⟩
  · rw [List.take_succ_eq_append_getElem hj, List.filter_append, ← h.low]
    rw [List.take_succ_eq_append_getElem (by simp; omega), List.take_set_of_le (Nat.le_refl _)]
    simp [hp]
  · rw [List.getElem?_set_ne (by omega)]
    exact h.high q (by omega)
theorem DInv.skip {α : Type} {p : α → Bool} {l dk : List α} {i j : Nat} (h : DInv p l i j dk) (hj : j < l.length) (hp : p l[j] = true) : DInv p l i (j + 1) dk := by
  have hlt := h.lt
  refine ⟨h.len, by omega, ?_, fun q hq => h.high q (by omega)⟩
  rw [List.take_succ_eq_append_getElem hj, List.filter_append, ← h.low]
  simp [hp]
/-- A head of an own slice. -/
theorem Own.head {w : World} {sz : Nat} {es : List (List Tr)} {a : Option Addr} {n cap i : Nat} {S : Nat → Prop} (h : Own w (.row sz es) (.slice a n cap) S) (hi : i ≤ es.length) : Own w (.row sz (es.take i)) (.slice a i cap) S := by
  cases h with
  | row c T h1 h2 h3 h4 h5 h6 =>
    have hg : ∀ q e, (es.take i)[q]? = some e → es[q]? = some e := fun q e he => by
      rw [List.getElem?_take] at he
      split at he
      · exact he
      · cases he
    have hl : (es.take i).length = i := by simp; omega
    have := Own.row (w := w) (sz := sz) (es := es.take i) (a := a) (cap := cap) (S := S) c T (by omega) h2 (fun hne => by
      obtain ⟨b, off, E, arr, ha, hob, hs, hc⟩ := h3 (fun h0 => hne (by rw [h0]; simp))
      exact ⟨b, off, E, arr, ha, hob, hs, fun q e he => hc q e (hg q e he)⟩) (fun q e he => h4 q e (hg q e he)) (fun q e he => h5 q e (hg q e he)) (fun q e he j d hd q' e' he' => h6 q e (hg q e he) j d hd q' e' (hg q' e' he'))
    rwa [hl] at this
end Go.Proofs.YtnakkelglbcecaaGreat

namespace Go.Proofs.YtnakkelglbcecaaGreat
set_option linter.unusedSimpArgs false
set_option linter.unusedVariables false
open Go.RowKit Go.WalkArith Go.IntWalk Go.WideShapes

def rowRes (sz : Nat) (es : List (List Tr)) : Option (List PV) → Nat → PV
  | none, k => .acc sz es k
  | some ps, k => .tup (.acc sz es k :: ps)
/-- The function is handed data, and returns a slice of its own making (and data beside it). -/
def ARow (P : Program) (f : FuncId) (args : List PV) (E : TypeId) (sz : Nat) (es : List (List Tr)) (ps : Option (List PV)) : Prop :=
  ACalls P f args ⟨[], []⟩ (fun r st' => ∃ k, r = rowRes sz es ps k ∧ st'.rows[k]? = some ⟨E, sz, es, false⟩)

section
variable {P : Program} {C : Ctx} {n : Nat} {s : AS} {o : Oper}
end

theorem Own.ofAcc {av : Nat → Nat → Prop} {st : Sto} {m : Lay} {w : World} {k E sz : Nat} {es : List (List Tr)} {v : Value} {S : Nat → Prop} (hst : StoOk av st m w) (hrow : st.rows[k]? = some ⟨E, sz, es, false⟩) (hv : RV (okA av st m) st m w (.acc sz es k) v)
    (hS : ∀ g c, m.γ k = some (g, c) → g < w.heap.size → S g) (hfl : ∀ e ∈ es, ∀ d ∈ e, ∃ u, d = .leaf u) : Own w (.row sz es) v S := by
  obtain ⟨q1, q2, q3⟩ := hst.row k _ hrow
  obtain ⟨row, hr, -, hle, hrep, heq⟩ := hv
  rw [hrow] at hr
  obtain rfl := Option.some.inj hr
  have hv := heq rfl
  rcases q3 with ⟨a, b⟩ | ⟨g, c, cur, r1, r2, r3, r4, r5, r6⟩
  · rw [a] at hv
    have b : es = [] := b
    subst b
    subst hv
    exact Own.row (es := []) (fun _ _ => undef) (fun _ _ _ => False) (by simp) (by unfold maxLen; omega) (by simp) (by simp) (by simp) (by simp)
  · rw [r1] at hv
    subst hv
    have r6 : RepM (okA av st m) w (.row sz es) (.slice (some ⟨g, 0, none⟩) es.length c) := r6
    show Own w (.row sz es) (.slice (some ⟨g, 0, none⟩) es.length c) S
    cases r6 with
    | row cc h1 h2 h3 h4 =>
      refine .row cc (fun _ _ _ => False) h1 h2 (fun hne => ?_) (fun i e he j d hd => ?_) (fun _ _ _ _ _ _ x hx => hx.elim) (fun _ _ _ _ _ _ _ _ _ _ _ _ _ x hx => hx.elim)
      · obtain ⟨b, off, ha, hb, hc⟩ := h3 hne
        obtain ⟨rfl, rfl⟩ : g = b ∧ 0 = off := by simpa using ha
        exact ⟨g, 0, E, cur, rfl, r2, hS g c r1 hb, fun i e he j d hd => ⟨by rw [← r2.cell]; exact (hc i e he j d hd).2, fun x hx => hx.elim⟩⟩
      · obtain ⟨u, rfl⟩ := hfl e (List.mem_of_getElem? he) d (List.mem_of_getElem? hd)
        have h7 := (h4 i e he j _ hd).rep.leaf_eq
        rw [h7.1]
        exact .leaf h7.2
theorem ARow.own {P : Program} {f : FuncId} {args : List PV} {E sz : Nat} {es : List (List Tr)} (h : ARow P f args E sz es none) (hfl : ∀ e ∈ es, ∀ d ∈ e, ∃ u, d = .leaf u) {w : World} {vals : List Value} (hv : RVL0 w args vals) :
    Calls P f ⟨vals⟩ w fun e w' => ∃ v, e = .returned v ∧ Ext w w' ∧ Own w' (.row sz es) v (Between w w') :=
  (h av0 lay0 w vals (sto0 w) hv).mono fun e w' => by
    rintro ⟨res, st', m', v, rfl, ⟨k, rfl, hrow⟩, hst, he, hr⟩
    exact ⟨v, rfl, he.ext, Own.ofAcc hst hrow hr (fun g c hg hlt => by
      rcases he.rfresh k _ g c hrow hg with ⟨row, c0, h0, _⟩ | hf
      · simp at h0
      · exact ⟨hf, hlt⟩) hfl⟩
theorem AFun.plainRB {P : Program} {f : FuncId} {args : List PV} {t : Tr} {d : Value} (h : AFun P f args (.tup [.t t, .t (.leaf d)])) {w : World} {vals : List Value} (hv : RVL0 w args vals) : Calls P f ⟨vals⟩ w fun e w' => ∃ u, e = .returned (.tuple #[u, d]) ∧ Ext w w' ∧ Rep w' t u :=
  (h av0 lay0 w vals (sto0 w) hv).mono fun e w' => by
    rintro ⟨res, st', m', v, rfl, ⟨rfl, rfl⟩, -, he, vs, rfl, hr⟩
    match vs, hr with
    | [u, x], hr =>
      obtain ⟨rfl, -⟩ := (RepM.rep (show RepM _ _ (.leaf d) x from hr.2.1)).leaf_eq
      exact ⟨u, rfl, he.ext, RepM.rep hr.1⟩
end Go.Proofs.YtnakkelglbcecaaGreat

namespace Go.Proofs.YtnakkelglbcecaaGreat
open Go.RowKit Go.Proofs
set_option linter.unusedSimpArgs false
set_option linter.unusedVariables false

attribute [local irreducible] lt

end Go.Proofs.YtnakkelglbcecaaGreat

namespace Go.Proofs.YtnakkelglbcecaaGreat
theorem Tr.bulkL_cat : ∀ (a b : List Tr), Tr.bulkL (a ++ b) = Tr.bulkL a + Tr.bulkL b
  | [], b => by simp [Tr.bulkL]
  | t :: a, b => by simp [Tr.bulkL, Tr.bulkL_cat a b, Nat.add_assoc]
theorem cnts_of : ∀ {es : List (List Tr)}, (∀ e ∈ es, Tr.cntL e ≤ 20 + 20 * Tr.bulkL e) → Tr.cntE es ≤ 20 * es.length + 20 * Tr.bulkAll es
  | [], _ => by simp [Tr.cntE]
  | e :: r, h => by
    have h1 := cnts_of (es := r) (fun x hx => h x (List.mem_cons_of_mem _ hx))
    have h2 := h e (by simp)
    simp only [Tr.cntE, Tr.bulkAll, List.length_cons]
    omega
theorem strCnt (l : List ByteArray) : Tr.cntE (strTrs l) = l.length := by
  induction l with
  | nil => rfl
  | cons a l ih => simp only [strTrs, List.map_cons, Tr.cntE, Tr.cntL, Tr.cnt, List.length_cons] at *; omega
theorem Tr.topN_cnt : ∀ ts : List Tr, Tr.topN ts ≤ Tr.cntL ts
  | [] => by simp [Tr.topN]
  | .leaf v :: r => by have := Tr.topN_cnt r; simp only [Tr.topN, Tr.cntL, Tr.cnt]; omega
  | .row sz es :: r => by have := Tr.topN_cnt r; simp only [Tr.topN, Tr.cntL, Tr.cnt]; omega
theorem GType.cnt_le : ∀ x : GType, Tr.cntL x.tr ≤ 3 + 20 * Tr.bulkL x.tr := by
  refine GType.ind fun v0 v1 v2 ih => ?_
  have c2 : Tr.cntE (GType.trs v2) ≤ 20 * v2.length + 20 * Tr.bulkAll (GType.trs v2) := by have h := cnts_of (GType.all (l := v2) (Q := fun e => Tr.cntL e ≤ 20 + 20 * Tr.bulkL e) (fun x hx => by have := ih x hx; omega)); rw [GType.trs_len] at h; exact h
  have d2 := GType.trs_len v2
  simp only [GType.tr, Tr.cntL_append, Tr.bulkL_cat, Tr.cntL, Tr.cnt, Tr.bulkL, Tr.bulk]
  omega
theorem GType.cnts_le (l : List GType) : Tr.cntE (GType.trs l) ≤ 20 * l.length + 20 * Tr.bulkAll (GType.trs l) := by
  have h := cnts_of (GType.all (l := l) (Q := fun e => Tr.cntL e ≤ 20 + 20 * Tr.bulkL e) (fun x _ => by have := GType.cnt_le x; omega))
  rw [GType.trs_len] at h
  exact h
theorem GArm.cnt_of (x : GArm) (h : Tr.cntL x.gBody.tr ≤ 9 + 20 * Tr.bulkL x.gBody.tr) : Tr.cntL x.tr ≤ 11 + 20 * Tr.bulkL x.tr := by
  obtain ⟨v0, v1, v2⟩ := x
  have h : Tr.cntL v2.tr ≤ 9 + 20 * Tr.bulkL v2.tr := h
  have c1 := strCnt v1
  have d1 := strTrs_len v1
  simp only [GArm.tr, Tr.cntL_append, Tr.bulkL_cat, Tr.cntL, Tr.cnt, Tr.bulkL, Tr.bulk]
  omega
theorem GExpr.cnt_le : ∀ x : GExpr, Tr.cntL x.tr ≤ 9 + 20 * Tr.bulkL x.tr := by
  refine GExpr.ind fun v0 v1 v2 v3 v4 v5 v6 ih5 ih6 => ?_
  have c4 := GType.cnt_le v4
  have c5 : Tr.cntE (GExpr.trs v5) ≤ 20 * v5.length + 20 * Tr.bulkAll (GExpr.trs v5) := by have h := cnts_of (GExpr.all (l := v5) (Q := fun e => Tr.cntL e ≤ 20 + 20 * Tr.bulkL e) (fun x hx => by have := ih5 x hx; omega)); rw [GExpr.trs_len] at h; exact h
  have c6 : Tr.cntE (GArm.trs v6) ≤ 20 * v6.length + 20 * Tr.bulkAll (GArm.trs v6) := by have h := cnts_of (GArm.all (l := v6) (Q := fun e => Tr.cntL e ≤ 20 + 20 * Tr.bulkL e) (fun x hx => by have := GArm.cnt_of x (ih6 x hx); omega)); rw [GArm.trs_len] at h; exact h
  have d5 := GExpr.trs_len v5
  have d6 := GArm.trs_len v6
  simp only [GExpr.tr, Tr.cntL_append, Tr.bulkL_cat, Tr.cntL, Tr.cnt, Tr.bulkL, Tr.bulk]
  omega
theorem GBound.cnt_le (x : GBound) : Tr.cntL x.tr ≤ 4 + 20 * Tr.bulkL x.tr := by
  obtain ⟨v0, v1⟩ := x
  have c1 := GType.cnt_le v1
  simp only [GBound.tr, Tr.cntL_append, Tr.bulkL_cat, Tr.cntL, Tr.cnt, Tr.bulkL, Tr.bulk]
  omega
theorem GBound.cnts_le (l : List GBound) : Tr.cntE (GBound.trs l) ≤ 20 * l.length + 20 * Tr.bulkAll (GBound.trs l) := by
  have h := cnts_of (GBound.all (l := l) (Q := fun e => Tr.cntL e ≤ 20 + 20 * Tr.bulkL e) (fun x _ => by have := GBound.cnt_le x; omega))
  rw [GBound.trs_len] at h
  exact h
theorem GParam.cnt_le (x : GParam) : Tr.cntL x.tr ≤ 4 + 20 * Tr.bulkL x.tr := by
  obtain ⟨v0, v1⟩ := x
  have c1 := GType.cnt_le v1
  simp only [GParam.tr, Tr.cntL_append, Tr.bulkL_cat, Tr.cntL, Tr.cnt, Tr.bulkL, Tr.bulk]
  omega
theorem GParam.cnts_le (l : List GParam) : Tr.cntE (GParam.trs l) ≤ 20 * l.length + 20 * Tr.bulkAll (GParam.trs l) := by
  have h := cnts_of (GParam.all (l := l) (Q := fun e => Tr.cntL e ≤ 20 + 20 * Tr.bulkL e) (fun x _ => by have := GParam.cnt_le x; omega))
  rw [GParam.trs_len] at h
  exact h
theorem GMethod.cnt_le (x : GMethod) : Tr.cntL x.tr ≤ 11 + 20 * Tr.bulkL x.tr := by
  obtain ⟨v0, v1, v2⟩ := x
  have c1 := strCnt v1
  have d1 := strTrs_len v1
  have c2 := GExpr.cnt_le v2
  simp only [GMethod.tr, Tr.cntL_append, Tr.bulkL_cat, Tr.cntL, Tr.cnt, Tr.bulkL, Tr.bulk]
  omega
theorem GMethod.cnts_le (l : List GMethod) : Tr.cntE (GMethod.trs l) ≤ 20 * l.length + 20 * Tr.bulkAll (GMethod.trs l) := by
  have h := cnts_of (GMethod.all (l := l) (Q := fun e => Tr.cntL e ≤ 20 + 20 * Tr.bulkL e) (fun x _ => by have := GMethod.cnt_le x; omega))
  rw [GMethod.trs_len] at h
  exact h
theorem GConstructor.cnt_le (x : GConstructor) : Tr.cntL x.tr ≤ 2 + 20 * Tr.bulkL x.tr := by
  obtain ⟨v0, v1⟩ := x
  have c1 := GType.cnts_le v1
  have d1 := GType.trs_len v1
  simp only [GConstructor.tr, Tr.cntL_append, Tr.bulkL_cat, Tr.cntL, Tr.cnt, Tr.bulkL, Tr.bulk]
  omega
theorem GConstructor.cnts_le (l : List GConstructor) : Tr.cntE (GConstructor.trs l) ≤ 20 * l.length + 20 * Tr.bulkAll (GConstructor.trs l) := by
  have h := cnts_of (GConstructor.all (l := l) (Q := fun e => Tr.cntL e ≤ 20 + 20 * Tr.bulkL e) (fun x _ => by have := GConstructor.cnt_le x; omega))
  rw [GConstructor.trs_len] at h
  exact h
theorem GSignature.cnt_le (x : GSignature) : Tr.cntL x.tr ≤ 16 + 20 * Tr.bulkL x.tr := by
  obtain ⟨v0, v1, v2, v3, v4, v5⟩ := x
  have c1 := GType.cnts_le v1
  have d1 := GType.trs_len v1
  have c2 := GType.cnt_le v2
  have c4 := strCnt v4
  have d4 := strTrs_len v4
  have c5 := GExpr.cnt_le v5
  simp only [GSignature.tr, Tr.cntL_append, Tr.bulkL_cat, Tr.cntL, Tr.cnt, Tr.bulkL, Tr.bulk]
  omega
theorem GSignature.cnts_le (l : List GSignature) : Tr.cntE (GSignature.trs l) ≤ 20 * l.length + 20 * Tr.bulkAll (GSignature.trs l) := by
  have h := cnts_of (GSignature.all (l := l) (Q := fun e => Tr.cntL e ≤ 20 + 20 * Tr.bulkL e) (fun x _ => by have := GSignature.cnt_le x; omega))
  rw [GSignature.trs_len] at h
  exact h
theorem GTrait.cnt_le (x : GTrait) : Tr.cntL x.tr ≤ 5 + 20 * Tr.bulkL x.tr := by
  obtain ⟨v0, v1, v2, v3, v4⟩ := x
  have c1 := strCnt v1
  have d1 := strTrs_len v1
  have c4 := GSignature.cnts_le v4
  have d4 := GSignature.trs_len v4
  simp only [GTrait.tr, Tr.cntL_append, Tr.bulkL_cat, Tr.cntL, Tr.cnt, Tr.bulkL, Tr.bulk]
  omega
theorem GTrait.cnts_le (l : List GTrait) : Tr.cntE (GTrait.trs l) ≤ 20 * l.length + 20 * Tr.bulkAll (GTrait.trs l) := by
  have h := cnts_of (GTrait.all (l := l) (Q := fun e => Tr.cntL e ≤ 20 + 20 * Tr.bulkL e) (fun x _ => by have := GTrait.cnt_le x; omega))
  rw [GTrait.trs_len] at h
  exact h
theorem GDataType.cnt_le (x : GDataType) : Tr.cntL x.tr ≤ 3 + 20 * Tr.bulkL x.tr := by
  obtain ⟨v0, v1, v2⟩ := x
  have c1 := strCnt v1
  have d1 := strTrs_len v1
  have c2 := GConstructor.cnts_le v2
  have d2 := GConstructor.trs_len v2
  simp only [GDataType.tr, Tr.cntL_append, Tr.bulkL_cat, Tr.cntL, Tr.cnt, Tr.bulkL, Tr.bulk]
  omega
theorem GDataType.cnts_le (l : List GDataType) : Tr.cntE (GDataType.trs l) ≤ 20 * l.length + 20 * Tr.bulkAll (GDataType.trs l) := by
  have h := cnts_of (GDataType.all (l := l) (Q := fun e => Tr.cntL e ≤ 20 + 20 * Tr.bulkL e) (fun x _ => by have := GDataType.cnt_le x; omega))
  rw [GDataType.trs_len] at h
  exact h
theorem GInstance.cnt_le (x : GInstance) : Tr.cntL x.tr ≤ 12 + 20 * Tr.bulkL x.tr := by
  obtain ⟨v0, v1, v2, v3, v4, v5, v6, v7⟩ := x
  have c1 := strCnt v1
  have d1 := strTrs_len v1
  have c2 := GType.cnt_le v2
  have c3 := GBound.cnts_le v3
  have d3 := GBound.trs_len v3
  have c6 := GType.cnt_le v6
  have c7 := GMethod.cnts_le v7
  have d7 := GMethod.trs_len v7
  simp only [GInstance.tr, Tr.cntL_append, Tr.bulkL_cat, Tr.cntL, Tr.cnt, Tr.bulkL, Tr.bulk]
  omega
theorem GInstance.cnts_le (l : List GInstance) : Tr.cntE (GInstance.trs l) ≤ 20 * l.length + 20 * Tr.bulkAll (GInstance.trs l) := by
  have h := cnts_of (GInstance.all (l := l) (Q := fun e => Tr.cntL e ≤ 20 + 20 * Tr.bulkL e) (fun x _ => by have := GInstance.cnt_le x; omega))
  rw [GInstance.trs_len] at h
  exact h
theorem GFunction.cnt_le (x : GFunction) : Tr.cntL x.tr ≤ 16 + 20 * Tr.bulkL x.tr := by
  obtain ⟨v0, v1, v2, v3, v4, v5⟩ := x
  have c1 := strCnt v1
  have d1 := strTrs_len v1
  have c2 := GBound.cnts_le v2
  have d2 := GBound.trs_len v2
  have c3 := GParam.cnts_le v3
  have d3 := GParam.trs_len v3
  have c4 := GType.cnt_le v4
  have c5 := GExpr.cnt_le v5
  simp only [GFunction.tr, Tr.cntL_append, Tr.bulkL_cat, Tr.cntL, Tr.cnt, Tr.bulkL, Tr.bulk]
  omega
theorem GFunction.cnts_le (l : List GFunction) : Tr.cntE (GFunction.trs l) ≤ 20 * l.length + 20 * Tr.bulkAll (GFunction.trs l) := by
  have h := cnts_of (GFunction.all (l := l) (Q := fun e => Tr.cntL e ≤ 20 + 20 * Tr.bulkL e) (fun x _ => by have := GFunction.cnt_le x; omega))
  rw [GFunction.trs_len] at h
  exact h
theorem GPackage.cnt_le (x : GPackage) : Tr.cntL x.tr ≤ 6 + 20 * Tr.bulkL x.tr := by
  obtain ⟨v0, v1, v2, v3, v4, v5⟩ := x
  have c1 := strCnt v1
  have d1 := strTrs_len v1
  have c2 := GTrait.cnts_le v2
  have d2 := GTrait.trs_len v2
  have c3 := GDataType.cnts_le v3
  have d3 := GDataType.trs_len v3
  have c4 := GInstance.cnts_le v4
  have d4 := GInstance.trs_len v4
  have c5 := GFunction.cnts_le v5
  have d5 := GFunction.trs_len v5
  simp only [GPackage.tr, Tr.cntL_append, Tr.bulkL_cat, Tr.cntL, Tr.cnt, Tr.bulkL, Tr.bulk]
  omega
theorem GPackage.cnts_le (l : List GPackage) : Tr.cntE (GPackage.trs l) ≤ 20 * l.length + 20 * Tr.bulkAll (GPackage.trs l) := by
  have h := cnts_of (GPackage.all (l := l) (Q := fun e => Tr.cntL e ≤ 20 + 20 * Tr.bulkL e) (fun x _ => by have := GPackage.cnt_le x; omega))
  rw [GPackage.trs_len] at h
  exact h
theorem GProgram.cnt_le (x : GProgram) : Tr.cntL x.tr ≤ 1 + 20 * Tr.bulkL x.tr := by
  obtain ⟨v0⟩ := x
  have c0 := GPackage.cnts_le v0
  have d0 := GPackage.trs_len v0
  simp only [GProgram.tr, Tr.cntL_append, Tr.bulkL_cat, Tr.cntL, Tr.cnt, Tr.bulkL, Tr.bulk]
  omega
theorem GProgram.top_le (x : GProgram) : Tr.topN x.tr ≤ 20 + 20 * Tr.bulkL x.tr := by
  have h1 := Tr.topN_cnt x.tr
  have h2 := GProgram.cnt_le x
  omega
end Go.Proofs.YtnakkelglbcecaaGreat

namespace Go.Proofs.YtnakkelglbcecaaGreat
set_option linter.unusedSimpArgs false
set_option linter.unusedVariables false
open Go.RowKit Go.WalkArith
attribute [local irreducible] lt

section
variable {α β : Type} {g : Nat → List α} {M : Nat}
end
theorem bulk_all : ∀ {es : List (List Tr)} {e : List Tr}, e ∈ es → Tr.bulkL e ≤ Tr.bulkAll es
  | a :: es, e, h => by
    rw [Tr.bulkAll]
    rcases List.mem_cons.1 h with rfl | h
    · omega
    · have := bulk_all h
      omega
theorem GPackage.inst_bulk (p : GPackage) : p.gInstances.length + Tr.bulkAll (GInstance.trs p.gInstances) ≤ Tr.bulkL p.tr := by
  rw [GPackage.tr_cs]
  simp only [GPackage.cs, Tr.bulkL, Tr.bulk, GInstance.trs_len]
  omega
theorem GProgram.pkg_bulk (w : GProgram) : Tr.bulkAll (GPackage.trs w.gPackages) ≤ Tr.bulkL w.tr := by
  rw [GProgram.tr_cs]
  simp only [GProgram.cs, Tr.bulkL, Tr.bulk]
  omega
end Go.Proofs.YtnakkelglbcecaaGreat

namespace Go.Proofs.YtnakkelglbcecaaGreat
set_option linter.unusedSimpArgs false
set_option linter.unusedVariables false
open Go.RowKit Go.Proofs

theorem AFun.plainAB {P : Program} {f : FuncId} {args : List PV} {ts : List Tr} {d : Value} (h : AFun P f args (.tup [.agg (ts.map PV.t), .t (.leaf d)])) {w : World} {vals : List Value} (hv : RVL0 w args vals) : Calls P f ⟨vals⟩ w fun e w' => ∃ cs, e = .returned (.tuple #[.agg ⟨cs⟩, d]) ∧ Ext w w' ∧ RepL w' ts cs :=
  (h av0 lay0 w vals (sto0 w) hv).mono fun e w' => by
    rintro ⟨res, st', m', v, rfl, ⟨rfl, rfl⟩, -, he, vs, rfl, hr⟩
    match vs, hr with
    | [u, x], hr =>
      obtain ⟨rfl, -⟩ := (RepM.rep (show RepM _ _ (.leaf d) x from hr.2.1)).leaf_eq
      obtain ⟨cs, rfl, hl⟩ := hr.1
      exact ⟨cs, rfl, he.ext, RVL.ofTr hl⟩
theorem instP (x0 : GProgram) (o : GInstanceRef) (w : World) (c0 cs : List Value) (h0 : RepL w x0.tr c0) (hr : RepL w o.tr cs) : Calls Tryz.prog 81 #[.agg ⟨c0⟩, .agg ⟨cs⟩] w fun e w' => ∃ ci, e = .returned (.tuple #[.agg ⟨ci⟩, .bool (GProgram.instAt x0 o).isSome]) ∧ Ext w w' ∧ RepL w' (oInst (GProgram.instAt x0 o)).cs ci := by
  rw [GProgram.tr_cs] at h0
  rw [GInstanceRef.tr_cs] at hr
  exact AFun.plainAB (ts := (oInst (GProgram.instAt x0 o)).cs) (inst_impl x0 o) (RVL0.cons (RV0.agg h0) (RVL0.cons (RV0.agg hr) RVL0.nil))
end Go.Proofs.YtnakkelglbcecaaGreat

namespace Go.Proofs.YtnakkelglbcecaaGreat
open Go.RowKit Go.Proofs

theorem iMatchP (p t : GType) (w : World) (c0 c1 : List Value) (h0 : RepL w p.tr c0) (h1 : RepL w t.tr c1) (hp : Tr.bulkL p.tr ≤ 68719476735) (ht : Tr.bulkL t.tr ≤ 68719476735) :
    Calls Tryz.prog 105 #[.agg ⟨c0⟩, .agg ⟨c1⟩] w fun e w' => ∃ s, e = .returned (.tuple #[s, .bool (matchB p t)]) ∧ Ext w w' ∧ ∀ l, matchT p t [] = some l → Rep w' (.row 4 (GBinding.trs l)) s := by
  rw [GType.tr_cs] at h0 h1
  have hv := RVL0.cons (RV0.agg h0) (RVL0.cons (RV0.agg h1) RVL0.nil)
  obtain ⟨fu, hf⟩ := (iMatch_ev p).get
  have h1 := iAll_of (fu := fu) (ps := [p]) (by simpa using hf) (ts := [t]) (s := []) rfl (by simpa using ht) BOk.nil (by rw [wt_one]; simp only [List.length_nil]; omega)
  rw [matchL_one] at h1
  unfold matchB
  cases hq : matchT p t [] with
  | none =>
    rw [hq] at h1
    obtain ⟨a, b, h1⟩ := h1
    have hm : ∃ q, iMatch_M (fu + 1) p t = some (q, false) := by
      unfold iMatch_M
      exact ⟨_, bdS h1 (swF rfl rfl)⟩
    obtain ⟨q, hm⟩ := hm
    refine (AFun.plainRB (iMatch_ok (fu + 1) p t _ hm) hv).mono fun e w' => ?_; rintro ⟨u, rfl, hx, hr⟩
    exact ⟨u, rfl, hx, fun l h => by cases h⟩
  | some l =>
    rw [hq] at h1
    have hm : iMatch_M (fu + 1) p t = some (l, true) := by
      unfold iMatch_M
      exact bdS h1 (swT rfl (gdT rfl rfl))
    refine (AFun.plainRB (iMatch_ok (fu + 1) p t _ hm) hv).mono fun e w' => ?_; rintro ⟨u, rfl, hx, hr⟩
    exact ⟨u, rfl, hx, fun l' h => by cases h; exact hr⟩
def zeroT : GType := .mk 0 ⟨#[]⟩ []
theorem OwnL.zeroTy (w : World) (S : Nat → Prop) : OwnL w zeroT.tr zeroTy S :=
  OwnL.cons_leaf (v := .int .i64 0) (WalkArith.wf_i64 (by omega)) (OwnL.cons_leaf (v := .string ⟨#[]⟩) (by show (0 : Nat) ≤ maxLen; unfold maxLen; omega) (OwnL.one (Own.row (es := []) (fun _ _ => undef) (fun _ _ _ => False) (by simp) (by unfold maxLen; omega) (by simp) (by simp) (by simp) (by simp))))
def assocB (x : Option GInstance) (h : GType) : GType × Bool := bif x.isSome && (oInst x).gHasAssoc then (match matchT (oInst x).gHead h [] with
  | some l => (applyT l (oInst x).gAssoc, true)
  | none => (zeroT, false)) else (zeroT, false)
def GProgram.assocOf (w : GProgram) (o : GInstanceRef) (h : GType) : GType × Bool := assocB (GProgram.instAt w o) h

set_option maxRecDepth 100000 in
set_option maxHeartbeats 4000000 in
theorem assocP_impl (x0 : GProgram) (o : GInstanceRef) (h : GType) (w : World) (c0 cs ch : List Value) (h0 : RepL w x0.tr c0) (hr : RepL w o.tr cs) (hh : RepL w h.tr ch)
    (hB0 : Tr.bulkL (oInst (GProgram.instAt x0 o)).gHead.tr ≤ 68719476735) (hB1 : Tr.bulkL (oInst (GProgram.instAt x0 o)).gAssoc.tr ≤ 68719476735) (hB2 : Tr.bulkL h.tr ≤ 68719476735) :
    Calls Tryz.prog 46 #[.agg ⟨c0⟩, .agg ⟨cs⟩, .agg ⟨ch⟩] w fun e w' => ∃ ct, e = .returned (.tuple #[.agg ⟨ct⟩, .bool (x0.assocOf o h).2]) ∧ Ext w w' ∧ OwnL w' (x0.assocOf o h).1.tr ct (Between w w') := by
  have HI0 : Hid ((Tryz.prog.info? 31).map (·.size) = some c0.length) := by rw [← h0.length, GProgram.tr_len]; exact isz31
  have HI1 : Hid ((Tryz.prog.info? 33).map (·.size) = some cs.length) := by rw [← hr.length, GInstanceRef.tr_len]; exact isz33
  have HI2 : Hid ((Tryz.prog.info? 47).map (·.size) = some ch.length) := by rw [← hh.length, GType.tr_len]; exact isz47
  have H0 := Lib.hid h0
  have HR := Lib.hid hr
  have HH := Lib.hid hh
  have HB0 := Lib.hid hB0
  have HB1 := Lib.hid hB1
  have HB2 := Lib.hid hB2
  clear h0 hr hh hB0 hB1 hB2
  unfold GProgram.assocOf
  have hx0 : Ext w ((((w.alloc (.cells ⟨c0⟩ 31)).alloc (.cells ⟨cs⟩ 33)).alloc (.cells ⟨ch⟩ 47)).alloc (.cells #[.int .i64 0, .string ⟨#[]⟩, .slice none 0 0] 47)) := .alloc (.alloc (.alloc (.alloc (.refl _) _) _) _) _
  have h3 := (Three.new w 31 33 47 ⟨c0⟩ ⟨cs⟩ ⟨ch⟩).ext (Ext.alloc (.refl _) (.cells #[.int .i64 0, .string ⟨#[]⟩, .slice none 0 0] 47))
  have hz3 : (((w.alloc (.cells ⟨c0⟩ 31)).alloc (.cells ⟨cs⟩ 33)).alloc (.cells ⟨ch⟩ 47)).heap.size = w.heap.size + 1 + 1 + 1 := by simp only [World.size_alloc]
  have h4 := OB.new (((w.alloc (.cells ⟨c0⟩ 31)).alloc (.cells ⟨cs⟩ 33)).alloc (.cells ⟨ch⟩ 47)) 47 #[.int .i64 0, .string ⟨#[]⟩, .slice none 0 0]
  rw [hz3] at h4
  have HX0 := Lib.hid hx0
  have HA0 := Lib.hid h3.o0
  have HA1 := Lib.hid h3.o1
  have HA2 := Lib.hid h3.o2
  have HA3 := Lib.hid h4
  clear hx0 h3 h4 hz3
  go_enter Tryz.func46, Tryz.ntmps46
  go_wp2_with (first
    | (refine wpList_load_rep rfl 31 (.tmp 3) rfl w.heap.size 0 rfl c0 _ Tryz.underlying31 HI0.out HA0.out.cells0 ?_)
    | (refine wpList_load_rep rfl 33 (.tmp 4) rfl (w.heap.size + 1) 0 rfl cs _ Tryz.underlying33 HI1.out HA1.out.cells0 ?_))
  refine (instP x0 o _ c0 cs (H0.out.ext HX0.out) (HR.out.ext HX0.out)).mono ?_; rintro e w1 ⟨ci, rfl, hw1, hci⟩
  have HW1 := Lib.hid (HX0.out.trans hw1)
  have HBH := Lib.hid (HA2.out.ext hw1)
  have hb3 := HA3.out.ext hw1
  have HBR : Hid (OB w1 (w.heap.size + 1 + 1 + 1) 47 ⟨zeroTy⟩) := hb3
  have hlt1 : w.heap.size + 1 + 1 + 1 < w1.heap.size := hb3.lt
  clear hw1 hb3 HX0 HA0 HA1 HA2 HA3
  have HCI := Lib.hid hci
  have HCL : Hid (ci.length = 12) := by rw [← hci.length]; rfl
  have HII : Hid ((Tryz.prog.info? 113).map (·.size) = some ci.length) := by rw [HCL.out]; exact isz113
  clear hci
  cases hs : (GProgram.instAt x0 o).isSome with
  | false =>
    have HRES : Hid (assocB (GProgram.instAt x0 o) h = (zeroT, false)) := by show _ = _; unfold assocB; rw [hs]; rfl
    go_wp2_with (first
      | (refine wpList_store_rep rfl 113 (.tmp 8) (.tmp 16) rfl w1.heap.size 0 rfl ci rfl 113 _ (OB.new w1 _ _) HII.out (by rw [HCL.out]; exact Nat.le_refl _) HCI.out.one ?_; intro w2 hob hgb hzb; rw [splice_whole (by rw [HCL.out]; rfl)] at hob; have HOBI := Lib.hid hob; have HX2 := Lib.hid (grown_ext (.alloc (.refl w1) _) hgb (Nat.le_refl _)); clear hob hgb hzb)
      | (refine wpList_store_rep rfl 47 (.tmp 6) (.tmp 25) rfl (w.heap.size + 1 + 1 + 1) 0 rfl zeroTy rfl 47 _ (HBR.out.ext HX2.out) isz47 (by exact Nat.le_refl _) (by intro v hv; simp only [zeroTy, List.mem_cons, List.not_mem_nil, or_false] at hv; rcases hv with rfl | rfl | rfl <;> rfl) ?_; intro wz hob hg hz; rw [splice_whole rfl] at hob; have HOBZ := Lib.hid hob; have HGZ := Lib.hid hg; clear hob hg hz))
    have hxz : Ext w wz := grown_ext (HW1.out.trans HX2.out) HGZ.out (by omega)
    refine bodyPost_ret (results_cell_row_tmp Tryz.results46 _ _ (w.heap.size + 1 + 1 + 1) 47 ⟨zeroTy⟩ _ _ _ rfl rfl HOBZ.out Tryz.underlying47 rfl isz47) rfl ?_
    rw [HRES.out]
    exact ⟨zeroTy, rfl, hxz, OwnL.zeroTy _ _⟩
  | true =>
    cases ha : (oInst (GProgram.instAt x0 o)).gHasAssoc with
    | false =>
      have HA := Lib.hid ha
      have HRES : Hid (assocB (GProgram.instAt x0 o) h = (zeroT, false)) := by show _ = _; unfold assocB; rw [hs, ha]; rfl
      go_wp2_with (first
        | (refine wpList_store_rep rfl 113 (.tmp 8) (.tmp 16) rfl w1.heap.size 0 rfl ci rfl 113 _ (OB.new w1 _ _) HII.out (by rw [HCL.out]; exact Nat.le_refl _) HCI.out.one ?_; intro w2 hob hgb hzb; rw [splice_whole (by rw [HCL.out]; rfl)] at hob; have HOBI := Lib.hid hob; have HX2 := Lib.hid (grown_ext (.alloc (.refl w1) _) hgb (Nat.le_refl _)); clear hob hgb hzb; obtain ⟨e0, e1, e2, e3, e4, e5, e6, e7, e8, e9, e10, e11, rfl⟩ := list12 HCL.out; have HHD : Hid (RepL w2 (oInst (GProgram.instAt x0 o)).gHead.tr [e2, e3, e4]) := (by rw [GType.tr_cs]; exact RepL.ext ⟨HCI.out.2.2.1, HCI.out.2.2.2.1, HCI.out.2.2.2.2.1, trivial⟩ HX2.out); have HAS : Hid (RepL w2 (oInst (GProgram.instAt x0 o)).gAssoc.tr [e8, e9, e10]) := (by rw [GType.tr_cs]; exact RepL.ext ⟨HCI.out.2.2.2.2.2.2.2.2.1, HCI.out.2.2.2.2.2.2.2.2.2.1, HCI.out.2.2.2.2.2.2.2.2.2.2.1, trivial⟩ HX2.out); have hce : w2.cell? ⟨w1.heap.size, 7, none⟩ = some (.bool (oInst (GProgram.instAt x0 o)).gHasAssoc) := (by rw [HOBI.out.cell]; have h9 := (HCI.out.2.2.2.2.2.2.2.1).leaf_eq.1; rw [h9]; rfl); rw [HA.out] at hce)
        | (refine wpList_store_rep rfl 47 (.tmp 6) (.tmp 25) rfl (w.heap.size + 1 + 1 + 1) 0 rfl zeroTy rfl 47 _ (HBR.out.ext HX2.out) isz47 (by exact Nat.le_refl _) (by intro v hv; simp only [zeroTy, List.mem_cons, List.not_mem_nil, or_false] at hv; rcases hv with rfl | rfl | rfl <;> rfl) ?_; intro wz hob hg hz; rw [splice_whole rfl] at hob; have HOBZ := Lib.hid hob; have HGZ := Lib.hid hg; clear hob hg hz))
      have hxz : Ext w wz := grown_ext (HW1.out.trans HX2.out) HGZ.out (by omega)
      refine bodyPost_ret (results_cell_row_tmp Tryz.results46 _ _ (w.heap.size + 1 + 1 + 1) 47 ⟨zeroTy⟩ _ _ _ rfl rfl HOBZ.out Tryz.underlying47 rfl isz47) rfl ?_
      rw [HRES.out]
      exact ⟨zeroTy, rfl, hxz, OwnL.zeroTy _ _⟩
    | true =>
      have HA := Lib.hid ha
      have HRES0 : Hid (assocB (GProgram.instAt x0 o) h = (match matchT (oInst (GProgram.instAt x0 o)).gHead h [] with | some l => (applyT l (oInst (GProgram.instAt x0 o)).gAssoc, true) | none => (zeroT, false))) := by show _ = _; unfold assocB; rw [hs, ha]; rfl
      go_wp2_with (first
        | (refine wpList_store_rep rfl 113 (.tmp 8) (.tmp 16) rfl w1.heap.size 0 rfl ci rfl 113 _ (OB.new w1 _ _) HII.out (by rw [HCL.out]; exact Nat.le_refl _) HCI.out.one ?_; intro w2 hob hgb hzb; rw [splice_whole (by rw [HCL.out]; rfl)] at hob; have HOBI := Lib.hid hob; have HX2 := Lib.hid (grown_ext (.alloc (.refl w1) _) hgb (Nat.le_refl _)); clear hob hgb hzb; obtain ⟨e0, e1, e2, e3, e4, e5, e6, e7, e8, e9, e10, e11, rfl⟩ := list12 HCL.out; have HHD : Hid (RepL w2 (oInst (GProgram.instAt x0 o)).gHead.tr [e2, e3, e4]) := (by rw [GType.tr_cs]; exact RepL.ext ⟨HCI.out.2.2.1, HCI.out.2.2.2.1, HCI.out.2.2.2.2.1, trivial⟩ HX2.out); have HAS : Hid (RepL w2 (oInst (GProgram.instAt x0 o)).gAssoc.tr [e8, e9, e10]) := (by rw [GType.tr_cs]; exact RepL.ext ⟨HCI.out.2.2.2.2.2.2.2.2.1, HCI.out.2.2.2.2.2.2.2.2.2.1, HCI.out.2.2.2.2.2.2.2.2.2.2.1, trivial⟩ HX2.out); have hce : w2.cell? ⟨w1.heap.size, 7, none⟩ = some (.bool (oInst (GProgram.instAt x0 o)).gHasAssoc) := (by rw [HOBI.out.cell]; have h9 := (HCI.out.2.2.2.2.2.2.2.1).leaf_eq.1; rw [h9]; rfl); rw [HA.out] at hce)
        | (refine wpList_load_rep rfl 47 (.tmp 27) rfl w1.heap.size 2 rfl [e2, e3, e4] _ Tryz.underlying47 isz47 (fun j v hv => by rw [HOBI.out.cell]; rcases j with _ | _ | _ | j <;> first | (simp at hv; done) | simpa using hv) ?_)
        | (refine wpList_load_rep rfl 47 (.tmp 5) rfl (w.heap.size + 1 + 1) 0 rfl ch _ Tryz.underlying47 HI2.out (HBH.out.ext HX2.out).cells0 ?_))
      refine (iMatchP _ h _ _ _ HHD.out (HH.out.ext (HW1.out.trans HX2.out)) HB0.out HB2.out).mono ?_; rintro e w3 ⟨s, rfl, hw3, hl3⟩
      have HX3 := Lib.hid (HX2.out.trans hw3)
      have HAS3 := Lib.hid (HAS.out.ext hw3)
      have HOBI3 := Lib.hid (HOBI.out.ext hw3)
      have HBR3 := Lib.hid (HBR.out.ext HX3.out)
      have HL3 := Lib.hid hl3
      have hlt3 : w1.heap.size ≤ w3.heap.size := HX3.out.size
      clear hw3 hl3
      unfold matchB
      cases hm : matchT (oInst (GProgram.instAt x0 o)).gHead h [] with
      | none =>
        rw [hm] at HRES0
        have HRES : Hid (assocB (GProgram.instAt x0 o) h = (zeroT, false)) := HRES0
        go_wp2_with (first
          | (refine wpList_store_rep rfl 47 (.tmp 6) (.tmp 35) rfl (w.heap.size + 1 + 1 + 1) 0 rfl zeroTy rfl 47 _ (HBR3.out) isz47 (by exact Nat.le_refl _) (by intro v hv; simp only [zeroTy, List.mem_cons, List.not_mem_nil, or_false] at hv; rcases hv with rfl | rfl | rfl <;> rfl) ?_; intro wz hob hg hz; rw [splice_whole rfl] at hob; have HOBZ := Lib.hid hob; have HGZ := Lib.hid hg; clear hob hg hz))
        have hxz : Ext w wz := grown_ext (HW1.out.trans HX3.out) HGZ.out (by omega)
        refine bodyPost_ret (results_cell_row_tmp Tryz.results46 _ _ (w.heap.size + 1 + 1 + 1) 47 ⟨zeroTy⟩ _ _ _ rfl rfl HOBZ.out Tryz.underlying47 rfl isz47) rfl ?_
        rw [HRES.out]
        exact ⟨zeroTy, rfl, hxz, OwnL.zeroTy _ _⟩
      | some l =>
        rw [hm] at HRES0
        have HRES : Hid (assocB (GProgram.instAt x0 o) h = (applyT l (oInst (GProgram.instAt x0 o)).gAssoc, true)) := HRES0
        have HRL := Lib.hid (HL3.out l hm)
        have HBO := Lib.hid (matchT_ok _ h [] l hm BOk.nil HB2.out).1
        obtain ⟨sa, sc, rfl, -, -⟩ := HRL.out.shape
        go_wp2_with (refine wpList_load_rep rfl 47 (.tmp 37) rfl w1.heap.size 8 rfl [e8, e9, e10] _ Tryz.underlying47 isz47 (fun j v hv => by rw [HOBI3.out.cell]; rcases j with _ | _ | _ | j <;> first | (simp at hv; done) | simpa using hv) ?_)
        refine (applyP l HBO.out (oInst (GProgram.instAt x0 o)).gAssoc _ _ _ HRL.out HAS3.out (by have := HB1.out; omega)).mono ?_; rintro e w4 ⟨cs1, rfl, hw4, ho4⟩
        have HCL1 : Hid (cs1.length = 3) := ho4.1.trans (GType.tr_len _)
        have HI4 : Hid ((Tryz.prog.info? 47).map (·.size) = some cs1.length) := by rw [HCL1.out]; exact isz47
        have HX4 := Lib.hid (HW1.out.trans (HX3.out.trans hw4))
        have HB4 := Lib.hid (HBR3.out.ext hw4)
        have HO4 := Lib.hid ho4
        clear hw4 ho4
        go_wp2_with (refine wpList_store_rep rfl 47 (.tmp 6) (.tmp 39) rfl (w.heap.size + 1 + 1 + 1) 0 rfl cs1 rfl 47 _ HB4.out HI4.out (by rw [HCL1.out]; exact Nat.le_refl _) HO4.out.rep.one ?_; intro wz hob hg hz; rw [splice_whole (by rw [HCL1.out]; rfl)] at hob; have HOBZ := Lib.hid hob; have HGZ := Lib.hid hg; clear hob hg hz)
        have hxz : Ext w wz := grown_ext HX4.out HGZ.out (by omega)
        refine bodyPost_ret (results_cell_row_tmp Tryz.results46 _ _ (w.heap.size + 1 + 1 + 1) 47 ⟨cs1⟩ _ _ _ rfl rfl HOBZ.out Tryz.underlying47 rfl HI4.out) rfl ?_
        have HOF := Lib.hid ((HO4.out.keep fun b' hb' hbl => HGZ.out.block b' hbl (by intro h; injection h with h; have := hb'.1; omega)).mono (S' := Between w wz) fun b' hb' => ⟨by have := hb'.1; omega, Nat.lt_of_lt_of_le hb'.2 HGZ.out.size⟩)
        generalize assocB (GProgram.instAt x0 o) h = q at HRES ⊢
        obtain ⟨q1, q2⟩ := q
        have hq := HRES.out
        injection hq with hq1 hq2
        subst hq1 hq2
        exact ⟨cs1, rfl, hxz, HOF.out⟩
end Go.Proofs.YtnakkelglbcecaaGreat

namespace Go.Proofs.YtnakkelglbcecaaGreat
open Go.RowKit Go.Proofs
set_option linter.unusedSimpArgs false
set_option linter.unusedVariables false

attribute [local irreducible] lt

end Go.Proofs.YtnakkelglbcecaaGreat

namespace Go.Proofs.YtnakkelglbcecaaGreat
open Go.RowKit Go.Proofs
set_option linter.unusedSimpArgs false
set_option linter.unusedVariables false

def GTrait.zero : GTrait := .mk ⟨#[]⟩ [] false false []
def GDataType.zero : GDataType := .mk ⟨#[]⟩ [] []
def GFunction.zero : GFunction := .mk ⟨#[]⟩ [] [] [] (.mk 0 ⟨#[]⟩ []) (.mk 0 ⟨#[]⟩ ⟨#[]⟩ 0 (.mk 0 ⟨#[]⟩ []) [] [])
end Go.Proofs.YtnakkelglbcecaaGreat

namespace Go.Proofs.YtnakkelglbcecaaGreat
open Go.RowKit Go.Proofs
set_option linter.unusedSimpArgs false
set_option linter.unusedVariables false

end Go.Proofs.YtnakkelglbcecaaGreat

namespace Go.Proofs.YtnakkelglbcecaaGreat
open Go.RowKit Go.Proofs
set_option linter.unusedSimpArgs false
set_option linter.unusedVariables false

end Go.Proofs.YtnakkelglbcecaaGreat

namespace Go.Proofs.YtnakkelglbcecaaGreat
open Go.RowKit Go.Proofs
set_option linter.unusedSimpArgs false
set_option linter.unusedVariables false

attribute [local irreducible] lt

end Go.Proofs.YtnakkelglbcecaaGreat

namespace Go.Proofs.YtnakkelglbcecaaGreat
open Go.RowKit

end Go.Proofs.YtnakkelglbcecaaGreat

namespace Go.Proofs.YtnakkelglbcecaaGreat
set_option linter.unusedSimpArgs false
set_option linter.unusedVariables false
open Go.RowKit Go.Proofs

end Go.Proofs.YtnakkelglbcecaaGreat

namespace Go.Proofs.YtnakkelglbcecaaGreat
set_option linter.unusedSimpArgs false
set_option linter.unusedVariables false
attribute [local irreducible] lt
open Go.RowKit Go.WalkArith

end Go.Proofs.YtnakkelglbcecaaGreat

namespace Go.Proofs.YtnakkelglbcecaaGreat
set_option linter.unusedSimpArgs false
set_option linter.unusedVariables false
attribute [local irreducible] lt
open Go.RowKit Go.WalkArith

end Go.Proofs.YtnakkelglbcecaaGreat

namespace Go.Proofs.YtnakkelglbcecaaGreat
set_option linter.unusedSimpArgs false
set_option linter.unusedVariables false
open Go.RowKit Go.Proofs
theorem OwnL.tail {w : World} {t : Tr} {ts : List Tr} {v : Value} {vs : List Value} {S : Nat → Prop} (h : OwnL w (t :: ts) (v :: vs) S) : OwnL w ts vs S := by
  obtain ⟨hl, T, h1, h2, h3⟩ := h
  exact ⟨by simpa using hl, fun j => T (j + 1), fun j d hd => by simpa using h1 (j + 1) d (by simpa using hd), fun j d hd => h2 (j + 1) d (by simpa using hd), fun j d hd j' d' hd' hne => h3 (j + 1) d (by simpa using hd) (j' + 1) d' (by simpa using hd') (by omega)⟩
end Go.Proofs.YtnakkelglbcecaaGreat

namespace Go.Proofs.YtnakkelglbcecaaGreat
set_option linter.unusedSimpArgs false
open Go.RowKit
theorem GInstance.head_bulk (x : GInstance) : Tr.bulkL x.gHead.tr ≤ Tr.bulkL x.tr := by
  obtain ⟨v0, v1, v2, v3, v4, v5, v6, v7⟩ := x
  simp only [GInstance.tr, Tr.bulkL_cat, Tr.bulkL, Tr.bulk, GInstance.gHead_mk]
  omega
theorem GProgram.inst_head_bulk (w : GProgram) (r : GInstanceRef) : Tr.bulkL (oInst (GProgram.instAt w r)).gHead.tr ≤ Tr.bulkL w.tr := by
  cases hq : GProgram.instAt w r with
  | none => exact Nat.zero_le _
  | some x =>
    unfold GProgram.instAt at hq
    split at hq
    · cases hp : w.gPackages[r.gPackage.toNat]? with
      | none => rw [hp] at hq; cases hq
      | some p =>
        rw [hp] at hq
        have hq : p.gInstances[r.gAt.toNat]? = some x := hq
        have h1 := bulk_all (es := GPackage.trs w.gPackages) (e := p.tr) (by rw [GPackage.trs_map]; exact List.mem_map_of_mem (List.mem_of_getElem? hp))
        have h2 := bulk_all (es := GInstance.trs p.gInstances) (e := x.tr) (by rw [GInstance.trs_map]; exact List.mem_map_of_mem (List.mem_of_getElem? hq))
        have h3 := GPackage.inst_bulk p
        have h4 := w.pkg_bulk
        have h5 := x.head_bulk
        show Tr.bulkL x.gHead.tr ≤ _
        omega
    · cases hq
end Go.Proofs.YtnakkelglbcecaaGreat

namespace Go.Proofs.YtnakkelglbcecaaGreat
set_option linter.unusedSimpArgs false
set_option linter.unusedVariables false
attribute [local irreducible] lt
open Go.RowKit Go.WalkArith

theorem Own.repM {ok : Nat → Nat → Prop} {w : World} {t : Tr} {v : Value} {S : Nat → Prop} (h : Own w t v S) (hk : ∀ b o, S b → b < w.heap.size → ok b o) : RepM ok w t v := by
  induction h with
  | leaf h => exact .leaf h
  | row c T h1 h2 h3 _ h5 h6 ih =>
    refine .row c h1 h2 (fun hne => ?_) (fun i e he j d hd => ih i e he j d hd fun b o hb hl => hk b o (h5 i e he j d hd b hb) hl)
    obtain ⟨b, off, E, arr, ha, hb, hs, hc⟩ := h3 hne
    exact ⟨b, off, ha, hb.lt, fun i e he j d hd => ⟨hk _ _ hs hb.lt, by rw [hb.cell]; exact (hc i e he j d hd).1⟩⟩
end Go.Proofs.YtnakkelglbcecaaGreat

namespace Go.Proofs.YtnakkelglbcecaaGreat
set_option linter.unusedSimpArgs false
set_option linter.unusedVariables false
open Go.RowKit

/-- The blocks from lo up to hi. -/
def BetN (lo hi x : Nat) : Prop := lo ≤ x ∧ x < hi
def okX (g : Nat) : Nat → Nat → Prop := fun b _ => b ≠ g
/-- The trees lie there, and nothing of them lies in block g. -/
abbrev RepLX (g : Nat) (w : World) (ts : List Tr) (cs : List Value) : Prop := RVL (okX g) ⟨[], []⟩ lay0 w (ts.map PV.t) cs
theorem RVL.monoT {ok ok' : Nat → Nat → Prop} {st st' : Sto} {m m' : Lay} {w w' : World} (hz : w.heap.size ≤ w'.heap.size) (hk : ∀ b o, b < w.heap.size → ok b o → ok' b o) (hc : ∀ b o, b < w.heap.size → ok b o → w'.cell? ⟨b, o, none⟩ = w.cell? ⟨b, o, none⟩) :
    ∀ (ts : List Tr) (cs : List Value), RVL ok st m w (ts.map PV.t) cs → RVL ok' st' m' w' (ts.map PV.t) cs
  | [], [], h => h
  | [], _ :: _, h => h.elim
  | _ :: _, [], h => h.elim
  | t :: ts, v :: vs, h => ⟨RepM.mono h.1 hz hk hc, RVL.monoT hz hk hc ts vs h.2⟩
theorem RepLX.rep {g : Nat} {w : World} {ts : List Tr} {cs : List Value} (h : RepLX g w ts cs) : RepL w ts cs := RVL.ofTr h
theorem RepLX.ext {g : Nat} {w w' : World} {ts : List Tr} {cs : List Value} (h : RepLX g w ts cs) (hx : Ext w w') : RepLX g w' ts cs := RVL.monoT hx.size (fun _ _ _ h => h) (fun _ _ hb _ => heap_other_cell (hx.block _ hb)) ts cs h
theorem RepLX.grown {g : Nat} {w w' : World} {ts : List Tr} {cs : List Value} (h : RepLX g w ts cs) (hx : w.grownBy w' (some g)) : RepLX g w' ts cs :=
  RVL.monoT hx.size (fun _ _ _ h => h) (fun b _ hb hne => heap_other_cell (hx.block b hb (fun e => hne (by cases e; rfl)))) ts cs h
theorem RepL.repX {g : Nat} {w : World} {ts : List Tr} {cs : List Value} (h : RepL w ts cs) (hg : w.heap.size ≤ g) : RepLX g w ts cs := RepL.toRVL (fun b o hb => by show b ≠ g; omega) h
theorem OwnL.repX {g : Nat} {w : World} {ts : List Tr} {cs : List Value} {S : Nat → Prop} (h : OwnL w ts cs S) (hn : ¬ S g) : RepLX g w ts cs := by
  obtain ⟨hl, T, h1, h2, -⟩ := h
  refine RVL.of_get (by simpa using hl) fun j p hp => ?_
  rw [List.getElem?_map] at hp
  cases ht : ts[j]? with
  | none => rw [ht] at hp; cases hp
  | some d =>
    rw [ht] at hp
    cases hp
    obtain ⟨v, hv, ho⟩ := h1 j d ht
    exact ⟨v, hv, ho.repM fun b o hb _ e => hn (by subst e; exact h2 j d ht b hb)⟩
/-- The function is handed data that avoids a block; so does what it returns. -/
theorem AFun.plainAX2 {P : Program} {f : FuncId} {args : List PV} {ts : List Tr} {d : Value} (h : AFun P f args (.tup [.agg (ts.map PV.t), .t (.leaf d)])) (hfr : freeL args = true) {w : World} {vals : List Value} {g : Nat} (hg : g < w.heap.size) (hv : RVL (okX g) ⟨[], []⟩ lay0 w args vals) :
    Calls P f ⟨vals⟩ w fun e w' => ∃ cs, e = .returned (.tuple #[.agg ⟨cs⟩, d]) ∧ Ext w w' ∧ RepLX g w' ts cs :=
  (h (fun b _ => b = g) lay0 w vals (StoOk.nil fun b o hb => by omega) (freeL.rv (fun b o _ hb => ⟨hb, fun _ _ h => by simp at h, fun _ _ _ _ h => by simp at h⟩) args vals hfr hv)).mono fun e w' => by
    rintro ⟨res, st', m', v, rfl, ⟨rfl, rfl⟩, -, he, vs, rfl, hr⟩
    match vs, hr with
    | [u, x], hr =>
      obtain ⟨rfl, -⟩ := (RepM.rep (show RepM _ _ (.leaf d) x from hr.2.1)).leaf_eq
      obtain ⟨cs, rfl, hl⟩ := hr.1
      exact ⟨cs, rfl, he.ext, RVL.monoT (Nat.le_refl _) (fun b o _ hk => hk.1) (fun _ _ _ _ => rfl) ts cs hl⟩
end Go.Proofs.YtnakkelglbcecaaGreat

namespace Go.Proofs.YtnakkelglbcecaaGreat
set_option linter.unusedSimpArgs false
set_option linter.unusedVariables false
attribute [local irreducible] lt
open Go.RowKit Go.WalkArith

theorem lookTy_some {l : List GBinding} {v : ByteArray} {b : GBinding} (h : bFind l v = some b) : lookTy l v = b.gType ∧ lookOk l v = true := by
  unfold lookTy lookOk
  rw [h]
  exact ⟨rfl, rfl⟩
theorem lookTy_none {l : List GBinding} {v : ByteArray} (h : bFind l v = none) : lookOk l v = false := by
  unfold lookOk
  rw [h]
  rfl
theorem sApply_ev (l : List GBinding) (hb : BOk l) : ∀ t : GType, Evt fun fu => Tr.bulkL t.tr ≤ 68719476735 → sApply_M fu l t = some (applyT l t) := by
  refine GType.ind fun k n xs ih => ?_
  have hw := wt_args k n xs
  refine Evt.succ (Evt.succ ((Evt.list ih).imp fun fu hf ht => ?_))
  have hA : sApplyAll_M (fu + 1) l xs = some (applyL l xs) := by
    simp only [sApplyAll_M, sApplyAll_G]
    refine soR (s := applyL l xs) ?_ rfl
    unfold sApplyAll_R1
    rw [loopN_fold0 (l := xs) (g := fun s x => s ++ [applyT l x]) (fun i s => s.length = i) (fun i s hi hp => ?_) rfl]
    · have key : ∀ (ys : List GType) (s : List GType), ys.foldl (fun s x => s ++ [applyT l x]) s = s ++ ys.map (applyT l) := by
        intro ys
        induction ys with
        | nil => intro s; simp
        | cons y ys ih => intro s; rw [List.foldl_cons, ih, List.map_cons, List.append_assoc]; rfl
      rw [key, applyL_map, List.nil_append]
    · refine ⟨?_, by rw [List.length_append, hp]; rfl⟩
      have hl : xs.length ≤ wt xs := by unfold wt; omega
      unfold sApplyAll_F1
      have hm := bulk_mem (atD_mem hi)
      have hwt : Tr.bulkAll (GType.trs xs) ≤ wt xs := by unfold wt; omega
      refine bdS (hf _ (atD_mem hi) (by omega)) (gdT ?_ rfl)
      rw [hp]
      simp only [List.length_cons, List.length_nil]
      omega
  simp only [sApply_M, sApply_G, GType.gKind_mk, GType.gName_mk, GType.gArgs_mk]
  rw [applyT]
  by_cases hk : k = 1
  · rw [if_pos hk]
    refine swT (by simp [hk]) (gdT hb ?_)
    cases hq : bFind l n with
    | none =>
      have hq' : l.find? (fun b => decide (GBinding.gVar b = n)) = none := hq
      rw [hq']
      exact swF (lookTy_none hq) (bdS hA rfl)
    | some b =>
      have hq' : l.find? (fun b => decide (GBinding.gVar b = n)) = some b := hq
      rw [hq']
      exact swT (lookTy_some hq).2 (congrArg some (lookTy_some hq).1)
  · rw [if_neg hk]
    exact swF (by simp [hk]) (bdS hA rfl)
theorem sAssoc_ok (w : GProgram) (o : GInstanceRef) (h : GType) (hB0 : Tr.bulkL (oInst (GProgram.instAt w o)).gHead.tr ≤ 68719476735) (hB1 : Tr.bulkL (oInst (GProgram.instAt w o)).gAssoc.tr ≤ 68719476735) (hB2 : Tr.bulkL h.tr ≤ 68719476735) :
    AFun Tryz.prog 44 [(GProgram.pv w), (GInstanceRef.pv o), (GType.pv h)] (.tup [(GType.pv (w.assocOf o h).1), .t (.leaf (.bool (w.assocOf o h).2))]) := by
  obtain ⟨fu, hf⟩ := (sApply_ev (matchLst (oInst (GProgram.instAt w o)).gHead h) (matchLst_ok _ h hB2) (oInst (GProgram.instAt w o)).gAssoc).get
  refine sAssocTypeOf_ok fu w o h _ ?_
  unfold sAssocTypeOf_M GProgram.assocOf assocB
  refine gdT hB0 (gdT hB2 ?_)
  cases hs : (GProgram.instAt w o).isSome with
  | false => exact swT rfl rfl
  | true =>
    refine swF rfl ?_
    cases ha : (oInst (GProgram.instAt w o)).gHasAssoc with
    | false => exact swT rfl rfl
    | true =>
      refine swF rfl ?_
      have hf := hf hB1
      unfold matchB
      unfold matchLst at hf ⊢
      cases hm : matchT (oInst (GProgram.instAt w o)).gHead h [] with
      | none => exact swT rfl rfl
      | some l =>
        rw [hm] at hf
        exact swF rfl (bdS hf rfl)
theorem assocP_spec (x0 : GProgram) (o : GInstanceRef) (h : GType) (w : World) (c0 cs ch : List Value) (h0 : RepL w x0.tr c0) (hr : RepL w o.tr cs) (hh : RepL w h.tr ch)
    (hB0 : Tr.bulkL (oInst (GProgram.instAt x0 o)).gHead.tr ≤ 68719476735) (hB1 : Tr.bulkL (oInst (GProgram.instAt x0 o)).gAssoc.tr ≤ 68719476735) (hB2 : Tr.bulkL h.tr ≤ 68719476735) :
    Calls Tryz.prog 44 #[.agg ⟨c0⟩, .agg ⟨cs⟩, .agg ⟨ch⟩] w fun e w' => ∃ ct, e = .returned (.tuple #[.agg ⟨ct⟩, .bool (x0.assocOf o h).2]) ∧ Ext w w' ∧ RepL w' (x0.assocOf o h).1.tr ct := by
  rw [GProgram.tr_cs] at h0
  rw [GInstanceRef.tr_cs] at hr
  rw [GType.tr_cs] at hh
  have hA := sAssoc_ok x0 o h hB0 hB1 hB2
  rw [show GType.pv (x0.assocOf o h).1 = .agg ((x0.assocOf o h).1.tr.map PV.t) from by rw [GType.tr_cs]; rfl] at hA
  exact hA.plainAB (RVL0.cons (RV0.agg h0) (RVL0.cons (RV0.agg hr) (RVL0.cons (RV0.agg hh) RVL0.nil)))
theorem assocPX_spec (g : Nat) (x0 : GProgram) (o : GInstanceRef) (h : GType) (w : World) (c0 cs ch : List Value) (hg : g < w.heap.size) (h0 : RepLX g w x0.tr c0) (hr : RepLX g w o.tr cs) (hh : RepLX g w h.tr ch)
    (hB0 : Tr.bulkL (oInst (GProgram.instAt x0 o)).gHead.tr ≤ 68719476735) (hB1 : Tr.bulkL (oInst (GProgram.instAt x0 o)).gAssoc.tr ≤ 68719476735) (hB2 : Tr.bulkL h.tr ≤ 68719476735) :
    Calls Tryz.prog 44 #[.agg ⟨c0⟩, .agg ⟨cs⟩, .agg ⟨ch⟩] w fun e w' => ∃ ct, e = .returned (.tuple #[.agg ⟨ct⟩, .bool (x0.assocOf o h).2]) ∧ Ext w w' ∧ RepLX g w' (x0.assocOf o h).1.tr ct := by
  unfold RepLX at h0 hr hh
  rw [GProgram.tr_cs] at h0
  rw [GInstanceRef.tr_cs] at hr
  rw [GType.tr_cs] at hh
  have hA := sAssoc_ok x0 o h hB0 hB1 hB2
  rw [show GType.pv (x0.assocOf o h).1 = .agg ((x0.assocOf o h).1.tr.map PV.t) from by rw [GType.tr_cs]; rfl] at hA
  exact hA.plainAX2 rfl hg ⟨⟨c0, rfl, h0⟩, ⟨cs, rfl, hr⟩, ⟨ch, rfl, hh⟩, trivial⟩
end Go.Proofs.YtnakkelglbcecaaGreat

namespace Go.Proofs.YtnakkelglbcecaaGreat
set_option linter.unusedSimpArgs false
open Go.RowKit Go.WalkArith

def BOkM (M : Nat) (s : List GBinding) : Prop := ∀ b ∈ s, Tr.bulkL b.gType.tr ≤ M
theorem matchL_okM {M : Nat} : ∀ (ps : List GType), (∀ x ∈ ps, ∀ t s s', matchT x t s = some s' → BOkM M s → Tr.bulkL t.tr ≤ M → BOkM M s') → ∀ ts s s', matchL ps ts s = some s' → BOkM M s → (∀ t ∈ ts, Tr.bulkL t.tr ≤ M) → BOkM M s'
  | [], _, ts, s, s', h, hb, _ => by
    rw [matchL] at h
    obtain rfl := Option.some.inj h
    exact hb
  | p :: ps, hp, ts, s, s', h, hb, ht => by
    cases ts with
    | nil => simp [matchL] at h
    | cons t ts =>
      rw [matchL] at h
      cases hq : matchT p t s with
      | none => rw [hq] at h; cases h
      | some s1 =>
        rw [hq] at h
        exact matchL_okM ps (fun x hx => hp x (List.mem_cons_of_mem _ hx)) ts s1 s' h (hp p (by simp) t s s1 hq hb (ht t (by simp))) (fun x hx => ht x (List.mem_cons_of_mem _ hx))
theorem matchT_okM {M : Nat} : ∀ (p t : GType) (s s' : List GBinding), matchT p t s = some s' → BOkM M s → Tr.bulkL t.tr ≤ M → BOkM M s' := by
  refine GType.ind fun k n ps ih t s s' h hb ht => ?_
  rw [matchT] at h
  split at h
  · split at h
    · split at h
      · obtain rfl := Option.some.inj h
        exact hb
      · cases h
    · obtain rfl := Option.some.inj h
      intro b hb'
      rcases List.mem_append.1 hb' with h1 | h1
      · exact hb b h1
      · obtain rfl := List.mem_singleton.1 h1
        exact ht
  · split at h
    · split at h
      · split at h
        · refine matchL_okM ps ih _ _ _ h hb (fun x hx => ?_)
          obtain ⟨k2, n2, ps2⟩ := t
          have h1 := bulk_mem (show x ∈ ps2 from hx)
          have h2 := bulk_args k2 n2 ps2
          omega
        · cases h
      · cases h
    · cases h
theorem applyL_bulkOf {l : List GBinding} {M : Nat} : ∀ xs : List GType, (∀ x ∈ xs, 1 + Tr.bulkL (applyT l x).tr ≤ (1 + Tr.bulkL x.tr) * (1 + M)) → xs.length + Tr.bulkAll (GType.trs (applyL l xs)) ≤ (xs.length + Tr.bulkAll (GType.trs xs)) * (1 + M)
  | [], _ => by simp [applyL, GType.trs, Tr.bulkAll]
  | x :: r, h => by
    have h1 := h x (by simp)
    have h2 := applyL_bulkOf r fun y hy => h y (List.mem_cons_of_mem _ hy)
    simp only [applyL, GType.trs, Tr.bulkAll, List.length_cons]
    have e : (r.length + 1 + (Tr.bulkL x.tr + Tr.bulkAll (GType.trs r))) * (1 + M) = (1 + Tr.bulkL x.tr) * (1 + M) + (r.length + Tr.bulkAll (GType.trs r)) * (1 + M) := by rw [← Nat.add_mul]; congr 1; omega
    rw [e]
    omega
theorem GType.bulk_mk (k : Int) (n : ByteArray) (xs : List GType) : Tr.bulkL (GType.mk k n xs).tr = n.size + (xs.length + Tr.bulkAll (GType.trs xs)) := by
  simp only [GType.tr, Tr.bulkL_append, Tr.bulkL, Tr.bulk, GType.trs_len]
  omega
theorem applyT_bulk (l : List GBinding) (M : Nat) (hb : BOkM M l) : ∀ t : GType, 1 + Tr.bulkL (applyT l t).tr ≤ (1 + Tr.bulkL t.tr) * (1 + M) := by
  refine GType.ind fun k n xs ih => ?_
  have h0 := applyL_bulkOf xs ih
  have hz : 1 + Tr.bulkL (GType.mk k n (applyL l xs)).tr ≤ (1 + Tr.bulkL (GType.mk k n xs).tr) * (1 + M) := by
    rw [GType.bulk_mk, GType.bulk_mk, applyL_len]
    have e : (1 + (n.size + (xs.length + Tr.bulkAll (GType.trs xs)))) * (1 + M) = (1 + n.size) * (1 + M) + (xs.length + Tr.bulkAll (GType.trs xs)) * (1 + M) := by rw [← Nat.add_mul]; congr 1; omega
    rw [e]
    have := Nat.le_mul_of_pos_right (1 + n.size) (show 0 < 1 + M by omega)
    omega
  rw [applyT]
  split
  · split
    · rename_i b hq
      have h1 := hb b (List.mem_of_find?_eq_some hq)
      have h2 := Nat.le_mul_of_pos_left (1 + M) (show 0 < 1 + Tr.bulkL (GType.mk k n xs).tr by omega)
      omega
    · exact hz
  · exact hz
theorem GProgram.assocOf_bulk (w : GProgram) (o : GInstanceRef) (h : GType) : Tr.bulkL (w.assocOf o h).1.tr ≤ (1 + Tr.bulkL (oInst (GProgram.instAt w o)).gAssoc.tr) * (1 + Tr.bulkL h.tr) := by
  unfold GProgram.assocOf assocB
  have hz : Tr.bulkL zeroT.tr ≤ (1 + Tr.bulkL (oInst (GProgram.instAt w o)).gAssoc.tr) * (1 + Tr.bulkL h.tr) := Nat.zero_le _
  cases (GProgram.instAt w o).isSome && (oInst (GProgram.instAt w o)).gHasAssoc with
  | false => exact hz
  | true =>
    rw [cond_true]
    split
    · rename_i l hm
      have h1 := applyT_bulk l (Tr.bulkL h.tr) (matchT_okM _ h [] l hm (fun b hb => by simp at hb) (Nat.le_refl _)) (oInst (GProgram.instAt w o)).gAssoc
      have h2 : Tr.bulkL (applyT l (oInst (GProgram.instAt w o)).gAssoc).tr ≤ 1 + Tr.bulkL (applyT l (oInst (GProgram.instAt w o)).gAssoc).tr := by omega
      exact Nat.le_trans h2 h1
    · exact hz
theorem GInstance.assoc_bulk (x : GInstance) : Tr.bulkL x.gAssoc.tr ≤ Tr.bulkL x.tr := by
  obtain ⟨v0, v1, v2, v3, v4, v5, v6, v7⟩ := x
  simp only [GInstance.tr, Tr.bulkL_cat, Tr.bulkL, Tr.bulk, GInstance.gAssoc_mk]
  omega
theorem GProgram.inst_assoc_bulk (w : GProgram) (r : GInstanceRef) : Tr.bulkL (oInst (GProgram.instAt w r)).gAssoc.tr ≤ Tr.bulkL w.tr := by
  cases hq : GProgram.instAt w r with
  | none => exact Nat.zero_le _
  | some x =>
    unfold GProgram.instAt at hq
    split at hq
    · cases hp : w.gPackages[r.gPackage.toNat]? with
      | none => rw [hp] at hq; cases hq
      | some p =>
        rw [hp] at hq
        have hq : p.gInstances[r.gAt.toNat]? = some x := hq
        have h1 := bulk_all (es := GPackage.trs w.gPackages) (e := p.tr) (by rw [GPackage.trs_map]; exact List.mem_map_of_mem (List.mem_of_getElem? hp))
        have h2 := bulk_all (es := GInstance.trs p.gInstances) (e := x.tr) (by rw [GInstance.trs_map]; exact List.mem_map_of_mem (List.mem_of_getElem? hq))
        have h3 := GPackage.inst_bulk p
        have h4 := w.pkg_bulk
        have h5 := x.assoc_bulk
        show Tr.bulkL x.gAssoc.tr ≤ _
        omega
    · cases hq
theorem GProgram.assoc_top (w : GProgram) (o : GInstanceRef) (h : GType) (hw : Tr.bulkL w.tr ≤ 1048576) (hh : Tr.bulkL h.tr ≤ 1048576) : 1 + Tr.topN (w.assocOf o h).1.tr ≤ 1152921504606846976 := by
  have h1 := Tr.topN_cnt (w.assocOf o h).1.tr
  have h2 := GType.cnt_le (w.assocOf o h).1
  have h3 := w.assocOf_bulk o h
  have h4 := w.inst_assoc_bulk o
  have h5 := Nat.mul_le_mul (show 1 + Tr.bulkL (oInst (GProgram.instAt w o)).gAssoc.tr ≤ 1048577 by omega) (show 1 + Tr.bulkL h.tr ≤ 1048577 by omega)
  have h6 := Nat.le_trans h3 h5
  omega
end Go.Proofs.YtnakkelglbcecaaGreat

namespace Go.Proofs.YtnakkelglbcecaaGreat
open Go.RowKit Go.Proofs

set_option maxRecDepth 100000 in
set_option maxHeartbeats 2000000 in
theorem heldTypeS_of (l : List GType) (H2 : ∀ x ∈ l, HeldSC 109 3 (GType.trs x.gArgs)) : HeldSC 109 3 (GType.trs l) := by
  intro s kz k w hz hrep0 hbd
  subst hz
  obtain ⟨a, cap, rfl, hl, hm⟩ := hrep0.shape
  rw [Tr.markE_length, GType.trs_len] at *
  unfold maxLen at hm
  have HO := Lib.hid hrep0
  have HH2 := Lib.hid H2
  clear H2
  clear hrep0
  go_enter Tryz.func109, Tryz.ntmps109
  go_wp2_with fail
  go_loopw [1, 5] (fun kv i wr => ∃ j m : Nat, j ≤ l.length ∧ i = .int .i64 j ∧ kv = .int .i64 (m : Int) ∧ Hid (m = k + Tr.cntE ((GType.trs l).take j)) ∧ Ext w wr) (fun _ i _ => l.length - (intOf i).toNat)
  case atStart => exact ⟨0, k, Nat.zero_le _, rfl, rfl, by show _ = _; simp [Tr.cntE], .refl _⟩
  case round =>
    obtain ⟨j, m, hj, rfl, rfl, HM1, hw⟩ := hrel
    by_cases hlt : j < l.length
    · have hlt2 : j < (GType.trs l).length := by rw [GType.trs_len]; exact hlt
      have hge : (GType.trs l)[j] = (l[j]).tr := by have h1 := GType.trs_get hlt; rw [List.getElem?_eq_getElem hlt2] at h1; exact Option.some.inj h1
      have hcl := Tr.cntE_le hlt2
      have hmg := Tr.markE_get (GType.trs l) k j hlt2
      have htk : Tr.cntE ((GType.trs l).take (j + 1)) = Tr.cntE ((GType.trs l).take j) + Tr.cntL (GType.trs l)[j] := Tr.cntE_take _ j hlt2
      rw [hge] at hcl hmg htk
      have hm1 := HM1.out
      rw [← hm1] at hmg
      have HM2 := Lib.hid (HH2.out _ (List.getElem_mem hlt))
      generalize l[j] = x at *
      obtain ⟨v0, v1, v2⟩ := x
      have HM2 : Hid (HeldSC 109 3 (GType.trs v2)) := HM2
      have htr : GType.tr (.mk v0 v1 v2) = [.leaf (.int .i64 v0), .leaf (.string v1), .row 3 (GType.trs v2)] := by simp [GType.tr]
      rw [htr] at hcl hmg htk
      have hcw : Tr.cntL [.leaf (.int .i64 v0), .leaf (.string v1), .row 3 (GType.trs v2)] = 1 + 1 + Tr.cntE (GType.trs v2) := by simp only [Tr.cntL, Tr.cnt] <;> omega
      obtain ⟨b, off, cs0, rfl, hb, hrep, hc⟩ := (HO.out.ext hw).at2 hmg
      obtain ⟨d0, d1, d2, rfl⟩ := list3 hrep.length.symm
      obtain ⟨rfl, -⟩ := (hrep.1).leaf_eq
      obtain ⟨rfl, -⟩ := (hrep.2.1).leaf_eq
      have HR2 := Lib.hid (hrep.2.2.1)
      obtain ⟨sa2, sc2, hd2, -, -⟩ := HR2.out.shape
      rw [Tr.markE_length] at hd2
      subst hd2
      have hmb : m + (1 + 1 + Tr.cntE (GType.trs v2)) ≤ 1152921504606846976 := by rw [← hcw]; omega
      rw [hcw] at htk
      have HTK := Lib.hid htk
      have HC := Lib.hid hc
      have HB := Lib.hid hb
      have hki := hlt
      simp only [markLeaf, Tr.cnt] at *
      have hcell0 : wr.cell? ⟨b, off + j * 3, none⟩ = some _ := HC.out 0 _ rfl
      have hcell1 : wr.cell? ⟨b, off + j * 3 + 1, none⟩ = some _ := HC.out 1 _ rfl
      have hcell2 : wr.cell? ⟨b, off + j * 3 + 2, none⟩ = some _ := HC.out 2 _ rfl
      clear hrep hc hmg htk hge hcl hcw hm1 htr hb
      go_wp2_with fail
      have HX0 := Lib.hid (Ext.refl wr)
      refine wp_region_held_drew (S := Ext wr) (by kernel_rfl) ?_ (fun hHeld => ?_)
      · exact .drew (.refl _)
      refine wpAnyH_take (i := 0) rfl (by kernel_rfl) (by kernel_rfl) (by kernel_rfl) (fun _ _ _ h => h) (.inl ⟨rfl, fun _ _ => rfl⟩) (by assumption) ?_
      simp only [Act.put, List.getElem_toArray, List.getElem_cons_zero, List.setIfInBounds_toArray, List.set_cons_zero, List.set_cons_succ]
      refine wpAnyH_take (i := 1) rfl (by kernel_rfl) (by kernel_rfl) (by kernel_rfl) (fun _ _ _ h => h) (.inl ⟨rfl, fun _ _ => rfl⟩) (by assumption) ?_
      simp only [Act.put, List.getElem_toArray, List.getElem_cons_zero, List.getElem_cons_succ, List.setIfInBounds_toArray, List.set_cons_zero, List.set_cons_succ]
      refine wpAnyH_index (i := 2) rfl (by kernel_rfl) (by kernel_rfl) (by kernel_rfl) rfl 45 (.tmp 21) (.tmp 22) rfl (b) (off) (l.length) (cap) (j) (3) rfl rfl (hki) Tryz.underlying45 (by kernel_rfl) (by assumption) (fun _ _ _ _ h => h) ?_
      simp only [Act.put, List.getElem_toArray, List.getElem_cons_zero, List.getElem_cons_succ, List.setIfInBounds_toArray, List.set_cons_zero, List.set_cons_succ]
      refine wpAnyH_take (i := 3) rfl (by kernel_rfl) (by kernel_rfl) (by kernel_rfl) (fun _ _ _ h => h) (.inl ⟨rfl, fun _ _ => rfl⟩) (by assumption) ?_
      simp only [Act.put, List.getElem_toArray, List.getElem_cons_zero, List.getElem_cons_succ, List.setIfInBounds_toArray, List.set_cons_zero, List.set_cons_succ]
      refine wpAnyH_cell (i := 4) rfl (by kernel_rfl) (by kernel_rfl) (by kernel_rfl) rfl 9 (.tmp 24) rfl (b) (off + j * 3 + 1) rfl (.string (mtext (m + 1))) _ Tryz.underlying9 rfl (fun W hW => (hW.cell (p := ⟨b, off + j * 3 + 1, none⟩) (Nat.lt_of_lt_of_le HB.out (HX0.out).size)).trans hcell1) (by assumption) (fun _ _ _ _ h => h) ?_
      simp only [Act.put, List.getElem_toArray, List.getElem_cons_zero, List.getElem_cons_succ, List.setIfInBounds_toArray, List.set_cons_zero, List.set_cons_succ]
      refine wpAnyH_take (i := 5) rfl (by kernel_rfl) (by kernel_rfl) (by kernel_rfl) (fun _ _ _ h => h) (.inl ⟨rfl, fun _ _ => rfl⟩) (by assumption) ?_
      simp only [Act.put, List.getElem_toArray, List.getElem_cons_zero, List.getElem_cons_succ, List.setIfInBounds_toArray, List.set_cons_zero, List.set_cons_succ]
      refine wpAnyH_call (i := 6) (by kernel_rfl) rfl rfl (run_call_func rfl rfl #[.int .i64 _] (by simp only [List.map_toArray, List.map_cons, List.map_nil, Act.eval]; rfl) Tryz.func94 (by kernel_rfl) (by kernel_rfl) _) (markText_any _ (m + 1) _ (by omega) (by omega)) ?_; rintro e wh1 ⟨rfl, hv1⟩
      have hs1 := Ext.trans hHeld hv1
      refine ⟨_, rfl, hs1, ?_⟩
      simp only [Act.put, List.getElem_toArray, List.getElem_cons_zero, List.getElem_cons_succ, List.setIfInBounds_toArray, List.set_cons_zero, List.set_cons_succ]
      refine wpAnyH_take (i := 7) rfl (by kernel_rfl) (by kernel_rfl) (by kernel_rfl) (fun _ _ _ h => h) (.inl ⟨rfl, fun _ _ => rfl⟩) (by assumption) ?_
      simp only [Act.put, List.getElem_toArray, List.getElem_cons_zero, List.getElem_cons_succ, List.setIfInBounds_toArray, List.set_cons_zero, List.set_cons_succ]
      refine wpAnyH_done (by kernel_rfl) ?_ _
      clear hHeld
      have HX1 := Lib.hid (Ext.trans HX0.out hs1)
      have hcell2 := (hs1.cell (p := ⟨b, off + j * 3 + 2, none⟩) (Nat.lt_of_lt_of_le HB.out HX0.out.size)).trans hcell2
      clear hs1 hv1
      simp only [beq_self_eq_true, Bool.not_true]
      go_wp2_with fail
      refine (HM2.out _ _ ((m + 1) + 1) _ (by omega) (HR2.out.ext HX1.out) (by omega)).mono ?_; rintro e wh2 ⟨rfl, hv2⟩
      have HX2 := Lib.hid (Ext.trans HX1.out hv2)
      clear hv2
      have hng : ¬ (((((m + 1) + 1) + Tr.cntE (GType.trs v2)) : Nat) : Int) < 0 := by omega
      go_wp2_with fail
      go_roundw
      case rel => exact ⟨j + 1, (((m + 1) + 1) + Tr.cntE (GType.trs v2)), by omega, by go_num, by first | rfl | go_num, by have h1 := HTK.out; have h2 := HM1.out; show _ = _; omega, hw.trans HX2.out⟩
      case measure => simp [intOf]; omega
    · have hkl : j = (GType.trs l).length := by rw [GType.trs_len]; omega
      go_wp2_with fail
      go_ret
      have hm1 := HM1.out
      rw [hkl, List.take_length] at hm1
      subst hm1
      exact ⟨rfl, hw⟩
theorem heldTypeS_in : ∀ x : GType, HeldSC 109 3 (GType.trs x.gArgs) :=
  GType.ind fun v0 v1 v2 ih => heldTypeS_of v2 ih
theorem heldTypeS_all (l : List GType) : HeldSC 109 3 (GType.trs l) := heldTypeS_of l fun x _ => heldTypeS_in x

set_option maxRecDepth 100000 in
set_option maxHeartbeats 2000000 in
theorem heldType_all (x : GType) : HeldC 49 x.tr := by
  obtain ⟨v0, v1, v2⟩ := x
  have htr : GType.tr (.mk v0 v1 v2) = [.leaf (.int .i64 v0), .leaf (.string v1), .row 3 (GType.trs v2)] := by simp [GType.tr]
  rw [htr]
  clear htr
  intro cs kz k w hz hr hbd
  subst hz
  simp only [Tr.topN, Tr.topL, Nat.add_zero] at *
  obtain ⟨d0, d1, d2, rfl⟩ := list3 hr.length.symm
  obtain ⟨rfl, -⟩ := (hr.1).leaf_eq
  obtain ⟨rfl, -⟩ := (hr.2.1).leaf_eq
  have HR := Lib.hid (hr.2.2.1)
  obtain ⟨sa, sc, hd, -, -⟩ := HR.out.shape
  rw [Tr.markE_length] at hd
  rw [GType.trs_len] at hd
  subst hd
  clear hr
  go_enter Tryz.func49, Tryz.ntmps49
  go_wp2_with fail
  refine (heldTypeS_all v2 _ _ k _ (by rfl) (HR.out.ext (.alloc (.refl _) _)) (by omega)).mono ?_; rintro e w1 ⟨rfl, hw1⟩
  have HW1 := Lib.hid (Ext.trans (.alloc (.refl _) _) hw1)
  clear hw1
  have hng : ¬ ((k + Tr.cntE (GType.trs v2) : Nat) : Int) < 0 := by omega
  go_wp2_with fail
  go_ret
  exact ⟨rfl, HW1.out⟩

end Go.Proofs.YtnakkelglbcecaaGreat
