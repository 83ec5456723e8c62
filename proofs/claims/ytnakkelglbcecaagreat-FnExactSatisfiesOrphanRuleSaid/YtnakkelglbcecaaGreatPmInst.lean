/- An instance by its place, on both sides. No conditions. -/
import Derived.Test.YtnakkelglbcecaaGreatPmV
import Derived.Test.YtnakkelglbcecaaGreatPmT
namespace Go.Proofs.YtnakkelglbcecaaGreat
open Go.RowKit Go.Proofs
set_option linter.unusedSimpArgs false
set_option linter.unusedVariables false


def GProgram.instAt (w : GProgram) (o : GInstanceRef) : Option GInstance := if 0 ≤ o.gPackage ∧ 0 ≤ o.gAt then (w.gPackages[o.gPackage.toNat]?).bind (fun p => p.gInstances[o.gAt.toNat]?) else none
def GInstance.zero : GInstance := (.mk ⟨#[]⟩ [] (.mk 0 ⟨#[]⟩ []) [] false false (.mk 0 ⟨#[]⟩ []) [])
def oInst (o : Option GInstance) : GInstance := match o with | some x => x | none => GInstance.zero
abbrev optInst (o : Option GInstance) : PV := .tup [GInstance.pv (oInst o), .t (.leaf (.bool o.isSome))]
theorem optInst_some {o : Option GInstance} {x : GInstance} (h : o = some x) : PV.tup [GInstance.pv x, .t (.leaf (.bool true))] = optInst o := by rw [h]; rfl
theorem optInst_none {o : Option GInstance} (h : o = none) : PV.tup [GInstance.pv GInstance.zero, .t (.leaf (.bool false))] = optInst o := by rw [h]; rfl
theorem instAt_hit {w : GProgram} {o : GInstanceRef} (h0 : 0 ≤ o.gPackage) (h1 : 0 ≤ o.gAt) (hp : o.gPackage.toNat < w.gPackages.length) (hi : o.gAt.toNat < (w.gPackages[o.gPackage.toNat]).gInstances.length) : w.instAt o = some ((w.gPackages[o.gPackage.toNat]).gInstances[o.gAt.toNat]) := by
  simp [GProgram.instAt, h0, h1, List.getElem?_eq_getElem hp, List.getElem?_eq_getElem hi]
theorem instAt_m1 {w : GProgram} {o : GInstanceRef} (h : o.gPackage < 0 ∨ (w.gPackages.length : Int) ≤ o.gPackage) : w.instAt o = none := by
  unfold GProgram.instAt
  split
  · rw [List.getElem?_eq_none (by omega)]; rfl
  · rfl
theorem instAt_m2 {w : GProgram} {o : GInstanceRef} (hp : o.gPackage.toNat < w.gPackages.length) (h : o.gAt < 0 ∨ ((w.gPackages[o.gPackage.toNat]).gInstances.length : Int) ≤ o.gAt) : w.instAt o = none := by
  unfold GProgram.instAt
  split
  · rw [List.getElem?_eq_getElem hp, Option.bind_some, List.getElem?_eq_none (by omega)]
  · rfl

set_option maxRecDepth 100000 in
set_option maxHeartbeats 4000000 in
theorem in_ok (x : Int) (lo : Int) (hi : Int) : AFun Tryz.prog 137 [.t (.leaf (.int .i64 (x))), .t (.leaf (.int .i64 (lo))), .t (.leaf (.int .i64 (hi)))] (.t (.leaf (.bool (decide ((x : Int) ≥ lo) && decide ((x : Int) ≤ hi))))) := by
  refine ACalls.intro Tryz.func137 rfl (by first | decide | (simp; done) | (simp; decide)) ?_
  intro C hC
  refine AWP.seq ?_
  refine AWP.region_lit ?_
  refine AL.cons rfl (AOp.move (.inr rfl) rfl rfl) ?_
  refine AL.nil ?_
  refine AWP.seq ?_
  refine AWP.region_lit ?_
  refine AL.cons rfl (AOp.move (.inl rfl) rfl rfl) ?_
  refine AL.cons rfl (AOp.move (.inl rfl) rfl rfl) ?_
  refine AL.cons rfl (AOp.geq rfl rfl rfl rfl) ?_
  refine AL.cons rfl (AOp.move (.inl rfl) rfl rfl) ?_
  refine AL.splitB 10 rfl (fun g1 => ?_) (fun g1 => ?_)
  · skip
    have g1b := g1
    try simp only [Bool.and_eq_true, Bool.or_eq_true, Bool.and_eq_false_iff, Bool.or_eq_false_iff, decide_eq_true_eq, decide_eq_false_iff_not, Bool.not_eq_true', Bool.not_eq_false', Bool.not_eq_eq_eq_not, Bool.not_true, Bool.not_false, ge_iff_le, gt_iff_lt, Int.not_lt, Int.not_le] at g1b
    refine AL.cons_gv rfl rfl rfl g1 (AOp.move (.inl rfl) rfl rfl) ?_
    refine AL.cons_gv rfl rfl rfl g1 (AOp.move (.inl rfl) rfl rfl) ?_
    refine AL.cons_gv rfl rfl rfl g1 (AOp.leq rfl rfl rfl rfl) ?_
    refine AL.cons rfl (AOp.pickT rfl rfl rfl g1 rfl) ?_
    refine AL.cons rfl (AOp.move (.inr rfl) rfl rfl) ?_
    refine AL.nil ?_
    refine AWP.ret ?_
    exact Ends.mk (ps := [_]) (.inr rfl) ⟨rfl, trivial⟩ rfl (StLe.mk' (st' := ⟨[], []⟩) trivial rfl) (keeps_nil hC) (q := (.t (.leaf (.bool (decide ((x : Int) ≤ hi)))) : PV)) (by (repeat' (first | exact PV.Le.refl _ | exact LeL.nil | exact PV.Le.nil _ | exact PV.Le.acc _ _ _ | apply LeL.cons | apply PV.Le.agg | apply PV.Le.tup))) rfl ⟨by first | (simp_all; done) | (simp_all; omega), rfl⟩
  · skip
    have g1b := g1
    try simp only [Bool.and_eq_true, Bool.or_eq_true, Bool.and_eq_false_iff, Bool.or_eq_false_iff, decide_eq_true_eq, decide_eq_false_iff_not, Bool.not_eq_true', Bool.not_eq_false', Bool.not_eq_eq_eq_not, Bool.not_true, Bool.not_false, ge_iff_le, gt_iff_lt, Int.not_lt, Int.not_le] at g1b
    refine AL.skip_v rfl rfl rfl g1 rfl ?_
    refine AL.skip_v rfl rfl rfl g1 rfl ?_
    refine AL.skip_v rfl rfl rfl g1 rfl ?_
    refine AL.cons rfl (AOp.pickF rfl rfl rfl g1 rfl) ?_
    refine AL.cons rfl (AOp.move (.inr rfl) rfl rfl) ?_
    refine AL.nil ?_
    refine AWP.ret ?_
    exact Ends.mk (ps := [_]) (.inr rfl) ⟨rfl, trivial⟩ rfl (StLe.mk' (st' := ⟨[], []⟩) trivial rfl) (keeps_nil hC) (q := (.t (.leaf (.bool (false))) : PV)) (by (repeat' (first | exact PV.Le.refl _ | exact LeL.nil | exact PV.Le.nil _ | exact PV.Le.acc _ _ _ | apply LeL.cons | apply PV.Le.agg | apply PV.Le.tup))) rfl ⟨by first | (simp_all; done) | (simp_all; omega), rfl⟩

set_option maxRecDepth 100000 in
set_option maxHeartbeats 4000000 in
theorem inst_impl (w : GProgram) (o : GInstanceRef) : AFun Tryz.prog 81 [(GProgram.pv w), (GInstanceRef.pv o)] (.tup [(GInstance.pv (oInst (GProgram.instAt w o))), .t (.leaf (.bool ((GProgram.instAt w o).isSome)))]) := by
  refine ACalls.intro Tryz.func81 rfl (by first | decide | (simp; done) | (simp; decide)) ?_
  intro C hC
  refine AWP.seq ?_
  refine AWP.region_lit ?_
  refine AL.cons rfl (AOp.box (cs := [.t (.row 6 (GPackage.trs (w.gPackages)))]) rfl rfl rfl rfl rfl) ?_
  refine AL.cons rfl (AOp.box (cs := [.t (.leaf (.int .i64 (o.gPackage))), .t (.leaf (.int .i64 (o.gAt)))]) rfl rfl rfl rfl rfl) ?_
  refine AL.cons rfl (AOp.alloc rfl rfl zr113) ?_
  refine AL.cons rfl (AOp.move (.inr rfl) rfl rfl) ?_
  refine AL.nil ?_
  refine AWP.seq ?_
  refine AWP.seq ?_
  rcases bool2 (decide ((o.gPackage : Int) < 0)) with g1 | g1
  · skip
    have g1b := g1
    try simp only [Bool.and_eq_true, Bool.or_eq_true, Bool.and_eq_false_iff, Bool.or_eq_false_iff, decide_eq_true_eq, decide_eq_false_iff_not, Bool.not_eq_true', Bool.not_eq_false', Bool.not_eq_eq_eq_not, Bool.not_true, Bool.not_false, ge_iff_le, gt_iff_lt, Int.not_lt, Int.not_le] at g1b
    refine AWP.drawnL ⟨_, _, fun _ _ => (⟨[some ⟨31, [.t (.row 6 (GPackage.trs (w.gPackages)))]⟩, some ⟨33, [.t (.leaf (.int .i64 (o.gPackage))), .t (.leaf (.int .i64 (o.gAt)))]⟩, some ⟨113, [.t (.leaf (.string (⟨#[]⟩))), .nil, .t (.leaf (.int .i64 (0))), .t (.leaf (.string (⟨#[]⟩))), .nil, .nil, .t (.leaf (.bool (false))), .t (.leaf (.bool (false))), .t (.leaf (.int .i64 (0))), .t (.leaf (.string (⟨#[]⟩))), .nil, .nil]⟩], []⟩ : Sto), fun q' => ([some (.ptr 1 0), some (.t (.leaf (.int .i64 (o.gPackage)))), some (.t (.leaf (.bool (decide ((o.gPackage : Int) < 0))))), some (.t (.leaf (.bool (decide ((o.gPackage : Int) < 0))))), none, none, none, none, none, none, some (.t (.leaf (.bool (true)))), some (.t (.leaf (.bool (true)))), none, none, none, some (.t (.leaf (.bool (true)))), some (.t (.leaf (.bool (true)))), none, none, none, none, none, none, none, none, none, none, none, some (.t (.leaf (.bool (true))))] : List (Option PV)).getD q' none, fun q' => ([.q 0 0, .q 0 0, .q 0 0, .q 0 0, .q 0 0, .q 0 0, .q 0 0, .q 0 0, .q 0 0, .q 0 0, .q 0 0, .q 0 0, .q 0 0, .q 0 0, .q 0 0, .q 0 0, .q 0 0, .q 0 0, .q 0 0, .q 0 0, .q 0 0, .q 0 0, .q 0 0, .q 0 0, .q 0 0, .q 0 0, .q 0 0, .q 0 0, .q 0 0] : List DK).getD q' (.q 0 0), [], none, fun q' => ([[(3, none)], [(6, some 0)], [(7, some 1)], [(8, some 2)], [], [], [], [], [], [], [(9, some 3)], [(16, some 10)], [], [], [], [(17, some 11)], [(21, some 15)], [], [], [], [], [], [], [], [], [], [], [], [(22, some 16)]] : List (List (Nat × Option Nat))).getD q' []⟩ rfl mixed (by kernel_rfl) rfl rfl ⟨?_, ?_, ?_, ?_, ?_, ?_, ?_, ?_, ?_, ?_, ?_, ?_, ?_, ?_, ?_, ?_, ?_, ?_, ?_, ?_, ?_, ?_, ?_, ?_, ?_, ?_, ?_, ?_, ?_, trivial⟩ rfl ?_
    · refine .inl ⟨rfl, fun s' j b (h1 : 0 ≤ j) (h2 : j ≤ 0) hs hl => ?_⟩
      obtain rfl : j = 0 := by omega
      exact ⟨_, rfl, AOp.fieldPtr (k := 1) (d := 0) (e := 0) rfl rfl (hl 3 none _ (.head _) rfl) fo33_0⟩
    · refine .inl ⟨rfl, fun s' j b (h1 : 0 ≤ j) (h2 : j ≤ 0) hs hl => ?_⟩
      obtain rfl : j = 0 := by omega
      exact ⟨_, rfl, AOp.loadPtr1 rfl rfl (hl 6 (some 0) _ (.head _) rfl) (by rw [hs]; rfl) sh3 rfl⟩
    · refine .inl ⟨rfl, fun s' j b (h1 : 0 ≤ j) (h2 : j ≤ 0) hs hl => ?_⟩
      obtain rfl : j = 0 := by omega
      exact ⟨_, rfl, AOp.lss rfl rfl (hl 7 (some 1) _ (.head _) rfl) rfl⟩
    · refine .inl ⟨rfl, fun s' j b (h1 : 0 ≤ j) (h2 : j ≤ 0) hs hl => ?_⟩
      obtain rfl : j = 0 := by omega
      exact ⟨_, rfl, AOp.move (.inl rfl) rfl (hl 8 (some 2) _ (.head _) rfl)⟩
    · exact .inr ⟨(congrArg (fun b => some (b == false)) g1), rfl, ⟨_, _, rfl⟩, fun d hd => by cases hd; rfl⟩
    · exact .inr ⟨(congrArg (fun b => some (b == false)) g1), rfl, ⟨_, _, rfl⟩, fun d hd => by cases hd; rfl⟩
    · exact .inr ⟨(congrArg (fun b => some (b == false)) g1), rfl, ⟨_, _, rfl⟩, fun d hd => by cases hd; rfl⟩
    · exact .inr ⟨(congrArg (fun b => some (b == false)) g1), rfl, ⟨_, _, rfl⟩, fun d hd => by cases hd; rfl⟩
    · exact .inr ⟨(congrArg (fun b => some (b == false)) g1), rfl, ⟨_, _, rfl⟩, fun d hd => by cases hd; rfl⟩
    · exact .inr ⟨(congrArg (fun b => some (b == false)) g1), rfl, ⟨_, _, rfl⟩, fun d hd => by cases hd; rfl⟩
    · refine .inl ⟨rfl, fun s' j b (h1 : 0 ≤ j) (h2 : j ≤ 0) hs hl => ?_⟩
      obtain rfl : j = 0 := by omega
      exact ⟨_, rfl, AOp.pickT rfl rfl (hl 9 (some 3) _ (.head _) rfl) g1 rfl⟩
    · refine .inl ⟨rfl, fun s' j b (h1 : 0 ≤ j) (h2 : j ≤ 0) hs hl => ?_⟩
      obtain rfl : j = 0 := by omega
      exact ⟨_, rfl, AOp.move (.inl rfl) rfl (hl 16 (some 10) _ (.head _) rfl)⟩
    · exact .inr ⟨(congrArg (fun b => some (b == false)) (rfl : true = _)), rfl, ⟨_, _, rfl⟩, fun d hd => by cases hd; rfl⟩
    · exact .inr ⟨(congrArg (fun b => some (b == false)) (rfl : true = _)), rfl, ⟨_, _, rfl⟩, fun d hd => by cases hd; rfl⟩
    · exact .inr ⟨(congrArg (fun b => some (b == false)) (rfl : true = _)), rfl, ⟨_, _, rfl⟩, fun d hd => by cases hd; rfl⟩
    · refine .inl ⟨rfl, fun s' j b (h1 : 0 ≤ j) (h2 : j ≤ 0) hs hl => ?_⟩
      obtain rfl : j = 0 := by omega
      exact ⟨_, rfl, AOp.pickT rfl rfl (hl 17 (some 11) _ (.head _) rfl) rfl rfl⟩
    · refine .inl ⟨rfl, fun s' j b (h1 : 0 ≤ j) (h2 : j ≤ 0) hs hl => ?_⟩
      obtain rfl : j = 0 := by omega
      exact ⟨_, rfl, AOp.move (.inl rfl) rfl (hl 21 (some 15) _ (.head _) rfl)⟩
    · exact .inr ⟨(congrArg (fun b => some (b == false)) (rfl : true = _)), rfl, ⟨_, _, rfl⟩, fun d hd => by cases hd; rfl⟩
    · exact .inr ⟨(congrArg (fun b => some (b == false)) (rfl : true = _)), rfl, ⟨_, _, rfl⟩, fun d hd => by cases hd; rfl⟩
    · exact .inr ⟨(congrArg (fun b => some (b == false)) (rfl : true = _)), rfl, ⟨_, _, rfl⟩, fun d hd => by cases hd; rfl⟩
    · exact .inr ⟨(congrArg (fun b => some (b == false)) (rfl : true = _)), rfl, ⟨_, _, rfl⟩, fun d hd => by cases hd; rfl⟩
    · exact .inr ⟨(congrArg (fun b => some (b == false)) (rfl : true = _)), rfl, ⟨_, _, rfl⟩, fun d hd => by cases hd; rfl⟩
    · exact .inr ⟨(congrArg (fun b => some (b == false)) (rfl : true = _)), rfl, ⟨_, _, rfl⟩, fun d hd => by cases hd; rfl⟩
    · exact .inr ⟨(congrArg (fun b => some (b == false)) (rfl : true = _)), rfl, ⟨_, _, rfl⟩, fun d hd => by cases hd; rfl⟩
    · exact .inr ⟨(congrArg (fun b => some (b == false)) (rfl : true = _)), rfl, ⟨_, _, rfl⟩, fun d hd => by cases hd; rfl⟩
    · exact .inr ⟨(congrArg (fun b => some (b == false)) (rfl : true = _)), rfl, ⟨_, _, rfl⟩, fun d hd => by cases hd; rfl⟩
    · exact .inr ⟨(congrArg (fun b => some (b == false)) (rfl : true = _)), rfl, ⟨_, _, rfl⟩, fun d hd => by cases hd; rfl⟩
    · exact .inr ⟨(congrArg (fun b => some (b == false)) (rfl : true = _)), rfl, ⟨_, _, rfl⟩, fun d hd => by cases hd; rfl⟩
    · refine .inl ⟨rfl, fun s' j b (h1 : 0 ≤ j) (h2 : j ≤ 0) hs hl => ?_⟩
      obtain rfl : j = 0 := by omega
      exact ⟨_, rfl, AOp.pickT rfl rfl (hl 22 (some 16) _ (.head _) rfl) rfl rfl⟩
    refine AWP.cond rfl (fun h2 => ?_) (fun h2 => ?_)
    · skip
      have h2b := h2
      try simp only [Bool.and_eq_true, Bool.or_eq_true, Bool.and_eq_false_iff, Bool.or_eq_false_iff, decide_eq_true_eq, decide_eq_false_iff_not, Bool.not_eq_true', Bool.not_eq_false', Bool.not_eq_eq_eq_not, Bool.not_true, Bool.not_false, ge_iff_le, gt_iff_lt, Int.not_lt, Int.not_le] at h2b
      refine AWP.seq ?_
      refine AWP.region_lit ?_
      refine AL.cons rfl (AOp.build rfl rfl zr113 pl113 rfl rfl) ?_
      refine AL.cons rfl (AOp.storePtr (cs := [.t (.leaf (.string (⟨#[]⟩))), .nil, .t (.leaf (.int .i64 (0))), .t (.leaf (.string (⟨#[]⟩))), .nil, .nil, .t (.leaf (.bool (false))), .t (.leaf (.bool (false))), .t (.leaf (.int .i64 (0))), .t (.leaf (.string (⟨#[]⟩))), .nil, .nil]) (ds := [.t (.leaf (.string (⟨#[]⟩))), .nil, .t (.leaf (.int .i64 (0))), .t (.leaf (.string (⟨#[]⟩))), .nil, .nil, .t (.leaf (.bool (false))), .t (.leaf (.bool (false))), .t (.leaf (.int .i64 (0))), .t (.leaf (.string (⟨#[]⟩))), .nil, .nil]) rfl rfl rfl rfl rfl rfl rfl sz113 (Nat.le_of_ble_eq_true rfl) rfl) ?_
      refine AL.cons rfl (AOp.move (.inr rfl) rfl rfl) ?_
      refine AL.nil ?_
      refine AWP.ret ?_
      exact Ends.mk (ps := [_, _]) (.inr rfl) ⟨⟨_, _, _, rfl, rfl, sh113, rfl, rfl⟩, rfl, trivial⟩ rfl (StLe.mk' (st' := ⟨[], []⟩) trivial rfl) (keeps_nil hC) (q := PV.tup [GInstance.pv GInstance.zero, .t (.leaf (.bool (false)))]) (by (repeat' (first | exact PV.Le.refl _ | exact LeL.nil | exact PV.Le.nil _ | exact PV.Le.acc _ _ _ | apply LeL.cons | apply PV.Le.agg | apply PV.Le.tup))) rfl ⟨by exact optInst_none (by first | exact instAt_m1 (by omega) | exact instAt_m2 (by omega) (by omega)), rfl⟩
    · skip
      exact absurd (h2.symm.trans rfl) (by decide)
  · skip
    have g1b := g1
    try simp only [Bool.and_eq_true, Bool.or_eq_true, Bool.and_eq_false_iff, Bool.or_eq_false_iff, decide_eq_true_eq, decide_eq_false_iff_not, Bool.not_eq_true', Bool.not_eq_false', Bool.not_eq_eq_eq_not, Bool.not_true, Bool.not_false, ge_iff_le, gt_iff_lt, Int.not_lt, Int.not_le] at g1b
    rcases bool2 (decide ((o.gPackage : Int) ≥ ((w.gPackages.length : Nat) : Int))) with g3 | g3
    · skip
      have g3b := g3
      try simp only [Bool.and_eq_true, Bool.or_eq_true, Bool.and_eq_false_iff, Bool.or_eq_false_iff, decide_eq_true_eq, decide_eq_false_iff_not, Bool.not_eq_true', Bool.not_eq_false', Bool.not_eq_eq_eq_not, Bool.not_true, Bool.not_false, ge_iff_le, gt_iff_lt, Int.not_lt, Int.not_le] at g3b
      refine AWP.drawnL ⟨_, _, fun _ _ => (⟨[some ⟨31, [.t (.row 6 (GPackage.trs (w.gPackages)))]⟩, some ⟨33, [.t (.leaf (.int .i64 (o.gPackage))), .t (.leaf (.int .i64 (o.gAt)))]⟩, some ⟨113, [.t (.leaf (.string (⟨#[]⟩))), .nil, .t (.leaf (.int .i64 (0))), .t (.leaf (.string (⟨#[]⟩))), .nil, .nil, .t (.leaf (.bool (false))), .t (.leaf (.bool (false))), .t (.leaf (.int .i64 (0))), .t (.leaf (.string (⟨#[]⟩))), .nil, .nil]⟩], []⟩ : Sto), fun q' => ([some (.ptr 1 0), some (.t (.leaf (.int .i64 (o.gPackage)))), some (.t (.leaf (.bool (decide ((o.gPackage : Int) < 0))))), some (.t (.leaf (.bool (decide ((o.gPackage : Int) < 0))))), some (.ptr 1 0), some (.t (.leaf (.int .i64 (o.gPackage)))), some (.ptr 0 0), some (.t (.row 6 (GPackage.trs (w.gPackages)))), some (.t (.leaf (.int .i64 (((w.gPackages.length : Nat) : Int))))), some (.t (.leaf (.bool (decide ((o.gPackage : Int) ≥ ((w.gPackages.length : Nat) : Int)))))), some (.t (.leaf (.bool (decide ((o.gPackage : Int) ≥ ((w.gPackages.length : Nat) : Int)))))), some (.t (.leaf (.bool (decide ((o.gPackage : Int) ≥ ((w.gPackages.length : Nat) : Int)))))), none, none, none, some (.t (.leaf (.bool (true)))), some (.t (.leaf (.bool (true)))), none, none, none, none, none, none, none, none, none, none, none, some (.t (.leaf (.bool (true))))] : List (Option PV)).getD q' none, fun q' => ([.q 0 0, .q 0 0, .q 0 0, .q 0 0, .q 0 0, .q 0 0, .q 0 0, .q 0 0, .q 0 0, .q 0 0, .q 0 0, .q 0 0, .q 0 0, .q 0 0, .q 0 0, .q 0 0, .q 0 0, .q 0 0, .q 0 0, .q 0 0, .q 0 0, .q 0 0, .q 0 0, .q 0 0, .q 0 0, .q 0 0, .q 0 0, .q 0 0, .q 0 0] : List DK).getD q' (.q 0 0), [], none, fun q' => ([[(3, none)], [(6, some 0)], [(7, some 1)], [(8, some 2)], [(3, none)], [(10, some 4)], [(2, none)], [(12, some 6)], [(13, some 7)], [(11, some 5), (14, some 8)], [(9, some 3), (15, some 9)], [(16, some 10)], [], [], [], [(17, some 11)], [(21, some 15)], [], [], [], [], [], [], [], [], [], [], [], [(22, some 16)]] : List (List (Nat × Option Nat))).getD q' []⟩ rfl mixed (by kernel_rfl) rfl rfl ⟨?_, ?_, ?_, ?_, ?_, ?_, ?_, ?_, ?_, ?_, ?_, ?_, ?_, ?_, ?_, ?_, ?_, ?_, ?_, ?_, ?_, ?_, ?_, ?_, ?_, ?_, ?_, ?_, ?_, trivial⟩ rfl ?_
      · refine .inl ⟨rfl, fun s' j b (h1 : 0 ≤ j) (h2 : j ≤ 0) hs hl => ?_⟩
        obtain rfl : j = 0 := by omega
        exact ⟨_, rfl, AOp.fieldPtr (k := 1) (d := 0) (e := 0) rfl rfl (hl 3 none _ (.head _) rfl) fo33_0⟩
      · refine .inl ⟨rfl, fun s' j b (h1 : 0 ≤ j) (h2 : j ≤ 0) hs hl => ?_⟩
        obtain rfl : j = 0 := by omega
        exact ⟨_, rfl, AOp.loadPtr1 rfl rfl (hl 6 (some 0) _ (.head _) rfl) (by rw [hs]; rfl) sh3 rfl⟩
      · refine .inl ⟨rfl, fun s' j b (h1 : 0 ≤ j) (h2 : j ≤ 0) hs hl => ?_⟩
        obtain rfl : j = 0 := by omega
        exact ⟨_, rfl, AOp.lss rfl rfl (hl 7 (some 1) _ (.head _) rfl) rfl⟩
      · refine .inl ⟨rfl, fun s' j b (h1 : 0 ≤ j) (h2 : j ≤ 0) hs hl => ?_⟩
        obtain rfl : j = 0 := by omega
        exact ⟨_, rfl, AOp.move (.inl rfl) rfl (hl 8 (some 2) _ (.head _) rfl)⟩
      · refine .inl ⟨(congrArg (fun b => some (b == false)) g1), fun s' j b (h1 : 0 ≤ j) (h2 : j ≤ 0) hs hl => ?_⟩
        obtain rfl : j = 0 := by omega
        exact ⟨_, rfl, AOp.fieldPtr (k := 1) (d := 0) (e := 0) rfl rfl (hl 3 none _ (.head _) rfl) fo33_0⟩
      · refine .inl ⟨(congrArg (fun b => some (b == false)) g1), fun s' j b (h1 : 0 ≤ j) (h2 : j ≤ 0) hs hl => ?_⟩
        obtain rfl : j = 0 := by omega
        exact ⟨_, rfl, AOp.loadPtr1 rfl rfl (hl 10 (some 4) _ (.head _) rfl) (by rw [hs]; rfl) sh3 rfl⟩
      · refine .inl ⟨(congrArg (fun b => some (b == false)) g1), fun s' j b (h1 : 0 ≤ j) (h2 : j ≤ 0) hs hl => ?_⟩
        obtain rfl : j = 0 := by omega
        exact ⟨_, rfl, AOp.fieldPtr (k := 0) (d := 0) (e := 0) rfl rfl (hl 2 none _ (.head _) rfl) fo31_0⟩
      · refine .inl ⟨(congrArg (fun b => some (b == false)) g1), fun s' j b (h1 : 0 ≤ j) (h2 : j ≤ 0) hs hl => ?_⟩
        obtain rfl : j = 0 := by omega
        exact ⟨_, rfl, AOp.loadPtr1 rfl rfl (hl 12 (some 6) _ (.head _) rfl) (by rw [hs]; rfl) sh29 rfl⟩
      · refine .inl ⟨(congrArg (fun b => some (b == false)) g1), fun s' j b (h1 : 0 ≤ j) (h2 : j ≤ 0) hs hl => ?_⟩
        obtain rfl : j = 0 := by omega
        exact ⟨_, rfl, AOp.lenN rfl rfl (hl 13 (some 7) _ (.head _) rfl) rfl el29 (GPackage.trs_len _)⟩
      · refine .inl ⟨(congrArg (fun b => some (b == false)) g1), fun s' j b (h1 : 0 ≤ j) (h2 : j ≤ 0) hs hl => ?_⟩
        obtain rfl : j = 0 := by omega
        exact ⟨_, rfl, AOp.geq rfl rfl (hl 11 (some 5) _ (.head _) rfl) (hl 14 (some 8) _ (.tail _ (.head _)) rfl)⟩
      · refine .inl ⟨rfl, fun s' j b (h1 : 0 ≤ j) (h2 : j ≤ 0) hs hl => ?_⟩
        obtain rfl : j = 0 := by omega
        exact ⟨_, rfl, AOp.pickF rfl rfl (hl 9 (some 3) _ (.head _) rfl) g1 (hl 15 (some 9) _ (.tail _ (.head _)) rfl)⟩
      · refine .inl ⟨rfl, fun s' j b (h1 : 0 ≤ j) (h2 : j ≤ 0) hs hl => ?_⟩
        obtain rfl : j = 0 := by omega
        exact ⟨_, rfl, AOp.move (.inl rfl) rfl (hl 16 (some 10) _ (.head _) rfl)⟩
      · exact .inr ⟨(congrArg (fun b => some (b == false)) g3), rfl, ⟨_, _, rfl⟩, fun d hd => by cases hd; rfl⟩
      · exact .inr ⟨(congrArg (fun b => some (b == false)) g3), rfl, ⟨_, _, rfl⟩, fun d hd => by cases hd; rfl⟩
      · exact .inr ⟨(congrArg (fun b => some (b == false)) g3), rfl, ⟨_, _, rfl⟩, fun d hd => by cases hd; rfl⟩
      · refine .inl ⟨rfl, fun s' j b (h1 : 0 ≤ j) (h2 : j ≤ 0) hs hl => ?_⟩
        obtain rfl : j = 0 := by omega
        exact ⟨_, rfl, AOp.pickT rfl rfl (hl 17 (some 11) _ (.head _) rfl) g3 rfl⟩
      · refine .inl ⟨rfl, fun s' j b (h1 : 0 ≤ j) (h2 : j ≤ 0) hs hl => ?_⟩
        obtain rfl : j = 0 := by omega
        exact ⟨_, rfl, AOp.move (.inl rfl) rfl (hl 21 (some 15) _ (.head _) rfl)⟩
      · exact .inr ⟨(congrArg (fun b => some (b == false)) (rfl : true = _)), rfl, ⟨_, _, rfl⟩, fun d hd => by cases hd; rfl⟩
      · exact .inr ⟨(congrArg (fun b => some (b == false)) (rfl : true = _)), rfl, ⟨_, _, rfl⟩, fun d hd => by cases hd; rfl⟩
      · exact .inr ⟨(congrArg (fun b => some (b == false)) (rfl : true = _)), rfl, ⟨_, _, rfl⟩, fun d hd => by cases hd; rfl⟩
      · exact .inr ⟨(congrArg (fun b => some (b == false)) (rfl : true = _)), rfl, ⟨_, _, rfl⟩, fun d hd => by cases hd; rfl⟩
      · exact .inr ⟨(congrArg (fun b => some (b == false)) (rfl : true = _)), rfl, ⟨_, _, rfl⟩, fun d hd => by cases hd; rfl⟩
      · exact .inr ⟨(congrArg (fun b => some (b == false)) (rfl : true = _)), rfl, ⟨_, _, rfl⟩, fun d hd => by cases hd; rfl⟩
      · exact .inr ⟨(congrArg (fun b => some (b == false)) (rfl : true = _)), rfl, ⟨_, _, rfl⟩, fun d hd => by cases hd; rfl⟩
      · exact .inr ⟨(congrArg (fun b => some (b == false)) (rfl : true = _)), rfl, ⟨_, _, rfl⟩, fun d hd => by cases hd; rfl⟩
      · exact .inr ⟨(congrArg (fun b => some (b == false)) (rfl : true = _)), rfl, ⟨_, _, rfl⟩, fun d hd => by cases hd; rfl⟩
      · exact .inr ⟨(congrArg (fun b => some (b == false)) (rfl : true = _)), rfl, ⟨_, _, rfl⟩, fun d hd => by cases hd; rfl⟩
      · exact .inr ⟨(congrArg (fun b => some (b == false)) (rfl : true = _)), rfl, ⟨_, _, rfl⟩, fun d hd => by cases hd; rfl⟩
      · refine .inl ⟨rfl, fun s' j b (h1 : 0 ≤ j) (h2 : j ≤ 0) hs hl => ?_⟩
        obtain rfl : j = 0 := by omega
        exact ⟨_, rfl, AOp.pickT rfl rfl (hl 22 (some 16) _ (.head _) rfl) rfl rfl⟩
      refine AWP.cond rfl (fun h4 => ?_) (fun h4 => ?_)
      · skip
        have h4b := h4
        try simp only [Bool.and_eq_true, Bool.or_eq_true, Bool.and_eq_false_iff, Bool.or_eq_false_iff, decide_eq_true_eq, decide_eq_false_iff_not, Bool.not_eq_true', Bool.not_eq_false', Bool.not_eq_eq_eq_not, Bool.not_true, Bool.not_false, ge_iff_le, gt_iff_lt, Int.not_lt, Int.not_le] at h4b
        refine AWP.seq ?_
        refine AWP.region_lit ?_
        refine AL.cons rfl (AOp.build rfl rfl zr113 pl113 rfl rfl) ?_
        refine AL.cons rfl (AOp.storePtr (cs := [.t (.leaf (.string (⟨#[]⟩))), .nil, .t (.leaf (.int .i64 (0))), .t (.leaf (.string (⟨#[]⟩))), .nil, .nil, .t (.leaf (.bool (false))), .t (.leaf (.bool (false))), .t (.leaf (.int .i64 (0))), .t (.leaf (.string (⟨#[]⟩))), .nil, .nil]) (ds := [.t (.leaf (.string (⟨#[]⟩))), .nil, .t (.leaf (.int .i64 (0))), .t (.leaf (.string (⟨#[]⟩))), .nil, .nil, .t (.leaf (.bool (false))), .t (.leaf (.bool (false))), .t (.leaf (.int .i64 (0))), .t (.leaf (.string (⟨#[]⟩))), .nil, .nil]) rfl rfl rfl rfl rfl rfl rfl sz113 (Nat.le_of_ble_eq_true rfl) rfl) ?_
        refine AL.cons rfl (AOp.move (.inr rfl) rfl rfl) ?_
        refine AL.nil ?_
        refine AWP.ret ?_
        exact Ends.mk (ps := [_, _]) (.inr rfl) ⟨⟨_, _, _, rfl, rfl, sh113, rfl, rfl⟩, rfl, trivial⟩ rfl (StLe.mk' (st' := ⟨[], []⟩) trivial rfl) (keeps_nil hC) (q := PV.tup [GInstance.pv GInstance.zero, .t (.leaf (.bool (false)))]) (by (repeat' (first | exact PV.Le.refl _ | exact LeL.nil | exact PV.Le.nil _ | exact PV.Le.acc _ _ _ | apply LeL.cons | apply PV.Le.agg | apply PV.Le.tup))) rfl ⟨by exact optInst_none (by first | exact instAt_m1 (by omega) | exact instAt_m2 (by omega) (by omega)), rfl⟩
      · skip
        exact absurd (h4.symm.trans rfl) (by decide)
    · skip
      have g3b := g3
      try simp only [Bool.and_eq_true, Bool.or_eq_true, Bool.and_eq_false_iff, Bool.or_eq_false_iff, decide_eq_true_eq, decide_eq_false_iff_not, Bool.not_eq_true', Bool.not_eq_false', Bool.not_eq_eq_eq_not, Bool.not_true, Bool.not_false, ge_iff_le, gt_iff_lt, Int.not_lt, Int.not_le] at g3b
      rcases bool2 (decide ((o.gAt : Int) < 0)) with g5 | g5
      · skip
        have g5b := g5
        try simp only [Bool.and_eq_true, Bool.or_eq_true, Bool.and_eq_false_iff, Bool.or_eq_false_iff, decide_eq_true_eq, decide_eq_false_iff_not, Bool.not_eq_true', Bool.not_eq_false', Bool.not_eq_eq_eq_not, Bool.not_true, Bool.not_false, ge_iff_le, gt_iff_lt, Int.not_lt, Int.not_le] at g5b
        refine AWP.drawnL ⟨_, _, fun _ _ => (⟨[some ⟨31, [.t (.row 6 (GPackage.trs (w.gPackages)))]⟩, some ⟨33, [.t (.leaf (.int .i64 (o.gPackage))), .t (.leaf (.int .i64 (o.gAt)))]⟩, some ⟨113, [.t (.leaf (.string (⟨#[]⟩))), .nil, .t (.leaf (.int .i64 (0))), .t (.leaf (.string (⟨#[]⟩))), .nil, .nil, .t (.leaf (.bool (false))), .t (.leaf (.bool (false))), .t (.leaf (.int .i64 (0))), .t (.leaf (.string (⟨#[]⟩))), .nil, .nil]⟩], []⟩ : Sto), fun q' => ([some (.ptr 1 0), some (.t (.leaf (.int .i64 (o.gPackage)))), some (.t (.leaf (.bool (decide ((o.gPackage : Int) < 0))))), some (.t (.leaf (.bool (decide ((o.gPackage : Int) < 0))))), some (.ptr 1 0), some (.t (.leaf (.int .i64 (o.gPackage)))), some (.ptr 0 0), some (.t (.row 6 (GPackage.trs (w.gPackages)))), some (.t (.leaf (.int .i64 (((w.gPackages.length : Nat) : Int))))), some (.t (.leaf (.bool (decide ((o.gPackage : Int) ≥ ((w.gPackages.length : Nat) : Int)))))), some (.t (.leaf (.bool (decide ((o.gPackage : Int) ≥ ((w.gPackages.length : Nat) : Int)))))), some (.t (.leaf (.bool (decide ((o.gPackage : Int) ≥ ((w.gPackages.length : Nat) : Int)))))), some (.ptr 1 1), some (.t (.leaf (.int .i64 (o.gAt)))), some (.t (.leaf (.bool (decide ((o.gAt : Int) < 0))))), some (.t (.leaf (.bool (decide ((o.gAt : Int) < 0))))), some (.t (.leaf (.bool (decide ((o.gAt : Int) < 0))))), none, none, none, none, none, none, none, none, none, none, none, some (.t (.leaf (.bool (true))))] : List (Option PV)).getD q' none, fun q' => ([.q 0 0, .q 0 0, .q 0 0, .q 0 0, .q 0 0, .q 0 0, .q 0 0, .q 0 0, .q 0 0, .q 0 0, .q 0 0, .q 0 0, .q 0 0, .q 0 0, .q 0 0, .q 0 0, .q 0 0, .q 0 0, .q 0 0, .q 0 0, .q 0 0, .q 0 0, .q 0 0, .q 0 0, .q 0 0, .q 0 0, .q 0 0, .q 0 0, .q 0 0] : List DK).getD q' (.q 0 0), [], none, fun q' => ([[(3, none)], [(6, some 0)], [(7, some 1)], [(8, some 2)], [(3, none)], [(10, some 4)], [(2, none)], [(12, some 6)], [(13, some 7)], [(11, some 5), (14, some 8)], [(9, some 3), (15, some 9)], [(16, some 10)], [(3, none)], [(18, some 12)], [(19, some 13)], [(17, some 11), (20, some 14)], [(21, some 15)], [], [], [], [], [], [], [], [], [], [], [], [(22, some 16)]] : List (List (Nat × Option Nat))).getD q' []⟩ rfl mixed (by kernel_rfl) rfl rfl ⟨?_, ?_, ?_, ?_, ?_, ?_, ?_, ?_, ?_, ?_, ?_, ?_, ?_, ?_, ?_, ?_, ?_, ?_, ?_, ?_, ?_, ?_, ?_, ?_, ?_, ?_, ?_, ?_, ?_, trivial⟩ rfl ?_
        · refine .inl ⟨rfl, fun s' j b (h1 : 0 ≤ j) (h2 : j ≤ 0) hs hl => ?_⟩
          obtain rfl : j = 0 := by omega
          exact ⟨_, rfl, AOp.fieldPtr (k := 1) (d := 0) (e := 0) rfl rfl (hl 3 none _ (.head _) rfl) fo33_0⟩
        · refine .inl ⟨rfl, fun s' j b (h1 : 0 ≤ j) (h2 : j ≤ 0) hs hl => ?_⟩
          obtain rfl : j = 0 := by omega
          exact ⟨_, rfl, AOp.loadPtr1 rfl rfl (hl 6 (some 0) _ (.head _) rfl) (by rw [hs]; rfl) sh3 rfl⟩
        · refine .inl ⟨rfl, fun s' j b (h1 : 0 ≤ j) (h2 : j ≤ 0) hs hl => ?_⟩
          obtain rfl : j = 0 := by omega
          exact ⟨_, rfl, AOp.lss rfl rfl (hl 7 (some 1) _ (.head _) rfl) rfl⟩
        · refine .inl ⟨rfl, fun s' j b (h1 : 0 ≤ j) (h2 : j ≤ 0) hs hl => ?_⟩
          obtain rfl : j = 0 := by omega
          exact ⟨_, rfl, AOp.move (.inl rfl) rfl (hl 8 (some 2) _ (.head _) rfl)⟩
        · refine .inl ⟨(congrArg (fun b => some (b == false)) g1), fun s' j b (h1 : 0 ≤ j) (h2 : j ≤ 0) hs hl => ?_⟩
          obtain rfl : j = 0 := by omega
          exact ⟨_, rfl, AOp.fieldPtr (k := 1) (d := 0) (e := 0) rfl rfl (hl 3 none _ (.head _) rfl) fo33_0⟩
        · refine .inl ⟨(congrArg (fun b => some (b == false)) g1), fun s' j b (h1 : 0 ≤ j) (h2 : j ≤ 0) hs hl => ?_⟩
          obtain rfl : j = 0 := by omega
          exact ⟨_, rfl, AOp.loadPtr1 rfl rfl (hl 10 (some 4) _ (.head _) rfl) (by rw [hs]; rfl) sh3 rfl⟩
        · refine .inl ⟨(congrArg (fun b => some (b == false)) g1), fun s' j b (h1 : 0 ≤ j) (h2 : j ≤ 0) hs hl => ?_⟩
          obtain rfl : j = 0 := by omega
          exact ⟨_, rfl, AOp.fieldPtr (k := 0) (d := 0) (e := 0) rfl rfl (hl 2 none _ (.head _) rfl) fo31_0⟩
        · refine .inl ⟨(congrArg (fun b => some (b == false)) g1), fun s' j b (h1 : 0 ≤ j) (h2 : j ≤ 0) hs hl => ?_⟩
          obtain rfl : j = 0 := by omega
          exact ⟨_, rfl, AOp.loadPtr1 rfl rfl (hl 12 (some 6) _ (.head _) rfl) (by rw [hs]; rfl) sh29 rfl⟩
        · refine .inl ⟨(congrArg (fun b => some (b == false)) g1), fun s' j b (h1 : 0 ≤ j) (h2 : j ≤ 0) hs hl => ?_⟩
          obtain rfl : j = 0 := by omega
          exact ⟨_, rfl, AOp.lenN rfl rfl (hl 13 (some 7) _ (.head _) rfl) rfl el29 (GPackage.trs_len _)⟩
        · refine .inl ⟨(congrArg (fun b => some (b == false)) g1), fun s' j b (h1 : 0 ≤ j) (h2 : j ≤ 0) hs hl => ?_⟩
          obtain rfl : j = 0 := by omega
          exact ⟨_, rfl, AOp.geq rfl rfl (hl 11 (some 5) _ (.head _) rfl) (hl 14 (some 8) _ (.tail _ (.head _)) rfl)⟩
        · refine .inl ⟨rfl, fun s' j b (h1 : 0 ≤ j) (h2 : j ≤ 0) hs hl => ?_⟩
          obtain rfl : j = 0 := by omega
          exact ⟨_, rfl, AOp.pickF rfl rfl (hl 9 (some 3) _ (.head _) rfl) g1 (hl 15 (some 9) _ (.tail _ (.head _)) rfl)⟩
        · refine .inl ⟨rfl, fun s' j b (h1 : 0 ≤ j) (h2 : j ≤ 0) hs hl => ?_⟩
          obtain rfl : j = 0 := by omega
          exact ⟨_, rfl, AOp.move (.inl rfl) rfl (hl 16 (some 10) _ (.head _) rfl)⟩
        · refine .inl ⟨(congrArg (fun b => some (b == false)) g3), fun s' j b (h1 : 0 ≤ j) (h2 : j ≤ 0) hs hl => ?_⟩
          obtain rfl : j = 0 := by omega
          exact ⟨_, rfl, AOp.fieldPtr (k := 1) (d := 0) (e := 1) rfl rfl (hl 3 none _ (.head _) rfl) fo33_1⟩
        · refine .inl ⟨(congrArg (fun b => some (b == false)) g3), fun s' j b (h1 : 0 ≤ j) (h2 : j ≤ 0) hs hl => ?_⟩
          obtain rfl : j = 0 := by omega
          exact ⟨_, rfl, AOp.loadPtr1 rfl rfl (hl 18 (some 12) _ (.head _) rfl) (by rw [hs]; rfl) sh3 rfl⟩
        · refine .inl ⟨(congrArg (fun b => some (b == false)) g3), fun s' j b (h1 : 0 ≤ j) (h2 : j ≤ 0) hs hl => ?_⟩
          obtain rfl : j = 0 := by omega
          exact ⟨_, rfl, AOp.lss rfl rfl (hl 19 (some 13) _ (.head _) rfl) rfl⟩
        · refine .inl ⟨rfl, fun s' j b (h1 : 0 ≤ j) (h2 : j ≤ 0) hs hl => ?_⟩
          obtain rfl : j = 0 := by omega
          exact ⟨_, rfl, AOp.pickF rfl rfl (hl 17 (some 11) _ (.head _) rfl) g3 (hl 20 (some 14) _ (.tail _ (.head _)) rfl)⟩
        · refine .inl ⟨rfl, fun s' j b (h1 : 0 ≤ j) (h2 : j ≤ 0) hs hl => ?_⟩
          obtain rfl : j = 0 := by omega
          exact ⟨_, rfl, AOp.move (.inl rfl) rfl (hl 21 (some 15) _ (.head _) rfl)⟩
        · exact .inr ⟨(congrArg (fun b => some (b == false)) g5), rfl, ⟨_, _, rfl⟩, fun d hd => by cases hd; rfl⟩
        · exact .inr ⟨(congrArg (fun b => some (b == false)) g5), rfl, ⟨_, _, rfl⟩, fun d hd => by cases hd; rfl⟩
        · exact .inr ⟨(congrArg (fun b => some (b == false)) g5), rfl, ⟨_, _, rfl⟩, fun d hd => by cases hd; rfl⟩
        · exact .inr ⟨(congrArg (fun b => some (b == false)) g5), rfl, ⟨_, _, rfl⟩, fun d hd => by cases hd; rfl⟩
        · exact .inr ⟨(congrArg (fun b => some (b == false)) g5), rfl, ⟨_, _, rfl⟩, fun d hd => by cases hd; rfl⟩
        · exact .inr ⟨(congrArg (fun b => some (b == false)) g5), rfl, ⟨_, _, rfl⟩, fun d hd => by cases hd; rfl⟩
        · exact .inr ⟨(congrArg (fun b => some (b == false)) g5), rfl, ⟨_, _, rfl⟩, fun d hd => by cases hd; rfl⟩
        · exact .inr ⟨(congrArg (fun b => some (b == false)) g5), rfl, ⟨_, _, rfl⟩, fun d hd => by cases hd; rfl⟩
        · exact .inr ⟨(congrArg (fun b => some (b == false)) g5), rfl, ⟨_, _, rfl⟩, fun d hd => by cases hd; rfl⟩
        · exact .inr ⟨(congrArg (fun b => some (b == false)) g5), rfl, ⟨_, _, rfl⟩, fun d hd => by cases hd; rfl⟩
        · exact .inr ⟨(congrArg (fun b => some (b == false)) g5), rfl, ⟨_, _, rfl⟩, fun d hd => by cases hd; rfl⟩
        · refine .inl ⟨rfl, fun s' j b (h1 : 0 ≤ j) (h2 : j ≤ 0) hs hl => ?_⟩
          obtain rfl : j = 0 := by omega
          exact ⟨_, rfl, AOp.pickT rfl rfl (hl 22 (some 16) _ (.head _) rfl) g5 rfl⟩
        refine AWP.cond rfl (fun h6 => ?_) (fun h6 => ?_)
        · skip
          have h6b := h6
          try simp only [Bool.and_eq_true, Bool.or_eq_true, Bool.and_eq_false_iff, Bool.or_eq_false_iff, decide_eq_true_eq, decide_eq_false_iff_not, Bool.not_eq_true', Bool.not_eq_false', Bool.not_eq_eq_eq_not, Bool.not_true, Bool.not_false, ge_iff_le, gt_iff_lt, Int.not_lt, Int.not_le] at h6b
          refine AWP.seq ?_
          refine AWP.region_lit ?_
          refine AL.cons rfl (AOp.build rfl rfl zr113 pl113 rfl rfl) ?_
          refine AL.cons rfl (AOp.storePtr (cs := [.t (.leaf (.string (⟨#[]⟩))), .nil, .t (.leaf (.int .i64 (0))), .t (.leaf (.string (⟨#[]⟩))), .nil, .nil, .t (.leaf (.bool (false))), .t (.leaf (.bool (false))), .t (.leaf (.int .i64 (0))), .t (.leaf (.string (⟨#[]⟩))), .nil, .nil]) (ds := [.t (.leaf (.string (⟨#[]⟩))), .nil, .t (.leaf (.int .i64 (0))), .t (.leaf (.string (⟨#[]⟩))), .nil, .nil, .t (.leaf (.bool (false))), .t (.leaf (.bool (false))), .t (.leaf (.int .i64 (0))), .t (.leaf (.string (⟨#[]⟩))), .nil, .nil]) rfl rfl rfl rfl rfl rfl rfl sz113 (Nat.le_of_ble_eq_true rfl) rfl) ?_
          refine AL.cons rfl (AOp.move (.inr rfl) rfl rfl) ?_
          refine AL.nil ?_
          refine AWP.ret ?_
          exact Ends.mk (ps := [_, _]) (.inr rfl) ⟨⟨_, _, _, rfl, rfl, sh113, rfl, rfl⟩, rfl, trivial⟩ rfl (StLe.mk' (st' := ⟨[], []⟩) trivial rfl) (keeps_nil hC) (q := PV.tup [GInstance.pv GInstance.zero, .t (.leaf (.bool (false)))]) (by (repeat' (first | exact PV.Le.refl _ | exact LeL.nil | exact PV.Le.nil _ | exact PV.Le.acc _ _ _ | apply LeL.cons | apply PV.Le.agg | apply PV.Le.tup))) rfl ⟨by exact optInst_none (by first | exact instAt_m1 (by omega) | exact instAt_m2 (by omega) (by omega)), rfl⟩
        · skip
          exact absurd (h6.symm.trans rfl) (by decide)
      · skip
        have g5b := g5
        try simp only [Bool.and_eq_true, Bool.or_eq_true, Bool.and_eq_false_iff, Bool.or_eq_false_iff, decide_eq_true_eq, decide_eq_false_iff_not, Bool.not_eq_true', Bool.not_eq_false', Bool.not_eq_eq_eq_not, Bool.not_true, Bool.not_false, ge_iff_le, gt_iff_lt, Int.not_lt, Int.not_le] at g5b
        have hn7 : (o.gPackage).toNat < w.gPackages.length := by omega
        refine AWP.drawnL ⟨_, _, fun _ _ => (⟨[some ⟨31, [.t (.row 6 (GPackage.trs (w.gPackages)))]⟩, some ⟨33, [.t (.leaf (.int .i64 (o.gPackage))), .t (.leaf (.int .i64 (o.gAt)))]⟩, some ⟨113, [.t (.leaf (.string (⟨#[]⟩))), .nil, .t (.leaf (.int .i64 (0))), .t (.leaf (.string (⟨#[]⟩))), .nil, .nil, .t (.leaf (.bool (false))), .t (.leaf (.bool (false))), .t (.leaf (.int .i64 (0))), .t (.leaf (.string (⟨#[]⟩))), .nil, .nil]⟩], []⟩ : Sto), fun q' => ([some (.ptr 1 0), some (.t (.leaf (.int .i64 (o.gPackage)))), some (.t (.leaf (.bool (decide ((o.gPackage : Int) < 0))))), some (.t (.leaf (.bool (decide ((o.gPackage : Int) < 0))))), some (.ptr 1 0), some (.t (.leaf (.int .i64 (o.gPackage)))), some (.ptr 0 0), some (.t (.row 6 (GPackage.trs (w.gPackages)))), some (.t (.leaf (.int .i64 (((w.gPackages.length : Nat) : Int))))), some (.t (.leaf (.bool (decide ((o.gPackage : Int) ≥ ((w.gPackages.length : Nat) : Int)))))), some (.t (.leaf (.bool (decide ((o.gPackage : Int) ≥ ((w.gPackages.length : Nat) : Int)))))), some (.t (.leaf (.bool (decide ((o.gPackage : Int) ≥ ((w.gPackages.length : Nat) : Int)))))), some (.ptr 1 1), some (.t (.leaf (.int .i64 (o.gAt)))), some (.t (.leaf (.bool (decide ((o.gAt : Int) < 0))))), some (.t (.leaf (.bool (decide ((o.gAt : Int) < 0))))), some (.t (.leaf (.bool (decide ((o.gAt : Int) < 0))))), some (.ptr 1 1), some (.t (.leaf (.int .i64 (o.gAt)))), some (.ptr 0 0), some (.t (.row 6 (GPackage.trs (w.gPackages)))), some (.ptr 1 0), some (.t (.leaf (.int .i64 (o.gPackage)))), some (.eptr (GPackage.cs (w.gPackages[(o.gPackage).toNat]))), some (.eptr ((GPackage.cs (w.gPackages[(o.gPackage).toNat])).drop 4)), some (.t (.row 12 (GInstance.trs ((w.gPackages[(o.gPackage).toNat]).gInstances)))), some (.t (.leaf (.int .i64 (((((w.gPackages[(o.gPackage).toNat]).gInstances).length : Nat) : Int))))), some (.t (.leaf (.bool (decide ((o.gAt : Int) ≥ ((((w.gPackages[(o.gPackage).toNat]).gInstances).length : Nat) : Int)))))), some (.t (.leaf (.bool (decide ((o.gAt : Int) ≥ ((((w.gPackages[(o.gPackage).toNat]).gInstances).length : Nat) : Int))))))] : List (Option PV)).getD q' none, fun q' => ([.q 0 0, .q 0 0, .q 0 0, .q 0 0, .q 0 0, .q 0 0, .q 0 0, .q 0 0, .q 0 0, .q 0 0, .q 0 0, .q 0 0, .q 0 0, .q 0 0, .q 0 0, .q 0 0, .q 0 0, .q 0 0, .q 0 0, .q 0 0, .q 0 0, .q 0 0, .q 0 0, .q 0 0, .q 0 0, .q 0 0, .q 0 0, .q 0 0, .q 0 0] : List DK).getD q' (.q 0 0), [], none, fun q' => ([[(3, none)], [(6, some 0)], [(7, some 1)], [(8, some 2)], [(3, none)], [(10, some 4)], [(2, none)], [(12, some 6)], [(13, some 7)], [(11, some 5), (14, some 8)], [(9, some 3), (15, some 9)], [(16, some 10)], [(3, none)], [(18, some 12)], [(19, some 13)], [(17, some 11), (20, some 14)], [(21, some 15)], [(3, none)], [(23, some 17)], [(2, none)], [(25, some 19)], [(3, none)], [(27, some 21)], [(26, some 20), (28, some 22)], [(29, some 23)], [(30, some 24)], [(31, some 25)], [(24, some 18), (32, some 26)], [(22, some 16), (33, some 27)]] : List (List (Nat × Option Nat))).getD q' []⟩ rfl mixed (by kernel_rfl) rfl rfl ⟨?_, ?_, ?_, ?_, ?_, ?_, ?_, ?_, ?_, ?_, ?_, ?_, ?_, ?_, ?_, ?_, ?_, ?_, ?_, ?_, ?_, ?_, ?_, ?_, ?_, ?_, ?_, ?_, ?_, trivial⟩ rfl ?_
        · refine .inl ⟨rfl, fun s' j b (h1 : 0 ≤ j) (h2 : j ≤ 0) hs hl => ?_⟩
          obtain rfl : j = 0 := by omega
          exact ⟨_, rfl, AOp.fieldPtr (k := 1) (d := 0) (e := 0) rfl rfl (hl 3 none _ (.head _) rfl) fo33_0⟩
        · refine .inl ⟨rfl, fun s' j b (h1 : 0 ≤ j) (h2 : j ≤ 0) hs hl => ?_⟩
          obtain rfl : j = 0 := by omega
          exact ⟨_, rfl, AOp.loadPtr1 rfl rfl (hl 6 (some 0) _ (.head _) rfl) (by rw [hs]; rfl) sh3 rfl⟩
        · refine .inl ⟨rfl, fun s' j b (h1 : 0 ≤ j) (h2 : j ≤ 0) hs hl => ?_⟩
          obtain rfl : j = 0 := by omega
          exact ⟨_, rfl, AOp.lss rfl rfl (hl 7 (some 1) _ (.head _) rfl) rfl⟩
        · refine .inl ⟨rfl, fun s' j b (h1 : 0 ≤ j) (h2 : j ≤ 0) hs hl => ?_⟩
          obtain rfl : j = 0 := by omega
          exact ⟨_, rfl, AOp.move (.inl rfl) rfl (hl 8 (some 2) _ (.head _) rfl)⟩
        · refine .inl ⟨(congrArg (fun b => some (b == false)) g1), fun s' j b (h1 : 0 ≤ j) (h2 : j ≤ 0) hs hl => ?_⟩
          obtain rfl : j = 0 := by omega
          exact ⟨_, rfl, AOp.fieldPtr (k := 1) (d := 0) (e := 0) rfl rfl (hl 3 none _ (.head _) rfl) fo33_0⟩
        · refine .inl ⟨(congrArg (fun b => some (b == false)) g1), fun s' j b (h1 : 0 ≤ j) (h2 : j ≤ 0) hs hl => ?_⟩
          obtain rfl : j = 0 := by omega
          exact ⟨_, rfl, AOp.loadPtr1 rfl rfl (hl 10 (some 4) _ (.head _) rfl) (by rw [hs]; rfl) sh3 rfl⟩
        · refine .inl ⟨(congrArg (fun b => some (b == false)) g1), fun s' j b (h1 : 0 ≤ j) (h2 : j ≤ 0) hs hl => ?_⟩
          obtain rfl : j = 0 := by omega
          exact ⟨_, rfl, AOp.fieldPtr (k := 0) (d := 0) (e := 0) rfl rfl (hl 2 none _ (.head _) rfl) fo31_0⟩
        · refine .inl ⟨(congrArg (fun b => some (b == false)) g1), fun s' j b (h1 : 0 ≤ j) (h2 : j ≤ 0) hs hl => ?_⟩
          obtain rfl : j = 0 := by omega
          exact ⟨_, rfl, AOp.loadPtr1 rfl rfl (hl 12 (some 6) _ (.head _) rfl) (by rw [hs]; rfl) sh29 rfl⟩
        · refine .inl ⟨(congrArg (fun b => some (b == false)) g1), fun s' j b (h1 : 0 ≤ j) (h2 : j ≤ 0) hs hl => ?_⟩
          obtain rfl : j = 0 := by omega
          exact ⟨_, rfl, AOp.lenN rfl rfl (hl 13 (some 7) _ (.head _) rfl) rfl el29 (GPackage.trs_len _)⟩
        · refine .inl ⟨(congrArg (fun b => some (b == false)) g1), fun s' j b (h1 : 0 ≤ j) (h2 : j ≤ 0) hs hl => ?_⟩
          obtain rfl : j = 0 := by omega
          exact ⟨_, rfl, AOp.geq rfl rfl (hl 11 (some 5) _ (.head _) rfl) (hl 14 (some 8) _ (.tail _ (.head _)) rfl)⟩
        · refine .inl ⟨rfl, fun s' j b (h1 : 0 ≤ j) (h2 : j ≤ 0) hs hl => ?_⟩
          obtain rfl : j = 0 := by omega
          exact ⟨_, rfl, AOp.pickF rfl rfl (hl 9 (some 3) _ (.head _) rfl) g1 (hl 15 (some 9) _ (.tail _ (.head _)) rfl)⟩
        · refine .inl ⟨rfl, fun s' j b (h1 : 0 ≤ j) (h2 : j ≤ 0) hs hl => ?_⟩
          obtain rfl : j = 0 := by omega
          exact ⟨_, rfl, AOp.move (.inl rfl) rfl (hl 16 (some 10) _ (.head _) rfl)⟩
        · refine .inl ⟨(congrArg (fun b => some (b == false)) g3), fun s' j b (h1 : 0 ≤ j) (h2 : j ≤ 0) hs hl => ?_⟩
          obtain rfl : j = 0 := by omega
          exact ⟨_, rfl, AOp.fieldPtr (k := 1) (d := 0) (e := 1) rfl rfl (hl 3 none _ (.head _) rfl) fo33_1⟩
        · refine .inl ⟨(congrArg (fun b => some (b == false)) g3), fun s' j b (h1 : 0 ≤ j) (h2 : j ≤ 0) hs hl => ?_⟩
          obtain rfl : j = 0 := by omega
          exact ⟨_, rfl, AOp.loadPtr1 rfl rfl (hl 18 (some 12) _ (.head _) rfl) (by rw [hs]; rfl) sh3 rfl⟩
        · refine .inl ⟨(congrArg (fun b => some (b == false)) g3), fun s' j b (h1 : 0 ≤ j) (h2 : j ≤ 0) hs hl => ?_⟩
          obtain rfl : j = 0 := by omega
          exact ⟨_, rfl, AOp.lss rfl rfl (hl 19 (some 13) _ (.head _) rfl) rfl⟩
        · refine .inl ⟨rfl, fun s' j b (h1 : 0 ≤ j) (h2 : j ≤ 0) hs hl => ?_⟩
          obtain rfl : j = 0 := by omega
          exact ⟨_, rfl, AOp.pickF rfl rfl (hl 17 (some 11) _ (.head _) rfl) g3 (hl 20 (some 14) _ (.tail _ (.head _)) rfl)⟩
        · refine .inl ⟨rfl, fun s' j b (h1 : 0 ≤ j) (h2 : j ≤ 0) hs hl => ?_⟩
          obtain rfl : j = 0 := by omega
          exact ⟨_, rfl, AOp.move (.inl rfl) rfl (hl 21 (some 15) _ (.head _) rfl)⟩
        · refine .inl ⟨(congrArg (fun b => some (b == false)) g5), fun s' j b (h1 : 0 ≤ j) (h2 : j ≤ 0) hs hl => ?_⟩
          obtain rfl : j = 0 := by omega
          exact ⟨_, rfl, AOp.fieldPtr (k := 1) (d := 0) (e := 1) rfl rfl (hl 3 none _ (.head _) rfl) fo33_1⟩
        · refine .inl ⟨(congrArg (fun b => some (b == false)) g5), fun s' j b (h1 : 0 ≤ j) (h2 : j ≤ 0) hs hl => ?_⟩
          obtain rfl : j = 0 := by omega
          exact ⟨_, rfl, AOp.loadPtr1 rfl rfl (hl 23 (some 17) _ (.head _) rfl) (by rw [hs]; rfl) sh3 rfl⟩
        · refine .inl ⟨(congrArg (fun b => some (b == false)) g5), fun s' j b (h1 : 0 ≤ j) (h2 : j ≤ 0) hs hl => ?_⟩
          obtain rfl : j = 0 := by omega
          exact ⟨_, rfl, AOp.fieldPtr (k := 0) (d := 0) (e := 0) rfl rfl (hl 2 none _ (.head _) rfl) fo31_0⟩
        · refine .inl ⟨(congrArg (fun b => some (b == false)) g5), fun s' j b (h1 : 0 ≤ j) (h2 : j ≤ 0) hs hl => ?_⟩
          obtain rfl : j = 0 := by omega
          exact ⟨_, rfl, AOp.loadPtr1 rfl rfl (hl 25 (some 19) _ (.head _) rfl) (by rw [hs]; rfl) sh29 rfl⟩
        · refine .inl ⟨(congrArg (fun b => some (b == false)) g5), fun s' j b (h1 : 0 ≤ j) (h2 : j ≤ 0) hs hl => ?_⟩
          obtain rfl : j = 0 := by omega
          exact ⟨_, rfl, AOp.fieldPtr (k := 1) (d := 0) (e := 0) rfl rfl (hl 3 none _ (.head _) rfl) fo33_0⟩
        · refine .inl ⟨(congrArg (fun b => some (b == false)) g5), fun s' j b (h1 : 0 ≤ j) (h2 : j ≤ 0) hs hl => ?_⟩
          obtain rfl : j = 0 := by omega
          exact ⟨_, rfl, AOp.loadPtr1 rfl rfl (hl 27 (some 21) _ (.head _) rfl) (by rw [hs]; rfl) sh3 rfl⟩
        · refine .inl ⟨(congrArg (fun b => some (b == false)) g5), fun s' j b (h1 : 0 ≤ j) (h2 : j ≤ 0) hs hl => ?_⟩
          obtain rfl : j = 0 := by omega
          exact ⟨_, rfl, AOp.indexI (y := o.gPackage) rfl rfl (hl 26 (some 20) _ (.head _) rfl) rfl (hl 28 (some 22) _ (.tail _ (.head _)) rfl) (by omega) (GPackage.trs_cs hn7) el29⟩
        · refine .inl ⟨(congrArg (fun b => some (b == false)) g5), fun s' j b (h1 : 0 ≤ j) (h2 : j ≤ 0) hs hl => ?_⟩
          obtain rfl : j = 0 := by omega
          exact ⟨_, rfl, AOp.fieldEptr (cs := (GPackage.cs (w.gPackages[(o.gPackage).toNat]))) (e := 4) rfl rfl (hl 29 (some 23) _ (.head _) rfl) fo126_4⟩
        · refine .inl ⟨(congrArg (fun b => some (b == false)) g5), fun s' j b (h1 : 0 ≤ j) (h2 : j ≤ 0) hs hl => ?_⟩
          obtain rfl : j = 0 := by omega
          exact ⟨_, rfl, AOp.loadEptr1 (d := .row 12 (GInstance.trs ((w.gPackages[(o.gPackage).toNat]).gInstances))) rfl rfl (hl 30 (some 24) _ (.head _) rfl) sh123 rfl⟩
        · refine .inl ⟨(congrArg (fun b => some (b == false)) g5), fun s' j b (h1 : 0 ≤ j) (h2 : j ≤ 0) hs hl => ?_⟩
          obtain rfl : j = 0 := by omega
          exact ⟨_, rfl, AOp.lenN rfl rfl (hl 31 (some 25) _ (.head _) rfl) rfl el123 (GInstance.trs_len _)⟩
        · refine .inl ⟨(congrArg (fun b => some (b == false)) g5), fun s' j b (h1 : 0 ≤ j) (h2 : j ≤ 0) hs hl => ?_⟩
          obtain rfl : j = 0 := by omega
          exact ⟨_, rfl, AOp.geq rfl rfl (hl 24 (some 18) _ (.head _) rfl) (hl 32 (some 26) _ (.tail _ (.head _)) rfl)⟩
        · refine .inl ⟨rfl, fun s' j b (h1 : 0 ≤ j) (h2 : j ≤ 0) hs hl => ?_⟩
          obtain rfl : j = 0 := by omega
          exact ⟨_, rfl, AOp.pickF rfl rfl (hl 22 (some 16) _ (.head _) rfl) g5 (hl 33 (some 27) _ (.tail _ (.head _)) rfl)⟩
        refine AWP.cond rfl (fun h8 => ?_) (fun h8 => ?_)
        · skip
          have h8b := h8
          try simp only [Bool.and_eq_true, Bool.or_eq_true, Bool.and_eq_false_iff, Bool.or_eq_false_iff, decide_eq_true_eq, decide_eq_false_iff_not, Bool.not_eq_true', Bool.not_eq_false', Bool.not_eq_eq_eq_not, Bool.not_true, Bool.not_false, ge_iff_le, gt_iff_lt, Int.not_lt, Int.not_le] at h8b
          refine AWP.seq ?_
          refine AWP.region_lit ?_
          refine AL.cons rfl (AOp.build rfl rfl zr113 pl113 rfl rfl) ?_
          refine AL.cons rfl (AOp.storePtr (cs := [.t (.leaf (.string (⟨#[]⟩))), .nil, .t (.leaf (.int .i64 (0))), .t (.leaf (.string (⟨#[]⟩))), .nil, .nil, .t (.leaf (.bool (false))), .t (.leaf (.bool (false))), .t (.leaf (.int .i64 (0))), .t (.leaf (.string (⟨#[]⟩))), .nil, .nil]) (ds := [.t (.leaf (.string (⟨#[]⟩))), .nil, .t (.leaf (.int .i64 (0))), .t (.leaf (.string (⟨#[]⟩))), .nil, .nil, .t (.leaf (.bool (false))), .t (.leaf (.bool (false))), .t (.leaf (.int .i64 (0))), .t (.leaf (.string (⟨#[]⟩))), .nil, .nil]) rfl rfl rfl rfl rfl rfl rfl sz113 (Nat.le_of_ble_eq_true rfl) rfl) ?_
          refine AL.cons rfl (AOp.move (.inr rfl) rfl rfl) ?_
          refine AL.nil ?_
          refine AWP.ret ?_
          exact Ends.mk (ps := [_, _]) (.inr rfl) ⟨⟨_, _, _, rfl, rfl, sh113, rfl, rfl⟩, rfl, trivial⟩ rfl (StLe.mk' (st' := ⟨[], []⟩) trivial rfl) (keeps_nil hC) (q := PV.tup [GInstance.pv GInstance.zero, .t (.leaf (.bool (false)))]) (by (repeat' (first | exact PV.Le.refl _ | exact LeL.nil | exact PV.Le.nil _ | exact PV.Le.acc _ _ _ | apply LeL.cons | apply PV.Le.agg | apply PV.Le.tup))) rfl ⟨by exact optInst_none (by first | exact instAt_m1 (by omega) | exact instAt_m2 (by omega) (by omega)), rfl⟩
        · skip
          have h8b := h8
          try simp only [Bool.and_eq_true, Bool.or_eq_true, Bool.and_eq_false_iff, Bool.or_eq_false_iff, decide_eq_true_eq, decide_eq_false_iff_not, Bool.not_eq_true', Bool.not_eq_false', Bool.not_eq_eq_eq_not, Bool.not_true, Bool.not_false, ge_iff_le, gt_iff_lt, Int.not_lt, Int.not_le] at h8b
          refine AWP.skip ?_
          refine AWP.seq ?_
          have hn9 : (o.gAt).toNat < ((w.gPackages[(o.gPackage).toNat]).gInstances).length := by omega
          refine AWP.drawnL ⟨_, _, fun j' _ => ([(⟨[some ⟨31, [.t (.row 6 (GPackage.trs (w.gPackages)))]⟩, some ⟨33, [.t (.leaf (.int .i64 (o.gPackage))), .t (.leaf (.int .i64 (o.gAt)))]⟩, some ⟨113, [.t (.leaf (.string (⟨#[]⟩))), .nil, .t (.leaf (.int .i64 (0))), .t (.leaf (.string (⟨#[]⟩))), .nil, .nil, .t (.leaf (.bool (false))), .t (.leaf (.bool (false))), .t (.leaf (.int .i64 (0))), .t (.leaf (.string (⟨#[]⟩))), .nil, .nil]⟩], []⟩ : Sto), (⟨[some ⟨31, [.t (.row 6 (GPackage.trs (w.gPackages)))]⟩, some ⟨33, [.t (.leaf (.int .i64 (o.gPackage))), .t (.leaf (.int .i64 (o.gAt)))]⟩, some ⟨113, [.t (.leaf (.string ((((w.gPackages[(o.gPackage).toNat]).gInstances)[(o.gAt).toNat]).gTrait))), .t (.row 1 (strTrs ((((w.gPackages[(o.gPackage).toNat]).gInstances)[(o.gAt).toNat]).gVars))), .t (.leaf (.int .i64 ((((w.gPackages[(o.gPackage).toNat]).gInstances)[(o.gAt).toNat]).gHead.gKind))), .t (.leaf (.string ((((w.gPackages[(o.gPackage).toNat]).gInstances)[(o.gAt).toNat]).gHead.gName))), .t (.row 3 (GType.trs ((((w.gPackages[(o.gPackage).toNat]).gInstances)[(o.gAt).toNat]).gHead.gArgs))), .t (.row 4 (GBound.trs ((((w.gPackages[(o.gPackage).toNat]).gInstances)[(o.gAt).toNat]).gWhere))), .t (.leaf (.bool ((((w.gPackages[(o.gPackage).toNat]).gInstances)[(o.gAt).toNat]).gDefault))), .t (.leaf (.bool ((((w.gPackages[(o.gPackage).toNat]).gInstances)[(o.gAt).toNat]).gHasAssoc))), .t (.leaf (.int .i64 ((((w.gPackages[(o.gPackage).toNat]).gInstances)[(o.gAt).toNat]).gAssoc.gKind))), .t (.leaf (.string ((((w.gPackages[(o.gPackage).toNat]).gInstances)[(o.gAt).toNat]).gAssoc.gName))), .t (.row 3 (GType.trs ((((w.gPackages[(o.gPackage).toNat]).gInstances)[(o.gAt).toNat]).gAssoc.gArgs))), .t (.row 11 (GMethod.trs ((((w.gPackages[(o.gPackage).toNat]).gInstances)[(o.gAt).toNat]).gMethods)))]⟩], []⟩ : Sto)] : List Sto).getD j' (⟨[some ⟨31, [.t (.row 6 (GPackage.trs (w.gPackages)))]⟩, some ⟨33, [.t (.leaf (.int .i64 (o.gPackage))), .t (.leaf (.int .i64 (o.gAt)))]⟩, some ⟨113, [.t (.leaf (.string ((((w.gPackages[(o.gPackage).toNat]).gInstances)[(o.gAt).toNat]).gTrait))), .t (.row 1 (strTrs ((((w.gPackages[(o.gPackage).toNat]).gInstances)[(o.gAt).toNat]).gVars))), .t (.leaf (.int .i64 ((((w.gPackages[(o.gPackage).toNat]).gInstances)[(o.gAt).toNat]).gHead.gKind))), .t (.leaf (.string ((((w.gPackages[(o.gPackage).toNat]).gInstances)[(o.gAt).toNat]).gHead.gName))), .t (.row 3 (GType.trs ((((w.gPackages[(o.gPackage).toNat]).gInstances)[(o.gAt).toNat]).gHead.gArgs))), .t (.row 4 (GBound.trs ((((w.gPackages[(o.gPackage).toNat]).gInstances)[(o.gAt).toNat]).gWhere))), .t (.leaf (.bool ((((w.gPackages[(o.gPackage).toNat]).gInstances)[(o.gAt).toNat]).gDefault))), .t (.leaf (.bool ((((w.gPackages[(o.gPackage).toNat]).gInstances)[(o.gAt).toNat]).gHasAssoc))), .t (.leaf (.int .i64 ((((w.gPackages[(o.gPackage).toNat]).gInstances)[(o.gAt).toNat]).gAssoc.gKind))), .t (.leaf (.string ((((w.gPackages[(o.gPackage).toNat]).gInstances)[(o.gAt).toNat]).gAssoc.gName))), .t (.row 3 (GType.trs ((((w.gPackages[(o.gPackage).toNat]).gInstances)[(o.gAt).toNat]).gAssoc.gArgs))), .t (.row 11 (GMethod.trs ((((w.gPackages[(o.gPackage).toNat]).gInstances)[(o.gAt).toNat]).gMethods)))]⟩], []⟩ : Sto), fun q' => ([some (.ptr 0 0), some (.t (.row 6 (GPackage.trs (w.gPackages)))), some (.ptr 1 0), some (.t (.leaf (.int .i64 (o.gPackage)))), some (.eptr (GPackage.cs (w.gPackages[(o.gPackage).toNat]))), some (.eptr ((GPackage.cs (w.gPackages[(o.gPackage).toNat])).drop 4)), some (.t (.row 12 (GInstance.trs ((w.gPackages[(o.gPackage).toNat]).gInstances)))), some (.ptr 1 1), some (.t (.leaf (.int .i64 (o.gAt)))), some (.eptr (GInstance.cs (((w.gPackages[(o.gPackage).toNat]).gInstances)[(o.gAt).toNat]))), some ((GInstance.pv (((w.gPackages[(o.gPackage).toNat]).gInstances)[(o.gAt).toNat]))), none, some (.t (.leaf (.bool (true))))] : List (Option PV)).getD q' none, fun q' => ([.q 0 0, .q 0 0, .q 0 0, .q 0 0, .q 0 0, .q 0 0, .q 0 0, .q 0 0, .q 0 0, .q 0 0, .q 0 0, .ef 0, .q 1 1] : List DK).getD q' (.q 0 0), [11], none, fun q' => ([[(2, none)], [(36, some 0)], [(3, none)], [(38, some 2)], [(37, some 1), (39, some 3)], [(40, some 4)], [(41, some 5)], [(3, none)], [(43, some 7)], [(42, some 6), (44, some 8)], [(45, some 9)], [(4, none), (46, some 10)], []] : List (List (Nat × Option Nat))).getD q' []⟩ rfl mixed (by kernel_rfl) rfl rfl ⟨?_, ?_, ?_, ?_, ?_, ?_, ?_, ?_, ?_, ?_, ?_, ?_, ?_, trivial⟩ rfl ?_
          · refine .inl ⟨rfl, fun s' j b (h1 : 0 ≤ j) (h2 : j ≤ 0) hs hl => ?_⟩
            obtain rfl : j = 0 := by omega
            exact ⟨_, rfl, AOp.fieldPtr (k := 0) (d := 0) (e := 0) rfl rfl (hl 2 none _ (.head _) rfl) fo31_0⟩
          · refine .inl ⟨rfl, fun s' j b (h1 : 0 ≤ j) (h2 : j ≤ 0) hs hl => ?_⟩
            obtain rfl : j = 0 := by omega
            exact ⟨_, rfl, AOp.loadPtr1 rfl rfl (hl 36 (some 0) _ (.head _) rfl) (by rw [hs]; rfl) sh29 rfl⟩
          · refine .inl ⟨rfl, fun s' j b (h1 : 0 ≤ j) (h2 : j ≤ 0) hs hl => ?_⟩
            obtain rfl : j = 0 := by omega
            exact ⟨_, rfl, AOp.fieldPtr (k := 1) (d := 0) (e := 0) rfl rfl (hl 3 none _ (.head _) rfl) fo33_0⟩
          · refine .inl ⟨rfl, fun s' j b (h1 : 0 ≤ j) (h2 : j ≤ 0) hs hl => ?_⟩
            obtain rfl : j = 0 := by omega
            exact ⟨_, rfl, AOp.loadPtr1 rfl rfl (hl 38 (some 2) _ (.head _) rfl) (by rw [hs]; rfl) sh3 rfl⟩
          · refine .inl ⟨rfl, fun s' j b (h1 : 0 ≤ j) (h2 : j ≤ 0) hs hl => ?_⟩
            obtain rfl : j = 0 := by omega
            exact ⟨_, rfl, AOp.indexI (y := o.gPackage) rfl rfl (hl 37 (some 1) _ (.head _) rfl) rfl (hl 39 (some 3) _ (.tail _ (.head _)) rfl) (by omega) (GPackage.trs_cs hn7) el29⟩
          · refine .inl ⟨rfl, fun s' j b (h1 : 0 ≤ j) (h2 : j ≤ 0) hs hl => ?_⟩
            obtain rfl : j = 0 := by omega
            exact ⟨_, rfl, AOp.fieldEptr (cs := (GPackage.cs (w.gPackages[(o.gPackage).toNat]))) (e := 4) rfl rfl (hl 40 (some 4) _ (.head _) rfl) fo126_4⟩
          · refine .inl ⟨rfl, fun s' j b (h1 : 0 ≤ j) (h2 : j ≤ 0) hs hl => ?_⟩
            obtain rfl : j = 0 := by omega
            exact ⟨_, rfl, AOp.loadEptr1 (d := .row 12 (GInstance.trs ((w.gPackages[(o.gPackage).toNat]).gInstances))) rfl rfl (hl 41 (some 5) _ (.head _) rfl) sh123 rfl⟩
          · refine .inl ⟨rfl, fun s' j b (h1 : 0 ≤ j) (h2 : j ≤ 0) hs hl => ?_⟩
            obtain rfl : j = 0 := by omega
            exact ⟨_, rfl, AOp.fieldPtr (k := 1) (d := 0) (e := 1) rfl rfl (hl 3 none _ (.head _) rfl) fo33_1⟩
          · refine .inl ⟨rfl, fun s' j b (h1 : 0 ≤ j) (h2 : j ≤ 0) hs hl => ?_⟩
            obtain rfl : j = 0 := by omega
            exact ⟨_, rfl, AOp.loadPtr1 rfl rfl (hl 43 (some 7) _ (.head _) rfl) (by rw [hs]; rfl) sh3 rfl⟩
          · refine .inl ⟨rfl, fun s' j b (h1 : 0 ≤ j) (h2 : j ≤ 0) hs hl => ?_⟩
            obtain rfl : j = 0 := by omega
            exact ⟨_, rfl, AOp.indexI (y := o.gAt) rfl rfl (hl 42 (some 6) _ (.head _) rfl) rfl (hl 44 (some 8) _ (.tail _ (.head _)) rfl) (by omega) (GInstance.trs_cs hn9) el123⟩
          · refine .inl ⟨rfl, fun s' j b (h1 : 0 ≤ j) (h2 : j ≤ 0) hs hl => ?_⟩
            obtain rfl : j = 0 := by omega
            exact ⟨_, rfl, AOp.loadEptr (ds := [.leaf (.string ((((w.gPackages[(o.gPackage).toNat]).gInstances)[(o.gAt).toNat]).gTrait)), .row 1 (strTrs ((((w.gPackages[(o.gPackage).toNat]).gInstances)[(o.gAt).toNat]).gVars)), .leaf (.int .i64 ((((w.gPackages[(o.gPackage).toNat]).gInstances)[(o.gAt).toNat]).gHead.gKind)), .leaf (.string ((((w.gPackages[(o.gPackage).toNat]).gInstances)[(o.gAt).toNat]).gHead.gName)), .row 3 (GType.trs ((((w.gPackages[(o.gPackage).toNat]).gInstances)[(o.gAt).toNat]).gHead.gArgs)), .row 4 (GBound.trs ((((w.gPackages[(o.gPackage).toNat]).gInstances)[(o.gAt).toNat]).gWhere)), .leaf (.bool ((((w.gPackages[(o.gPackage).toNat]).gInstances)[(o.gAt).toNat]).gDefault)), .leaf (.bool ((((w.gPackages[(o.gPackage).toNat]).gInstances)[(o.gAt).toNat]).gHasAssoc)), .leaf (.int .i64 ((((w.gPackages[(o.gPackage).toNat]).gInstances)[(o.gAt).toNat]).gAssoc.gKind)), .leaf (.string ((((w.gPackages[(o.gPackage).toNat]).gInstances)[(o.gAt).toNat]).gAssoc.gName)), .row 3 (GType.trs ((((w.gPackages[(o.gPackage).toNat]).gInstances)[(o.gAt).toNat]).gAssoc.gArgs)), .row 11 (GMethod.trs ((((w.gPackages[(o.gPackage).toNat]).gInstances)[(o.gAt).toNat]).gMethods))]) rfl rfl (hl 45 (some 9) _ (.head _) rfl) sh113 rfl rfl⟩
          · refine .inl ⟨rfl, fun s' b hs hl => ?_⟩
            refine .inr ⟨rfl, AOp.congr (AOp.storePtr (cs := [.t (.leaf (.string ((((w.gPackages[(o.gPackage).toNat]).gInstances)[(o.gAt).toNat]).gTrait))), .t (.row 1 (strTrs ((((w.gPackages[(o.gPackage).toNat]).gInstances)[(o.gAt).toNat]).gVars))), .t (.leaf (.int .i64 ((((w.gPackages[(o.gPackage).toNat]).gInstances)[(o.gAt).toNat]).gHead.gKind))), .t (.leaf (.string ((((w.gPackages[(o.gPackage).toNat]).gInstances)[(o.gAt).toNat]).gHead.gName))), .t (.row 3 (GType.trs ((((w.gPackages[(o.gPackage).toNat]).gInstances)[(o.gAt).toNat]).gHead.gArgs))), .t (.row 4 (GBound.trs ((((w.gPackages[(o.gPackage).toNat]).gInstances)[(o.gAt).toNat]).gWhere))), .t (.leaf (.bool ((((w.gPackages[(o.gPackage).toNat]).gInstances)[(o.gAt).toNat]).gDefault))), .t (.leaf (.bool ((((w.gPackages[(o.gPackage).toNat]).gInstances)[(o.gAt).toNat]).gHasAssoc))), .t (.leaf (.int .i64 ((((w.gPackages[(o.gPackage).toNat]).gInstances)[(o.gAt).toNat]).gAssoc.gKind))), .t (.leaf (.string ((((w.gPackages[(o.gPackage).toNat]).gInstances)[(o.gAt).toNat]).gAssoc.gName))), .t (.row 3 (GType.trs ((((w.gPackages[(o.gPackage).toNat]).gInstances)[(o.gAt).toNat]).gAssoc.gArgs))), .t (.row 11 (GMethod.trs ((((w.gPackages[(o.gPackage).toNat]).gInstances)[(o.gAt).toNat]).gMethods)))]) (ds := [.t (.leaf (.string ((((w.gPackages[(o.gPackage).toNat]).gInstances)[(o.gAt).toNat]).gTrait))), .t (.row 1 (strTrs ((((w.gPackages[(o.gPackage).toNat]).gInstances)[(o.gAt).toNat]).gVars))), .t (.leaf (.int .i64 ((((w.gPackages[(o.gPackage).toNat]).gInstances)[(o.gAt).toNat]).gHead.gKind))), .t (.leaf (.string ((((w.gPackages[(o.gPackage).toNat]).gInstances)[(o.gAt).toNat]).gHead.gName))), .t (.row 3 (GType.trs ((((w.gPackages[(o.gPackage).toNat]).gInstances)[(o.gAt).toNat]).gHead.gArgs))), .t (.row 4 (GBound.trs ((((w.gPackages[(o.gPackage).toNat]).gInstances)[(o.gAt).toNat]).gWhere))), .t (.leaf (.bool ((((w.gPackages[(o.gPackage).toNat]).gInstances)[(o.gAt).toNat]).gDefault))), .t (.leaf (.bool ((((w.gPackages[(o.gPackage).toNat]).gInstances)[(o.gAt).toNat]).gHasAssoc))), .t (.leaf (.int .i64 ((((w.gPackages[(o.gPackage).toNat]).gInstances)[(o.gAt).toNat]).gAssoc.gKind))), .t (.leaf (.string ((((w.gPackages[(o.gPackage).toNat]).gInstances)[(o.gAt).toNat]).gAssoc.gName))), .t (.row 3 (GType.trs ((((w.gPackages[(o.gPackage).toNat]).gInstances)[(o.gAt).toNat]).gAssoc.gArgs))), .t (.row 11 (GMethod.trs ((((w.gPackages[(o.gPackage).toNat]).gInstances)[(o.gAt).toNat]).gMethods)))]) rfl (hl 4 none _ (.head _) rfl) (by rw [hs]; rfl) (hl 46 (some 10) _ (.tail _ (.head _)) rfl) rfl rfl rfl sz113 (Nat.le_of_ble_eq_true rfl) rfl) ?_⟩
            first | (rw [hs]; rfl) | rfl
          · refine .inl ⟨rfl, fun s' j b (h1 : 1 ≤ j) (h2 : j ≤ 1) hs hl => ?_⟩
            obtain rfl : j = 1 := by omega
            exact ⟨_, rfl, AOp.move (.inr rfl) rfl rfl⟩
          refine AWP.ret ?_
          exact Ends.mk (ps := [_, _]) (.inr rfl) ⟨⟨_, _, _, rfl, rfl, sh113, rfl, rfl⟩, rfl, trivial⟩ rfl (StLe.mk' (st' := ⟨[], []⟩) trivial rfl) (keeps_nil hC) (q := (.tup [(GInstance.pv ((((w.gPackages[(o.gPackage).toNat]).gInstances)[(o.gAt).toNat]))), .t (.leaf (.bool (true)))] : PV)) (by (repeat' (first | exact PV.Le.refl _ | exact LeL.nil | exact PV.Le.nil _ | exact PV.Le.acc _ _ _ | apply LeL.cons | apply PV.Le.agg | apply PV.Le.tup))) rfl ⟨by exact optInst_some (instAt_hit (by omega) (by omega) (by omega) (by omega)), rfl⟩

set_option maxRecDepth 100000 in
set_option maxHeartbeats 4000000 in
theorem inst_spec (w : GProgram) (o : GInstanceRef) : AFun Tryz.prog 77 [(GProgram.pv w), (GInstanceRef.pv o)] (.tup [(GInstance.pv (oInst (GProgram.instAt w o))), .t (.leaf (.bool ((GProgram.instAt w o).isSome)))]) := by
  refine ACalls.intro Tryz.func77 rfl (by first | decide | (simp; done) | (simp; decide)) ?_
  intro C hC
  refine AWP.seq ?_
  refine AWP.region_lit ?_
  refine AL.cons rfl (AOp.box (cs := [.t (.row 6 (GPackage.trs (w.gPackages)))]) rfl rfl rfl rfl rfl) ?_
  refine AL.cons rfl (AOp.box (cs := [.t (.leaf (.int .i64 (o.gPackage))), .t (.leaf (.int .i64 (o.gAt)))]) rfl rfl rfl rfl rfl) ?_
  refine AL.cons rfl (AOp.alloc rfl rfl zr113) ?_
  refine AL.cons rfl (AOp.move (.inr rfl) rfl rfl) ?_
  refine AL.nil ?_
  refine AWP.seq ?_
  refine AWP.seq ?_
  refine AWP.fact (box_lenN 0 0 rfl rfl rfl (GPackage.trs_len _)) (fun hl1 => ?_)
  rcases bool2 (!(decide ((o.gPackage : Int) ≥ 0) && decide ((o.gPackage : Int) ≤ ((((w.gPackages.length : Nat) : Int)) - 1)))) with g2 | g2
  · skip
    have g2b := g2
    try simp only [Bool.and_eq_true, Bool.or_eq_true, Bool.and_eq_false_iff, Bool.or_eq_false_iff, decide_eq_true_eq, decide_eq_false_iff_not, Bool.not_eq_true', Bool.not_eq_false', Bool.not_eq_eq_eq_not, Bool.not_true, Bool.not_false, ge_iff_le, gt_iff_lt, Int.not_lt, Int.not_le] at g2b
    refine AWP.drawnL ⟨_, _, fun _ _ => (⟨[some ⟨31, [.t (.row 6 (GPackage.trs (w.gPackages)))]⟩, some ⟨33, [.t (.leaf (.int .i64 (o.gPackage))), .t (.leaf (.int .i64 (o.gAt)))]⟩, some ⟨113, [.t (.leaf (.string (⟨#[]⟩))), .nil, .t (.leaf (.int .i64 (0))), .t (.leaf (.string (⟨#[]⟩))), .nil, .nil, .t (.leaf (.bool (false))), .t (.leaf (.bool (false))), .t (.leaf (.int .i64 (0))), .t (.leaf (.string (⟨#[]⟩))), .nil, .nil]⟩], []⟩ : Sto), fun q' => ([some (.ptr 1 0), some (.t (.leaf (.int .i64 (o.gPackage)))), some (.ptr 0 0), some (.t (.row 6 (GPackage.trs (w.gPackages)))), some (.t (.leaf (.int .i64 (((w.gPackages.length : Nat) : Int))))), some (.t (.leaf (.int .i64 ((((w.gPackages.length : Nat) : Int)) - 1)))), some (.t (.leaf (.bool (decide ((o.gPackage : Int) ≥ 0) && decide ((o.gPackage : Int) ≤ ((((w.gPackages.length : Nat) : Int)) - 1)))))), some (.t (.leaf (.bool (!(decide ((o.gPackage : Int) ≥ 0) && decide ((o.gPackage : Int) ≤ ((((w.gPackages.length : Nat) : Int)) - 1))))))), some (.t (.leaf (.bool (!(decide ((o.gPackage : Int) ≥ 0) && decide ((o.gPackage : Int) ≤ ((((w.gPackages.length : Nat) : Int)) - 1))))))), none, none, none, none, none, none, none, none, none, none, none, none, none, some (.t (.leaf (.bool (true))))] : List (Option PV)).getD q' none, fun q' => ([.q 0 0, .q 0 0, .q 0 0, .q 0 0, .q 0 0, .q 0 0, .q 0 0, .q 0 0, .q 0 0, .q 0 0, .q 0 0, .q 0 0, .q 0 0, .q 0 0, .q 0 0, .q 0 0, .q 0 0, .q 0 0, .q 0 0, .q 0 0, .q 0 0, .q 0 0, .q 0 0] : List DK).getD q' (.q 0 0), [], none, fun q' => ([[(3, none)], [(6, some 0)], [(2, none)], [(8, some 2)], [(9, some 3)], [(10, some 4)], [(11, some 5), (7, some 1)], [(12, some 6)], [(13, some 7)], [], [], [], [], [], [], [], [], [], [], [], [], [], [(14, some 8)]] : List (List (Nat × Option Nat))).getD q' []⟩ rfl mixed (by kernel_rfl) rfl rfl ⟨?_, ?_, ?_, ?_, ?_, ?_, ?_, ?_, ?_, ?_, ?_, ?_, ?_, ?_, ?_, ?_, ?_, ?_, ?_, ?_, ?_, ?_, ?_, trivial⟩ rfl ?_
    · refine .inl ⟨rfl, fun s' j b (h1 : 0 ≤ j) (h2 : j ≤ 0) hs hl => ?_⟩
      obtain rfl : j = 0 := by omega
      exact ⟨_, rfl, AOp.fieldPtr (k := 1) (d := 0) (e := 0) rfl rfl (hl 3 none _ (.head _) rfl) fo33_0⟩
    · refine .inl ⟨rfl, fun s' j b (h1 : 0 ≤ j) (h2 : j ≤ 0) hs hl => ?_⟩
      obtain rfl : j = 0 := by omega
      exact ⟨_, rfl, AOp.loadPtr1 rfl rfl (hl 6 (some 0) _ (.head _) rfl) (by rw [hs]; rfl) sh3 rfl⟩
    · refine .inl ⟨rfl, fun s' j b (h1 : 0 ≤ j) (h2 : j ≤ 0) hs hl => ?_⟩
      obtain rfl : j = 0 := by omega
      exact ⟨_, rfl, AOp.fieldPtr (k := 0) (d := 0) (e := 0) rfl rfl (hl 2 none _ (.head _) rfl) fo31_0⟩
    · refine .inl ⟨rfl, fun s' j b (h1 : 0 ≤ j) (h2 : j ≤ 0) hs hl => ?_⟩
      obtain rfl : j = 0 := by omega
      exact ⟨_, rfl, AOp.loadPtr1 rfl rfl (hl 8 (some 2) _ (.head _) rfl) (by rw [hs]; rfl) sh29 rfl⟩
    · refine .inl ⟨rfl, fun s' j b (h1 : 0 ≤ j) (h2 : j ≤ 0) hs hl => ?_⟩
      obtain rfl : j = 0 := by omega
      exact ⟨_, rfl, AOp.lenN rfl rfl (hl 9 (some 3) _ (.head _) rfl) rfl el29 (GPackage.trs_len _)⟩
    · refine .inl ⟨rfl, fun s' j b (h1 : 0 ≤ j) (h2 : j ≤ 0) hs hl => ?_⟩
      obtain rfl : j = 0 := by omega
      exact ⟨_, rfl, AOp.subI rfl rfl (hl 10 (some 4) _ (.head _) rfl) rfl (c := (((w.gPackages.length : Nat) : Int)) - 1) (by omega) (by omega)⟩
    · refine .inl ⟨rfl, fun s' j b (h1 : 0 ≤ j) (h2 : j ≤ 0) hs hl => ?_⟩
      obtain rfl : j = 0 := by omega
      exact ⟨_, rfl, AOp.callF (ps := [_, _, _]) rfl rfl Tryz.func137 (by kernel_rfl) rfl (evs_cons (hl 7 (some 1) _ (.tail _ (.head _)) rfl) (evs_cons rfl (evs_cons (hl 11 (some 5) _ (.head _) rfl) rfl))) (by (repeat' (first | exact PV.Le.refl _ | exact LeL.nil | exact PV.Le.nil _ | exact PV.Le.acc _ _ _ | apply LeL.cons | apply PV.Le.agg | apply PV.Le.tup))) rfl rfl (in_ok o.gPackage 0 ((((w.gPackages.length : Nat) : Int)) - 1))⟩
    · refine .inl ⟨rfl, fun s' j b (h1 : 0 ≤ j) (h2 : j ≤ 0) hs hl => ?_⟩
      obtain rfl : j = 0 := by omega
      exact ⟨_, rfl, AOp.notB rfl rfl (hl 12 (some 6) _ (.head _) rfl)⟩
    · refine .inl ⟨rfl, fun s' j b (h1 : 0 ≤ j) (h2 : j ≤ 0) hs hl => ?_⟩
      obtain rfl : j = 0 := by omega
      exact ⟨_, rfl, AOp.move (.inl rfl) rfl (hl 13 (some 7) _ (.head _) rfl)⟩
    · exact .inr ⟨(congrArg (fun b => some (b == false)) g2), rfl, ⟨_, _, rfl⟩, fun d hd => by cases hd; rfl⟩
    · exact .inr ⟨(congrArg (fun b => some (b == false)) g2), rfl, ⟨_, _, rfl⟩, fun d hd => by cases hd; rfl⟩
    · exact .inr ⟨(congrArg (fun b => some (b == false)) g2), rfl, ⟨_, _, rfl⟩, fun d hd => by cases hd; rfl⟩
    · exact .inr ⟨(congrArg (fun b => some (b == false)) g2), rfl, ⟨_, _, rfl⟩, fun d hd => by cases hd; rfl⟩
    · exact .inr ⟨(congrArg (fun b => some (b == false)) g2), rfl, ⟨_, _, rfl⟩, fun d hd => by cases hd; rfl⟩
    · exact .inr ⟨(congrArg (fun b => some (b == false)) g2), rfl, ⟨_, _, rfl⟩, fun d hd => by cases hd; rfl⟩
    · exact .inr ⟨(congrArg (fun b => some (b == false)) g2), rfl, ⟨_, _, rfl⟩, fun d hd => by cases hd; rfl⟩
    · exact .inr ⟨(congrArg (fun b => some (b == false)) g2), rfl, ⟨_, _, rfl⟩, fun d hd => by cases hd; rfl⟩
    · exact .inr ⟨(congrArg (fun b => some (b == false)) g2), rfl, ⟨_, _, rfl⟩, fun d hd => by cases hd; rfl⟩
    · exact .inr ⟨(congrArg (fun b => some (b == false)) g2), rfl, ⟨_, _, rfl⟩, fun d hd => by cases hd; rfl⟩
    · exact .inr ⟨(congrArg (fun b => some (b == false)) g2), rfl, ⟨_, _, rfl⟩, fun d hd => by cases hd; rfl⟩
    · exact .inr ⟨(congrArg (fun b => some (b == false)) g2), rfl, ⟨_, _, rfl⟩, fun d hd => by cases hd; rfl⟩
    · exact .inr ⟨(congrArg (fun b => some (b == false)) g2), rfl, ⟨_, _, rfl⟩, fun d hd => by cases hd; rfl⟩
    · refine .inl ⟨rfl, fun s' j b (h1 : 0 ≤ j) (h2 : j ≤ 0) hs hl => ?_⟩
      obtain rfl : j = 0 := by omega
      exact ⟨_, rfl, AOp.pickT rfl rfl (hl 14 (some 8) _ (.head _) rfl) g2 rfl⟩
    refine AWP.cond rfl (fun h3 => ?_) (fun h3 => ?_)
    · skip
      have h3b := h3
      try simp only [Bool.and_eq_true, Bool.or_eq_true, Bool.and_eq_false_iff, Bool.or_eq_false_iff, decide_eq_true_eq, decide_eq_false_iff_not, Bool.not_eq_true', Bool.not_eq_false', Bool.not_eq_eq_eq_not, Bool.not_true, Bool.not_false, ge_iff_le, gt_iff_lt, Int.not_lt, Int.not_le] at h3b
      refine AWP.seq ?_
      refine AWP.region_lit ?_
      refine AL.cons rfl (AOp.build rfl rfl zr113 pl113 rfl rfl) ?_
      refine AL.cons rfl (AOp.storePtr (cs := [.t (.leaf (.string (⟨#[]⟩))), .nil, .t (.leaf (.int .i64 (0))), .t (.leaf (.string (⟨#[]⟩))), .nil, .nil, .t (.leaf (.bool (false))), .t (.leaf (.bool (false))), .t (.leaf (.int .i64 (0))), .t (.leaf (.string (⟨#[]⟩))), .nil, .nil]) (ds := [.t (.leaf (.string (⟨#[]⟩))), .nil, .t (.leaf (.int .i64 (0))), .t (.leaf (.string (⟨#[]⟩))), .nil, .nil, .t (.leaf (.bool (false))), .t (.leaf (.bool (false))), .t (.leaf (.int .i64 (0))), .t (.leaf (.string (⟨#[]⟩))), .nil, .nil]) rfl rfl rfl rfl rfl rfl rfl sz113 (Nat.le_of_ble_eq_true rfl) rfl) ?_
      refine AL.cons rfl (AOp.move (.inr rfl) rfl rfl) ?_
      refine AL.nil ?_
      refine AWP.ret ?_
      exact Ends.mk (ps := [_, _]) (.inr rfl) ⟨⟨_, _, _, rfl, rfl, sh113, rfl, rfl⟩, rfl, trivial⟩ rfl (StLe.mk' (st' := ⟨[], []⟩) trivial rfl) (keeps_nil hC) (q := PV.tup [GInstance.pv GInstance.zero, .t (.leaf (.bool (false)))]) (by (repeat' (first | exact PV.Le.refl _ | exact LeL.nil | exact PV.Le.nil _ | exact PV.Le.acc _ _ _ | apply LeL.cons | apply PV.Le.agg | apply PV.Le.tup))) rfl ⟨by exact optInst_none (by first | exact instAt_m1 (by omega) | exact instAt_m2 (by omega) (by omega)), rfl⟩
    · skip
      exact absurd (h3.symm.trans rfl) (by decide)
  · skip
    have g2b := g2
    try simp only [Bool.and_eq_true, Bool.or_eq_true, Bool.and_eq_false_iff, Bool.or_eq_false_iff, decide_eq_true_eq, decide_eq_false_iff_not, Bool.not_eq_true', Bool.not_eq_false', Bool.not_eq_eq_eq_not, Bool.not_true, Bool.not_false, ge_iff_le, gt_iff_lt, Int.not_lt, Int.not_le] at g2b
    have hn4 : (o.gPackage).toNat < w.gPackages.length := by omega
    refine AWP.fact (box_len2 0 0 rfl rfl rfl (GPackage.trs_cs hn4) (j2 := 4) rfl (GInstance.trs_len _)) (fun hl5 => ?_)
    refine AWP.drawnL ⟨_, _, fun _ _ => (⟨[some ⟨31, [.t (.row 6 (GPackage.trs (w.gPackages)))]⟩, some ⟨33, [.t (.leaf (.int .i64 (o.gPackage))), .t (.leaf (.int .i64 (o.gAt)))]⟩, some ⟨113, [.t (.leaf (.string (⟨#[]⟩))), .nil, .t (.leaf (.int .i64 (0))), .t (.leaf (.string (⟨#[]⟩))), .nil, .nil, .t (.leaf (.bool (false))), .t (.leaf (.bool (false))), .t (.leaf (.int .i64 (0))), .t (.leaf (.string (⟨#[]⟩))), .nil, .nil]⟩], []⟩ : Sto), fun q' => ([some (.ptr 1 0), some (.t (.leaf (.int .i64 (o.gPackage)))), some (.ptr 0 0), some (.t (.row 6 (GPackage.trs (w.gPackages)))), some (.t (.leaf (.int .i64 (((w.gPackages.length : Nat) : Int))))), some (.t (.leaf (.int .i64 ((((w.gPackages.length : Nat) : Int)) - 1)))), some (.t (.leaf (.bool (decide ((o.gPackage : Int) ≥ 0) && decide ((o.gPackage : Int) ≤ ((((w.gPackages.length : Nat) : Int)) - 1)))))), some (.t (.leaf (.bool (!(decide ((o.gPackage : Int) ≥ 0) && decide ((o.gPackage : Int) ≤ ((((w.gPackages.length : Nat) : Int)) - 1))))))), some (.t (.leaf (.bool (!(decide ((o.gPackage : Int) ≥ 0) && decide ((o.gPackage : Int) ≤ ((((w.gPackages.length : Nat) : Int)) - 1))))))), some (.ptr 1 1), some (.t (.leaf (.int .i64 (o.gAt)))), some (.ptr 0 0), some (.t (.row 6 (GPackage.trs (w.gPackages)))), some (.ptr 1 0), some (.t (.leaf (.int .i64 (o.gPackage)))), some (.eptr (GPackage.cs (w.gPackages[(o.gPackage).toNat]))), some (.eptr ((GPackage.cs (w.gPackages[(o.gPackage).toNat])).drop 4)), some (.t (.row 12 (GInstance.trs ((w.gPackages[(o.gPackage).toNat]).gInstances)))), some (.t (.leaf (.int .i64 (((((w.gPackages[(o.gPackage).toNat]).gInstances).length : Nat) : Int))))), some (.t (.leaf (.int .i64 ((((((w.gPackages[(o.gPackage).toNat]).gInstances).length : Nat) : Int)) - 1)))), some (.t (.leaf (.bool (decide ((o.gAt : Int) ≥ 0) && decide ((o.gAt : Int) ≤ ((((((w.gPackages[(o.gPackage).toNat]).gInstances).length : Nat) : Int)) - 1)))))), some (.t (.leaf (.bool (!(decide ((o.gAt : Int) ≥ 0) && decide ((o.gAt : Int) ≤ ((((((w.gPackages[(o.gPackage).toNat]).gInstances).length : Nat) : Int)) - 1))))))), some (.t (.leaf (.bool (!(decide ((o.gAt : Int) ≥ 0) && decide ((o.gAt : Int) ≤ ((((((w.gPackages[(o.gPackage).toNat]).gInstances).length : Nat) : Int)) - 1)))))))] : List (Option PV)).getD q' none, fun q' => ([.q 0 0, .q 0 0, .q 0 0, .q 0 0, .q 0 0, .q 0 0, .q 0 0, .q 0 0, .q 0 0, .q 0 0, .q 0 0, .q 0 0, .q 0 0, .q 0 0, .q 0 0, .q 0 0, .q 0 0, .q 0 0, .q 0 0, .q 0 0, .q 0 0, .q 0 0, .q 0 0] : List DK).getD q' (.q 0 0), [], none, fun q' => ([[(3, none)], [(6, some 0)], [(2, none)], [(8, some 2)], [(9, some 3)], [(10, some 4)], [(11, some 5), (7, some 1)], [(12, some 6)], [(13, some 7)], [(3, none)], [(15, some 9)], [(2, none)], [(17, some 11)], [(3, none)], [(19, some 13)], [(18, some 12), (20, some 14)], [(21, some 15)], [(22, some 16)], [(23, some 17)], [(24, some 18)], [(25, some 19), (16, some 10)], [(26, some 20)], [(14, some 8), (27, some 21)]] : List (List (Nat × Option Nat))).getD q' []⟩ rfl mixed (by kernel_rfl) rfl rfl ⟨?_, ?_, ?_, ?_, ?_, ?_, ?_, ?_, ?_, ?_, ?_, ?_, ?_, ?_, ?_, ?_, ?_, ?_, ?_, ?_, ?_, ?_, ?_, trivial⟩ rfl ?_
    · refine .inl ⟨rfl, fun s' j b (h1 : 0 ≤ j) (h2 : j ≤ 0) hs hl => ?_⟩
      obtain rfl : j = 0 := by omega
      exact ⟨_, rfl, AOp.fieldPtr (k := 1) (d := 0) (e := 0) rfl rfl (hl 3 none _ (.head _) rfl) fo33_0⟩
    · refine .inl ⟨rfl, fun s' j b (h1 : 0 ≤ j) (h2 : j ≤ 0) hs hl => ?_⟩
      obtain rfl : j = 0 := by omega
      exact ⟨_, rfl, AOp.loadPtr1 rfl rfl (hl 6 (some 0) _ (.head _) rfl) (by rw [hs]; rfl) sh3 rfl⟩
    · refine .inl ⟨rfl, fun s' j b (h1 : 0 ≤ j) (h2 : j ≤ 0) hs hl => ?_⟩
      obtain rfl : j = 0 := by omega
      exact ⟨_, rfl, AOp.fieldPtr (k := 0) (d := 0) (e := 0) rfl rfl (hl 2 none _ (.head _) rfl) fo31_0⟩
    · refine .inl ⟨rfl, fun s' j b (h1 : 0 ≤ j) (h2 : j ≤ 0) hs hl => ?_⟩
      obtain rfl : j = 0 := by omega
      exact ⟨_, rfl, AOp.loadPtr1 rfl rfl (hl 8 (some 2) _ (.head _) rfl) (by rw [hs]; rfl) sh29 rfl⟩
    · refine .inl ⟨rfl, fun s' j b (h1 : 0 ≤ j) (h2 : j ≤ 0) hs hl => ?_⟩
      obtain rfl : j = 0 := by omega
      exact ⟨_, rfl, AOp.lenN rfl rfl (hl 9 (some 3) _ (.head _) rfl) rfl el29 (GPackage.trs_len _)⟩
    · refine .inl ⟨rfl, fun s' j b (h1 : 0 ≤ j) (h2 : j ≤ 0) hs hl => ?_⟩
      obtain rfl : j = 0 := by omega
      exact ⟨_, rfl, AOp.subI rfl rfl (hl 10 (some 4) _ (.head _) rfl) rfl (c := (((w.gPackages.length : Nat) : Int)) - 1) (by omega) (by omega)⟩
    · refine .inl ⟨rfl, fun s' j b (h1 : 0 ≤ j) (h2 : j ≤ 0) hs hl => ?_⟩
      obtain rfl : j = 0 := by omega
      exact ⟨_, rfl, AOp.callF (ps := [_, _, _]) rfl rfl Tryz.func137 (by kernel_rfl) rfl (evs_cons (hl 7 (some 1) _ (.tail _ (.head _)) rfl) (evs_cons rfl (evs_cons (hl 11 (some 5) _ (.head _) rfl) rfl))) (by (repeat' (first | exact PV.Le.refl _ | exact LeL.nil | exact PV.Le.nil _ | exact PV.Le.acc _ _ _ | apply LeL.cons | apply PV.Le.agg | apply PV.Le.tup))) rfl rfl (in_ok o.gPackage 0 ((((w.gPackages.length : Nat) : Int)) - 1))⟩
    · refine .inl ⟨rfl, fun s' j b (h1 : 0 ≤ j) (h2 : j ≤ 0) hs hl => ?_⟩
      obtain rfl : j = 0 := by omega
      exact ⟨_, rfl, AOp.notB rfl rfl (hl 12 (some 6) _ (.head _) rfl)⟩
    · refine .inl ⟨rfl, fun s' j b (h1 : 0 ≤ j) (h2 : j ≤ 0) hs hl => ?_⟩
      obtain rfl : j = 0 := by omega
      exact ⟨_, rfl, AOp.move (.inl rfl) rfl (hl 13 (some 7) _ (.head _) rfl)⟩
    · refine .inl ⟨(congrArg (fun b => some (b == false)) g2), fun s' j b (h1 : 0 ≤ j) (h2 : j ≤ 0) hs hl => ?_⟩
      obtain rfl : j = 0 := by omega
      exact ⟨_, rfl, AOp.fieldPtr (k := 1) (d := 0) (e := 1) rfl rfl (hl 3 none _ (.head _) rfl) fo33_1⟩
    · refine .inl ⟨(congrArg (fun b => some (b == false)) g2), fun s' j b (h1 : 0 ≤ j) (h2 : j ≤ 0) hs hl => ?_⟩
      obtain rfl : j = 0 := by omega
      exact ⟨_, rfl, AOp.loadPtr1 rfl rfl (hl 15 (some 9) _ (.head _) rfl) (by rw [hs]; rfl) sh3 rfl⟩
    · refine .inl ⟨(congrArg (fun b => some (b == false)) g2), fun s' j b (h1 : 0 ≤ j) (h2 : j ≤ 0) hs hl => ?_⟩
      obtain rfl : j = 0 := by omega
      exact ⟨_, rfl, AOp.fieldPtr (k := 0) (d := 0) (e := 0) rfl rfl (hl 2 none _ (.head _) rfl) fo31_0⟩
    · refine .inl ⟨(congrArg (fun b => some (b == false)) g2), fun s' j b (h1 : 0 ≤ j) (h2 : j ≤ 0) hs hl => ?_⟩
      obtain rfl : j = 0 := by omega
      exact ⟨_, rfl, AOp.loadPtr1 rfl rfl (hl 17 (some 11) _ (.head _) rfl) (by rw [hs]; rfl) sh29 rfl⟩
    · refine .inl ⟨(congrArg (fun b => some (b == false)) g2), fun s' j b (h1 : 0 ≤ j) (h2 : j ≤ 0) hs hl => ?_⟩
      obtain rfl : j = 0 := by omega
      exact ⟨_, rfl, AOp.fieldPtr (k := 1) (d := 0) (e := 0) rfl rfl (hl 3 none _ (.head _) rfl) fo33_0⟩
    · refine .inl ⟨(congrArg (fun b => some (b == false)) g2), fun s' j b (h1 : 0 ≤ j) (h2 : j ≤ 0) hs hl => ?_⟩
      obtain rfl : j = 0 := by omega
      exact ⟨_, rfl, AOp.loadPtr1 rfl rfl (hl 19 (some 13) _ (.head _) rfl) (by rw [hs]; rfl) sh3 rfl⟩
    · refine .inl ⟨(congrArg (fun b => some (b == false)) g2), fun s' j b (h1 : 0 ≤ j) (h2 : j ≤ 0) hs hl => ?_⟩
      obtain rfl : j = 0 := by omega
      exact ⟨_, rfl, AOp.indexI (y := o.gPackage) rfl rfl (hl 18 (some 12) _ (.head _) rfl) rfl (hl 20 (some 14) _ (.tail _ (.head _)) rfl) (by omega) (GPackage.trs_cs hn4) el29⟩
    · refine .inl ⟨(congrArg (fun b => some (b == false)) g2), fun s' j b (h1 : 0 ≤ j) (h2 : j ≤ 0) hs hl => ?_⟩
      obtain rfl : j = 0 := by omega
      exact ⟨_, rfl, AOp.fieldEptr (cs := (GPackage.cs (w.gPackages[(o.gPackage).toNat]))) (e := 4) rfl rfl (hl 21 (some 15) _ (.head _) rfl) fo126_4⟩
    · refine .inl ⟨(congrArg (fun b => some (b == false)) g2), fun s' j b (h1 : 0 ≤ j) (h2 : j ≤ 0) hs hl => ?_⟩
      obtain rfl : j = 0 := by omega
      exact ⟨_, rfl, AOp.loadEptr1 (d := .row 12 (GInstance.trs ((w.gPackages[(o.gPackage).toNat]).gInstances))) rfl rfl (hl 22 (some 16) _ (.head _) rfl) sh123 rfl⟩
    · refine .inl ⟨(congrArg (fun b => some (b == false)) g2), fun s' j b (h1 : 0 ≤ j) (h2 : j ≤ 0) hs hl => ?_⟩
      obtain rfl : j = 0 := by omega
      exact ⟨_, rfl, AOp.lenN rfl rfl (hl 23 (some 17) _ (.head _) rfl) rfl el123 (GInstance.trs_len _)⟩
    · refine .inl ⟨(congrArg (fun b => some (b == false)) g2), fun s' j b (h1 : 0 ≤ j) (h2 : j ≤ 0) hs hl => ?_⟩
      obtain rfl : j = 0 := by omega
      exact ⟨_, rfl, AOp.subI rfl rfl (hl 24 (some 18) _ (.head _) rfl) rfl (c := (((((w.gPackages[(o.gPackage).toNat]).gInstances).length : Nat) : Int)) - 1) (by omega) (by omega)⟩
    · refine .inl ⟨(congrArg (fun b => some (b == false)) g2), fun s' j b (h1 : 0 ≤ j) (h2 : j ≤ 0) hs hl => ?_⟩
      obtain rfl : j = 0 := by omega
      exact ⟨_, rfl, AOp.callF (ps := [_, _, _]) rfl rfl Tryz.func137 (by kernel_rfl) rfl (evs_cons (hl 16 (some 10) _ (.tail _ (.head _)) rfl) (evs_cons rfl (evs_cons (hl 25 (some 19) _ (.head _) rfl) rfl))) (by (repeat' (first | exact PV.Le.refl _ | exact LeL.nil | exact PV.Le.nil _ | exact PV.Le.acc _ _ _ | apply LeL.cons | apply PV.Le.agg | apply PV.Le.tup))) rfl rfl (in_ok o.gAt 0 ((((((w.gPackages[(o.gPackage).toNat]).gInstances).length : Nat) : Int)) - 1))⟩
    · refine .inl ⟨(congrArg (fun b => some (b == false)) g2), fun s' j b (h1 : 0 ≤ j) (h2 : j ≤ 0) hs hl => ?_⟩
      obtain rfl : j = 0 := by omega
      exact ⟨_, rfl, AOp.notB rfl rfl (hl 26 (some 20) _ (.head _) rfl)⟩
    · refine .inl ⟨rfl, fun s' j b (h1 : 0 ≤ j) (h2 : j ≤ 0) hs hl => ?_⟩
      obtain rfl : j = 0 := by omega
      exact ⟨_, rfl, AOp.pickF rfl rfl (hl 14 (some 8) _ (.head _) rfl) g2 (hl 27 (some 21) _ (.tail _ (.head _)) rfl)⟩
    refine AWP.cond rfl (fun h6 => ?_) (fun h6 => ?_)
    · skip
      have h6b := h6
      try simp only [Bool.and_eq_true, Bool.or_eq_true, Bool.and_eq_false_iff, Bool.or_eq_false_iff, decide_eq_true_eq, decide_eq_false_iff_not, Bool.not_eq_true', Bool.not_eq_false', Bool.not_eq_eq_eq_not, Bool.not_true, Bool.not_false, ge_iff_le, gt_iff_lt, Int.not_lt, Int.not_le] at h6b
      refine AWP.seq ?_
      refine AWP.region_lit ?_
      refine AL.cons rfl (AOp.build rfl rfl zr113 pl113 rfl rfl) ?_
      refine AL.cons rfl (AOp.storePtr (cs := [.t (.leaf (.string (⟨#[]⟩))), .nil, .t (.leaf (.int .i64 (0))), .t (.leaf (.string (⟨#[]⟩))), .nil, .nil, .t (.leaf (.bool (false))), .t (.leaf (.bool (false))), .t (.leaf (.int .i64 (0))), .t (.leaf (.string (⟨#[]⟩))), .nil, .nil]) (ds := [.t (.leaf (.string (⟨#[]⟩))), .nil, .t (.leaf (.int .i64 (0))), .t (.leaf (.string (⟨#[]⟩))), .nil, .nil, .t (.leaf (.bool (false))), .t (.leaf (.bool (false))), .t (.leaf (.int .i64 (0))), .t (.leaf (.string (⟨#[]⟩))), .nil, .nil]) rfl rfl rfl rfl rfl rfl rfl sz113 (Nat.le_of_ble_eq_true rfl) rfl) ?_
      refine AL.cons rfl (AOp.move (.inr rfl) rfl rfl) ?_
      refine AL.nil ?_
      refine AWP.ret ?_
      exact Ends.mk (ps := [_, _]) (.inr rfl) ⟨⟨_, _, _, rfl, rfl, sh113, rfl, rfl⟩, rfl, trivial⟩ rfl (StLe.mk' (st' := ⟨[], []⟩) trivial rfl) (keeps_nil hC) (q := PV.tup [GInstance.pv GInstance.zero, .t (.leaf (.bool (false)))]) (by (repeat' (first | exact PV.Le.refl _ | exact LeL.nil | exact PV.Le.nil _ | exact PV.Le.acc _ _ _ | apply LeL.cons | apply PV.Le.agg | apply PV.Le.tup))) rfl ⟨by exact optInst_none (by first | exact instAt_m1 (by omega) | exact instAt_m2 (by omega) (by omega)), rfl⟩
    · skip
      have h6b := h6
      try simp only [Bool.and_eq_true, Bool.or_eq_true, Bool.and_eq_false_iff, Bool.or_eq_false_iff, decide_eq_true_eq, decide_eq_false_iff_not, Bool.not_eq_true', Bool.not_eq_false', Bool.not_eq_eq_eq_not, Bool.not_true, Bool.not_false, ge_iff_le, gt_iff_lt, Int.not_lt, Int.not_le] at h6b
      refine AWP.skip ?_
      refine AWP.seq ?_
      have hn7 : (o.gAt).toNat < ((w.gPackages[(o.gPackage).toNat]).gInstances).length := by omega
      refine AWP.drawnL ⟨_, _, fun j' _ => ([(⟨[some ⟨31, [.t (.row 6 (GPackage.trs (w.gPackages)))]⟩, some ⟨33, [.t (.leaf (.int .i64 (o.gPackage))), .t (.leaf (.int .i64 (o.gAt)))]⟩, some ⟨113, [.t (.leaf (.string (⟨#[]⟩))), .nil, .t (.leaf (.int .i64 (0))), .t (.leaf (.string (⟨#[]⟩))), .nil, .nil, .t (.leaf (.bool (false))), .t (.leaf (.bool (false))), .t (.leaf (.int .i64 (0))), .t (.leaf (.string (⟨#[]⟩))), .nil, .nil]⟩], []⟩ : Sto), (⟨[some ⟨31, [.t (.row 6 (GPackage.trs (w.gPackages)))]⟩, some ⟨33, [.t (.leaf (.int .i64 (o.gPackage))), .t (.leaf (.int .i64 (o.gAt)))]⟩, some ⟨113, [.t (.leaf (.string ((((w.gPackages[(o.gPackage).toNat]).gInstances)[(o.gAt).toNat]).gTrait))), .t (.row 1 (strTrs ((((w.gPackages[(o.gPackage).toNat]).gInstances)[(o.gAt).toNat]).gVars))), .t (.leaf (.int .i64 ((((w.gPackages[(o.gPackage).toNat]).gInstances)[(o.gAt).toNat]).gHead.gKind))), .t (.leaf (.string ((((w.gPackages[(o.gPackage).toNat]).gInstances)[(o.gAt).toNat]).gHead.gName))), .t (.row 3 (GType.trs ((((w.gPackages[(o.gPackage).toNat]).gInstances)[(o.gAt).toNat]).gHead.gArgs))), .t (.row 4 (GBound.trs ((((w.gPackages[(o.gPackage).toNat]).gInstances)[(o.gAt).toNat]).gWhere))), .t (.leaf (.bool ((((w.gPackages[(o.gPackage).toNat]).gInstances)[(o.gAt).toNat]).gDefault))), .t (.leaf (.bool ((((w.gPackages[(o.gPackage).toNat]).gInstances)[(o.gAt).toNat]).gHasAssoc))), .t (.leaf (.int .i64 ((((w.gPackages[(o.gPackage).toNat]).gInstances)[(o.gAt).toNat]).gAssoc.gKind))), .t (.leaf (.string ((((w.gPackages[(o.gPackage).toNat]).gInstances)[(o.gAt).toNat]).gAssoc.gName))), .t (.row 3 (GType.trs ((((w.gPackages[(o.gPackage).toNat]).gInstances)[(o.gAt).toNat]).gAssoc.gArgs))), .t (.row 11 (GMethod.trs ((((w.gPackages[(o.gPackage).toNat]).gInstances)[(o.gAt).toNat]).gMethods)))]⟩], []⟩ : Sto)] : List Sto).getD j' (⟨[some ⟨31, [.t (.row 6 (GPackage.trs (w.gPackages)))]⟩, some ⟨33, [.t (.leaf (.int .i64 (o.gPackage))), .t (.leaf (.int .i64 (o.gAt)))]⟩, some ⟨113, [.t (.leaf (.string ((((w.gPackages[(o.gPackage).toNat]).gInstances)[(o.gAt).toNat]).gTrait))), .t (.row 1 (strTrs ((((w.gPackages[(o.gPackage).toNat]).gInstances)[(o.gAt).toNat]).gVars))), .t (.leaf (.int .i64 ((((w.gPackages[(o.gPackage).toNat]).gInstances)[(o.gAt).toNat]).gHead.gKind))), .t (.leaf (.string ((((w.gPackages[(o.gPackage).toNat]).gInstances)[(o.gAt).toNat]).gHead.gName))), .t (.row 3 (GType.trs ((((w.gPackages[(o.gPackage).toNat]).gInstances)[(o.gAt).toNat]).gHead.gArgs))), .t (.row 4 (GBound.trs ((((w.gPackages[(o.gPackage).toNat]).gInstances)[(o.gAt).toNat]).gWhere))), .t (.leaf (.bool ((((w.gPackages[(o.gPackage).toNat]).gInstances)[(o.gAt).toNat]).gDefault))), .t (.leaf (.bool ((((w.gPackages[(o.gPackage).toNat]).gInstances)[(o.gAt).toNat]).gHasAssoc))), .t (.leaf (.int .i64 ((((w.gPackages[(o.gPackage).toNat]).gInstances)[(o.gAt).toNat]).gAssoc.gKind))), .t (.leaf (.string ((((w.gPackages[(o.gPackage).toNat]).gInstances)[(o.gAt).toNat]).gAssoc.gName))), .t (.row 3 (GType.trs ((((w.gPackages[(o.gPackage).toNat]).gInstances)[(o.gAt).toNat]).gAssoc.gArgs))), .t (.row 11 (GMethod.trs ((((w.gPackages[(o.gPackage).toNat]).gInstances)[(o.gAt).toNat]).gMethods)))]⟩], []⟩ : Sto), fun q' => ([some (.ptr 0 0), some (.t (.row 6 (GPackage.trs (w.gPackages)))), some (.ptr 1 0), some (.t (.leaf (.int .i64 (o.gPackage)))), some (.eptr (GPackage.cs (w.gPackages[(o.gPackage).toNat]))), some (.eptr ((GPackage.cs (w.gPackages[(o.gPackage).toNat])).drop 4)), some (.t (.row 12 (GInstance.trs ((w.gPackages[(o.gPackage).toNat]).gInstances)))), some (.ptr 1 1), some (.t (.leaf (.int .i64 (o.gAt)))), some (.eptr (GInstance.cs (((w.gPackages[(o.gPackage).toNat]).gInstances)[(o.gAt).toNat]))), some ((GInstance.pv (((w.gPackages[(o.gPackage).toNat]).gInstances)[(o.gAt).toNat]))), none, some (.t (.leaf (.bool (true))))] : List (Option PV)).getD q' none, fun q' => ([.q 0 0, .q 0 0, .q 0 0, .q 0 0, .q 0 0, .q 0 0, .q 0 0, .q 0 0, .q 0 0, .q 0 0, .q 0 0, .ef 0, .q 1 1] : List DK).getD q' (.q 0 0), [11], none, fun q' => ([[(2, none)], [(30, some 0)], [(3, none)], [(32, some 2)], [(31, some 1), (33, some 3)], [(34, some 4)], [(35, some 5)], [(3, none)], [(37, some 7)], [(36, some 6), (38, some 8)], [(39, some 9)], [(4, none), (40, some 10)], []] : List (List (Nat × Option Nat))).getD q' []⟩ rfl mixed (by kernel_rfl) rfl rfl ⟨?_, ?_, ?_, ?_, ?_, ?_, ?_, ?_, ?_, ?_, ?_, ?_, ?_, trivial⟩ rfl ?_
      · refine .inl ⟨rfl, fun s' j b (h1 : 0 ≤ j) (h2 : j ≤ 0) hs hl => ?_⟩
        obtain rfl : j = 0 := by omega
        exact ⟨_, rfl, AOp.fieldPtr (k := 0) (d := 0) (e := 0) rfl rfl (hl 2 none _ (.head _) rfl) fo31_0⟩
      · refine .inl ⟨rfl, fun s' j b (h1 : 0 ≤ j) (h2 : j ≤ 0) hs hl => ?_⟩
        obtain rfl : j = 0 := by omega
        exact ⟨_, rfl, AOp.loadPtr1 rfl rfl (hl 30 (some 0) _ (.head _) rfl) (by rw [hs]; rfl) sh29 rfl⟩
      · refine .inl ⟨rfl, fun s' j b (h1 : 0 ≤ j) (h2 : j ≤ 0) hs hl => ?_⟩
        obtain rfl : j = 0 := by omega
        exact ⟨_, rfl, AOp.fieldPtr (k := 1) (d := 0) (e := 0) rfl rfl (hl 3 none _ (.head _) rfl) fo33_0⟩
      · refine .inl ⟨rfl, fun s' j b (h1 : 0 ≤ j) (h2 : j ≤ 0) hs hl => ?_⟩
        obtain rfl : j = 0 := by omega
        exact ⟨_, rfl, AOp.loadPtr1 rfl rfl (hl 32 (some 2) _ (.head _) rfl) (by rw [hs]; rfl) sh3 rfl⟩
      · refine .inl ⟨rfl, fun s' j b (h1 : 0 ≤ j) (h2 : j ≤ 0) hs hl => ?_⟩
        obtain rfl : j = 0 := by omega
        exact ⟨_, rfl, AOp.indexI (y := o.gPackage) rfl rfl (hl 31 (some 1) _ (.head _) rfl) rfl (hl 33 (some 3) _ (.tail _ (.head _)) rfl) (by omega) (GPackage.trs_cs hn4) el29⟩
      · refine .inl ⟨rfl, fun s' j b (h1 : 0 ≤ j) (h2 : j ≤ 0) hs hl => ?_⟩
        obtain rfl : j = 0 := by omega
        exact ⟨_, rfl, AOp.fieldEptr (cs := (GPackage.cs (w.gPackages[(o.gPackage).toNat]))) (e := 4) rfl rfl (hl 34 (some 4) _ (.head _) rfl) fo126_4⟩
      · refine .inl ⟨rfl, fun s' j b (h1 : 0 ≤ j) (h2 : j ≤ 0) hs hl => ?_⟩
        obtain rfl : j = 0 := by omega
        exact ⟨_, rfl, AOp.loadEptr1 (d := .row 12 (GInstance.trs ((w.gPackages[(o.gPackage).toNat]).gInstances))) rfl rfl (hl 35 (some 5) _ (.head _) rfl) sh123 rfl⟩
      · refine .inl ⟨rfl, fun s' j b (h1 : 0 ≤ j) (h2 : j ≤ 0) hs hl => ?_⟩
        obtain rfl : j = 0 := by omega
        exact ⟨_, rfl, AOp.fieldPtr (k := 1) (d := 0) (e := 1) rfl rfl (hl 3 none _ (.head _) rfl) fo33_1⟩
      · refine .inl ⟨rfl, fun s' j b (h1 : 0 ≤ j) (h2 : j ≤ 0) hs hl => ?_⟩
        obtain rfl : j = 0 := by omega
        exact ⟨_, rfl, AOp.loadPtr1 rfl rfl (hl 37 (some 7) _ (.head _) rfl) (by rw [hs]; rfl) sh3 rfl⟩
      · refine .inl ⟨rfl, fun s' j b (h1 : 0 ≤ j) (h2 : j ≤ 0) hs hl => ?_⟩
        obtain rfl : j = 0 := by omega
        exact ⟨_, rfl, AOp.indexI (y := o.gAt) rfl rfl (hl 36 (some 6) _ (.head _) rfl) rfl (hl 38 (some 8) _ (.tail _ (.head _)) rfl) (by omega) (GInstance.trs_cs hn7) el123⟩
      · refine .inl ⟨rfl, fun s' j b (h1 : 0 ≤ j) (h2 : j ≤ 0) hs hl => ?_⟩
        obtain rfl : j = 0 := by omega
        exact ⟨_, rfl, AOp.loadEptr (ds := [.leaf (.string ((((w.gPackages[(o.gPackage).toNat]).gInstances)[(o.gAt).toNat]).gTrait)), .row 1 (strTrs ((((w.gPackages[(o.gPackage).toNat]).gInstances)[(o.gAt).toNat]).gVars)), .leaf (.int .i64 ((((w.gPackages[(o.gPackage).toNat]).gInstances)[(o.gAt).toNat]).gHead.gKind)), .leaf (.string ((((w.gPackages[(o.gPackage).toNat]).gInstances)[(o.gAt).toNat]).gHead.gName)), .row 3 (GType.trs ((((w.gPackages[(o.gPackage).toNat]).gInstances)[(o.gAt).toNat]).gHead.gArgs)), .row 4 (GBound.trs ((((w.gPackages[(o.gPackage).toNat]).gInstances)[(o.gAt).toNat]).gWhere)), .leaf (.bool ((((w.gPackages[(o.gPackage).toNat]).gInstances)[(o.gAt).toNat]).gDefault)), .leaf (.bool ((((w.gPackages[(o.gPackage).toNat]).gInstances)[(o.gAt).toNat]).gHasAssoc)), .leaf (.int .i64 ((((w.gPackages[(o.gPackage).toNat]).gInstances)[(o.gAt).toNat]).gAssoc.gKind)), .leaf (.string ((((w.gPackages[(o.gPackage).toNat]).gInstances)[(o.gAt).toNat]).gAssoc.gName)), .row 3 (GType.trs ((((w.gPackages[(o.gPackage).toNat]).gInstances)[(o.gAt).toNat]).gAssoc.gArgs)), .row 11 (GMethod.trs ((((w.gPackages[(o.gPackage).toNat]).gInstances)[(o.gAt).toNat]).gMethods))]) rfl rfl (hl 39 (some 9) _ (.head _) rfl) sh113 rfl rfl⟩
      · refine .inl ⟨rfl, fun s' b hs hl => ?_⟩
        refine .inr ⟨rfl, AOp.congr (AOp.storePtr (cs := [.t (.leaf (.string ((((w.gPackages[(o.gPackage).toNat]).gInstances)[(o.gAt).toNat]).gTrait))), .t (.row 1 (strTrs ((((w.gPackages[(o.gPackage).toNat]).gInstances)[(o.gAt).toNat]).gVars))), .t (.leaf (.int .i64 ((((w.gPackages[(o.gPackage).toNat]).gInstances)[(o.gAt).toNat]).gHead.gKind))), .t (.leaf (.string ((((w.gPackages[(o.gPackage).toNat]).gInstances)[(o.gAt).toNat]).gHead.gName))), .t (.row 3 (GType.trs ((((w.gPackages[(o.gPackage).toNat]).gInstances)[(o.gAt).toNat]).gHead.gArgs))), .t (.row 4 (GBound.trs ((((w.gPackages[(o.gPackage).toNat]).gInstances)[(o.gAt).toNat]).gWhere))), .t (.leaf (.bool ((((w.gPackages[(o.gPackage).toNat]).gInstances)[(o.gAt).toNat]).gDefault))), .t (.leaf (.bool ((((w.gPackages[(o.gPackage).toNat]).gInstances)[(o.gAt).toNat]).gHasAssoc))), .t (.leaf (.int .i64 ((((w.gPackages[(o.gPackage).toNat]).gInstances)[(o.gAt).toNat]).gAssoc.gKind))), .t (.leaf (.string ((((w.gPackages[(o.gPackage).toNat]).gInstances)[(o.gAt).toNat]).gAssoc.gName))), .t (.row 3 (GType.trs ((((w.gPackages[(o.gPackage).toNat]).gInstances)[(o.gAt).toNat]).gAssoc.gArgs))), .t (.row 11 (GMethod.trs ((((w.gPackages[(o.gPackage).toNat]).gInstances)[(o.gAt).toNat]).gMethods)))]) (ds := [.t (.leaf (.string ((((w.gPackages[(o.gPackage).toNat]).gInstances)[(o.gAt).toNat]).gTrait))), .t (.row 1 (strTrs ((((w.gPackages[(o.gPackage).toNat]).gInstances)[(o.gAt).toNat]).gVars))), .t (.leaf (.int .i64 ((((w.gPackages[(o.gPackage).toNat]).gInstances)[(o.gAt).toNat]).gHead.gKind))), .t (.leaf (.string ((((w.gPackages[(o.gPackage).toNat]).gInstances)[(o.gAt).toNat]).gHead.gName))), .t (.row 3 (GType.trs ((((w.gPackages[(o.gPackage).toNat]).gInstances)[(o.gAt).toNat]).gHead.gArgs))), .t (.row 4 (GBound.trs ((((w.gPackages[(o.gPackage).toNat]).gInstances)[(o.gAt).toNat]).gWhere))), .t (.leaf (.bool ((((w.gPackages[(o.gPackage).toNat]).gInstances)[(o.gAt).toNat]).gDefault))), .t (.leaf (.bool ((((w.gPackages[(o.gPackage).toNat]).gInstances)[(o.gAt).toNat]).gHasAssoc))), .t (.leaf (.int .i64 ((((w.gPackages[(o.gPackage).toNat]).gInstances)[(o.gAt).toNat]).gAssoc.gKind))), .t (.leaf (.string ((((w.gPackages[(o.gPackage).toNat]).gInstances)[(o.gAt).toNat]).gAssoc.gName))), .t (.row 3 (GType.trs ((((w.gPackages[(o.gPackage).toNat]).gInstances)[(o.gAt).toNat]).gAssoc.gArgs))), .t (.row 11 (GMethod.trs ((((w.gPackages[(o.gPackage).toNat]).gInstances)[(o.gAt).toNat]).gMethods)))]) rfl (hl 4 none _ (.head _) rfl) (by rw [hs]; rfl) (hl 40 (some 10) _ (.tail _ (.head _)) rfl) rfl rfl rfl sz113 (Nat.le_of_ble_eq_true rfl) rfl) ?_⟩
        first | (rw [hs]; rfl) | rfl
      · refine .inl ⟨rfl, fun s' j b (h1 : 1 ≤ j) (h2 : j ≤ 1) hs hl => ?_⟩
        obtain rfl : j = 1 := by omega
        exact ⟨_, rfl, AOp.move (.inr rfl) rfl rfl⟩
      refine AWP.ret ?_
      exact Ends.mk (ps := [_, _]) (.inr rfl) ⟨⟨_, _, _, rfl, rfl, sh113, rfl, rfl⟩, rfl, trivial⟩ rfl (StLe.mk' (st' := ⟨[], []⟩) trivial rfl) (keeps_nil hC) (q := (.tup [(GInstance.pv ((((w.gPackages[(o.gPackage).toNat]).gInstances)[(o.gAt).toNat]))), .t (.leaf (.bool (true)))] : PV)) (by (repeat' (first | exact PV.Le.refl _ | exact LeL.nil | exact PV.Le.nil _ | exact PV.Le.acc _ _ _ | apply LeL.cons | apply PV.Le.agg | apply PV.Le.tup))) rfl ⟨by exact optInst_some (instAt_hit (by omega) (by omega) (by omega) (by omega)), rfl⟩

end Go.Proofs.YtnakkelglbcecaaGreat
