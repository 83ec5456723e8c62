/- Words, rules and walks of several kinds, laid together: PmInst, PmK. No conditions but those that each theorem states. -/
import Derived.Test.YtnakkelglbcecaaGreatQh64859010
import Derived.Test.YtnakkelglbcecaaGreatQh2ecc459e
import Derived.Test.YtnakkelglbcecaaGreatQhacf58ee8
import Derived.Test.YtnakkelglbcecaaGreatQh122dace5
import Derived.Test.YtnakkelglbcecaaGreatQhb2f830cf
import Derived.Test.YtnakkelglbcecaaGreatQh3dd739bc
set_option linter.unusedSimpArgs false
set_option linter.unusedVariables false
namespace Go.Proofs.YtnakkelglbcecaaGreat
open Go.RowKit Go.Proofs
set_option linter.unusedSimpArgs false
set_option linter.unusedVariables false


def GProgram.instAt (w : GProgram) (o : GInstanceRef) : Option GInstance := if 0 ≤ o.gPackage ∧ 0 ≤ o.gAt then (w.gPackages[o.gPackage.toNat]?).bind (fun p => p.gInstances[o.gAt.toNat]?) else none
def GInstance.zero : GInstance := (.mk ⟨#[]⟩ [] (.mk 0 ⟨#[]⟩ []) [] false false (.mk 0 ⟨#[]⟩ []) [])
def oInst (o : Option GInstance) : GInstance := match o with | some x => x | none => GInstance.zero
abbrev optInst (o : Option GInstance) : PV := .tup [GInstance.pv (oInst o), .t (.leaf (.bool o.isSome))]
theorem optInst_some {o : Option GInstance} {x : GInstance} (h : o = some x) : PV.tup [GInstance.pv x, .t (.leaf (.bool true))] = optInst o := by rw [h]; rfl
theorem optInst_none {o : Option GInstance} (h : o = none) : PV.tup [GInstance.pv GInstance.zero, .t (.leaf (.bool false))] = optInst o := by rw [h]; rfl
theorem instAt_hit {w : GProgram} {o : GInstanceRef} (h0 : 0 ≤ o.gPackage) (h1 : 0 ≤ o.gAt) (hp : o.gPackage.toNat < w.gPackages.length) (hi : o.gAt.toNat < (w.gPackages[o.gPackage.toNat]).gInstances.length) : w.instAt o = some ((w.gPackages[o.gPackage.toNat]).gInstances[o.gAt.toNat]) := by
  simp [GProgram.instAt, h0, h1, List.getElem?_eq_getElem hp, List.getElem?_eq_getElem hi]
theorem instAt_m1 {w : GProgram} {o : GInstanceRef} (h : o.gPackage < 0 ∨ (w.gPackages.length : Int) ≤ o.gPackage) : w.instAt o = none := by
  unfold GProgram.instAt
  split
  · rw [List.getElem?_eq_none (by omega)]; rfl
  · rfl
theorem instAt_m2 {w : GProgram} {o : GInstanceRef} (hp : o.gPackage.toNat < w.gPackages.length) (h : o.gAt < 0 ∨ ((w.gPackages[o.gPackage.toNat]).gInstances.length : Int) ≤ o.gAt) : w.instAt o = none := by
  unfold GProgram.instAt
  split
  · rw [List.getElem?_eq_getElem hp, Option.bind_some, List.getElem?_eq_none (by omega)]
  · rfl

set_option maxRecDepth 100000 in
set_option maxHeartbeats 4000000 in
theorem in_ok (x : Int) (lo : Int) (hi : Int) : AFun Tryz.prog 137 [.t (.leaf (.int .i64 (x))), .t (.leaf (.int .i64 (lo))), .t (.leaf (.int .i64 (hi)))] (.t (.leaf (.bool (decide ((x : Int) ≥ lo) && decide ((x : Int) ≤ hi))))) := by
  refine ACalls.intro Tryz.func137 rfl (by first | decide | (simp; done) | (simp; decide)) ?_
  intro C hC
  refine AWP.seq ?_
  refine AWP.region_lit ?_
  refine AL.cons rfl (AOp.move (.inr rfl) rfl rfl) ?_
  refine AL.nil ?_
  refine AWP.seq ?_
  refine AWP.region_lit ?_
  refine AL.cons rfl (AOp.move (.inl rfl) rfl rfl) ?_
  refine AL.cons rfl (AOp.move (.inl rfl) rfl rfl) ?_
  refine AL.cons rfl (AOp.geq rfl rfl rfl rfl) ?_
  refine AL.cons rfl (AOp.move (.inl rfl) rfl rfl) ?_
  refine AL.splitB 10 rfl (fun g1 => ?_) (fun g1 => ?_)
  · skip
    have g1b := g1
    try simp only [Bool.and_eq_true, Bool.or_eq_true, Bool.and_eq_false_iff, Bool.or_eq_false_iff, decide_eq_true_eq, decide_eq_false_iff_not, Bool.not_eq_true', Bool.not_eq_false', Bool.not_eq_eq_eq_not, Bool.not_true, Bool.not_false, ge_iff_le, gt_iff_lt, Int.not_lt, Int.not_le] at g1b
    refine AL.cons_gv rfl rfl rfl g1 (AOp.move (.inl rfl) rfl rfl) ?_
    refine AL.cons_gv rfl rfl rfl g1 (AOp.move (.inl rfl) rfl rfl) ?_
    refine AL.cons_gv rfl rfl rfl g1 (AOp.leq rfl rfl rfl rfl) ?_
    refine AL.cons rfl (AOp.pickT rfl rfl rfl g1 rfl) ?_
    refine AL.cons rfl (AOp.move (.inr rfl) rfl rfl) ?_
    refine AL.nil ?_
    refine AWP.ret ?_
    exact Ends.mk (ps := [_]) (.inr rfl) ⟨rfl, trivial⟩ rfl (StLe.mk' (st' := ⟨[], []⟩) trivial rfl) (keeps_nil hC) (q := (.t (.leaf (.bool (decide ((x : Int) ≤ hi)))) : PV)) (by (repeat' (first | exact PV.Le.refl _ | exact LeL.nil | exact PV.Le.nil _ | exact PV.Le.acc _ _ _ | apply LeL.cons | apply PV.Le.agg | apply PV.Le.tup))) rfl ⟨by first | (simp_all; done) | (simp_all; omega), rfl⟩
  · skip
    have g1b := g1
    try simp only [Bool.and_eq_true, Bool.or_eq_true, Bool.and_eq_false_iff, Bool.or_eq_false_iff, decide_eq_true_eq, decide_eq_false_iff_not, Bool.not_eq_true', Bool.not_eq_false', Bool.not_eq_eq_eq_not, Bool.not_true, Bool.not_false, ge_iff_le, gt_iff_lt, Int.not_lt, Int.not_le] at g1b
    refine AL.skip_v rfl rfl rfl g1 rfl ?_
    refine AL.skip_v rfl rfl rfl g1 rfl ?_
    refine AL.skip_v rfl rfl rfl g1 rfl ?_
    refine AL.cons rfl (AOp.pickF rfl rfl rfl g1 rfl) ?_
    refine AL.cons rfl (AOp.move (.inr rfl) rfl rfl) ?_
    refine AL.nil ?_
    refine AWP.ret ?_
    exact Ends.mk (ps := [_]) (.inr rfl) ⟨rfl, trivial⟩ rfl (StLe.mk' (st' := ⟨[], []⟩) trivial rfl) (keeps_nil hC) (q := (.t (.leaf (.bool (false))) : PV)) (by (repeat' (first | exact PV.Le.refl _ | exact LeL.nil | exact PV.Le.nil _ | exact PV.Le.acc _ _ _ | apply LeL.cons | apply PV.Le.agg | apply PV.Le.tup))) rfl ⟨by first | (simp_all; done) | (simp_all; omega), rfl⟩

set_option maxRecDepth 100000 in
set_option maxHeartbeats 4000000 in
theorem inst_impl (w : GProgram) (o : GInstanceRef) : AFun Tryz.prog 81 [(GProgram.pv w), (GInstanceRef.pv o)] (.tup [(GInstance.pv (oInst (GProgram.instAt w o))), .t (.leaf (.bool ((GProgram.instAt w o).isSome)))]) := by
  refine ACalls.intro Tryz.func81 rfl (by first | decide | (simp; done) | (simp; decide)) ?_
  intro C hC
  refine AWP.seq ?_
  refine AWP.region_lit ?_
  refine AL.cons rfl (AOp.box (cs := [.t (.row 6 (GPackage.trs (w.gPackages)))]) rfl rfl rfl rfl rfl) ?_
  refine AL.cons rfl (AOp.box (cs := [.t (.leaf (.int .i64 (o.gPackage))), .t (.leaf (.int .i64 (o.gAt)))]) rfl rfl rfl rfl rfl) ?_
  refine AL.cons rfl (AOp.alloc rfl rfl zr113) ?_
  refine AL.cons rfl (AOp.move (.inr rfl) rfl rfl) ?_
  refine AL.nil ?_
  refine AWP.seq ?_
  refine AWP.seq ?_
  rcases bool2 (decide ((o.gPackage : Int) < 0)) with g1 | g1
  · skip
    have g1b := g1
    try simp only [Bool.and_eq_true, Bool.or_eq_true, Bool.and_eq_false_iff, Bool.or_eq_false_iff, decide_eq_true_eq, decide_eq_false_iff_not, Bool.not_eq_true', Bool.not_eq_false', Bool.not_eq_eq_eq_not, Bool.not_true, Bool.not_false, ge_iff_le, gt_iff_lt, Int.not_lt, Int.not_le] at g1b
    refine AWP.drawnL ⟨_, _, fun _ _ => (⟨[some ⟨31, [.t (.row 6 (GPackage.trs (w.gPackages)))]⟩, some ⟨33, [.t (.leaf (.int .i64 (o.gPackage))), .t (.leaf (.int .i64 (o.gAt)))]⟩, some ⟨113, [.t (.leaf (.string (⟨#[]⟩))), .nil, .t (.leaf (.int .i64 (0))), .t (.leaf (.string (⟨#[]⟩))), .nil, .nil, .t (.leaf (.bool (false))), .t (.leaf (.bool (false))), .t (.leaf (.int .i64 (0))), .t (.leaf (.string (⟨#[]⟩))), .nil, .nil]⟩], []⟩ : Sto), fun q' => ([some (.ptr 1 0), some (.t (.leaf (.int .i64 (o.gPackage)))), some (.t (.leaf (.bool (decide ((o.gPackage : Int) < 0))))), some (.t (.leaf (.bool (decide ((o.gPackage : Int) < 0))))), none, none, none, none, none, none, some (.t (.leaf (.bool (true)))), some (.t (.leaf (.bool (true)))), none, none, none, some (.t (.leaf (.bool (true)))), some (.t (.leaf (.bool (true)))), none, none, none, none, none, none, none, none, none, none, none, some (.t (.leaf (.bool (true))))] : List (Option PV)).getD q' none, fun q' => ([.q 0 0, .q 0 0, .q 0 0, .q 0 0, .q 0 0, .q 0 0, .q 0 0, .q 0 0, .q 0 0, .q 0 0, .q 0 0, .q 0 0, .q 0 0, .q 0 0, .q 0 0, .q 0 0, .q 0 0, .q 0 0, .q 0 0, .q 0 0, .q 0 0, .q 0 0, .q 0 0, .q 0 0, .q 0 0, .q 0 0, .q 0 0, .q 0 0, .q 0 0] : List DK).getD q' (.q 0 0), [], none, fun q' => ([[(3, none)], [(6, some 0)], [(7, some 1)], [(8, some 2)], [], [], [], [], [], [], [(9, some 3)], [(16, some 10)], [], [], [], [(17, some 11)], [(21, some 15)], [], [], [], [], [], [], [], [], [], [], [], [(22, some 16)]] : List (List (Nat × Option Nat))).getD q' []⟩ rfl mixed (by kernel_rfl) rfl rfl ⟨?_, ?_, ?_, ?_, ?_, ?_, ?_, ?_, ?_, ?_, ?_, ?_, ?_, ?_, ?_, ?_, ?_, ?_, ?_, ?_, ?_, ?_, ?_, ?_, ?_, ?_, ?_, ?_, ?_, trivial⟩ rfl ?_
    · refine .inl ⟨rfl, fun s' jj bb (h1 : 0 ≤ jj) (h2 : jj ≤ 0) hs hl => ?_⟩
      obtain rfl : jj = 0 := by omega
      exact ⟨_, rfl, AOp.fieldPtr (k := 1) (d := 0) (e := 0) rfl rfl (hl 3 none _ (.head _) rfl) fo33_0⟩
    · refine .inl ⟨rfl, fun s' jj bb (h1 : 0 ≤ jj) (h2 : jj ≤ 0) hs hl => ?_⟩
      obtain rfl : jj = 0 := by omega
      exact ⟨_, rfl, AOp.loadPtr1 rfl rfl (hl 6 (some 0) _ (.head _) rfl) (by rw [hs]; rfl) sh3 rfl⟩
    · refine .inl ⟨rfl, fun s' jj bb (h1 : 0 ≤ jj) (h2 : jj ≤ 0) hs hl => ?_⟩
      obtain rfl : jj = 0 := by omega
      exact ⟨_, rfl, AOp.lss rfl rfl (hl 7 (some 1) _ (.head _) rfl) rfl⟩
    · refine .inl ⟨rfl, fun s' jj bb (h1 : 0 ≤ jj) (h2 : jj ≤ 0) hs hl => ?_⟩
      obtain rfl : jj = 0 := by omega
      exact ⟨_, rfl, AOp.move (.inl rfl) rfl (hl 8 (some 2) _ (.head _) rfl)⟩
    · exact .inr ⟨(congrArg (fun b => some (b == false)) g1), rfl, ⟨_, _, rfl⟩, fun d hd => by cases hd; rfl⟩
    · exact .inr ⟨(congrArg (fun b => some (b == false)) g1), rfl, ⟨_, _, rfl⟩, fun d hd => by cases hd; rfl⟩
    · exact .inr ⟨(congrArg (fun b => some (b == false)) g1), rfl, ⟨_, _, rfl⟩, fun d hd => by cases hd; rfl⟩
    · exact .inr ⟨(congrArg (fun b => some (b == false)) g1), rfl, ⟨_, _, rfl⟩, fun d hd => by cases hd; rfl⟩
    · exact .inr ⟨(congrArg (fun b => some (b == false)) g1), rfl, ⟨_, _, rfl⟩, fun d hd => by cases hd; rfl⟩
    · exact .inr ⟨(congrArg (fun b => some (b == false)) g1), rfl, ⟨_, _, rfl⟩, fun d hd => by cases hd; rfl⟩
    · refine .inl ⟨rfl, fun s' jj bb (h1 : 0 ≤ jj) (h2 : jj ≤ 0) hs hl => ?_⟩
      obtain rfl : jj = 0 := by omega
      exact ⟨_, rfl, AOp.pickT rfl rfl (hl 9 (some 3) _ (.head _) rfl) g1 rfl⟩
    · refine .inl ⟨rfl, fun s' jj bb (h1 : 0 ≤ jj) (h2 : jj ≤ 0) hs hl => ?_⟩
      obtain rfl : jj = 0 := by omega
      exact ⟨_, rfl, AOp.move (.inl rfl) rfl (hl 16 (some 10) _ (.head _) rfl)⟩
    · exact .inr ⟨(congrArg (fun b => some (b == false)) (rfl : true = _)), rfl, ⟨_, _, rfl⟩, fun d hd => by cases hd; rfl⟩
    · exact .inr ⟨(congrArg (fun b => some (b == false)) (rfl : true = _)), rfl, ⟨_, _, rfl⟩, fun d hd => by cases hd; rfl⟩
    · exact .inr ⟨(congrArg (fun b => some (b == false)) (rfl : true = _)), rfl, ⟨_, _, rfl⟩, fun d hd => by cases hd; rfl⟩
    · refine .inl ⟨rfl, fun s' jj bb (h1 : 0 ≤ jj) (h2 : jj ≤ 0) hs hl => ?_⟩
      obtain rfl : jj = 0 := by omega
      exact ⟨_, rfl, AOp.pickT rfl rfl (hl 17 (some 11) _ (.head _) rfl) rfl rfl⟩
    · refine .inl ⟨rfl, fun s' jj bb (h1 : 0 ≤ jj) (h2 : jj ≤ 0) hs hl => ?_⟩
      obtain rfl : jj = 0 := by omega
      exact ⟨_, rfl, AOp.move (.inl rfl) rfl (hl 21 (some 15) _ (.head _) rfl)⟩
    · exact .inr ⟨(congrArg (fun b => some (b == false)) (rfl : true = _)), rfl, ⟨_, _, rfl⟩, fun d hd => by cases hd; rfl⟩
    · exact .inr ⟨(congrArg (fun b => some (b == false)) (rfl : true = _)), rfl, ⟨_, _, rfl⟩, fun d hd => by cases hd; rfl⟩
    · exact .inr ⟨(congrArg (fun b => some (b == false)) (rfl : true = _)), rfl, ⟨_, _, rfl⟩, fun d hd => by cases hd; rfl⟩
    · exact .inr ⟨(congrArg (fun b => some (b == false)) (rfl : true = _)), rfl, ⟨_, _, rfl⟩, fun d hd => by cases hd; rfl⟩
    · exact .inr ⟨(congrArg (fun b => some (b == false)) (rfl : true = _)), rfl, ⟨_, _, rfl⟩, fun d hd => by cases hd; rfl⟩
    · exact .inr ⟨(congrArg (fun b => some (b == false)) (rfl : true = _)), rfl, ⟨_, _, rfl⟩, fun d hd => by cases hd; rfl⟩
    · exact .inr ⟨(congrArg (fun b => some (b == false)) (rfl : true = _)), rfl, ⟨_, _, rfl⟩, fun d hd => by cases hd; rfl⟩
    · exact .inr ⟨(congrArg (fun b => some (b == false)) (rfl : true = _)), rfl, ⟨_, _, rfl⟩, fun d hd => by cases hd; rfl⟩
    · exact .inr ⟨(congrArg (fun b => some (b == false)) (rfl : true = _)), rfl, ⟨_, _, rfl⟩, fun d hd => by cases hd; rfl⟩
    · exact .inr ⟨(congrArg (fun b => some (b == false)) (rfl : true = _)), rfl, ⟨_, _, rfl⟩, fun d hd => by cases hd; rfl⟩
    · exact .inr ⟨(congrArg (fun b => some (b == false)) (rfl : true = _)), rfl, ⟨_, _, rfl⟩, fun d hd => by cases hd; rfl⟩
    · refine .inl ⟨rfl, fun s' jj bb (h1 : 0 ≤ jj) (h2 : jj ≤ 0) hs hl => ?_⟩
      obtain rfl : jj = 0 := by omega
      exact ⟨_, rfl, AOp.pickT rfl rfl (hl 22 (some 16) _ (.head _) rfl) rfl rfl⟩
    refine AWP.cond rfl (fun h2 => ?_) (fun h2 => ?_)
    · skip
      have h2b := h2
      try simp only [Bool.and_eq_true, Bool.or_eq_true, Bool.and_eq_false_iff, Bool.or_eq_false_iff, decide_eq_true_eq, decide_eq_false_iff_not, Bool.not_eq_true', Bool.not_eq_false', Bool.not_eq_eq_eq_not, Bool.not_true, Bool.not_false, ge_iff_le, gt_iff_lt, Int.not_lt, Int.not_le] at h2b
      refine AWP.seq ?_
      refine AWP.region_lit ?_
      refine AL.cons rfl (AOp.build rfl rfl zr113 pl113 rfl rfl) ?_
      refine AL.cons rfl (AOp.storePtr (cs := [.t (.leaf (.string (⟨#[]⟩))), .nil, .t (.leaf (.int .i64 (0))), .t (.leaf (.string (⟨#[]⟩))), .nil, .nil, .t (.leaf (.bool (false))), .t (.leaf (.bool (false))), .t (.leaf (.int .i64 (0))), .t (.leaf (.string (⟨#[]⟩))), .nil, .nil]) (ds := [.t (.leaf (.string (⟨#[]⟩))), .nil, .t (.leaf (.int .i64 (0))), .t (.leaf (.string (⟨#[]⟩))), .nil, .nil, .t (.leaf (.bool (false))), .t (.leaf (.bool (false))), .t (.leaf (.int .i64 (0))), .t (.leaf (.string (⟨#[]⟩))), .nil, .nil]) rfl rfl rfl rfl rfl rfl rfl sz113 (Nat.le_of_ble_eq_true rfl) rfl) ?_
      refine AL.cons rfl (AOp.move (.inr rfl) rfl rfl) ?_
      refine AL.nil ?_
      refine AWP.ret ?_
      exact Ends.mk (ps := [_, _]) (.inr rfl) ⟨⟨_, _, _, rfl, rfl, sh113, rfl, rfl⟩, rfl, trivial⟩ rfl (StLe.mk' (st' := ⟨[], []⟩) trivial rfl) (keeps_nil hC) (q := PV.tup [GInstance.pv GInstance.zero, .t (.leaf (.bool (false)))]) (by (repeat' (first | exact PV.Le.refl _ | exact LeL.nil | exact PV.Le.nil _ | exact PV.Le.acc _ _ _ | apply LeL.cons | apply PV.Le.agg | apply PV.Le.tup))) rfl ⟨by exact optInst_none (by first | exact instAt_m1 (by omega) | exact instAt_m2 (by omega) (by omega)), rfl⟩
    · skip
      exact absurd (h2.symm.trans rfl) (by decide)
  · skip
    have g1b := g1
    try simp only [Bool.and_eq_true, Bool.or_eq_true, Bool.and_eq_false_iff, Bool.or_eq_false_iff, decide_eq_true_eq, decide_eq_false_iff_not, Bool.not_eq_true', Bool.not_eq_false', Bool.not_eq_eq_eq_not, Bool.not_true, Bool.not_false, ge_iff_le, gt_iff_lt, Int.not_lt, Int.not_le] at g1b
    rcases bool2 (decide ((o.gPackage : Int) ≥ ((w.gPackages.length : Nat) : Int))) with g3 | g3
    · skip
      have g3b := g3
      try simp only [Bool.and_eq_true, Bool.or_eq_true, Bool.and_eq_false_iff, Bool.or_eq_false_iff, decide_eq_true_eq, decide_eq_false_iff_not, Bool.not_eq_true', Bool.not_eq_false', Bool.not_eq_eq_eq_not, Bool.not_true, Bool.not_false, ge_iff_le, gt_iff_lt, Int.not_lt, Int.not_le] at g3b
      refine AWP.drawnL ⟨_, _, fun _ _ => (⟨[some ⟨31, [.t (.row 6 (GPackage.trs (w.gPackages)))]⟩, some ⟨33, [.t (.leaf (.int .i64 (o.gPackage))), .t (.leaf (.int .i64 (o.gAt)))]⟩, some ⟨113, [.t (.leaf (.string (⟨#[]⟩))), .nil, .t (.leaf (.int .i64 (0))), .t (.leaf (.string (⟨#[]⟩))), .nil, .nil, .t (.leaf (.bool (false))), .t (.leaf (.bool (false))), .t (.leaf (.int .i64 (0))), .t (.leaf (.string (⟨#[]⟩))), .nil, .nil]⟩], []⟩ : Sto), fun q' => ([some (.ptr 1 0), some (.t (.leaf (.int .i64 (o.gPackage)))), some (.t (.leaf (.bool (decide ((o.gPackage : Int) < 0))))), some (.t (.leaf (.bool (decide ((o.gPackage : Int) < 0))))), some (.ptr 1 0), some (.t (.leaf (.int .i64 (o.gPackage)))), some (.ptr 0 0), some (.t (.row 6 (GPackage.trs (w.gPackages)))), some (.t (.leaf (.int .i64 (((w.gPackages.length : Nat) : Int))))), some (.t (.leaf (.bool (decide ((o.gPackage : Int) ≥ ((w.gPackages.length : Nat) : Int)))))), some (.t (.leaf (.bool (decide ((o.gPackage : Int) ≥ ((w.gPackages.length : Nat) : Int)))))), some (.t (.leaf (.bool (decide ((o.gPackage : Int) ≥ ((w.gPackages.length : Nat) : Int)))))), none, none, none, some (.t (.leaf (.bool (true)))), some (.t (.leaf (.bool (true)))), none, none, none, none, none, none, none, none, none, none, none, some (.t (.leaf (.bool (true))))] : List (Option PV)).getD q' none, fun q' => ([.q 0 0, .q 0 0, .q 0 0, .q 0 0, .q 0 0, .q 0 0, .q 0 0, .q 0 0, .q 0 0, .q 0 0, .q 0 0, .q 0 0, .q 0 0, .q 0 0, .q 0 0, .q 0 0, .q 0 0, .q 0 0, .q 0 0, .q 0 0, .q 0 0, .q 0 0, .q 0 0, .q 0 0, .q 0 0, .q 0 0, .q 0 0, .q 0 0, .q 0 0] : List DK).getD q' (.q 0 0), [], none, fun q' => ([[(3, none)], [(6, some 0)], [(7, some 1)], [(8, some 2)], [(3, none)], [(10, some 4)], [(2, none)], [(12, some 6)], [(13, some 7)], [(11, some 5), (14, some 8)], [(9, some 3), (15, some 9)], [(16, some 10)], [], [], [], [(17, some 11)], [(21, some 15)], [], [], [], [], [], [], [], [], [], [], [], [(22, some 16)]] : List (List (Nat × Option Nat))).getD q' []⟩ rfl mixed (by kernel_rfl) rfl rfl ⟨?_, ?_, ?_, ?_, ?_, ?_, ?_, ?_, ?_, ?_, ?_, ?_, ?_, ?_, ?_, ?_, ?_, ?_, ?_, ?_, ?_, ?_, ?_, ?_, ?_, ?_, ?_, ?_, ?_, trivial⟩ rfl ?_
      · refine .inl ⟨rfl, fun s' jj bb (h1 : 0 ≤ jj) (h2 : jj ≤ 0) hs hl => ?_⟩
        obtain rfl : jj = 0 := by omega
        exact ⟨_, rfl, AOp.fieldPtr (k := 1) (d := 0) (e := 0) rfl rfl (hl 3 none _ (.head _) rfl) fo33_0⟩
      · refine .inl ⟨rfl, fun s' jj bb (h1 : 0 ≤ jj) (h2 : jj ≤ 0) hs hl => ?_⟩
        obtain rfl : jj = 0 := by omega
        exact ⟨_, rfl, AOp.loadPtr1 rfl rfl (hl 6 (some 0) _ (.head _) rfl) (by rw [hs]; rfl) sh3 rfl⟩
      · refine .inl ⟨rfl, fun s' jj bb (h1 : 0 ≤ jj) (h2 : jj ≤ 0) hs hl => ?_⟩
        obtain rfl : jj = 0 := by omega
        exact ⟨_, rfl, AOp.lss rfl rfl (hl 7 (some 1) _ (.head _) rfl) rfl⟩
      · refine .inl ⟨rfl, fun s' jj bb (h1 : 0 ≤ jj) (h2 : jj ≤ 0) hs hl => ?_⟩
        obtain rfl : jj = 0 := by omega
        exact ⟨_, rfl, AOp.move (.inl rfl) rfl (hl 8 (some 2) _ (.head _) rfl)⟩
      · refine .inl ⟨(congrArg (fun b => some (b == false)) g1), fun s' jj bb (h1 : 0 ≤ jj) (h2 : jj ≤ 0) hs hl => ?_⟩
        obtain rfl : jj = 0 := by omega
        exact ⟨_, rfl, AOp.fieldPtr (k := 1) (d := 0) (e := 0) rfl rfl (hl 3 none _ (.head _) rfl) fo33_0⟩
      · refine .inl ⟨(congrArg (fun b => some (b == false)) g1), fun s' jj bb (h1 : 0 ≤ jj) (h2 : jj ≤ 0) hs hl => ?_⟩
        obtain rfl : jj = 0 := by omega
        exact ⟨_, rfl, AOp.loadPtr1 rfl rfl (hl 10 (some 4) _ (.head _) rfl) (by rw [hs]; rfl) sh3 rfl⟩
      · refine .inl ⟨(congrArg (fun b => some (b == false)) g1), fun s' jj bb (h1 : 0 ≤ jj) (h2 : jj ≤ 0) hs hl => ?_⟩
        obtain rfl : jj = 0 := by omega
        exact ⟨_, rfl, AOp.fieldPtr (k := 0) (d := 0) (e := 0) rfl rfl (hl 2 none _ (.head _) rfl) fo31_0⟩
      · refine .inl ⟨(congrArg (fun b => some (b == false)) g1), fun s' jj bb (h1 : 0 ≤ jj) (h2 : jj ≤ 0) hs hl => ?_⟩
        obtain rfl : jj = 0 := by omega
        exact ⟨_, rfl, AOp.loadPtr1 rfl rfl (hl 12 (some 6) _ (.head _) rfl) (by rw [hs]; rfl) sh29 rfl⟩
      · refine .inl ⟨(congrArg (fun b => some (b == false)) g1), fun s' jj bb (h1 : 0 ≤ jj) (h2 : jj ≤ 0) hs hl => ?_⟩
        obtain rfl : jj = 0 := by omega
        exact ⟨_, rfl, AOp.lenN rfl rfl (hl 13 (some 7) _ (.head _) rfl) rfl el29 (GPackage.trs_len _)⟩
      · refine .inl ⟨(congrArg (fun b => some (b == false)) g1), fun s' jj bb (h1 : 0 ≤ jj) (h2 : jj ≤ 0) hs hl => ?_⟩
        obtain rfl : jj = 0 := by omega
        exact ⟨_, rfl, AOp.geq rfl rfl (hl 11 (some 5) _ (.head _) rfl) (hl 14 (some 8) _ (.tail _ (.head _)) rfl)⟩
      · refine .inl ⟨rfl, fun s' jj bb (h1 : 0 ≤ jj) (h2 : jj ≤ 0) hs hl => ?_⟩
        obtain rfl : jj = 0 := by omega
        exact ⟨_, rfl, AOp.pickF rfl rfl (hl 9 (some 3) _ (.head _) rfl) g1 (hl 15 (some 9) _ (.tail _ (.head _)) rfl)⟩
      · refine .inl ⟨rfl, fun s' jj bb (h1 : 0 ≤ jj) (h2 : jj ≤ 0) hs hl => ?_⟩
        obtain rfl : jj = 0 := by omega
        exact ⟨_, rfl, AOp.move (.inl rfl) rfl (hl 16 (some 10) _ (.head _) rfl)⟩
      · exact .inr ⟨(congrArg (fun b => some (b == false)) g3), rfl, ⟨_, _, rfl⟩, fun d hd => by cases hd; rfl⟩
      · exact .inr ⟨(congrArg (fun b => some (b == false)) g3), rfl, ⟨_, _, rfl⟩, fun d hd => by cases hd; rfl⟩
      · exact .inr ⟨(congrArg (fun b => some (b == false)) g3), rfl, ⟨_, _, rfl⟩, fun d hd => by cases hd; rfl⟩
      · refine .inl ⟨rfl, fun s' jj bb (h1 : 0 ≤ jj) (h2 : jj ≤ 0) hs hl => ?_⟩
        obtain rfl : jj = 0 := by omega
        exact ⟨_, rfl, AOp.pickT rfl rfl (hl 17 (some 11) _ (.head _) rfl) g3 rfl⟩
      · refine .inl ⟨rfl, fun s' jj bb (h1 : 0 ≤ jj) (h2 : jj ≤ 0) hs hl => ?_⟩
        obtain rfl : jj = 0 := by omega
        exact ⟨_, rfl, AOp.move (.inl rfl) rfl (hl 21 (some 15) _ (.head _) rfl)⟩
      · exact .inr ⟨(congrArg (fun b => some (b == false)) (rfl : true = _)), rfl, ⟨_, _, rfl⟩, fun d hd => by cases hd; rfl⟩
      · exact .inr ⟨(congrArg (fun b => some (b == false)) (rfl : true = _)), rfl, ⟨_, _, rfl⟩, fun d hd => by cases hd; rfl⟩
      · exact .inr ⟨(congrArg (fun b => some (b == false)) (rfl : true = _)), rfl, ⟨_, _, rfl⟩, fun d hd => by cases hd; rfl⟩
      · exact .inr ⟨(congrArg (fun b => some (b == false)) (rfl : true = _)), rfl, ⟨_, _, rfl⟩, fun d hd => by cases hd; rfl⟩
      · exact .inr ⟨(congrArg (fun b => some (b == false)) (rfl : true = _)), rfl, ⟨_, _, rfl⟩, fun d hd => by cases hd; rfl⟩
      · exact .inr ⟨(congrArg (fun b => some (b == false)) (rfl : true = _)), rfl, ⟨_, _, rfl⟩, fun d hd => by cases hd; rfl⟩
      · exact .inr ⟨(congrArg (fun b => some (b == false)) (rfl : true = _)), rfl, ⟨_, _, rfl⟩, fun d hd => by cases hd; rfl⟩
      · exact .inr ⟨(congrArg (fun b => some (b == false)) (rfl : true = _)), rfl, ⟨_, _, rfl⟩, fun d hd => by cases hd; rfl⟩
      · exact .inr ⟨(congrArg (fun b => some (b == false)) (rfl : true = _)), rfl, ⟨_, _, rfl⟩, fun d hd => by cases hd; rfl⟩
      · exact .inr ⟨(congrArg (fun b => some (b == false)) (rfl : true = _)), rfl, ⟨_, _, rfl⟩, fun d hd => by cases hd; rfl⟩
      · exact .inr ⟨(congrArg (fun b => some (b == false)) (rfl : true = _)), rfl, ⟨_, _, rfl⟩, fun d hd => by cases hd; rfl⟩
      · refine .inl ⟨rfl, fun s' jj bb (h1 : 0 ≤ jj) (h2 : jj ≤ 0) hs hl => ?_⟩
        obtain rfl : jj = 0 := by omega
        exact ⟨_, rfl, AOp.pickT rfl rfl (hl 22 (some 16) _ (.head _) rfl) rfl rfl⟩
      refine AWP.cond rfl (fun h4 => ?_) (fun h4 => ?_)
      · skip
        have h4b := h4
        try simp only [Bool.and_eq_true, Bool.or_eq_true, Bool.and_eq_false_iff, Bool.or_eq_false_iff, decide_eq_true_eq, decide_eq_false_iff_not, Bool.not_eq_true', Bool.not_eq_false', Bool.not_eq_eq_eq_not, Bool.not_true, Bool.not_false, ge_iff_le, gt_iff_lt, Int.not_lt, Int.not_le] at h4b
        refine AWP.seq ?_
        refine AWP.region_lit ?_
        refine AL.cons rfl (AOp.build rfl rfl zr113 pl113 rfl rfl) ?_
        refine AL.cons rfl (AOp.storePtr (cs := [.t (.leaf (.string (⟨#[]⟩))), .nil, .t (.leaf (.int .i64 (0))), .t (.leaf (.string (⟨#[]⟩))), .nil, .nil, .t (.leaf (.bool (false))), .t (.leaf (.bool (false))), .t (.leaf (.int .i64 (0))), .t (.leaf (.string (⟨#[]⟩))), .nil, .nil]) (ds := [.t (.leaf (.string (⟨#[]⟩))), .nil, .t (.leaf (.int .i64 (0))), .t (.leaf (.string (⟨#[]⟩))), .nil, .nil, .t (.leaf (.bool (false))), .t (.leaf (.bool (false))), .t (.leaf (.int .i64 (0))), .t (.leaf (.string (⟨#[]⟩))), .nil, .nil]) rfl rfl rfl rfl rfl rfl rfl sz113 (Nat.le_of_ble_eq_true rfl) rfl) ?_
        refine AL.cons rfl (AOp.move (.inr rfl) rfl rfl) ?_
        refine AL.nil ?_
        refine AWP.ret ?_
        exact Ends.mk (ps := [_, _]) (.inr rfl) ⟨⟨_, _, _, rfl, rfl, sh113, rfl, rfl⟩, rfl, trivial⟩ rfl (StLe.mk' (st' := ⟨[], []⟩) trivial rfl) (keeps_nil hC) (q := PV.tup [GInstance.pv GInstance.zero, .t (.leaf (.bool (false)))]) (by (repeat' (first | exact PV.Le.refl _ | exact LeL.nil | exact PV.Le.nil _ | exact PV.Le.acc _ _ _ | apply LeL.cons | apply PV.Le.agg | apply PV.Le.tup))) rfl ⟨by exact optInst_none (by first | exact instAt_m1 (by omega) | exact instAt_m2 (by omega) (by omega)), rfl⟩
      · skip
        exact absurd (h4.symm.trans rfl) (by decide)
    · skip
      have g3b := g3
      try simp only [Bool.and_eq_true, Bool.or_eq_true, Bool.and_eq_false_iff, Bool.or_eq_false_iff, decide_eq_true_eq, decide_eq_false_iff_not, Bool.not_eq_true', Bool.not_eq_false', Bool.not_eq_eq_eq_not, Bool.not_true, Bool.not_false, ge_iff_le, gt_iff_lt, Int.not_lt, Int.not_le] at g3b
      rcases bool2 (decide ((o.gAt : Int) < 0)) with g5 | g5
      · skip
        have g5b := g5
        try simp only [Bool.and_eq_true, Bool.or_eq_true, Bool.and_eq_false_iff, Bool.or_eq_false_iff, decide_eq_true_eq, decide_eq_false_iff_not, Bool.not_eq_true', Bool.not_eq_false', Bool.not_eq_eq_eq_not, Bool.not_true, Bool.not_false, ge_iff_le, gt_iff_lt, Int.not_lt, Int.not_le] at g5b
        refine AWP.drawnL ⟨_, _, fun _ _ => (⟨[some ⟨31, [.t (.row 6 (GPackage.trs (w.gPackages)))]⟩, some ⟨33, [.t (.leaf (.int .i64 (o.gPackage))), .t (.leaf (.int .i64 (o.gAt)))]⟩, some ⟨113, [.t (.leaf (.string (⟨#[]⟩))), .nil, .t (.leaf (.int .i64 (0))), .t (.leaf (.string (⟨#[]⟩))), .nil, .nil, .t (.leaf (.bool (false))), .t (.leaf (.bool (false))), .t (.leaf (.int .i64 (0))), .t (.leaf (.string (⟨#[]⟩))), .nil, .nil]⟩], []⟩ : Sto), fun q' => ([some (.ptr 1 0), some (.t (.leaf (.int .i64 (o.gPackage)))), some (.t (.leaf (.bool (decide ((o.gPackage : Int) < 0))))), some (.t (.leaf (.bool (decide ((o.gPackage : Int) < 0))))), some (.ptr 1 0), some (.t (.leaf (.int .i64 (o.gPackage)))), some (.ptr 0 0), some (.t (.row 6 (GPackage.trs (w.gPackages)))), some (.t (.leaf (.int .i64 (((w.gPackages.length : Nat) : Int))))), some (.t (.leaf (.bool (decide ((o.gPackage : Int) ≥ ((w.gPackages.length : Nat) : Int)))))), some (.t (.leaf (.bool (decide ((o.gPackage : Int) ≥ ((w.gPackages.length : Nat) : Int)))))), some (.t (.leaf (.bool (decide ((o.gPackage : Int) ≥ ((w.gPackages.length : Nat) : Int)))))), some (.ptr 1 1), some (.t (.leaf (.int .i64 (o.gAt)))), some (.t (.leaf (.bool (decide ((o.gAt : Int) < 0))))), some (.t (.leaf (.bool (decide ((o.gAt : Int) < 0))))), some (.t (.leaf (.bool (decide ((o.gAt : Int) < 0))))), none, none, none, none, none, none, none, none, none, none, none, some (.t (.leaf (.bool (true))))] : List (Option PV)).getD q' none, fun q' => ([.q 0 0, .q 0 0, .q 0 0, .q 0 0, .q 0 0, .q 0 0, .q 0 0, .q 0 0, .q 0 0, .q 0 0, .q 0 0, .q 0 0, .q 0 0, .q 0 0, .q 0 0, .q 0 0, .q 0 0, .q 0 0, .q 0 0, .q 0 0, .q 0 0, .q 0 0, .q 0 0, .q 0 0, .q 0 0, .q 0 0, .q 0 0, .q 0 0, .q 0 0] : List DK).getD q' (.q 0 0), [], none, fun q' => ([[(3, none)], [(6, some 0)], [(7, some 1)], [(8, some 2)], [(3, none)], [(10, some 4)], [(2, none)], [(12, some 6)], [(13, some 7)], [(11, some 5), (14, some 8)], [(9, some 3), (15, some 9)], [(16, some 10)], [(3, none)], [(18, some 12)], [(19, some 13)], [(17, some 11), (20, some 14)], [(21, some 15)], [], [], [], [], [], [], [], [], [], [], [], [(22, some 16)]] : List (List (Nat × Option Nat))).getD q' []⟩ rfl mixed (by kernel_rfl) rfl rfl ⟨?_, ?_, ?_, ?_, ?_, ?_, ?_, ?_, ?_, ?_, ?_, ?_, ?_, ?_, ?_, ?_, ?_, ?_, ?_, ?_, ?_, ?_, ?_, ?_, ?_, ?_, ?_, ?_, ?_, trivial⟩ rfl ?_
        · refine .inl ⟨rfl, fun s' jj bb (h1 : 0 ≤ jj) (h2 : jj ≤ 0) hs hl => ?_⟩
          obtain rfl : jj = 0 := by omega
          exact ⟨_, rfl, AOp.fieldPtr (k := 1) (d := 0) (e := 0) rfl rfl (hl 3 none _ (.head _) rfl) fo33_0⟩
        · refine .inl ⟨rfl, fun s' jj bb (h1 : 0 ≤ jj) (h2 : jj ≤ 0) hs hl => ?_⟩
          obtain rfl : jj = 0 := by omega
          exact ⟨_, rfl, AOp.loadPtr1 rfl rfl (hl 6 (some 0) _ (.head _) rfl) (by rw [hs]; rfl) sh3 rfl⟩
        · refine .inl ⟨rfl, fun s' jj bb (h1 : 0 ≤ jj) (h2 : jj ≤ 0) hs hl => ?_⟩
          obtain rfl : jj = 0 := by omega
          exact ⟨_, rfl, AOp.lss rfl rfl (hl 7 (some 1) _ (.head _) rfl) rfl⟩
        · refine .inl ⟨rfl, fun s' jj bb (h1 : 0 ≤ jj) (h2 : jj ≤ 0) hs hl => ?_⟩
          obtain rfl : jj = 0 := by omega
          exact ⟨_, rfl, AOp.move (.inl rfl) rfl (hl 8 (some 2) _ (.head _) rfl)⟩
        · refine .inl ⟨(congrArg (fun b => some (b == false)) g1), fun s' jj bb (h1 : 0 ≤ jj) (h2 : jj ≤ 0) hs hl => ?_⟩
          obtain rfl : jj = 0 := by omega
          exact ⟨_, rfl, AOp.fieldPtr (k := 1) (d := 0) (e := 0) rfl rfl (hl 3 none _ (.head _) rfl) fo33_0⟩
        · refine .inl ⟨(congrArg (fun b => some (b == false)) g1), fun s' jj bb (h1 : 0 ≤ jj) (h2 : jj ≤ 0) hs hl => ?_⟩
          obtain rfl : jj = 0 := by omega
          exact ⟨_, rfl, AOp.loadPtr1 rfl rfl (hl 10 (some 4) _ (.head _) rfl) (by rw [hs]; rfl) sh3 rfl⟩
        · refine .inl ⟨(congrArg (fun b => some (b == false)) g1), fun s' jj bb (h1 : 0 ≤ jj) (h2 : jj ≤ 0) hs hl => ?_⟩
          obtain rfl : jj = 0 := by omega
          exact ⟨_, rfl, AOp.fieldPtr (k := 0) (d := 0) (e := 0) rfl rfl (hl 2 none _ (.head _) rfl) fo31_0⟩
        · refine .inl ⟨(congrArg (fun b => some (b == false)) g1), fun s' jj bb (h1 : 0 ≤ jj) (h2 : jj ≤ 0) hs hl => ?_⟩
          obtain rfl : jj = 0 := by omega
          exact ⟨_, rfl, AOp.loadPtr1 rfl rfl (hl 12 (some 6) _ (.head _) rfl) (by rw [hs]; rfl) sh29 rfl⟩
        · refine .inl ⟨(congrArg (fun b => some (b == false)) g1), fun s' jj bb (h1 : 0 ≤ jj) (h2 : jj ≤ 0) hs hl => ?_⟩
          obtain rfl : jj = 0 := by omega
          exact ⟨_, rfl, AOp.lenN rfl rfl (hl 13 (some 7) _ (.head _) rfl) rfl el29 (GPackage.trs_len _)⟩
        · refine .inl ⟨(congrArg (fun b => some (b == false)) g1), fun s' jj bb (h1 : 0 ≤ jj) (h2 : jj ≤ 0) hs hl => ?_⟩
          obtain rfl : jj = 0 := by omega
          exact ⟨_, rfl, AOp.geq rfl rfl (hl 11 (some 5) _ (.head _) rfl) (hl 14 (some 8) _ (.tail _ (.head _)) rfl)⟩
        · refine .inl ⟨rfl, fun s' jj bb (h1 : 0 ≤ jj) (h2 : jj ≤ 0) hs hl => ?_⟩
          obtain rfl : jj = 0 := by omega
          exact ⟨_, rfl, AOp.pickF rfl rfl (hl 9 (some 3) _ (.head _) rfl) g1 (hl 15 (some 9) _ (.tail _ (.head _)) rfl)⟩
        · refine .inl ⟨rfl, fun s' jj bb (h1 : 0 ≤ jj) (h2 : jj ≤ 0) hs hl => ?_⟩
          obtain rfl : jj = 0 := by omega
          exact ⟨_, rfl, AOp.move (.inl rfl) rfl (hl 16 (some 10) _ (.head _) rfl)⟩
        · refine .inl ⟨(congrArg (fun b => some (b == false)) g3), fun s' jj bb (h1 : 0 ≤ jj) (h2 : jj ≤ 0) hs hl => ?_⟩
          obtain rfl : jj = 0 := by omega
          exact ⟨_, rfl, AOp.fieldPtr (k := 1) (d := 0) (e := 1) rfl rfl (hl 3 none _ (.head _) rfl) fo33_1⟩
        · refine .inl ⟨(congrArg (fun b => some (b == false)) g3), fun s' jj bb (h1 : 0 ≤ jj) (h2 : jj ≤ 0) hs hl => ?_⟩
          obtain rfl : jj = 0 := by omega
          exact ⟨_, rfl, AOp.loadPtr1 rfl rfl (hl 18 (some 12) _ (.head _) rfl) (by rw [hs]; rfl) sh3 rfl⟩
        · refine .inl ⟨(congrArg (fun b => some (b == false)) g3), fun s' jj bb (h1 : 0 ≤ jj) (h2 : jj ≤ 0) hs hl => ?_⟩
          obtain rfl : jj = 0 := by omega
          exact ⟨_, rfl, AOp.lss rfl rfl (hl 19 (some 13) _ (.head _) rfl) rfl⟩
        · refine .inl ⟨rfl, fun s' jj bb (h1 : 0 ≤ jj) (h2 : jj ≤ 0) hs hl => ?_⟩
          obtain rfl : jj = 0 := by omega
          exact ⟨_, rfl, AOp.pickF rfl rfl (hl 17 (some 11) _ (.head _) rfl) g3 (hl 20 (some 14) _ (.tail _ (.head _)) rfl)⟩
        · refine .inl ⟨rfl, fun s' jj bb (h1 : 0 ≤ jj) (h2 : jj ≤ 0) hs hl => ?_⟩
          obtain rfl : jj = 0 := by omega
          exact ⟨_, rfl, AOp.move (.inl rfl) rfl (hl 21 (some 15) _ (.head _) rfl)⟩
        · exact .inr ⟨(congrArg (fun b => some (b == false)) g5), rfl, ⟨_, _, rfl⟩, fun d hd => by cases hd; rfl⟩
        · exact .inr ⟨(congrArg (fun b => some (b == false)) g5), rfl, ⟨_, _, rfl⟩, fun d hd => by cases hd; rfl⟩
        · exact .inr ⟨(congrArg (fun b => some (b == false)) g5), rfl, ⟨_, _, rfl⟩, fun d hd => by cases hd; rfl⟩
        · exact .inr ⟨(congrArg (fun b => some (b == false)) g5), rfl, ⟨_, _, rfl⟩, fun d hd => by cases hd; rfl⟩
        · exact .inr ⟨(congrArg (fun b => some (b == false)) g5), rfl, ⟨_, _, rfl⟩, fun d hd => by cases hd; rfl⟩
        · exact .inr ⟨(congrArg (fun b => some (b == false)) g5), rfl, ⟨_, _, rfl⟩, fun d hd => by cases hd; rfl⟩
        · exact .inr ⟨(congrArg (fun b => some (b == false)) g5), rfl, ⟨_, _, rfl⟩, fun d hd => by cases hd; rfl⟩
        · exact .inr ⟨(congrArg (fun b => some (b == false)) g5), rfl, ⟨_, _, rfl⟩, fun d hd => by cases hd; rfl⟩
        · exact .inr ⟨(congrArg (fun b => some (b == false)) g5), rfl, ⟨_, _, rfl⟩, fun d hd => by cases hd; rfl⟩
        · exact .inr ⟨(congrArg (fun b => some (b == false)) g5), rfl, ⟨_, _, rfl⟩, fun d hd => by cases hd; rfl⟩
        · exact .inr ⟨(congrArg (fun b => some (b == false)) g5), rfl, ⟨_, _, rfl⟩, fun d hd => by cases hd; rfl⟩
        · refine .inl ⟨rfl, fun s' jj bb (h1 : 0 ≤ jj) (h2 : jj ≤ 0) hs hl => ?_⟩
          obtain rfl : jj = 0 := by omega
          exact ⟨_, rfl, AOp.pickT rfl rfl (hl 22 (some 16) _ (.head _) rfl) g5 rfl⟩
        refine AWP.cond rfl (fun h6 => ?_) (fun h6 => ?_)
        · skip
          have h6b := h6
          try simp only [Bool.and_eq_true, Bool.or_eq_true, Bool.and_eq_false_iff, Bool.or_eq_false_iff, decide_eq_true_eq, decide_eq_false_iff_not, Bool.not_eq_true', Bool.not_eq_false', Bool.not_eq_eq_eq_not, Bool.not_true, Bool.not_false, ge_iff_le, gt_iff_lt, Int.not_lt, Int.not_le] at h6b
          refine AWP.seq ?_
          refine AWP.region_lit ?_
          refine AL.cons rfl (AOp.build rfl rfl zr113 pl113 rfl rfl) ?_
          refine AL.cons rfl (AOp.storePtr (cs := [.t (.leaf (.string (⟨#[]⟩))), .nil, .t (.leaf (.int .i64 (0))), .t (.leaf (.string (⟨#[]⟩))), .nil, .nil, .t (.leaf (.bool (false))), .t (.leaf (.bool (false))), .t (.leaf (.int .i64 (0))), .t (.leaf (.string (⟨#[]⟩))), .nil, .nil]) (ds := [.t (.leaf (.string (⟨#[]⟩))), .nil, .t (.leaf (.int .i64 (0))), .t (.leaf (.string (⟨#[]⟩))), .nil, .nil, .t (.leaf (.bool (false))), .t (.leaf (.bool (false))), .t (.leaf (.int .i64 (0))), .t (.leaf (.string (⟨#[]⟩))), .nil, .nil]) rfl rfl rfl rfl rfl rfl rfl sz113 (Nat.le_of_ble_eq_true rfl) rfl) ?_
          refine AL.cons rfl (AOp.move (.inr rfl) rfl rfl) ?_
          refine AL.nil ?_
          refine AWP.ret ?_
          exact Ends.mk (ps := [_, _]) (.inr rfl) ⟨⟨_, _, _, rfl, rfl, sh113, rfl, rfl⟩, rfl, trivial⟩ rfl (StLe.mk' (st' := ⟨[], []⟩) trivial rfl) (keeps_nil hC) (q := PV.tup [GInstance.pv GInstance.zero, .t (.leaf (.bool (false)))]) (by (repeat' (first | exact PV.Le.refl _ | exact LeL.nil | exact PV.Le.nil _ | exact PV.Le.acc _ _ _ | apply LeL.cons | apply PV.Le.agg | apply PV.Le.tup))) rfl ⟨by exact optInst_none (by first | exact instAt_m1 (by omega) | exact instAt_m2 (by omega) (by omega)), rfl⟩
        · skip
          exact absurd (h6.symm.trans rfl) (by decide)
      · skip
        have g5b := g5
        try simp only [Bool.and_eq_true, Bool.or_eq_true, Bool.and_eq_false_iff, Bool.or_eq_false_iff, decide_eq_true_eq, decide_eq_false_iff_not, Bool.not_eq_true', Bool.not_eq_false', Bool.not_eq_eq_eq_not, Bool.not_true, Bool.not_false, ge_iff_le, gt_iff_lt, Int.not_lt, Int.not_le] at g5b
        have hn7 : (o.gPackage).toNat < w.gPackages.length := by omega
        refine AWP.drawnL ⟨_, _, fun _ _ => (⟨[some ⟨31, [.t (.row 6 (GPackage.trs (w.gPackages)))]⟩, some ⟨33, [.t (.leaf (.int .i64 (o.gPackage))), .t (.leaf (.int .i64 (o.gAt)))]⟩, some ⟨113, [.t (.leaf (.string (⟨#[]⟩))), .nil, .t (.leaf (.int .i64 (0))), .t (.leaf (.string (⟨#[]⟩))), .nil, .nil, .t (.leaf (.bool (false))), .t (.leaf (.bool (false))), .t (.leaf (.int .i64 (0))), .t (.leaf (.string (⟨#[]⟩))), .nil, .nil]⟩], []⟩ : Sto), fun q' => ([some (.ptr 1 0), some (.t (.leaf (.int .i64 (o.gPackage)))), some (.t (.leaf (.bool (decide ((o.gPackage : Int) < 0))))), some (.t (.leaf (.bool (decide ((o.gPackage : Int) < 0))))), some (.ptr 1 0), some (.t (.leaf (.int .i64 (o.gPackage)))), some (.ptr 0 0), some (.t (.row 6 (GPackage.trs (w.gPackages)))), some (.t (.leaf (.int .i64 (((w.gPackages.length : Nat) : Int))))), some (.t (.leaf (.bool (decide ((o.gPackage : Int) ≥ ((w.gPackages.length : Nat) : Int)))))), some (.t (.leaf (.bool (decide ((o.gPackage : Int) ≥ ((w.gPackages.length : Nat) : Int)))))), some (.t (.leaf (.bool (decide ((o.gPackage : Int) ≥ ((w.gPackages.length : Nat) : Int)))))), some (.ptr 1 1), some (.t (.leaf (.int .i64 (o.gAt)))), some (.t (.leaf (.bool (decide ((o.gAt : Int) < 0))))), some (.t (.leaf (.bool (decide ((o.gAt : Int) < 0))))), some (.t (.leaf (.bool (decide ((o.gAt : Int) < 0))))), some (.ptr 1 1), some (.t (.leaf (.int .i64 (o.gAt)))), some (.ptr 0 0), some (.t (.row 6 (GPackage.trs (w.gPackages)))), some (.ptr 1 0), some (.t (.leaf (.int .i64 (o.gPackage)))), some (.eptr (GPackage.cs (w.gPackages[(o.gPackage).toNat]))), some (.eptr ((GPackage.cs (w.gPackages[(o.gPackage).toNat])).drop 4)), some (.t (.row 12 (GInstance.trs ((w.gPackages[(o.gPackage).toNat]).gInstances)))), some (.t (.leaf (.int .i64 (((((w.gPackages[(o.gPackage).toNat]).gInstances).length : Nat) : Int))))), some (.t (.leaf (.bool (decide ((o.gAt : Int) ≥ ((((w.gPackages[(o.gPackage).toNat]).gInstances).length : Nat) : Int)))))), some (.t (.leaf (.bool (decide ((o.gAt : Int) ≥ ((((w.gPackages[(o.gPackage).toNat]).gInstances).length : Nat) : Int))))))] : List (Option PV)).getD q' none, fun q' => ([.q 0 0, .q 0 0, .q 0 0, .q 0 0, .q 0 0, .q 0 0, .q 0 0, .q 0 0, .q 0 0, .q 0 0, .q 0 0, .q 0 0, .q 0 0, .q 0 0, .q 0 0, .q 0 0, .q 0 0, .q 0 0, .q 0 0, .q 0 0, .q 0 0, .q 0 0, .q 0 0, .q 0 0, .q 0 0, .q 0 0, .q 0 0, .q 0 0, .q 0 0] : List DK).getD q' (.q 0 0), [], none, fun q' => ([[(3, none)], [(6, some 0)], [(7, some 1)], [(8, some 2)], [(3, none)], [(10, some 4)], [(2, none)], [(12, some 6)], [(13, some 7)], [(11, some 5), (14, some 8)], [(9, some 3), (15, some 9)], [(16, some 10)], [(3, none)], [(18, some 12)], [(19, some 13)], [(17, some 11), (20, some 14)], [(21, some 15)], [(3, none)], [(23, some 17)], [(2, none)], [(25, some 19)], [(3, none)], [(27, some 21)], [(26, some 20), (28, some 22)], [(29, some 23)], [(30, some 24)], [(31, some 25)], [(24, some 18), (32, some 26)], [(22, some 16), (33, some 27)]] : List (List (Nat × Option Nat))).getD q' []⟩ rfl mixed (by kernel_rfl) rfl rfl ⟨?_, ?_, ?_, ?_, ?_, ?_, ?_, ?_, ?_, ?_, ?_, ?_, ?_, ?_, ?_, ?_, ?_, ?_, ?_, ?_, ?_, ?_, ?_, ?_, ?_, ?_, ?_, ?_, ?_, trivial⟩ rfl ?_
        · refine .inl ⟨rfl, fun s' jj bb (h1 : 0 ≤ jj) (h2 : jj ≤ 0) hs hl => ?_⟩
          obtain rfl : jj = 0 := by omega
          exact ⟨_, rfl, AOp.fieldPtr (k := 1) (d := 0) (e := 0) rfl rfl (hl 3 none _ (.head _) rfl) fo33_0⟩
        · refine .inl ⟨rfl, fun s' jj bb (h1 : 0 ≤ jj) (h2 : jj ≤ 0) hs hl => ?_⟩
          obtain rfl : jj = 0 := by omega
          exact ⟨_, rfl, AOp.loadPtr1 rfl rfl (hl 6 (some 0) _ (.head _) rfl) (by rw [hs]; rfl) sh3 rfl⟩
        · refine .inl ⟨rfl, fun s' jj bb (h1 : 0 ≤ jj) (h2 : jj ≤ 0) hs hl => ?_⟩
          obtain rfl : jj = 0 := by omega
          exact ⟨_, rfl, AOp.lss rfl rfl (hl 7 (some 1) _ (.head _) rfl) rfl⟩
        · refine .inl ⟨rfl, fun s' jj bb (h1 : 0 ≤ jj) (h2 : jj ≤ 0) hs hl => ?_⟩
          obtain rfl : jj = 0 := by omega
          exact ⟨_, rfl, AOp.move (.inl rfl) rfl (hl 8 (some 2) _ (.head _) rfl)⟩
        · refine .inl ⟨(congrArg (fun b => some (b == false)) g1), fun s' jj bb (h1 : 0 ≤ jj) (h2 : jj ≤ 0) hs hl => ?_⟩
          obtain rfl : jj = 0 := by omega
          exact ⟨_, rfl, AOp.fieldPtr (k := 1) (d := 0) (e := 0) rfl rfl (hl 3 none _ (.head _) rfl) fo33_0⟩
        · refine .inl ⟨(congrArg (fun b => some (b == false)) g1), fun s' jj bb (h1 : 0 ≤ jj) (h2 : jj ≤ 0) hs hl => ?_⟩
          obtain rfl : jj = 0 := by omega
          exact ⟨_, rfl, AOp.loadPtr1 rfl rfl (hl 10 (some 4) _ (.head _) rfl) (by rw [hs]; rfl) sh3 rfl⟩
        · refine .inl ⟨(congrArg (fun b => some (b == false)) g1), fun s' jj bb (h1 : 0 ≤ jj) (h2 : jj ≤ 0) hs hl => ?_⟩
          obtain rfl : jj = 0 := by omega
          exact ⟨_, rfl, AOp.fieldPtr (k := 0) (d := 0) (e := 0) rfl rfl (hl 2 none _ (.head _) rfl) fo31_0⟩
        · refine .inl ⟨(congrArg (fun b => some (b == false)) g1), fun s' jj bb (h1 : 0 ≤ jj) (h2 : jj ≤ 0) hs hl => ?_⟩
          obtain rfl : jj = 0 := by omega
          exact ⟨_, rfl, AOp.loadPtr1 rfl rfl (hl 12 (some 6) _ (.head _) rfl) (by rw [hs]; rfl) sh29 rfl⟩
        · refine .inl ⟨(congrArg (fun b => some (b == false)) g1), fun s' jj bb (h1 : 0 ≤ jj) (h2 : jj ≤ 0) hs hl => ?_⟩
          obtain rfl : jj = 0 := by omega
          exact ⟨_, rfl, AOp.lenN rfl rfl (hl 13 (some 7) _ (.head _) rfl) rfl el29 (GPackage.trs_len _)⟩
        · refine .inl ⟨(congrArg (fun b => some (b == false)) g1), fun s' jj bb (h1 : 0 ≤ jj) (h2 : jj ≤ 0) hs hl => ?_⟩
          obtain rfl : jj = 0 := by omega
          exact ⟨_, rfl, AOp.geq rfl rfl (hl 11 (some 5) _ (.head _) rfl) (hl 14 (some 8) _ (.tail _ (.head _)) rfl)⟩
        · refine .inl ⟨rfl, fun s' jj bb (h1 : 0 ≤ jj) (h2 : jj ≤ 0) hs hl => ?_⟩
          obtain rfl : jj = 0 := by omega
          exact ⟨_, rfl, AOp.pickF rfl rfl (hl 9 (some 3) _ (.head _) rfl) g1 (hl 15 (some 9) _ (.tail _ (.head _)) rfl)⟩
        · refine .inl ⟨rfl, fun s' jj bb (h1 : 0 ≤ jj) (h2 : jj ≤ 0) hs hl => ?_⟩
          obtain rfl : jj = 0 := by omega
          exact ⟨_, rfl, AOp.move (.inl rfl) rfl (hl 16 (some 10) _ (.head _) rfl)⟩
        · refine .inl ⟨(congrArg (fun b => some (b == false)) g3), fun s' jj bb (h1 : 0 ≤ jj) (h2 : jj ≤ 0) hs hl => ?_⟩
          obtain rfl : jj = 0 := by omega
          exact ⟨_, rfl, AOp.fieldPtr (k := 1) (d := 0) (e := 1) rfl rfl (hl 3 none _ (.head _) rfl) fo33_1⟩
        · refine .inl ⟨(congrArg (fun b => some (b == false)) g3), fun s' jj bb (h1 : 0 ≤ jj) (h2 : jj ≤ 0) hs hl => ?_⟩
          obtain rfl : jj = 0 := by omega
          exact ⟨_, rfl, AOp.loadPtr1 rfl rfl (hl 18 (some 12) _ (.head _) rfl) (by rw [hs]; rfl) sh3 rfl⟩
        · refine .inl ⟨(congrArg (fun b => some (b == false)) g3), fun s' jj bb (h1 : 0 ≤ jj) (h2 : jj ≤ 0) hs hl => ?_⟩
          obtain rfl : jj = 0 := by omega
          exact ⟨_, rfl, AOp.lss rfl rfl (hl 19 (some 13) _ (.head _) rfl) rfl⟩
        · refine .inl ⟨rfl, fun s' jj bb (h1 : 0 ≤ jj) (h2 : jj ≤ 0) hs hl => ?_⟩
          obtain rfl : jj = 0 := by omega
          exact ⟨_, rfl, AOp.pickF rfl rfl (hl 17 (some 11) _ (.head _) rfl) g3 (hl 20 (some 14) _ (.tail _ (.head _)) rfl)⟩
        · refine .inl ⟨rfl, fun s' jj bb (h1 : 0 ≤ jj) (h2 : jj ≤ 0) hs hl => ?_⟩
          obtain rfl : jj = 0 := by omega
          exact ⟨_, rfl, AOp.move (.inl rfl) rfl (hl 21 (some 15) _ (.head _) rfl)⟩
        · refine .inl ⟨(congrArg (fun b => some (b == false)) g5), fun s' jj bb (h1 : 0 ≤ jj) (h2 : jj ≤ 0) hs hl => ?_⟩
          obtain rfl : jj = 0 := by omega
          exact ⟨_, rfl, AOp.fieldPtr (k := 1) (d := 0) (e := 1) rfl rfl (hl 3 none _ (.head _) rfl) fo33_1⟩
        · refine .inl ⟨(congrArg (fun b => some (b == false)) g5), fun s' jj bb (h1 : 0 ≤ jj) (h2 : jj ≤ 0) hs hl => ?_⟩
          obtain rfl : jj = 0 := by omega
          exact ⟨_, rfl, AOp.loadPtr1 rfl rfl (hl 23 (some 17) _ (.head _) rfl) (by rw [hs]; rfl) sh3 rfl⟩
        · refine .inl ⟨(congrArg (fun b => some (b == false)) g5), fun s' jj bb (h1 : 0 ≤ jj) (h2 : jj ≤ 0) hs hl => ?_⟩
          obtain rfl : jj = 0 := by omega
          exact ⟨_, rfl, AOp.fieldPtr (k := 0) (d := 0) (e := 0) rfl rfl (hl 2 none _ (.head _) rfl) fo31_0⟩
        · refine .inl ⟨(congrArg (fun b => some (b == false)) g5), fun s' jj bb (h1 : 0 ≤ jj) (h2 : jj ≤ 0) hs hl => ?_⟩
          obtain rfl : jj = 0 := by omega
          exact ⟨_, rfl, AOp.loadPtr1 rfl rfl (hl 25 (some 19) _ (.head _) rfl) (by rw [hs]; rfl) sh29 rfl⟩
        · refine .inl ⟨(congrArg (fun b => some (b == false)) g5), fun s' jj bb (h1 : 0 ≤ jj) (h2 : jj ≤ 0) hs hl => ?_⟩
          obtain rfl : jj = 0 := by omega
          exact ⟨_, rfl, AOp.fieldPtr (k := 1) (d := 0) (e := 0) rfl rfl (hl 3 none _ (.head _) rfl) fo33_0⟩
        · refine .inl ⟨(congrArg (fun b => some (b == false)) g5), fun s' jj bb (h1 : 0 ≤ jj) (h2 : jj ≤ 0) hs hl => ?_⟩
          obtain rfl : jj = 0 := by omega
          exact ⟨_, rfl, AOp.loadPtr1 rfl rfl (hl 27 (some 21) _ (.head _) rfl) (by rw [hs]; rfl) sh3 rfl⟩
        · refine .inl ⟨(congrArg (fun b => some (b == false)) g5), fun s' jj bb (h1 : 0 ≤ jj) (h2 : jj ≤ 0) hs hl => ?_⟩
          obtain rfl : jj = 0 := by omega
          exact ⟨_, rfl, AOp.indexI (y := o.gPackage) rfl rfl (hl 26 (some 20) _ (.head _) rfl) rfl (hl 28 (some 22) _ (.tail _ (.head _)) rfl) (by omega) (GPackage.trs_cs hn7) el29⟩
        · refine .inl ⟨(congrArg (fun b => some (b == false)) g5), fun s' jj bb (h1 : 0 ≤ jj) (h2 : jj ≤ 0) hs hl => ?_⟩
          obtain rfl : jj = 0 := by omega
          exact ⟨_, rfl, AOp.fieldEptr (cs := (GPackage.cs (w.gPackages[(o.gPackage).toNat]))) (e := 4) rfl rfl (hl 29 (some 23) _ (.head _) rfl) fo126_4⟩
        · refine .inl ⟨(congrArg (fun b => some (b == false)) g5), fun s' jj bb (h1 : 0 ≤ jj) (h2 : jj ≤ 0) hs hl => ?_⟩
          obtain rfl : jj = 0 := by omega
          exact ⟨_, rfl, AOp.loadEptr1 (d := .row 12 (GInstance.trs ((w.gPackages[(o.gPackage).toNat]).gInstances))) rfl rfl (hl 30 (some 24) _ (.head _) rfl) sh123 rfl⟩
        · refine .inl ⟨(congrArg (fun b => some (b == false)) g5), fun s' jj bb (h1 : 0 ≤ jj) (h2 : jj ≤ 0) hs hl => ?_⟩
          obtain rfl : jj = 0 := by omega
          exact ⟨_, rfl, AOp.lenN rfl rfl (hl 31 (some 25) _ (.head _) rfl) rfl el123 (GInstance.trs_len _)⟩
        · refine .inl ⟨(congrArg (fun b => some (b == false)) g5), fun s' jj bb (h1 : 0 ≤ jj) (h2 : jj ≤ 0) hs hl => ?_⟩
          obtain rfl : jj = 0 := by omega
          exact ⟨_, rfl, AOp.geq rfl rfl (hl 24 (some 18) _ (.head _) rfl) (hl 32 (some 26) _ (.tail _ (.head _)) rfl)⟩
        · refine .inl ⟨rfl, fun s' jj bb (h1 : 0 ≤ jj) (h2 : jj ≤ 0) hs hl => ?_⟩
          obtain rfl : jj = 0 := by omega
          exact ⟨_, rfl, AOp.pickF rfl rfl (hl 22 (some 16) _ (.head _) rfl) g5 (hl 33 (some 27) _ (.tail _ (.head _)) rfl)⟩
        refine AWP.cond rfl (fun h8 => ?_) (fun h8 => ?_)
        · skip
          have h8b := h8
          try simp only [Bool.and_eq_true, Bool.or_eq_true, Bool.and_eq_false_iff, Bool.or_eq_false_iff, decide_eq_true_eq, decide_eq_false_iff_not, Bool.not_eq_true', Bool.not_eq_false', Bool.not_eq_eq_eq_not, Bool.not_true, Bool.not_false, ge_iff_le, gt_iff_lt, Int.not_lt, Int.not_le] at h8b
          refine AWP.seq ?_
          refine AWP.region_lit ?_
          refine AL.cons rfl (AOp.build rfl rfl zr113 pl113 rfl rfl) ?_
          refine AL.cons rfl (AOp.storePtr (cs := [.t (.leaf (.string (⟨#[]⟩))), .nil, .t (.leaf (.int .i64 (0))), .t (.leaf (.string (⟨#[]⟩))), .nil, .nil, .t (.leaf (.bool (false))), .t (.leaf (.bool (false))), .t (.leaf (.int .i64 (0))), .t (.leaf (.string (⟨#[]⟩))), .nil, .nil]) (ds := [.t (.leaf (.string (⟨#[]⟩))), .nil, .t (.leaf (.int .i64 (0))), .t (.leaf (.string (⟨#[]⟩))), .nil, .nil, .t (.leaf (.bool (false))), .t (.leaf (.bool (false))), .t (.leaf (.int .i64 (0))), .t (.leaf (.string (⟨#[]⟩))), .nil, .nil]) rfl rfl rfl rfl rfl rfl rfl sz113 (Nat.le_of_ble_eq_true rfl) rfl) ?_
          refine AL.cons rfl (AOp.move (.inr rfl) rfl rfl) ?_
          refine AL.nil ?_
          refine AWP.ret ?_
          exact Ends.mk (ps := [_, _]) (.inr rfl) ⟨⟨_, _, _, rfl, rfl, sh113, rfl, rfl⟩, rfl, trivial⟩ rfl (StLe.mk' (st' := ⟨[], []⟩) trivial rfl) (keeps_nil hC) (q := PV.tup [GInstance.pv GInstance.zero, .t (.leaf (.bool (false)))]) (by (repeat' (first | exact PV.Le.refl _ | exact LeL.nil | exact PV.Le.nil _ | exact PV.Le.acc _ _ _ | apply LeL.cons | apply PV.Le.agg | apply PV.Le.tup))) rfl ⟨by exact optInst_none (by first | exact instAt_m1 (by omega) | exact instAt_m2 (by omega) (by omega)), rfl⟩
        · skip
          have h8b := h8
          try simp only [Bool.and_eq_true, Bool.or_eq_true, Bool.and_eq_false_iff, Bool.or_eq_false_iff, decide_eq_true_eq, decide_eq_false_iff_not, Bool.not_eq_true', Bool.not_eq_false', Bool.not_eq_eq_eq_not, Bool.not_true, Bool.not_false, ge_iff_le, gt_iff_lt, Int.not_lt, Int.not_le] at h8b
          refine AWP.skip ?_
          refine AWP.seq ?_
          have hn9 : (o.gAt).toNat < ((w.gPackages[(o.gPackage).toNat]).gInstances).length := by omega
          refine AWP.drawnL ⟨_, _, fun j' _ => ([(⟨[some ⟨31, [.t (.row 6 (GPackage.trs (w.gPackages)))]⟩, some ⟨33, [.t (.leaf (.int .i64 (o.gPackage))), .t (.leaf (.int .i64 (o.gAt)))]⟩, some ⟨113, [.t (.leaf (.string (⟨#[]⟩))), .nil, .t (.leaf (.int .i64 (0))), .t (.leaf (.string (⟨#[]⟩))), .nil, .nil, .t (.leaf (.bool (false))), .t (.leaf (.bool (false))), .t (.leaf (.int .i64 (0))), .t (.leaf (.string (⟨#[]⟩))), .nil, .nil]⟩], []⟩ : Sto), (⟨[some ⟨31, [.t (.row 6 (GPackage.trs (w.gPackages)))]⟩, some ⟨33, [.t (.leaf (.int .i64 (o.gPackage))), .t (.leaf (.int .i64 (o.gAt)))]⟩, some ⟨113, [.t (.leaf (.string ((((w.gPackages[(o.gPackage).toNat]).gInstances)[(o.gAt).toNat]).gTrait))), .t (.row 1 (strTrs ((((w.gPackages[(o.gPackage).toNat]).gInstances)[(o.gAt).toNat]).gVars))), .t (.leaf (.int .i64 ((((w.gPackages[(o.gPackage).toNat]).gInstances)[(o.gAt).toNat]).gHead.gKind))), .t (.leaf (.string ((((w.gPackages[(o.gPackage).toNat]).gInstances)[(o.gAt).toNat]).gHead.gName))), .t (.row 3 (GType.trs ((((w.gPackages[(o.gPackage).toNat]).gInstances)[(o.gAt).toNat]).gHead.gArgs))), .t (.row 4 (GBound.trs ((((w.gPackages[(o.gPackage).toNat]).gInstances)[(o.gAt).toNat]).gWhere))), .t (.leaf (.bool ((((w.gPackages[(o.gPackage).toNat]).gInstances)[(o.gAt).toNat]).gDefault))), .t (.leaf (.bool ((((w.gPackages[(o.gPackage).toNat]).gInstances)[(o.gAt).toNat]).gHasAssoc))), .t (.leaf (.int .i64 ((((w.gPackages[(o.gPackage).toNat]).gInstances)[(o.gAt).toNat]).gAssoc.gKind))), .t (.leaf (.string ((((w.gPackages[(o.gPackage).toNat]).gInstances)[(o.gAt).toNat]).gAssoc.gName))), .t (.row 3 (GType.trs ((((w.gPackages[(o.gPackage).toNat]).gInstances)[(o.gAt).toNat]).gAssoc.gArgs))), .t (.row 11 (GMethod.trs ((((w.gPackages[(o.gPackage).toNat]).gInstances)[(o.gAt).toNat]).gMethods)))]⟩], []⟩ : Sto)] : List Sto).getD j' (⟨[some ⟨31, [.t (.row 6 (GPackage.trs (w.gPackages)))]⟩, some ⟨33, [.t (.leaf (.int .i64 (o.gPackage))), .t (.leaf (.int .i64 (o.gAt)))]⟩, some ⟨113, [.t (.leaf (.string ((((w.gPackages[(o.gPackage).toNat]).gInstances)[(o.gAt).toNat]).gTrait))), .t (.row 1 (strTrs ((((w.gPackages[(o.gPackage).toNat]).gInstances)[(o.gAt).toNat]).gVars))), .t (.leaf (.int .i64 ((((w.gPackages[(o.gPackage).toNat]).gInstances)[(o.gAt).toNat]).gHead.gKind))), .t (.leaf (.string ((((w.gPackages[(o.gPackage).toNat]).gInstances)[(o.gAt).toNat]).gHead.gName))), .t (.row 3 (GType.trs ((((w.gPackages[(o.gPackage).toNat]).gInstances)[(o.gAt).toNat]).gHead.gArgs))), .t (.row 4 (GBound.trs ((((w.gPackages[(o.gPackage).toNat]).gInstances)[(o.gAt).toNat]).gWhere))), .t (.leaf (.bool ((((w.gPackages[(o.gPackage).toNat]).gInstances)[(o.gAt).toNat]).gDefault))), .t (.leaf (.bool ((((w.gPackages[(o.gPackage).toNat]).gInstances)[(o.gAt).toNat]).gHasAssoc))), .t (.leaf (.int .i64 ((((w.gPackages[(o.gPackage).toNat]).gInstances)[(o.gAt).toNat]).gAssoc.gKind))), .t (.leaf (.string ((((w.gPackages[(o.gPackage).toNat]).gInstances)[(o.gAt).toNat]).gAssoc.gName))), .t (.row 3 (GType.trs ((((w.gPackages[(o.gPackage).toNat]).gInstances)[(o.gAt).toNat]).gAssoc.gArgs))), .t (.row 11 (GMethod.trs ((((w.gPackages[(o.gPackage).toNat]).gInstances)[(o.gAt).toNat]).gMethods)))]⟩], []⟩ : Sto), fun q' => ([some (.ptr 0 0), some (.t (.row 6 (GPackage.trs (w.gPackages)))), some (.ptr 1 0), some (.t (.leaf (.int .i64 (o.gPackage)))), some (.eptr (GPackage.cs (w.gPackages[(o.gPackage).toNat]))), some (.eptr ((GPackage.cs (w.gPackages[(o.gPackage).toNat])).drop 4)), some (.t (.row 12 (GInstance.trs ((w.gPackages[(o.gPackage).toNat]).gInstances)))), some (.ptr 1 1), some (.t (.leaf (.int .i64 (o.gAt)))), some (.eptr (GInstance.cs (((w.gPackages[(o.gPackage).toNat]).gInstances)[(o.gAt).toNat]))), some ((GInstance.pv (((w.gPackages[(o.gPackage).toNat]).gInstances)[(o.gAt).toNat]))), none, some (.t (.leaf (.bool (true))))] : List (Option PV)).getD q' none, fun q' => ([.q 0 0, .q 0 0, .q 0 0, .q 0 0, .q 0 0, .q 0 0, .q 0 0, .q 0 0, .q 0 0, .q 0 0, .q 0 0, .ef 0, .q 1 1] : List DK).getD q' (.q 0 0), [11], none, fun q' => ([[(2, none)], [(36, some 0)], [(3, none)], [(38, some 2)], [(37, some 1), (39, some 3)], [(40, some 4)], [(41, some 5)], [(3, none)], [(43, some 7)], [(42, some 6), (44, some 8)], [(45, some 9)], [(4, none), (46, some 10)], []] : List (List (Nat × Option Nat))).getD q' []⟩ rfl mixed (by kernel_rfl) rfl rfl ⟨?_, ?_, ?_, ?_, ?_, ?_, ?_, ?_, ?_, ?_, ?_, ?_, ?_, trivial⟩ rfl ?_
          · refine .inl ⟨rfl, fun s' jj bb (h1 : 0 ≤ jj) (h2 : jj ≤ 0) hs hl => ?_⟩
            obtain rfl : jj = 0 := by omega
            exact ⟨_, rfl, AOp.fieldPtr (k := 0) (d := 0) (e := 0) rfl rfl (hl 2 none _ (.head _) rfl) fo31_0⟩
          · refine .inl ⟨rfl, fun s' jj bb (h1 : 0 ≤ jj) (h2 : jj ≤ 0) hs hl => ?_⟩
            obtain rfl : jj = 0 := by omega
            exact ⟨_, rfl, AOp.loadPtr1 rfl rfl (hl 36 (some 0) _ (.head _) rfl) (by rw [hs]; rfl) sh29 rfl⟩
          · refine .inl ⟨rfl, fun s' jj bb (h1 : 0 ≤ jj) (h2 : jj ≤ 0) hs hl => ?_⟩
            obtain rfl : jj = 0 := by omega
            exact ⟨_, rfl, AOp.fieldPtr (k := 1) (d := 0) (e := 0) rfl rfl (hl 3 none _ (.head _) rfl) fo33_0⟩
          · refine .inl ⟨rfl, fun s' jj bb (h1 : 0 ≤ jj) (h2 : jj ≤ 0) hs hl => ?_⟩
            obtain rfl : jj = 0 := by omega
            exact ⟨_, rfl, AOp.loadPtr1 rfl rfl (hl 38 (some 2) _ (.head _) rfl) (by rw [hs]; rfl) sh3 rfl⟩
          · refine .inl ⟨rfl, fun s' jj bb (h1 : 0 ≤ jj) (h2 : jj ≤ 0) hs hl => ?_⟩
            obtain rfl : jj = 0 := by omega
            exact ⟨_, rfl, AOp.indexI (y := o.gPackage) rfl rfl (hl 37 (some 1) _ (.head _) rfl) rfl (hl 39 (some 3) _ (.tail _ (.head _)) rfl) (by omega) (GPackage.trs_cs hn7) el29⟩
          · refine .inl ⟨rfl, fun s' jj bb (h1 : 0 ≤ jj) (h2 : jj ≤ 0) hs hl => ?_⟩
            obtain rfl : jj = 0 := by omega
            exact ⟨_, rfl, AOp.fieldEptr (cs := (GPackage.cs (w.gPackages[(o.gPackage).toNat]))) (e := 4) rfl rfl (hl 40 (some 4) _ (.head _) rfl) fo126_4⟩
          · refine .inl ⟨rfl, fun s' jj bb (h1 : 0 ≤ jj) (h2 : jj ≤ 0) hs hl => ?_⟩
            obtain rfl : jj = 0 := by omega
            exact ⟨_, rfl, AOp.loadEptr1 (d := .row 12 (GInstance.trs ((w.gPackages[(o.gPackage).toNat]).gInstances))) rfl rfl (hl 41 (some 5) _ (.head _) rfl) sh123 rfl⟩
          · refine .inl ⟨rfl, fun s' jj bb (h1 : 0 ≤ jj) (h2 : jj ≤ 0) hs hl => ?_⟩
            obtain rfl : jj = 0 := by omega
            exact ⟨_, rfl, AOp.fieldPtr (k := 1) (d := 0) (e := 1) rfl rfl (hl 3 none _ (.head _) rfl) fo33_1⟩
          · refine .inl ⟨rfl, fun s' jj bb (h1 : 0 ≤ jj) (h2 : jj ≤ 0) hs hl => ?_⟩
            obtain rfl : jj = 0 := by omega
            exact ⟨_, rfl, AOp.loadPtr1 rfl rfl (hl 43 (some 7) _ (.head _) rfl) (by rw [hs]; rfl) sh3 rfl⟩
          · refine .inl ⟨rfl, fun s' jj bb (h1 : 0 ≤ jj) (h2 : jj ≤ 0) hs hl => ?_⟩
            obtain rfl : jj = 0 := by omega
            exact ⟨_, rfl, AOp.indexI (y := o.gAt) rfl rfl (hl 42 (some 6) _ (.head _) rfl) rfl (hl 44 (some 8) _ (.tail _ (.head _)) rfl) (by omega) (GInstance.trs_cs hn9) el123⟩
          · refine .inl ⟨rfl, fun s' jj bb (h1 : 0 ≤ jj) (h2 : jj ≤ 0) hs hl => ?_⟩
            obtain rfl : jj = 0 := by omega
            exact ⟨_, rfl, AOp.loadEptr (ds := [.leaf (.string ((((w.gPackages[(o.gPackage).toNat]).gInstances)[(o.gAt).toNat]).gTrait)), .row 1 (strTrs ((((w.gPackages[(o.gPackage).toNat]).gInstances)[(o.gAt).toNat]).gVars)), .leaf (.int .i64 ((((w.gPackages[(o.gPackage).toNat]).gInstances)[(o.gAt).toNat]).gHead.gKind)), .leaf (.string ((((w.gPackages[(o.gPackage).toNat]).gInstances)[(o.gAt).toNat]).gHead.gName)), .row 3 (GType.trs ((((w.gPackages[(o.gPackage).toNat]).gInstances)[(o.gAt).toNat]).gHead.gArgs)), .row 4 (GBound.trs ((((w.gPackages[(o.gPackage).toNat]).gInstances)[(o.gAt).toNat]).gWhere)), .leaf (.bool ((((w.gPackages[(o.gPackage).toNat]).gInstances)[(o.gAt).toNat]).gDefault)), .leaf (.bool ((((w.gPackages[(o.gPackage).toNat]).gInstances)[(o.gAt).toNat]).gHasAssoc)), .leaf (.int .i64 ((((w.gPackages[(o.gPackage).toNat]).gInstances)[(o.gAt).toNat]).gAssoc.gKind)), .leaf (.string ((((w.gPackages[(o.gPackage).toNat]).gInstances)[(o.gAt).toNat]).gAssoc.gName)), .row 3 (GType.trs ((((w.gPackages[(o.gPackage).toNat]).gInstances)[(o.gAt).toNat]).gAssoc.gArgs)), .row 11 (GMethod.trs ((((w.gPackages[(o.gPackage).toNat]).gInstances)[(o.gAt).toNat]).gMethods))]) rfl rfl (hl 45 (some 9) _ (.head _) rfl) sh113 rfl rfl⟩
          · refine .inl ⟨rfl, fun s' bb hs hl => ?_⟩
            refine .inr ⟨rfl, AOp.congr (AOp.storePtr (cs := [.t (.leaf (.string ((((w.gPackages[(o.gPackage).toNat]).gInstances)[(o.gAt).toNat]).gTrait))), .t (.row 1 (strTrs ((((w.gPackages[(o.gPackage).toNat]).gInstances)[(o.gAt).toNat]).gVars))), .t (.leaf (.int .i64 ((((w.gPackages[(o.gPackage).toNat]).gInstances)[(o.gAt).toNat]).gHead.gKind))), .t (.leaf (.string ((((w.gPackages[(o.gPackage).toNat]).gInstances)[(o.gAt).toNat]).gHead.gName))), .t (.row 3 (GType.trs ((((w.gPackages[(o.gPackage).toNat]).gInstances)[(o.gAt).toNat]).gHead.gArgs))), .t (.row 4 (GBound.trs ((((w.gPackages[(o.gPackage).toNat]).gInstances)[(o.gAt).toNat]).gWhere))), .t (.leaf (.bool ((((w.gPackages[(o.gPackage).toNat]).gInstances)[(o.gAt).toNat]).gDefault))), .t (.leaf (.bool ((((w.gPackages[(o.gPackage).toNat]).gInstances)[(o.gAt).toNat]).gHasAssoc))), .t (.leaf (.int .i64 ((((w.gPackages[(o.gPackage).toNat]).gInstances)[(o.gAt).toNat]).gAssoc.gKind))), .t (.leaf (.string ((((w.gPackages[(o.gPackage).toNat]).gInstances)[(o.gAt).toNat]).gAssoc.gName))), .t (.row 3 (GType.trs ((((w.gPackages[(o.gPackage).toNat]).gInstances)[(o.gAt).toNat]).gAssoc.gArgs))), .t (.row 11 (GMethod.trs ((((w.gPackages[(o.gPackage).toNat]).gInstances)[(o.gAt).toNat]).gMethods)))]) (ds := [.t (.leaf (.string ((((w.gPackages[(o.gPackage).toNat]).gInstances)[(o.gAt).toNat]).gTrait))), .t (.row 1 (strTrs ((((w.gPackages[(o.gPackage).toNat]).gInstances)[(o.gAt).toNat]).gVars))), .t (.leaf (.int .i64 ((((w.gPackages[(o.gPackage).toNat]).gInstances)[(o.gAt).toNat]).gHead.gKind))), .t (.leaf (.string ((((w.gPackages[(o.gPackage).toNat]).gInstances)[(o.gAt).toNat]).gHead.gName))), .t (.row 3 (GType.trs ((((w.gPackages[(o.gPackage).toNat]).gInstances)[(o.gAt).toNat]).gHead.gArgs))), .t (.row 4 (GBound.trs ((((w.gPackages[(o.gPackage).toNat]).gInstances)[(o.gAt).toNat]).gWhere))), .t (.leaf (.bool ((((w.gPackages[(o.gPackage).toNat]).gInstances)[(o.gAt).toNat]).gDefault))), .t (.leaf (.bool ((((w.gPackages[(o.gPackage).toNat]).gInstances)[(o.gAt).toNat]).gHasAssoc))), .t (.leaf (.int .i64 ((((w.gPackages[(o.gPackage).toNat]).gInstances)[(o.gAt).toNat]).gAssoc.gKind))), .t (.leaf (.string ((((w.gPackages[(o.gPackage).toNat]).gInstances)[(o.gAt).toNat]).gAssoc.gName))), .t (.row 3 (GType.trs ((((w.gPackages[(o.gPackage).toNat]).gInstances)[(o.gAt).toNat]).gAssoc.gArgs))), .t (.row 11 (GMethod.trs ((((w.gPackages[(o.gPackage).toNat]).gInstances)[(o.gAt).toNat]).gMethods)))]) rfl (hl 4 none _ (.head _) rfl) (by rw [hs]; rfl) (hl 46 (some 10) _ (.tail _ (.head _)) rfl) rfl rfl rfl sz113 (Nat.le_of_ble_eq_true rfl) rfl) ?_⟩
            first | (rw [hs]; rfl) | rfl
          · refine .inl ⟨rfl, fun s' jj bb (h1 : 1 ≤ jj) (h2 : jj ≤ 1) hs hl => ?_⟩
            obtain rfl : jj = 1 := by omega
            exact ⟨_, rfl, AOp.move (.inr rfl) rfl rfl⟩
          refine AWP.ret ?_
          exact Ends.mk (ps := [_, _]) (.inr rfl) ⟨⟨_, _, _, rfl, rfl, sh113, rfl, rfl⟩, rfl, trivial⟩ rfl (StLe.mk' (st' := ⟨[], []⟩) trivial rfl) (keeps_nil hC) (q := (.tup [(GInstance.pv (((w.gPackages[(o.gPackage).toNat]).gInstances)[(o.gAt).toNat])), .t (.leaf (.bool (true)))] : PV)) (by (repeat' (first | exact PV.Le.refl _ | exact LeL.nil | exact PV.Le.nil _ | exact PV.Le.acc _ _ _ | apply LeL.cons | apply PV.Le.agg | apply PV.Le.tup))) rfl ⟨by exact optInst_some (instAt_hit (by omega) (by omega) (by omega) (by omega)), rfl⟩

set_option maxRecDepth 100000 in
set_option maxHeartbeats 4000000 in
theorem inst_spec (w : GProgram) (o : GInstanceRef) : AFun Tryz.prog 77 [(GProgram.pv w), (GInstanceRef.pv o)] (.tup [(GInstance.pv (oInst (GProgram.instAt w o))), .t (.leaf (.bool ((GProgram.instAt w o).isSome)))]) := by
  refine ACalls.intro Tryz.func77 rfl (by first | decide | (simp; done) | (simp; decide)) ?_
  intro C hC
  refine AWP.seq ?_
  refine AWP.region_lit ?_
  refine AL.cons rfl (AOp.box (cs := [.t (.row 6 (GPackage.trs (w.gPackages)))]) rfl rfl rfl rfl rfl) ?_
  refine AL.cons rfl (AOp.box (cs := [.t (.leaf (.int .i64 (o.gPackage))), .t (.leaf (.int .i64 (o.gAt)))]) rfl rfl rfl rfl rfl) ?_
  refine AL.cons rfl (AOp.alloc rfl rfl zr113) ?_
  refine AL.cons rfl (AOp.move (.inr rfl) rfl rfl) ?_
  refine AL.nil ?_
  refine AWP.seq ?_
  refine AWP.seq ?_
  refine AWP.fact (box_lenN 0 0 rfl rfl rfl (GPackage.trs_len _)) (fun hl1 => ?_)
  rcases bool2 (!(decide ((o.gPackage : Int) ≥ 0) && decide ((o.gPackage : Int) ≤ (((w.gPackages.length : Nat) : Int) - 1)))) with g2 | g2
  · skip
    have g2b := g2
    try simp only [Bool.and_eq_true, Bool.or_eq_true, Bool.and_eq_false_iff, Bool.or_eq_false_iff, decide_eq_true_eq, decide_eq_false_iff_not, Bool.not_eq_true', Bool.not_eq_false', Bool.not_eq_eq_eq_not, Bool.not_true, Bool.not_false, ge_iff_le, gt_iff_lt, Int.not_lt, Int.not_le] at g2b
    refine AWP.drawnL ⟨_, _, fun _ _ => (⟨[some ⟨31, [.t (.row 6 (GPackage.trs (w.gPackages)))]⟩, some ⟨33, [.t (.leaf (.int .i64 (o.gPackage))), .t (.leaf (.int .i64 (o.gAt)))]⟩, some ⟨113, [.t (.leaf (.string (⟨#[]⟩))), .nil, .t (.leaf (.int .i64 (0))), .t (.leaf (.string (⟨#[]⟩))), .nil, .nil, .t (.leaf (.bool (false))), .t (.leaf (.bool (false))), .t (.leaf (.int .i64 (0))), .t (.leaf (.string (⟨#[]⟩))), .nil, .nil]⟩], []⟩ : Sto), fun q' => ([some (.ptr 1 0), some (.t (.leaf (.int .i64 (o.gPackage)))), some (.ptr 0 0), some (.t (.row 6 (GPackage.trs (w.gPackages)))), some (.t (.leaf (.int .i64 (((w.gPackages.length : Nat) : Int))))), some (.t (.leaf (.int .i64 (((w.gPackages.length : Nat) : Int) - 1)))), some (.t (.leaf (.bool (decide ((o.gPackage : Int) ≥ 0) && decide ((o.gPackage : Int) ≤ (((w.gPackages.length : Nat) : Int) - 1)))))), some (.t (.leaf (.bool (!(decide ((o.gPackage : Int) ≥ 0) && decide ((o.gPackage : Int) ≤ (((w.gPackages.length : Nat) : Int) - 1))))))), some (.t (.leaf (.bool (!(decide ((o.gPackage : Int) ≥ 0) && decide ((o.gPackage : Int) ≤ (((w.gPackages.length : Nat) : Int) - 1))))))), none, none, none, none, none, none, none, none, none, none, none, none, none, some (.t (.leaf (.bool (true))))] : List (Option PV)).getD q' none, fun q' => ([.q 0 0, .q 0 0, .q 0 0, .q 0 0, .q 0 0, .q 0 0, .q 0 0, .q 0 0, .q 0 0, .q 0 0, .q 0 0, .q 0 0, .q 0 0, .q 0 0, .q 0 0, .q 0 0, .q 0 0, .q 0 0, .q 0 0, .q 0 0, .q 0 0, .q 0 0, .q 0 0] : List DK).getD q' (.q 0 0), [], none, fun q' => ([[(3, none)], [(6, some 0)], [(2, none)], [(8, some 2)], [(9, some 3)], [(10, some 4)], [(11, some 5), (7, some 1)], [(12, some 6)], [(13, some 7)], [], [], [], [], [], [], [], [], [], [], [], [], [], [(14, some 8)]] : List (List (Nat × Option Nat))).getD q' []⟩ rfl mixed (by kernel_rfl) rfl rfl ⟨?_, ?_, ?_, ?_, ?_, ?_, ?_, ?_, ?_, ?_, ?_, ?_, ?_, ?_, ?_, ?_, ?_, ?_, ?_, ?_, ?_, ?_, ?_, trivial⟩ rfl ?_
    · refine .inl ⟨rfl, fun s' jj bb (h1 : 0 ≤ jj) (h2 : jj ≤ 0) hs hl => ?_⟩
      obtain rfl : jj = 0 := by omega
      exact ⟨_, rfl, AOp.fieldPtr (k := 1) (d := 0) (e := 0) rfl rfl (hl 3 none _ (.head _) rfl) fo33_0⟩
    · refine .inl ⟨rfl, fun s' jj bb (h1 : 0 ≤ jj) (h2 : jj ≤ 0) hs hl => ?_⟩
      obtain rfl : jj = 0 := by omega
      exact ⟨_, rfl, AOp.loadPtr1 rfl rfl (hl 6 (some 0) _ (.head _) rfl) (by rw [hs]; rfl) sh3 rfl⟩
    · refine .inl ⟨rfl, fun s' jj bb (h1 : 0 ≤ jj) (h2 : jj ≤ 0) hs hl => ?_⟩
      obtain rfl : jj = 0 := by omega
      exact ⟨_, rfl, AOp.fieldPtr (k := 0) (d := 0) (e := 0) rfl rfl (hl 2 none _ (.head _) rfl) fo31_0⟩
    · refine .inl ⟨rfl, fun s' jj bb (h1 : 0 ≤ jj) (h2 : jj ≤ 0) hs hl => ?_⟩
      obtain rfl : jj = 0 := by omega
      exact ⟨_, rfl, AOp.loadPtr1 rfl rfl (hl 8 (some 2) _ (.head _) rfl) (by rw [hs]; rfl) sh29 rfl⟩
    · refine .inl ⟨rfl, fun s' jj bb (h1 : 0 ≤ jj) (h2 : jj ≤ 0) hs hl => ?_⟩
      obtain rfl : jj = 0 := by omega
      exact ⟨_, rfl, AOp.lenN rfl rfl (hl 9 (some 3) _ (.head _) rfl) rfl el29 (GPackage.trs_len _)⟩
    · refine .inl ⟨rfl, fun s' jj bb (h1 : 0 ≤ jj) (h2 : jj ≤ 0) hs hl => ?_⟩
      obtain rfl : jj = 0 := by omega
      exact ⟨_, rfl, AOp.subI rfl rfl (hl 10 (some 4) _ (.head _) rfl) rfl (c := ((w.gPackages.length : Nat) : Int) - 1) (by omega) (by omega)⟩
    · refine .inl ⟨rfl, fun s' jj bb (h1 : 0 ≤ jj) (h2 : jj ≤ 0) hs hl => ?_⟩
      obtain rfl : jj = 0 := by omega
      exact ⟨_, rfl, AOp.callF (ps := [_, _, _]) rfl rfl Tryz.func137 (by kernel_rfl) rfl (evs_cons (hl 7 (some 1) _ (.tail _ (.head _)) rfl) (evs_cons rfl (evs_cons (hl 11 (some 5) _ (.head _) rfl) rfl))) (by (repeat' (first | exact PV.Le.refl _ | exact LeL.nil | exact PV.Le.nil _ | exact PV.Le.acc _ _ _ | apply LeL.cons | apply PV.Le.agg | apply PV.Le.tup))) rfl rfl (in_ok o.gPackage 0 (((w.gPackages.length : Nat) : Int) - 1))⟩
    · refine .inl ⟨rfl, fun s' jj bb (h1 : 0 ≤ jj) (h2 : jj ≤ 0) hs hl => ?_⟩
      obtain rfl : jj = 0 := by omega
      exact ⟨_, rfl, AOp.notB rfl rfl (hl 12 (some 6) _ (.head _) rfl)⟩
    · refine .inl ⟨rfl, fun s' jj bb (h1 : 0 ≤ jj) (h2 : jj ≤ 0) hs hl => ?_⟩
      obtain rfl : jj = 0 := by omega
      exact ⟨_, rfl, AOp.move (.inl rfl) rfl (hl 13 (some 7) _ (.head _) rfl)⟩
    · exact .inr ⟨(congrArg (fun b => some (b == false)) g2), rfl, ⟨_, _, rfl⟩, fun d hd => by cases hd; rfl⟩
    · exact .inr ⟨(congrArg (fun b => some (b == false)) g2), rfl, ⟨_, _, rfl⟩, fun d hd => by cases hd; rfl⟩
    · exact .inr ⟨(congrArg (fun b => some (b == false)) g2), rfl, ⟨_, _, rfl⟩, fun d hd => by cases hd; rfl⟩
    · exact .inr ⟨(congrArg (fun b => some (b == false)) g2), rfl, ⟨_, _, rfl⟩, fun d hd => by cases hd; rfl⟩
    · exact .inr ⟨(congrArg (fun b => some (b == false)) g2), rfl, ⟨_, _, rfl⟩, fun d hd => by cases hd; rfl⟩
    · exact .inr ⟨(congrArg (fun b => some (b == false)) g2), rfl, ⟨_, _, rfl⟩, fun d hd => by cases hd; rfl⟩
    · exact .inr ⟨(congrArg (fun b => some (b == false)) g2), rfl, ⟨_, _, rfl⟩, fun d hd => by cases hd; rfl⟩
    · exact .inr ⟨(congrArg (fun b => some (b == false)) g2), rfl, ⟨_, _, rfl⟩, fun d hd => by cases hd; rfl⟩
    · exact .inr ⟨(congrArg (fun b => some (b == false)) g2), rfl, ⟨_, _, rfl⟩, fun d hd => by cases hd; rfl⟩
    · exact .inr ⟨(congrArg (fun b => some (b == false)) g2), rfl, ⟨_, _, rfl⟩, fun d hd => by cases hd; rfl⟩
    · exact .inr ⟨(congrArg (fun b => some (b == false)) g2), rfl, ⟨_, _, rfl⟩, fun d hd => by cases hd; rfl⟩
    · exact .inr ⟨(congrArg (fun b => some (b == false)) g2), rfl, ⟨_, _, rfl⟩, fun d hd => by cases hd; rfl⟩
    · exact .inr ⟨(congrArg (fun b => some (b == false)) g2), rfl, ⟨_, _, rfl⟩, fun d hd => by cases hd; rfl⟩
    · refine .inl ⟨rfl, fun s' jj bb (h1 : 0 ≤ jj) (h2 : jj ≤ 0) hs hl => ?_⟩
      obtain rfl : jj = 0 := by omega
      exact ⟨_, rfl, AOp.pickT rfl rfl (hl 14 (some 8) _ (.head _) rfl) g2 rfl⟩
    refine AWP.cond rfl (fun h3 => ?_) (fun h3 => ?_)
    · skip
      have h3b := h3
      try simp only [Bool.and_eq_true, Bool.or_eq_true, Bool.and_eq_false_iff, Bool.or_eq_false_iff, decide_eq_true_eq, decide_eq_false_iff_not, Bool.not_eq_true', Bool.not_eq_false', Bool.not_eq_eq_eq_not, Bool.not_true, Bool.not_false, ge_iff_le, gt_iff_lt, Int.not_lt, Int.not_le] at h3b
      refine AWP.seq ?_
      refine AWP.region_lit ?_
      refine AL.cons rfl (AOp.build rfl rfl zr113 pl113 rfl rfl) ?_
      refine AL.cons rfl (AOp.storePtr (cs := [.t (.leaf (.string (⟨#[]⟩))), .nil, .t (.leaf (.int .i64 (0))), .t (.leaf (.string (⟨#[]⟩))), .nil, .nil, .t (.leaf (.bool (false))), .t (.leaf (.bool (false))), .t (.leaf (.int .i64 (0))), .t (.leaf (.string (⟨#[]⟩))), .nil, .nil]) (ds := [.t (.leaf (.string (⟨#[]⟩))), .nil, .t (.leaf (.int .i64 (0))), .t (.leaf (.string (⟨#[]⟩))), .nil, .nil, .t (.leaf (.bool (false))), .t (.leaf (.bool (false))), .t (.leaf (.int .i64 (0))), .t (.leaf (.string (⟨#[]⟩))), .nil, .nil]) rfl rfl rfl rfl rfl rfl rfl sz113 (Nat.le_of_ble_eq_true rfl) rfl) ?_
      refine AL.cons rfl (AOp.move (.inr rfl) rfl rfl) ?_
      refine AL.nil ?_
      refine AWP.ret ?_
      exact Ends.mk (ps := [_, _]) (.inr rfl) ⟨⟨_, _, _, rfl, rfl, sh113, rfl, rfl⟩, rfl, trivial⟩ rfl (StLe.mk' (st' := ⟨[], []⟩) trivial rfl) (keeps_nil hC) (q := PV.tup [GInstance.pv GInstance.zero, .t (.leaf (.bool (false)))]) (by (repeat' (first | exact PV.Le.refl _ | exact LeL.nil | exact PV.Le.nil _ | exact PV.Le.acc _ _ _ | apply LeL.cons | apply PV.Le.agg | apply PV.Le.tup))) rfl ⟨by exact optInst_none (by first | exact instAt_m1 (by omega) | exact instAt_m2 (by omega) (by omega)), rfl⟩
    · skip
      exact absurd (h3.symm.trans rfl) (by decide)
  · skip
    have g2b := g2
    try simp only [Bool.and_eq_true, Bool.or_eq_true, Bool.and_eq_false_iff, Bool.or_eq_false_iff, decide_eq_true_eq, decide_eq_false_iff_not, Bool.not_eq_true', Bool.not_eq_false', Bool.not_eq_eq_eq_not, Bool.not_true, Bool.not_false, ge_iff_le, gt_iff_lt, Int.not_lt, Int.not_le] at g2b
    have hn4 : (o.gPackage).toNat < w.gPackages.length := by omega
    refine AWP.fact (box_len2 0 0 rfl rfl rfl (GPackage.trs_cs hn4) (j2 := 4) rfl (GInstance.trs_len _)) (fun hl5 => ?_)
    refine AWP.drawnL ⟨_, _, fun _ _ => (⟨[some ⟨31, [.t (.row 6 (GPackage.trs (w.gPackages)))]⟩, some ⟨33, [.t (.leaf (.int .i64 (o.gPackage))), .t (.leaf (.int .i64 (o.gAt)))]⟩, some ⟨113, [.t (.leaf (.string (⟨#[]⟩))), .nil, .t (.leaf (.int .i64 (0))), .t (.leaf (.string (⟨#[]⟩))), .nil, .nil, .t (.leaf (.bool (false))), .t (.leaf (.bool (false))), .t (.leaf (.int .i64 (0))), .t (.leaf (.string (⟨#[]⟩))), .nil, .nil]⟩], []⟩ : Sto), fun q' => ([some (.ptr 1 0), some (.t (.leaf (.int .i64 (o.gPackage)))), some (.ptr 0 0), some (.t (.row 6 (GPackage.trs (w.gPackages)))), some (.t (.leaf (.int .i64 (((w.gPackages.length : Nat) : Int))))), some (.t (.leaf (.int .i64 (((w.gPackages.length : Nat) : Int) - 1)))), some (.t (.leaf (.bool (decide ((o.gPackage : Int) ≥ 0) && decide ((o.gPackage : Int) ≤ (((w.gPackages.length : Nat) : Int) - 1)))))), some (.t (.leaf (.bool (!(decide ((o.gPackage : Int) ≥ 0) && decide ((o.gPackage : Int) ≤ (((w.gPackages.length : Nat) : Int) - 1))))))), some (.t (.leaf (.bool (!(decide ((o.gPackage : Int) ≥ 0) && decide ((o.gPackage : Int) ≤ (((w.gPackages.length : Nat) : Int) - 1))))))), some (.ptr 1 1), some (.t (.leaf (.int .i64 (o.gAt)))), some (.ptr 0 0), some (.t (.row 6 (GPackage.trs (w.gPackages)))), some (.ptr 1 0), some (.t (.leaf (.int .i64 (o.gPackage)))), some (.eptr (GPackage.cs (w.gPackages[(o.gPackage).toNat]))), some (.eptr ((GPackage.cs (w.gPackages[(o.gPackage).toNat])).drop 4)), some (.t (.row 12 (GInstance.trs ((w.gPackages[(o.gPackage).toNat]).gInstances)))), some (.t (.leaf (.int .i64 (((((w.gPackages[(o.gPackage).toNat]).gInstances).length : Nat) : Int))))), some (.t (.leaf (.int .i64 (((((w.gPackages[(o.gPackage).toNat]).gInstances).length : Nat) : Int) - 1)))), some (.t (.leaf (.bool (decide ((o.gAt : Int) ≥ 0) && decide ((o.gAt : Int) ≤ (((((w.gPackages[(o.gPackage).toNat]).gInstances).length : Nat) : Int) - 1)))))), some (.t (.leaf (.bool (!(decide ((o.gAt : Int) ≥ 0) && decide ((o.gAt : Int) ≤ (((((w.gPackages[(o.gPackage).toNat]).gInstances).length : Nat) : Int) - 1))))))), some (.t (.leaf (.bool (!(decide ((o.gAt : Int) ≥ 0) && decide ((o.gAt : Int) ≤ (((((w.gPackages[(o.gPackage).toNat]).gInstances).length : Nat) : Int) - 1)))))))] : List (Option PV)).getD q' none, fun q' => ([.q 0 0, .q 0 0, .q 0 0, .q 0 0, .q 0 0, .q 0 0, .q 0 0, .q 0 0, .q 0 0, .q 0 0, .q 0 0, .q 0 0, .q 0 0, .q 0 0, .q 0 0, .q 0 0, .q 0 0, .q 0 0, .q 0 0, .q 0 0, .q 0 0, .q 0 0, .q 0 0] : List DK).getD q' (.q 0 0), [], none, fun q' => ([[(3, none)], [(6, some 0)], [(2, none)], [(8, some 2)], [(9, some 3)], [(10, some 4)], [(11, some 5), (7, some 1)], [(12, some 6)], [(13, some 7)], [(3, none)], [(15, some 9)], [(2, none)], [(17, some 11)], [(3, none)], [(19, some 13)], [(18, some 12), (20, some 14)], [(21, some 15)], [(22, some 16)], [(23, some 17)], [(24, some 18)], [(25, some 19), (16, some 10)], [(26, some 20)], [(14, some 8), (27, some 21)]] : List (List (Nat × Option Nat))).getD q' []⟩ rfl mixed (by kernel_rfl) rfl rfl ⟨?_, ?_, ?_, ?_, ?_, ?_, ?_, ?_, ?_, ?_, ?_, ?_, ?_, ?_, ?_, ?_, ?_, ?_, ?_, ?_, ?_, ?_, ?_, trivial⟩ rfl ?_
    · refine .inl ⟨rfl, fun s' jj bb (h1 : 0 ≤ jj) (h2 : jj ≤ 0) hs hl => ?_⟩
      obtain rfl : jj = 0 := by omega
      exact ⟨_, rfl, AOp.fieldPtr (k := 1) (d := 0) (e := 0) rfl rfl (hl 3 none _ (.head _) rfl) fo33_0⟩
    · refine .inl ⟨rfl, fun s' jj bb (h1 : 0 ≤ jj) (h2 : jj ≤ 0) hs hl => ?_⟩
      obtain rfl : jj = 0 := by omega
      exact ⟨_, rfl, AOp.loadPtr1 rfl rfl (hl 6 (some 0) _ (.head _) rfl) (by rw [hs]; rfl) sh3 rfl⟩
    · refine .inl ⟨rfl, fun s' jj bb (h1 : 0 ≤ jj) (h2 : jj ≤ 0) hs hl => ?_⟩
      obtain rfl : jj = 0 := by omega
      exact ⟨_, rfl, AOp.fieldPtr (k := 0) (d := 0) (e := 0) rfl rfl (hl 2 none _ (.head _) rfl) fo31_0⟩
    · refine .inl ⟨rfl, fun s' jj bb (h1 : 0 ≤ jj) (h2 : jj ≤ 0) hs hl => ?_⟩
      obtain rfl : jj = 0 := by omega
      exact ⟨_, rfl, AOp.loadPtr1 rfl rfl (hl 8 (some 2) _ (.head _) rfl) (by rw [hs]; rfl) sh29 rfl⟩
    · refine .inl ⟨rfl, fun s' jj bb (h1 : 0 ≤ jj) (h2 : jj ≤ 0) hs hl => ?_⟩
      obtain rfl : jj = 0 := by omega
      exact ⟨_, rfl, AOp.lenN rfl rfl (hl 9 (some 3) _ (.head _) rfl) rfl el29 (GPackage.trs_len _)⟩
    · refine .inl ⟨rfl, fun s' jj bb (h1 : 0 ≤ jj) (h2 : jj ≤ 0) hs hl => ?_⟩
      obtain rfl : jj = 0 := by omega
      exact ⟨_, rfl, AOp.subI rfl rfl (hl 10 (some 4) _ (.head _) rfl) rfl (c := ((w.gPackages.length : Nat) : Int) - 1) (by omega) (by omega)⟩
    · refine .inl ⟨rfl, fun s' jj bb (h1 : 0 ≤ jj) (h2 : jj ≤ 0) hs hl => ?_⟩
      obtain rfl : jj = 0 := by omega
      exact ⟨_, rfl, AOp.callF (ps := [_, _, _]) rfl rfl Tryz.func137 (by kernel_rfl) rfl (evs_cons (hl 7 (some 1) _ (.tail _ (.head _)) rfl) (evs_cons rfl (evs_cons (hl 11 (some 5) _ (.head _) rfl) rfl))) (by (repeat' (first | exact PV.Le.refl _ | exact LeL.nil | exact PV.Le.nil _ | exact PV.Le.acc _ _ _ | apply LeL.cons | apply PV.Le.agg | apply PV.Le.tup))) rfl rfl (in_ok o.gPackage 0 (((w.gPackages.length : Nat) : Int) - 1))⟩
    · refine .inl ⟨rfl, fun s' jj bb (h1 : 0 ≤ jj) (h2 : jj ≤ 0) hs hl => ?_⟩
      obtain rfl : jj = 0 := by omega
      exact ⟨_, rfl, AOp.notB rfl rfl (hl 12 (some 6) _ (.head _) rfl)⟩
    · refine .inl ⟨rfl, fun s' jj bb (h1 : 0 ≤ jj) (h2 : jj ≤ 0) hs hl => ?_⟩
      obtain rfl : jj = 0 := by omega
      exact ⟨_, rfl, AOp.move (.inl rfl) rfl (hl 13 (some 7) _ (.head _) rfl)⟩
    · refine .inl ⟨(congrArg (fun b => some (b == false)) g2), fun s' jj bb (h1 : 0 ≤ jj) (h2 : jj ≤ 0) hs hl => ?_⟩
      obtain rfl : jj = 0 := by omega
      exact ⟨_, rfl, AOp.fieldPtr (k := 1) (d := 0) (e := 1) rfl rfl (hl 3 none _ (.head _) rfl) fo33_1⟩
    · refine .inl ⟨(congrArg (fun b => some (b == false)) g2), fun s' jj bb (h1 : 0 ≤ jj) (h2 : jj ≤ 0) hs hl => ?_⟩
      obtain rfl : jj = 0 := by omega
      exact ⟨_, rfl, AOp.loadPtr1 rfl rfl (hl 15 (some 9) _ (.head _) rfl) (by rw [hs]; rfl) sh3 rfl⟩
    · refine .inl ⟨(congrArg (fun b => some (b == false)) g2), fun s' jj bb (h1 : 0 ≤ jj) (h2 : jj ≤ 0) hs hl => ?_⟩
      obtain rfl : jj = 0 := by omega
      exact ⟨_, rfl, AOp.fieldPtr (k := 0) (d := 0) (e := 0) rfl rfl (hl 2 none _ (.head _) rfl) fo31_0⟩
    · refine .inl ⟨(congrArg (fun b => some (b == false)) g2), fun s' jj bb (h1 : 0 ≤ jj) (h2 : jj ≤ 0) hs hl => ?_⟩
      obtain rfl : jj = 0 := by omega
      exact ⟨_, rfl, AOp.loadPtr1 rfl rfl (hl 17 (some 11) _ (.head _) rfl) (by rw [hs]; rfl) sh29 rfl⟩
    · refine .inl ⟨(congrArg (fun b => some (b == false)) g2), fun s' jj bb (h1 : 0 ≤ jj) (h2 : jj ≤ 0) hs hl => ?_⟩
      obtain rfl : jj = 0 := by omega
      exact ⟨_, rfl, AOp.fieldPtr (k := 1) (d := 0) (e := 0) rfl rfl (hl 3 none _ (.head _) rfl) fo33_0⟩
    · refine .inl ⟨(congrArg (fun b => some (b == false)) g2), fun s' jj bb (h1 : 0 ≤ jj) (h2 : jj ≤ 0) hs hl => ?_⟩
      obtain rfl : jj = 0 := by omega
      exact ⟨_, rfl, AOp.loadPtr1 rfl rfl (hl 19 (some 13) _ (.head _) rfl) (by rw [hs]; rfl) sh3 rfl⟩
    · refine .inl ⟨(congrArg (fun b => some (b == false)) g2), fun s' jj bb (h1 : 0 ≤ jj) (h2 : jj ≤ 0) hs hl => ?_⟩
      obtain rfl : jj = 0 := by omega
      exact ⟨_, rfl, AOp.indexI (y := o.gPackage) rfl rfl (hl 18 (some 12) _ (.head _) rfl) rfl (hl 20 (some 14) _ (.tail _ (.head _)) rfl) (by omega) (GPackage.trs_cs hn4) el29⟩
    · refine .inl ⟨(congrArg (fun b => some (b == false)) g2), fun s' jj bb (h1 : 0 ≤ jj) (h2 : jj ≤ 0) hs hl => ?_⟩
      obtain rfl : jj = 0 := by omega
      exact ⟨_, rfl, AOp.fieldEptr (cs := (GPackage.cs (w.gPackages[(o.gPackage).toNat]))) (e := 4) rfl rfl (hl 21 (some 15) _ (.head _) rfl) fo126_4⟩
    · refine .inl ⟨(congrArg (fun b => some (b == false)) g2), fun s' jj bb (h1 : 0 ≤ jj) (h2 : jj ≤ 0) hs hl => ?_⟩
      obtain rfl : jj = 0 := by omega
      exact ⟨_, rfl, AOp.loadEptr1 (d := .row 12 (GInstance.trs ((w.gPackages[(o.gPackage).toNat]).gInstances))) rfl rfl (hl 22 (some 16) _ (.head _) rfl) sh123 rfl⟩
    · refine .inl ⟨(congrArg (fun b => some (b == false)) g2), fun s' jj bb (h1 : 0 ≤ jj) (h2 : jj ≤ 0) hs hl => ?_⟩
      obtain rfl : jj = 0 := by omega
      exact ⟨_, rfl, AOp.lenN rfl rfl (hl 23 (some 17) _ (.head _) rfl) rfl el123 (GInstance.trs_len _)⟩
    · refine .inl ⟨(congrArg (fun b => some (b == false)) g2), fun s' jj bb (h1 : 0 ≤ jj) (h2 : jj ≤ 0) hs hl => ?_⟩
      obtain rfl : jj = 0 := by omega
      exact ⟨_, rfl, AOp.subI rfl rfl (hl 24 (some 18) _ (.head _) rfl) rfl (c := ((((w.gPackages[(o.gPackage).toNat]).gInstances).length : Nat) : Int) - 1) (by omega) (by omega)⟩
    · refine .inl ⟨(congrArg (fun b => some (b == false)) g2), fun s' jj bb (h1 : 0 ≤ jj) (h2 : jj ≤ 0) hs hl => ?_⟩
      obtain rfl : jj = 0 := by omega
      exact ⟨_, rfl, AOp.callF (ps := [_, _, _]) rfl rfl Tryz.func137 (by kernel_rfl) rfl (evs_cons (hl 16 (some 10) _ (.tail _ (.head _)) rfl) (evs_cons rfl (evs_cons (hl 25 (some 19) _ (.head _) rfl) rfl))) (by (repeat' (first | exact PV.Le.refl _ | exact LeL.nil | exact PV.Le.nil _ | exact PV.Le.acc _ _ _ | apply LeL.cons | apply PV.Le.agg | apply PV.Le.tup))) rfl rfl (in_ok o.gAt 0 (((((w.gPackages[(o.gPackage).toNat]).gInstances).length : Nat) : Int) - 1))⟩
    · refine .inl ⟨(congrArg (fun b => some (b == false)) g2), fun s' jj bb (h1 : 0 ≤ jj) (h2 : jj ≤ 0) hs hl => ?_⟩
      obtain rfl : jj = 0 := by omega
      exact ⟨_, rfl, AOp.notB rfl rfl (hl 26 (some 20) _ (.head _) rfl)⟩
    · refine .inl ⟨rfl, fun s' jj bb (h1 : 0 ≤ jj) (h2 : jj ≤ 0) hs hl => ?_⟩
      obtain rfl : jj = 0 := by omega
      exact ⟨_, rfl, AOp.pickF rfl rfl (hl 14 (some 8) _ (.head _) rfl) g2 (hl 27 (some 21) _ (.tail _ (.head _)) rfl)⟩
    refine AWP.cond rfl (fun h6 => ?_) (fun h6 => ?_)
    · skip
      have h6b := h6
      try simp only [Bool.and_eq_true, Bool.or_eq_true, Bool.and_eq_false_iff, Bool.or_eq_false_iff, decide_eq_true_eq, decide_eq_false_iff_not, Bool.not_eq_true', Bool.not_eq_false', Bool.not_eq_eq_eq_not, Bool.not_true, Bool.not_false, ge_iff_le, gt_iff_lt, Int.not_lt, Int.not_le] at h6b
      refine AWP.seq ?_
      refine AWP.region_lit ?_
      refine AL.cons rfl (AOp.build rfl rfl zr113 pl113 rfl rfl) ?_
      refine AL.cons rfl (AOp.storePtr (cs := [.t (.leaf (.string (⟨#[]⟩))), .nil, .t (.leaf (.int .i64 (0))), .t (.leaf (.string (⟨#[]⟩))), .nil, .nil, .t (.leaf (.bool (false))), .t (.leaf (.bool (false))), .t (.leaf (.int .i64 (0))), .t (.leaf (.string (⟨#[]⟩))), .nil, .nil]) (ds := [.t (.leaf (.string (⟨#[]⟩))), .nil, .t (.leaf (.int .i64 (0))), .t (.leaf (.string (⟨#[]⟩))), .nil, .nil, .t (.leaf (.bool (false))), .t (.leaf (.bool (false))), .t (.leaf (.int .i64 (0))), .t (.leaf (.string (⟨#[]⟩))), .nil, .nil]) rfl rfl rfl rfl rfl rfl rfl sz113 (Nat.le_of_ble_eq_true rfl) rfl) ?_
      refine AL.cons rfl (AOp.move (.inr rfl) rfl rfl) ?_
      refine AL.nil ?_
      refine AWP.ret ?_
      exact Ends.mk (ps := [_, _]) (.inr rfl) ⟨⟨_, _, _, rfl, rfl, sh113, rfl, rfl⟩, rfl, trivial⟩ rfl (StLe.mk' (st' := ⟨[], []⟩) trivial rfl) (keeps_nil hC) (q := PV.tup [GInstance.pv GInstance.zero, .t (.leaf (.bool (false)))]) (by (repeat' (first | exact PV.Le.refl _ | exact LeL.nil | exact PV.Le.nil _ | exact PV.Le.acc _ _ _ | apply LeL.cons | apply PV.Le.agg | apply PV.Le.tup))) rfl ⟨by exact optInst_none (by first | exact instAt_m1 (by omega) | exact instAt_m2 (by omega) (by omega)), rfl⟩
    · skip
      have h6b := h6
      try simp only [Bool.and_eq_true, Bool.or_eq_true, Bool.and_eq_false_iff, Bool.or_eq_false_iff, decide_eq_true_eq, decide_eq_false_iff_not, Bool.not_eq_true', Bool.not_eq_false', Bool.not_eq_eq_eq_not, Bool.not_true, Bool.not_false, ge_iff_le, gt_iff_lt, Int.not_lt, Int.not_le] at h6b
      refine AWP.skip ?_
      refine AWP.seq ?_
      have hn7 : (o.gAt).toNat < ((w.gPackages[(o.gPackage).toNat]).gInstances).length := by omega
      refine AWP.drawnL ⟨_, _, fun j' _ => ([(⟨[some ⟨31, [.t (.row 6 (GPackage.trs (w.gPackages)))]⟩, some ⟨33, [.t (.leaf (.int .i64 (o.gPackage))), .t (.leaf (.int .i64 (o.gAt)))]⟩, some ⟨113, [.t (.leaf (.string (⟨#[]⟩))), .nil, .t (.leaf (.int .i64 (0))), .t (.leaf (.string (⟨#[]⟩))), .nil, .nil, .t (.leaf (.bool (false))), .t (.leaf (.bool (false))), .t (.leaf (.int .i64 (0))), .t (.leaf (.string (⟨#[]⟩))), .nil, .nil]⟩], []⟩ : Sto), (⟨[some ⟨31, [.t (.row 6 (GPackage.trs (w.gPackages)))]⟩, some ⟨33, [.t (.leaf (.int .i64 (o.gPackage))), .t (.leaf (.int .i64 (o.gAt)))]⟩, some ⟨113, [.t (.leaf (.string ((((w.gPackages[(o.gPackage).toNat]).gInstances)[(o.gAt).toNat]).gTrait))), .t (.row 1 (strTrs ((((w.gPackages[(o.gPackage).toNat]).gInstances)[(o.gAt).toNat]).gVars))), .t (.leaf (.int .i64 ((((w.gPackages[(o.gPackage).toNat]).gInstances)[(o.gAt).toNat]).gHead.gKind))), .t (.leaf (.string ((((w.gPackages[(o.gPackage).toNat]).gInstances)[(o.gAt).toNat]).gHead.gName))), .t (.row 3 (GType.trs ((((w.gPackages[(o.gPackage).toNat]).gInstances)[(o.gAt).toNat]).gHead.gArgs))), .t (.row 4 (GBound.trs ((((w.gPackages[(o.gPackage).toNat]).gInstances)[(o.gAt).toNat]).gWhere))), .t (.leaf (.bool ((((w.gPackages[(o.gPackage).toNat]).gInstances)[(o.gAt).toNat]).gDefault))), .t (.leaf (.bool ((((w.gPackages[(o.gPackage).toNat]).gInstances)[(o.gAt).toNat]).gHasAssoc))), .t (.leaf (.int .i64 ((((w.gPackages[(o.gPackage).toNat]).gInstances)[(o.gAt).toNat]).gAssoc.gKind))), .t (.leaf (.string ((((w.gPackages[(o.gPackage).toNat]).gInstances)[(o.gAt).toNat]).gAssoc.gName))), .t (.row 3 (GType.trs ((((w.gPackages[(o.gPackage).toNat]).gInstances)[(o.gAt).toNat]).gAssoc.gArgs))), .t (.row 11 (GMethod.trs ((((w.gPackages[(o.gPackage).toNat]).gInstances)[(o.gAt).toNat]).gMethods)))]⟩], []⟩ : Sto)] : List Sto).getD j' (⟨[some ⟨31, [.t (.row 6 (GPackage.trs (w.gPackages)))]⟩, some ⟨33, [.t (.leaf (.int .i64 (o.gPackage))), .t (.leaf (.int .i64 (o.gAt)))]⟩, some ⟨113, [.t (.leaf (.string ((((w.gPackages[(o.gPackage).toNat]).gInstances)[(o.gAt).toNat]).gTrait))), .t (.row 1 (strTrs ((((w.gPackages[(o.gPackage).toNat]).gInstances)[(o.gAt).toNat]).gVars))), .t (.leaf (.int .i64 ((((w.gPackages[(o.gPackage).toNat]).gInstances)[(o.gAt).toNat]).gHead.gKind))), .t (.leaf (.string ((((w.gPackages[(o.gPackage).toNat]).gInstances)[(o.gAt).toNat]).gHead.gName))), .t (.row 3 (GType.trs ((((w.gPackages[(o.gPackage).toNat]).gInstances)[(o.gAt).toNat]).gHead.gArgs))), .t (.row 4 (GBound.trs ((((w.gPackages[(o.gPackage).toNat]).gInstances)[(o.gAt).toNat]).gWhere))), .t (.leaf (.bool ((((w.gPackages[(o.gPackage).toNat]).gInstances)[(o.gAt).toNat]).gDefault))), .t (.leaf (.bool ((((w.gPackages[(o.gPackage).toNat]).gInstances)[(o.gAt).toNat]).gHasAssoc))), .t (.leaf (.int .i64 ((((w.gPackages[(o.gPackage).toNat]).gInstances)[(o.gAt).toNat]).gAssoc.gKind))), .t (.leaf (.string ((((w.gPackages[(o.gPackage).toNat]).gInstances)[(o.gAt).toNat]).gAssoc.gName))), .t (.row 3 (GType.trs ((((w.gPackages[(o.gPackage).toNat]).gInstances)[(o.gAt).toNat]).gAssoc.gArgs))), .t (.row 11 (GMethod.trs ((((w.gPackages[(o.gPackage).toNat]).gInstances)[(o.gAt).toNat]).gMethods)))]⟩], []⟩ : Sto), fun q' => ([some (.ptr 0 0), some (.t (.row 6 (GPackage.trs (w.gPackages)))), some (.ptr 1 0), some (.t (.leaf (.int .i64 (o.gPackage)))), some (.eptr (GPackage.cs (w.gPackages[(o.gPackage).toNat]))), some (.eptr ((GPackage.cs (w.gPackages[(o.gPackage).toNat])).drop 4)), some (.t (.row 12 (GInstance.trs ((w.gPackages[(o.gPackage).toNat]).gInstances)))), some (.ptr 1 1), some (.t (.leaf (.int .i64 (o.gAt)))), some (.eptr (GInstance.cs (((w.gPackages[(o.gPackage).toNat]).gInstances)[(o.gAt).toNat]))), some ((GInstance.pv (((w.gPackages[(o.gPackage).toNat]).gInstances)[(o.gAt).toNat]))), none, some (.t (.leaf (.bool (true))))] : List (Option PV)).getD q' none, fun q' => ([.q 0 0, .q 0 0, .q 0 0, .q 0 0, .q 0 0, .q 0 0, .q 0 0, .q 0 0, .q 0 0, .q 0 0, .q 0 0, .ef 0, .q 1 1] : List DK).getD q' (.q 0 0), [11], none, fun q' => ([[(2, none)], [(30, some 0)], [(3, none)], [(32, some 2)], [(31, some 1), (33, some 3)], [(34, some 4)], [(35, some 5)], [(3, none)], [(37, some 7)], [(36, some 6), (38, some 8)], [(39, some 9)], [(4, none), (40, some 10)], []] : List (List (Nat × Option Nat))).getD q' []⟩ rfl mixed (by kernel_rfl) rfl rfl ⟨?_, ?_, ?_, ?_, ?_, ?_, ?_, ?_, ?_, ?_, ?_, ?_, ?_, trivial⟩ rfl ?_
      · refine .inl ⟨rfl, fun s' jj bb (h1 : 0 ≤ jj) (h2 : jj ≤ 0) hs hl => ?_⟩
        obtain rfl : jj = 0 := by omega
        exact ⟨_, rfl, AOp.fieldPtr (k := 0) (d := 0) (e := 0) rfl rfl (hl 2 none _ (.head _) rfl) fo31_0⟩
      · refine .inl ⟨rfl, fun s' jj bb (h1 : 0 ≤ jj) (h2 : jj ≤ 0) hs hl => ?_⟩
        obtain rfl : jj = 0 := by omega
        exact ⟨_, rfl, AOp.loadPtr1 rfl rfl (hl 30 (some 0) _ (.head _) rfl) (by rw [hs]; rfl) sh29 rfl⟩
      · refine .inl ⟨rfl, fun s' jj bb (h1 : 0 ≤ jj) (h2 : jj ≤ 0) hs hl => ?_⟩
        obtain rfl : jj = 0 := by omega
        exact ⟨_, rfl, AOp.fieldPtr (k := 1) (d := 0) (e := 0) rfl rfl (hl 3 none _ (.head _) rfl) fo33_0⟩
      · refine .inl ⟨rfl, fun s' jj bb (h1 : 0 ≤ jj) (h2 : jj ≤ 0) hs hl => ?_⟩
        obtain rfl : jj = 0 := by omega
        exact ⟨_, rfl, AOp.loadPtr1 rfl rfl (hl 32 (some 2) _ (.head _) rfl) (by rw [hs]; rfl) sh3 rfl⟩
      · refine .inl ⟨rfl, fun s' jj bb (h1 : 0 ≤ jj) (h2 : jj ≤ 0) hs hl => ?_⟩
        obtain rfl : jj = 0 := by omega
        exact ⟨_, rfl, AOp.indexI (y := o.gPackage) rfl rfl (hl 31 (some 1) _ (.head _) rfl) rfl (hl 33 (some 3) _ (.tail _ (.head _)) rfl) (by omega) (GPackage.trs_cs hn4) el29⟩
      · refine .inl ⟨rfl, fun s' jj bb (h1 : 0 ≤ jj) (h2 : jj ≤ 0) hs hl => ?_⟩
        obtain rfl : jj = 0 := by omega
        exact ⟨_, rfl, AOp.fieldEptr (cs := (GPackage.cs (w.gPackages[(o.gPackage).toNat]))) (e := 4) rfl rfl (hl 34 (some 4) _ (.head _) rfl) fo126_4⟩
      · refine .inl ⟨rfl, fun s' jj bb (h1 : 0 ≤ jj) (h2 : jj ≤ 0) hs hl => ?_⟩
        obtain rfl : jj = 0 := by omega
        exact ⟨_, rfl, AOp.loadEptr1 (d := .row 12 (GInstance.trs ((w.gPackages[(o.gPackage).toNat]).gInstances))) rfl rfl (hl 35 (some 5) _ (.head _) rfl) sh123 rfl⟩
      · refine .inl ⟨rfl, fun s' jj bb (h1 : 0 ≤ jj) (h2 : jj ≤ 0) hs hl => ?_⟩
        obtain rfl : jj = 0 := by omega
        exact ⟨_, rfl, AOp.fieldPtr (k := 1) (d := 0) (e := 1) rfl rfl (hl 3 none _ (.head _) rfl) fo33_1⟩
      · refine .inl ⟨rfl, fun s' jj bb (h1 : 0 ≤ jj) (h2 : jj ≤ 0) hs hl => ?_⟩
        obtain rfl : jj = 0 := by omega
        exact ⟨_, rfl, AOp.loadPtr1 rfl rfl (hl 37 (some 7) _ (.head _) rfl) (by rw [hs]; rfl) sh3 rfl⟩
      · refine .inl ⟨rfl, fun s' jj bb (h1 : 0 ≤ jj) (h2 : jj ≤ 0) hs hl => ?_⟩
        obtain rfl : jj = 0 := by omega
        exact ⟨_, rfl, AOp.indexI (y := o.gAt) rfl rfl (hl 36 (some 6) _ (.head _) rfl) rfl (hl 38 (some 8) _ (.tail _ (.head _)) rfl) (by omega) (GInstance.trs_cs hn7) el123⟩
      · refine .inl ⟨rfl, fun s' jj bb (h1 : 0 ≤ jj) (h2 : jj ≤ 0) hs hl => ?_⟩
        obtain rfl : jj = 0 := by omega
        exact ⟨_, rfl, AOp.loadEptr (ds := [.leaf (.string ((((w.gPackages[(o.gPackage).toNat]).gInstances)[(o.gAt).toNat]).gTrait)), .row 1 (strTrs ((((w.gPackages[(o.gPackage).toNat]).gInstances)[(o.gAt).toNat]).gVars)), .leaf (.int .i64 ((((w.gPackages[(o.gPackage).toNat]).gInstances)[(o.gAt).toNat]).gHead.gKind)), .leaf (.string ((((w.gPackages[(o.gPackage).toNat]).gInstances)[(o.gAt).toNat]).gHead.gName)), .row 3 (GType.trs ((((w.gPackages[(o.gPackage).toNat]).gInstances)[(o.gAt).toNat]).gHead.gArgs)), .row 4 (GBound.trs ((((w.gPackages[(o.gPackage).toNat]).gInstances)[(o.gAt).toNat]).gWhere)), .leaf (.bool ((((w.gPackages[(o.gPackage).toNat]).gInstances)[(o.gAt).toNat]).gDefault)), .leaf (.bool ((((w.gPackages[(o.gPackage).toNat]).gInstances)[(o.gAt).toNat]).gHasAssoc)), .leaf (.int .i64 ((((w.gPackages[(o.gPackage).toNat]).gInstances)[(o.gAt).toNat]).gAssoc.gKind)), .leaf (.string ((((w.gPackages[(o.gPackage).toNat]).gInstances)[(o.gAt).toNat]).gAssoc.gName)), .row 3 (GType.trs ((((w.gPackages[(o.gPackage).toNat]).gInstances)[(o.gAt).toNat]).gAssoc.gArgs)), .row 11 (GMethod.trs ((((w.gPackages[(o.gPackage).toNat]).gInstances)[(o.gAt).toNat]).gMethods))]) rfl rfl (hl 39 (some 9) _ (.head _) rfl) sh113 rfl rfl⟩
      · refine .inl ⟨rfl, fun s' bb hs hl => ?_⟩
        refine .inr ⟨rfl, AOp.congr (AOp.storePtr (cs := [.t (.leaf (.string ((((w.gPackages[(o.gPackage).toNat]).gInstances)[(o.gAt).toNat]).gTrait))), .t (.row 1 (strTrs ((((w.gPackages[(o.gPackage).toNat]).gInstances)[(o.gAt).toNat]).gVars))), .t (.leaf (.int .i64 ((((w.gPackages[(o.gPackage).toNat]).gInstances)[(o.gAt).toNat]).gHead.gKind))), .t (.leaf (.string ((((w.gPackages[(o.gPackage).toNat]).gInstances)[(o.gAt).toNat]).gHead.gName))), .t (.row 3 (GType.trs ((((w.gPackages[(o.gPackage).toNat]).gInstances)[(o.gAt).toNat]).gHead.gArgs))), .t (.row 4 (GBound.trs ((((w.gPackages[(o.gPackage).toNat]).gInstances)[(o.gAt).toNat]).gWhere))), .t (.leaf (.bool ((((w.gPackages[(o.gPackage).toNat]).gInstances)[(o.gAt).toNat]).gDefault))), .t (.leaf (.bool ((((w.gPackages[(o.gPackage).toNat]).gInstances)[(o.gAt).toNat]).gHasAssoc))), .t (.leaf (.int .i64 ((((w.gPackages[(o.gPackage).toNat]).gInstances)[(o.gAt).toNat]).gAssoc.gKind))), .t (.leaf (.string ((((w.gPackages[(o.gPackage).toNat]).gInstances)[(o.gAt).toNat]).gAssoc.gName))), .t (.row 3 (GType.trs ((((w.gPackages[(o.gPackage).toNat]).gInstances)[(o.gAt).toNat]).gAssoc.gArgs))), .t (.row 11 (GMethod.trs ((((w.gPackages[(o.gPackage).toNat]).gInstances)[(o.gAt).toNat]).gMethods)))]) (ds := [.t (.leaf (.string ((((w.gPackages[(o.gPackage).toNat]).gInstances)[(o.gAt).toNat]).gTrait))), .t (.row 1 (strTrs ((((w.gPackages[(o.gPackage).toNat]).gInstances)[(o.gAt).toNat]).gVars))), .t (.leaf (.int .i64 ((((w.gPackages[(o.gPackage).toNat]).gInstances)[(o.gAt).toNat]).gHead.gKind))), .t (.leaf (.string ((((w.gPackages[(o.gPackage).toNat]).gInstances)[(o.gAt).toNat]).gHead.gName))), .t (.row 3 (GType.trs ((((w.gPackages[(o.gPackage).toNat]).gInstances)[(o.gAt).toNat]).gHead.gArgs))), .t (.row 4 (GBound.trs ((((w.gPackages[(o.gPackage).toNat]).gInstances)[(o.gAt).toNat]).gWhere))), .t (.leaf (.bool ((((w.gPackages[(o.gPackage).toNat]).gInstances)[(o.gAt).toNat]).gDefault))), .t (.leaf (.bool ((((w.gPackages[(o.gPackage).toNat]).gInstances)[(o.gAt).toNat]).gHasAssoc))), .t (.leaf (.int .i64 ((((w.gPackages[(o.gPackage).toNat]).gInstances)[(o.gAt).toNat]).gAssoc.gKind))), .t (.leaf (.string ((((w.gPackages[(o.gPackage).toNat]).gInstances)[(o.gAt).toNat]).gAssoc.gName))), .t (.row 3 (GType.trs ((((w.gPackages[(o.gPackage).toNat]).gInstances)[(o.gAt).toNat]).gAssoc.gArgs))), .t (.row 11 (GMethod.trs ((((w.gPackages[(o.gPackage).toNat]).gInstances)[(o.gAt).toNat]).gMethods)))]) rfl (hl 4 none _ (.head _) rfl) (by rw [hs]; rfl) (hl 40 (some 10) _ (.tail _ (.head _)) rfl) rfl rfl rfl sz113 (Nat.le_of_ble_eq_true rfl) rfl) ?_⟩
        first | (rw [hs]; rfl) | rfl
      · refine .inl ⟨rfl, fun s' jj bb (h1 : 1 ≤ jj) (h2 : jj ≤ 1) hs hl => ?_⟩
        obtain rfl : jj = 1 := by omega
        exact ⟨_, rfl, AOp.move (.inr rfl) rfl rfl⟩
      refine AWP.ret ?_
      exact Ends.mk (ps := [_, _]) (.inr rfl) ⟨⟨_, _, _, rfl, rfl, sh113, rfl, rfl⟩, rfl, trivial⟩ rfl (StLe.mk' (st' := ⟨[], []⟩) trivial rfl) (keeps_nil hC) (q := (.tup [(GInstance.pv (((w.gPackages[(o.gPackage).toNat]).gInstances)[(o.gAt).toNat])), .t (.leaf (.bool (true)))] : PV)) (by (repeat' (first | exact PV.Le.refl _ | exact LeL.nil | exact PV.Le.nil _ | exact PV.Le.acc _ _ _ | apply LeL.cons | apply PV.Le.agg | apply PV.Le.tup))) rfl ⟨by exact optInst_some (instAt_hit (by omega) (by omega) (by omega) (by omega)), rfl⟩

end Go.Proofs.YtnakkelglbcecaaGreat

namespace Go.Proofs.YtnakkelglbcecaaGreat
set_option linter.unusedSimpArgs false
set_option linter.unusedVariables false
open Go.RowKit Go.WalkArith Go.IntWalk Go.WideShapes

theorem ev_keepRow {st : Sto} {m : Lay} {w w' : World} {row : PRow} {o : Option (Nat × Nat)} (hx : Ext w w') (hf : ∀ g c, o = some (g, c) → w.heap.size ≤ g) : Ev st m w (st.addRow row) ⟨m.ρ, upd m.γ st.rows.length o⟩ w' := by
  refine ⟨hx.os, hx.tape, hx.output, hx.size, fun b hb _ _ => hx.block b hb, fun b o hb _ => heap_other_cell (hx.block b hb), fun b o hb h => ⟨h.1, fun i row' g c' hi hg e => ?_⟩, fun _ x h => ⟨⟨x, h⟩, rfl⟩, fun _ x h => .inl ⟨x, h⟩, fun i row' hi => ⟨row', ?_, rfl, Nat.le_refl _, fun _ => ?_, fun hw => ⟨hw, ?_⟩⟩, fun i row' g c' hi hg => ?_⟩
  · rcases getElem?_snoc hi with ⟨h1, h2⟩ | ⟨rfl, rfl⟩
    · simp only [upd_ne (show i ≠ st.rows.length by omega)] at hg
      exact h.2 i row' g c' h2 hg e
    · simp only [upd_same] at hg
      have := hf _ _ hg
      omega
  · show (st.rows ++ [row])[i]? = _
    rw [List.getElem?_append_left (get_lt hi)]; exact hi
  · exact upd_ne (by have := get_lt hi; omega)
  · exact upd_ne (by have := get_lt hi; omega)
  · rcases getElem?_snoc hi with ⟨h1, h2⟩ | ⟨rfl, rfl⟩
    · simp only [upd_ne (show i ≠ st.rows.length by omega)] at hg
      exact .inl ⟨row', c', h2, hg⟩
    · simp only [upd_same] at hg
      exact .inr (hf _ _ hg)
theorem sto_keepRow {av : Nat → Nat → Prop} {st : Sto} {m : Lay} {w w' : World} {row : PRow} {o : Option (Nat × Nat)} (h : StoOk av st m w) (hx : Ext w w') (hf : ∀ g c, o = some (g, c) → w.heap.size ≤ g)
    (hr : RowOk (okA av (st.addRow row) ⟨m.ρ, upd m.γ st.rows.length o⟩) ⟨m.ρ, upd m.γ st.rows.length o⟩ w' st.rows.length row) : StoOk av (st.addRow row) ⟨m.ρ, upd m.γ st.rows.length o⟩ w' := by
  have ev : Ev st m w (st.addRow row) ⟨m.ρ, upd m.γ st.rows.length o⟩ w' := ev_keepRow hx hf
  have key : ∀ i row' g c', (st.addRow row).rows[i]? = some row' → upd m.γ st.rows.length o i = some (g, c') → (i < st.rows.length ∧ st.rows[i]? = some row' ∧ m.γ i = some (g, c')) ∨ (i = st.rows.length ∧ w.heap.size ≤ g) := fun i row' g c' hi hg => by
    rcases getElem?_snoc hi with ⟨h1, h2⟩ | ⟨rfl, rfl⟩
    · rw [upd_ne (show i ≠ st.rows.length by omega)] at hg
      exact .inl ⟨h1, h2, hg⟩
    · simp only [upd_same] at hg
      exact .inr ⟨rfl, hf _ _ hg⟩
  refine ⟨fun k x hk => ?_, h.binj, fun i row' hi => ?_, fun i i' row' row'' g c' c'' hi hi' hg hg' => ?_, fun k x i row' g c' hk hi hg => ?_, fun b o hb => Nat.lt_of_lt_of_le (h.avlt b o hb) hx.size, fun i row' g c' hi hg o => ?_⟩
  · obtain ⟨vs, k1, k2⟩ := h.box k x hk
    exact ⟨vs, k1.ext hx, RVL.mono ev _ _ k2⟩
  · rcases getElem?_snoc hi with ⟨h1, h2⟩ | ⟨rfl, rfl⟩
    · obtain ⟨k1, k2, k3⟩ := h.row i row' h2
      refine ⟨k1, k2, ?_⟩
      simp only [upd_ne (show i ≠ st.rows.length by omega)]
      rcases k3 with k3 | ⟨g, c', cur', q1, q2, q3, q4, q5, q6⟩
      · exact .inl k3
      · exact .inr ⟨g, c', cur', q1, q2.ext hx, q3, q4, q5, RV.mono ev (.t _) _ q6⟩
    · exact hr
  · rcases key i row' g c' hi hg with ⟨h0, h1, h2⟩ | ⟨h1, h2⟩ <;> rcases key i' row'' g c'' hi' hg' with ⟨h0', h1', h2'⟩ | ⟨h1', h2'⟩
    · exact h.rinj i i' row' row'' g c' c'' h1 h1' h2 h2'
    · have := h.row_lt h1 h2; omega
    · have := h.row_lt h1' h2'; omega
    · omega
  · rcases key i row' g c' hi hg with ⟨h0, h1, h2⟩ | ⟨h1, h2⟩
    · exact h.br k x i row' g c' hk h1 h2
    · have := h.box_lt hk
      show m.ρ k ≠ g
      omega
  · rcases key i row' g c' hi hg with ⟨h0, h1, h2⟩ | ⟨h1, h2⟩
    · exact h.avr i row' g c' h1 h2 o
    · intro ha
      have := h.avlt _ _ ha
      omega

def rowRes (sz : Nat) (es : List (List Tr)) : Option (List PV) → Nat → PV
  | none, k => .acc sz es k
  | some ps, k => .tup (.acc sz es k :: ps)
/-- The function is handed data, and returns a slice of its own making (and data beside it). -/
def ARow (P : Program) (f : FuncId) (args : List PV) (E : TypeId) (sz : Nat) (es : List (List Tr)) (ps : Option (List PV)) : Prop :=
  ACalls P f args ⟨[], []⟩ (fun r st' => ∃ k, r = rowRes sz es ps k ∧ st'.rows[k]? = some ⟨E, sz, es, false⟩)

section
variable {P : Program} {C : Ctx} {n : Nat} {s : AS} {o : Oper}
theorem AOp.callRow {f : FuncId} {fn : Func} {xs : List Operand} {ts : Array TypeId} {ps qs : List PV} {E : TypeId} {sz : Nat} {es : List (List Tr)} {rs : Option (List PV)} (ho : o.op = .call { callee := .value (.func f), args := ⟨xs⟩, argTypes := ts }) (hd : dstOk o.dst n = true) (hf : P.funcs[f]? = some fn) (hnm : (fn.name == "runtime.NumGoroutine") = false) (hb : fn.body.isNone = false)
    (hx : xs.map s.ev = ps.map some) (hle : LeL ps qs) (hfr : freeL qs = true) (hfr' : freeL (rs.getD []) = true) (hc : ARow P f qs E sz es rs) : AOp P C n o s ((⟨s.env, s.st.addRow ⟨E, sz, es, false⟩⟩ : AS).putO o.dst (rowRes sz es rs s.st.rows.length)) := fun m a w h K Q hK => by
  have h2 := evL h hx
  have h1 : (execOp a.eval o).run P w = .ok (.enter f ⟨xs.map a.eval⟩) w := by
    have hcf := run_callFunc_body (P := P) hf hnm hb
    unfold execOp
    simp only [ho]
    simp [resolve, invoke, Deferred.ofValue, Act.eval, hcf]
  unfold Oper.wp
  rw [h1]
  have h3 := hc (shut C s m w) m w _ (StoOk.nil fun b o hb => hb.1) (freeL.rv (fun b o hb hk => ⟨fun hs => hs.2 hk, fun _ _ h => by simp at h, fun _ _ _ _ h => by simp at h⟩) _ _ hfr (LeL.rv hle h2))
  refine Calls.mono h3 fun e w' => ?_
  rintro ⟨r, st', m', v, rfl, ⟨k, rfl, hrow⟩, h4, h5, h6⟩
  have hx : Ext w w' := ⟨h5.os, h5.tape, h5.output, h5.size, fun b hb => h5.blk b hb (fun _ _ h => by simp at h) (fun _ _ _ _ h => by simp at h)⟩
  have hfresh : ∀ g c, m'.γ k = some (g, c) → w.heap.size ≤ g := fun g c hg => by
    rcases h5.rfresh k _ g c hrow hg with ⟨row, c0, hr, _⟩ | hf
    · simp at hr
    · exact hf
  obtain ⟨q1, q2, q3⟩ := h4.row k _ hrow
  have hk : ∀ b o, b < w'.heap.size → okA (shut C s m w) st' m' b o → okA C.av (s.st.addRow ⟨E, sz, es, false⟩) ⟨m.ρ, upd m.γ s.st.rows.length (m'.γ k)⟩ b o := fun b o hb hk => by
    have h0 : okA C.av s.st m b o := by
      rcases Nat.lt_or_ge b w.heap.size with hlt | hge
      · exact Classical.byContradiction fun hn => hk.1 ⟨hlt, hn⟩
      · exact okA_new h.sto hge o
    refine ⟨h0.1, h0.2.1, fun i row' g c hi hg e => ?_⟩
    rcases getElem?_snoc hi with ⟨q1, q2⟩ | ⟨rfl, rfl⟩
    · simp only [upd_ne (show i ≠ s.st.rows.length by omega)] at hg
      exact h0.2.2 i row' g c q2 hg e
    · simp only [upd_same] at hg
      exact hk.2.2 k _ g c hrow hg e
  have hE : Ev s.st m w (s.st.addRow ⟨E, sz, es, false⟩) ⟨m.ρ, upd m.γ s.st.rows.length (m'.γ k)⟩ w' := ev_keepRow hx hfresh
  have hS : StoOk C.av (s.st.addRow ⟨E, sz, es, false⟩) ⟨m.ρ, upd m.γ s.st.rows.length (m'.γ k)⟩ w' := sto_keepRow h.sto hx hfresh ⟨q1, q2, by
    rcases q3 with ⟨a, b⟩ | ⟨g, c, cur, r1, r2, r3, r4, r5, r6⟩
    · exact .inl ⟨by simp only [upd_same]; exact a, b⟩
    · exact .inr ⟨g, c, cur, by simp only [upd_same]; exact r1, r2, r3, r4, r5, RepM.mono r6 (Nat.le_refl _) hk (fun _ _ _ _ => rfl)⟩⟩
  have hacc : ∀ u, RV (okA (shut C s m w) st' m') st' m' w' (.acc sz es k) u → RV (okA C.av (s.st.addRow ⟨E, sz, es, false⟩) ⟨m.ρ, upd m.γ s.st.rows.length (m'.γ k)⟩) (s.st.addRow ⟨E, sz, es, false⟩) ⟨m.ρ, upd m.γ s.st.rows.length (m'.γ k)⟩ w' (.acc sz es s.st.rows.length) u := by
    rintro u ⟨row, hr, h7, h8, h9, h10⟩
    rw [hrow] at hr
    obtain rfl := Option.some.inj hr
    exact ⟨⟨E, sz, es, false⟩, by simp [Sto.addRow], rfl, Nat.le_refl _, RepM.mono h9 (Nat.le_refl _) hk (fun _ _ _ _ => rfl), fun _ => by simp only [upd_same]; exact h10 rfl⟩
  refine hK _ _ w' ((h.step hE hS).put (dstOk_lt hd) ?_)
  cases rs with
  | none => exact hacc v h6
  | some rs =>
    obtain ⟨vs, rfl, hl⟩ := h6
    match vs, hl with
    | u :: us, hl => exact ⟨_, rfl, hacc u hl.1, freeL.rv hk _ _ hfr' hl.2⟩
end

theorem Own.ofAcc {av : Nat → Nat → Prop} {st : Sto} {m : Lay} {w : World} {k E sz : Nat} {es : List (List Tr)} {v : Value} {S : Nat → Prop} (hst : StoOk av st m w) (hrow : st.rows[k]? = some ⟨E, sz, es, false⟩) (hv : RV (okA av st m) st m w (.acc sz es k) v)
    (hS : ∀ g c, m.γ k = some (g, c) → g < w.heap.size → S g) (hfl : ∀ e ∈ es, ∀ d ∈ e, ∃ u, d = .leaf u) : Own w (.row sz es) v S := by
  obtain ⟨q1, q2, q3⟩ := hst.row k _ hrow
  obtain ⟨row, hr, -, hle, hrep, heq⟩ := hv
  rw [hrow] at hr
  obtain rfl := Option.some.inj hr
  have hv := heq rfl
  rcases q3 with ⟨a, b⟩ | ⟨g, c, cur, r1, r2, r3, r4, r5, r6⟩
  · rw [a] at hv
    have b : es = [] := b
    subst b
    subst hv
    exact Own.row (es := []) (fun _ _ => undef) (fun _ _ _ => False) (by simp) (by unfold maxLen; omega) (by simp) (by simp) (by simp) (by simp)
  · rw [r1] at hv
    subst hv
    have r6 : RepM (okA av st m) w (.row sz es) (.slice (some ⟨g, 0, none⟩) es.length c) := r6
    show Own w (.row sz es) (.slice (some ⟨g, 0, none⟩) es.length c) S
    cases r6 with
    | row cc h1 h2 h3 h4 =>
      refine .row cc (fun _ _ _ => False) h1 h2 (fun hne => ?_) (fun i e he j d hd => ?_) (fun _ _ _ _ _ _ x hx => hx.elim) (fun _ _ _ _ _ _ _ _ _ _ _ _ _ x hx => hx.elim)
      · obtain ⟨b, off, ha, hb, hc⟩ := h3 hne
        obtain ⟨rfl, rfl⟩ : g = b ∧ 0 = off := by simpa using ha
        exact ⟨g, 0, E, cur, rfl, r2, hS g c r1 hb, fun i e he j d hd => ⟨by rw [← r2.cell]; exact (hc i e he j d hd).2, fun x hx => hx.elim⟩⟩
      · obtain ⟨u, rfl⟩ := hfl e (List.mem_of_getElem? he) d (List.mem_of_getElem? hd)
        have h7 := (h4 i e he j _ hd).rep.leaf_eq
        rw [h7.1]
        exact .leaf h7.2
theorem ARow.own {P : Program} {f : FuncId} {args : List PV} {E sz : Nat} {es : List (List Tr)} (h : ARow P f args E sz es none) (hfl : ∀ e ∈ es, ∀ d ∈ e, ∃ u, d = .leaf u) {w : World} {vals : List Value} (hv : RVL0 w args vals) :
    Calls P f ⟨vals⟩ w fun e w' => ∃ v, e = .returned v ∧ Ext w w' ∧ Own w' (.row sz es) v (Between w w') :=
  (h av0 lay0 w vals (sto0 w) hv).mono fun e w' => by
    rintro ⟨res, st', m', v, rfl, ⟨k, rfl, hrow⟩, hst, he, hr⟩
    exact ⟨v, rfl, he.ext, Own.ofAcc hst hrow hr (fun g c hg hlt => by
      rcases he.rfresh k _ g c hrow hg with ⟨row, c0, h0, _⟩ | hf
      · simp at h0
      · exact ⟨hf, hlt⟩) hfl⟩
end Go.Proofs.YtnakkelglbcecaaGreat
