/- HomePackage, on both sides. No conditions. -/
import Derived.Test.YtnakkelglbcecaaGreatPmFind
namespace Go.Proofs.YtnakkelglbcecaaGreat
open Go.RowKit Go.Proofs
set_option linter.unusedSimpArgs false
set_option linter.unusedVariables false

def isBase (s : ByteArray) : Bool := decide (s = ⟨#[105, 110, 116]⟩) || decide (s = ⟨#[98, 111, 111, 108]⟩)
set_option maxRecDepth 100000 in
theorem isBase_impl (s : ByteArray) : AFun Tryz.prog 141 [.t (.leaf (.string (s)))] (.t (.leaf (.bool (isBase s)))) := by
  refine ACalls.intro Tryz.func141 rfl (by first | decide | (simp; done) | (simp; decide)) ?_
  intro C hC
  refine AWP.seq ?_
  refine AWP.region_lit ?_
  refine AL.cons rfl (AOp.move (.inr rfl) rfl rfl) ?_
  refine AL.nil ?_
  refine AWP.seq ?_
  refine AWP.region_lit ?_
  refine AL.cons rfl (AOp.move (.inl rfl) rfl rfl) ?_
  refine AL.cons rfl (AOp.eqlS rfl rfl rfl rfl) ?_
  refine AL.cons rfl (AOp.move (.inl rfl) rfl rfl) ?_
  refine AL.splitB 5 rfl (fun g1 => ?_) (fun g1 => ?_)
  · skip
    have g1b := g1
    try simp only [Bool.and_eq_true, Bool.or_eq_true, Bool.and_eq_false_iff, Bool.or_eq_false_iff, decide_eq_true_eq, decide_eq_false_iff_not, Bool.not_eq_true', Bool.not_eq_false', Bool.not_eq_eq_eq_not, Bool.not_true, Bool.not_false, ge_iff_le, gt_iff_lt, Int.not_lt, Int.not_le] at g1b
    refine AL.skip_v rfl rfl rfl g1 rfl ?_
    refine AL.skip_v rfl rfl rfl g1 rfl ?_
    refine AL.cons rfl (AOp.pickT rfl rfl rfl g1 rfl) ?_
    refine AL.cons rfl (AOp.move (.inr rfl) rfl rfl) ?_
    refine AL.nil ?_
    refine AWP.ret ?_
    exact Ends.mk (ps := [_]) (.inr rfl) ⟨rfl, trivial⟩ rfl (StLe.mk' (st' := ⟨[], []⟩) trivial rfl) (keeps_nil hC) (q := (.t (.leaf (.bool (true))) : PV)) (by (repeat' (first | exact PV.Le.refl _ | exact LeL.nil | exact PV.Le.nil _ | exact PV.Le.acc _ _ _ | apply LeL.cons | apply PV.Le.agg | apply PV.Le.tup))) rfl ⟨by simp_all [isBase], rfl⟩
  · skip
    have g1b := g1
    try simp only [Bool.and_eq_true, Bool.or_eq_true, Bool.and_eq_false_iff, Bool.or_eq_false_iff, decide_eq_true_eq, decide_eq_false_iff_not, Bool.not_eq_true', Bool.not_eq_false', Bool.not_eq_eq_eq_not, Bool.not_true, Bool.not_false, ge_iff_le, gt_iff_lt, Int.not_lt, Int.not_le] at g1b
    refine AL.cons_gv rfl rfl rfl g1 (AOp.move (.inl rfl) rfl rfl) ?_
    refine AL.cons_gv rfl rfl rfl g1 (AOp.eqlS rfl rfl rfl rfl) ?_
    refine AL.cons rfl (AOp.pickF rfl rfl rfl g1 rfl) ?_
    refine AL.cons rfl (AOp.move (.inr rfl) rfl rfl) ?_
    refine AL.nil ?_
    refine AWP.ret ?_
    exact Ends.mk (ps := [_]) (.inr rfl) ⟨rfl, trivial⟩ rfl (StLe.mk' (st' := ⟨[], []⟩) trivial rfl) (keeps_nil hC) (q := (.t (.leaf (.bool (decide (s = ⟨#[98, 111, 111, 108]⟩)))) : PV)) (by (repeat' (first | exact PV.Le.refl _ | exact LeL.nil | exact PV.Le.nil _ | exact PV.Le.acc _ _ _ | apply LeL.cons | apply PV.Le.agg | apply PV.Le.tup))) rfl ⟨by simp_all [isBase], rfl⟩

set_option maxRecDepth 100000 in
theorem isBase_spec (s : ByteArray) : AFun Tryz.prog 138 [.t (.leaf (.string (s)))] (.t (.leaf (.bool (isBase s)))) := by
  refine ACalls.intro Tryz.func138 rfl (by first | decide | (simp; done) | (simp; decide)) ?_
  intro C hC
  refine AWP.seq ?_
  refine AWP.region_lit ?_
  refine AL.cons rfl (AOp.move (.inr rfl) rfl rfl) ?_
  refine AL.nil ?_
  refine AWP.seq ?_
  refine AWP.region_lit ?_
  refine AL.cons rfl (AOp.move (.inl rfl) rfl rfl) ?_
  refine AL.cons rfl (AOp.eqlS rfl rfl rfl rfl) ?_
  refine AL.cons rfl (AOp.move (.inl rfl) rfl rfl) ?_
  refine AL.splitB 5 rfl (fun g1 => ?_) (fun g1 => ?_)
  · skip
    have g1b := g1
    try simp only [Bool.and_eq_true, Bool.or_eq_true, Bool.and_eq_false_iff, Bool.or_eq_false_iff, decide_eq_true_eq, decide_eq_false_iff_not, Bool.not_eq_true', Bool.not_eq_false', Bool.not_eq_eq_eq_not, Bool.not_true, Bool.not_false, ge_iff_le, gt_iff_lt, Int.not_lt, Int.not_le] at g1b
    refine AL.skip_v rfl rfl rfl g1 rfl ?_
    refine AL.skip_v rfl rfl rfl g1 rfl ?_
    refine AL.cons rfl (AOp.pickT rfl rfl rfl g1 rfl) ?_
    refine AL.cons rfl (AOp.move (.inr rfl) rfl rfl) ?_
    refine AL.nil ?_
    refine AWP.ret ?_
    exact Ends.mk (ps := [_]) (.inr rfl) ⟨rfl, trivial⟩ rfl (StLe.mk' (st' := ⟨[], []⟩) trivial rfl) (keeps_nil hC) (q := (.t (.leaf (.bool (true))) : PV)) (by (repeat' (first | exact PV.Le.refl _ | exact LeL.nil | exact PV.Le.nil _ | exact PV.Le.acc _ _ _ | apply LeL.cons | apply PV.Le.agg | apply PV.Le.tup))) rfl ⟨by simp_all [isBase], rfl⟩
  · skip
    have g1b := g1
    try simp only [Bool.and_eq_true, Bool.or_eq_true, Bool.and_eq_false_iff, Bool.or_eq_false_iff, decide_eq_true_eq, decide_eq_false_iff_not, Bool.not_eq_true', Bool.not_eq_false', Bool.not_eq_eq_eq_not, Bool.not_true, Bool.not_false, ge_iff_le, gt_iff_lt, Int.not_lt, Int.not_le] at g1b
    refine AL.cons_gv rfl rfl rfl g1 (AOp.move (.inl rfl) rfl rfl) ?_
    refine AL.cons_gv rfl rfl rfl g1 (AOp.eqlS rfl rfl rfl rfl) ?_
    refine AL.cons rfl (AOp.pickF rfl rfl rfl g1 rfl) ?_
    refine AL.cons rfl (AOp.move (.inr rfl) rfl rfl) ?_
    refine AL.nil ?_
    refine AWP.ret ?_
    exact Ends.mk (ps := [_]) (.inr rfl) ⟨rfl, trivial⟩ rfl (StLe.mk' (st' := ⟨[], []⟩) trivial rfl) (keeps_nil hC) (q := (.t (.leaf (.bool (decide (s = ⟨#[98, 111, 111, 108]⟩)))) : PV)) (by (repeat' (first | exact PV.Le.refl _ | exact LeL.nil | exact PV.Le.nil _ | exact PV.Le.acc _ _ _ | apply LeL.cons | apply PV.Le.agg | apply PV.Le.tup))) rfl ⟨by simp_all [isBase], rfl⟩

def GProgram.home (w : GProgram) (t : GType) : Int := if t.gKind = 2 ∧ isBase t.gName = false then (match w.dataAt t.gName with | some (_, i) => (i : Int) | none => -1) else -1
set_option maxRecDepth 100000 in
theorem home_impl (w : GProgram) (t : GType) : AFun Tryz.prog 83 [(GProgram.pv w), (GType.pv t)] (.t (.leaf (.int .i64 (GProgram.home w t)))) := by
  refine ACalls.intro Tryz.func83 rfl (by first | decide | (simp; done) | (simp; decide)) ?_
  intro C hC
  refine AWP.seq ?_
  refine AWP.region_lit ?_
  refine AL.cons rfl (AOp.box (cs := [.t (.row 6 (GPackage.trs (w.gPackages)))]) rfl rfl rfl rfl rfl) ?_
  refine AL.cons rfl (AOp.box (cs := [.t (.leaf (.int .i64 (t.gKind))), .t (.leaf (.string (t.gName))), .t (.row 3 (GType.trs (t.gArgs)))]) rfl rfl rfl rfl rfl) ?_
  refine AL.cons rfl (AOp.move (.inr rfl) rfl rfl) ?_
  refine AL.nil ?_
  refine AWP.seq ?_
  refine AWP.seq ?_
  refine AWP.region_lit ?_
  refine AL.cons rfl (AOp.fieldPtr (k := 1) (d := 0) (e := 0) rfl rfl rfl fo47_0) ?_
  refine AL.cons rfl (AOp.loadPtr1 rfl rfl rfl rfl sh3 rfl) ?_
  refine AL.cons rfl (AOp.neqI rfl rfl rfl rfl) ?_
  refine AL.cons rfl (AOp.move (.inl rfl) rfl rfl) ?_
  refine AL.splitB 11 rfl (fun g1 => ?_) (fun g1 => ?_)
  · skip
    have g1b := g1
    try simp only [Bool.and_eq_true, Bool.or_eq_true, Bool.and_eq_false_iff, Bool.or_eq_false_iff, decide_eq_true_eq, decide_eq_false_iff_not, Bool.not_eq_true', Bool.not_eq_false', Bool.not_eq_eq_eq_not, Bool.not_true, Bool.not_false, ge_iff_le, gt_iff_lt, Int.not_lt, Int.not_le] at g1b
    refine AL.skip_v rfl rfl rfl g1 rfl ?_
    refine AL.skip_v rfl rfl rfl g1 rfl ?_
    refine AL.skip_v rfl rfl rfl g1 rfl ?_
    refine AL.cons rfl (AOp.pickT rfl rfl rfl g1 rfl) ?_
    refine AL.nil ?_
    refine AWP.cond rfl (fun h2 => ?_) (fun h2 => ?_)
    · skip
      have h2b := h2
      try simp only [Bool.and_eq_true, Bool.or_eq_true, Bool.and_eq_false_iff, Bool.or_eq_false_iff, decide_eq_true_eq, decide_eq_false_iff_not, Bool.not_eq_true', Bool.not_eq_false', Bool.not_eq_eq_eq_not, Bool.not_true, Bool.not_false, ge_iff_le, gt_iff_lt, Int.not_lt, Int.not_le] at h2b
      refine AWP.seq ?_
      refine AWP.region_lit ?_
      refine AL.cons rfl (AOp.move (.inr rfl) rfl rfl) ?_
      refine AL.nil ?_
      refine AWP.ret ?_
      exact Ends.mk (ps := [_]) (.inr rfl) ⟨rfl, trivial⟩ rfl (StLe.mk' (st' := ⟨[], []⟩) trivial rfl) (keeps_nil hC) (q := (.t (.leaf (.int .i64 (-1))) : PV)) (by (repeat' (first | exact PV.Le.refl _ | exact LeL.nil | exact PV.Le.nil _ | exact PV.Le.acc _ _ _ | apply LeL.cons | apply PV.Le.agg | apply PV.Le.tup))) rfl ⟨by (cases hq : w.dataAt t.gName <;> simp_all [GProgram.home, oInt]), rfl⟩
    · skip
      exact absurd (h2.symm.trans rfl) (by decide)
  · skip
    have g1b := g1
    try simp only [Bool.and_eq_true, Bool.or_eq_true, Bool.and_eq_false_iff, Bool.or_eq_false_iff, decide_eq_true_eq, decide_eq_false_iff_not, Bool.not_eq_true', Bool.not_eq_false', Bool.not_eq_eq_eq_not, Bool.not_true, Bool.not_false, ge_iff_le, gt_iff_lt, Int.not_lt, Int.not_le] at g1b
    refine AL.cons_gv rfl rfl rfl g1 (AOp.fieldPtr (k := 1) (d := 0) (e := 1) rfl rfl rfl fo47_1) ?_
    refine AL.cons_gv rfl rfl rfl g1 (AOp.loadPtr1 rfl rfl rfl rfl sh9 rfl) ?_
    refine AL.cons_gv rfl rfl rfl g1 (AOp.callF (ps := [_]) rfl rfl Tryz.func141 (by kernel_rfl) rfl rfl (by (repeat' (first | exact PV.Le.refl _ | exact LeL.nil | exact PV.Le.nil _ | exact PV.Le.acc _ _ _ | apply LeL.cons | apply PV.Le.agg | apply PV.Le.tup))) rfl rfl (isBase_impl t.gName)) ?_
    refine AL.cons rfl (AOp.pickF rfl rfl rfl g1 rfl) ?_
    refine AL.nil ?_
    refine AWP.cond rfl (fun h3 => ?_) (fun h3 => ?_)
    · skip
      have h3b := h3
      try simp only [Bool.and_eq_true, Bool.or_eq_true, Bool.and_eq_false_iff, Bool.or_eq_false_iff, decide_eq_true_eq, decide_eq_false_iff_not, Bool.not_eq_true', Bool.not_eq_false', Bool.not_eq_eq_eq_not, Bool.not_true, Bool.not_false, ge_iff_le, gt_iff_lt, Int.not_lt, Int.not_le] at h3b
      refine AWP.seq ?_
      refine AWP.region_lit ?_
      refine AL.cons rfl (AOp.move (.inr rfl) rfl rfl) ?_
      refine AL.nil ?_
      refine AWP.ret ?_
      exact Ends.mk (ps := [_]) (.inr rfl) ⟨rfl, trivial⟩ rfl (StLe.mk' (st' := ⟨[], []⟩) trivial rfl) (keeps_nil hC) (q := (.t (.leaf (.int .i64 (-1))) : PV)) (by (repeat' (first | exact PV.Le.refl _ | exact LeL.nil | exact PV.Le.nil _ | exact PV.Le.acc _ _ _ | apply LeL.cons | apply PV.Le.agg | apply PV.Le.tup))) rfl ⟨by (cases hq : w.dataAt t.gName <;> simp_all [GProgram.home, oInt]), rfl⟩
    · skip
      have h3b := h3
      try simp only [Bool.and_eq_true, Bool.or_eq_true, Bool.and_eq_false_iff, Bool.or_eq_false_iff, decide_eq_true_eq, decide_eq_false_iff_not, Bool.not_eq_true', Bool.not_eq_false', Bool.not_eq_eq_eq_not, Bool.not_true, Bool.not_false, ge_iff_le, gt_iff_lt, Int.not_lt, Int.not_le] at h3b
      refine AWP.skip ?_
      refine AWP.seq ?_
      refine AWP.region_lit ?_
      refine AL.cons rfl (AOp.loadPtr (cs := [.t (.row 6 (GPackage.trs (w.gPackages)))]) rfl rfl rfl rfl sh31 rfl rfl) ?_
      refine AL.cons rfl (AOp.fieldPtr (k := 1) (d := 0) (e := 1) rfl rfl rfl fo47_1) ?_
      refine AL.cons rfl (AOp.loadPtr1 rfl rfl rfl rfl sh9 rfl) ?_
      refine AL.cons rfl (AOp.callF (ps := [_, _]) rfl rfl Tryz.func142 (by kernel_rfl) rfl rfl (by (repeat' (first | exact PV.Le.refl _ | exact LeL.nil | exact PV.Le.nil _ | exact PV.Le.acc _ _ _ | apply LeL.cons | apply PV.Le.agg | apply PV.Le.tup))) rfl rfl (data_impl w t.gName)) ?_
      refine AL.cons rfl (AOp.move (.inl rfl) rfl rfl) ?_
      refine AL.cons rfl (AOp.extract rfl rfl rfl rfl) ?_
      refine AL.cons rfl (AOp.extract rfl rfl rfl rfl) ?_
      refine AL.cons rfl (AOp.extract rfl rfl rfl rfl) ?_
      refine AL.cons rfl (AOp.alloc rfl rfl zr171) ?_
      refine AL.cons rfl (AOp.storePtr (cs := [.t (.leaf (.string ((oDataType (w.dataAt t.gName)).gName))), .t (.row 1 (strTrs ((oDataType (w.dataAt t.gName)).gVars))), .t (.row 2 (GConstructor.trs ((oDataType (w.dataAt t.gName)).gConstructors)))]) (ds := [.t (.leaf (.string ((oDataType (w.dataAt t.gName)).gName))), .t (.row 1 (strTrs ((oDataType (w.dataAt t.gName)).gVars))), .t (.row 2 (GConstructor.trs ((oDataType (w.dataAt t.gName)).gConstructors)))]) rfl rfl rfl rfl rfl rfl rfl sz171 (Nat.le_of_ble_eq_true rfl) rfl) ?_
      refine AL.cons rfl (AOp.move (.inr rfl) rfl rfl) ?_
      refine AL.cons rfl (AOp.move (.inr rfl) rfl rfl) ?_
      refine AL.nil ?_
      refine AWP.seq ?_
      refine AWP.seq ?_
      refine AWP.region_lit ?_
      refine AL.cons rfl (AOp.move (.inl rfl) rfl rfl) ?_
      refine AL.cons rfl (AOp.notB rfl rfl rfl) ?_
      refine AL.nil ?_
      refine AWP.cond rfl (fun h4 => ?_) (fun h4 => ?_)
      · skip
        have h4b := h4
        try simp only [Bool.and_eq_true, Bool.or_eq_true, Bool.and_eq_false_iff, Bool.or_eq_false_iff, decide_eq_true_eq, decide_eq_false_iff_not, Bool.not_eq_true', Bool.not_eq_false', Bool.not_eq_eq_eq_not, Bool.not_true, Bool.not_false, ge_iff_le, gt_iff_lt, Int.not_lt, Int.not_le] at h4b
        refine AWP.seq ?_
        refine AWP.region_lit ?_
        refine AL.cons rfl (AOp.move (.inr rfl) rfl rfl) ?_
        refine AL.nil ?_
        refine AWP.ret ?_
        exact Ends.mk (ps := [_]) (.inr rfl) ⟨rfl, trivial⟩ rfl (StLe.mk' (st' := ⟨[], []⟩) trivial rfl) (keeps_nil hC) (q := (.t (.leaf (.int .i64 (-1))) : PV)) (by (repeat' (first | exact PV.Le.refl _ | exact LeL.nil | exact PV.Le.nil _ | exact PV.Le.acc _ _ _ | apply LeL.cons | apply PV.Le.agg | apply PV.Le.tup))) rfl ⟨by (cases hq : w.dataAt t.gName <;> simp_all [GProgram.home, oInt]), rfl⟩
      · skip
        have h4b := h4
        try simp only [Bool.and_eq_true, Bool.or_eq_true, Bool.and_eq_false_iff, Bool.or_eq_false_iff, decide_eq_true_eq, decide_eq_false_iff_not, Bool.not_eq_true', Bool.not_eq_false', Bool.not_eq_eq_eq_not, Bool.not_true, Bool.not_false, ge_iff_le, gt_iff_lt, Int.not_lt, Int.not_le] at h4b
        refine AWP.skip ?_
        refine AWP.seq ?_
        refine AWP.region_lit ?_
        refine AL.cons rfl (AOp.move (.inl rfl) rfl rfl) ?_
        refine AL.cons rfl (AOp.move (.inr rfl) rfl rfl) ?_
        refine AL.nil ?_
        refine AWP.ret ?_
        exact Ends.mk (ps := [_]) (.inr rfl) ⟨rfl, trivial⟩ rfl (StLe.mk' (st' := ⟨[], []⟩) trivial rfl) (keeps_nil hC) (q := (.t (.leaf (.int .i64 (oInt (w.dataAt t.gName)))) : PV)) (by (repeat' (first | exact PV.Le.refl _ | exact LeL.nil | exact PV.Le.nil _ | exact PV.Le.acc _ _ _ | apply LeL.cons | apply PV.Le.agg | apply PV.Le.tup))) rfl ⟨by (cases hq : w.dataAt t.gName <;> simp_all [GProgram.home, oInt]), rfl⟩

set_option maxRecDepth 100000 in
theorem home_spec (w : GProgram) (t : GType) : AFun Tryz.prog 79 [(GProgram.pv w), (GType.pv t)] (.t (.leaf (.int .i64 (GProgram.home w t)))) := by
  refine ACalls.intro Tryz.func79 rfl (by first | decide | (simp; done) | (simp; decide)) ?_
  intro C hC
  refine AWP.seq ?_
  refine AWP.region_lit ?_
  refine AL.cons rfl (AOp.box (cs := [.t (.row 6 (GPackage.trs (w.gPackages)))]) rfl rfl rfl rfl rfl) ?_
  refine AL.cons rfl (AOp.box (cs := [.t (.leaf (.int .i64 (t.gKind))), .t (.leaf (.string (t.gName))), .t (.row 3 (GType.trs (t.gArgs)))]) rfl rfl rfl rfl rfl) ?_
  refine AL.cons rfl (AOp.move (.inr rfl) rfl rfl) ?_
  refine AL.nil ?_
  refine AWP.seq ?_
  refine AWP.seq ?_
  refine AWP.region_lit ?_
  refine AL.cons rfl (AOp.fieldPtr (k := 1) (d := 0) (e := 0) rfl rfl rfl fo47_0) ?_
  refine AL.cons rfl (AOp.loadPtr1 rfl rfl rfl rfl sh3 rfl) ?_
  refine AL.cons rfl (AOp.neqI rfl rfl rfl rfl) ?_
  refine AL.cons rfl (AOp.move (.inl rfl) rfl rfl) ?_
  refine AL.splitB 11 rfl (fun g1 => ?_) (fun g1 => ?_)
  · skip
    have g1b := g1
    try simp only [Bool.and_eq_true, Bool.or_eq_true, Bool.and_eq_false_iff, Bool.or_eq_false_iff, decide_eq_true_eq, decide_eq_false_iff_not, Bool.not_eq_true', Bool.not_eq_false', Bool.not_eq_eq_eq_not, Bool.not_true, Bool.not_false, ge_iff_le, gt_iff_lt, Int.not_lt, Int.not_le] at g1b
    refine AL.skip_v rfl rfl rfl g1 rfl ?_
    refine AL.skip_v rfl rfl rfl g1 rfl ?_
    refine AL.skip_v rfl rfl rfl g1 rfl ?_
    refine AL.cons rfl (AOp.pickT rfl rfl rfl g1 rfl) ?_
    refine AL.nil ?_
    refine AWP.cond rfl (fun h2 => ?_) (fun h2 => ?_)
    · skip
      have h2b := h2
      try simp only [Bool.and_eq_true, Bool.or_eq_true, Bool.and_eq_false_iff, Bool.or_eq_false_iff, decide_eq_true_eq, decide_eq_false_iff_not, Bool.not_eq_true', Bool.not_eq_false', Bool.not_eq_eq_eq_not, Bool.not_true, Bool.not_false, ge_iff_le, gt_iff_lt, Int.not_lt, Int.not_le] at h2b
      refine AWP.seq ?_
      refine AWP.region_lit ?_
      refine AL.cons rfl (AOp.move (.inr rfl) rfl rfl) ?_
      refine AL.nil ?_
      refine AWP.ret ?_
      exact Ends.mk (ps := [_]) (.inr rfl) ⟨rfl, trivial⟩ rfl (StLe.mk' (st' := ⟨[], []⟩) trivial rfl) (keeps_nil hC) (q := (.t (.leaf (.int .i64 (-1))) : PV)) (by (repeat' (first | exact PV.Le.refl _ | exact LeL.nil | exact PV.Le.nil _ | exact PV.Le.acc _ _ _ | apply LeL.cons | apply PV.Le.agg | apply PV.Le.tup))) rfl ⟨by (cases hq : w.dataAt t.gName <;> simp_all [GProgram.home, oInt]), rfl⟩
    · skip
      exact absurd (h2.symm.trans rfl) (by decide)
  · skip
    have g1b := g1
    try simp only [Bool.and_eq_true, Bool.or_eq_true, Bool.and_eq_false_iff, Bool.or_eq_false_iff, decide_eq_true_eq, decide_eq_false_iff_not, Bool.not_eq_true', Bool.not_eq_false', Bool.not_eq_eq_eq_not, Bool.not_true, Bool.not_false, ge_iff_le, gt_iff_lt, Int.not_lt, Int.not_le] at g1b
    refine AL.cons_gv rfl rfl rfl g1 (AOp.fieldPtr (k := 1) (d := 0) (e := 1) rfl rfl rfl fo47_1) ?_
    refine AL.cons_gv rfl rfl rfl g1 (AOp.loadPtr1 rfl rfl rfl rfl sh9 rfl) ?_
    refine AL.cons_gv rfl rfl rfl g1 (AOp.callF (ps := [_]) rfl rfl Tryz.func138 (by kernel_rfl) rfl rfl (by (repeat' (first | exact PV.Le.refl _ | exact LeL.nil | exact PV.Le.nil _ | exact PV.Le.acc _ _ _ | apply LeL.cons | apply PV.Le.agg | apply PV.Le.tup))) rfl rfl (isBase_spec t.gName)) ?_
    refine AL.cons rfl (AOp.pickF rfl rfl rfl g1 rfl) ?_
    refine AL.nil ?_
    refine AWP.cond rfl (fun h3 => ?_) (fun h3 => ?_)
    · skip
      have h3b := h3
      try simp only [Bool.and_eq_true, Bool.or_eq_true, Bool.and_eq_false_iff, Bool.or_eq_false_iff, decide_eq_true_eq, decide_eq_false_iff_not, Bool.not_eq_true', Bool.not_eq_false', Bool.not_eq_eq_eq_not, Bool.not_true, Bool.not_false, ge_iff_le, gt_iff_lt, Int.not_lt, Int.not_le] at h3b
      refine AWP.seq ?_
      refine AWP.region_lit ?_
      refine AL.cons rfl (AOp.move (.inr rfl) rfl rfl) ?_
      refine AL.nil ?_
      refine AWP.ret ?_
      exact Ends.mk (ps := [_]) (.inr rfl) ⟨rfl, trivial⟩ rfl (StLe.mk' (st' := ⟨[], []⟩) trivial rfl) (keeps_nil hC) (q := (.t (.leaf (.int .i64 (-1))) : PV)) (by (repeat' (first | exact PV.Le.refl _ | exact LeL.nil | exact PV.Le.nil _ | exact PV.Le.acc _ _ _ | apply LeL.cons | apply PV.Le.agg | apply PV.Le.tup))) rfl ⟨by (cases hq : w.dataAt t.gName <;> simp_all [GProgram.home, oInt]), rfl⟩
    · skip
      have h3b := h3
      try simp only [Bool.and_eq_true, Bool.or_eq_true, Bool.and_eq_false_iff, Bool.or_eq_false_iff, decide_eq_true_eq, decide_eq_false_iff_not, Bool.not_eq_true', Bool.not_eq_false', Bool.not_eq_eq_eq_not, Bool.not_true, Bool.not_false, ge_iff_le, gt_iff_lt, Int.not_lt, Int.not_le] at h3b
      refine AWP.skip ?_
      refine AWP.seq ?_
      refine AWP.region_lit ?_
      refine AL.cons rfl (AOp.loadPtr (cs := [.t (.row 6 (GPackage.trs (w.gPackages)))]) rfl rfl rfl rfl sh31 rfl rfl) ?_
      refine AL.cons rfl (AOp.fieldPtr (k := 1) (d := 0) (e := 1) rfl rfl rfl fo47_1) ?_
      refine AL.cons rfl (AOp.loadPtr1 rfl rfl rfl rfl sh9 rfl) ?_
      refine AL.cons rfl (AOp.callF (ps := [_, _]) rfl rfl Tryz.func139 (by kernel_rfl) rfl rfl (by (repeat' (first | exact PV.Le.refl _ | exact LeL.nil | exact PV.Le.nil _ | exact PV.Le.acc _ _ _ | apply LeL.cons | apply PV.Le.agg | apply PV.Le.tup))) rfl rfl (data_spec w t.gName)) ?_
      refine AL.cons rfl (AOp.move (.inl rfl) rfl rfl) ?_
      refine AL.cons rfl (AOp.extract rfl rfl rfl rfl) ?_
      refine AL.cons rfl (AOp.extract rfl rfl rfl rfl) ?_
      refine AL.cons rfl (AOp.extract rfl rfl rfl rfl) ?_
      refine AL.cons rfl (AOp.alloc rfl rfl zr171) ?_
      refine AL.cons rfl (AOp.storePtr (cs := [.t (.leaf (.string ((oDataType (w.dataAt t.gName)).gName))), .t (.row 1 (strTrs ((oDataType (w.dataAt t.gName)).gVars))), .t (.row 2 (GConstructor.trs ((oDataType (w.dataAt t.gName)).gConstructors)))]) (ds := [.t (.leaf (.string ((oDataType (w.dataAt t.gName)).gName))), .t (.row 1 (strTrs ((oDataType (w.dataAt t.gName)).gVars))), .t (.row 2 (GConstructor.trs ((oDataType (w.dataAt t.gName)).gConstructors)))]) rfl rfl rfl rfl rfl rfl rfl sz171 (Nat.le_of_ble_eq_true rfl) rfl) ?_
      refine AL.cons rfl (AOp.move (.inr rfl) rfl rfl) ?_
      refine AL.cons rfl (AOp.move (.inr rfl) rfl rfl) ?_
      refine AL.nil ?_
      refine AWP.seq ?_
      refine AWP.seq ?_
      refine AWP.region_lit ?_
      refine AL.cons rfl (AOp.move (.inl rfl) rfl rfl) ?_
      refine AL.cons rfl (AOp.notB rfl rfl rfl) ?_
      refine AL.nil ?_
      refine AWP.cond rfl (fun h4 => ?_) (fun h4 => ?_)
      · skip
        have h4b := h4
        try simp only [Bool.and_eq_true, Bool.or_eq_true, Bool.and_eq_false_iff, Bool.or_eq_false_iff, decide_eq_true_eq, decide_eq_false_iff_not, Bool.not_eq_true', Bool.not_eq_false', Bool.not_eq_eq_eq_not, Bool.not_true, Bool.not_false, ge_iff_le, gt_iff_lt, Int.not_lt, Int.not_le] at h4b
        refine AWP.seq ?_
        refine AWP.region_lit ?_
        refine AL.cons rfl (AOp.move (.inr rfl) rfl rfl) ?_
        refine AL.nil ?_
        refine AWP.ret ?_
        exact Ends.mk (ps := [_]) (.inr rfl) ⟨rfl, trivial⟩ rfl (StLe.mk' (st' := ⟨[], []⟩) trivial rfl) (keeps_nil hC) (q := (.t (.leaf (.int .i64 (-1))) : PV)) (by (repeat' (first | exact PV.Le.refl _ | exact LeL.nil | exact PV.Le.nil _ | exact PV.Le.acc _ _ _ | apply LeL.cons | apply PV.Le.agg | apply PV.Le.tup))) rfl ⟨by (cases hq : w.dataAt t.gName <;> simp_all [GProgram.home, oInt]), rfl⟩
      · skip
        have h4b := h4
        try simp only [Bool.and_eq_true, Bool.or_eq_true, Bool.and_eq_false_iff, Bool.or_eq_false_iff, decide_eq_true_eq, decide_eq_false_iff_not, Bool.not_eq_true', Bool.not_eq_false', Bool.not_eq_eq_eq_not, Bool.not_true, Bool.not_false, ge_iff_le, gt_iff_lt, Int.not_lt, Int.not_le] at h4b
        refine AWP.skip ?_
        refine AWP.seq ?_
        refine AWP.region_lit ?_
        refine AL.cons rfl (AOp.move (.inl rfl) rfl rfl) ?_
        refine AL.cons rfl (AOp.move (.inr rfl) rfl rfl) ?_
        refine AL.nil ?_
        refine AWP.ret ?_
        exact Ends.mk (ps := [_]) (.inr rfl) ⟨rfl, trivial⟩ rfl (StLe.mk' (st' := ⟨[], []⟩) trivial rfl) (keeps_nil hC) (q := (.t (.leaf (.int .i64 (oInt (w.dataAt t.gName)))) : PV)) (by (repeat' (first | exact PV.Le.refl _ | exact LeL.nil | exact PV.Le.nil _ | exact PV.Le.acc _ _ _ | apply LeL.cons | apply PV.Le.agg | apply PV.Le.tup))) rfl ⟨by (cases hq : w.dataAt t.gName <;> simp_all [GProgram.home, oInt]), rfl⟩

end Go.Proofs.YtnakkelglbcecaaGreat
