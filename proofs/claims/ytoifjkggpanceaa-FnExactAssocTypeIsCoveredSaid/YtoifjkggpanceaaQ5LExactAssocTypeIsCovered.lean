/- Words, rules and walks of several kinds, laid together: MaGoal, TyPlain, ProjP, PlGoal, MaCov, PlZ, PlCov. No conditions but those that each theorem states. -/
import Derived.Test.YtoifjkggpanceaaQ4LExactAssocTypeIsCovered
import Derived.Test.YtoifjkggpanceaaQ3LExactAssocTypeIsCovered
import Derived.Test.YtoifjkggpanceaaQ1LExactAssocTypeIsCovered
import Derived.Test.YtoifjkggpanceaaQ2LExactAssocTypeIsCovered
set_option linter.unusedSimpArgs false
set_option linter.unusedVariables false
namespace Go.Proofs.Ytoifjkggpanceaa
open Go.RowKit Go.Proofs
set_option linter.unusedSimpArgs false
set_option linter.unusedVariables false

theorem GBound.eq_def (a b : GBound) : GBound.eq a b = ((a.gTrait == b.gTrait) && GType.eq a.gType b.gType) := by cases a; cases b; rfl
noncomputable def sEqualGoal_M (fu : Nat)  (pa : GBound) (pb : GBound) : Option Bool :=
 sw (decide (pa.gTrait = pb.gTrait))
 (some (GType.eq pa.gType pb.gType))
 (some false)
set_option maxRecDepth 100000 in
set_option maxHeartbeats 4000000 in
theorem sEqualGoal_ok  (fu : Nat)  (pa : GBound) (pb : GBound) (r : Bool) (H : sEqualGoal_M fu pa pb = some r) : AFun Try.prog 110 [(GBound.pv pa), (GBound.pv pb)] (.t (.leaf (.bool (r))) : PV) := by
  refine ACalls.intro Try.func110 rfl (by first | decide | (simp; done) | (simp; decide)) ?_
  intro C hC
  refine AWP.seq ?_
  refine AWP.region_lit ?_
  refine AL.cons rfl (AOp.box (cs := [.t (.leaf (.string (pa.gTrait))), .t (.leaf (.int .i64 (pa.gType.gKind))), .t (.leaf (.string (pa.gType.gName))), .t (.row 3 (GType.trs (pa.gType.gArgs)))]) rfl rfl rfl rfl rfl) ?_
  refine AL.cons rfl (AOp.box (cs := [.t (.leaf (.string (pb.gTrait))), .t (.leaf (.int .i64 (pb.gType.gKind))), .t (.leaf (.string (pb.gType.gName))), .t (.row 3 (GType.trs (pb.gType.gArgs)))]) rfl rfl rfl rfl rfl) ?_
  refine AL.cons rfl (AOp.move (.inr rfl) rfl rfl) ?_
  refine AL.nil ?_
  refine AWP.seq ?_
  refine AWP.region_lit ?_
  refine AL.cons rfl (AOp.fieldPtr (k := 0) (d := 0) (e := 0) rfl rfl rfl fo34_0) ?_
  refine AL.cons rfl (AOp.loadPtr1 rfl rfl rfl rfl sh9 rfl) ?_
  refine AL.cons rfl (AOp.fieldPtr (k := 1) (d := 0) (e := 0) rfl rfl rfl fo34_0) ?_
  refine AL.cons rfl (AOp.loadPtr1 rfl rfl rfl rfl sh9 rfl) ?_
  refine AL.cons rfl (AOp.eqlS rfl rfl rfl rfl) ?_
  refine AL.cons rfl (AOp.move (.inl rfl) rfl rfl) ?_
  refine AL.splitB 10 rfl (fun g1 => ?_) (fun g1 => ?_)
  · skip
    refine AL.cons_gv rfl rfl rfl g1 (AOp.fieldPtr (k := 0) (d := 0) (e := 1) rfl rfl rfl fo34_1) ?_
    refine AL.cons_gv rfl rfl rfl g1 (AOp.loadPtr (cs := [.t (.leaf (.int .i64 (pa.gType.gKind))), .t (.leaf (.string (pa.gType.gName))), .t (.row 3 (GType.trs (pa.gType.gArgs)))]) rfl rfl rfl rfl sh32 rfl rfl) ?_
    refine AL.cons_gv rfl rfl rfl g1 (AOp.fieldPtr (k := 1) (d := 0) (e := 1) rfl rfl rfl fo34_1) ?_
    refine AL.cons_gv rfl rfl rfl g1 (AOp.loadPtr (cs := [.t (.leaf (.int .i64 (pb.gType.gKind))), .t (.leaf (.string (pb.gType.gName))), .t (.row 3 (GType.trs (pb.gType.gArgs)))]) rfl rfl rfl rfl sh32 rfl rfl) ?_
    refine AL.cons_gv rfl rfl rfl g1 (AOp.callF (res := .t (.leaf (.bool (GType.eq pa.gType pb.gType)))) (ps := [_, _]) rfl rfl Try.func169 (by kernel_rfl) rfl rfl (by (repeat' (first | exact PV.Le.refl _ | exact LeL.nil | exact PV.Le.nil _ | exact PV.Le.acc _ _ _ | apply LeL.cons | apply PV.Le.agg | apply PV.Le.tup))) rfl rfl (sEqualType_fn pa.gType pb.gType)) ?_
    refine AL.cons rfl (AOp.pickT rfl rfl rfl g1 rfl) ?_
    refine AL.cons rfl (AOp.move (.inr rfl) rfl rfl) ?_
    refine AL.nil ?_
    refine AWP.ret ?_
    have e2 : sEqualGoal_M fu pa pb = some (GType.eq pa.gType pb.gType) := swT g1 (rfl)
    have hz : (GType.eq pa.gType pb.gType) = r := Option.some.inj (e2.symm.trans H)
    subst hz
    exact Ends.mk (ps := [_]) (by first | exact .inr rfl | exact .inl rfl) ⟨rfl, trivial⟩ rfl (StLe.mk' (st' := ⟨[], []⟩) trivial rfl) (keeps_nil hC) (q := (.t (.leaf (.bool ((GType.eq pa.gType pb.gType)))) : PV)) (by (repeat' (first | exact PV.Le.refl _ | exact LeL.nil | exact PV.Le.nil _ | exact PV.Le.acc _ _ _ | apply LeL.cons | apply PV.Le.agg | apply PV.Le.tup))) rfl ⟨rfl, rfl⟩
  · skip
    refine AL.skip_v rfl rfl rfl g1 rfl ?_
    refine AL.skip_v rfl rfl rfl g1 rfl ?_
    refine AL.skip_v rfl rfl rfl g1 rfl ?_
    refine AL.skip_v rfl rfl rfl g1 rfl ?_
    refine AL.skip_v rfl rfl rfl g1 rfl ?_
    refine AL.cons rfl (AOp.pickF rfl rfl rfl g1 rfl) ?_
    refine AL.cons rfl (AOp.move (.inr rfl) rfl rfl) ?_
    refine AL.nil ?_
    refine AWP.ret ?_
    have e3 : sEqualGoal_M fu pa pb = some false := swF g1 (rfl)
    have hz : false = r := Option.some.inj (e3.symm.trans H)
    subst hz
    exact Ends.mk (ps := [_]) (by first | exact .inr rfl | exact .inl rfl) ⟨rfl, trivial⟩ rfl (StLe.mk' (st' := ⟨[], []⟩) trivial rfl) (keeps_nil hC) (q := (.t (.leaf (.bool (false))) : PV)) (by (repeat' (first | exact PV.Le.refl _ | exact LeL.nil | exact PV.Le.nil _ | exact PV.Le.acc _ _ _ | apply LeL.cons | apply PV.Le.agg | apply PV.Le.tup))) rfl ⟨rfl, rfl⟩

theorem sEqualGoal_fn (a b : GBound) : AFun Try.prog 110 [(GBound.pv a), (GBound.pv b)] (.t (.leaf (.bool (GBound.eq a b)))) := sEqualGoal_ok 0 a b _ (by unfold sEqualGoal_M; rw [GBound.eq_def]; by_cases h : a.gTrait = b.gTrait <;> simp [sw, h, bytes_beq_self, bytes_beq_ne])
noncomputable def iEqualGoal_M (fu : Nat)  (pa : GBound) (pb : GBound) : Option Bool :=
 sw (decide (pa.gTrait = pb.gTrait))
 (some (GType.eq pa.gType pb.gType))
 (some false)
set_option maxRecDepth 100000 in
set_option maxHeartbeats 4000000 in
theorem iEqualGoal_ok  (fu : Nat)  (pa : GBound) (pb : GBound) (r : Bool) (H : iEqualGoal_M fu pa pb = some r) : AFun Try.prog 58 [(GBound.pv pa), (GBound.pv pb)] (.t (.leaf (.bool (r))) : PV) := by
  refine ACalls.intro Try.func58 rfl (by first | decide | (simp; done) | (simp; decide)) ?_
  intro C hC
  refine AWP.seq ?_
  refine AWP.region_lit ?_
  refine AL.cons rfl (AOp.box (cs := [.t (.leaf (.string (pa.gTrait))), .t (.leaf (.int .i64 (pa.gType.gKind))), .t (.leaf (.string (pa.gType.gName))), .t (.row 3 (GType.trs (pa.gType.gArgs)))]) rfl rfl rfl rfl rfl) ?_
  refine AL.cons rfl (AOp.box (cs := [.t (.leaf (.string (pb.gTrait))), .t (.leaf (.int .i64 (pb.gType.gKind))), .t (.leaf (.string (pb.gType.gName))), .t (.row 3 (GType.trs (pb.gType.gArgs)))]) rfl rfl rfl rfl rfl) ?_
  refine AL.cons rfl (AOp.move (.inr rfl) rfl rfl) ?_
  refine AL.nil ?_
  refine AWP.seq ?_
  refine AWP.region_lit ?_
  refine AL.cons rfl (AOp.fieldPtr (k := 0) (d := 0) (e := 0) rfl rfl rfl fo34_0) ?_
  refine AL.cons rfl (AOp.loadPtr1 rfl rfl rfl rfl sh9 rfl) ?_
  refine AL.cons rfl (AOp.fieldPtr (k := 1) (d := 0) (e := 0) rfl rfl rfl fo34_0) ?_
  refine AL.cons rfl (AOp.loadPtr1 rfl rfl rfl rfl sh9 rfl) ?_
  refine AL.cons rfl (AOp.eqlS rfl rfl rfl rfl) ?_
  refine AL.cons rfl (AOp.move (.inl rfl) rfl rfl) ?_
  refine AL.splitB 10 rfl (fun g1 => ?_) (fun g1 => ?_)
  · skip
    refine AL.cons_gv rfl rfl rfl g1 (AOp.fieldPtr (k := 0) (d := 0) (e := 1) rfl rfl rfl fo34_1) ?_
    refine AL.cons_gv rfl rfl rfl g1 (AOp.loadPtr (cs := [.t (.leaf (.int .i64 (pa.gType.gKind))), .t (.leaf (.string (pa.gType.gName))), .t (.row 3 (GType.trs (pa.gType.gArgs)))]) rfl rfl rfl rfl sh32 rfl rfl) ?_
    refine AL.cons_gv rfl rfl rfl g1 (AOp.fieldPtr (k := 1) (d := 0) (e := 1) rfl rfl rfl fo34_1) ?_
    refine AL.cons_gv rfl rfl rfl g1 (AOp.loadPtr (cs := [.t (.leaf (.int .i64 (pb.gType.gKind))), .t (.leaf (.string (pb.gType.gName))), .t (.row 3 (GType.trs (pb.gType.gArgs)))]) rfl rfl rfl rfl sh32 rfl rfl) ?_
    refine AL.cons_gv rfl rfl rfl g1 (AOp.callF (res := .t (.leaf (.bool (GType.eq pa.gType pb.gType)))) (ps := [_, _]) rfl rfl Try.func130 (by kernel_rfl) rfl rfl (by (repeat' (first | exact PV.Le.refl _ | exact LeL.nil | exact PV.Le.nil _ | exact PV.Le.acc _ _ _ | apply LeL.cons | apply PV.Le.agg | apply PV.Le.tup))) rfl rfl (iEqualType_fn pa.gType pb.gType)) ?_
    refine AL.cons rfl (AOp.pickT rfl rfl rfl g1 rfl) ?_
    refine AL.cons rfl (AOp.move (.inr rfl) rfl rfl) ?_
    refine AL.nil ?_
    refine AWP.ret ?_
    have e2 : iEqualGoal_M fu pa pb = some (GType.eq pa.gType pb.gType) := swT g1 (rfl)
    have hz : (GType.eq pa.gType pb.gType) = r := Option.some.inj (e2.symm.trans H)
    subst hz
    exact Ends.mk (ps := [_]) (by first | exact .inr rfl | exact .inl rfl) ⟨rfl, trivial⟩ rfl (StLe.mk' (st' := ⟨[], []⟩) trivial rfl) (keeps_nil hC) (q := (.t (.leaf (.bool ((GType.eq pa.gType pb.gType)))) : PV)) (by (repeat' (first | exact PV.Le.refl _ | exact LeL.nil | exact PV.Le.nil _ | exact PV.Le.acc _ _ _ | apply LeL.cons | apply PV.Le.agg | apply PV.Le.tup))) rfl ⟨rfl, rfl⟩
  · skip
    refine AL.skip_v rfl rfl rfl g1 rfl ?_
    refine AL.skip_v rfl rfl rfl g1 rfl ?_
    refine AL.skip_v rfl rfl rfl g1 rfl ?_
    refine AL.skip_v rfl rfl rfl g1 rfl ?_
    refine AL.skip_v rfl rfl rfl g1 rfl ?_
    refine AL.cons rfl (AOp.pickF rfl rfl rfl g1 rfl) ?_
    refine AL.cons rfl (AOp.move (.inr rfl) rfl rfl) ?_
    refine AL.nil ?_
    refine AWP.ret ?_
    have e3 : iEqualGoal_M fu pa pb = some false := swF g1 (rfl)
    have hz : false = r := Option.some.inj (e3.symm.trans H)
    subst hz
    exact Ends.mk (ps := [_]) (by first | exact .inr rfl | exact .inl rfl) ⟨rfl, trivial⟩ rfl (StLe.mk' (st' := ⟨[], []⟩) trivial rfl) (keeps_nil hC) (q := (.t (.leaf (.bool (false))) : PV)) (by (repeat' (first | exact PV.Le.refl _ | exact LeL.nil | exact PV.Le.nil _ | exact PV.Le.acc _ _ _ | apply LeL.cons | apply PV.Le.agg | apply PV.Le.tup))) rfl ⟨rfl, rfl⟩

theorem iEqualGoal_fn (a b : GBound) : AFun Try.prog 58 [(GBound.pv a), (GBound.pv b)] (.t (.leaf (.bool (GBound.eq a b)))) := iEqualGoal_ok 0 a b _ (by unfold iEqualGoal_M; rw [GBound.eq_def]; by_cases h : a.gTrait = b.gTrait <;> simp [sw, h, bytes_beq_self, bytes_beq_ne])
noncomputable def sl23Projs_F2 (fu : Nat) (r_sl23Projs : GType → (List GBound) → Option ((List GBound))) (pt : GType) (pout : List GBound) : Nat → Bool → Option (LR Bool (((List GBound)) ⊕ ((List GBound)))) :=
 fun i9 v10 => sw (v10)
 (some (.next true))
 (some (.next (GBound.eq (atD pout i9) (GBound.mk pt.gName (atD pt.gArgs 0)))))
noncomputable def sl23Projs_R2 (fu : Nat) (r_sl23Projs : GType → (List GBound) → Option ((List GBound))) (pt : GType) (pout : List GBound) : Option ((((List GBound)) ⊕ ((List GBound))) ⊕ Bool) :=
 loopN (sl23Projs_F2 fu r_sl23Projs pt pout) (pout.length - 0) 0 false
noncomputable def sl23Projs_C1 (fu : Nat) (r_sl23Projs : GType → (List GBound) → Option ((List GBound))) (pt : GType) (pout : List GBound) : Option (((List GBound)) ⊕ ((List GBound))) :=
 sw (decide ((pt.gKind : Int) = 3))
 (sw (decide ((((pt.gArgs.length : Nat) : Int) : Int) > 0))
 (gd (0 < (pt.gArgs).length)
 (gd (Tr.bulkL (GType.tr (atD pt.gArgs 0)) ≤ 68719476735)
 (so (sl23Projs_R2 fu r_sl23Projs pt pout) (fun v10 =>
 sw (!(v10))
 (gd ((pout).length + (([(GBound.mk pt.gName (atD pt.gArgs 0))] : List GBound)).length ≤ 68719476736)
 (some (.inr (pout ++ ([(GBound.mk pt.gName (atD pt.gArgs 0))] : List GBound)))))
 (some (.inr pout))))))
 (some (.inr pout)))
 (some (.inr pout))
noncomputable def sl23Projs_F3 (fu : Nat) (r_sl23Projs : GType → (List GBound) → Option ((List GBound))) (pt : GType) (pout : List GBound) (v3 : List GBound) : Nat → ((List GBound)) → Option (LR ((List GBound)) ((List GBound))) :=
 fun i31 v33 => bd (r_sl23Projs (atD pt.gArgs i31) v33) (fun x39 =>
 some (.next x39))
noncomputable def sl23Projs_R3 (fu : Nat) (r_sl23Projs : GType → (List GBound) → Option ((List GBound))) (pt : GType) (pout : List GBound) (v3 : List GBound) : Option (((List GBound)) ⊕ ((List GBound))) :=
 loopN (sl23Projs_F3 fu r_sl23Projs pt pout v3) (pt.gArgs.length - 0) 0 v3
noncomputable def sl23Projs_G (fu : Nat) (r_sl23Projs : GType → (List GBound) → Option ((List GBound))) (pt : GType) (pout : List GBound) : Option ((List GBound)) :=
 so (sl23Projs_C1 fu r_sl23Projs pt pout) (fun v3 =>
 so (sl23Projs_R3 fu r_sl23Projs pt pout v3) (fun v33 =>
 some v33))
set_option maxRecDepth 100000 in
set_option maxHeartbeats 4000000 in
theorem sl23Projs_step (r_sl23Projs : GType → (List GBound) → Option ((List GBound))) (fu : Nat) (h_sl23Projs : ∀ (pt : GType) (pout : List GBound) (r : (List GBound)), r_sl23Projs pt pout = some r → ACalls Try.prog 115 [(GType.pv pt), .acc 4 (GBound.trs (pout)) 0] ⟨[], [⟨34, 4, GBound.trs (pout), false⟩]⟩ (fun q t => q = (.acc 4 (GBound.trs (r)) 0 : PV) ∧ t = ⟨[], [⟨34, 4, GBound.trs (r), false⟩]⟩)) (pt : GType) (pout : List GBound) (r : (List GBound)) (H : sl23Projs_G fu r_sl23Projs pt pout = some r) : ACalls Try.prog 115 [(GType.pv pt), .acc 4 (GBound.trs (pout)) 0] ⟨[], [⟨34, 4, GBound.trs (pout), false⟩]⟩ (fun q t => q = (.acc 4 (GBound.trs (r)) 0 : PV) ∧ t = ⟨[], [⟨34, 4, GBound.trs (r), false⟩]⟩) := by
  refine ACalls.intro Try.func115 rfl (by first | decide | (simp; done) | (simp; decide)) ?_
  intro C hC
  refine AWP.fact (lk_lenN 1 rfl rfl (GBound.trs_len _)) (fun hl1 => ?_)
  refine AWP.seq ?_
  refine AWP.region_lit ?_
  refine AL.cons rfl (AOp.box (cs := [.t (.leaf (.int .i64 (pt.gKind))), .t (.leaf (.string (pt.gName))), .t (.row 3 (GType.trs (pt.gArgs)))]) rfl rfl rfl rfl rfl) ?_
  refine AL.cons rfl (AOp.move (.inr rfl) rfl rfl) ?_
  refine AL.nil ?_
  refine AWP.seq ?_
  refine AWP.cut (ι := (List GBound)) (fun v3 => sl23Projs_C1 fu r_sl23Projs pt pout = some (.inr v3)) (fun v3 => ⟨[(1, .acc 4 (GBound.trs (v3)) 0), (2, .ptr 0 0), (4, .nil)], ⟨[some ⟨32, [.t (.leaf (.int .i64 (pt.gKind))), .t (.leaf (.string (pt.gName))), .t (.row 3 (GType.trs (pt.gArgs)))]⟩], [⟨34, 4, GBound.trs (v3), false⟩]⟩⟩) (by repeat' (first | exact qcEnds | exact ncAWP | exact ncRound | exact ncEx | apply qcThen | apply qcBlock | apply qcCut)) ?_ ?_
  · skip
    refine AWP.seq ?_
    refine AWP.region_lit ?_
    refine AL.cons rfl (AOp.fieldPtr (k := 0) (d := 0) (e := 0) rfl rfl rfl fo32_0) ?_
    refine AL.cons rfl (AOp.loadPtr1 rfl rfl rfl rfl sh3 rfl) ?_
    refine AL.cons rfl (AOp.eqlI rfl rfl rfl rfl) ?_
    refine AL.cons rfl (AOp.move (.inl rfl) rfl rfl) ?_
    refine AL.splitB 12 rfl (fun g4 => ?_) (fun g4 => ?_)
    · skip
      refine AL.cons_gv rfl rfl rfl g4 (AOp.fieldPtr (k := 0) (d := 0) (e := 2) rfl rfl rfl fo32_2) ?_
      refine AL.cons_gv rfl rfl rfl g4 (AOp.loadPtr1 rfl rfl rfl rfl sh30 rfl) ?_
      refine AL.fact (lk_lenN 14 rfl rfl (GType.trs_len _)) (fun hl5 => ?_)
      refine AL.cons_gv rfl rfl rfl g4 (AOp.lenN rfl rfl rfl rfl el30 (GType.trs_len _)) ?_
      refine AL.cons_gv rfl rfl rfl g4 (AOp.gtr rfl rfl rfl rfl) ?_
      refine AL.cons rfl (AOp.pickT rfl rfl rfl g4 rfl) ?_
      refine AL.nil ?_
      refine AWP.cond rfl (fun h6 => ?_) (fun h6 => ?_)
      · skip
        refine AWP.seq ?_
        rcases Classical.em (0 < (pt.gArgs).length) with hg7 | hg7
        · skip
          rcases Classical.em (Tr.bulkL (GType.tr (atD pt.gArgs 0)) ≤ 68719476735) with hg8 | hg8
          · skip
            refine AWP.drawnL ⟨_, _, fun j' _ => ([(⟨[some ⟨32, [.t (.leaf (.int .i64 (pt.gKind))), .t (.leaf (.string (pt.gName))), .t (.row 3 (GType.trs (pt.gArgs)))]⟩], [⟨34, 4, GBound.trs (pout), false⟩]⟩ : Sto), (⟨[some ⟨32, [.t (.leaf (.int .i64 (pt.gKind))), .t (.leaf (.string (pt.gName))), .t (.row 3 (GType.trs (pt.gArgs)))]⟩, some ⟨34, [.t (.leaf (.string (⟨#[]⟩))), .t (.leaf (.int .i64 (0))), .t (.leaf (.string (⟨#[]⟩))), .nil]⟩], [⟨34, 4, GBound.trs (pout), false⟩]⟩ : Sto), (⟨[some ⟨32, [.t (.leaf (.int .i64 (pt.gKind))), .t (.leaf (.string (pt.gName))), .t (.row 3 (GType.trs (pt.gArgs)))]⟩, some ⟨34, [.t (.leaf (.string (pt.gName))), .t (.leaf (.int .i64 ((atD pt.gArgs 0).gKind))), .t (.leaf (.string ((atD pt.gArgs 0).gName))), .t (.row 3 (GType.trs ((atD pt.gArgs 0).gArgs)))]⟩], [⟨34, 4, GBound.trs (pout), false⟩]⟩ : Sto)] : List Sto).getD j' (⟨[some ⟨32, [.t (.leaf (.int .i64 (pt.gKind))), .t (.leaf (.string (pt.gName))), .t (.row 3 (GType.trs (pt.gArgs)))]⟩, some ⟨34, [.t (.leaf (.string (pt.gName))), .t (.leaf (.int .i64 ((atD pt.gArgs 0).gKind))), .t (.leaf (.string ((atD pt.gArgs 0).gName))), .t (.row 3 (GType.trs ((atD pt.gArgs 0).gArgs)))]⟩], [⟨34, 4, GBound.trs (pout), false⟩]⟩ : Sto), fun q' => ([some (.ptr 0 1), some (.t (.leaf (.string (pt.gName)))), some (.ptr 0 2), some (.t (.row 3 (GType.trs (pt.gArgs)))), some (.eptr (GType.cs (atD pt.gArgs 0))), some ((GType.pv (atD pt.gArgs 0))), some ((GType.pv (atD pt.gArgs 0))), some (.agg [.t (.leaf (.string (pt.gName))), .t (.leaf (.int .i64 ((atD pt.gArgs 0).gKind))), .t (.leaf (.string ((atD pt.gArgs 0).gName))), .t (.row 3 (GType.trs ((atD pt.gArgs 0).gArgs)))]), some (.ptr 1 0), none] : List (Option PV)).getD q' none, fun q' => ([.q 0 1, .q 0 1, .q 0 1, .q 0 1, .q 0 1, .q 0 1, .q 0 1, .q 0 1, .ef 0, .ef 1] : List DK).getD q' (.q 0 0), [8, 9], none, fun q' => ([[(2, none)], [(18, some 0)], [(2, none)], [(20, some 2)], [(21, some 3)], [(22, some 4)], [(23, some 5)], [(24, some 6), (19, some 1)], [], [(5, some 8), (25, some 7)]] : List (List (Nat × Option Nat))).getD q' []⟩ rfl mixed (by kernel_rfl) rfl rfl ⟨?_, ?_, ?_, ?_, ?_, ?_, ?_, ?_, ?_, ?_, trivial⟩ rfl ?_
            · refine .inl ⟨rfl, fun s' jj bb (h1 : 0 ≤ jj) (h2 : jj ≤ 1) hs hl => ?_⟩
              rcases (by omega : jj = 0 ∨ jj = 1) with rfl | rfl <;> exact ⟨_, rfl, AOp.fieldPtr (k := 0) (d := 0) (e := 1) rfl rfl (hl 2 none _ (.head _) rfl) fo32_1⟩
            · refine .inl ⟨rfl, fun s' jj bb (h1 : 0 ≤ jj) (h2 : jj ≤ 1) hs hl => ?_⟩
              rcases (by omega : jj = 0 ∨ jj = 1) with rfl | rfl <;> exact ⟨_, rfl, AOp.loadPtr1 rfl rfl (hl 18 (some 0) _ (.head _) rfl) (by rw [hs]; rfl) sh9 rfl⟩
            · refine .inl ⟨rfl, fun s' jj bb (h1 : 0 ≤ jj) (h2 : jj ≤ 1) hs hl => ?_⟩
              rcases (by omega : jj = 0 ∨ jj = 1) with rfl | rfl <;> exact ⟨_, rfl, AOp.fieldPtr (k := 0) (d := 0) (e := 2) rfl rfl (hl 2 none _ (.head _) rfl) fo32_2⟩
            · refine .inl ⟨rfl, fun s' jj bb (h1 : 0 ≤ jj) (h2 : jj ≤ 1) hs hl => ?_⟩
              rcases (by omega : jj = 0 ∨ jj = 1) with rfl | rfl <;> exact ⟨_, rfl, AOp.loadPtr1 rfl rfl (hl 20 (some 2) _ (.head _) rfl) (by rw [hs]; rfl) sh30 rfl⟩
            · refine .inl ⟨rfl, fun s' jj bb (h1 : 0 ≤ jj) (h2 : jj ≤ 1) hs hl => ?_⟩
              rcases (by omega : jj = 0 ∨ jj = 1) with rfl | rfl <;> exact ⟨_, rfl, AOp.index (k := 0) rfl rfl (hl 21 (some 3) _ (.head _) rfl) rfl rfl (GType.trs_at hg7) el30⟩
            · refine .inl ⟨rfl, fun s' jj bb (h1 : 0 ≤ jj) (h2 : jj ≤ 1) hs hl => ?_⟩
              rcases (by omega : jj = 0 ∨ jj = 1) with rfl | rfl <;> exact ⟨_, rfl, AOp.loadEptr (ds := [.leaf (.int .i64 ((atD pt.gArgs 0).gKind)), .leaf (.string ((atD pt.gArgs 0).gName)), .row 3 (GType.trs ((atD pt.gArgs 0).gArgs))]) rfl rfl (hl 22 (some 4) _ (.head _) rfl) sh32 rfl rfl⟩
            · refine .inl ⟨rfl, fun s' jj bb (h1 : 0 ≤ jj) (h2 : jj ≤ 1) hs hl => ?_⟩
              rcases (by omega : jj = 0 ∨ jj = 1) with rfl | rfl <;> exact ⟨_, rfl, AOp.callF (res := (GType.pv (atD pt.gArgs 0))) (ps := [_]) rfl rfl Try.func170 (by kernel_rfl) rfl (evs_cons (hl 23 (some 5) _ (.head _) rfl) rfl) (by (repeat' (first | exact PV.Le.refl _ | exact LeL.nil | exact PV.Le.nil _ | exact PV.Le.acc _ _ _ | apply LeL.cons | apply PV.Le.agg | apply PV.Le.tup))) rfl rfl (sl4Copy_fn (atD pt.gArgs 0) hg8)⟩
            · refine .inl ⟨rfl, fun s' jj bb (h1 : 0 ≤ jj) (h2 : jj ≤ 1) hs hl => ?_⟩
              rcases (by omega : jj = 0 ∨ jj = 1) with rfl | rfl <;> exact ⟨_, rfl, AOp.build rfl rfl zr34 pl34 (parts_cons (hl 19 (some 1) _ (.tail _ (.head _)) rfl) rfl rfl (parts_cons (hl 24 (some 6) _ (.head _) rfl) rfl rfl rfl)) rfl⟩
            · refine .inl ⟨rfl, fun s' bb hs hl => ?_⟩
              refine .inl ⟨_, rfl, AOp.congr (AOp.alloc rfl rfl zr34) ?_⟩
              first | (rw [hs]; rfl) | rfl
            · refine .inl ⟨rfl, fun s' bb hs hl => ?_⟩
              refine .inr ⟨rfl, AOp.congr (AOp.storePtr (cs := [.t (.leaf (.string (pt.gName))), .t (.leaf (.int .i64 ((atD pt.gArgs 0).gKind))), .t (.leaf (.string ((atD pt.gArgs 0).gName))), .t (.row 3 (GType.trs ((atD pt.gArgs 0).gArgs)))]) (ds := [.t (.leaf (.string (pt.gName))), .t (.leaf (.int .i64 ((atD pt.gArgs 0).gKind))), .t (.leaf (.string ((atD pt.gArgs 0).gName))), .t (.row 3 (GType.trs ((atD pt.gArgs 0).gArgs)))]) rfl (hl 5 (some 8) _ (.head _) rfl) (by rw [hs]; rfl) (hl 25 (some 7) _ (.tail _ (.head _)) rfl) rfl rfl rfl sz34 (Nat.le_of_ble_eq_true rfl) rfl) ?_⟩
              first | (rw [hs]; rfl) | rfl
            refine AWP.seq ?_
            refine AWP.region_lit ?_
            refine AL.cons rfl (AOp.move (.inr rfl) rfl rfl) ?_
            refine AL.nil ?_
            refine AWP.seq ?_
            refine AWP.seq ?_
            refine AWP.region_lit ?_
            refine AL.cons rfl (AOp.move (.inr rfl) rfl rfl) ?_
            refine AL.nil ?_
            refine AWP.cut (ι := Bool) (fun v10 => sl23Projs_R2 fu r_sl23Projs pt pout = some (.inr v10)) (fun v10 => ⟨[(1, .acc 4 (GBound.trs (pout)) 0), (2, .ptr 0 0), (4, .nil), (5, .ptr 1 0), (6, .t (.leaf (.bool (v10))))], ⟨[some ⟨32, [.t (.leaf (.int .i64 (pt.gKind))), .t (.leaf (.string (pt.gName))), .t (.row 3 (GType.trs (pt.gArgs)))]⟩, some ⟨34, [.t (.leaf (.string (pt.gName))), .t (.leaf (.int .i64 ((atD pt.gArgs 0).gKind))), .t (.leaf (.string ((atD pt.gArgs 0).gName))), .t (.row 3 (GType.trs ((atD pt.gArgs 0).gArgs)))]⟩], [⟨34, 4, GBound.trs (pout), false⟩]⟩⟩) (by repeat' (first | exact qcEnds | exact ncAWP | exact ncRound | exact ncEx | apply qcThen | apply qcBlock | apply qcCut)) ?_ ?_
            · skip
              refine AWP.block ?_
              refine AWP.loopR (ι := Nat × Bool) (fun (i9, v10) => sl23Projs_R2 fu r_sl23Projs pt pout = loopN (sl23Projs_F2 fu r_sl23Projs pt pout) (pout.length - i9) i9 v10) (fun (i9, v10) => ⟨[(1, .acc 4 (GBound.trs (pout)) 0), (2, .ptr 0 0), (4, .nil), (5, .ptr 1 0), (6, .t (.leaf (.bool (v10)))), (7, .t (.leaf (.int .i64 (((i9 : Nat) : Int)))))], ⟨[some ⟨32, [.t (.leaf (.int .i64 (pt.gKind))), .t (.leaf (.string (pt.gName))), .t (.row 3 (GType.trs (pt.gArgs)))]⟩, some ⟨34, [.t (.leaf (.string (pt.gName))), .t (.leaf (.int .i64 ((atD pt.gArgs 0).gKind))), .t (.leaf (.string ((atD pt.gArgs 0).gName))), .t (.row 3 (GType.trs ((atD pt.gArgs 0).gArgs)))]⟩], [⟨34, 4, GBound.trs (pout), false⟩]⟩⟩) (fun (i9, v10) => pout.length - i9) (0, false) ?_ ?_ ?_
              · exact rfl
              · skip
                exact Wk.mk (StLe.mk' ⟨⟨rfl, by (repeat' (first | exact PV.Le.refl _ | exact LeL.nil | exact PV.Le.nil _ | exact PV.Le.acc _ _ _ | apply LeL.cons | apply PV.Le.agg | apply PV.Le.tup)), rfl⟩, ⟨⟨rfl, by (repeat' (first | exact PV.Le.refl _ | exact LeL.nil | exact PV.Le.nil _ | exact PV.Le.acc _ _ _ | apply LeL.cons | apply PV.Le.agg | apply PV.Le.tup)), rfl⟩, trivial⟩⟩ (by first | rfl | simp)) (keeps_all hC (boxes0) (Nat.le_of_ble_eq_true rfl)) ⟨⟨_, rfl, .refl _, rfl⟩, ⟨⟨_, rfl, .refl _, rfl⟩, ⟨⟨_, rfl, .refl _, rfl⟩, ⟨⟨_, rfl, .refl _, rfl⟩, ⟨⟨_, rfl, by (repeat' (first | exact PV.Le.refl _ | exact LeL.nil | exact PV.Le.nil _ | exact PV.Le.acc _ _ _ | apply LeL.cons | apply PV.Le.agg | apply PV.Le.tup)), rfl⟩, ⟨⟨_, rfl, by (repeat' (first | exact PV.Le.refl _ | exact LeL.nil | exact PV.Le.nil _ | exact PV.Le.acc _ _ _ | apply LeL.cons | apply PV.Le.agg | apply PV.Le.tup)), rfl⟩, trivial⟩⟩⟩⟩⟩⟩
              · rintro ⟨i9, v10⟩ hJ11
                refine AWP.seq ?_
                refine AWP.seq ?_
                refine AWP.region_lit ?_
                refine AL.cons rfl (AOp.move (.inl rfl) rfl rfl) ?_
                refine AL.cons rfl (AOp.move (.inl rfl) rfl rfl) ?_
                refine AL.cons rfl (AOp.lenN rfl rfl rfl rfl el86 (GBound.trs_len _)) ?_
                refine AL.cons rfl (AOp.lss rfl rfl rfl rfl) ?_
                refine AL.nil ?_
                refine AWP.cond rfl (fun h12 => ?_) (fun h12 => ?_)
                · skip
                  have h12l : i9 < pout.length := nat_lt_of2 h12
                  have h12n := nat_lt_of h12
                  refine AWP.skip ?_
                  refine AWP.seq ?_
                  refine AWP.block ?_
                  rcases bool2 (v10) with g13 | g13
                  · skip
                    refine AWP.drawnL ⟨_, _, fun _ _ => (⟨[some ⟨32, [.t (.leaf (.int .i64 (pt.gKind))), .t (.leaf (.string (pt.gName))), .t (.row 3 (GType.trs (pt.gArgs)))]⟩, some ⟨34, [.t (.leaf (.string (pt.gName))), .t (.leaf (.int .i64 ((atD pt.gArgs 0).gKind))), .t (.leaf (.string ((atD pt.gArgs 0).gName))), .t (.row 3 (GType.trs ((atD pt.gArgs 0).gArgs)))]⟩], [⟨34, 4, GBound.trs (pout), false⟩]⟩ : Sto), fun q' => ([some (.t (.leaf (.bool (v10)))), some (.t (.leaf (.bool (v10)))), none, none, none, none, none, none, some (.t (.leaf (.bool (true)))), some (.t (.leaf (.bool (true))))] : List (Option PV)).getD q' none, fun q' => ([.q 0 0, .q 0 0, .q 0 0, .q 0 0, .q 0 0, .q 0 0, .q 0 0, .q 0 0, .q 0 0, .q 0 0] : List DK).getD q' (.q 0 0), [], none, fun q' => ([[(6, none)], [(32, some 0)], [], [], [], [], [], [], [(33, some 1)], [(40, some 8)]] : List (List (Nat × Option Nat))).getD q' []⟩ rfl mixed (by kernel_rfl) rfl rfl ⟨?_, ?_, ?_, ?_, ?_, ?_, ?_, ?_, ?_, ?_, trivial⟩ rfl ?_
                    · refine .inl ⟨rfl, fun s' jj bb (h1 : 0 ≤ jj) (h2 : jj ≤ 0) hs hl => ?_⟩
                      obtain rfl : jj = 0 := by omega
                      exact ⟨_, rfl, AOp.move (.inl rfl) rfl (hl 6 none _ (.head _) rfl)⟩
                    · refine .inl ⟨rfl, fun s' jj bb (h1 : 0 ≤ jj) (h2 : jj ≤ 0) hs hl => ?_⟩
                      obtain rfl : jj = 0 := by omega
                      exact ⟨_, rfl, AOp.move (.inl rfl) rfl (hl 32 (some 0) _ (.head _) rfl)⟩
                    · exact .inr ⟨(congrArg (fun b => some (b == false)) g13), rfl, ⟨_, _, rfl⟩, fun d hd => by cases hd; rfl⟩
                    · exact .inr ⟨(congrArg (fun b => some (b == false)) g13), rfl, ⟨_, _, rfl⟩, fun d hd => by cases hd; rfl⟩
                    · exact .inr ⟨(congrArg (fun b => some (b == false)) g13), rfl, ⟨_, _, rfl⟩, fun d hd => by cases hd; rfl⟩
                    · exact .inr ⟨(congrArg (fun b => some (b == false)) g13), rfl, ⟨_, _, rfl⟩, fun d hd => by cases hd; rfl⟩
                    · exact .inr ⟨(congrArg (fun b => some (b == false)) g13), rfl, ⟨_, _, rfl⟩, fun d hd => by cases hd; rfl⟩
                    · exact .inr ⟨(congrArg (fun b => some (b == false)) g13), rfl, ⟨_, _, rfl⟩, fun d hd => by cases hd; rfl⟩
                    · refine .inl ⟨rfl, fun s' jj bb (h1 : 0 ≤ jj) (h2 : jj ≤ 0) hs hl => ?_⟩
                      obtain rfl : jj = 0 := by omega
                      exact ⟨_, rfl, AOp.pickT rfl rfl (hl 33 (some 1) _ (.head _) rfl) g13 rfl⟩
                    · refine .inl ⟨rfl, fun s' jj bb (h1 : 0 ≤ jj) (h2 : jj ≤ 0) hs hl => ?_⟩
                      obtain rfl : jj = 0 := by omega
                      exact ⟨_, rfl, AOp.move (.inr rfl) rfl (hl 40 (some 8) _ (.head _) rfl)⟩
                    refine AWP.region_lit ?_
                    refine AL.cons rfl (AOp.move (.inl rfl) rfl rfl) ?_
                    refine AL.cons rfl (AOp.addI rfl rfl rfl rfl (c := ((i9 + 1 : Nat) : Int)) (by omega) (by omega)) ?_
                    refine AL.cons rfl (AOp.move (.inr rfl) rfl rfl) ?_
                    refine AL.nil ?_
                    have e14 : (sl23Projs_F2 fu r_sl23Projs pt pout) i9 v10 = some (.next true) := swT g13 (rfl)
                    refine ⟨(i9 + 1, true), loopN_next h12l hJ11 e14, ?_, ?_⟩
                    · skip
                      exact Wk.mk (StLe.mk' ⟨⟨rfl, by (repeat' (first | exact PV.Le.refl _ | exact LeL.nil | exact PV.Le.nil _ | exact PV.Le.acc _ _ _ | apply LeL.cons | apply PV.Le.agg | apply PV.Le.tup)), rfl⟩, ⟨⟨rfl, by (repeat' (first | exact PV.Le.refl _ | exact LeL.nil | exact PV.Le.nil _ | exact PV.Le.acc _ _ _ | apply LeL.cons | apply PV.Le.agg | apply PV.Le.tup)), rfl⟩, trivial⟩⟩ (by first | rfl | simp)) (keeps_all hC (boxes0) (Nat.le_of_ble_eq_true rfl)) ⟨⟨_, rfl, .refl _, rfl⟩, ⟨⟨_, rfl, .refl _, rfl⟩, ⟨⟨_, rfl, .refl _, rfl⟩, ⟨⟨_, rfl, .refl _, rfl⟩, ⟨⟨_, rfl, by (repeat' (first | exact PV.Le.refl _ | exact LeL.nil | exact PV.Le.nil _ | exact PV.Le.acc _ _ _ | apply LeL.cons | apply PV.Le.agg | apply PV.Le.tup)), rfl⟩, ⟨⟨_, rfl, by (repeat' (first | exact PV.Le.refl _ | exact LeL.nil | exact PV.Le.nil _ | exact PV.Le.acc _ _ _ | apply LeL.cons | apply PV.Le.agg | apply PV.Le.tup)), rfl⟩, trivial⟩⟩⟩⟩⟩⟩
                    · dsimp only; omega
                  · skip
                    refine AWP.drawnL ⟨_, _, fun _ _ => (⟨[some ⟨32, [.t (.leaf (.int .i64 (pt.gKind))), .t (.leaf (.string (pt.gName))), .t (.row 3 (GType.trs (pt.gArgs)))]⟩, some ⟨34, [.t (.leaf (.string (pt.gName))), .t (.leaf (.int .i64 ((atD pt.gArgs 0).gKind))), .t (.leaf (.string ((atD pt.gArgs 0).gName))), .t (.row 3 (GType.trs ((atD pt.gArgs 0).gArgs)))]⟩], [⟨34, 4, GBound.trs (pout), false⟩]⟩ : Sto), fun q' => ([some (.t (.leaf (.bool (v10)))), some (.t (.leaf (.bool (v10)))), some (.acc 4 (GBound.trs (pout)) 0), some (.t (.leaf (.int .i64 (((i9 : Nat) : Int))))), some (.eptr (GBound.cs (atD pout i9))), some ((GBound.pv (atD pout i9))), some (.agg [.t (.leaf (.string (pt.gName))), .t (.leaf (.int .i64 ((atD pt.gArgs 0).gKind))), .t (.leaf (.string ((atD pt.gArgs 0).gName))), .t (.row 3 (GType.trs ((atD pt.gArgs 0).gArgs)))]), some (.t (.leaf (.bool (GBound.eq (atD pout i9) (GBound.mk pt.gName (atD pt.gArgs 0)))))), some (.t (.leaf (.bool (GBound.eq (atD pout i9) (GBound.mk pt.gName (atD pt.gArgs 0)))))), some (.t (.leaf (.bool (GBound.eq (atD pout i9) (GBound.mk pt.gName (atD pt.gArgs 0))))))] : List (Option PV)).getD q' none, fun q' => ([.q 0 0, .q 0 0, .q 0 0, .q 0 0, .q 0 0, .q 0 0, .q 0 0, .q 0 0, .q 0 0, .q 0 0] : List DK).getD q' (.q 0 0), [], none, fun q' => ([[(6, none)], [(32, some 0)], [(1, none)], [(7, none)], [(34, some 2), (35, some 3)], [(36, some 4)], [(5, none)], [(38, some 6), (37, some 5)], [(33, some 1), (39, some 7)], [(40, some 8)]] : List (List (Nat × Option Nat))).getD q' []⟩ rfl mixed (by kernel_rfl) rfl rfl ⟨?_, ?_, ?_, ?_, ?_, ?_, ?_, ?_, ?_, ?_, trivial⟩ rfl ?_
                    · refine .inl ⟨rfl, fun s' jj bb (h1 : 0 ≤ jj) (h2 : jj ≤ 0) hs hl => ?_⟩
                      obtain rfl : jj = 0 := by omega
                      exact ⟨_, rfl, AOp.move (.inl rfl) rfl (hl 6 none _ (.head _) rfl)⟩
                    · refine .inl ⟨rfl, fun s' jj bb (h1 : 0 ≤ jj) (h2 : jj ≤ 0) hs hl => ?_⟩
                      obtain rfl : jj = 0 := by omega
                      exact ⟨_, rfl, AOp.move (.inl rfl) rfl (hl 32 (some 0) _ (.head _) rfl)⟩
                    · refine .inl ⟨(congrArg (fun b => some (b == false)) g13), fun s' jj bb (h1 : 0 ≤ jj) (h2 : jj ≤ 0) hs hl => ?_⟩
                      obtain rfl : jj = 0 := by omega
                      exact ⟨_, rfl, AOp.move (.inl rfl) rfl (hl 1 none _ (.head _) rfl)⟩
                    · refine .inl ⟨(congrArg (fun b => some (b == false)) g13), fun s' jj bb (h1 : 0 ≤ jj) (h2 : jj ≤ 0) hs hl => ?_⟩
                      obtain rfl : jj = 0 := by omega
                      exact ⟨_, rfl, AOp.move (.inl rfl) rfl (hl 7 none _ (.head _) rfl)⟩
                    · refine .inl ⟨(congrArg (fun b => some (b == false)) g13), fun s' jj bb (h1 : 0 ≤ jj) (h2 : jj ≤ 0) hs hl => ?_⟩
                      obtain rfl : jj = 0 := by omega
                      exact ⟨_, rfl, AOp.index (k := i9) rfl rfl (hl 34 (some 2) _ (.head _) rfl) rfl (hl 35 (some 3) _ (.tail _ (.head _)) rfl) (GBound.trs_at h12n) el86⟩
                    · refine .inl ⟨(congrArg (fun b => some (b == false)) g13), fun s' jj bb (h1 : 0 ≤ jj) (h2 : jj ≤ 0) hs hl => ?_⟩
                      obtain rfl : jj = 0 := by omega
                      exact ⟨_, rfl, AOp.loadEptr (ds := [.leaf (.string ((atD pout i9).gTrait)), .leaf (.int .i64 ((atD pout i9).gType.gKind)), .leaf (.string ((atD pout i9).gType.gName)), .row 3 (GType.trs ((atD pout i9).gType.gArgs))]) rfl rfl (hl 36 (some 4) _ (.head _) rfl) sh34 rfl rfl⟩
                    · refine .inl ⟨(congrArg (fun b => some (b == false)) g13), fun s' jj bb (h1 : 0 ≤ jj) (h2 : jj ≤ 0) hs hl => ?_⟩
                      obtain rfl : jj = 0 := by omega
                      exact ⟨_, rfl, AOp.loadPtr (cs := [.t (.leaf (.string (pt.gName))), .t (.leaf (.int .i64 ((atD pt.gArgs 0).gKind))), .t (.leaf (.string ((atD pt.gArgs 0).gName))), .t (.row 3 (GType.trs ((atD pt.gArgs 0).gArgs)))]) rfl rfl (hl 5 none _ (.head _) rfl) (by rw [hs]; rfl) sh34 rfl rfl⟩
                    · refine .inl ⟨(congrArg (fun b => some (b == false)) g13), fun s' jj bb (h1 : 0 ≤ jj) (h2 : jj ≤ 0) hs hl => ?_⟩
                      obtain rfl : jj = 0 := by omega
                      exact ⟨_, rfl, AOp.callF (res := .t (.leaf (.bool (GBound.eq (atD pout i9) (GBound.mk pt.gName (atD pt.gArgs 0)))))) (ps := [_, _]) rfl rfl Try.func110 (by kernel_rfl) rfl (evs_cons (hl 37 (some 5) _ (.tail _ (.head _)) rfl) (evs_cons (hl 38 (some 6) _ (.head _) rfl) rfl)) (by (repeat' (first | exact PV.Le.refl _ | exact LeL.nil | exact PV.Le.nil _ | exact PV.Le.acc _ _ _ | apply LeL.cons | apply PV.Le.agg | apply PV.Le.tup))) rfl rfl (sEqualGoal_fn (atD pout i9) (GBound.mk pt.gName (atD pt.gArgs 0)))⟩
                    · refine .inl ⟨rfl, fun s' jj bb (h1 : 0 ≤ jj) (h2 : jj ≤ 0) hs hl => ?_⟩
                      obtain rfl : jj = 0 := by omega
                      exact ⟨_, rfl, AOp.pickF rfl rfl (hl 33 (some 1) _ (.head _) rfl) g13 (hl 39 (some 7) _ (.tail _ (.head _)) rfl)⟩
                    · refine .inl ⟨rfl, fun s' jj bb (h1 : 0 ≤ jj) (h2 : jj ≤ 0) hs hl => ?_⟩
                      obtain rfl : jj = 0 := by omega
                      exact ⟨_, rfl, AOp.move (.inr rfl) rfl (hl 40 (some 8) _ (.head _) rfl)⟩
                    refine AWP.region_lit ?_
                    refine AL.cons rfl (AOp.move (.inl rfl) rfl rfl) ?_
                    refine AL.cons rfl (AOp.addI rfl rfl rfl rfl (c := ((i9 + 1 : Nat) : Int)) (by omega) (by omega)) ?_
                    refine AL.cons rfl (AOp.move (.inr rfl) rfl rfl) ?_
                    refine AL.nil ?_
                    have e15 : (sl23Projs_F2 fu r_sl23Projs pt pout) i9 v10 = some (.next (GBound.eq (atD pout i9) (GBound.mk pt.gName (atD pt.gArgs 0)))) := swF g13 (rfl)
                    refine ⟨(i9 + 1, (GBound.eq (atD pout i9) (GBound.mk pt.gName (atD pt.gArgs 0)))), loopN_next h12l hJ11 e15, ?_, ?_⟩
                    · skip
                      exact Wk.mk (StLe.mk' ⟨⟨rfl, by (repeat' (first | exact PV.Le.refl _ | exact LeL.nil | exact PV.Le.nil _ | exact PV.Le.acc _ _ _ | apply LeL.cons | apply PV.Le.agg | apply PV.Le.tup)), rfl⟩, ⟨⟨rfl, by (repeat' (first | exact PV.Le.refl _ | exact LeL.nil | exact PV.Le.nil _ | exact PV.Le.acc _ _ _ | apply LeL.cons | apply PV.Le.agg | apply PV.Le.tup)), rfl⟩, trivial⟩⟩ (by first | rfl | simp)) (keeps_all hC (boxes0) (Nat.le_of_ble_eq_true rfl)) ⟨⟨_, rfl, .refl _, rfl⟩, ⟨⟨_, rfl, .refl _, rfl⟩, ⟨⟨_, rfl, .refl _, rfl⟩, ⟨⟨_, rfl, .refl _, rfl⟩, ⟨⟨_, rfl, by (repeat' (first | exact PV.Le.refl _ | exact LeL.nil | exact PV.Le.nil _ | exact PV.Le.acc _ _ _ | apply LeL.cons | apply PV.Le.agg | apply PV.Le.tup)), rfl⟩, ⟨⟨_, rfl, by (repeat' (first | exact PV.Le.refl _ | exact LeL.nil | exact PV.Le.nil _ | exact PV.Le.acc _ _ _ | apply LeL.cons | apply PV.Le.agg | apply PV.Le.tup)), rfl⟩, trivial⟩⟩⟩⟩⟩⟩
                    · dsimp only; omega
                · skip
                  have h12l : pout.length ≤ i9 := nat_ge_of2 h12
                  refine AWP.exit ?_
                  refine ⟨v10, loopN_end h12l hJ11, ?_⟩
                  exact Wk.mk (StLe.mk' ⟨⟨rfl, by (repeat' (first | exact PV.Le.refl _ | exact LeL.nil | exact PV.Le.nil _ | exact PV.Le.acc _ _ _ | apply LeL.cons | apply PV.Le.agg | apply PV.Le.tup)), rfl⟩, ⟨⟨rfl, by (repeat' (first | exact PV.Le.refl _ | exact LeL.nil | exact PV.Le.nil _ | exact PV.Le.acc _ _ _ | apply LeL.cons | apply PV.Le.agg | apply PV.Le.tup)), rfl⟩, trivial⟩⟩ (by first | rfl | simp)) (keeps_all hC (boxes0) (Nat.le_of_ble_eq_true rfl)) ⟨⟨_, rfl, .refl _, rfl⟩, ⟨⟨_, rfl, .refl _, rfl⟩, ⟨⟨_, rfl, .refl _, rfl⟩, ⟨⟨_, rfl, .refl _, rfl⟩, ⟨⟨_, rfl, .refl _, rfl⟩, trivial⟩⟩⟩⟩⟩
            · rintro v10 hR16
              refine AWP.seq ?_
              refine AWP.region_lit ?_
              refine AL.cons rfl (AOp.move (.inl rfl) rfl rfl) ?_
              refine AL.cons rfl (AOp.notB rfl rfl rfl) ?_
              refine AL.nil ?_
              refine AWP.cond rfl (fun h17 => ?_) (fun h17 => ?_)
              · skip
                refine AWP.region_lit ?_
                refine AL.cons rfl (AOp.move (.inl rfl) rfl rfl) ?_
                refine AL.cons rfl (AOp.loadPtr (cs := [.t (.leaf (.string (pt.gName))), .t (.leaf (.int .i64 ((atD pt.gArgs 0).gKind))), .t (.leaf (.string ((atD pt.gArgs 0).gName))), .t (.row 3 (GType.trs ((atD pt.gArgs 0).gArgs)))]) rfl rfl rfl rfl sh34 rfl rfl) ?_
                refine AL.cons rfl (AOp.buildSliceE (es := [GBound.cs (GBound.mk pt.gName (atD pt.gArgs 0))]) (es' := GBound.trs (([(GBound.mk pt.gName (atD pt.gArgs 0))] : List GBound))) (cs := [.t (.leaf (.string (pt.gName))), .t (.leaf (.int .i64 ((atD pt.gArgs 0).gKind))), .t (.leaf (.string ((atD pt.gArgs 0).gName))), .t (.row 3 (GType.trs ((atD pt.gArgs 0).gArgs)))]) rfl rfl el86 zr34 rfl rfl (by (repeat' (first | exact PV.Le.refl _ | exact LeL.nil | exact PV.Le.nil _ | exact PV.Le.acc _ _ _ | apply LeL.cons | apply PV.Le.agg | apply PV.Le.tup))) rfl (by simp [GBound.cs]) (by decide) rfl (by decide) (by simp [GBound.trs_map, GBound.tr_cs])) ?_
                rcases Classical.em ((pout).length + (([(GBound.mk pt.gName (atD pt.gArgs 0))] : List GBound)).length ≤ 68719476736) with hg18 | hg18
                · skip
                  refine AL.cons rfl (AOp.appendE (es3 := GBound.trs (pout ++ ([(GBound.mk pt.gName (atD pt.gArgs 0))] : List GBound))) rfl rfl rfl rfl rfl rfl rfl rfl rfl (fun e he => by rw [GBound.trs_map] at he; obtain ⟨x, _, rfl⟩ := List.mem_map.1 he; rw [GBound.tr_cs]; rfl) el86 ze86 (by decide) (by rw [GBound.trs_len, GBound.trs_len]; exact room_le hg18 (by decide)) (by rw [GBound.trs_map, GBound.trs_map, GBound.trs_map, List.map_append])) ?_
                  refine AL.cons rfl (AOp.move (.inr rfl) rfl rfl) ?_
                  refine AL.nil ?_
                  have e19 : sl23Projs_C1 fu r_sl23Projs pt pout = some (.inr (pout ++ ([(GBound.mk pt.gName (atD pt.gArgs 0))] : List GBound))) := swT g4 (swT h6 (gdT hg7 (gdT hg8 (soR hR16 (swT h17 (gdT hg18 (rfl)))))))
                  refine ⟨(pout ++ ([(GBound.mk pt.gName (atD pt.gArgs 0))] : List GBound)), e19, ?_⟩
                  exact Wk.mk (StLe.mk' ⟨⟨rfl, by (repeat' (first | exact PV.Le.refl _ | exact LeL.nil | exact PV.Le.nil _ | exact PV.Le.acc _ _ _ | apply LeL.cons | apply PV.Le.agg | apply PV.Le.tup)), rfl⟩, trivial⟩ (by first | rfl | simp)) (keeps_all hC (boxes0) (Nat.le_of_ble_eq_true rfl)) ⟨⟨_, rfl, by (repeat' (first | exact PV.Le.refl _ | exact LeL.nil | exact PV.Le.nil _ | exact PV.Le.acc _ _ _ | apply LeL.cons | apply PV.Le.agg | apply PV.Le.tup)), rfl⟩, ⟨⟨_, rfl, .refl _, rfl⟩, ⟨⟨_, rfl, .refl _, rfl⟩, trivial⟩⟩⟩
                · skip
                  have e20 : sl23Projs_C1 fu r_sl23Projs pt pout = none := swT g4 (swT h6 (gdT hg7 (gdT hg8 (soR hR16 (swT h17 (gdF hg18))))))
                  have e21 : sl23Projs_G fu r_sl23Projs pt pout = none := soN e20
                  exact none_some H e21
              · skip
                refine AWP.skip ?_
                have e22 : sl23Projs_C1 fu r_sl23Projs pt pout = some (.inr pout) := swT g4 (swT h6 (gdT hg7 (gdT hg8 (soR hR16 (swF h17 (rfl))))))
                refine ⟨pout, e22, ?_⟩
                exact Wk.mk (StLe.mk' ⟨⟨rfl, by (repeat' (first | exact PV.Le.refl _ | exact LeL.nil | exact PV.Le.nil _ | exact PV.Le.acc _ _ _ | apply LeL.cons | apply PV.Le.agg | apply PV.Le.tup)), rfl⟩, trivial⟩ (by first | rfl | simp)) (keeps_all hC (boxes0) (Nat.le_of_ble_eq_true rfl)) ⟨⟨_, rfl, by (repeat' (first | exact PV.Le.refl _ | exact LeL.nil | exact PV.Le.nil _ | exact PV.Le.acc _ _ _ | apply LeL.cons | apply PV.Le.agg | apply PV.Le.tup)), rfl⟩, ⟨⟨_, rfl, .refl _, rfl⟩, ⟨⟨_, rfl, .refl _, rfl⟩, trivial⟩⟩⟩
          · skip
            have e23 : sl23Projs_C1 fu r_sl23Projs pt pout = none := swT g4 (swT h6 (gdT hg7 (gdF hg8)))
            have e24 : sl23Projs_G fu r_sl23Projs pt pout = none := soN e23
            exact none_some H e24
        · skip
          have e25 : sl23Projs_C1 fu r_sl23Projs pt pout = none := swT g4 (swT h6 (gdF hg7))
          have e26 : sl23Projs_G fu r_sl23Projs pt pout = none := soN e25
          exact none_some H e26
      · skip
        refine AWP.skip ?_
        have e27 : sl23Projs_C1 fu r_sl23Projs pt pout = some (.inr pout) := swT g4 (swF h6 (rfl))
        refine ⟨pout, e27, ?_⟩
        exact Wk.mk (StLe.mk' ⟨⟨rfl, by (repeat' (first | exact PV.Le.refl _ | exact LeL.nil | exact PV.Le.nil _ | exact PV.Le.acc _ _ _ | apply LeL.cons | apply PV.Le.agg | apply PV.Le.tup)), rfl⟩, trivial⟩ (by first | rfl | simp)) (keeps_all hC (boxes0) (Nat.le_of_ble_eq_true rfl)) ⟨⟨_, rfl, by (repeat' (first | exact PV.Le.refl _ | exact LeL.nil | exact PV.Le.nil _ | exact PV.Le.acc _ _ _ | apply LeL.cons | apply PV.Le.agg | apply PV.Le.tup)), rfl⟩, ⟨⟨_, rfl, .refl _, rfl⟩, ⟨⟨_, rfl, .refl _, rfl⟩, trivial⟩⟩⟩
    · skip
      refine AL.skip_v rfl rfl rfl g4 rfl ?_
      refine AL.skip_v rfl rfl rfl g4 rfl ?_
      refine AL.skip_v rfl rfl rfl g4 rfl ?_
      refine AL.skip_v rfl rfl rfl g4 rfl ?_
      refine AL.cons rfl (AOp.pickF rfl rfl rfl g4 rfl) ?_
      refine AL.nil ?_
      refine AWP.cond rfl (fun h28 => ?_) (fun h28 => ?_)
      · skip
        exact absurd (h28.symm.trans rfl) (by decide)
      · skip
        refine AWP.skip ?_
        have e29 : sl23Projs_C1 fu r_sl23Projs pt pout = some (.inr pout) := swF g4 (rfl)
        refine ⟨pout, e29, ?_⟩
        exact Wk.mk (StLe.mk' ⟨⟨rfl, by (repeat' (first | exact PV.Le.refl _ | exact LeL.nil | exact PV.Le.nil _ | exact PV.Le.acc _ _ _ | apply LeL.cons | apply PV.Le.agg | apply PV.Le.tup)), rfl⟩, trivial⟩ (by first | rfl | simp)) (keeps_all hC (boxes0) (Nat.le_of_ble_eq_true rfl)) ⟨⟨_, rfl, by (repeat' (first | exact PV.Le.refl _ | exact LeL.nil | exact PV.Le.nil _ | exact PV.Le.acc _ _ _ | apply LeL.cons | apply PV.Le.agg | apply PV.Le.tup)), rfl⟩, ⟨⟨_, rfl, .refl _, rfl⟩, ⟨⟨_, rfl, .refl _, rfl⟩, trivial⟩⟩⟩
  · rintro v3 hR30
    refine AWP.seq ?_
    refine AWP.seq ?_
    refine AWP.region_lit ?_
    refine AL.cons rfl (AOp.move (.inr rfl) rfl rfl) ?_
    refine AL.nil ?_
    refine AWP.fact (lk_lenN 1 rfl rfl (GBound.trs_len _)) (fun hl34 => ?_)
    refine AWP.cut (ι := (List GBound)) (fun v33 => sl23Projs_R3 fu r_sl23Projs pt pout v3 = some (.inr v33)) (fun v33 => ⟨[(1, .acc 4 (GBound.trs (v33)) 0), (4, .nil)], ⟨[some ⟨32, [.t (.leaf (.int .i64 (pt.gKind))), .t (.leaf (.string (pt.gName))), .t (.row 3 (GType.trs (pt.gArgs)))]⟩], [⟨34, 4, GBound.trs (v33), false⟩]⟩⟩) (by repeat' (first | exact qcEnds | exact ncAWP | exact ncRound | exact ncEx | apply qcThen | apply qcBlock | apply qcCut)) ?_ ?_
    · skip
      refine AWP.block ?_
      refine AWP.loopR (ι := Nat × ((List GBound))) (fun (i31, v33) => sl23Projs_R3 fu r_sl23Projs pt pout v3 = loopN (sl23Projs_F3 fu r_sl23Projs pt pout v3) (pt.gArgs.length - i31) i31 v33) (fun (i31, v33) => ⟨[(1, .acc 4 (GBound.trs (v33)) 0), (2, .ptr 0 0), (4, .nil), (8, .t (.leaf (.int .i64 (((i31 : Nat) : Int)))))], ⟨[some ⟨32, [.t (.leaf (.int .i64 (pt.gKind))), .t (.leaf (.string (pt.gName))), .t (.row 3 (GType.trs (pt.gArgs)))]⟩], [⟨34, 4, GBound.trs (v33), false⟩]⟩⟩) (fun (i31, v33) => pt.gArgs.length - i31) (0, v3) ?_ ?_ ?_
      · exact rfl
      · skip
        exact Wk.mk (StLe.mk' ⟨⟨rfl, by (repeat' (first | exact PV.Le.refl _ | exact LeL.nil | exact PV.Le.nil _ | exact PV.Le.acc _ _ _ | apply LeL.cons | apply PV.Le.agg | apply PV.Le.tup)), rfl⟩, trivial⟩ (by first | rfl | simp)) (keeps_all hC (boxes0) (Nat.le_of_ble_eq_true rfl)) ⟨⟨_, rfl, by (repeat' (first | exact PV.Le.refl _ | exact LeL.nil | exact PV.Le.nil _ | exact PV.Le.acc _ _ _ | apply LeL.cons | apply PV.Le.agg | apply PV.Le.tup)), rfl⟩, ⟨⟨_, rfl, .refl _, rfl⟩, ⟨⟨_, rfl, .refl _, rfl⟩, ⟨⟨_, rfl, by (repeat' (first | exact PV.Le.refl _ | exact LeL.nil | exact PV.Le.nil _ | exact PV.Le.acc _ _ _ | apply LeL.cons | apply PV.Le.agg | apply PV.Le.tup)), rfl⟩, trivial⟩⟩⟩⟩
      · rintro ⟨i31, v33⟩ hJ35
        refine AWP.seq ?_
        refine AWP.seq ?_
        refine AWP.region_lit ?_
        refine AL.cons rfl (AOp.move (.inl rfl) rfl rfl) ?_
        refine AL.cons rfl (AOp.fieldPtr (k := 0) (d := 0) (e := 2) rfl rfl rfl fo32_2) ?_
        refine AL.cons rfl (AOp.loadPtr1 rfl rfl rfl rfl sh30 rfl) ?_
        refine AL.fact (lk_lenN 49 rfl rfl (GType.trs_len _)) (fun hl36 => ?_)
        refine AL.cons rfl (AOp.lenN rfl rfl rfl rfl el30 (GType.trs_len _)) ?_
        refine AL.cons rfl (AOp.lss rfl rfl rfl rfl) ?_
        refine AL.nil ?_
        refine AWP.cond rfl (fun h37 => ?_) (fun h37 => ?_)
        · skip
          have h37l : i31 < pt.gArgs.length := nat_lt_of2 h37
          have h37n := nat_lt_of h37
          refine AWP.skip ?_
          refine AWP.seq ?_
          refine AWP.block ?_
          refine AWP.region_lit ?_
          refine AL.cons rfl (AOp.fieldPtr (k := 0) (d := 0) (e := 2) rfl rfl rfl fo32_2) ?_
          refine AL.cons rfl (AOp.loadPtr1 rfl rfl rfl rfl sh30 rfl) ?_
          refine AL.cons rfl (AOp.move (.inl rfl) rfl rfl) ?_
          refine AL.cons rfl (AOp.index (k := i31) rfl rfl rfl rfl rfl (GType.trs_at h37n) el30) ?_
          refine AL.cons rfl (AOp.loadEptr (ds := [.leaf (.int .i64 ((atD pt.gArgs i31).gKind)), .leaf (.string ((atD pt.gArgs i31).gName)), .row 3 (GType.trs ((atD pt.gArgs i31).gArgs))]) rfl rfl rfl sh32 rfl rfl) ?_
          refine AL.cons rfl (AOp.move (.inl rfl) rfl rfl) ?_
          rcases hq38 : r_sl23Projs (atD pt.gArgs i31) v33 with _ | x39
          · skip
            have e40 : (sl23Projs_F3 fu r_sl23Projs pt pout v3) i31 v33 = none := bdN hq38
            have e41 : sl23Projs_R3 fu r_sl23Projs pt pout v3 = none := loopN_non h37l hJ35 e40
            have e42 : sl23Projs_G fu r_sl23Projs pt pout = none := soR hR30 (soN e41)
            exact none_some H e42
          · skip
            refine AL.cons rfl (AOp.callPE (pre := ⟨[], [⟨34, 4, GBound.trs (v33), false⟩]⟩) (st' := ⟨[], [⟨34, 4, GBound.trs (x39), false⟩]⟩) (ps := [_, _]) (qs := [(GType.pv (atD pt.gArgs i31)), .acc 4 (GBound.trs (v33)) 0]) [] [0] rfl rfl Try.func115 (by kernel_rfl) rfl rfl rfl (Part0.of trivial ⟨rfl, trivial⟩ (by decide) (by decide)) (by (repeat' (first | exact PV.Le.refl _ | exact LeL.nil | exact PV.Le.nil _ | exact PV.Le.acc _ _ _ | apply LeL.cons | apply PV.Le.agg | apply PV.Le.tup))) rfl rfl rfl (h_sl23Projs (atD pt.gArgs i31) v33 _ hq38)) ?_
            refine AL.cons rfl (AOp.move (.inr rfl) rfl rfl) ?_
            refine AL.nil ?_
            refine AWP.region_lit ?_
            refine AL.cons rfl (AOp.move (.inl rfl) rfl rfl) ?_
            refine AL.cons rfl (AOp.addI rfl rfl rfl rfl (c := ((i31 + 1 : Nat) : Int)) (by omega) (by omega)) ?_
            refine AL.cons rfl (AOp.move (.inr rfl) rfl rfl) ?_
            refine AL.nil ?_
            have e43 : (sl23Projs_F3 fu r_sl23Projs pt pout v3) i31 v33 = some (.next x39) := bdS hq38 (rfl)
            refine ⟨(i31 + 1, x39), loopN_next h37l hJ35 e43, ?_, ?_⟩
            · skip
              exact Wk.mk (StLe.mk' ⟨⟨rfl, by (repeat' (first | exact PV.Le.refl _ | exact LeL.nil | exact PV.Le.nil _ | exact PV.Le.acc _ _ _ | apply LeL.cons | apply PV.Le.agg | apply PV.Le.tup)), rfl⟩, trivial⟩ (by first | rfl | simp)) (keeps_all hC (boxes0) (Nat.le_of_ble_eq_true rfl)) ⟨⟨_, rfl, by (repeat' (first | exact PV.Le.refl _ | exact LeL.nil | exact PV.Le.nil _ | exact PV.Le.acc _ _ _ | apply LeL.cons | apply PV.Le.agg | apply PV.Le.tup)), rfl⟩, ⟨⟨_, rfl, .refl _, rfl⟩, ⟨⟨_, rfl, .refl _, rfl⟩, ⟨⟨_, rfl, by (repeat' (first | exact PV.Le.refl _ | exact LeL.nil | exact PV.Le.nil _ | exact PV.Le.acc _ _ _ | apply LeL.cons | apply PV.Le.agg | apply PV.Le.tup)), rfl⟩, trivial⟩⟩⟩⟩
            · dsimp only; omega
        · skip
          have h37l : pt.gArgs.length ≤ i31 := nat_ge_of2 h37
          refine AWP.exit ?_
          refine ⟨v33, loopN_end h37l hJ35, ?_⟩
          exact Wk.mk (StLe.mk' ⟨⟨rfl, by (repeat' (first | exact PV.Le.refl _ | exact LeL.nil | exact PV.Le.nil _ | exact PV.Le.acc _ _ _ | apply LeL.cons | apply PV.Le.agg | apply PV.Le.tup)), rfl⟩, trivial⟩ (by first | rfl | simp)) (keeps_all hC (boxes0) (Nat.le_of_ble_eq_true rfl)) ⟨⟨_, rfl, .refl _, rfl⟩, ⟨⟨_, rfl, .refl _, rfl⟩, trivial⟩⟩
    · rintro v33 hR44
      refine AWP.seq ?_
      refine AWP.region_lit ?_
      refine AL.cons rfl (AOp.move (.inl rfl) rfl rfl) ?_
      refine AL.cons rfl (AOp.move (.inr rfl) rfl rfl) ?_
      refine AL.nil ?_
      refine AWP.ret ?_
      have e45 : sl23Projs_G fu r_sl23Projs pt pout = some v33 := soR hR30 (soR hR44 (rfl))
      have hz : v33 = r := Option.some.inj (e45.symm.trans H)
      subst hz
      exact Ends.mk (ps := [_]) (by first | exact .inr rfl | exact .inl rfl) ⟨rfl, trivial⟩ rfl (StLe.mk' (st' := ⟨[], [⟨34, 4, GBound.trs (v33), false⟩]⟩) trivial (by first | rfl | simp)) (keeps_all hC (boxes0) (Nat.le_of_ble_eq_true rfl)) (q := (.acc 4 (GBound.trs (v33)) 0 : PV)) (by (repeat' (first | exact PV.Le.refl _ | exact LeL.nil | exact PV.Le.nil _ | exact PV.Le.acc _ _ _ | apply LeL.cons | apply PV.Le.agg | apply PV.Le.tup))) rfl ⟨rfl, rfl⟩
noncomputable def sl23Projs_M : Nat → GType → (List GBound) → Option ((List GBound))
  | 0, _, _ => none
  | fu + 1, pt, pout => sl23Projs_G fu (sl23Projs_M fu) pt pout
theorem sl23Projs_all (fu : Nat) : (∀ (pt : GType) (pout : List GBound) (r : (List GBound)), sl23Projs_M fu pt pout = some r → ACalls Try.prog 115 [(GType.pv pt), .acc 4 (GBound.trs (pout)) 0] ⟨[], [⟨34, 4, GBound.trs (pout), false⟩]⟩ (fun q t => q = (.acc 4 (GBound.trs (r)) 0 : PV) ∧ t = ⟨[], [⟨34, 4, GBound.trs (r), false⟩]⟩)) := by
  induction fu with
  | zero => exact (fun pt pout r H => by simp only [sl23Projs_M] at H; cases H)
  | succ fu ih => exact (fun pt pout r H => by simp only [sl23Projs_M] at H; exact sl23Projs_step (sl23Projs_M fu) fu ih pt pout r H)
theorem sl23Projs_ok (fu : Nat) (pt : GType) (pout : List GBound) (r : (List GBound)) (H : sl23Projs_M fu pt pout = some r) : ACalls Try.prog 115 [(GType.pv pt), .acc 4 (GBound.trs (pout)) 0] ⟨[], [⟨34, 4, GBound.trs (pout), false⟩]⟩ (fun q t => q = (.acc 4 (GBound.trs (r)) 0 : PV) ∧ t = ⟨[], [⟨34, 4, GBound.trs (r), false⟩]⟩) := (sl23Projs_all fu) pt pout r H

noncomputable def sProjectionsIn_M (fu : Nat)  (pt : GType) : Option ((List GBound)) :=
 bd (sl23Projs_M fu pt ([])) (fun x2 =>
 some x2)
set_option maxRecDepth 100000 in
set_option maxHeartbeats 4000000 in
theorem sProjectionsIn_ok  (fu : Nat)  (pt : GType) (r : (List GBound)) (H : sProjectionsIn_M fu pt = some r) : AFun Try.prog 49 [(GType.pv pt)] (.t (.row 4 (GBound.trs (r))) : PV) := by
  refine ACalls.intro Try.func49 rfl (by first | decide | (simp; done) | (simp; decide)) ?_
  intro C hC
  refine AWP.seq ?_
  refine AWP.region_lit ?_
  refine AL.cons rfl (AOp.box (cs := [.t (.leaf (.int .i64 (pt.gKind))), .t (.leaf (.string (pt.gName))), .t (.row 3 (GType.trs (pt.gArgs)))]) rfl rfl rfl rfl rfl) ?_
  refine AL.cons rfl (AOp.move (.inr rfl) rfl rfl) ?_
  refine AL.nil ?_
  refine AWP.seq ?_
  refine AWP.region_lit ?_
  refine AL.cons rfl (AOp.loadPtr (cs := [.t (.leaf (.int .i64 (pt.gKind))), .t (.leaf (.string (pt.gName))), .t (.row 3 (GType.trs (pt.gArgs)))]) rfl rfl rfl rfl sh32 rfl rfl) ?_
  refine AL.cons rfl (AOp.buildSliceA (es := []) (es' := GBound.trs ([])) (cs := []) rfl rfl el86 zr34 rfl rfl (by (repeat' (first | exact PV.Le.refl _ | exact LeL.nil | exact PV.Le.nil _ | exact PV.Le.acc _ _ _ | apply LeL.cons | apply PV.Le.agg | apply PV.Le.tup))) rfl (by simp [GBound.cs]) (by decide) rfl (by decide) (by simp [GBound.trs_map, GBound.tr_cs])) ?_
  rcases hq1 : sl23Projs_M fu pt ([]) with _ | x2
  · skip
    have e3 : sProjectionsIn_M fu pt = none := bdN hq1
    exact none_some H e3
  · skip
    refine AL.cons rfl (AOp.callPE (pre := ⟨[], [⟨34, 4, GBound.trs ([]), false⟩]⟩) (st' := ⟨[], [⟨34, 4, GBound.trs (x2), false⟩]⟩) (ps := [_, _]) (qs := [(GType.pv pt), .acc 4 (GBound.trs ([])) 0]) [] [0] rfl rfl Try.func115 (by kernel_rfl) rfl rfl rfl (Part0.of trivial ⟨rfl, trivial⟩ (by decide) (by decide)) (by (repeat' (first | exact PV.Le.refl _ | exact LeL.nil | exact PV.Le.nil _ | exact PV.Le.acc _ _ _ | apply LeL.cons | apply PV.Le.agg | apply PV.Le.tup))) rfl rfl rfl (sl23Projs_ok fu pt ([]) _ hq1)) ?_
    refine AL.cons rfl (AOp.move (.inr rfl) rfl rfl) ?_
    refine AL.nil ?_
    refine AWP.ret ?_
    have e4 : sProjectionsIn_M fu pt = some x2 := bdS hq1 (rfl)
    have hz : x2 = r := Option.some.inj (e4.symm.trans H)
    subst hz
    exact Ends.mk (ps := [_]) (by first | exact .inr rfl | exact .inl rfl) ⟨rfl, trivial⟩ rfl (StLe.mk' (st' := ⟨[], []⟩) trivial rfl) (keeps_nil hC) (q := (.t (.row 4 (GBound.trs (x2))) : PV)) (by (repeat' (first | exact PV.Le.refl _ | exact LeL.nil | exact PV.Le.nil _ | exact PV.Le.acc _ _ _ | apply LeL.cons | apply PV.Le.agg | apply PV.Le.tup))) rfl ⟨rfl, rfl⟩

noncomputable def ihasGoal_1_M (fu : Nat)  (pb : GBound) (c1 : GBound) : Option Bool :=
 some (GBound.eq pb c1)
set_option maxRecDepth 100000 in
set_option maxHeartbeats 4000000 in
theorem ihasGoal_1_ok  (fu : Nat)  (pb : GBound) (c1 : GBound) (r : Bool) (H : ihasGoal_1_M fu pb c1 = some r) : ACalls Try.prog 172 [(GBound.pv pb), .ptr 0 0] ⟨[some ⟨34, [.t (.leaf (.string (c1.gTrait))), .t (.leaf (.int .i64 (c1.gType.gKind))), .t (.leaf (.string (c1.gType.gName))), .t (.row 3 (GType.trs (c1.gType.gArgs)))]⟩], []⟩ (fun q t => q = (.t (.leaf (.bool (r))) : PV) ∧ t = ⟨[some ⟨34, [.t (.leaf (.string (c1.gTrait))), .t (.leaf (.int .i64 (c1.gType.gKind))), .t (.leaf (.string (c1.gType.gName))), .t (.row 3 (GType.trs (c1.gType.gArgs)))]⟩], []⟩) := by
  refine ACalls.intro Try.func172 rfl (by first | decide | (simp; done) | (simp; decide)) ?_
  intro C hC
  refine AWP.fact (box_lenN 0 3 rfl rfl rfl (GType.trs_len _)) (fun hl1 => ?_)
  refine AWP.seq ?_
  refine AWP.region_lit ?_
  refine AL.cons rfl (AOp.box (cs := [.t (.leaf (.string (pb.gTrait))), .t (.leaf (.int .i64 (pb.gType.gKind))), .t (.leaf (.string (pb.gType.gName))), .t (.row 3 (GType.trs (pb.gType.gArgs)))]) rfl rfl rfl rfl rfl) ?_
  refine AL.cons rfl (AOp.move (.inr rfl) rfl rfl) ?_
  refine AL.nil ?_
  refine AWP.seq ?_
  refine AWP.region_lit ?_
  refine AL.cons rfl (AOp.loadPtr (cs := [.t (.leaf (.string (pb.gTrait))), .t (.leaf (.int .i64 (pb.gType.gKind))), .t (.leaf (.string (pb.gType.gName))), .t (.row 3 (GType.trs (pb.gType.gArgs)))]) rfl rfl rfl rfl sh34 rfl rfl) ?_
  refine AL.cons rfl (AOp.loadPtr (cs := [.t (.leaf (.string (c1.gTrait))), .t (.leaf (.int .i64 (c1.gType.gKind))), .t (.leaf (.string (c1.gType.gName))), .t (.row 3 (GType.trs (c1.gType.gArgs)))]) rfl rfl rfl rfl sh34 rfl rfl) ?_
  refine AL.cons rfl (AOp.callF (res := .t (.leaf (.bool (GBound.eq pb c1)))) (ps := [_, _]) rfl rfl Try.func58 (by kernel_rfl) rfl rfl (by (repeat' (first | exact PV.Le.refl _ | exact LeL.nil | exact PV.Le.nil _ | exact PV.Le.acc _ _ _ | apply LeL.cons | apply PV.Le.agg | apply PV.Le.tup))) rfl rfl (iEqualGoal_fn pb c1)) ?_
  refine AL.cons rfl (AOp.move (.inr rfl) rfl rfl) ?_
  refine AL.nil ?_
  refine AWP.ret ?_
  have e2 : ihasGoal_1_M fu pb c1 = some (GBound.eq pb c1) := rfl
  have hz : (GBound.eq pb c1) = r := Option.some.inj (e2.symm.trans H)
  subst hz
  exact Ends.mk (ps := [_]) (by first | exact .inr rfl | exact .inl rfl) ⟨rfl, trivial⟩ rfl (StLe.mk' (st' := ⟨[some ⟨34, [.t (.leaf (.string (c1.gTrait))), .t (.leaf (.int .i64 (c1.gType.gKind))), .t (.leaf (.string (c1.gType.gName))), .t (.row 3 (GType.trs (c1.gType.gArgs)))]⟩], []⟩) ⟨⟨rfl, by (repeat' (first | exact PV.Le.refl _ | exact LeL.nil | exact PV.Le.nil _ | exact PV.Le.acc _ _ _ | apply LeL.cons | apply PV.Le.agg | apply PV.Le.tup)), rfl⟩, trivial⟩ rfl) (keeps_all hC (boxes1 rfl) (Nat.le_of_ble_eq_true rfl)) (q := (.t (.leaf (.bool ((GBound.eq pb c1)))) : PV)) (by (repeat' (first | exact PV.Le.refl _ | exact LeL.nil | exact PV.Le.nil _ | exact PV.Le.acc _ _ _ | apply LeL.cons | apply PV.Le.agg | apply PV.Le.tup))) rfl ⟨rfl, rfl⟩

noncomputable def gIndexFunc_Bound__ihasGoal_1_F1 (fu : Nat) (ps : List GBound) (c1_0 : GBound) : Nat → Unit → Option (LR Unit Int) :=
 fun i3 _ => bd (ihasGoal_1_M fu (atD ps i3) c1_0) (fun x7 =>
 sw (x7)
 (some (.ret ((i3 : Nat) : Int)))
 (some (.next ())))
noncomputable def gIndexFunc_Bound__ihasGoal_1_R1 (fu : Nat) (ps : List GBound) (c1_0 : GBound) : Option (Int ⊕ Unit) :=
 loopN (gIndexFunc_Bound__ihasGoal_1_F1 fu ps c1_0) (ps.length - 0) 0 ()
noncomputable def gIndexFunc_Bound__ihasGoal_1_M (fu : Nat)  (ps : List GBound) (c1_0 : GBound) : Option Int :=
 so (gIndexFunc_Bound__ihasGoal_1_R1 fu ps c1_0) (fun _ =>
 some (-1))
set_option maxRecDepth 100000 in
set_option maxHeartbeats 4000000 in
theorem gIndexFunc_Bound__ihasGoal_1_ok  (fu : Nat)  (ps : List GBound) (c1_0 : GBound) (r : Int) (H : gIndexFunc_Bound__ihasGoal_1_M fu ps c1_0 = some r) : ACalls Try.prog 135 [.t (.row 4 (GBound.trs (ps))), .fn 172 [.ptr 0 0]] ⟨[some ⟨34, [.t (.leaf (.string (c1_0.gTrait))), .t (.leaf (.int .i64 (c1_0.gType.gKind))), .t (.leaf (.string (c1_0.gType.gName))), .t (.row 3 (GType.trs (c1_0.gType.gArgs)))]⟩], []⟩ (fun q t => q = (.t (.leaf (.int .i64 (r))) : PV) ∧ t = ⟨[some ⟨34, [.t (.leaf (.string (c1_0.gTrait))), .t (.leaf (.int .i64 (c1_0.gType.gKind))), .t (.leaf (.string (c1_0.gType.gName))), .t (.row 3 (GType.trs (c1_0.gType.gArgs)))]⟩], []⟩) := by
  refine ACalls.intro Try.func135 rfl (by first | decide | (simp; done) | (simp; decide)) ?_
  intro C hC
  refine AWP.fact (lk_lenN 0 rfl rfl (GBound.trs_len _)) (fun hl1 => ?_)
  refine AWP.fact (box_lenN 0 3 rfl rfl rfl (GType.trs_len _)) (fun hl2 => ?_)
  refine AWP.seq ?_
  refine AWP.region_lit ?_
  refine AL.cons rfl (AOp.move (.inr rfl) rfl rfl) ?_
  refine AL.nil ?_
  refine AWP.seq ?_
  refine AWP.seq ?_
  refine AWP.region_lit ?_
  refine AL.cons rfl (AOp.move (.inl rfl) rfl rfl) ?_
  refine AL.cons rfl (AOp.lenN rfl rfl rfl rfl el86 (GBound.trs_len _)) ?_
  refine AL.cons rfl (AOp.move (.inl rfl) rfl rfl) ?_
  refine AL.nil ?_
  refine AWP.cut (ι := Unit) (fun _ => gIndexFunc_Bound__ihasGoal_1_R1 fu ps c1_0 = some (.inr ())) (fun _ => ⟨[(4, .t (.leaf (.int .i64 (0))))], ⟨[some ⟨34, [.t (.leaf (.string (c1_0.gTrait))), .t (.leaf (.int .i64 (c1_0.gType.gKind))), .t (.leaf (.string (c1_0.gType.gName))), .t (.row 3 (GType.trs (c1_0.gType.gArgs)))]⟩], []⟩⟩) (by repeat' (first | exact qcEnds | exact ncAWP | exact ncRound | exact ncEx | apply qcThen | apply qcBlock | apply qcCut)) ?_ ?_
  · skip
    refine AWP.block ?_
    refine AWP.loopR (ι := Nat × Unit) (fun (i3, _) => gIndexFunc_Bound__ihasGoal_1_R1 fu ps c1_0 = loopN (gIndexFunc_Bound__ihasGoal_1_F1 fu ps c1_0) (ps.length - i3) i3 ()) (fun (i3, _) => ⟨[(0, .t (.row 4 (GBound.trs (ps)))), (1, .fn 172 [.ptr 0 0]), (4, .t (.leaf (.int .i64 (0)))), (7, .t (.leaf (.int .i64 (((ps.length : Nat) : Int))))), (8, .t (.leaf (.int .i64 (((i3 : Nat) : Int)))))], ⟨[some ⟨34, [.t (.leaf (.string (c1_0.gTrait))), .t (.leaf (.int .i64 (c1_0.gType.gKind))), .t (.leaf (.string (c1_0.gType.gName))), .t (.row 3 (GType.trs (c1_0.gType.gArgs)))]⟩], []⟩⟩) (fun (i3, _) => ps.length - i3) (0, ()) ?_ ?_ ?_
    · exact rfl
    · skip
      exact Wk.mk (StLe.mk' ⟨⟨rfl, by (repeat' (first | exact PV.Le.refl _ | exact LeL.nil | exact PV.Le.nil _ | exact PV.Le.acc _ _ _ | apply LeL.cons | apply PV.Le.agg | apply PV.Le.tup)), rfl⟩, trivial⟩ rfl) (keeps_all hC (boxes1 rfl) (Nat.le_of_ble_eq_true rfl)) ⟨⟨_, rfl, .refl _, rfl⟩, ⟨⟨_, rfl, .refl _, rfl⟩, ⟨⟨_, rfl, .refl _, rfl⟩, ⟨⟨_, rfl, .refl _, rfl⟩, ⟨⟨_, rfl, by (repeat' (first | exact PV.Le.refl _ | exact LeL.nil | exact PV.Le.nil _ | exact PV.Le.acc _ _ _ | apply LeL.cons | apply PV.Le.agg | apply PV.Le.tup)), rfl⟩, trivial⟩⟩⟩⟩⟩
    · rintro ⟨i3, ⟨⟩⟩ hJ4
      refine AWP.seq ?_
      refine AWP.region_lit ?_
      refine AL.cons rfl (AOp.lss rfl rfl rfl rfl) ?_
      refine AL.nil ?_
      refine AWP.seq ?_
      refine AWP.cond rfl (fun h5 => ?_) (fun h5 => ?_)
      · skip
        have h5l : i3 < ps.length := nat_lt_of2 h5
        have h5n := nat_lt_of h5
        refine AWP.skip ?_
        refine AWP.seq ?_
        refine AWP.block ?_
        refine AWP.seq ?_
        refine AWP.region_lit ?_
        refine AL.cons rfl (AOp.move (.inl rfl) rfl rfl) ?_
        refine AL.cons rfl (AOp.move (.inr rfl) rfl rfl) ?_
        refine AL.nil ?_
        refine AWP.seq ?_
        refine AWP.region_lit ?_
        refine AL.cons rfl (AOp.move (.inl rfl) rfl rfl) ?_
        refine AL.cons rfl (AOp.move (.inl rfl) rfl rfl) ?_
        refine AL.cons rfl (AOp.move (.inl rfl) rfl rfl) ?_
        refine AL.cons rfl (AOp.index (k := i3) rfl rfl rfl rfl rfl (GBound.trs_at h5n) el86) ?_
        refine AL.cons rfl (AOp.loadEptr (ds := [.leaf (.string ((atD ps i3).gTrait)), .leaf (.int .i64 ((atD ps i3).gType.gKind)), .leaf (.string ((atD ps i3).gType.gName)), .row 3 (GType.trs ((atD ps i3).gType.gArgs))]) rfl rfl rfl sh34 rfl rfl) ?_
        rcases hq6 : ihasGoal_1_M fu (atD ps i3) c1_0 with _ | x7
        · skip
          have e8 : (gIndexFunc_Bound__ihasGoal_1_F1 fu ps c1_0) i3 () = none := bdN hq6
          have e9 : gIndexFunc_Bound__ihasGoal_1_R1 fu ps c1_0 = none := loopN_non h5l hJ4 e8
          have e10 : gIndexFunc_Bound__ihasGoal_1_M fu ps c1_0 = none := soN e9
          exact none_some H e10
        · skip
          refine AL.cons rfl (AOp.callVPE (pre := ⟨[some ⟨34, [.t (.leaf (.string (c1_0.gTrait))), .t (.leaf (.int .i64 (c1_0.gType.gKind))), .t (.leaf (.string (c1_0.gType.gName))), .t (.row 3 (GType.trs (c1_0.gType.gArgs)))]⟩], []⟩) (st' := ⟨[some ⟨34, [.t (.leaf (.string (c1_0.gTrait))), .t (.leaf (.int .i64 (c1_0.gType.gKind))), .t (.leaf (.string (c1_0.gType.gName))), .t (.row 3 (GType.trs (c1_0.gType.gArgs)))]⟩], []⟩) (ps := [_]) (cs := [.ptr 0 0]) (qs := [(GBound.pv (atD ps i3)), .ptr 0 0]) [0] [] rfl rfl rfl Try.func172 (by kernel_rfl) rfl rfl rfl (Part0.of ⟨⟨_, rfl, rfl, by (repeat' (first | exact PV.Le.refl _ | exact LeL.nil | exact PV.Le.nil _ | exact PV.Le.acc _ _ _ | apply LeL.cons | apply PV.Le.agg | apply PV.Le.tup)), rfl⟩, trivial⟩ trivial (by decide) (by decide)) (by (repeat' (first | exact PV.Le.refl _ | exact LeL.nil | exact PV.Le.nil _ | exact PV.Le.acc _ _ _ | apply LeL.cons | apply PV.Le.agg | apply PV.Le.tup))) rfl rfl rfl (ihasGoal_1_ok fu (atD ps i3) c1_0 _ hq6)) ?_
          refine AL.nil ?_
          refine AWP.cond rfl (fun h11 => ?_) (fun h11 => ?_)
          · skip
            refine AWP.seq ?_
            refine AWP.region_lit ?_
            refine AL.cons rfl (AOp.move (.inl rfl) rfl rfl) ?_
            refine AL.cons rfl (AOp.move (.inr rfl) rfl rfl) ?_
            refine AL.nil ?_
            refine AWP.ret ?_
            have e12 : (gIndexFunc_Bound__ihasGoal_1_F1 fu ps c1_0) i3 () = some (.ret ((i3 : Nat) : Int)) := bdS hq6 (swT h11 (rfl))
            have e13 : gIndexFunc_Bound__ihasGoal_1_R1 fu ps c1_0 = some (.inl ((i3 : Nat) : Int)) := loopN_ret h5l hJ4 e12
            have e14 : gIndexFunc_Bound__ihasGoal_1_M fu ps c1_0 = some ((i3 : Nat) : Int) := soL e13
            have hz : ((i3 : Nat) : Int) = r := Option.some.inj (e14.symm.trans H)
            subst hz
            exact Ends.mk (ps := [_]) (by first | exact .inr rfl | exact .inl rfl) ⟨rfl, trivial⟩ rfl (StLe.mk' (st' := ⟨[some ⟨34, [.t (.leaf (.string (c1_0.gTrait))), .t (.leaf (.int .i64 (c1_0.gType.gKind))), .t (.leaf (.string (c1_0.gType.gName))), .t (.row 3 (GType.trs (c1_0.gType.gArgs)))]⟩], []⟩) ⟨⟨rfl, by (repeat' (first | exact PV.Le.refl _ | exact LeL.nil | exact PV.Le.nil _ | exact PV.Le.acc _ _ _ | apply LeL.cons | apply PV.Le.agg | apply PV.Le.tup)), rfl⟩, trivial⟩ rfl) (keeps_all hC (boxes1 rfl) (Nat.le_of_ble_eq_true rfl)) (q := (.t (.leaf (.int .i64 (((i3 : Nat) : Int)))) : PV)) (by (repeat' (first | exact PV.Le.refl _ | exact LeL.nil | exact PV.Le.nil _ | exact PV.Le.acc _ _ _ | apply LeL.cons | apply PV.Le.agg | apply PV.Le.tup))) rfl ⟨rfl, rfl⟩
          · skip
            refine AWP.skip ?_
            refine AWP.region_lit ?_
            refine AL.cons rfl (AOp.addI rfl rfl rfl rfl (c := ((i3 + 1 : Nat) : Int)) (by omega) (by omega)) ?_
            refine AL.cons rfl (AOp.move (.inl rfl) rfl rfl) ?_
            refine AL.nil ?_
            have e15 : (gIndexFunc_Bound__ihasGoal_1_F1 fu ps c1_0) i3 () = some (.next ()) := bdS hq6 (swF h11 (rfl))
            refine ⟨(i3 + 1, ()), loopN_next h5l hJ4 e15, ?_, ?_⟩
            · skip
              exact Wk.mk (StLe.mk' ⟨⟨rfl, by (repeat' (first | exact PV.Le.refl _ | exact LeL.nil | exact PV.Le.nil _ | exact PV.Le.acc _ _ _ | apply LeL.cons | apply PV.Le.agg | apply PV.Le.tup)), rfl⟩, trivial⟩ rfl) (keeps_all hC (boxes1 rfl) (Nat.le_of_ble_eq_true rfl)) ⟨⟨_, rfl, .refl _, rfl⟩, ⟨⟨_, rfl, .refl _, rfl⟩, ⟨⟨_, rfl, .refl _, rfl⟩, ⟨⟨_, rfl, .refl _, rfl⟩, ⟨⟨_, rfl, by (repeat' (first | exact PV.Le.refl _ | exact LeL.nil | exact PV.Le.nil _ | exact PV.Le.acc _ _ _ | apply LeL.cons | apply PV.Le.agg | apply PV.Le.tup)), rfl⟩, trivial⟩⟩⟩⟩⟩
            · dsimp only; omega
      · skip
        have h5l : ps.length ≤ i3 := nat_ge_of2 h5
        refine AWP.exit ?_
        refine ⟨(), loopN_end h5l hJ4, ?_⟩
        exact Wk.mk (StLe.mk' ⟨⟨rfl, by (repeat' (first | exact PV.Le.refl _ | exact LeL.nil | exact PV.Le.nil _ | exact PV.Le.acc _ _ _ | apply LeL.cons | apply PV.Le.agg | apply PV.Le.tup)), rfl⟩, trivial⟩ rfl) (keeps_all hC (boxes1 rfl) (Nat.le_of_ble_eq_true rfl)) ⟨⟨_, rfl, .refl _, rfl⟩, trivial⟩
  · rintro ⟨⟩ hR16
    refine AWP.seq ?_
    refine AWP.region_lit ?_
    refine AL.cons rfl (AOp.move (.inr rfl) rfl rfl) ?_
    refine AL.nil ?_
    refine AWP.ret ?_
    have e17 : gIndexFunc_Bound__ihasGoal_1_M fu ps c1_0 = some (-1) := soR hR16 (rfl)
    have hz : (-1) = r := Option.some.inj (e17.symm.trans H)
    subst hz
    exact Ends.mk (ps := [_]) (by first | exact .inr rfl | exact .inl rfl) ⟨rfl, trivial⟩ rfl (StLe.mk' (st' := ⟨[some ⟨34, [.t (.leaf (.string (c1_0.gTrait))), .t (.leaf (.int .i64 (c1_0.gType.gKind))), .t (.leaf (.string (c1_0.gType.gName))), .t (.row 3 (GType.trs (c1_0.gType.gArgs)))]⟩], []⟩) ⟨⟨rfl, by (repeat' (first | exact PV.Le.refl _ | exact LeL.nil | exact PV.Le.nil _ | exact PV.Le.acc _ _ _ | apply LeL.cons | apply PV.Le.agg | apply PV.Le.tup)), rfl⟩, trivial⟩ rfl) (keeps_all hC (boxes1 rfl) (Nat.le_of_ble_eq_true rfl)) (q := (.t (.leaf (.int .i64 ((-1)))) : PV)) (by (repeat' (first | exact PV.Le.refl _ | exact LeL.nil | exact PV.Le.nil _ | exact PV.Le.acc _ _ _ | apply LeL.cons | apply PV.Le.agg | apply PV.Le.tup))) rfl ⟨rfl, rfl⟩

noncomputable def gContainsFunc_Bound__ihasGoal_1_M (fu : Nat)  (ps : List GBound) (c1_0 : GBound) : Option Bool :=
 bd (gIndexFunc_Bound__ihasGoal_1_M fu ps c1_0) (fun x4 =>
 some (decide ((x4 : Int) ≥ 0)))
set_option maxRecDepth 100000 in
set_option maxHeartbeats 4000000 in
theorem gContainsFunc_Bound__ihasGoal_1_ok  (fu : Nat)  (ps : List GBound) (c1_0 : GBound) (r : Bool) (H : gContainsFunc_Bound__ihasGoal_1_M fu ps c1_0 = some r) : ACalls Try.prog 128 [.t (.row 4 (GBound.trs (ps))), .fn 172 [.ptr 0 0]] ⟨[some ⟨34, [.t (.leaf (.string (c1_0.gTrait))), .t (.leaf (.int .i64 (c1_0.gType.gKind))), .t (.leaf (.string (c1_0.gType.gName))), .t (.row 3 (GType.trs (c1_0.gType.gArgs)))]⟩], []⟩ (fun q t => q = (.t (.leaf (.bool (r))) : PV) ∧ t = ⟨[some ⟨34, [.t (.leaf (.string (c1_0.gTrait))), .t (.leaf (.int .i64 (c1_0.gType.gKind))), .t (.leaf (.string (c1_0.gType.gName))), .t (.row 3 (GType.trs (c1_0.gType.gArgs)))]⟩], []⟩) := by
  refine ACalls.intro Try.func128 rfl (by first | decide | (simp; done) | (simp; decide)) ?_
  intro C hC
  refine AWP.fact (lk_lenN 0 rfl rfl (GBound.trs_len _)) (fun hl1 => ?_)
  refine AWP.fact (box_lenN 0 3 rfl rfl rfl (GType.trs_len _)) (fun hl2 => ?_)
  refine AWP.seq ?_
  refine AWP.region_lit ?_
  refine AL.cons rfl (AOp.move (.inr rfl) rfl rfl) ?_
  refine AL.nil ?_
  refine AWP.seq ?_
  refine AWP.region_lit ?_
  refine AL.cons rfl (AOp.move (.inl rfl) rfl rfl) ?_
  refine AL.cons rfl (AOp.move (.inl rfl) rfl rfl) ?_
  rcases hq3 : gIndexFunc_Bound__ihasGoal_1_M fu ps c1_0 with _ | x4
  · skip
    have e5 : gContainsFunc_Bound__ihasGoal_1_M fu ps c1_0 = none := bdN hq3
    exact none_some H e5
  · skip
    refine AL.cons rfl (AOp.callPE (pre := ⟨[some ⟨34, [.t (.leaf (.string (c1_0.gTrait))), .t (.leaf (.int .i64 (c1_0.gType.gKind))), .t (.leaf (.string (c1_0.gType.gName))), .t (.row 3 (GType.trs (c1_0.gType.gArgs)))]⟩], []⟩) (st' := ⟨[some ⟨34, [.t (.leaf (.string (c1_0.gTrait))), .t (.leaf (.int .i64 (c1_0.gType.gKind))), .t (.leaf (.string (c1_0.gType.gName))), .t (.row 3 (GType.trs (c1_0.gType.gArgs)))]⟩], []⟩) (ps := [_, _]) (qs := [.t (.row 4 (GBound.trs (ps))), .fn 172 [.ptr 0 0]]) [0] [] rfl rfl Try.func135 (by kernel_rfl) rfl rfl rfl (Part0.of ⟨⟨_, rfl, rfl, by (repeat' (first | exact PV.Le.refl _ | exact LeL.nil | exact PV.Le.nil _ | exact PV.Le.acc _ _ _ | apply LeL.cons | apply PV.Le.agg | apply PV.Le.tup)), rfl⟩, trivial⟩ trivial (by decide) (by decide)) (by (repeat' (first | exact PV.Le.refl _ | exact LeL.nil | exact PV.Le.nil _ | exact PV.Le.acc _ _ _ | apply LeL.cons | apply PV.Le.agg | apply PV.Le.tup))) rfl rfl rfl (gIndexFunc_Bound__ihasGoal_1_ok fu ps c1_0 _ hq3)) ?_
    refine AL.cons rfl (AOp.geq rfl rfl rfl rfl) ?_
    refine AL.cons rfl (AOp.move (.inr rfl) rfl rfl) ?_
    refine AL.nil ?_
    refine AWP.ret ?_
    have e6 : gContainsFunc_Bound__ihasGoal_1_M fu ps c1_0 = some (decide ((x4 : Int) ≥ 0)) := bdS hq3 (rfl)
    have hz : (decide ((x4 : Int) ≥ 0)) = r := Option.some.inj (e6.symm.trans H)
    subst hz
    exact Ends.mk (ps := [_]) (by first | exact .inr rfl | exact .inl rfl) ⟨rfl, trivial⟩ rfl (StLe.mk' (st' := ⟨[some ⟨34, [.t (.leaf (.string (c1_0.gTrait))), .t (.leaf (.int .i64 (c1_0.gType.gKind))), .t (.leaf (.string (c1_0.gType.gName))), .t (.row 3 (GType.trs (c1_0.gType.gArgs)))]⟩], []⟩) ⟨⟨rfl, by (repeat' (first | exact PV.Le.refl _ | exact LeL.nil | exact PV.Le.nil _ | exact PV.Le.acc _ _ _ | apply LeL.cons | apply PV.Le.agg | apply PV.Le.tup)), rfl⟩, trivial⟩ rfl) (keeps_all hC (boxes1 rfl) (Nat.le_of_ble_eq_true rfl)) (q := (.t (.leaf (.bool ((decide ((x4 : Int) ≥ 0))))) : PV)) (by (repeat' (first | exact PV.Le.refl _ | exact LeL.nil | exact PV.Le.nil _ | exact PV.Le.acc _ _ _ | apply LeL.cons | apply PV.Le.agg | apply PV.Le.tup))) rfl ⟨rfl, rfl⟩

noncomputable def ihasGoal_M (fu : Nat)  (plist : List GBound) (pg : GBound) : Option Bool :=
 bd (gContainsFunc_Bound__ihasGoal_1_M fu plist pg) (fun x3 =>
 some x3)
set_option maxRecDepth 100000 in
set_option maxHeartbeats 4000000 in
theorem ihasGoal_ok  (fu : Nat)  (plist : List GBound) (pg : GBound) (r : Bool) (H : ihasGoal_M fu plist pg = some r) : AFun Try.prog 119 [.t (.row 4 (GBound.trs (plist))), (GBound.pv pg)] (.t (.leaf (.bool (r))) : PV) := by
  refine ACalls.intro Try.func119 rfl (by first | decide | (simp; done) | (simp; decide)) ?_
  intro C hC
  refine AWP.fact (lk_lenN 0 rfl rfl (GBound.trs_len _)) (fun hl1 => ?_)
  refine AWP.seq ?_
  refine AWP.region_lit ?_
  refine AL.cons rfl (AOp.box (cs := [.t (.leaf (.string (pg.gTrait))), .t (.leaf (.int .i64 (pg.gType.gKind))), .t (.leaf (.string (pg.gType.gName))), .t (.row 3 (GType.trs (pg.gType.gArgs)))]) rfl rfl rfl rfl rfl) ?_
  refine AL.cons rfl (AOp.move (.inr rfl) rfl rfl) ?_
  refine AL.nil ?_
  refine AWP.seq ?_
  refine AWP.region_lit ?_
  refine AL.cons rfl (AOp.move (.inl rfl) rfl rfl) ?_
  refine AL.cons rfl (AOp.makeFunc (ps := [.ptr 0 0]) rfl rfl rfl) ?_
  rcases hq2 : gContainsFunc_Bound__ihasGoal_1_M fu plist pg with _ | x3
  · skip
    have e4 : ihasGoal_M fu plist pg = none := bdN hq2
    exact none_some H e4
  · skip
    refine AL.cons rfl (AOp.callPE (pre := ⟨[some ⟨34, [.t (.leaf (.string (pg.gTrait))), .t (.leaf (.int .i64 (pg.gType.gKind))), .t (.leaf (.string (pg.gType.gName))), .t (.row 3 (GType.trs (pg.gType.gArgs)))]⟩], []⟩) (st' := ⟨[some ⟨34, [.t (.leaf (.string (pg.gTrait))), .t (.leaf (.int .i64 (pg.gType.gKind))), .t (.leaf (.string (pg.gType.gName))), .t (.row 3 (GType.trs (pg.gType.gArgs)))]⟩], []⟩) (ps := [_, _]) (qs := [.t (.row 4 (GBound.trs (plist))), .fn 172 [.ptr 0 0]]) [0] [] rfl rfl Try.func128 (by kernel_rfl) rfl rfl rfl (Part0.of ⟨⟨_, rfl, rfl, by (repeat' (first | exact PV.Le.refl _ | exact LeL.nil | exact PV.Le.nil _ | exact PV.Le.acc _ _ _ | apply LeL.cons | apply PV.Le.agg | apply PV.Le.tup)), rfl⟩, trivial⟩ trivial (by decide) (by decide)) (by (repeat' (first | exact PV.Le.refl _ | exact LeL.nil | exact PV.Le.nil _ | exact PV.Le.acc _ _ _ | apply LeL.cons | apply PV.Le.agg | apply PV.Le.tup))) rfl rfl rfl (gContainsFunc_Bound__ihasGoal_1_ok fu plist pg _ hq2)) ?_
    refine AL.cons rfl (AOp.move (.inr rfl) rfl rfl) ?_
    refine AL.nil ?_
    refine AWP.ret ?_
    have e5 : ihasGoal_M fu plist pg = some x3 := bdS hq2 (rfl)
    have hz : x3 = r := Option.some.inj (e5.symm.trans H)
    subst hz
    exact Ends.mk (ps := [_]) (by first | exact .inr rfl | exact .inl rfl) ⟨rfl, trivial⟩ rfl (StLe.mk' (st' := ⟨[], []⟩) trivial rfl) (keeps_nil hC) (q := (.t (.leaf (.bool (x3))) : PV)) (by (repeat' (first | exact PV.Le.refl _ | exact LeL.nil | exact PV.Le.nil _ | exact PV.Le.acc _ _ _ | apply LeL.cons | apply PV.Le.agg | apply PV.Le.tup))) rfl ⟨rfl, rfl⟩

noncomputable def iProjectionsIn_1_M (fu : Nat)  (pu : GType) (c1 : List GBound) : Option ((List GBound)) :=
 sw (decide ((pu.gKind : Int) = 3))
 (sw (decide ((((pu.gArgs.length : Nat) : Int) : Int) > 0))
 (gd (0 < (pu.gArgs).length)
 (gd (Tr.bulkL (GType.tr (atD pu.gArgs 0)) ≤ 68719476735)
 (bd (ihasGoal_M fu c1 (GBound.mk pu.gName (atD pu.gArgs 0))) (fun x8 =>
 sw (!(x8))
 (gd ((c1).length + (([(GBound.mk pu.gName (atD pu.gArgs 0))] : List GBound)).length ≤ 68719476736)
 (some (c1 ++ ([(GBound.mk pu.gName (atD pu.gArgs 0))] : List GBound))))
 (some c1)))))
 (some c1))
 (some c1)
set_option maxRecDepth 100000 in
set_option maxHeartbeats 4000000 in
theorem iProjectionsIn_1_ok  (fu : Nat)  (pu : GType) (c1 : List GBound) (r : (List GBound)) (H : iProjectionsIn_1_M fu pu c1 = some r) : ACalls Try.prog 117 [(GType.pv pu), .ptr 0 0] ⟨[some ⟨86, [.acc 4 (GBound.trs (c1)) 0]⟩], [⟨34, 4, GBound.trs (c1), false⟩]⟩ (fun q t => q = (.tup [] : PV) ∧ t = ⟨[some ⟨86, [.acc 4 (GBound.trs (r)) 0]⟩], [⟨34, 4, GBound.trs (r), false⟩]⟩) := by
  refine ACalls.intro Try.func117 rfl (by first | decide | (simp; done) | (simp; decide)) ?_
  intro C hC
  refine AWP.fact (box_lenN 0 0 rfl rfl rfl (GBound.trs_len _)) (fun hl1 => ?_)
  refine AWP.seq ?_
  refine AWP.region_lit ?_
  refine AL.cons rfl (AOp.box (cs := [.t (.leaf (.int .i64 (pu.gKind))), .t (.leaf (.string (pu.gName))), .t (.row 3 (GType.trs (pu.gArgs)))]) rfl rfl rfl rfl rfl) ?_
  refine AL.nil ?_
  refine AWP.seq ?_
  refine AWP.region_lit ?_
  refine AL.cons rfl (AOp.fieldPtr (k := 1) (d := 0) (e := 0) rfl rfl rfl fo32_0) ?_
  refine AL.cons rfl (AOp.loadPtr1 rfl rfl rfl rfl sh3 rfl) ?_
  refine AL.cons rfl (AOp.eqlI rfl rfl rfl rfl) ?_
  refine AL.cons rfl (AOp.move (.inl rfl) rfl rfl) ?_
  refine AL.splitB 7 rfl (fun g2 => ?_) (fun g2 => ?_)
  · skip
    refine AL.cons_gv rfl rfl rfl g2 (AOp.fieldPtr (k := 1) (d := 0) (e := 2) rfl rfl rfl fo32_2) ?_
    refine AL.cons_gv rfl rfl rfl g2 (AOp.loadPtr1 rfl rfl rfl rfl sh30 rfl) ?_
    refine AL.fact (lk_lenN 9 rfl rfl (GType.trs_len _)) (fun hl3 => ?_)
    refine AL.cons_gv rfl rfl rfl g2 (AOp.lenN rfl rfl rfl rfl el30 (GType.trs_len _)) ?_
    refine AL.cons_gv rfl rfl rfl g2 (AOp.gtr rfl rfl rfl rfl) ?_
    refine AL.cons rfl (AOp.pickT rfl rfl rfl g2 rfl) ?_
    refine AL.nil ?_
    refine AWP.cond rfl (fun h4 => ?_) (fun h4 => ?_)
    · skip
      refine AWP.seq ?_
      rcases Classical.em (0 < (pu.gArgs).length) with hg5 | hg5
      · skip
        rcases Classical.em (Tr.bulkL (GType.tr (atD pu.gArgs 0)) ≤ 68719476735) with hg6 | hg6
        · skip
          refine AWP.drawnL ⟨_, _, fun j' _ => ([(⟨[some ⟨86, [.acc 4 (GBound.trs (c1)) 0]⟩, some ⟨32, [.t (.leaf (.int .i64 (pu.gKind))), .t (.leaf (.string (pu.gName))), .t (.row 3 (GType.trs (pu.gArgs)))]⟩], [⟨34, 4, GBound.trs (c1), false⟩]⟩ : Sto), (⟨[some ⟨86, [.acc 4 (GBound.trs (c1)) 0]⟩, some ⟨32, [.t (.leaf (.int .i64 (pu.gKind))), .t (.leaf (.string (pu.gName))), .t (.row 3 (GType.trs (pu.gArgs)))]⟩, some ⟨34, [.t (.leaf (.string (⟨#[]⟩))), .t (.leaf (.int .i64 (0))), .t (.leaf (.string (⟨#[]⟩))), .nil]⟩], [⟨34, 4, GBound.trs (c1), false⟩]⟩ : Sto), (⟨[some ⟨86, [.acc 4 (GBound.trs (c1)) 0]⟩, some ⟨32, [.t (.leaf (.int .i64 (pu.gKind))), .t (.leaf (.string (pu.gName))), .t (.row 3 (GType.trs (pu.gArgs)))]⟩, some ⟨34, [.t (.leaf (.string (pu.gName))), .t (.leaf (.int .i64 ((atD pu.gArgs 0).gKind))), .t (.leaf (.string ((atD pu.gArgs 0).gName))), .t (.row 3 (GType.trs ((atD pu.gArgs 0).gArgs)))]⟩], [⟨34, 4, GBound.trs (c1), false⟩]⟩ : Sto)] : List Sto).getD j' (⟨[some ⟨86, [.acc 4 (GBound.trs (c1)) 0]⟩, some ⟨32, [.t (.leaf (.int .i64 (pu.gKind))), .t (.leaf (.string (pu.gName))), .t (.row 3 (GType.trs (pu.gArgs)))]⟩, some ⟨34, [.t (.leaf (.string (pu.gName))), .t (.leaf (.int .i64 ((atD pu.gArgs 0).gKind))), .t (.leaf (.string ((atD pu.gArgs 0).gName))), .t (.row 3 (GType.trs ((atD pu.gArgs 0).gArgs)))]⟩], [⟨34, 4, GBound.trs (c1), false⟩]⟩ : Sto), fun q' => ([some (.ptr 1 1), some (.t (.leaf (.string (pu.gName)))), some (.ptr 1 2), some (.t (.row 3 (GType.trs (pu.gArgs)))), some (.eptr (GType.cs (atD pu.gArgs 0))), some ((GType.pv (atD pu.gArgs 0))), some ((GType.pv (atD pu.gArgs 0))), some (.agg [.t (.leaf (.string (pu.gName))), .t (.leaf (.int .i64 ((atD pu.gArgs 0).gKind))), .t (.leaf (.string ((atD pu.gArgs 0).gName))), .t (.row 3 (GType.trs ((atD pu.gArgs 0).gArgs)))]), some (.ptr 2 0), none] : List (Option PV)).getD q' none, fun q' => ([.q 0 1, .q 0 1, .q 0 1, .q 0 1, .q 0 1, .q 0 1, .q 0 1, .q 0 1, .ef 0, .ef 1] : List DK).getD q' (.q 0 0), [8, 9], none, fun q' => ([[(2, none)], [(13, some 0)], [(2, none)], [(15, some 2)], [(16, some 3)], [(17, some 4)], [(18, some 5)], [(19, some 6), (14, some 1)], [], [(3, some 8), (20, some 7)]] : List (List (Nat × Option Nat))).getD q' []⟩ rfl mixed (by kernel_rfl) rfl rfl ⟨?_, ?_, ?_, ?_, ?_, ?_, ?_, ?_, ?_, ?_, trivial⟩ rfl ?_
          · refine .inl ⟨rfl, fun s' jj bb (h1 : 0 ≤ jj) (h2 : jj ≤ 1) hs hl => ?_⟩
            rcases (by omega : jj = 0 ∨ jj = 1) with rfl | rfl <;> exact ⟨_, rfl, AOp.fieldPtr (k := 1) (d := 0) (e := 1) rfl rfl (hl 2 none _ (.head _) rfl) fo32_1⟩
          · refine .inl ⟨rfl, fun s' jj bb (h1 : 0 ≤ jj) (h2 : jj ≤ 1) hs hl => ?_⟩
            rcases (by omega : jj = 0 ∨ jj = 1) with rfl | rfl <;> exact ⟨_, rfl, AOp.loadPtr1 rfl rfl (hl 13 (some 0) _ (.head _) rfl) (by rw [hs]; rfl) sh9 rfl⟩
          · refine .inl ⟨rfl, fun s' jj bb (h1 : 0 ≤ jj) (h2 : jj ≤ 1) hs hl => ?_⟩
            rcases (by omega : jj = 0 ∨ jj = 1) with rfl | rfl <;> exact ⟨_, rfl, AOp.fieldPtr (k := 1) (d := 0) (e := 2) rfl rfl (hl 2 none _ (.head _) rfl) fo32_2⟩
          · refine .inl ⟨rfl, fun s' jj bb (h1 : 0 ≤ jj) (h2 : jj ≤ 1) hs hl => ?_⟩
            rcases (by omega : jj = 0 ∨ jj = 1) with rfl | rfl <;> exact ⟨_, rfl, AOp.loadPtr1 rfl rfl (hl 15 (some 2) _ (.head _) rfl) (by rw [hs]; rfl) sh30 rfl⟩
          · refine .inl ⟨rfl, fun s' jj bb (h1 : 0 ≤ jj) (h2 : jj ≤ 1) hs hl => ?_⟩
            rcases (by omega : jj = 0 ∨ jj = 1) with rfl | rfl <;> exact ⟨_, rfl, AOp.index (k := 0) rfl rfl (hl 16 (some 3) _ (.head _) rfl) rfl rfl (GType.trs_at hg5) el30⟩
          · refine .inl ⟨rfl, fun s' jj bb (h1 : 0 ≤ jj) (h2 : jj ≤ 1) hs hl => ?_⟩
            rcases (by omega : jj = 0 ∨ jj = 1) with rfl | rfl <;> exact ⟨_, rfl, AOp.loadEptr (ds := [.leaf (.int .i64 ((atD pu.gArgs 0).gKind)), .leaf (.string ((atD pu.gArgs 0).gName)), .row 3 (GType.trs ((atD pu.gArgs 0).gArgs))]) rfl rfl (hl 17 (some 4) _ (.head _) rfl) sh32 rfl rfl⟩
          · refine .inl ⟨rfl, fun s' jj bb (h1 : 0 ≤ jj) (h2 : jj ≤ 1) hs hl => ?_⟩
            rcases (by omega : jj = 0 ∨ jj = 1) with rfl | rfl <;> exact ⟨_, rfl, AOp.callF (res := (GType.pv (atD pu.gArgs 0))) (ps := [_]) rfl rfl Try.func118 (by kernel_rfl) rfl (evs_cons (hl 18 (some 5) _ (.head _) rfl) rfl) (by (repeat' (first | exact PV.Le.refl _ | exact LeL.nil | exact PV.Le.nil _ | exact PV.Le.acc _ _ _ | apply LeL.cons | apply PV.Le.agg | apply PV.Le.tup))) rfl rfl (icopyType_fn (atD pu.gArgs 0) hg6)⟩
          · refine .inl ⟨rfl, fun s' jj bb (h1 : 0 ≤ jj) (h2 : jj ≤ 1) hs hl => ?_⟩
            rcases (by omega : jj = 0 ∨ jj = 1) with rfl | rfl <;> exact ⟨_, rfl, AOp.build rfl rfl zr34 pl34 (parts_cons (hl 14 (some 1) _ (.tail _ (.head _)) rfl) rfl rfl (parts_cons (hl 19 (some 6) _ (.head _) rfl) rfl rfl rfl)) rfl⟩
          · refine .inl ⟨rfl, fun s' bb hs hl => ?_⟩
            refine .inl ⟨_, rfl, AOp.congr (AOp.alloc rfl rfl zr34) ?_⟩
            first | (rw [hs]; rfl) | rfl
          · refine .inl ⟨rfl, fun s' bb hs hl => ?_⟩
            refine .inr ⟨rfl, AOp.congr (AOp.storePtr (cs := [.t (.leaf (.string (pu.gName))), .t (.leaf (.int .i64 ((atD pu.gArgs 0).gKind))), .t (.leaf (.string ((atD pu.gArgs 0).gName))), .t (.row 3 (GType.trs ((atD pu.gArgs 0).gArgs)))]) (ds := [.t (.leaf (.string (pu.gName))), .t (.leaf (.int .i64 ((atD pu.gArgs 0).gKind))), .t (.leaf (.string ((atD pu.gArgs 0).gName))), .t (.row 3 (GType.trs ((atD pu.gArgs 0).gArgs)))]) rfl (hl 3 (some 8) _ (.head _) rfl) (by rw [hs]; rfl) (hl 20 (some 7) _ (.tail _ (.head _)) rfl) rfl rfl rfl sz34 (Nat.le_of_ble_eq_true rfl) rfl) ?_⟩
            first | (rw [hs]; rfl) | rfl
          refine AWP.seq ?_
          refine AWP.region_lit ?_
          refine AL.cons rfl (AOp.loadPtr1 rfl rfl rfl rfl sh86 rfl) ?_
          refine AL.cons rfl (AOp.loadPtr (cs := [.t (.leaf (.string (pu.gName))), .t (.leaf (.int .i64 ((atD pu.gArgs 0).gKind))), .t (.leaf (.string ((atD pu.gArgs 0).gName))), .t (.row 3 (GType.trs ((atD pu.gArgs 0).gArgs)))]) rfl rfl rfl rfl sh34 rfl rfl) ?_
          rcases hq7 : ihasGoal_M fu c1 (GBound.mk pu.gName (atD pu.gArgs 0)) with _ | x8
          · skip
            have e9 : iProjectionsIn_1_M fu pu c1 = none := swT g2 (swT h4 (gdT hg5 (gdT hg6 (bdN hq7))))
            exact none_some H e9
          · skip
            refine AL.cons rfl (AOp.callF (res := .t (.leaf (.bool (x8)))) (ps := [_, _]) rfl rfl Try.func119 (by kernel_rfl) rfl rfl (by (repeat' (first | exact PV.Le.refl _ | exact LeL.nil | exact PV.Le.nil _ | exact PV.Le.acc _ _ _ | apply LeL.cons | apply PV.Le.agg | apply PV.Le.tup))) rfl rfl (ihasGoal_ok fu c1 (GBound.mk pu.gName (atD pu.gArgs 0)) _ hq7)) ?_
            refine AL.cons rfl (AOp.notB rfl rfl rfl) ?_
            refine AL.nil ?_
            refine AWP.cond rfl (fun h10 => ?_) (fun h10 => ?_)
            · skip
              refine AWP.region_lit ?_
              refine AL.cons rfl (AOp.loadPtr1 rfl rfl rfl rfl sh86 rfl) ?_
              refine AL.cons rfl (AOp.loadPtr (cs := [.t (.leaf (.string (pu.gName))), .t (.leaf (.int .i64 ((atD pu.gArgs 0).gKind))), .t (.leaf (.string ((atD pu.gArgs 0).gName))), .t (.row 3 (GType.trs ((atD pu.gArgs 0).gArgs)))]) rfl rfl rfl rfl sh34 rfl rfl) ?_
              refine AL.cons rfl (AOp.buildSliceE (es := [GBound.cs (GBound.mk pu.gName (atD pu.gArgs 0))]) (es' := GBound.trs (([(GBound.mk pu.gName (atD pu.gArgs 0))] : List GBound))) (cs := [.t (.leaf (.string (pu.gName))), .t (.leaf (.int .i64 ((atD pu.gArgs 0).gKind))), .t (.leaf (.string ((atD pu.gArgs 0).gName))), .t (.row 3 (GType.trs ((atD pu.gArgs 0).gArgs)))]) rfl rfl el86 zr34 rfl rfl (by (repeat' (first | exact PV.Le.refl _ | exact LeL.nil | exact PV.Le.nil _ | exact PV.Le.acc _ _ _ | apply LeL.cons | apply PV.Le.agg | apply PV.Le.tup))) rfl (by simp [GBound.cs]) (by decide) rfl (by decide) (by simp [GBound.trs_map, GBound.tr_cs])) ?_
              rcases Classical.em ((c1).length + (([(GBound.mk pu.gName (atD pu.gArgs 0))] : List GBound)).length ≤ 68719476736) with hg11 | hg11
              · skip
                refine AL.cons rfl (AOp.appendE (es3 := GBound.trs (c1 ++ ([(GBound.mk pu.gName (atD pu.gArgs 0))] : List GBound))) rfl rfl rfl rfl rfl rfl rfl rfl rfl (fun e he => by rw [GBound.trs_map] at he; obtain ⟨x, _, rfl⟩ := List.mem_map.1 he; rw [GBound.tr_cs]; rfl) el86 ze86 (by decide) (by rw [GBound.trs_len, GBound.trs_len]; exact room_le hg11 (by decide)) (by rw [GBound.trs_map, GBound.trs_map, GBound.trs_map, List.map_append])) ?_
                refine AL.cons rfl (AOp.storePtr (cs := [.acc 4 (GBound.trs (c1 ++ ([(GBound.mk pu.gName (atD pu.gArgs 0))] : List GBound))) 0]) (ds := [.acc 4 (GBound.trs (c1 ++ ([(GBound.mk pu.gName (atD pu.gArgs 0))] : List GBound))) 0]) rfl rfl rfl rfl rfl rfl rfl sz86 (Nat.le_of_ble_eq_true rfl) rfl) ?_
                refine AL.nil ?_
                have e12 : iProjectionsIn_1_M fu pu c1 = some (c1 ++ ([(GBound.mk pu.gName (atD pu.gArgs 0))] : List GBound)) := swT g2 (swT h4 (gdT hg5 (gdT hg6 (bdS hq7 (swT h10 (gdT hg11 (rfl)))))))
                have hz : (c1 ++ ([(GBound.mk pu.gName (atD pu.gArgs 0))] : List GBound)) = r := Option.some.inj (e12.symm.trans H)
                subst hz
                exact Ends.mk (ps := []) (by first | exact .inr rfl | exact .inl rfl) trivial rfl (StLe.mk' (st' := ⟨[some ⟨86, [.acc 4 (GBound.trs ((c1 ++ ([(GBound.mk pu.gName (atD pu.gArgs 0))] : List GBound)))) 0]⟩], [⟨34, 4, GBound.trs ((c1 ++ ([(GBound.mk pu.gName (atD pu.gArgs 0))] : List GBound))), false⟩]⟩) ⟨⟨rfl, by (repeat' (first | exact PV.Le.refl _ | exact LeL.nil | exact PV.Le.nil _ | exact PV.Le.acc _ _ _ | apply LeL.cons | apply PV.Le.agg | apply PV.Le.tup)), rfl⟩, trivial⟩ (by first | rfl | simp)) (keeps_all hC (boxes1 rfl) (Nat.le_of_ble_eq_true rfl)) (q := (.tup [] : PV)) (by (repeat' (first | exact PV.Le.refl _ | exact LeL.nil | exact PV.Le.nil _ | exact PV.Le.acc _ _ _ | apply LeL.cons | apply PV.Le.agg | apply PV.Le.tup))) rfl ⟨rfl, rfl⟩
              · skip
                have e13 : iProjectionsIn_1_M fu pu c1 = none := swT g2 (swT h4 (gdT hg5 (gdT hg6 (bdS hq7 (swT h10 (gdF hg11))))))
                exact none_some H e13
            · skip
              refine AWP.skip ?_
              have e14 : iProjectionsIn_1_M fu pu c1 = some c1 := swT g2 (swT h4 (gdT hg5 (gdT hg6 (bdS hq7 (swF h10 (rfl))))))
              have hz : c1 = r := Option.some.inj (e14.symm.trans H)
              subst hz
              exact Ends.mk (ps := []) (by first | exact .inr rfl | exact .inl rfl) trivial rfl (StLe.mk' (st' := ⟨[some ⟨86, [.acc 4 (GBound.trs (c1)) 0]⟩], [⟨34, 4, GBound.trs (c1), false⟩]⟩) ⟨⟨rfl, by (repeat' (first | exact PV.Le.refl _ | exact LeL.nil | exact PV.Le.nil _ | exact PV.Le.acc _ _ _ | apply LeL.cons | apply PV.Le.agg | apply PV.Le.tup)), rfl⟩, trivial⟩ (by first | rfl | simp)) (keeps_all hC (boxes1 rfl) (Nat.le_of_ble_eq_true rfl)) (q := (.tup [] : PV)) (by (repeat' (first | exact PV.Le.refl _ | exact LeL.nil | exact PV.Le.nil _ | exact PV.Le.acc _ _ _ | apply LeL.cons | apply PV.Le.agg | apply PV.Le.tup))) rfl ⟨rfl, rfl⟩
        · skip
          have e15 : iProjectionsIn_1_M fu pu c1 = none := swT g2 (swT h4 (gdT hg5 (gdF hg6)))
          exact none_some H e15
      · skip
        have e16 : iProjectionsIn_1_M fu pu c1 = none := swT g2 (swT h4 (gdF hg5))
        exact none_some H e16
    · skip
      refine AWP.skip ?_
      have e17 : iProjectionsIn_1_M fu pu c1 = some c1 := swT g2 (swF h4 (rfl))
      have hz : c1 = r := Option.some.inj (e17.symm.trans H)
      subst hz
      exact Ends.mk (ps := []) (by first | exact .inr rfl | exact .inl rfl) trivial rfl (StLe.mk' (st' := ⟨[some ⟨86, [.acc 4 (GBound.trs (c1)) 0]⟩], [⟨34, 4, GBound.trs (c1), false⟩]⟩) ⟨⟨rfl, by (repeat' (first | exact PV.Le.refl _ | exact LeL.nil | exact PV.Le.nil _ | exact PV.Le.acc _ _ _ | apply LeL.cons | apply PV.Le.agg | apply PV.Le.tup)), rfl⟩, trivial⟩ (by first | rfl | simp)) (keeps_all hC (boxes1 rfl) (Nat.le_of_ble_eq_true rfl)) (q := (.tup [] : PV)) (by (repeat' (first | exact PV.Le.refl _ | exact LeL.nil | exact PV.Le.nil _ | exact PV.Le.acc _ _ _ | apply LeL.cons | apply PV.Le.agg | apply PV.Le.tup))) rfl ⟨rfl, rfl⟩
  · skip
    refine AL.skip_v rfl rfl rfl g2 rfl ?_
    refine AL.skip_v rfl rfl rfl g2 rfl ?_
    refine AL.skip_v rfl rfl rfl g2 rfl ?_
    refine AL.skip_v rfl rfl rfl g2 rfl ?_
    refine AL.cons rfl (AOp.pickF rfl rfl rfl g2 rfl) ?_
    refine AL.nil ?_
    refine AWP.cond rfl (fun h18 => ?_) (fun h18 => ?_)
    · skip
      exact absurd (h18.symm.trans rfl) (by decide)
    · skip
      refine AWP.skip ?_
      have e19 : iProjectionsIn_1_M fu pu c1 = some c1 := swF g2 (rfl)
      have hz : c1 = r := Option.some.inj (e19.symm.trans H)
      subst hz
      exact Ends.mk (ps := []) (by first | exact .inr rfl | exact .inl rfl) trivial rfl (StLe.mk' (st' := ⟨[some ⟨86, [.acc 4 (GBound.trs (c1)) 0]⟩], [⟨34, 4, GBound.trs (c1), false⟩]⟩) ⟨⟨rfl, by (repeat' (first | exact PV.Le.refl _ | exact LeL.nil | exact PV.Le.nil _ | exact PV.Le.acc _ _ _ | apply LeL.cons | apply PV.Le.agg | apply PV.Le.tup)), rfl⟩, trivial⟩ (by first | rfl | simp)) (keeps_all hC (boxes1 rfl) (Nat.le_of_ble_eq_true rfl)) (q := (.tup [] : PV)) (by (repeat' (first | exact PV.Le.refl _ | exact LeL.nil | exact PV.Le.nil _ | exact PV.Le.acc _ _ _ | apply LeL.cons | apply PV.Le.agg | apply PV.Le.tup))) rfl ⟨rfl, rfl⟩

noncomputable def ieachType__iProjectionsIn_1_F1 (fu : Nat) (r_ieachType__iProjectionsIn_1 : GType → (List GBound) → Option ((List GBound))) (pt : GType) (c1_0 : List GBound) (x3 : List GBound) : Nat → ((List GBound)) → Option (LR ((List GBound)) ((List GBound))) :=
 fun i6 v8 => bd (r_ieachType__iProjectionsIn_1 (atD pt.gArgs i6) v8) (fun x12 =>
 some (.next x12))
noncomputable def ieachType__iProjectionsIn_1_R1 (fu : Nat) (r_ieachType__iProjectionsIn_1 : GType → (List GBound) → Option ((List GBound))) (pt : GType) (c1_0 : List GBound) (x3 : List GBound) : Option (((List GBound)) ⊕ ((List GBound))) :=
 loopN (ieachType__iProjectionsIn_1_F1 fu r_ieachType__iProjectionsIn_1 pt c1_0 x3) (pt.gArgs.length - 0) 0 x3
noncomputable def ieachType__iProjectionsIn_1_G (fu : Nat) (r_ieachType__iProjectionsIn_1 : GType → (List GBound) → Option ((List GBound))) (pt : GType) (c1_0 : List GBound) : Option ((List GBound)) :=
 bd (iProjectionsIn_1_M fu pt c1_0) (fun x3 =>
 so (ieachType__iProjectionsIn_1_R1 fu r_ieachType__iProjectionsIn_1 pt c1_0 x3) (fun v8 =>
 some v8))
set_option maxRecDepth 100000 in
set_option maxHeartbeats 4000000 in
theorem ieachType__iProjectionsIn_1_step (r_ieachType__iProjectionsIn_1 : GType → (List GBound) → Option ((List GBound))) (fu : Nat) (h_ieachType__iProjectionsIn_1 : ∀ (pt : GType) (c1_0 : List GBound) (r : (List GBound)), r_ieachType__iProjectionsIn_1 pt c1_0 = some r → ACalls Try.prog 116 [(GType.pv pt), .fn 117 [.ptr 0 0]] ⟨[some ⟨86, [.acc 4 (GBound.trs (c1_0)) 0]⟩], [⟨34, 4, GBound.trs (c1_0), false⟩]⟩ (fun q t => q = (.tup [] : PV) ∧ t = ⟨[some ⟨86, [.acc 4 (GBound.trs (r)) 0]⟩], [⟨34, 4, GBound.trs (r), false⟩]⟩)) (pt : GType) (c1_0 : List GBound) (r : (List GBound)) (H : ieachType__iProjectionsIn_1_G fu r_ieachType__iProjectionsIn_1 pt c1_0 = some r) : ACalls Try.prog 116 [(GType.pv pt), .fn 117 [.ptr 0 0]] ⟨[some ⟨86, [.acc 4 (GBound.trs (c1_0)) 0]⟩], [⟨34, 4, GBound.trs (c1_0), false⟩]⟩ (fun q t => q = (.tup [] : PV) ∧ t = ⟨[some ⟨86, [.acc 4 (GBound.trs (r)) 0]⟩], [⟨34, 4, GBound.trs (r), false⟩]⟩) := by
  refine ACalls.intro Try.func116 rfl (by first | decide | (simp; done) | (simp; decide)) ?_
  intro C hC
  refine AWP.fact (box_lenN 0 0 rfl rfl rfl (GBound.trs_len _)) (fun hl1 => ?_)
  refine AWP.seq ?_
  refine AWP.region_lit ?_
  refine AL.cons rfl (AOp.box (cs := [.t (.leaf (.int .i64 (pt.gKind))), .t (.leaf (.string (pt.gName))), .t (.row 3 (GType.trs (pt.gArgs)))]) rfl rfl rfl rfl rfl) ?_
  refine AL.nil ?_
  refine AWP.seq ?_
  refine AWP.region_lit ?_
  refine AL.cons rfl (AOp.move (.inl rfl) rfl rfl) ?_
  refine AL.cons rfl (AOp.loadPtr (cs := [.t (.leaf (.int .i64 (pt.gKind))), .t (.leaf (.string (pt.gName))), .t (.row 3 (GType.trs (pt.gArgs)))]) rfl rfl rfl rfl sh32 rfl rfl) ?_
  rcases hq2 : iProjectionsIn_1_M fu pt c1_0 with _ | x3
  · skip
    have e4 : ieachType__iProjectionsIn_1_G fu r_ieachType__iProjectionsIn_1 pt c1_0 = none := bdN hq2
    exact none_some H e4
  · skip
    refine AL.cons rfl (AOp.callVPE (pre := ⟨[some ⟨86, [.acc 4 (GBound.trs (c1_0)) 0]⟩], [⟨34, 4, GBound.trs (c1_0), false⟩]⟩) (st' := ⟨[some ⟨86, [.acc 4 (GBound.trs (x3)) 0]⟩], [⟨34, 4, GBound.trs (x3), false⟩]⟩) (ps := [_]) (cs := [.ptr 0 0]) (qs := [(GType.pv pt), .ptr 0 0]) [0] [0] rfl rfl rfl Try.func117 (by kernel_rfl) rfl rfl rfl (Part0.of ⟨⟨_, rfl, rfl, by (repeat' (first | exact PV.Le.refl _ | exact LeL.nil | exact PV.Le.nil _ | exact PV.Le.acc _ _ _ | apply LeL.cons | apply PV.Le.agg | apply PV.Le.tup)), rfl⟩, trivial⟩ ⟨rfl, trivial⟩ (by decide) (by decide)) (by (repeat' (first | exact PV.Le.refl _ | exact LeL.nil | exact PV.Le.nil _ | exact PV.Le.acc _ _ _ | apply LeL.cons | apply PV.Le.agg | apply PV.Le.tup))) rfl rfl rfl (iProjectionsIn_1_ok fu pt c1_0 _ hq2)) ?_
    refine AL.nil ?_
    refine AWP.seq ?_
    refine AWP.region_lit ?_
    refine AL.cons rfl (AOp.fieldPtr (k := 1) (d := 0) (e := 2) rfl rfl rfl fo32_2) ?_
    refine AL.cons rfl (AOp.loadPtr1 rfl rfl rfl rfl sh30 rfl) ?_
    refine AL.fact (lk_lenN 10 rfl rfl (GType.trs_len _)) (fun hl5 => ?_)
    refine AL.cons rfl (AOp.lenN rfl rfl rfl rfl el30 (GType.trs_len _)) ?_
    refine AL.cons rfl (AOp.move (.inl rfl) rfl rfl) ?_
    refine AL.nil ?_
    refine AWP.cut (ι := (List GBound)) (fun v8 => ieachType__iProjectionsIn_1_R1 fu r_ieachType__iProjectionsIn_1 pt c1_0 x3 = some (.inr v8)) (fun v8 => ⟨[], ⟨[some ⟨86, [.acc 4 (GBound.trs (v8)) 0]⟩, some ⟨32, [.t (.leaf (.int .i64 (pt.gKind))), .t (.leaf (.string (pt.gName))), .t (.row 3 (GType.trs (pt.gArgs)))]⟩], [⟨34, 4, GBound.trs (v8), false⟩]⟩⟩) (by repeat' (first | exact qcEnds | exact ncAWP | exact ncRound | exact ncEx | apply qcThen | apply qcBlock | apply qcCut)) ?_ ?_
    · skip
      refine AWP.block ?_
      refine AWP.loopR (ι := Nat × ((List GBound))) (fun (i6, v8) => ieachType__iProjectionsIn_1_R1 fu r_ieachType__iProjectionsIn_1 pt c1_0 x3 = loopN (ieachType__iProjectionsIn_1_F1 fu r_ieachType__iProjectionsIn_1 pt c1_0 x3) (pt.gArgs.length - i6) i6 v8) (fun (i6, v8) => ⟨[(1, .fn 117 [.ptr 0 0]), (10, .t (.row 3 (GType.trs (pt.gArgs)))), (11, .t (.leaf (.int .i64 (((pt.gArgs.length : Nat) : Int))))), (12, .t (.leaf (.int .i64 (((i6 : Nat) : Int)))))], ⟨[some ⟨86, [.acc 4 (GBound.trs (v8)) 0]⟩, some ⟨32, [.t (.leaf (.int .i64 (pt.gKind))), .t (.leaf (.string (pt.gName))), .t (.row 3 (GType.trs (pt.gArgs)))]⟩], [⟨34, 4, GBound.trs (v8), false⟩]⟩⟩) (fun (i6, v8) => pt.gArgs.length - i6) (0, x3) ?_ ?_ ?_
      · exact rfl
      · skip
        exact Wk.mk (StLe.mk' ⟨⟨rfl, by (repeat' (first | exact PV.Le.refl _ | exact LeL.nil | exact PV.Le.nil _ | exact PV.Le.acc _ _ _ | apply LeL.cons | apply PV.Le.agg | apply PV.Le.tup)), rfl⟩, ⟨⟨rfl, by (repeat' (first | exact PV.Le.refl _ | exact LeL.nil | exact PV.Le.nil _ | exact PV.Le.acc _ _ _ | apply LeL.cons | apply PV.Le.agg | apply PV.Le.tup)), rfl⟩, trivial⟩⟩ (by first | rfl | simp)) (keeps_all hC (boxes1 rfl) (Nat.le_of_ble_eq_true rfl)) ⟨⟨_, rfl, .refl _, rfl⟩, ⟨⟨_, rfl, .refl _, rfl⟩, ⟨⟨_, rfl, .refl _, rfl⟩, ⟨⟨_, rfl, by (repeat' (first | exact PV.Le.refl _ | exact LeL.nil | exact PV.Le.nil _ | exact PV.Le.acc _ _ _ | apply LeL.cons | apply PV.Le.agg | apply PV.Le.tup)), rfl⟩, trivial⟩⟩⟩⟩
      · rintro ⟨i6, v8⟩ hJ9
        refine AWP.seq ?_
        refine AWP.region_lit ?_
        refine AL.cons rfl (AOp.lss rfl rfl rfl rfl) ?_
        refine AL.nil ?_
        refine AWP.seq ?_
        refine AWP.cond rfl (fun h10 => ?_) (fun h10 => ?_)
        · skip
          have h10l : i6 < pt.gArgs.length := nat_lt_of2 h10
          have h10n := nat_lt_of h10
          refine AWP.skip ?_
          refine AWP.seq ?_
          refine AWP.block ?_
          refine AWP.seq ?_
          refine AWP.region_lit ?_
          refine AL.cons rfl (AOp.index (k := i6) rfl rfl rfl rfl rfl (GType.trs_at h10n) el30) ?_
          refine AL.cons rfl (AOp.loadEptr (ds := [.leaf (.int .i64 ((atD pt.gArgs i6).gKind)), .leaf (.string ((atD pt.gArgs i6).gName)), .row 3 (GType.trs ((atD pt.gArgs i6).gArgs))]) rfl rfl rfl sh32 rfl rfl) ?_
          refine AL.cons rfl (AOp.alloc rfl rfl zr32) ?_
          refine AL.cons rfl (AOp.storePtr (cs := [.t (.leaf (.int .i64 ((atD pt.gArgs i6).gKind))), .t (.leaf (.string ((atD pt.gArgs i6).gName))), .t (.row 3 (GType.trs ((atD pt.gArgs i6).gArgs)))]) (ds := [.t (.leaf (.int .i64 ((atD pt.gArgs i6).gKind))), .t (.leaf (.string ((atD pt.gArgs i6).gName))), .t (.row 3 (GType.trs ((atD pt.gArgs i6).gArgs)))]) rfl rfl rfl rfl rfl rfl rfl sz32 (Nat.le_of_ble_eq_true rfl) rfl) ?_
          refine AL.nil ?_
          refine AWP.region_lit ?_
          refine AL.cons rfl (AOp.loadPtr (cs := [.t (.leaf (.int .i64 ((atD pt.gArgs i6).gKind))), .t (.leaf (.string ((atD pt.gArgs i6).gName))), .t (.row 3 (GType.trs ((atD pt.gArgs i6).gArgs)))]) rfl rfl rfl rfl sh32 rfl rfl) ?_
          refine AL.cons rfl (AOp.move (.inl rfl) rfl rfl) ?_
          rcases hq11 : r_ieachType__iProjectionsIn_1 (atD pt.gArgs i6) v8 with _ | x12
          · skip
            have e13 : (ieachType__iProjectionsIn_1_F1 fu r_ieachType__iProjectionsIn_1 pt c1_0 x3) i6 v8 = none := bdN hq11
            have e14 : ieachType__iProjectionsIn_1_R1 fu r_ieachType__iProjectionsIn_1 pt c1_0 x3 = none := loopN_non h10l hJ9 e13
            have e15 : ieachType__iProjectionsIn_1_G fu r_ieachType__iProjectionsIn_1 pt c1_0 = none := bdS hq2 (soN e14)
            exact none_some H e15
          · skip
            refine AL.cons rfl (AOp.callPE (pre := ⟨[some ⟨86, [.acc 4 (GBound.trs (v8)) 0]⟩], [⟨34, 4, GBound.trs (v8), false⟩]⟩) (st' := ⟨[some ⟨86, [.acc 4 (GBound.trs (x12)) 0]⟩], [⟨34, 4, GBound.trs (x12), false⟩]⟩) (ps := [_, _]) (qs := [(GType.pv (atD pt.gArgs i6)), .fn 117 [.ptr 0 0]]) [0] [0] rfl rfl Try.func116 (by kernel_rfl) rfl rfl rfl (Part0.of ⟨⟨_, rfl, rfl, by (repeat' (first | exact PV.Le.refl _ | exact LeL.nil | exact PV.Le.nil _ | exact PV.Le.acc _ _ _ | apply LeL.cons | apply PV.Le.agg | apply PV.Le.tup)), rfl⟩, trivial⟩ ⟨rfl, trivial⟩ (by decide) (by decide)) (by (repeat' (first | exact PV.Le.refl _ | exact LeL.nil | exact PV.Le.nil _ | exact PV.Le.acc _ _ _ | apply LeL.cons | apply PV.Le.agg | apply PV.Le.tup))) rfl rfl rfl (h_ieachType__iProjectionsIn_1 (atD pt.gArgs i6) v8 _ hq11)) ?_
            refine AL.nil ?_
            refine AWP.region_lit ?_
            refine AL.cons rfl (AOp.addI rfl rfl rfl rfl (c := ((i6 + 1 : Nat) : Int)) (by omega) (by omega)) ?_
            refine AL.cons rfl (AOp.move (.inl rfl) rfl rfl) ?_
            refine AL.nil ?_
            have e16 : (ieachType__iProjectionsIn_1_F1 fu r_ieachType__iProjectionsIn_1 pt c1_0 x3) i6 v8 = some (.next x12) := bdS hq11 (rfl)
            refine ⟨(i6 + 1, x12), loopN_next h10l hJ9 e16, ?_, ?_⟩
            · skip
              exact Wk.mk (StLe.mk' ⟨⟨rfl, by (repeat' (first | exact PV.Le.refl _ | exact LeL.nil | exact PV.Le.nil _ | exact PV.Le.acc _ _ _ | apply LeL.cons | apply PV.Le.agg | apply PV.Le.tup)), rfl⟩, ⟨⟨rfl, by (repeat' (first | exact PV.Le.refl _ | exact LeL.nil | exact PV.Le.nil _ | exact PV.Le.acc _ _ _ | apply LeL.cons | apply PV.Le.agg | apply PV.Le.tup)), rfl⟩, trivial⟩⟩ (by first | rfl | simp)) (keeps_all hC (boxes1 rfl) (Nat.le_of_ble_eq_true rfl)) ⟨⟨_, rfl, .refl _, rfl⟩, ⟨⟨_, rfl, .refl _, rfl⟩, ⟨⟨_, rfl, .refl _, rfl⟩, ⟨⟨_, rfl, by (repeat' (first | exact PV.Le.refl _ | exact LeL.nil | exact PV.Le.nil _ | exact PV.Le.acc _ _ _ | apply LeL.cons | apply PV.Le.agg | apply PV.Le.tup)), rfl⟩, trivial⟩⟩⟩⟩
            · dsimp only; omega
        · skip
          have h10l : pt.gArgs.length ≤ i6 := nat_ge_of2 h10
          refine AWP.exit ?_
          refine ⟨v8, loopN_end h10l hJ9, ?_⟩
          exact Wk.mk (StLe.mk' ⟨⟨rfl, by (repeat' (first | exact PV.Le.refl _ | exact LeL.nil | exact PV.Le.nil _ | exact PV.Le.acc _ _ _ | apply LeL.cons | apply PV.Le.agg | apply PV.Le.tup)), rfl⟩, ⟨⟨rfl, by (repeat' (first | exact PV.Le.refl _ | exact LeL.nil | exact PV.Le.nil _ | exact PV.Le.acc _ _ _ | apply LeL.cons | apply PV.Le.agg | apply PV.Le.tup)), rfl⟩, trivial⟩⟩ (by first | rfl | simp)) (keeps_all hC (boxes1 rfl) (Nat.le_of_ble_eq_true rfl)) trivial
    · rintro v8 hR17
      have e18 : ieachType__iProjectionsIn_1_G fu r_ieachType__iProjectionsIn_1 pt c1_0 = some v8 := bdS hq2 (soR hR17 (rfl))
      have hz : v8 = r := Option.some.inj (e18.symm.trans H)
      subst hz
      exact Ends.mk (ps := []) (by first | exact .inr rfl | exact .inl rfl) trivial rfl (StLe.mk' (st' := ⟨[some ⟨86, [.acc 4 (GBound.trs (v8)) 0]⟩], [⟨34, 4, GBound.trs (v8), false⟩]⟩) ⟨⟨rfl, by (repeat' (first | exact PV.Le.refl _ | exact LeL.nil | exact PV.Le.nil _ | exact PV.Le.acc _ _ _ | apply LeL.cons | apply PV.Le.agg | apply PV.Le.tup)), rfl⟩, trivial⟩ (by first | rfl | simp)) (keeps_all hC (boxes1 rfl) (Nat.le_of_ble_eq_true rfl)) (q := (.tup [] : PV)) (by (repeat' (first | exact PV.Le.refl _ | exact LeL.nil | exact PV.Le.nil _ | exact PV.Le.acc _ _ _ | apply LeL.cons | apply PV.Le.agg | apply PV.Le.tup))) rfl ⟨rfl, rfl⟩
noncomputable def ieachType__iProjectionsIn_1_M : Nat → GType → (List GBound) → Option ((List GBound))
  | 0, _, _ => none
  | fu + 1, pt, c1_0 => ieachType__iProjectionsIn_1_G fu (ieachType__iProjectionsIn_1_M fu) pt c1_0
theorem ieachType__iProjectionsIn_1_all (fu : Nat) : (∀ (pt : GType) (c1_0 : List GBound) (r : (List GBound)), ieachType__iProjectionsIn_1_M fu pt c1_0 = some r → ACalls Try.prog 116 [(GType.pv pt), .fn 117 [.ptr 0 0]] ⟨[some ⟨86, [.acc 4 (GBound.trs (c1_0)) 0]⟩], [⟨34, 4, GBound.trs (c1_0), false⟩]⟩ (fun q t => q = (.tup [] : PV) ∧ t = ⟨[some ⟨86, [.acc 4 (GBound.trs (r)) 0]⟩], [⟨34, 4, GBound.trs (r), false⟩]⟩)) := by
  induction fu with
  | zero => exact (fun pt c1_0 r H => by simp only [ieachType__iProjectionsIn_1_M] at H; cases H)
  | succ fu ih => exact (fun pt c1_0 r H => by simp only [ieachType__iProjectionsIn_1_M] at H; exact ieachType__iProjectionsIn_1_step (ieachType__iProjectionsIn_1_M fu) fu ih pt c1_0 r H)
theorem ieachType__iProjectionsIn_1_ok (fu : Nat) (pt : GType) (c1_0 : List GBound) (r : (List GBound)) (H : ieachType__iProjectionsIn_1_M fu pt c1_0 = some r) : ACalls Try.prog 116 [(GType.pv pt), .fn 117 [.ptr 0 0]] ⟨[some ⟨86, [.acc 4 (GBound.trs (c1_0)) 0]⟩], [⟨34, 4, GBound.trs (c1_0), false⟩]⟩ (fun q t => q = (.tup [] : PV) ∧ t = ⟨[some ⟨86, [.acc 4 (GBound.trs (r)) 0]⟩], [⟨34, 4, GBound.trs (r), false⟩]⟩) := (ieachType__iProjectionsIn_1_all fu) pt c1_0 r H

noncomputable def iProjectionsIn_M (fu : Nat)  (pt : GType) : Option ((List GBound)) :=
 bd (ieachType__iProjectionsIn_1_M fu pt ([])) (fun x2 =>
 some x2)
set_option maxRecDepth 100000 in
set_option maxHeartbeats 4000000 in
theorem iProjectionsIn_ok  (fu : Nat)  (pt : GType) (r : (List GBound)) (H : iProjectionsIn_M fu pt = some r) : AFun Try.prog 50 [(GType.pv pt)] (.t (.row 4 (GBound.trs (r))) : PV) := by
  refine ACalls.intro Try.func50 rfl (by first | decide | (simp; done) | (simp; decide)) ?_
  intro C hC
  refine AWP.seq ?_
  refine AWP.region_lit ?_
  refine AL.cons rfl (AOp.box (cs := [.t (.leaf (.int .i64 (pt.gKind))), .t (.leaf (.string (pt.gName))), .t (.row 3 (GType.trs (pt.gArgs)))]) rfl rfl rfl rfl rfl) ?_
  refine AL.cons rfl (AOp.move (.inr rfl) rfl rfl) ?_
  refine AL.nil ?_
  refine AWP.seq ?_
  refine AWP.region_lit ?_
  refine AL.cons rfl (AOp.buildSliceA (es := []) (es' := GBound.trs ([])) (cs := []) rfl rfl el86 zr34 rfl rfl (by (repeat' (first | exact PV.Le.refl _ | exact LeL.nil | exact PV.Le.nil _ | exact PV.Le.acc _ _ _ | apply LeL.cons | apply PV.Le.agg | apply PV.Le.tup))) rfl (by simp [GBound.cs]) (by decide) rfl (by decide) (by simp [GBound.trs_map, GBound.tr_cs])) ?_
  refine AL.cons rfl (AOp.alloc rfl rfl zr86) ?_
  refine AL.cons rfl (AOp.storePtr (cs := [.acc 4 (GBound.trs ([])) 0]) (ds := [.acc 4 (GBound.trs ([])) 0]) rfl rfl rfl rfl rfl rfl rfl sz86 (Nat.le_of_ble_eq_true rfl) rfl) ?_
  refine AL.nil ?_
  refine AWP.seq ?_
  refine AWP.region_lit ?_
  refine AL.cons rfl (AOp.loadPtr (cs := [.t (.leaf (.int .i64 (pt.gKind))), .t (.leaf (.string (pt.gName))), .t (.row 3 (GType.trs (pt.gArgs)))]) rfl rfl rfl rfl sh32 rfl rfl) ?_
  refine AL.cons rfl (AOp.makeFunc (ps := [.ptr 1 0]) rfl rfl rfl) ?_
  rcases hq1 : ieachType__iProjectionsIn_1_M fu pt ([]) with _ | x2
  · skip
    have e3 : iProjectionsIn_M fu pt = none := bdN hq1
    exact none_some H e3
  · skip
    refine AL.cons rfl (AOp.callPE (pre := ⟨[some ⟨86, [.acc 4 (GBound.trs ([])) 0]⟩], [⟨34, 4, GBound.trs ([]), false⟩]⟩) (st' := ⟨[some ⟨86, [.acc 4 (GBound.trs (x2)) 0]⟩], [⟨34, 4, GBound.trs (x2), false⟩]⟩) (ps := [_, _]) (qs := [(GType.pv pt), .fn 117 [.ptr 0 0]]) [1] [0] rfl rfl Try.func116 (by kernel_rfl) rfl rfl rfl (Part0.of ⟨⟨_, rfl, rfl, by (repeat' (first | exact PV.Le.refl _ | exact LeL.nil | exact PV.Le.nil _ | exact PV.Le.acc _ _ _ | apply LeL.cons | apply PV.Le.agg | apply PV.Le.tup)), rfl⟩, trivial⟩ ⟨rfl, trivial⟩ (by decide) (by decide)) (by (repeat' (first | exact PV.Le.refl _ | exact LeL.nil | exact PV.Le.nil _ | exact PV.Le.acc _ _ _ | apply LeL.cons | apply PV.Le.agg | apply PV.Le.tup))) rfl rfl rfl (ieachType__iProjectionsIn_1_ok fu pt ([]) _ hq1)) ?_
    refine AL.nil ?_
    refine AWP.seq ?_
    refine AWP.region_lit ?_
    refine AL.cons rfl (AOp.loadPtr1 rfl rfl rfl rfl sh86 rfl) ?_
    refine AL.cons rfl (AOp.move (.inr rfl) rfl rfl) ?_
    refine AL.nil ?_
    refine AWP.ret ?_
    have e4 : iProjectionsIn_M fu pt = some x2 := bdS hq1 (rfl)
    have hz : x2 = r := Option.some.inj (e4.symm.trans H)
    subst hz
    exact Ends.mk (ps := [_]) (by first | exact .inr rfl | exact .inl rfl) ⟨rfl, trivial⟩ rfl (StLe.mk' (st' := ⟨[], []⟩) trivial rfl) (keeps_nil hC) (q := (.t (.row 4 (GBound.trs (x2))) : PV)) (by (repeat' (first | exact PV.Le.refl _ | exact LeL.nil | exact PV.Le.nil _ | exact PV.Le.acc _ _ _ | apply LeL.cons | apply PV.Le.agg | apply PV.Le.tup))) rfl ⟨rfl, rfl⟩

end Go.Proofs.Ytoifjkggpanceaa

namespace Go.Proofs.Ytoifjkggpanceaa
open Go.RowKit Go.Proofs

mutual
def GType.size : GType → Nat
  | .mk _ _ xs => 1 + GType.sizes xs
def GType.sizes : List GType → Nat
  | [] => 0
  | e :: r => GType.size e + GType.sizes r
end
theorem GType.sizes_step {l : List GType} {k : Nat} (h : k < l.length) : GType.sizes (l.drop k) = GType.size l[k] + GType.sizes (l.drop (k + 1)) := by
  rw [List.drop_eq_getElem_cons h, GType.sizes]
theorem GType.sizes_drop : ∀ (l : List GType) (k : Nat), GType.sizes (l.drop k) ≤ GType.sizes l
  | [], k => by simp
  | a :: l, 0 => by simp
  | a :: l, k + 1 => by
    have := GType.sizes_drop l k
    simp only [List.drop_succ_cons, GType.sizes]
    omega
theorem GType.size_bulk : ∀ e : GType, GType.size e ≤ 1 + Tr.bulkL e.tr := by
  refine GType.ind fun v0 v1 v3 h => ?_
  have : ∀ l : List GType, (∀ x ∈ l, GType.size x ≤ 1 + Tr.bulkL x.tr) → GType.sizes l ≤ l.length + Tr.bulkAll (GType.trs l) := by
    intro l
    induction l with
    | nil => intro _; simp [GType.sizes]
    | cons a l ih =>
      intro hl
      have h1 := hl a (by simp)
      have h2 := ih fun x hx => hl x (by simp [hx])
      simp only [GType.sizes, GType.trs, Tr.bulkAll, List.length_cons]
      omega
  have := this v3 h
  simp only [GType.size, GType.tr, Tr.bulkL_append, Tr.bulkL, Tr.bulk, GType.trs_len]
  omega

mutual
def GType.pre : GType → List GType
  | .mk k n xs => .mk k n xs :: GType.pres xs
def GType.pres : List GType → List GType
  | [] => []
  | e :: r => GType.pre e ++ GType.pres r
end
theorem GType.pres_step {l : List GType} {k : Nat} (h : k < l.length) : GType.pres (l.drop k) = GType.pre l[k] ++ GType.pres (l.drop (k + 1)) := by
  rw [List.drop_eq_getElem_cons h, GType.pres]
theorem GType.pre_length : ∀ e : GType, (GType.pre e).length = GType.size e := by
  refine GType.ind fun v0 v1 v3 h => ?_
  have : ∀ l : List GType, (∀ x ∈ l, (GType.pre x).length = GType.size x) → (GType.pres l).length = GType.sizes l := by
    intro l
    induction l with
    | nil => intro _; rfl
    | cons a l ih =>
      intro hl
      simp only [GType.pres, List.length_append, GType.sizes, hl a (by simp), ih fun x hx => hl x (by simp [hx])]
  simp only [GType.pre, List.length_cons, GType.size, this v3 h]
  omega
theorem GType.pres_length : ∀ l : List GType, (GType.pres l).length = GType.sizes l
  | [] => rfl
  | a :: l => by simp only [GType.pres, List.length_append, GType.sizes, GType.pre_length, GType.pres_length l]

def hasS (l : List ByteArray) (s : ByteArray) : Bool := l.any fun x => decide (x = s)
def varStep (out : List ByteArray) (u : GType) : List ByteArray := if u.gKind = 1 ∧ hasS out u.gName = false then out ++ [u.gName] else out
def countStep (v : ByteArray) (n : Nat) (u : GType) : Nat := if u.gKind = 1 ∧ u.gName = v then n + 1 else n
def hasStep (b : Bool) (u : GType) : Bool := b || u.gKind == 3

theorem countStep_add (v : ByteArray) : ∀ (l : List GType) (n : Nat), l.foldl (countStep v) n = n + l.foldl (countStep v) 0
  | [], n => by simp
  | a :: l, n => by
    simp only [List.foldl_cons]
    rw [countStep_add v l (countStep v n a), countStep_add v l (countStep v 0 a)]
    unfold countStep
    split <;> omega
theorem countStep_le (v : ByteArray) : ∀ (l : List GType) (n : Nat), l.foldl (countStep v) n ≤ n + l.length
  | [], n => by simp
  | a :: l, n => by
    have := countStep_le v l (countStep v n a)
    have h : countStep v n a ≤ n + 1 := by unfold countStep; split <;> omega
    simp only [List.foldl_cons, List.length_cons]
    omega
def GType.vars (t : GType) : List ByteArray := t.pre.foldl varStep []
def GType.count (v : ByteArray) (t : GType) : Nat := t.pre.foldl (countStep v) 0
def GType.counts (v : ByteArray) (l : List GType) : Nat := (GType.pres l).foldl (countStep v) 0
theorem GType.count_mk (v : ByteArray) (k : Int) (n : ByteArray) (xs : List GType) : GType.count v (.mk k n xs) = (if k = 1 ∧ n = v then 1 else 0) + GType.counts v xs := by
  unfold GType.count GType.counts
  rw [GType.pre, List.foldl_cons, countStep_add]
  simp [countStep]
theorem GType.counts_step {v : ByteArray} {l : List GType} {k : Nat} (h : k < l.length) : GType.counts v (l.drop k) = GType.count v l[k] + GType.counts v (l.drop (k + 1)) := by
  unfold GType.count GType.counts
  rw [GType.pres_step h, List.foldl_append, countStep_add]
theorem GType.count_size (v : ByteArray) (t : GType) : GType.count v t ≤ GType.size t := by
  have := countStep_le v t.pre 0
  rw [GType.pre_length] at this
  unfold GType.count
  omega
theorem varStep_le : ∀ (l : List GType) (out : List ByteArray), (l.foldl varStep out).length ≤ out.length + l.length
  | [], out => by simp
  | a :: l, out => by
    have := varStep_le l (varStep out a)
    simp only [List.foldl_cons, List.length_cons]
    have h : (varStep out a).length ≤ out.length + 1 := by unfold varStep; split <;> simp
    omega

def GBound.smaller (b : GBound) (head : GType) : Bool :=
  (GType.vars b.gType).all (fun v => decide (GType.count v b.gType ≤ GType.count v head)) && decide (GType.size b.gType < GType.size head)

end Go.Proofs.Ytoifjkggpanceaa

namespace Go.Proofs.Ytoifjkggpanceaa
open Go.RowKit Go.Proofs

def projStep (out : List GBound) : GType → List GBound
  | .mk k n (a :: _) => if k = 3 then (if out.any (fun x => GBound.eq x (.mk n a)) then out else out ++ [.mk n a]) else out
  | .mk _ _ [] => out
def GType.projs (t : GType) : List GBound := t.pre.foldl projStep []
theorem projStep_kind {out : List GBound} {k : Int} {n : ByteArray} {l : List GType} (h : ¬ k = 3) : projStep out (.mk k n l) = out := by cases l <;> simp [projStep, h]
theorem projStep_nil {out : List GBound} {k : Int} {n : ByteArray} : projStep out (.mk k n []) = out := rfl
theorem projStep_has {out : List GBound} {n : ByteArray} {a : GType} {l : List GType} (h : out.any (fun x => GBound.eq x (.mk n a)) = true) : projStep out (.mk 3 n (a :: l)) = out := by simp [projStep, h]
theorem projStep_new {out : List GBound} {n : ByteArray} {a : GType} {l : List GType} (h : out.any (fun x => GBound.eq x (.mk n a)) = false) : projStep out (.mk 3 n (a :: l)) = out ++ [.mk n a] := by simp [projStep, h]
theorem projStep_len (out : List GBound) (u : GType) : (projStep out u).length ≤ out.length + 1 := by
  obtain ⟨k, n, l⟩ := u
  cases l with
  | nil => rw [projStep_nil]; omega
  | cons a l =>
    by_cases hk : k = 3
    · subst hk
      cases h : out.any (fun x => GBound.eq x (.mk n a))
      · rw [projStep_new h]; simp
      · rw [projStep_has h]; omega
    · rw [projStep_kind hk]; omega
theorem GBound.trs_snoc (l : List GBound) (x : GBound) : GBound.trs l ++ [x.tr] = GBound.trs (l ++ [x]) := by simp [GBound.trs_map]
theorem GBound.tr_mk (n : ByteArray) (a : GType) : (GBound.mk n a).tr = .leaf (.string n) :: a.tr := by simp [GBound.tr]

/-- Every type in a type is measured by less than the type. -/
theorem GType.pre_bulk : ∀ x : GType, ∀ y ∈ x.pre, Tr.bulkL y.tr ≤ Tr.bulkL x.tr := by
  refine GType.ind fun v0 v1 xs ih => ?_
  have key : ∀ l : List GType, (∀ x ∈ l, ∀ y ∈ x.pre, Tr.bulkL y.tr ≤ Tr.bulkL x.tr) → ∀ y ∈ GType.pres l, Tr.bulkL y.tr ≤ Tr.bulkAll (GType.trs l) := by
    intro l
    induction l with
    | nil => intro _ y hy; simp [GType.pres] at hy
    | cons a l ih =>
      intro h y hy
      simp only [GType.pres, List.mem_append] at hy
      simp only [GType.trs, Tr.bulkAll]
      rcases hy with hy | hy
      · have := h a (by simp) y hy; omega
      · have := ih (fun x hx => h x (by simp [hx])) y hy; omega
  intro y hy
  simp only [GType.pre, List.mem_cons] at hy
  rcases hy with rfl | hy
  · exact Nat.le_refl _
  · have := key xs ih y hy
    simp only [GType.tr, Tr.bulkL_append, Tr.bulkL, Tr.bulk]
    omega

end Go.Proofs.Ytoifjkggpanceaa

namespace Go.Proofs.Ytoifjkggpanceaa
set_option linter.unusedSimpArgs false
set_option linter.unusedVariables false
open Go.RowKit Go.Proofs

theorem projSteps_len : ∀ (l : List GType) (s : List GBound), (l.foldl projStep s).length ≤ s.length + l.length
  | [], s => by simp
  | a :: l, s => by
    rw [List.foldl_cons, List.length_cons]
    have h1 := projSteps_len l (projStep s a)
    have h2 := projStep_len s a
    omega
theorem pres_foldl : ∀ (xs : List GType) (s : List GBound), xs.foldl (fun s x => x.pre.foldl projStep s) s = (GType.pres xs).foldl projStep s
  | [], s => rfl
  | a :: l, s => by rw [List.foldl_cons, pres_foldl l, GType.pres, List.foldl_append]
theorem any_swap {l : List GBound} {n : ByteArray} {a : GType} : (l.any fun x => GBound.eq x (.mk n a)) = l.any fun x => GBound.eq x (.mk n a) := rfl
theorem orfold {α : Type} (p : α → Bool) : ∀ (l : List α) (b : Bool), l.foldl (fun b x => if b then true else p x) b = (b || l.any p)
  | [], b => by simp
  | a :: l, b => by
    rw [List.foldl_cons, orfold p l, List.any_cons]
    cases b <;> simp
theorem sl23Projs_C1_eq (fu : Nat) (r1 : GType → List GBound → Option (List GBound)) (k : Int) (n : ByteArray) (xs : List GType) (out : List GBound) (hb : Tr.bulkL (GType.mk k n xs).tr ≤ 68719476735) (ho : out.length + 1 ≤ 68719476736) :
    sl23Projs_C1 fu r1 (.mk k n xs) out = some (.inr (projStep out (.mk k n xs))) := by
  unfold sl23Projs_C1
  simp only [GType.gKind_mk, GType.gName_mk, GType.gArgs_mk]
  by_cases hk : k = 3
  · subst hk
    rw [swT (by simp) rfl]
    cases xs with
    | nil => rw [swF (by simp) rfl]; rfl
    | cons a l =>
      have hb1 := bulk_args 3 n (a :: l)
      have hb2 : Tr.bulkL a.tr ≤ Tr.bulkAll (GType.trs (a :: l)) := bulk_mem (by simp)
      have ha : atD (a :: l) 0 = a := rfl
      rw [swT (by first | (simp; done) | (simp; omega)) rfl, gdT (by simp) rfl, gdT (by rw [ha]; omega) rfl]
      have hR : sl23Projs_R2 fu r1 (.mk 3 n (a :: l)) out = some (.inr (out.any fun x => GBound.eq x (.mk n a))) := by
        unfold sl23Projs_R2
        rw [loopN_fold0 (l := out) (g := fun b x => if b then true else GBound.eq x (.mk n a)) (fun _ _ => True) (fun i s hi _ => ⟨?_, trivial⟩) trivial, orfold, Bool.false_or]
        rw [sl23Projs_F2]
        simp only [GType.gName_mk, GType.gArgs_mk, ha]
        cases s <;> rfl
      rw [soR hR rfl]
      cases hany : out.any fun x => GBound.eq x (.mk n a)
      · rw [swT (by simp) rfl, gdT (by simpa using ho) rfl, projStep_new hany, ha]
      · rw [swF (by simp) rfl, projStep_has hany]
  · rw [swF (by simp [hk]) rfl, projStep_kind hk]
theorem sl23Projs_ev : ∀ t : GType, Tr.bulkL t.tr ≤ 68719476735 → Evt fun fu => ∀ out : List GBound, out.length + t.pre.length ≤ 68719476736 → sl23Projs_M fu t out = some (t.pre.foldl projStep out) := by
  refine GType.ind fun k n xs ih hb => ?_
  have hb1 := bulk_args k n xs
  refine Evt.succ ((Evt.list fun x hx => ih x hx (by have := bulk_mem hx; omega)).imp fun fu hf out ho => ?_)
  rw [GType.pre, List.length_cons] at ho
  simp only [sl23Projs_M, sl23Projs_G]
  rw [soR (sl23Projs_C1_eq fu _ k n xs out hb (by omega)) rfl]
  have h1 := projStep_len out (.mk k n xs)
  unfold sl23Projs_R3
  simp only [GType.gArgs_mk]
  rw [loopN_fold0 (l := xs) (g := fun s x => x.pre.foldl projStep s) (fun i s => s.length + (GType.pres (xs.drop i)).length ≤ 68719476736) (fun i s hi hp => ?_) (by rw [List.drop_zero]; omega)]
  · rw [GType.pre, List.foldl_cons, pres_foldl]; rfl
  · rw [drop_atD hi, GType.pres, List.length_append] at hp
    refine ⟨?_, ?_⟩
    · rw [sl23Projs_F3]
      simp only [GType.gArgs_mk]
      rw [bdS (hf _ (atD_mem hi) s (by omega)) rfl]
    · have := projSteps_len (atD xs i).pre s
      omega
theorem sProjectionsIn_fn (t : GType) (hb : Tr.bulkL t.tr ≤ 68719476735) (hp : t.pre.length ≤ 68719476736) : AFun Try.prog 49 [(GType.pv t)] (.t (.row 4 (GBound.trs t.projs))) := by
  obtain ⟨fu, h⟩ := (sl23Projs_ev t hb).get
  refine sProjectionsIn_ok fu t _ ?_
  unfold sProjectionsIn_M
  rw [bdS (h [] (by simpa using hp)) rfl]
  rfl
theorem ihasGoal_eq (fu : Nat) (l : List GBound) (g : GBound) : ihasGoal_M fu l g = some (l.any fun x => GBound.eq x g) := by
  have h1 : gIndexFunc_Bound__ihasGoal_1_M fu l g = some (match l.findIdx? (fun x => GBound.eq x g) with | some i => ((i : Nat) : Int) | none => -1) := by
    unfold gIndexFunc_Bound__ihasGoal_1_M gIndexFunc_Bound__ihasGoal_1_R1
    rw [loopN_index (l := l) (p := fun x => GBound.eq x g) fun i hi => by
      rw [gIndexFunc_Bound__ihasGoal_1_F1]
      simp only [ihasGoal_1_M, bd]
      cases GBound.eq (atD l i) g <;> rfl]
    cases l.findIdx? fun x => GBound.eq x g <;> rfl
  unfold ihasGoal_M gContainsFunc_Bound__ihasGoal_1_M
  rw [bdS (a := l.any fun x => GBound.eq x g) (by rw [bdS h1 rfl]; exact congrArg some index_any) rfl]
theorem ihasGoal_fn (l : List GBound) (g : GBound) : AFun Try.prog 119 [.t (.row 4 (GBound.trs l)), (GBound.pv g)] (.t (.leaf (.bool (l.any fun x => GBound.eq x g)))) := ihasGoal_ok 0 l g _ (ihasGoal_eq 0 l g)
theorem iProjectionsIn_1_eq (fu : Nat) (k : Int) (n : ByteArray) (xs : List GType) (out : List GBound) (hb : Tr.bulkL (GType.mk k n xs).tr ≤ 68719476735) (ho : out.length + 1 ≤ 68719476736) :
    iProjectionsIn_1_M fu (.mk k n xs) out = some (projStep out (.mk k n xs)) := by
  unfold iProjectionsIn_1_M
  simp only [GType.gKind_mk, GType.gName_mk, GType.gArgs_mk]
  by_cases hk : k = 3
  · subst hk
    rw [swT (by simp) rfl]
    cases xs with
    | nil => rw [swF (by simp) rfl]; rfl
    | cons a l =>
      have hb1 := bulk_args 3 n (a :: l)
      have hb2 : Tr.bulkL a.tr ≤ Tr.bulkAll (GType.trs (a :: l)) := bulk_mem (by simp)
      have ha : atD (a :: l) 0 = a := rfl
      rw [swT (by first | (simp; done) | (simp; omega)) rfl, gdT (by simp) rfl, gdT (by rw [ha]; omega) rfl, bdS (ihasGoal_eq fu _ _) rfl]
      simp only [ha]
      cases hany : out.any fun x => GBound.eq x (.mk n a)
      · rw [swT (by simp) rfl, gdT (by simpa using ho) rfl, projStep_new hany]
      · rw [swF (by simp) rfl, projStep_has hany]
  · rw [swF (by simp [hk]) rfl, projStep_kind hk]
theorem ieachProj_ev : ∀ t : GType, Tr.bulkL t.tr ≤ 68719476735 → Evt fun fu => ∀ out : List GBound, out.length + t.pre.length ≤ 68719476736 → ieachType__iProjectionsIn_1_M fu t out = some (t.pre.foldl projStep out) := by
  refine GType.ind fun k n xs ih hb => ?_
  have hb1 := bulk_args k n xs
  refine Evt.succ ((Evt.list fun x hx => ih x hx (by have := bulk_mem hx; omega)).imp fun fu hf out ho => ?_)
  rw [GType.pre, List.length_cons] at ho
  simp only [ieachType__iProjectionsIn_1_M, ieachType__iProjectionsIn_1_G]
  rw [bdS (iProjectionsIn_1_eq fu k n xs out hb (by omega)) rfl]
  have h1 := projStep_len out (.mk k n xs)
  unfold ieachType__iProjectionsIn_1_R1
  simp only [GType.gArgs_mk]
  rw [loopN_fold0 (l := xs) (g := fun s x => x.pre.foldl projStep s) (fun i s => s.length + (GType.pres (xs.drop i)).length ≤ 68719476736) (fun i s hi hp => ?_) (by rw [List.drop_zero]; omega)]
  · rw [GType.pre, List.foldl_cons, pres_foldl]; rfl
  · rw [drop_atD hi, GType.pres, List.length_append] at hp
    refine ⟨?_, ?_⟩
    · rw [ieachType__iProjectionsIn_1_F1]
      simp only [GType.gArgs_mk]
      rw [bdS (hf _ (atD_mem hi) s (by omega)) rfl]
    · have := projSteps_len (atD xs i).pre s
      omega
theorem iProjectionsIn_fn (t : GType) (hb : Tr.bulkL t.tr ≤ 68719476735) (hp : t.pre.length ≤ 68719476736) : AFun Try.prog 50 [(GType.pv t)] (.t (.row 4 (GBound.trs t.projs))) := by
  obtain ⟨fu, h⟩ := (ieachProj_ev t hb).get
  refine iProjectionsIn_ok fu t _ ?_
  unfold iProjectionsIn_M
  rw [bdS (h [] (by simpa using hp)) rfl]
  rfl
end Go.Proofs.Ytoifjkggpanceaa

namespace Go.Proofs.Ytoifjkggpanceaa
open Go.RowKit Go.Proofs
set_option linter.unusedSimpArgs false
set_option linter.unusedVariables false

noncomputable def iAssocTypeIsCovered_1_M (fu : Nat)  (pb : GBound) (c1 : GInstance) : Option Bool :=
 some (!(List.any c1.gWhere (fun x => GBound.eq x pb)))
set_option maxRecDepth 100000 in
set_option maxHeartbeats 4000000 in
theorem iAssocTypeIsCovered_1_ok  (fu : Nat)  (pb : GBound) (c1 : GInstance) (r : Bool) (H : iAssocTypeIsCovered_1_M fu pb c1 = some r) : ACalls Try.prog 129 [(GBound.pv pb), .ptr 0 0] ⟨[some ⟨94, [.t (.leaf (.string (c1.gTrait))), .t (.row 1 (strTrs (c1.gVars))), .t (.leaf (.int .i64 (c1.gHead.gKind))), .t (.leaf (.string (c1.gHead.gName))), .t (.row 3 (GType.trs (c1.gHead.gArgs))), .t (.row 4 (GBound.trs (c1.gWhere))), .t (.leaf (.bool (c1.gDefault))), .t (.leaf (.bool (c1.gHasAssoc))), .t (.leaf (.int .i64 (c1.gAssoc.gKind))), .t (.leaf (.string (c1.gAssoc.gName))), .t (.row 3 (GType.trs (c1.gAssoc.gArgs))), .t (.row 11 (GMethod.trs (c1.gMethods)))]⟩], []⟩ (fun q t => q = (.t (.leaf (.bool (r))) : PV) ∧ t = ⟨[some ⟨94, [.t (.leaf (.string (c1.gTrait))), .t (.row 1 (strTrs (c1.gVars))), .t (.leaf (.int .i64 (c1.gHead.gKind))), .t (.leaf (.string (c1.gHead.gName))), .t (.row 3 (GType.trs (c1.gHead.gArgs))), .t (.row 4 (GBound.trs (c1.gWhere))), .t (.leaf (.bool (c1.gDefault))), .t (.leaf (.bool (c1.gHasAssoc))), .t (.leaf (.int .i64 (c1.gAssoc.gKind))), .t (.leaf (.string (c1.gAssoc.gName))), .t (.row 3 (GType.trs (c1.gAssoc.gArgs))), .t (.row 11 (GMethod.trs (c1.gMethods)))]⟩], []⟩) := by
  refine ACalls.intro Try.func129 rfl (by first | decide | (simp; done) | (simp; decide)) ?_
  intro C hC
  refine AWP.fact (box_lenN 0 1 rfl rfl rfl (strTrs_len _)) (fun hl1 => ?_)
  refine AWP.fact (box_lenN 0 4 rfl rfl rfl (GType.trs_len _)) (fun hl2 => ?_)
  refine AWP.fact (box_lenN 0 5 rfl rfl rfl (GBound.trs_len _)) (fun hl3 => ?_)
  refine AWP.fact (box_lenN 0 10 rfl rfl rfl (GType.trs_len _)) (fun hl4 => ?_)
  refine AWP.fact (box_lenN 0 11 rfl rfl rfl (GMethod.trs_len _)) (fun hl5 => ?_)
  refine AWP.seq ?_
  refine AWP.region_lit ?_
  refine AL.cons rfl (AOp.box (cs := [.t (.leaf (.string (pb.gTrait))), .t (.leaf (.int .i64 (pb.gType.gKind))), .t (.leaf (.string (pb.gType.gName))), .t (.row 3 (GType.trs (pb.gType.gArgs)))]) rfl rfl rfl rfl rfl) ?_
  refine AL.cons rfl (AOp.move (.inr rfl) rfl rfl) ?_
  refine AL.nil ?_
  refine AWP.seq ?_
  refine AWP.region_lit ?_
  refine AL.cons rfl (AOp.fieldPtr (k := 0) (d := 0) (e := 5) rfl rfl rfl fo94_3) ?_
  refine AL.cons rfl (AOp.loadPtr1 rfl rfl rfl rfl sh86 rfl) ?_
  refine AL.cons rfl (AOp.loadPtr (cs := [.t (.leaf (.string (pb.gTrait))), .t (.leaf (.int .i64 (pb.gType.gKind))), .t (.leaf (.string (pb.gType.gName))), .t (.row 3 (GType.trs (pb.gType.gArgs)))]) rfl rfl rfl rfl sh34 rfl rfl) ?_
  refine AL.cons rfl (AOp.callF (res := .t (.leaf (.bool (List.any c1.gWhere (fun x => GBound.eq x pb))))) (ps := [_, _]) rfl rfl Try.func119 (by kernel_rfl) rfl rfl (by (repeat' (first | exact PV.Le.refl _ | exact LeL.nil | exact PV.Le.nil _ | exact PV.Le.acc _ _ _ | apply LeL.cons | apply PV.Le.agg | apply PV.Le.tup))) rfl rfl (ihasGoal_fn c1.gWhere pb)) ?_
  refine AL.cons rfl (AOp.notB rfl rfl rfl) ?_
  refine AL.cons rfl (AOp.move (.inr rfl) rfl rfl) ?_
  refine AL.nil ?_
  refine AWP.ret ?_
  have e6 : iAssocTypeIsCovered_1_M fu pb c1 = some (!(List.any c1.gWhere (fun x => GBound.eq x pb))) := rfl
  have hz : (!(List.any c1.gWhere (fun x => GBound.eq x pb))) = r := Option.some.inj (e6.symm.trans H)
  subst hz
  exact Ends.mk (ps := [_]) (by first | exact .inr rfl | exact .inl rfl) ⟨rfl, trivial⟩ rfl (StLe.mk' (st' := ⟨[some ⟨94, [.t (.leaf (.string (c1.gTrait))), .t (.row 1 (strTrs (c1.gVars))), .t (.leaf (.int .i64 (c1.gHead.gKind))), .t (.leaf (.string (c1.gHead.gName))), .t (.row 3 (GType.trs (c1.gHead.gArgs))), .t (.row 4 (GBound.trs (c1.gWhere))), .t (.leaf (.bool (c1.gDefault))), .t (.leaf (.bool (c1.gHasAssoc))), .t (.leaf (.int .i64 (c1.gAssoc.gKind))), .t (.leaf (.string (c1.gAssoc.gName))), .t (.row 3 (GType.trs (c1.gAssoc.gArgs))), .t (.row 11 (GMethod.trs (c1.gMethods)))]⟩], []⟩) ⟨⟨rfl, by (repeat' (first | exact PV.Le.refl _ | exact LeL.nil | exact PV.Le.nil _ | exact PV.Le.acc _ _ _ | apply LeL.cons | apply PV.Le.agg | apply PV.Le.tup)), rfl⟩, trivial⟩ rfl) (keeps_all hC (boxes1 rfl) (Nat.le_of_ble_eq_true rfl)) (q := (.t (.leaf (.bool ((!(List.any c1.gWhere (fun x => GBound.eq x pb)))))) : PV)) (by (repeat' (first | exact PV.Le.refl _ | exact LeL.nil | exact PV.Le.nil _ | exact PV.Le.acc _ _ _ | apply LeL.cons | apply PV.Le.agg | apply PV.Le.tup))) rfl ⟨rfl, rfl⟩

noncomputable def gIndexFunc_Bound__iAssocTypeIsCovered_1_F1 (fu : Nat) (ps : List GBound) (c1_0 : GInstance) : Nat → Unit → Option (LR Unit Int) :=
 fun i7 _ => bd (iAssocTypeIsCovered_1_M fu (atD ps i7) c1_0) (fun x11 =>
 sw (x11)
 (some (.ret ((i7 : Nat) : Int)))
 (some (.next ())))
noncomputable def gIndexFunc_Bound__iAssocTypeIsCovered_1_R1 (fu : Nat) (ps : List GBound) (c1_0 : GInstance) : Option (Int ⊕ Unit) :=
 loopN (gIndexFunc_Bound__iAssocTypeIsCovered_1_F1 fu ps c1_0) (ps.length - 0) 0 ()
noncomputable def gIndexFunc_Bound__iAssocTypeIsCovered_1_M (fu : Nat)  (ps : List GBound) (c1_0 : GInstance) : Option Int :=
 so (gIndexFunc_Bound__iAssocTypeIsCovered_1_R1 fu ps c1_0) (fun _ =>
 some (-1))
set_option maxRecDepth 100000 in
set_option maxHeartbeats 4000000 in
theorem gIndexFunc_Bound__iAssocTypeIsCovered_1_ok  (fu : Nat)  (ps : List GBound) (c1_0 : GInstance) (r : Int) (H : gIndexFunc_Bound__iAssocTypeIsCovered_1_M fu ps c1_0 = some r) : ACalls Try.prog 135 [.t (.row 4 (GBound.trs (ps))), .fn 129 [.ptr 0 0]] ⟨[some ⟨94, [.t (.leaf (.string (c1_0.gTrait))), .t (.row 1 (strTrs (c1_0.gVars))), .t (.leaf (.int .i64 (c1_0.gHead.gKind))), .t (.leaf (.string (c1_0.gHead.gName))), .t (.row 3 (GType.trs (c1_0.gHead.gArgs))), .t (.row 4 (GBound.trs (c1_0.gWhere))), .t (.leaf (.bool (c1_0.gDefault))), .t (.leaf (.bool (c1_0.gHasAssoc))), .t (.leaf (.int .i64 (c1_0.gAssoc.gKind))), .t (.leaf (.string (c1_0.gAssoc.gName))), .t (.row 3 (GType.trs (c1_0.gAssoc.gArgs))), .t (.row 11 (GMethod.trs (c1_0.gMethods)))]⟩], []⟩ (fun q t => q = (.t (.leaf (.int .i64 (r))) : PV) ∧ t = ⟨[some ⟨94, [.t (.leaf (.string (c1_0.gTrait))), .t (.row 1 (strTrs (c1_0.gVars))), .t (.leaf (.int .i64 (c1_0.gHead.gKind))), .t (.leaf (.string (c1_0.gHead.gName))), .t (.row 3 (GType.trs (c1_0.gHead.gArgs))), .t (.row 4 (GBound.trs (c1_0.gWhere))), .t (.leaf (.bool (c1_0.gDefault))), .t (.leaf (.bool (c1_0.gHasAssoc))), .t (.leaf (.int .i64 (c1_0.gAssoc.gKind))), .t (.leaf (.string (c1_0.gAssoc.gName))), .t (.row 3 (GType.trs (c1_0.gAssoc.gArgs))), .t (.row 11 (GMethod.trs (c1_0.gMethods)))]⟩], []⟩) := by
  refine ACalls.intro Try.func135 rfl (by first | decide | (simp; done) | (simp; decide)) ?_
  intro C hC
  refine AWP.fact (lk_lenN 0 rfl rfl (GBound.trs_len _)) (fun hl1 => ?_)
  refine AWP.fact (box_lenN 0 1 rfl rfl rfl (strTrs_len _)) (fun hl2 => ?_)
  refine AWP.fact (box_lenN 0 4 rfl rfl rfl (GType.trs_len _)) (fun hl3 => ?_)
  refine AWP.fact (box_lenN 0 5 rfl rfl rfl (GBound.trs_len _)) (fun hl4 => ?_)
  refine AWP.fact (box_lenN 0 10 rfl rfl rfl (GType.trs_len _)) (fun hl5 => ?_)
  refine AWP.fact (box_lenN 0 11 rfl rfl rfl (GMethod.trs_len _)) (fun hl6 => ?_)
  refine AWP.seq ?_
  refine AWP.region_lit ?_
  refine AL.cons rfl (AOp.move (.inr rfl) rfl rfl) ?_
  refine AL.nil ?_
  refine AWP.seq ?_
  refine AWP.seq ?_
  refine AWP.region_lit ?_
  refine AL.cons rfl (AOp.move (.inl rfl) rfl rfl) ?_
  refine AL.cons rfl (AOp.lenN rfl rfl rfl rfl el86 (GBound.trs_len _)) ?_
  refine AL.cons rfl (AOp.move (.inl rfl) rfl rfl) ?_
  refine AL.nil ?_
  refine AWP.cut (ι := Unit) (fun _ => gIndexFunc_Bound__iAssocTypeIsCovered_1_R1 fu ps c1_0 = some (.inr ())) (fun _ => ⟨[(4, .t (.leaf (.int .i64 (0))))], ⟨[some ⟨94, [.t (.leaf (.string (c1_0.gTrait))), .t (.row 1 (strTrs (c1_0.gVars))), .t (.leaf (.int .i64 (c1_0.gHead.gKind))), .t (.leaf (.string (c1_0.gHead.gName))), .t (.row 3 (GType.trs (c1_0.gHead.gArgs))), .t (.row 4 (GBound.trs (c1_0.gWhere))), .t (.leaf (.bool (c1_0.gDefault))), .t (.leaf (.bool (c1_0.gHasAssoc))), .t (.leaf (.int .i64 (c1_0.gAssoc.gKind))), .t (.leaf (.string (c1_0.gAssoc.gName))), .t (.row 3 (GType.trs (c1_0.gAssoc.gArgs))), .t (.row 11 (GMethod.trs (c1_0.gMethods)))]⟩], []⟩⟩) (by repeat' (first | exact qcEnds | exact ncAWP | exact ncRound | exact ncEx | apply qcThen | apply qcBlock | apply qcCut)) ?_ ?_
  · skip
    refine AWP.block ?_
    refine AWP.loopR (ι := Nat × Unit) (fun (i7, _) => gIndexFunc_Bound__iAssocTypeIsCovered_1_R1 fu ps c1_0 = loopN (gIndexFunc_Bound__iAssocTypeIsCovered_1_F1 fu ps c1_0) (ps.length - i7) i7 ()) (fun (i7, _) => ⟨[(0, .t (.row 4 (GBound.trs (ps)))), (1, .fn 129 [.ptr 0 0]), (4, .t (.leaf (.int .i64 (0)))), (7, .t (.leaf (.int .i64 (((ps.length : Nat) : Int))))), (8, .t (.leaf (.int .i64 (((i7 : Nat) : Int)))))], ⟨[some ⟨94, [.t (.leaf (.string (c1_0.gTrait))), .t (.row 1 (strTrs (c1_0.gVars))), .t (.leaf (.int .i64 (c1_0.gHead.gKind))), .t (.leaf (.string (c1_0.gHead.gName))), .t (.row 3 (GType.trs (c1_0.gHead.gArgs))), .t (.row 4 (GBound.trs (c1_0.gWhere))), .t (.leaf (.bool (c1_0.gDefault))), .t (.leaf (.bool (c1_0.gHasAssoc))), .t (.leaf (.int .i64 (c1_0.gAssoc.gKind))), .t (.leaf (.string (c1_0.gAssoc.gName))), .t (.row 3 (GType.trs (c1_0.gAssoc.gArgs))), .t (.row 11 (GMethod.trs (c1_0.gMethods)))]⟩], []⟩⟩) (fun (i7, _) => ps.length - i7) (0, ()) ?_ ?_ ?_
    · exact rfl
    · skip
      exact Wk.mk (StLe.mk' ⟨⟨rfl, by (repeat' (first | exact PV.Le.refl _ | exact LeL.nil | exact PV.Le.nil _ | exact PV.Le.acc _ _ _ | apply LeL.cons | apply PV.Le.agg | apply PV.Le.tup)), rfl⟩, trivial⟩ rfl) (keeps_all hC (boxes1 rfl) (Nat.le_of_ble_eq_true rfl)) ⟨⟨_, rfl, .refl _, rfl⟩, ⟨⟨_, rfl, .refl _, rfl⟩, ⟨⟨_, rfl, .refl _, rfl⟩, ⟨⟨_, rfl, .refl _, rfl⟩, ⟨⟨_, rfl, by (repeat' (first | exact PV.Le.refl _ | exact LeL.nil | exact PV.Le.nil _ | exact PV.Le.acc _ _ _ | apply LeL.cons | apply PV.Le.agg | apply PV.Le.tup)), rfl⟩, trivial⟩⟩⟩⟩⟩
    · rintro ⟨i7, ⟨⟩⟩ hJ8
      refine AWP.seq ?_
      refine AWP.region_lit ?_
      refine AL.cons rfl (AOp.lss rfl rfl rfl rfl) ?_
      refine AL.nil ?_
      refine AWP.seq ?_
      refine AWP.cond rfl (fun h9 => ?_) (fun h9 => ?_)
      · skip
        have h9l : i7 < ps.length := nat_lt_of2 h9
        have h9n := nat_lt_of h9
        refine AWP.skip ?_
        refine AWP.seq ?_
        refine AWP.block ?_
        refine AWP.seq ?_
        refine AWP.region_lit ?_
        refine AL.cons rfl (AOp.move (.inl rfl) rfl rfl) ?_
        refine AL.cons rfl (AOp.move (.inr rfl) rfl rfl) ?_
        refine AL.nil ?_
        refine AWP.seq ?_
        refine AWP.region_lit ?_
        refine AL.cons rfl (AOp.move (.inl rfl) rfl rfl) ?_
        refine AL.cons rfl (AOp.move (.inl rfl) rfl rfl) ?_
        refine AL.cons rfl (AOp.move (.inl rfl) rfl rfl) ?_
        refine AL.cons rfl (AOp.index (k := i7) rfl rfl rfl rfl rfl (GBound.trs_at h9n) el86) ?_
        refine AL.cons rfl (AOp.loadEptr (ds := [.leaf (.string ((atD ps i7).gTrait)), .leaf (.int .i64 ((atD ps i7).gType.gKind)), .leaf (.string ((atD ps i7).gType.gName)), .row 3 (GType.trs ((atD ps i7).gType.gArgs))]) rfl rfl rfl sh34 rfl rfl) ?_
        rcases hq10 : iAssocTypeIsCovered_1_M fu (atD ps i7) c1_0 with _ | x11
        · skip
          have e12 : (gIndexFunc_Bound__iAssocTypeIsCovered_1_F1 fu ps c1_0) i7 () = none := bdN hq10
          have e13 : gIndexFunc_Bound__iAssocTypeIsCovered_1_R1 fu ps c1_0 = none := loopN_non h9l hJ8 e12
          have e14 : gIndexFunc_Bound__iAssocTypeIsCovered_1_M fu ps c1_0 = none := soN e13
          exact none_some H e14
        · skip
          refine AL.cons rfl (AOp.callVPE (pre := ⟨[some ⟨94, [.t (.leaf (.string (c1_0.gTrait))), .t (.row 1 (strTrs (c1_0.gVars))), .t (.leaf (.int .i64 (c1_0.gHead.gKind))), .t (.leaf (.string (c1_0.gHead.gName))), .t (.row 3 (GType.trs (c1_0.gHead.gArgs))), .t (.row 4 (GBound.trs (c1_0.gWhere))), .t (.leaf (.bool (c1_0.gDefault))), .t (.leaf (.bool (c1_0.gHasAssoc))), .t (.leaf (.int .i64 (c1_0.gAssoc.gKind))), .t (.leaf (.string (c1_0.gAssoc.gName))), .t (.row 3 (GType.trs (c1_0.gAssoc.gArgs))), .t (.row 11 (GMethod.trs (c1_0.gMethods)))]⟩], []⟩) (st' := ⟨[some ⟨94, [.t (.leaf (.string (c1_0.gTrait))), .t (.row 1 (strTrs (c1_0.gVars))), .t (.leaf (.int .i64 (c1_0.gHead.gKind))), .t (.leaf (.string (c1_0.gHead.gName))), .t (.row 3 (GType.trs (c1_0.gHead.gArgs))), .t (.row 4 (GBound.trs (c1_0.gWhere))), .t (.leaf (.bool (c1_0.gDefault))), .t (.leaf (.bool (c1_0.gHasAssoc))), .t (.leaf (.int .i64 (c1_0.gAssoc.gKind))), .t (.leaf (.string (c1_0.gAssoc.gName))), .t (.row 3 (GType.trs (c1_0.gAssoc.gArgs))), .t (.row 11 (GMethod.trs (c1_0.gMethods)))]⟩], []⟩) (ps := [_]) (cs := [.ptr 0 0]) (qs := [(GBound.pv (atD ps i7)), .ptr 0 0]) [0] [] rfl rfl rfl Try.func129 (by kernel_rfl) rfl rfl rfl (Part0.of ⟨⟨_, rfl, rfl, by (repeat' (first | exact PV.Le.refl _ | exact LeL.nil | exact PV.Le.nil _ | exact PV.Le.acc _ _ _ | apply LeL.cons | apply PV.Le.agg | apply PV.Le.tup)), rfl⟩, trivial⟩ trivial (by decide) (by decide)) (by (repeat' (first | exact PV.Le.refl _ | exact LeL.nil | exact PV.Le.nil _ | exact PV.Le.acc _ _ _ | apply LeL.cons | apply PV.Le.agg | apply PV.Le.tup))) rfl rfl rfl (iAssocTypeIsCovered_1_ok fu (atD ps i7) c1_0 _ hq10)) ?_
          refine AL.nil ?_
          refine AWP.cond rfl (fun h15 => ?_) (fun h15 => ?_)
          · skip
            refine AWP.seq ?_
            refine AWP.region_lit ?_
            refine AL.cons rfl (AOp.move (.inl rfl) rfl rfl) ?_
            refine AL.cons rfl (AOp.move (.inr rfl) rfl rfl) ?_
            refine AL.nil ?_
            refine AWP.ret ?_
            have e16 : (gIndexFunc_Bound__iAssocTypeIsCovered_1_F1 fu ps c1_0) i7 () = some (.ret ((i7 : Nat) : Int)) := bdS hq10 (swT h15 (rfl))
            have e17 : gIndexFunc_Bound__iAssocTypeIsCovered_1_R1 fu ps c1_0 = some (.inl ((i7 : Nat) : Int)) := loopN_ret h9l hJ8 e16
            have e18 : gIndexFunc_Bound__iAssocTypeIsCovered_1_M fu ps c1_0 = some ((i7 : Nat) : Int) := soL e17
            have hz : ((i7 : Nat) : Int) = r := Option.some.inj (e18.symm.trans H)
            subst hz
            exact Ends.mk (ps := [_]) (by first | exact .inr rfl | exact .inl rfl) ⟨rfl, trivial⟩ rfl (StLe.mk' (st' := ⟨[some ⟨94, [.t (.leaf (.string (c1_0.gTrait))), .t (.row 1 (strTrs (c1_0.gVars))), .t (.leaf (.int .i64 (c1_0.gHead.gKind))), .t (.leaf (.string (c1_0.gHead.gName))), .t (.row 3 (GType.trs (c1_0.gHead.gArgs))), .t (.row 4 (GBound.trs (c1_0.gWhere))), .t (.leaf (.bool (c1_0.gDefault))), .t (.leaf (.bool (c1_0.gHasAssoc))), .t (.leaf (.int .i64 (c1_0.gAssoc.gKind))), .t (.leaf (.string (c1_0.gAssoc.gName))), .t (.row 3 (GType.trs (c1_0.gAssoc.gArgs))), .t (.row 11 (GMethod.trs (c1_0.gMethods)))]⟩], []⟩) ⟨⟨rfl, by (repeat' (first | exact PV.Le.refl _ | exact LeL.nil | exact PV.Le.nil _ | exact PV.Le.acc _ _ _ | apply LeL.cons | apply PV.Le.agg | apply PV.Le.tup)), rfl⟩, trivial⟩ rfl) (keeps_all hC (boxes1 rfl) (Nat.le_of_ble_eq_true rfl)) (q := (.t (.leaf (.int .i64 (((i7 : Nat) : Int)))) : PV)) (by (repeat' (first | exact PV.Le.refl _ | exact LeL.nil | exact PV.Le.nil _ | exact PV.Le.acc _ _ _ | apply LeL.cons | apply PV.Le.agg | apply PV.Le.tup))) rfl ⟨rfl, rfl⟩
          · skip
            refine AWP.skip ?_
            refine AWP.region_lit ?_
            refine AL.cons rfl (AOp.addI rfl rfl rfl rfl (c := ((i7 + 1 : Nat) : Int)) (by omega) (by omega)) ?_
            refine AL.cons rfl (AOp.move (.inl rfl) rfl rfl) ?_
            refine AL.nil ?_
            have e19 : (gIndexFunc_Bound__iAssocTypeIsCovered_1_F1 fu ps c1_0) i7 () = some (.next ()) := bdS hq10 (swF h15 (rfl))
            refine ⟨(i7 + 1, ()), loopN_next h9l hJ8 e19, ?_, ?_⟩
            · skip
              exact Wk.mk (StLe.mk' ⟨⟨rfl, by (repeat' (first | exact PV.Le.refl _ | exact LeL.nil | exact PV.Le.nil _ | exact PV.Le.acc _ _ _ | apply LeL.cons | apply PV.Le.agg | apply PV.Le.tup)), rfl⟩, trivial⟩ rfl) (keeps_all hC (boxes1 rfl) (Nat.le_of_ble_eq_true rfl)) ⟨⟨_, rfl, .refl _, rfl⟩, ⟨⟨_, rfl, .refl _, rfl⟩, ⟨⟨_, rfl, .refl _, rfl⟩, ⟨⟨_, rfl, .refl _, rfl⟩, ⟨⟨_, rfl, by (repeat' (first | exact PV.Le.refl _ | exact LeL.nil | exact PV.Le.nil _ | exact PV.Le.acc _ _ _ | apply LeL.cons | apply PV.Le.agg | apply PV.Le.tup)), rfl⟩, trivial⟩⟩⟩⟩⟩
            · dsimp only; omega
      · skip
        have h9l : ps.length ≤ i7 := nat_ge_of2 h9
        refine AWP.exit ?_
        refine ⟨(), loopN_end h9l hJ8, ?_⟩
        exact Wk.mk (StLe.mk' ⟨⟨rfl, by (repeat' (first | exact PV.Le.refl _ | exact LeL.nil | exact PV.Le.nil _ | exact PV.Le.acc _ _ _ | apply LeL.cons | apply PV.Le.agg | apply PV.Le.tup)), rfl⟩, trivial⟩ rfl) (keeps_all hC (boxes1 rfl) (Nat.le_of_ble_eq_true rfl)) ⟨⟨_, rfl, .refl _, rfl⟩, trivial⟩
  · rintro ⟨⟩ hR20
    refine AWP.seq ?_
    refine AWP.region_lit ?_
    refine AL.cons rfl (AOp.move (.inr rfl) rfl rfl) ?_
    refine AL.nil ?_
    refine AWP.ret ?_
    have e21 : gIndexFunc_Bound__iAssocTypeIsCovered_1_M fu ps c1_0 = some (-1) := soR hR20 (rfl)
    have hz : (-1) = r := Option.some.inj (e21.symm.trans H)
    subst hz
    exact Ends.mk (ps := [_]) (by first | exact .inr rfl | exact .inl rfl) ⟨rfl, trivial⟩ rfl (StLe.mk' (st' := ⟨[some ⟨94, [.t (.leaf (.string (c1_0.gTrait))), .t (.row 1 (strTrs (c1_0.gVars))), .t (.leaf (.int .i64 (c1_0.gHead.gKind))), .t (.leaf (.string (c1_0.gHead.gName))), .t (.row 3 (GType.trs (c1_0.gHead.gArgs))), .t (.row 4 (GBound.trs (c1_0.gWhere))), .t (.leaf (.bool (c1_0.gDefault))), .t (.leaf (.bool (c1_0.gHasAssoc))), .t (.leaf (.int .i64 (c1_0.gAssoc.gKind))), .t (.leaf (.string (c1_0.gAssoc.gName))), .t (.row 3 (GType.trs (c1_0.gAssoc.gArgs))), .t (.row 11 (GMethod.trs (c1_0.gMethods)))]⟩], []⟩) ⟨⟨rfl, by (repeat' (first | exact PV.Le.refl _ | exact LeL.nil | exact PV.Le.nil _ | exact PV.Le.acc _ _ _ | apply LeL.cons | apply PV.Le.agg | apply PV.Le.tup)), rfl⟩, trivial⟩ rfl) (keeps_all hC (boxes1 rfl) (Nat.le_of_ble_eq_true rfl)) (q := (.t (.leaf (.int .i64 ((-1)))) : PV)) (by (repeat' (first | exact PV.Le.refl _ | exact LeL.nil | exact PV.Le.nil _ | exact PV.Le.acc _ _ _ | apply LeL.cons | apply PV.Le.agg | apply PV.Le.tup))) rfl ⟨rfl, rfl⟩

noncomputable def gContainsFunc_Bound__iAssocTypeIsCovered_1_M (fu : Nat)  (ps : List GBound) (c1_0 : GInstance) : Option Bool :=
 bd (gIndexFunc_Bound__iAssocTypeIsCovered_1_M fu ps c1_0) (fun x8 =>
 some (decide ((x8 : Int) ≥ 0)))
set_option maxRecDepth 100000 in
set_option maxHeartbeats 4000000 in
theorem gContainsFunc_Bound__iAssocTypeIsCovered_1_ok  (fu : Nat)  (ps : List GBound) (c1_0 : GInstance) (r : Bool) (H : gContainsFunc_Bound__iAssocTypeIsCovered_1_M fu ps c1_0 = some r) : ACalls Try.prog 128 [.t (.row 4 (GBound.trs (ps))), .fn 129 [.ptr 0 0]] ⟨[some ⟨94, [.t (.leaf (.string (c1_0.gTrait))), .t (.row 1 (strTrs (c1_0.gVars))), .t (.leaf (.int .i64 (c1_0.gHead.gKind))), .t (.leaf (.string (c1_0.gHead.gName))), .t (.row 3 (GType.trs (c1_0.gHead.gArgs))), .t (.row 4 (GBound.trs (c1_0.gWhere))), .t (.leaf (.bool (c1_0.gDefault))), .t (.leaf (.bool (c1_0.gHasAssoc))), .t (.leaf (.int .i64 (c1_0.gAssoc.gKind))), .t (.leaf (.string (c1_0.gAssoc.gName))), .t (.row 3 (GType.trs (c1_0.gAssoc.gArgs))), .t (.row 11 (GMethod.trs (c1_0.gMethods)))]⟩], []⟩ (fun q t => q = (.t (.leaf (.bool (r))) : PV) ∧ t = ⟨[some ⟨94, [.t (.leaf (.string (c1_0.gTrait))), .t (.row 1 (strTrs (c1_0.gVars))), .t (.leaf (.int .i64 (c1_0.gHead.gKind))), .t (.leaf (.string (c1_0.gHead.gName))), .t (.row 3 (GType.trs (c1_0.gHead.gArgs))), .t (.row 4 (GBound.trs (c1_0.gWhere))), .t (.leaf (.bool (c1_0.gDefault))), .t (.leaf (.bool (c1_0.gHasAssoc))), .t (.leaf (.int .i64 (c1_0.gAssoc.gKind))), .t (.leaf (.string (c1_0.gAssoc.gName))), .t (.row 3 (GType.trs (c1_0.gAssoc.gArgs))), .t (.row 11 (GMethod.trs (c1_0.gMethods)))]⟩], []⟩) := by
  refine ACalls.intro Try.func128 rfl (by first | decide | (simp; done) | (simp; decide)) ?_
  intro C hC
  refine AWP.fact (lk_lenN 0 rfl rfl (GBound.trs_len _)) (fun hl1 => ?_)
  refine AWP.fact (box_lenN 0 1 rfl rfl rfl (strTrs_len _)) (fun hl2 => ?_)
  refine AWP.fact (box_lenN 0 4 rfl rfl rfl (GType.trs_len _)) (fun hl3 => ?_)
  refine AWP.fact (box_lenN 0 5 rfl rfl rfl (GBound.trs_len _)) (fun hl4 => ?_)
  refine AWP.fact (box_lenN 0 10 rfl rfl rfl (GType.trs_len _)) (fun hl5 => ?_)
  refine AWP.fact (box_lenN 0 11 rfl rfl rfl (GMethod.trs_len _)) (fun hl6 => ?_)
  refine AWP.seq ?_
  refine AWP.region_lit ?_
  refine AL.cons rfl (AOp.move (.inr rfl) rfl rfl) ?_
  refine AL.nil ?_
  refine AWP.seq ?_
  refine AWP.region_lit ?_
  refine AL.cons rfl (AOp.move (.inl rfl) rfl rfl) ?_
  refine AL.cons rfl (AOp.move (.inl rfl) rfl rfl) ?_
  rcases hq7 : gIndexFunc_Bound__iAssocTypeIsCovered_1_M fu ps c1_0 with _ | x8
  · skip
    have e9 : gContainsFunc_Bound__iAssocTypeIsCovered_1_M fu ps c1_0 = none := bdN hq7
    exact none_some H e9
  · skip
    refine AL.cons rfl (AOp.callPE (pre := ⟨[some ⟨94, [.t (.leaf (.string (c1_0.gTrait))), .t (.row 1 (strTrs (c1_0.gVars))), .t (.leaf (.int .i64 (c1_0.gHead.gKind))), .t (.leaf (.string (c1_0.gHead.gName))), .t (.row 3 (GType.trs (c1_0.gHead.gArgs))), .t (.row 4 (GBound.trs (c1_0.gWhere))), .t (.leaf (.bool (c1_0.gDefault))), .t (.leaf (.bool (c1_0.gHasAssoc))), .t (.leaf (.int .i64 (c1_0.gAssoc.gKind))), .t (.leaf (.string (c1_0.gAssoc.gName))), .t (.row 3 (GType.trs (c1_0.gAssoc.gArgs))), .t (.row 11 (GMethod.trs (c1_0.gMethods)))]⟩], []⟩) (st' := ⟨[some ⟨94, [.t (.leaf (.string (c1_0.gTrait))), .t (.row 1 (strTrs (c1_0.gVars))), .t (.leaf (.int .i64 (c1_0.gHead.gKind))), .t (.leaf (.string (c1_0.gHead.gName))), .t (.row 3 (GType.trs (c1_0.gHead.gArgs))), .t (.row 4 (GBound.trs (c1_0.gWhere))), .t (.leaf (.bool (c1_0.gDefault))), .t (.leaf (.bool (c1_0.gHasAssoc))), .t (.leaf (.int .i64 (c1_0.gAssoc.gKind))), .t (.leaf (.string (c1_0.gAssoc.gName))), .t (.row 3 (GType.trs (c1_0.gAssoc.gArgs))), .t (.row 11 (GMethod.trs (c1_0.gMethods)))]⟩], []⟩) (ps := [_, _]) (qs := [.t (.row 4 (GBound.trs (ps))), .fn 129 [.ptr 0 0]]) [0] [] rfl rfl Try.func135 (by kernel_rfl) rfl rfl rfl (Part0.of ⟨⟨_, rfl, rfl, by (repeat' (first | exact PV.Le.refl _ | exact LeL.nil | exact PV.Le.nil _ | exact PV.Le.acc _ _ _ | apply LeL.cons | apply PV.Le.agg | apply PV.Le.tup)), rfl⟩, trivial⟩ trivial (by decide) (by decide)) (by (repeat' (first | exact PV.Le.refl _ | exact LeL.nil | exact PV.Le.nil _ | exact PV.Le.acc _ _ _ | apply LeL.cons | apply PV.Le.agg | apply PV.Le.tup))) rfl rfl rfl (gIndexFunc_Bound__iAssocTypeIsCovered_1_ok fu ps c1_0 _ hq7)) ?_
    refine AL.cons rfl (AOp.geq rfl rfl rfl rfl) ?_
    refine AL.cons rfl (AOp.move (.inr rfl) rfl rfl) ?_
    refine AL.nil ?_
    refine AWP.ret ?_
    have e10 : gContainsFunc_Bound__iAssocTypeIsCovered_1_M fu ps c1_0 = some (decide ((x8 : Int) ≥ 0)) := bdS hq7 (rfl)
    have hz : (decide ((x8 : Int) ≥ 0)) = r := Option.some.inj (e10.symm.trans H)
    subst hz
    exact Ends.mk (ps := [_]) (by first | exact .inr rfl | exact .inl rfl) ⟨rfl, trivial⟩ rfl (StLe.mk' (st' := ⟨[some ⟨94, [.t (.leaf (.string (c1_0.gTrait))), .t (.row 1 (strTrs (c1_0.gVars))), .t (.leaf (.int .i64 (c1_0.gHead.gKind))), .t (.leaf (.string (c1_0.gHead.gName))), .t (.row 3 (GType.trs (c1_0.gHead.gArgs))), .t (.row 4 (GBound.trs (c1_0.gWhere))), .t (.leaf (.bool (c1_0.gDefault))), .t (.leaf (.bool (c1_0.gHasAssoc))), .t (.leaf (.int .i64 (c1_0.gAssoc.gKind))), .t (.leaf (.string (c1_0.gAssoc.gName))), .t (.row 3 (GType.trs (c1_0.gAssoc.gArgs))), .t (.row 11 (GMethod.trs (c1_0.gMethods)))]⟩], []⟩) ⟨⟨rfl, by (repeat' (first | exact PV.Le.refl _ | exact LeL.nil | exact PV.Le.nil _ | exact PV.Le.acc _ _ _ | apply LeL.cons | apply PV.Le.agg | apply PV.Le.tup)), rfl⟩, trivial⟩ rfl) (keeps_all hC (boxes1 rfl) (Nat.le_of_ble_eq_true rfl)) (q := (.t (.leaf (.bool ((decide ((x8 : Int) ≥ 0))))) : PV)) (by (repeat' (first | exact PV.Le.refl _ | exact LeL.nil | exact PV.Le.nil _ | exact PV.Le.acc _ _ _ | apply LeL.cons | apply PV.Le.agg | apply PV.Le.tup))) rfl ⟨rfl, rfl⟩

noncomputable def iAssocTypeIsCovered_M (fu : Nat)  (px : GInstance) : Option Bool :=
 gd (Tr.bulkL (GType.tr px.gAssoc) ≤ 68719476735)
 (gd ((GType.pre px.gAssoc).length ≤ 68719476736)
 (bd (gContainsFunc_Bound__iAssocTypeIsCovered_1_M fu (GType.projs px.gAssoc) px) (fun x4 =>
 some (!(x4)))))
set_option maxRecDepth 100000 in
set_option maxHeartbeats 4000000 in
theorem iAssocTypeIsCovered_ok  (fu : Nat)  (px : GInstance) (r : Bool) (H : iAssocTypeIsCovered_M fu px = some r) : AFun Try.prog 56 [(GInstance.pv px)] (.t (.leaf (.bool (r))) : PV) := by
  refine ACalls.intro Try.func56 rfl (by first | decide | (simp; done) | (simp; decide)) ?_
  intro C hC
  refine AWP.seq ?_
  refine AWP.region_lit ?_
  refine AL.cons rfl (AOp.box (cs := [.t (.leaf (.string (px.gTrait))), .t (.row 1 (strTrs (px.gVars))), .t (.leaf (.int .i64 (px.gHead.gKind))), .t (.leaf (.string (px.gHead.gName))), .t (.row 3 (GType.trs (px.gHead.gArgs))), .t (.row 4 (GBound.trs (px.gWhere))), .t (.leaf (.bool (px.gDefault))), .t (.leaf (.bool (px.gHasAssoc))), .t (.leaf (.int .i64 (px.gAssoc.gKind))), .t (.leaf (.string (px.gAssoc.gName))), .t (.row 3 (GType.trs (px.gAssoc.gArgs))), .t (.row 11 (GMethod.trs (px.gMethods)))]) rfl rfl rfl rfl rfl) ?_
  refine AL.cons rfl (AOp.move (.inr rfl) rfl rfl) ?_
  refine AL.nil ?_
  refine AWP.seq ?_
  refine AWP.region_lit ?_
  refine AL.cons rfl (AOp.fieldPtr (k := 0) (d := 0) (e := 8) rfl rfl rfl fo94_6) ?_
  refine AL.cons rfl (AOp.loadPtr (cs := [.t (.leaf (.int .i64 (px.gAssoc.gKind))), .t (.leaf (.string (px.gAssoc.gName))), .t (.row 3 (GType.trs (px.gAssoc.gArgs)))]) rfl rfl rfl rfl sh32 rfl rfl) ?_
  rcases Classical.em (Tr.bulkL (GType.tr px.gAssoc) ≤ 68719476735) with hg1 | hg1
  · skip
    rcases Classical.em ((GType.pre px.gAssoc).length ≤ 68719476736) with hg2 | hg2
    · skip
      refine AL.cons rfl (AOp.callF (res := .t (.row 4 (GBound.trs (GType.projs px.gAssoc)))) (ps := [_]) rfl rfl Try.func50 (by kernel_rfl) rfl rfl (by (repeat' (first | exact PV.Le.refl _ | exact LeL.nil | exact PV.Le.nil _ | exact PV.Le.acc _ _ _ | apply LeL.cons | apply PV.Le.agg | apply PV.Le.tup))) rfl rfl (iProjectionsIn_fn px.gAssoc hg1 hg2)) ?_
      refine AL.cons rfl (AOp.makeFunc (ps := [.ptr 0 0]) rfl rfl rfl) ?_
      rcases hq3 : gContainsFunc_Bound__iAssocTypeIsCovered_1_M fu (GType.projs px.gAssoc) px with _ | x4
      · skip
        have e5 : iAssocTypeIsCovered_M fu px = none := gdT hg1 (gdT hg2 (bdN hq3))
        exact none_some H e5
      · skip
        refine AL.cons rfl (AOp.callPE (pre := ⟨[some ⟨94, [.t (.leaf (.string (px.gTrait))), .t (.row 1 (strTrs (px.gVars))), .t (.leaf (.int .i64 (px.gHead.gKind))), .t (.leaf (.string (px.gHead.gName))), .t (.row 3 (GType.trs (px.gHead.gArgs))), .t (.row 4 (GBound.trs (px.gWhere))), .t (.leaf (.bool (px.gDefault))), .t (.leaf (.bool (px.gHasAssoc))), .t (.leaf (.int .i64 (px.gAssoc.gKind))), .t (.leaf (.string (px.gAssoc.gName))), .t (.row 3 (GType.trs (px.gAssoc.gArgs))), .t (.row 11 (GMethod.trs (px.gMethods)))]⟩], []⟩) (st' := ⟨[some ⟨94, [.t (.leaf (.string (px.gTrait))), .t (.row 1 (strTrs (px.gVars))), .t (.leaf (.int .i64 (px.gHead.gKind))), .t (.leaf (.string (px.gHead.gName))), .t (.row 3 (GType.trs (px.gHead.gArgs))), .t (.row 4 (GBound.trs (px.gWhere))), .t (.leaf (.bool (px.gDefault))), .t (.leaf (.bool (px.gHasAssoc))), .t (.leaf (.int .i64 (px.gAssoc.gKind))), .t (.leaf (.string (px.gAssoc.gName))), .t (.row 3 (GType.trs (px.gAssoc.gArgs))), .t (.row 11 (GMethod.trs (px.gMethods)))]⟩], []⟩) (ps := [_, _]) (qs := [.t (.row 4 (GBound.trs (GType.projs px.gAssoc))), .fn 129 [.ptr 0 0]]) [0] [] rfl rfl Try.func128 (by kernel_rfl) rfl rfl rfl (Part0.of ⟨⟨_, rfl, rfl, by (repeat' (first | exact PV.Le.refl _ | exact LeL.nil | exact PV.Le.nil _ | exact PV.Le.acc _ _ _ | apply LeL.cons | apply PV.Le.agg | apply PV.Le.tup)), rfl⟩, trivial⟩ trivial (by decide) (by decide)) (by (repeat' (first | exact PV.Le.refl _ | exact LeL.nil | exact PV.Le.nil _ | exact PV.Le.acc _ _ _ | apply LeL.cons | apply PV.Le.agg | apply PV.Le.tup))) rfl rfl rfl (gContainsFunc_Bound__iAssocTypeIsCovered_1_ok fu (GType.projs px.gAssoc) px _ hq3)) ?_
        refine AL.cons rfl (AOp.notB rfl rfl rfl) ?_
        refine AL.cons rfl (AOp.move (.inr rfl) rfl rfl) ?_
        refine AL.nil ?_
        refine AWP.ret ?_
        have e6 : iAssocTypeIsCovered_M fu px = some (!(x4)) := gdT hg1 (gdT hg2 (bdS hq3 (rfl)))
        have hz : (!(x4)) = r := Option.some.inj (e6.symm.trans H)
        subst hz
        exact Ends.mk (ps := [_]) (by first | exact .inr rfl | exact .inl rfl) ⟨rfl, trivial⟩ rfl (StLe.mk' (st' := ⟨[], []⟩) trivial rfl) (keeps_nil hC) (q := (.t (.leaf (.bool ((!(x4))))) : PV)) (by (repeat' (first | exact PV.Le.refl _ | exact LeL.nil | exact PV.Le.nil _ | exact PV.Le.acc _ _ _ | apply LeL.cons | apply PV.Le.agg | apply PV.Le.tup))) rfl ⟨rfl, rfl⟩
    · skip
      have e7 : iAssocTypeIsCovered_M fu px = none := gdT hg1 (gdF hg2)
      exact none_some H e7
  · skip
    have e8 : iAssocTypeIsCovered_M fu px = none := gdF hg1
    exact none_some H e8

noncomputable def sAssocTypeIsCovered_F2 (fu : Nat) (px : GInstance) (i3 : Nat) : Nat → Bool → Option (LR Bool (LR Unit Bool)) :=
 fun i7 v8 => sw (v8)
 (some (.next true))
 (some (.next (GBound.eq (atD px.gWhere i7) (atD (GType.projs px.gAssoc) i3))))
noncomputable def sAssocTypeIsCovered_R2 (fu : Nat) (px : GInstance) (i3 : Nat) : Option ((LR Unit Bool) ⊕ Bool) :=
 loopN (sAssocTypeIsCovered_F2 fu px i3) (px.gWhere.length - 0) 0 false
noncomputable def sAssocTypeIsCovered_F1 (fu : Nat) (px : GInstance) : Nat → Unit → Option (LR Unit Bool) :=
 fun i3 _ => so (sAssocTypeIsCovered_R2 fu px i3) (fun v8 =>
 sw (!(v8))
 (some (.ret false))
 (some (.next ())))
noncomputable def sAssocTypeIsCovered_R1 (fu : Nat) (px : GInstance) : Option (Bool ⊕ Unit) :=
 loopN (sAssocTypeIsCovered_F1 fu px) ((GType.projs px.gAssoc).length - 0) 0 ()
noncomputable def sAssocTypeIsCovered_M (fu : Nat)  (px : GInstance) : Option Bool :=
 gd (Tr.bulkL (GType.tr px.gAssoc) ≤ 68719476735)
 (gd ((GType.pre px.gAssoc).length ≤ 68719476736)
 (so (sAssocTypeIsCovered_R1 fu px) (fun _ =>
 some true)))
set_option maxRecDepth 100000 in
set_option maxHeartbeats 4000000 in
theorem sAssocTypeIsCovered_ok  (fu : Nat)  (px : GInstance) (r : Bool) (H : sAssocTypeIsCovered_M fu px = some r) : AFun Try.prog 57 [(GInstance.pv px)] (.t (.leaf (.bool (r))) : PV) := by
  refine ACalls.intro Try.func57 rfl (by first | decide | (simp; done) | (simp; decide)) ?_
  intro C hC
  refine AWP.seq ?_
  refine AWP.region_lit ?_
  refine AL.cons rfl (AOp.box (cs := [.t (.leaf (.string (px.gTrait))), .t (.row 1 (strTrs (px.gVars))), .t (.leaf (.int .i64 (px.gHead.gKind))), .t (.leaf (.string (px.gHead.gName))), .t (.row 3 (GType.trs (px.gHead.gArgs))), .t (.row 4 (GBound.trs (px.gWhere))), .t (.leaf (.bool (px.gDefault))), .t (.leaf (.bool (px.gHasAssoc))), .t (.leaf (.int .i64 (px.gAssoc.gKind))), .t (.leaf (.string (px.gAssoc.gName))), .t (.row 3 (GType.trs (px.gAssoc.gArgs))), .t (.row 11 (GMethod.trs (px.gMethods)))]) rfl rfl rfl rfl rfl) ?_
  refine AL.cons rfl (AOp.move (.inr rfl) rfl rfl) ?_
  refine AL.nil ?_
  refine AWP.seq ?_
  refine AWP.region_lit ?_
  refine AL.cons rfl (AOp.fieldPtr (k := 0) (d := 0) (e := 8) rfl rfl rfl fo94_6) ?_
  refine AL.cons rfl (AOp.loadPtr (cs := [.t (.leaf (.int .i64 (px.gAssoc.gKind))), .t (.leaf (.string (px.gAssoc.gName))), .t (.row 3 (GType.trs (px.gAssoc.gArgs)))]) rfl rfl rfl rfl sh32 rfl rfl) ?_
  rcases Classical.em (Tr.bulkL (GType.tr px.gAssoc) ≤ 68719476735) with hg1 | hg1
  · skip
    rcases Classical.em ((GType.pre px.gAssoc).length ≤ 68719476736) with hg2 | hg2
    · skip
      refine AL.cons rfl (AOp.callF (res := .t (.row 4 (GBound.trs (GType.projs px.gAssoc)))) (ps := [_]) rfl rfl Try.func49 (by kernel_rfl) rfl rfl (by (repeat' (first | exact PV.Le.refl _ | exact LeL.nil | exact PV.Le.nil _ | exact PV.Le.acc _ _ _ | apply LeL.cons | apply PV.Le.agg | apply PV.Le.tup))) rfl rfl (sProjectionsIn_fn px.gAssoc hg1 hg2)) ?_
      refine AL.cons rfl (AOp.move (.inr rfl) rfl rfl) ?_
      refine AL.nil ?_
      refine AWP.seq ?_
      refine AWP.seq ?_
      refine AWP.region_lit ?_
      refine AL.cons rfl (AOp.move (.inr rfl) rfl rfl) ?_
      refine AL.nil ?_
      refine AWP.fact (lk_lenN 3 rfl rfl (GBound.trs_len _)) (fun hl4 => ?_)
      refine AWP.cut (ι := Unit) (fun _ => sAssocTypeIsCovered_R1 fu px = some (.inr ())) (fun _ => ⟨[(2, .t (.leaf (.bool (false))))], ⟨[some ⟨94, [.t (.leaf (.string (px.gTrait))), .t (.row 1 (strTrs (px.gVars))), .t (.leaf (.int .i64 (px.gHead.gKind))), .t (.leaf (.string (px.gHead.gName))), .t (.row 3 (GType.trs (px.gHead.gArgs))), .t (.row 4 (GBound.trs (px.gWhere))), .t (.leaf (.bool (px.gDefault))), .t (.leaf (.bool (px.gHasAssoc))), .t (.leaf (.int .i64 (px.gAssoc.gKind))), .t (.leaf (.string (px.gAssoc.gName))), .t (.row 3 (GType.trs (px.gAssoc.gArgs))), .t (.row 11 (GMethod.trs (px.gMethods)))]⟩], []⟩⟩) (by repeat' (first | exact qcEnds | exact ncAWP | exact ncRound | exact ncEx | apply qcThen | apply qcBlock | apply qcCut)) ?_ ?_
      · skip
        refine AWP.block ?_
        refine AWP.loopR (ι := Nat × Unit) (fun (i3, _) => sAssocTypeIsCovered_R1 fu px = loopN (sAssocTypeIsCovered_F1 fu px) ((GType.projs px.gAssoc).length - i3) i3 ()) (fun (i3, _) => ⟨[(1, .ptr 0 0), (2, .t (.leaf (.bool (false)))), (3, .t (.row 4 (GBound.trs (GType.projs px.gAssoc)))), (4, .t (.leaf (.int .i64 (((i3 : Nat) : Int)))))], ⟨[some ⟨94, [.t (.leaf (.string (px.gTrait))), .t (.row 1 (strTrs (px.gVars))), .t (.leaf (.int .i64 (px.gHead.gKind))), .t (.leaf (.string (px.gHead.gName))), .t (.row 3 (GType.trs (px.gHead.gArgs))), .t (.row 4 (GBound.trs (px.gWhere))), .t (.leaf (.bool (px.gDefault))), .t (.leaf (.bool (px.gHasAssoc))), .t (.leaf (.int .i64 (px.gAssoc.gKind))), .t (.leaf (.string (px.gAssoc.gName))), .t (.row 3 (GType.trs (px.gAssoc.gArgs))), .t (.row 11 (GMethod.trs (px.gMethods)))]⟩], []⟩⟩) (fun (i3, _) => (GType.projs px.gAssoc).length - i3) (0, ()) ?_ ?_ ?_
        · exact rfl
        · skip
          exact Wk.mk (StLe.mk' ⟨⟨rfl, by (repeat' (first | exact PV.Le.refl _ | exact LeL.nil | exact PV.Le.nil _ | exact PV.Le.acc _ _ _ | apply LeL.cons | apply PV.Le.agg | apply PV.Le.tup)), rfl⟩, trivial⟩ rfl) (keeps_nil hC) ⟨⟨_, rfl, .refl _, rfl⟩, ⟨⟨_, rfl, .refl _, rfl⟩, ⟨⟨_, rfl, .refl _, rfl⟩, ⟨⟨_, rfl, by (repeat' (first | exact PV.Le.refl _ | exact LeL.nil | exact PV.Le.nil _ | exact PV.Le.acc _ _ _ | apply LeL.cons | apply PV.Le.agg | apply PV.Le.tup)), rfl⟩, trivial⟩⟩⟩⟩
        · rintro ⟨i3, ⟨⟩⟩ hJ5
          refine AWP.seq ?_
          refine AWP.seq ?_
          refine AWP.region_lit ?_
          refine AL.cons rfl (AOp.move (.inl rfl) rfl rfl) ?_
          refine AL.cons rfl (AOp.move (.inl rfl) rfl rfl) ?_
          refine AL.cons rfl (AOp.lenN rfl rfl rfl rfl el86 (GBound.trs_len _)) ?_
          refine AL.cons rfl (AOp.lss rfl rfl rfl rfl) ?_
          refine AL.nil ?_
          refine AWP.cond rfl (fun h6 => ?_) (fun h6 => ?_)
          · skip
            have h6l : i3 < (GType.projs px.gAssoc).length := nat_lt_of2 h6
            have h6n := nat_lt_of h6
            refine AWP.skip ?_
            refine AWP.seq ?_
            refine AWP.block ?_
            refine AWP.seq ?_
            refine AWP.region_lit ?_
            refine AL.cons rfl (AOp.move (.inr rfl) rfl rfl) ?_
            refine AL.nil ?_
            refine AWP.seq ?_
            refine AWP.seq ?_
            refine AWP.region_lit ?_
            refine AL.cons rfl (AOp.move (.inr rfl) rfl rfl) ?_
            refine AL.nil ?_
            refine AWP.cut (ι := Bool) (fun v8 => sAssocTypeIsCovered_R2 fu px i3 = some (.inr v8)) (fun v8 => ⟨[(1, .ptr 0 0), (2, .t (.leaf (.bool (false)))), (3, .t (.row 4 (GBound.trs (GType.projs px.gAssoc)))), (4, .t (.leaf (.int .i64 (((i3 : Nat) : Int))))), (5, .t (.leaf (.bool (v8)))), (10, .t (.leaf (.int .i64 (((i3 : Nat) : Int))))), (11, .t (.row 4 (GBound.trs (GType.projs px.gAssoc)))), (12, .t (.leaf (.int .i64 ((((GType.projs px.gAssoc).length : Nat) : Int))))), (13, .t (.leaf (.bool (decide ((((i3 : Nat) : Int) : Int) < (((GType.projs px.gAssoc).length : Nat) : Int))))))], ⟨[some ⟨94, [.t (.leaf (.string (px.gTrait))), .t (.row 1 (strTrs (px.gVars))), .t (.leaf (.int .i64 (px.gHead.gKind))), .t (.leaf (.string (px.gHead.gName))), .t (.row 3 (GType.trs (px.gHead.gArgs))), .t (.row 4 (GBound.trs (px.gWhere))), .t (.leaf (.bool (px.gDefault))), .t (.leaf (.bool (px.gHasAssoc))), .t (.leaf (.int .i64 (px.gAssoc.gKind))), .t (.leaf (.string (px.gAssoc.gName))), .t (.row 3 (GType.trs (px.gAssoc.gArgs))), .t (.row 11 (GMethod.trs (px.gMethods)))]⟩], []⟩⟩) (by repeat' (first | exact qcEnds | exact ncAWP | exact ncRound | exact ncEx | apply qcThen | apply qcBlock | apply qcCut)) ?_ ?_
            · skip
              refine AWP.block ?_
              refine AWP.loopR (ι := Nat × Bool) (fun (i7, v8) => sAssocTypeIsCovered_R2 fu px i3 = loopN (sAssocTypeIsCovered_F2 fu px i3) (px.gWhere.length - i7) i7 v8) (fun (i7, v8) => ⟨[(1, .ptr 0 0), (2, .t (.leaf (.bool (false)))), (3, .t (.row 4 (GBound.trs (GType.projs px.gAssoc)))), (4, .t (.leaf (.int .i64 (((i3 : Nat) : Int))))), (5, .t (.leaf (.bool (v8)))), (6, .t (.leaf (.int .i64 (((i7 : Nat) : Int))))), (10, .t (.leaf (.int .i64 (((i3 : Nat) : Int))))), (11, .t (.row 4 (GBound.trs (GType.projs px.gAssoc)))), (12, .t (.leaf (.int .i64 ((((GType.projs px.gAssoc).length : Nat) : Int))))), (13, .t (.leaf (.bool (decide ((((i3 : Nat) : Int) : Int) < (((GType.projs px.gAssoc).length : Nat) : Int))))))], ⟨[some ⟨94, [.t (.leaf (.string (px.gTrait))), .t (.row 1 (strTrs (px.gVars))), .t (.leaf (.int .i64 (px.gHead.gKind))), .t (.leaf (.string (px.gHead.gName))), .t (.row 3 (GType.trs (px.gHead.gArgs))), .t (.row 4 (GBound.trs (px.gWhere))), .t (.leaf (.bool (px.gDefault))), .t (.leaf (.bool (px.gHasAssoc))), .t (.leaf (.int .i64 (px.gAssoc.gKind))), .t (.leaf (.string (px.gAssoc.gName))), .t (.row 3 (GType.trs (px.gAssoc.gArgs))), .t (.row 11 (GMethod.trs (px.gMethods)))]⟩], []⟩⟩) (fun (i7, v8) => px.gWhere.length - i7) (0, false) ?_ ?_ ?_
              · exact rfl
              · skip
                exact Wk.mk (StLe.mk' ⟨⟨rfl, by (repeat' (first | exact PV.Le.refl _ | exact LeL.nil | exact PV.Le.nil _ | exact PV.Le.acc _ _ _ | apply LeL.cons | apply PV.Le.agg | apply PV.Le.tup)), rfl⟩, trivial⟩ rfl) (keeps_nil hC) ⟨⟨_, rfl, .refl _, rfl⟩, ⟨⟨_, rfl, .refl _, rfl⟩, ⟨⟨_, rfl, .refl _, rfl⟩, ⟨⟨_, rfl, .refl _, rfl⟩, ⟨⟨_, rfl, by (repeat' (first | exact PV.Le.refl _ | exact LeL.nil | exact PV.Le.nil _ | exact PV.Le.acc _ _ _ | apply LeL.cons | apply PV.Le.agg | apply PV.Le.tup)), rfl⟩, ⟨⟨_, rfl, by (repeat' (first | exact PV.Le.refl _ | exact LeL.nil | exact PV.Le.nil _ | exact PV.Le.acc _ _ _ | apply LeL.cons | apply PV.Le.agg | apply PV.Le.tup)), rfl⟩, ⟨⟨_, rfl, .refl _, rfl⟩, ⟨⟨_, rfl, .refl _, rfl⟩, ⟨⟨_, rfl, .refl _, rfl⟩, ⟨⟨_, rfl, .refl _, rfl⟩, trivial⟩⟩⟩⟩⟩⟩⟩⟩⟩⟩
              · rintro ⟨i7, v8⟩ hJ9
                refine AWP.seq ?_
                refine AWP.seq ?_
                refine AWP.region_lit ?_
                refine AL.cons rfl (AOp.move (.inl rfl) rfl rfl) ?_
                refine AL.cons rfl (AOp.fieldPtr (k := 0) (d := 0) (e := 5) rfl rfl rfl fo94_3) ?_
                refine AL.cons rfl (AOp.loadPtr1 rfl rfl rfl rfl sh86 rfl) ?_
                refine AL.fact (lk_lenN 18 rfl rfl (GBound.trs_len _)) (fun hl10 => ?_)
                refine AL.cons rfl (AOp.lenN rfl rfl rfl rfl el86 (GBound.trs_len _)) ?_
                refine AL.cons rfl (AOp.lss rfl rfl rfl rfl) ?_
                refine AL.nil ?_
                refine AWP.cond rfl (fun h11 => ?_) (fun h11 => ?_)
                · skip
                  have h11l : i7 < px.gWhere.length := nat_lt_of2 h11
                  have h11n := nat_lt_of h11
                  refine AWP.skip ?_
                  refine AWP.seq ?_
                  refine AWP.block ?_
                  rcases bool2 (v8) with g12 | g12
                  · skip
                    refine AWP.drawnL ⟨_, _, fun _ _ => (⟨[some ⟨94, [.t (.leaf (.string (px.gTrait))), .t (.row 1 (strTrs (px.gVars))), .t (.leaf (.int .i64 (px.gHead.gKind))), .t (.leaf (.string (px.gHead.gName))), .t (.row 3 (GType.trs (px.gHead.gArgs))), .t (.row 4 (GBound.trs (px.gWhere))), .t (.leaf (.bool (px.gDefault))), .t (.leaf (.bool (px.gHasAssoc))), .t (.leaf (.int .i64 (px.gAssoc.gKind))), .t (.leaf (.string (px.gAssoc.gName))), .t (.row 3 (GType.trs (px.gAssoc.gArgs))), .t (.row 11 (GMethod.trs (px.gMethods)))]⟩], []⟩ : Sto), fun q' => ([some (.t (.leaf (.bool (v8)))), some (.t (.leaf (.bool (v8)))), none, none, none, none, none, none, none, none, none, none, some (.t (.leaf (.bool (true)))), some (.t (.leaf (.bool (true))))] : List (Option PV)).getD q' none, fun q' => ([.q 0 0, .q 0 0, .q 0 0, .q 0 0, .q 0 0, .q 0 0, .q 0 0, .q 0 0, .q 0 0, .q 0 0, .q 0 0, .q 0 0, .q 0 0, .q 0 0] : List DK).getD q' (.q 0 0), [], none, fun q' => ([[(5, none)], [(23, some 0)], [], [], [], [], [], [], [], [], [], [], [(24, some 1)], [(35, some 12)]] : List (List (Nat × Option Nat))).getD q' []⟩ rfl mixed (by kernel_rfl) rfl rfl ⟨?_, ?_, ?_, ?_, ?_, ?_, ?_, ?_, ?_, ?_, ?_, ?_, ?_, ?_, trivial⟩ rfl ?_
                    · refine .inl ⟨rfl, fun s' jj bb (h1 : 0 ≤ jj) (h2 : jj ≤ 0) hs hl => ?_⟩
                      obtain rfl : jj = 0 := by omega
                      exact ⟨_, rfl, AOp.move (.inl rfl) rfl (hl 5 none _ (.head _) rfl)⟩
                    · refine .inl ⟨rfl, fun s' jj bb (h1 : 0 ≤ jj) (h2 : jj ≤ 0) hs hl => ?_⟩
                      obtain rfl : jj = 0 := by omega
                      exact ⟨_, rfl, AOp.move (.inl rfl) rfl (hl 23 (some 0) _ (.head _) rfl)⟩
                    · exact .inr ⟨(congrArg (fun b => some (b == false)) g12), rfl, ⟨_, _, rfl⟩, fun d hd => by cases hd; rfl⟩
                    · exact .inr ⟨(congrArg (fun b => some (b == false)) g12), rfl, ⟨_, _, rfl⟩, fun d hd => by cases hd; rfl⟩
                    · exact .inr ⟨(congrArg (fun b => some (b == false)) g12), rfl, ⟨_, _, rfl⟩, fun d hd => by cases hd; rfl⟩
                    · exact .inr ⟨(congrArg (fun b => some (b == false)) g12), rfl, ⟨_, _, rfl⟩, fun d hd => by cases hd; rfl⟩
                    · exact .inr ⟨(congrArg (fun b => some (b == false)) g12), rfl, ⟨_, _, rfl⟩, fun d hd => by cases hd; rfl⟩
                    · exact .inr ⟨(congrArg (fun b => some (b == false)) g12), rfl, ⟨_, _, rfl⟩, fun d hd => by cases hd; rfl⟩
                    · exact .inr ⟨(congrArg (fun b => some (b == false)) g12), rfl, ⟨_, _, rfl⟩, fun d hd => by cases hd; rfl⟩
                    · exact .inr ⟨(congrArg (fun b => some (b == false)) g12), rfl, ⟨_, _, rfl⟩, fun d hd => by cases hd; rfl⟩
                    · exact .inr ⟨(congrArg (fun b => some (b == false)) g12), rfl, ⟨_, _, rfl⟩, fun d hd => by cases hd; rfl⟩
                    · exact .inr ⟨(congrArg (fun b => some (b == false)) g12), rfl, ⟨_, _, rfl⟩, fun d hd => by cases hd; rfl⟩
                    · refine .inl ⟨rfl, fun s' jj bb (h1 : 0 ≤ jj) (h2 : jj ≤ 0) hs hl => ?_⟩
                      obtain rfl : jj = 0 := by omega
                      exact ⟨_, rfl, AOp.pickT rfl rfl (hl 24 (some 1) _ (.head _) rfl) g12 rfl⟩
                    · refine .inl ⟨rfl, fun s' jj bb (h1 : 0 ≤ jj) (h2 : jj ≤ 0) hs hl => ?_⟩
                      obtain rfl : jj = 0 := by omega
                      exact ⟨_, rfl, AOp.move (.inr rfl) rfl (hl 35 (some 12) _ (.head _) rfl)⟩
                    refine AWP.region_lit ?_
                    refine AL.cons rfl (AOp.move (.inl rfl) rfl rfl) ?_
                    refine AL.cons rfl (AOp.addI rfl rfl rfl rfl (c := ((i7 + 1 : Nat) : Int)) (by omega) (by omega)) ?_
                    refine AL.cons rfl (AOp.move (.inr rfl) rfl rfl) ?_
                    refine AL.nil ?_
                    have e13 : (sAssocTypeIsCovered_F2 fu px i3) i7 v8 = some (.next true) := swT g12 (rfl)
                    refine ⟨(i7 + 1, true), loopN_next h11l hJ9 e13, ?_, ?_⟩
                    · skip
                      exact Wk.mk (StLe.mk' ⟨⟨rfl, by (repeat' (first | exact PV.Le.refl _ | exact LeL.nil | exact PV.Le.nil _ | exact PV.Le.acc _ _ _ | apply LeL.cons | apply PV.Le.agg | apply PV.Le.tup)), rfl⟩, trivial⟩ rfl) (keeps_nil hC) ⟨⟨_, rfl, .refl _, rfl⟩, ⟨⟨_, rfl, .refl _, rfl⟩, ⟨⟨_, rfl, .refl _, rfl⟩, ⟨⟨_, rfl, .refl _, rfl⟩, ⟨⟨_, rfl, by (repeat' (first | exact PV.Le.refl _ | exact LeL.nil | exact PV.Le.nil _ | exact PV.Le.acc _ _ _ | apply LeL.cons | apply PV.Le.agg | apply PV.Le.tup)), rfl⟩, ⟨⟨_, rfl, by (repeat' (first | exact PV.Le.refl _ | exact LeL.nil | exact PV.Le.nil _ | exact PV.Le.acc _ _ _ | apply LeL.cons | apply PV.Le.agg | apply PV.Le.tup)), rfl⟩, ⟨⟨_, rfl, .refl _, rfl⟩, ⟨⟨_, rfl, .refl _, rfl⟩, ⟨⟨_, rfl, .refl _, rfl⟩, ⟨⟨_, rfl, .refl _, rfl⟩, trivial⟩⟩⟩⟩⟩⟩⟩⟩⟩⟩
                    · dsimp only; omega
                  · skip
                    refine AWP.drawnL ⟨_, _, fun _ _ => (⟨[some ⟨94, [.t (.leaf (.string (px.gTrait))), .t (.row 1 (strTrs (px.gVars))), .t (.leaf (.int .i64 (px.gHead.gKind))), .t (.leaf (.string (px.gHead.gName))), .t (.row 3 (GType.trs (px.gHead.gArgs))), .t (.row 4 (GBound.trs (px.gWhere))), .t (.leaf (.bool (px.gDefault))), .t (.leaf (.bool (px.gHasAssoc))), .t (.leaf (.int .i64 (px.gAssoc.gKind))), .t (.leaf (.string (px.gAssoc.gName))), .t (.row 3 (GType.trs (px.gAssoc.gArgs))), .t (.row 11 (GMethod.trs (px.gMethods)))]⟩], []⟩ : Sto), fun q' => ([some (.t (.leaf (.bool (v8)))), some (.t (.leaf (.bool (v8)))), some (.ptr 0 5), some (.t (.row 4 (GBound.trs (px.gWhere)))), some (.t (.leaf (.int .i64 (((i7 : Nat) : Int))))), some (.eptr (GBound.cs (atD px.gWhere i7))), some ((GBound.pv (atD px.gWhere i7))), some (.t (.row 4 (GBound.trs (GType.projs px.gAssoc)))), some (.t (.leaf (.int .i64 (((i3 : Nat) : Int))))), some (.eptr (GBound.cs (atD (GType.projs px.gAssoc) i3))), some ((GBound.pv (atD (GType.projs px.gAssoc) i3))), some (.t (.leaf (.bool (GBound.eq (atD px.gWhere i7) (atD (GType.projs px.gAssoc) i3))))), some (.t (.leaf (.bool (GBound.eq (atD px.gWhere i7) (atD (GType.projs px.gAssoc) i3))))), some (.t (.leaf (.bool (GBound.eq (atD px.gWhere i7) (atD (GType.projs px.gAssoc) i3)))))] : List (Option PV)).getD q' none, fun q' => ([.q 0 0, .q 0 0, .q 0 0, .q 0 0, .q 0 0, .q 0 0, .q 0 0, .q 0 0, .q 0 0, .q 0 0, .q 0 0, .q 0 0, .q 0 0, .q 0 0] : List DK).getD q' (.q 0 0), [], none, fun q' => ([[(5, none)], [(23, some 0)], [(1, none)], [(25, some 2)], [(6, none)], [(26, some 3), (27, some 4)], [(28, some 5)], [(3, none)], [(4, none)], [(30, some 7), (31, some 8)], [(32, some 9)], [(33, some 10), (29, some 6)], [(24, some 1), (34, some 11)], [(35, some 12)]] : List (List (Nat × Option Nat))).getD q' []⟩ rfl mixed (by kernel_rfl) rfl rfl ⟨?_, ?_, ?_, ?_, ?_, ?_, ?_, ?_, ?_, ?_, ?_, ?_, ?_, ?_, trivial⟩ rfl ?_
                    · refine .inl ⟨rfl, fun s' jj bb (h1 : 0 ≤ jj) (h2 : jj ≤ 0) hs hl => ?_⟩
                      obtain rfl : jj = 0 := by omega
                      exact ⟨_, rfl, AOp.move (.inl rfl) rfl (hl 5 none _ (.head _) rfl)⟩
                    · refine .inl ⟨rfl, fun s' jj bb (h1 : 0 ≤ jj) (h2 : jj ≤ 0) hs hl => ?_⟩
                      obtain rfl : jj = 0 := by omega
                      exact ⟨_, rfl, AOp.move (.inl rfl) rfl (hl 23 (some 0) _ (.head _) rfl)⟩
                    · refine .inl ⟨(congrArg (fun b => some (b == false)) g12), fun s' jj bb (h1 : 0 ≤ jj) (h2 : jj ≤ 0) hs hl => ?_⟩
                      obtain rfl : jj = 0 := by omega
                      exact ⟨_, rfl, AOp.fieldPtr (k := 0) (d := 0) (e := 5) rfl rfl (hl 1 none _ (.head _) rfl) fo94_3⟩
                    · refine .inl ⟨(congrArg (fun b => some (b == false)) g12), fun s' jj bb (h1 : 0 ≤ jj) (h2 : jj ≤ 0) hs hl => ?_⟩
                      obtain rfl : jj = 0 := by omega
                      exact ⟨_, rfl, AOp.loadPtr1 rfl rfl (hl 25 (some 2) _ (.head _) rfl) (by rw [hs]; rfl) sh86 rfl⟩
                    · refine .inl ⟨(congrArg (fun b => some (b == false)) g12), fun s' jj bb (h1 : 0 ≤ jj) (h2 : jj ≤ 0) hs hl => ?_⟩
                      obtain rfl : jj = 0 := by omega
                      exact ⟨_, rfl, AOp.move (.inl rfl) rfl (hl 6 none _ (.head _) rfl)⟩
                    · refine .inl ⟨(congrArg (fun b => some (b == false)) g12), fun s' jj bb (h1 : 0 ≤ jj) (h2 : jj ≤ 0) hs hl => ?_⟩
                      obtain rfl : jj = 0 := by omega
                      exact ⟨_, rfl, AOp.index (k := i7) rfl rfl (hl 26 (some 3) _ (.head _) rfl) rfl (hl 27 (some 4) _ (.tail _ (.head _)) rfl) (GBound.trs_at h11n) el86⟩
                    · refine .inl ⟨(congrArg (fun b => some (b == false)) g12), fun s' jj bb (h1 : 0 ≤ jj) (h2 : jj ≤ 0) hs hl => ?_⟩
                      obtain rfl : jj = 0 := by omega
                      exact ⟨_, rfl, AOp.loadEptr (ds := [.leaf (.string ((atD px.gWhere i7).gTrait)), .leaf (.int .i64 ((atD px.gWhere i7).gType.gKind)), .leaf (.string ((atD px.gWhere i7).gType.gName)), .row 3 (GType.trs ((atD px.gWhere i7).gType.gArgs))]) rfl rfl (hl 28 (some 5) _ (.head _) rfl) sh34 rfl rfl⟩
                    · refine .inl ⟨(congrArg (fun b => some (b == false)) g12), fun s' jj bb (h1 : 0 ≤ jj) (h2 : jj ≤ 0) hs hl => ?_⟩
                      obtain rfl : jj = 0 := by omega
                      exact ⟨_, rfl, AOp.move (.inl rfl) rfl (hl 3 none _ (.head _) rfl)⟩
                    · refine .inl ⟨(congrArg (fun b => some (b == false)) g12), fun s' jj bb (h1 : 0 ≤ jj) (h2 : jj ≤ 0) hs hl => ?_⟩
                      obtain rfl : jj = 0 := by omega
                      exact ⟨_, rfl, AOp.move (.inl rfl) rfl (hl 4 none _ (.head _) rfl)⟩
                    · refine .inl ⟨(congrArg (fun b => some (b == false)) g12), fun s' jj bb (h1 : 0 ≤ jj) (h2 : jj ≤ 0) hs hl => ?_⟩
                      obtain rfl : jj = 0 := by omega
                      exact ⟨_, rfl, AOp.index (k := i3) rfl rfl (hl 30 (some 7) _ (.head _) rfl) rfl (hl 31 (some 8) _ (.tail _ (.head _)) rfl) (GBound.trs_at h6n) el86⟩
                    · refine .inl ⟨(congrArg (fun b => some (b == false)) g12), fun s' jj bb (h1 : 0 ≤ jj) (h2 : jj ≤ 0) hs hl => ?_⟩
                      obtain rfl : jj = 0 := by omega
                      exact ⟨_, rfl, AOp.loadEptr (ds := [.leaf (.string ((atD (GType.projs px.gAssoc) i3).gTrait)), .leaf (.int .i64 ((atD (GType.projs px.gAssoc) i3).gType.gKind)), .leaf (.string ((atD (GType.projs px.gAssoc) i3).gType.gName)), .row 3 (GType.trs ((atD (GType.projs px.gAssoc) i3).gType.gArgs))]) rfl rfl (hl 32 (some 9) _ (.head _) rfl) sh34 rfl rfl⟩
                    · refine .inl ⟨(congrArg (fun b => some (b == false)) g12), fun s' jj bb (h1 : 0 ≤ jj) (h2 : jj ≤ 0) hs hl => ?_⟩
                      obtain rfl : jj = 0 := by omega
                      exact ⟨_, rfl, AOp.callF (res := .t (.leaf (.bool (GBound.eq (atD px.gWhere i7) (atD (GType.projs px.gAssoc) i3))))) (ps := [_, _]) rfl rfl Try.func110 (by kernel_rfl) rfl (evs_cons (hl 29 (some 6) _ (.tail _ (.head _)) rfl) (evs_cons (hl 33 (some 10) _ (.head _) rfl) rfl)) (by (repeat' (first | exact PV.Le.refl _ | exact LeL.nil | exact PV.Le.nil _ | exact PV.Le.acc _ _ _ | apply LeL.cons | apply PV.Le.agg | apply PV.Le.tup))) rfl rfl (sEqualGoal_fn (atD px.gWhere i7) (atD (GType.projs px.gAssoc) i3))⟩
                    · refine .inl ⟨rfl, fun s' jj bb (h1 : 0 ≤ jj) (h2 : jj ≤ 0) hs hl => ?_⟩
                      obtain rfl : jj = 0 := by omega
                      exact ⟨_, rfl, AOp.pickF rfl rfl (hl 24 (some 1) _ (.head _) rfl) g12 (hl 34 (some 11) _ (.tail _ (.head _)) rfl)⟩
                    · refine .inl ⟨rfl, fun s' jj bb (h1 : 0 ≤ jj) (h2 : jj ≤ 0) hs hl => ?_⟩
                      obtain rfl : jj = 0 := by omega
                      exact ⟨_, rfl, AOp.move (.inr rfl) rfl (hl 35 (some 12) _ (.head _) rfl)⟩
                    refine AWP.region_lit ?_
                    refine AL.cons rfl (AOp.move (.inl rfl) rfl rfl) ?_
                    refine AL.cons rfl (AOp.addI rfl rfl rfl rfl (c := ((i7 + 1 : Nat) : Int)) (by omega) (by omega)) ?_
                    refine AL.cons rfl (AOp.move (.inr rfl) rfl rfl) ?_
                    refine AL.nil ?_
                    have e14 : (sAssocTypeIsCovered_F2 fu px i3) i7 v8 = some (.next (GBound.eq (atD px.gWhere i7) (atD (GType.projs px.gAssoc) i3))) := swF g12 (rfl)
                    refine ⟨(i7 + 1, (GBound.eq (atD px.gWhere i7) (atD (GType.projs px.gAssoc) i3))), loopN_next h11l hJ9 e14, ?_, ?_⟩
                    · skip
                      exact Wk.mk (StLe.mk' ⟨⟨rfl, by (repeat' (first | exact PV.Le.refl _ | exact LeL.nil | exact PV.Le.nil _ | exact PV.Le.acc _ _ _ | apply LeL.cons | apply PV.Le.agg | apply PV.Le.tup)), rfl⟩, trivial⟩ rfl) (keeps_nil hC) ⟨⟨_, rfl, .refl _, rfl⟩, ⟨⟨_, rfl, .refl _, rfl⟩, ⟨⟨_, rfl, .refl _, rfl⟩, ⟨⟨_, rfl, .refl _, rfl⟩, ⟨⟨_, rfl, by (repeat' (first | exact PV.Le.refl _ | exact LeL.nil | exact PV.Le.nil _ | exact PV.Le.acc _ _ _ | apply LeL.cons | apply PV.Le.agg | apply PV.Le.tup)), rfl⟩, ⟨⟨_, rfl, by (repeat' (first | exact PV.Le.refl _ | exact LeL.nil | exact PV.Le.nil _ | exact PV.Le.acc _ _ _ | apply LeL.cons | apply PV.Le.agg | apply PV.Le.tup)), rfl⟩, ⟨⟨_, rfl, .refl _, rfl⟩, ⟨⟨_, rfl, .refl _, rfl⟩, ⟨⟨_, rfl, .refl _, rfl⟩, ⟨⟨_, rfl, .refl _, rfl⟩, trivial⟩⟩⟩⟩⟩⟩⟩⟩⟩⟩
                    · dsimp only; omega
                · skip
                  have h11l : px.gWhere.length ≤ i7 := nat_ge_of2 h11
                  refine AWP.exit ?_
                  refine ⟨v8, loopN_end h11l hJ9, ?_⟩
                  exact Wk.mk (StLe.mk' ⟨⟨rfl, by (repeat' (first | exact PV.Le.refl _ | exact LeL.nil | exact PV.Le.nil _ | exact PV.Le.acc _ _ _ | apply LeL.cons | apply PV.Le.agg | apply PV.Le.tup)), rfl⟩, trivial⟩ rfl) (keeps_nil hC) ⟨⟨_, rfl, .refl _, rfl⟩, ⟨⟨_, rfl, .refl _, rfl⟩, ⟨⟨_, rfl, .refl _, rfl⟩, ⟨⟨_, rfl, .refl _, rfl⟩, ⟨⟨_, rfl, .refl _, rfl⟩, ⟨⟨_, rfl, .refl _, rfl⟩, ⟨⟨_, rfl, .refl _, rfl⟩, ⟨⟨_, rfl, .refl _, rfl⟩, ⟨⟨_, rfl, .refl _, rfl⟩, trivial⟩⟩⟩⟩⟩⟩⟩⟩⟩
            · rintro v8 hR15
              refine AWP.seq ?_
              refine AWP.region_lit ?_
              refine AL.cons rfl (AOp.move (.inl rfl) rfl rfl) ?_
              refine AL.cons rfl (AOp.notB rfl rfl rfl) ?_
              refine AL.nil ?_
              refine AWP.cond rfl (fun h16 => ?_) (fun h16 => ?_)
              · skip
                refine AWP.seq ?_
                refine AWP.region_lit ?_
                refine AL.cons rfl (AOp.move (.inr rfl) rfl rfl) ?_
                refine AL.nil ?_
                refine AWP.ret ?_
                have e17 : (sAssocTypeIsCovered_F1 fu px) i3 () = some (.ret false) := soR hR15 (swT h16 (rfl))
                have e18 : sAssocTypeIsCovered_R1 fu px = some (.inl false) := loopN_ret h6l hJ5 e17
                have e19 : sAssocTypeIsCovered_M fu px = some false := gdT hg1 (gdT hg2 (soL e18))
                have hz : false = r := Option.some.inj (e19.symm.trans H)
                subst hz
                exact Ends.mk (ps := [_]) (by first | exact .inr rfl | exact .inl rfl) ⟨rfl, trivial⟩ rfl (StLe.mk' (st' := ⟨[], []⟩) trivial rfl) (keeps_nil hC) (q := (.t (.leaf (.bool (false))) : PV)) (by (repeat' (first | exact PV.Le.refl _ | exact LeL.nil | exact PV.Le.nil _ | exact PV.Le.acc _ _ _ | apply LeL.cons | apply PV.Le.agg | apply PV.Le.tup))) rfl ⟨rfl, rfl⟩
              · skip
                refine AWP.skip ?_
                refine AWP.region_lit ?_
                refine AL.cons rfl (AOp.move (.inl rfl) rfl rfl) ?_
                refine AL.cons rfl (AOp.addI rfl rfl rfl rfl (c := ((i3 + 1 : Nat) : Int)) (by omega) (by omega)) ?_
                refine AL.cons rfl (AOp.move (.inr rfl) rfl rfl) ?_
                refine AL.nil ?_
                have e20 : (sAssocTypeIsCovered_F1 fu px) i3 () = some (.next ()) := soR hR15 (swF h16 (rfl))
                refine ⟨(i3 + 1, ()), loopN_next h6l hJ5 e20, ?_, ?_⟩
                · skip
                  exact Wk.mk (StLe.mk' ⟨⟨rfl, by (repeat' (first | exact PV.Le.refl _ | exact LeL.nil | exact PV.Le.nil _ | exact PV.Le.acc _ _ _ | apply LeL.cons | apply PV.Le.agg | apply PV.Le.tup)), rfl⟩, trivial⟩ rfl) (keeps_nil hC) ⟨⟨_, rfl, .refl _, rfl⟩, ⟨⟨_, rfl, .refl _, rfl⟩, ⟨⟨_, rfl, .refl _, rfl⟩, ⟨⟨_, rfl, by (repeat' (first | exact PV.Le.refl _ | exact LeL.nil | exact PV.Le.nil _ | exact PV.Le.acc _ _ _ | apply LeL.cons | apply PV.Le.agg | apply PV.Le.tup)), rfl⟩, trivial⟩⟩⟩⟩
                · dsimp only; omega
          · skip
            have h6l : (GType.projs px.gAssoc).length ≤ i3 := nat_ge_of2 h6
            refine AWP.exit ?_
            refine ⟨(), loopN_end h6l hJ5, ?_⟩
            exact Wk.mk (StLe.mk' ⟨⟨rfl, by (repeat' (first | exact PV.Le.refl _ | exact LeL.nil | exact PV.Le.nil _ | exact PV.Le.acc _ _ _ | apply LeL.cons | apply PV.Le.agg | apply PV.Le.tup)), rfl⟩, trivial⟩ rfl) (keeps_nil hC) ⟨⟨_, rfl, .refl _, rfl⟩, trivial⟩
      · rintro ⟨⟩ hR21
        refine AWP.seq ?_
        refine AWP.region_lit ?_
        refine AL.cons rfl (AOp.move (.inr rfl) rfl rfl) ?_
        refine AL.nil ?_
        refine AWP.ret ?_
        have e22 : sAssocTypeIsCovered_M fu px = some true := gdT hg1 (gdT hg2 (soR hR21 (rfl)))
        have hz : true = r := Option.some.inj (e22.symm.trans H)
        subst hz
        exact Ends.mk (ps := [_]) (by first | exact .inr rfl | exact .inl rfl) ⟨rfl, trivial⟩ rfl (StLe.mk' (st' := ⟨[], []⟩) trivial rfl) (keeps_nil hC) (q := (.t (.leaf (.bool (true))) : PV)) (by (repeat' (first | exact PV.Le.refl _ | exact LeL.nil | exact PV.Le.nil _ | exact PV.Le.acc _ _ _ | apply LeL.cons | apply PV.Le.agg | apply PV.Le.tup))) rfl ⟨rfl, rfl⟩
    · skip
      have e23 : sAssocTypeIsCovered_M fu px = none := gdT hg1 (gdF hg2)
      exact none_some H e23
  · skip
    have e24 : sAssocTypeIsCovered_M fu px = none := gdF hg1
    exact none_some H e24

end Go.Proofs.Ytoifjkggpanceaa

namespace Go.Proofs.Ytoifjkggpanceaa
open Go.RowKit
theorem AFun.plainR {P : Program} {f : FuncId} {args : List PV} {t : Tr} (h : AFun P f args (.t t)) {w : World} {vals : List Value} (hv : RVL0 w args vals) : Calls P f ⟨vals⟩ w fun e w' => ∃ u, e = .returned u ∧ Ext w w' ∧ Rep w' t u :=
  (h av0 lay0 w vals (sto0 w) hv).mono fun e w' => by
    rintro ⟨res, st', m', v, rfl, ⟨rfl, rfl⟩, -, he, hr⟩
    exact ⟨v, rfl, he.ext, RepM.rep hr⟩
theorem AFun.plainA {P : Program} {f : FuncId} {args : List PV} {ts : List Tr} (h : AFun P f args (.agg (ts.map PV.t))) {w : World} {vals : List Value} (hv : RVL0 w args vals) : Calls P f ⟨vals⟩ w fun e w' => ∃ cs, e = .returned (.agg ⟨cs⟩) ∧ Ext w w' ∧ RepL w' ts cs :=
  (h av0 lay0 w vals (sto0 w) hv).mono fun e w' => by
    rintro ⟨res, st', m', v, rfl, ⟨rfl, rfl⟩, -, he, cs, rfl, hr⟩
    exact ⟨cs, rfl, he.ext, RVL.ofTr hr⟩
theorem RVL0.nil {w : World} : RVL0 w [] [] := trivial
theorem RVL0.cons {w : World} {p : PV} {ps : List PV} {v : Value} {vs : List Value} (h : RV0 w p v) (k : RVL0 w ps vs) : RVL0 w (p :: ps) (v :: vs) := ⟨h, k⟩
end Go.Proofs.Ytoifjkggpanceaa

namespace Go.Proofs.Ytoifjkggpanceaa
set_option linter.unusedSimpArgs false
set_option linter.unusedVariables false
open Go.RowKit Go.Proofs

def GInstance.covered (x : GInstance) : Bool := (GType.projs x.gAssoc).all fun g => x.gWhere.any fun b => GBound.eq b g
theorem iCovered_eq (fu : Nat) (x : GInstance) (hb : Tr.bulkL (GType.tr x.gAssoc) ≤ 68719476735) (hp : (GType.pre x.gAssoc).length ≤ 68719476736) : iAssocTypeIsCovered_M fu x = some x.covered := by
  have h1 : gIndexFunc_Bound__iAssocTypeIsCovered_1_M fu (GType.projs x.gAssoc) x = some (match (GType.projs x.gAssoc).findIdx? (fun g => !(x.gWhere.any fun b => GBound.eq b g)) with | some i => ((i : Nat) : Int) | none => -1) := by
    unfold gIndexFunc_Bound__iAssocTypeIsCovered_1_M gIndexFunc_Bound__iAssocTypeIsCovered_1_R1
    rw [loopN_index (l := GType.projs x.gAssoc) (p := fun g => !(x.gWhere.any fun b => GBound.eq b g)) fun i hi => by
      rw [gIndexFunc_Bound__iAssocTypeIsCovered_1_F1]
      simp only [iAssocTypeIsCovered_1_M, bd]
      cases (x.gWhere.any fun b => GBound.eq b (atD (GType.projs x.gAssoc) i)) <;> rfl]
    cases (GType.projs x.gAssoc).findIdx? fun g => !(x.gWhere.any fun b => GBound.eq b g) <;> rfl
  unfold iAssocTypeIsCovered_M gContainsFunc_Bound__iAssocTypeIsCovered_1_M
  rw [gdT hb rfl, gdT hp rfl, bdS (a := (GType.projs x.gAssoc).any fun g => !(x.gWhere.any fun b => GBound.eq b g)) (by rw [bdS h1 rfl]; exact congrArg some index_any) rfl]
  unfold GInstance.covered
  rw [← List.not_all_eq_any_not, Bool.not_not]
theorem sCovered_eq (fu : Nat) (x : GInstance) (hb : Tr.bulkL (GType.tr x.gAssoc) ≤ 68719476735) (hp : (GType.pre x.gAssoc).length ≤ 68719476736) : sAssocTypeIsCovered_M fu x = some x.covered := by
  unfold sAssocTypeIsCovered_M
  rw [gdT hb rfl, gdT hp rfl]
  have h2 : ∀ i, sAssocTypeIsCovered_R2 fu x i = some (.inr (x.gWhere.any fun b => GBound.eq b (atD (GType.projs x.gAssoc) i))) := fun i => by
    unfold sAssocTypeIsCovered_R2
    rw [loopN_fold0 (l := x.gWhere) (g := fun b y => if b then true else GBound.eq y (atD (GType.projs x.gAssoc) i)) (fun _ _ => True) (fun k s hk _ => ⟨?_, trivial⟩) trivial, orfold, Bool.false_or]
    rw [sAssocTypeIsCovered_F2]
    cases s <;> rfl
  have h1 : sAssocTypeIsCovered_R1 fu x = some (if x.covered then .inr () else .inl false) := by
    unfold sAssocTypeIsCovered_R1 GInstance.covered
    refine loopN_every (l := GType.projs x.gAssoc) (p := fun g => x.gWhere.any fun b => GBound.eq b g) (r := false) (s := ()) fun i hi => ?_
    rw [sAssocTypeIsCovered_F1, soR (h2 i) rfl]
    cases (x.gWhere.any fun b => GBound.eq b (atD (GType.projs x.gAssoc) i)) <;> rfl
  rw [h1]
  cases x.covered <;> rfl
theorem assoc_bulk (x : GInstance) : Tr.bulkL (GType.tr x.gAssoc) ≤ Tr.bulkL x.tr := by
  obtain ⟨v0, v1, v2, v3, v4, v5, v6, v7⟩ := x
  simp only [GInstance.gAssoc_mk, GInstance.tr, Tr.bulkL_append]
  omega
theorem covered_ok {x : GInstance} (h : Tr.bulkL x.tr ≤ 1048576) : Tr.bulkL (GType.tr x.gAssoc) ≤ 68719476735 ∧ (GType.pre x.gAssoc).length ≤ 68719476736 := by
  have h1 := assoc_bulk x
  have h2 := GType.size_bulk x.gAssoc
  rw [← GType.pre_length] at h2
  omega
theorem cover_impl (x : GInstance) (cs : List Value) (w : World) (hr : RepL w x.tr cs) (h : Tr.bulkL x.tr ≤ 1048576) : Calls Try.prog 56 #[.agg ⟨cs⟩] w fun e w' => e = .returned (.bool x.covered) ∧ Ext w w' :=
  (iAssocTypeIsCovered_ok 0 x _ (iCovered_eq 0 x (covered_ok h).1 (covered_ok h).2)).plain (.cons (by rw [GInstance.tr_cs] at hr; exact RV0.agg hr) .nil)
theorem cover_spec (x : GInstance) (cs : List Value) (w : World) (hr : RepL w x.tr cs) (h : Tr.bulkL x.tr ≤ 1048576) : Calls Try.prog 57 #[.agg ⟨cs⟩] w fun e w' => e = .returned (.bool x.covered) ∧ Ext w w' :=
  (sAssocTypeIsCovered_ok 0 x _ (sCovered_eq 0 x (covered_ok h).1 (covered_ok h).2)).plain (.cons (by rw [GInstance.tr_cs] at hr; exact RV0.agg hr) .nil)
end Go.Proofs.Ytoifjkggpanceaa
