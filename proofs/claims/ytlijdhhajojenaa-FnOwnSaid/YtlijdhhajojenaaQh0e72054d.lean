/- Words, rules and walks of several kinds, laid together: MaGoal, ProjP, PlGoal, MaCov, PlCov, MaHp, PlHp, MaOwn, PlOwn. No conditions but those that each theorem states. -/
import Derived.Test.YtlijdhhajojenaaQh1013957b
import Derived.Test.YtlijdhhajojenaaQhf3c58876
import Derived.Test.YtlijdhhajojenaaQh0ae74d06
import Derived.Test.YtlijdhhajojenaaQhba1d4768
import Derived.Test.YtlijdhhajojenaaQha7929fdf
set_option linter.unusedSimpArgs false
set_option linter.unusedVariables false
namespace Go.Proofs.Ytlijdhhajojenaa
open Go.RowKit Go.Proofs
set_option linter.unusedSimpArgs false
set_option linter.unusedVariables false

attribute [local irreducible] lt

theorem GBound.eq_def (a b : GBound) : GBound.eq a b = ((a.gTrait == b.gTrait) && GType.eq a.gType b.gType) := by cases a; cases b; rfl
noncomputable def sEqualGoal_M (fu : Nat)  (pa : GBound) (pb : GBound) : Option Bool :=
 sw (decide (pa.gTrait = pb.gTrait))
 (some (GType.eq pa.gType pb.gType))
 (some false)
set_option maxRecDepth 100000 in
set_option maxHeartbeats 4000000 in
theorem sEqualGoal_ok  (fu : Nat)  (pa : GBound) (pb : GBound) (r : Bool) (H : sEqualGoal_M fu pa pb = some r) : AFun Try.prog 41 [(GBound.pv pa), (GBound.pv pb)] (.t (.leaf (.bool (r))) : PV) := by
  refine ACalls.intro Try.func41 rfl (by first | decide | (simp; done) | (simp; decide)) ?_; intro C hC
  refine AWP.seq ?_; refine AWP.region_lit ?_; refine AL.cons rfl (AOp.box (cs := [.t (.leaf (.string (pa.gTrait))), .t (.leaf (.int .i64 (pa.gType.gKind))), .t (.leaf (.string (pa.gType.gName))), .t (.row 3 (GType.trs (pa.gType.gArgs)))]) rfl rfl rfl rfl rfl) ?_; refine AL.cons rfl (AOp.box (cs := [.t (.leaf (.string (pb.gTrait))), .t (.leaf (.int .i64 (pb.gType.gKind))), .t (.leaf (.string (pb.gType.gName))), .t (.row 3 (GType.trs (pb.gType.gArgs)))]) rfl rfl rfl rfl rfl) ?_; refine AL.cons rfl (AOp.move (.inr rfl) rfl rfl) ?_; refine AL.nil ?_; refine AWP.seq ?_; refine AWP.region_lit ?_; refine AL.cons rfl (AOp.fieldPtr (k := 0) (d := 0) (e := 0) rfl rfl rfl fo37_0) ?_; refine AL.cons rfl (AOp.loadPtr1 rfl rfl rfl rfl sh9 rfl) ?_; refine AL.cons rfl (AOp.fieldPtr (k := 1) (d := 0) (e := 0) rfl rfl rfl fo37_0) ?_; refine AL.cons rfl (AOp.loadPtr1 rfl rfl rfl rfl sh9 rfl) ?_; refine AL.cons rfl (AOp.eqlS rfl rfl rfl rfl) ?_; refine AL.cons rfl (AOp.move (.inl rfl) rfl rfl) ?_; refine AL.splitB 10 rfl (fun g1 => ?_) (fun g1 => ?_)
  · refine AL.cons_gv rfl rfl rfl g1 (AOp.fieldPtr (k := 0) (d := 0) (e := 1) rfl rfl rfl fo37_1) ?_; refine AL.cons_gv rfl rfl rfl g1 (AOp.loadPtr (cs := [.t (.leaf (.int .i64 (pa.gType.gKind))), .t (.leaf (.string (pa.gType.gName))), .t (.row 3 (GType.trs (pa.gType.gArgs)))]) rfl rfl rfl rfl sh27 rfl rfl) ?_; refine AL.cons_gv rfl rfl rfl g1 (AOp.fieldPtr (k := 1) (d := 0) (e := 1) rfl rfl rfl fo37_1) ?_; refine AL.cons_gv rfl rfl rfl g1 (AOp.loadPtr (cs := [.t (.leaf (.int .i64 (pb.gType.gKind))), .t (.leaf (.string (pb.gType.gName))), .t (.row 3 (GType.trs (pb.gType.gArgs)))]) rfl rfl rfl rfl sh27 rfl rfl) ?_; refine AL.cons_gv rfl rfl rfl g1 (AOp.callF (res := .t (.leaf (.bool (GType.eq pa.gType pb.gType)))) (ps := [_, _]) rfl rfl Try.func80 (by kernel_rfl) rfl rfl leA rfl rfl (sEqualType_fn pa.gType pb.gType)) ?_; refine AL.cons rfl (AOp.pickT rfl rfl rfl g1 rfl) ?_; refine AL.cons rfl (AOp.move (.inr rfl) rfl rfl) ?_; refine AL.nil ?_; refine AWP.ret ?_
    have e2 : sEqualGoal_M fu pa pb = some (GType.eq pa.gType pb.gType) := swT g1 (rfl)
    have hz : (GType.eq pa.gType pb.gType) = r := Option.some.inj (e2.symm.trans H)
    subst hz
    exact Ends.mk (ps := [_]) (by first | exact .inr rfl | exact .inl rfl) ⟨rfl, trivial⟩ rfl (StLe.mk' (st' := ⟨[], []⟩) trivial rfl) (keeps_nil hC) (q := (.t (.leaf (.bool ((GType.eq pa.gType pb.gType)))) : PV)) leA rfl ⟨rfl, rfl⟩
  · refine AL.skipP rfl rfl rfl g1 rfl rfl ?_; refine AL.skipP rfl rfl rfl g1 rfl rfl ?_; refine AL.skipP rfl rfl rfl g1 rfl rfl ?_; refine AL.skipP rfl rfl rfl g1 rfl rfl ?_; refine AL.skipP rfl rfl rfl g1 rfl rfl ?_; refine AL.cons rfl (AOp.pickF rfl rfl rfl g1 rfl) ?_; refine AL.cons rfl (AOp.move (.inr rfl) rfl rfl) ?_; refine AL.nil ?_; refine AWP.ret ?_
    have e3 : sEqualGoal_M fu pa pb = some false := swF g1 (rfl)
    have hz : false = r := Option.some.inj (e3.symm.trans H)
    subst hz
    exact Ends.mk (ps := [_]) (by first | exact .inr rfl | exact .inl rfl) ⟨rfl, trivial⟩ rfl (StLe.mk' (st' := ⟨[], []⟩) trivial rfl) (keeps_nil hC) (q := (.t (.leaf (.bool (false))) : PV)) leA rfl ⟨rfl, rfl⟩

theorem sEqualGoal_fn (a b : GBound) : AFun Try.prog 41 [(GBound.pv a), (GBound.pv b)] (.t (.leaf (.bool (GBound.eq a b)))) := sEqualGoal_ok 0 a b _ (by unfold sEqualGoal_M; rw [GBound.eq_def]; by_cases h : a.gTrait = b.gTrait <;> simp [sw, h, bytes_beq_self, bytes_beq_ne])
noncomputable def iEqualGoal_M (fu : Nat)  (pa : GBound) (pb : GBound) : Option Bool :=
 sw (decide (pa.gTrait = pb.gTrait))
 (some (GType.eq pa.gType pb.gType))
 (some false)
set_option maxRecDepth 100000 in
set_option maxHeartbeats 4000000 in
theorem iEqualGoal_ok  (fu : Nat)  (pa : GBound) (pb : GBound) (r : Bool) (H : iEqualGoal_M fu pa pb = some r) : AFun Try.prog 12 [(GBound.pv pa), (GBound.pv pb)] (.t (.leaf (.bool (r))) : PV) := by
  refine ACalls.intro Try.func12 rfl (by first | decide | (simp; done) | (simp; decide)) ?_; intro C hC
  refine AWP.seq ?_; refine AWP.region_lit ?_; refine AL.cons rfl (AOp.box (cs := [.t (.leaf (.string (pa.gTrait))), .t (.leaf (.int .i64 (pa.gType.gKind))), .t (.leaf (.string (pa.gType.gName))), .t (.row 3 (GType.trs (pa.gType.gArgs)))]) rfl rfl rfl rfl rfl) ?_; refine AL.cons rfl (AOp.box (cs := [.t (.leaf (.string (pb.gTrait))), .t (.leaf (.int .i64 (pb.gType.gKind))), .t (.leaf (.string (pb.gType.gName))), .t (.row 3 (GType.trs (pb.gType.gArgs)))]) rfl rfl rfl rfl rfl) ?_; refine AL.cons rfl (AOp.move (.inr rfl) rfl rfl) ?_; refine AL.nil ?_; refine AWP.seq ?_; refine AWP.region_lit ?_; refine AL.cons rfl (AOp.fieldPtr (k := 0) (d := 0) (e := 0) rfl rfl rfl fo37_0) ?_; refine AL.cons rfl (AOp.loadPtr1 rfl rfl rfl rfl sh9 rfl) ?_; refine AL.cons rfl (AOp.fieldPtr (k := 1) (d := 0) (e := 0) rfl rfl rfl fo37_0) ?_; refine AL.cons rfl (AOp.loadPtr1 rfl rfl rfl rfl sh9 rfl) ?_; refine AL.cons rfl (AOp.eqlS rfl rfl rfl rfl) ?_; refine AL.cons rfl (AOp.move (.inl rfl) rfl rfl) ?_; refine AL.splitB 10 rfl (fun g1 => ?_) (fun g1 => ?_)
  · refine AL.cons_gv rfl rfl rfl g1 (AOp.fieldPtr (k := 0) (d := 0) (e := 1) rfl rfl rfl fo37_1) ?_; refine AL.cons_gv rfl rfl rfl g1 (AOp.loadPtr (cs := [.t (.leaf (.int .i64 (pa.gType.gKind))), .t (.leaf (.string (pa.gType.gName))), .t (.row 3 (GType.trs (pa.gType.gArgs)))]) rfl rfl rfl rfl sh27 rfl rfl) ?_; refine AL.cons_gv rfl rfl rfl g1 (AOp.fieldPtr (k := 1) (d := 0) (e := 1) rfl rfl rfl fo37_1) ?_; refine AL.cons_gv rfl rfl rfl g1 (AOp.loadPtr (cs := [.t (.leaf (.int .i64 (pb.gType.gKind))), .t (.leaf (.string (pb.gType.gName))), .t (.row 3 (GType.trs (pb.gType.gArgs)))]) rfl rfl rfl rfl sh27 rfl rfl) ?_; refine AL.cons_gv rfl rfl rfl g1 (AOp.callF (res := .t (.leaf (.bool (GType.eq pa.gType pb.gType)))) (ps := [_, _]) rfl rfl Try.func45 (by kernel_rfl) rfl rfl leA rfl rfl (iEqualType_fn pa.gType pb.gType)) ?_; refine AL.cons rfl (AOp.pickT rfl rfl rfl g1 rfl) ?_; refine AL.cons rfl (AOp.move (.inr rfl) rfl rfl) ?_; refine AL.nil ?_; refine AWP.ret ?_
    have e2 : iEqualGoal_M fu pa pb = some (GType.eq pa.gType pb.gType) := swT g1 (rfl)
    have hz : (GType.eq pa.gType pb.gType) = r := Option.some.inj (e2.symm.trans H)
    subst hz
    exact Ends.mk (ps := [_]) (by first | exact .inr rfl | exact .inl rfl) ⟨rfl, trivial⟩ rfl (StLe.mk' (st' := ⟨[], []⟩) trivial rfl) (keeps_nil hC) (q := (.t (.leaf (.bool ((GType.eq pa.gType pb.gType)))) : PV)) leA rfl ⟨rfl, rfl⟩
  · refine AL.skipP rfl rfl rfl g1 rfl rfl ?_; refine AL.skipP rfl rfl rfl g1 rfl rfl ?_; refine AL.skipP rfl rfl rfl g1 rfl rfl ?_; refine AL.skipP rfl rfl rfl g1 rfl rfl ?_; refine AL.skipP rfl rfl rfl g1 rfl rfl ?_; refine AL.cons rfl (AOp.pickF rfl rfl rfl g1 rfl) ?_; refine AL.cons rfl (AOp.move (.inr rfl) rfl rfl) ?_; refine AL.nil ?_; refine AWP.ret ?_
    have e3 : iEqualGoal_M fu pa pb = some false := swF g1 (rfl)
    have hz : false = r := Option.some.inj (e3.symm.trans H)
    subst hz
    exact Ends.mk (ps := [_]) (by first | exact .inr rfl | exact .inl rfl) ⟨rfl, trivial⟩ rfl (StLe.mk' (st' := ⟨[], []⟩) trivial rfl) (keeps_nil hC) (q := (.t (.leaf (.bool (false))) : PV)) leA rfl ⟨rfl, rfl⟩

theorem iEqualGoal_fn (a b : GBound) : AFun Try.prog 12 [(GBound.pv a), (GBound.pv b)] (.t (.leaf (.bool (GBound.eq a b)))) := iEqualGoal_ok 0 a b _ (by unfold iEqualGoal_M; rw [GBound.eq_def]; by_cases h : a.gTrait = b.gTrait <;> simp [sw, h, bytes_beq_self, bytes_beq_ne])
noncomputable def sl23Projs_F2 (fu : Nat) (r_sl23Projs : GType → (List GBound) → Option ((List GBound))) (pt : GType) (pout : List GBound) : Nat → Bool → Option (LR Bool (((List GBound)) ⊕ ((List GBound)))) :=
 fun i9 v10 => sw (v10)
 (some (.next true))
 (some (.next (GBound.eq (atD pout i9) (GBound.mk pt.gName (atD pt.gArgs 0)))))
noncomputable def sl23Projs_R2 (fu : Nat) (r_sl23Projs : GType → (List GBound) → Option ((List GBound))) (pt : GType) (pout : List GBound) : Option ((((List GBound)) ⊕ ((List GBound))) ⊕ Bool) :=
 loopN (sl23Projs_F2 fu r_sl23Projs pt pout) (pout.length - 0) 0 false
noncomputable def sl23Projs_C1 (fu : Nat) (r_sl23Projs : GType → (List GBound) → Option ((List GBound))) (pt : GType) (pout : List GBound) : Option (((List GBound)) ⊕ ((List GBound))) :=
 sw (decide ((pt.gKind : Int) = 3))
 (sw (decide ((((pt.gArgs.length : Nat) : Int) : Int) > 0))
 (gd (0 < (pt.gArgs).length)
 (gd (Tr.bulkL (GType.tr (atD pt.gArgs 0)) ≤ 68719476735)
 (so (sl23Projs_R2 fu r_sl23Projs pt pout) (fun v10 =>
 sw (!(v10))
 (gd ((pout).length + (([(GBound.mk pt.gName (atD pt.gArgs 0))] : List GBound)).length ≤ 68719476736)
 (some (.inr (pout ++ ([(GBound.mk pt.gName (atD pt.gArgs 0))] : List GBound)))))
 (some (.inr pout))))))
 (some (.inr pout)))
 (some (.inr pout))
noncomputable def sl23Projs_F3 (fu : Nat) (r_sl23Projs : GType → (List GBound) → Option ((List GBound))) (pt : GType) (pout : List GBound) (v3 : List GBound) : Nat → ((List GBound)) → Option (LR ((List GBound)) ((List GBound))) :=
 fun i31 v33 => bd (r_sl23Projs (atD pt.gArgs i31) v33) (fun x39 =>
 some (.next x39))
noncomputable def sl23Projs_R3 (fu : Nat) (r_sl23Projs : GType → (List GBound) → Option ((List GBound))) (pt : GType) (pout : List GBound) (v3 : List GBound) : Option (((List GBound)) ⊕ ((List GBound))) :=
 loopN (sl23Projs_F3 fu r_sl23Projs pt pout v3) (pt.gArgs.length - 0) 0 v3
noncomputable def sl23Projs_G (fu : Nat) (r_sl23Projs : GType → (List GBound) → Option ((List GBound))) (pt : GType) (pout : List GBound) : Option ((List GBound)) :=
 so (sl23Projs_C1 fu r_sl23Projs pt pout) (fun v3 =>
 so (sl23Projs_R3 fu r_sl23Projs pt pout v3) (fun v33 =>
 some v33))
set_option maxRecDepth 100000 in
set_option maxHeartbeats 4000000 in
theorem sl23Projs_step (r_sl23Projs : GType → (List GBound) → Option ((List GBound))) (fu : Nat) (h_sl23Projs : ∀ (pt : GType) (pout : List GBound) (r : (List GBound)), r_sl23Projs pt pout = some r → ACalls Try.prog 79 [(GType.pv pt), .acc 4 (GBound.trs (pout)) 0] ⟨[], [⟨37, 4, GBound.trs (pout), false⟩]⟩ (fun q t => q = (.acc 4 (GBound.trs (r)) 0 : PV) ∧ t = ⟨[], [⟨37, 4, GBound.trs (r), false⟩]⟩)) (pt : GType) (pout : List GBound) (r : (List GBound)) (H : sl23Projs_G fu r_sl23Projs pt pout = some r) : ACalls Try.prog 79 [(GType.pv pt), .acc 4 (GBound.trs (pout)) 0] ⟨[], [⟨37, 4, GBound.trs (pout), false⟩]⟩ (fun q t => q = (.acc 4 (GBound.trs (r)) 0 : PV) ∧ t = ⟨[], [⟨37, 4, GBound.trs (r), false⟩]⟩) := by
  refine ACalls.intro Try.func79 rfl (by first | decide | (simp; done) | (simp; decide)) ?_; intro C hC
  refine AWP.fact (lk_lenN 1 rfl rfl (GBound.trs_len _)) (fun hl1 => ?_)
  refine AWP.seq ?_; refine AWP.region_lit ?_; refine AL.cons rfl (AOp.box (cs := [.t (.leaf (.int .i64 (pt.gKind))), .t (.leaf (.string (pt.gName))), .t (.row 3 (GType.trs (pt.gArgs)))]) rfl rfl rfl rfl rfl) ?_; refine AL.cons rfl (AOp.move (.inr rfl) rfl rfl) ?_; refine AL.nil ?_; refine AWP.seq ?_; refine AWP.cut (ι := (List GBound)) (fun v3 => sl23Projs_C1 fu r_sl23Projs pt pout = some (.inr v3)) (fun v3 => ⟨[(1, .acc 4 (GBound.trs (v3)) 0), (2, .ptr 0 0), (4, .nil)], ⟨[some ⟨27, [.t (.leaf (.int .i64 (pt.gKind))), .t (.leaf (.string (pt.gName))), .t (.row 3 (GType.trs (pt.gArgs)))]⟩], [⟨37, 4, GBound.trs (v3), false⟩]⟩⟩) (by repeat' (first | exact qcEnds | exact ncAWP | exact ncRound | exact ncEx | apply qcThen | apply qcBlock | apply qcCut)) ?_ ?_
  · refine AWP.seq ?_; refine AWP.region_lit ?_; refine AL.cons rfl (AOp.fieldPtr (k := 0) (d := 0) (e := 0) rfl rfl rfl fo27_0) ?_; refine AL.cons rfl (AOp.loadPtr1 rfl rfl rfl rfl sh3 rfl) ?_; refine AL.cons rfl (AOp.eqlI rfl rfl rfl rfl) ?_; refine AL.cons rfl (AOp.move (.inl rfl) rfl rfl) ?_; refine AL.splitB 12 rfl (fun g4 => ?_) (fun g4 => ?_)
    · refine AL.cons_gv rfl rfl rfl g4 (AOp.fieldPtr (k := 0) (d := 0) (e := 2) rfl rfl rfl fo27_2) ?_; refine AL.cons_gv rfl rfl rfl g4 (AOp.loadPtr1 rfl rfl rfl rfl sh25 rfl) ?_; refine AL.fact (lk_lenN 14 rfl rfl (GType.trs_len _)) (fun hl5 => ?_)
      refine AL.cons_gv rfl rfl rfl g4 (AOp.lenN rfl rfl rfl rfl el25 (GType.trs_len _)) ?_; refine AL.cons_gv rfl rfl rfl g4 (AOp.gtr rfl rfl rfl rfl) ?_; refine AL.cons rfl (AOp.pickT rfl rfl rfl g4 rfl) ?_; refine AL.nil ?_; refine AWP.cond rfl (fun h6 => ?_) (fun h6 => ?_)
      · refine AWP.seq ?_
        rcases Classical.em (0 < (pt.gArgs).length) with hg7 | hg7
        · rcases Classical.em (Tr.bulkL (GType.tr (atD pt.gArgs 0)) ≤ 68719476735) with hg8 | hg8
          · refine AWP.drawnL ⟨_, _, fun j' _ => ([(⟨[some ⟨27, [.t (.leaf (.int .i64 (pt.gKind))), .t (.leaf (.string (pt.gName))), .t (.row 3 (GType.trs (pt.gArgs)))]⟩], [⟨37, 4, GBound.trs (pout), false⟩]⟩ : Sto), (⟨[some ⟨27, [.t (.leaf (.int .i64 (pt.gKind))), .t (.leaf (.string (pt.gName))), .t (.row 3 (GType.trs (pt.gArgs)))]⟩, some ⟨37, [.t (.leaf (.string (⟨#[]⟩))), .t (.leaf (.int .i64 (0))), .t (.leaf (.string (⟨#[]⟩))), .nil]⟩], [⟨37, 4, GBound.trs (pout), false⟩]⟩ : Sto), (⟨[some ⟨27, [.t (.leaf (.int .i64 (pt.gKind))), .t (.leaf (.string (pt.gName))), .t (.row 3 (GType.trs (pt.gArgs)))]⟩, some ⟨37, [.t (.leaf (.string (pt.gName))), .t (.leaf (.int .i64 ((atD pt.gArgs 0).gKind))), .t (.leaf (.string ((atD pt.gArgs 0).gName))), .t (.row 3 (GType.trs ((atD pt.gArgs 0).gArgs)))]⟩], [⟨37, 4, GBound.trs (pout), false⟩]⟩ : Sto)] : List Sto).getD j' (⟨[some ⟨27, [.t (.leaf (.int .i64 (pt.gKind))), .t (.leaf (.string (pt.gName))), .t (.row 3 (GType.trs (pt.gArgs)))]⟩, some ⟨37, [.t (.leaf (.string (pt.gName))), .t (.leaf (.int .i64 ((atD pt.gArgs 0).gKind))), .t (.leaf (.string ((atD pt.gArgs 0).gName))), .t (.row 3 (GType.trs ((atD pt.gArgs 0).gArgs)))]⟩], [⟨37, 4, GBound.trs (pout), false⟩]⟩ : Sto), fun q' => ([some (.ptr 0 1), some (.t (.leaf (.string (pt.gName)))), some (.ptr 0 2), some (.t (.row 3 (GType.trs (pt.gArgs)))), some (.eptr (GType.cs (atD pt.gArgs 0))), some ((GType.pv (atD pt.gArgs 0))), some ((GType.pv (atD pt.gArgs 0))), some (.agg [.t (.leaf (.string (pt.gName))), .t (.leaf (.int .i64 ((atD pt.gArgs 0).gKind))), .t (.leaf (.string ((atD pt.gArgs 0).gName))), .t (.row 3 (GType.trs ((atD pt.gArgs 0).gArgs)))]), some (.ptr 1 0), none] : List (Option PV)).getD q' none, fun q' => ([.q 0 1, .q 0 1, .q 0 1, .q 0 1, .q 0 1, .q 0 1, .q 0 1, .q 0 1, .ef 0, .ef 1] : List DK).getD q' (.q 0 0), [8, 9], none, fun q' => ([[(2, none)], [(18, some 0)], [(2, none)], [(20, some 2)], [(21, some 3)], [(22, some 4)], [(23, some 5)], [(24, some 6), (19, some 1)], [], [(5, some 8), (25, some 7)]] : List (List (Nat × Option Nat))).getD q' []⟩ rfl mixed (by kernel_rfl) rfl rfl ⟨?_, ?_, ?_, ?_, ?_, ?_, ?_, ?_, ?_, ?_, trivial⟩ rfl ?_
            · refine .inl ⟨rfl, fun s' jj bb (h1 : 0 ≤ jj) (h2 : jj ≤ 1) hs hl => ?_⟩
              rcases (by omega : jj = 0 ∨ jj = 1) with rfl | rfl <;> exact ⟨_, rfl, AOp.fieldPtr (k := 0) (d := 0) (e := 1) rfl rfl (hl 2 none _ (.head _) rfl) fo27_1⟩
            · refine .inl ⟨rfl, fun s' jj bb (h1 : 0 ≤ jj) (h2 : jj ≤ 1) hs hl => ?_⟩
              rcases (by omega : jj = 0 ∨ jj = 1) with rfl | rfl <;> exact ⟨_, rfl, AOp.loadPtr1 rfl rfl (hl 18 (some 0) _ (.head _) rfl) (by rw [hs]; rfl) sh9 rfl⟩
            · refine .inl ⟨rfl, fun s' jj bb (h1 : 0 ≤ jj) (h2 : jj ≤ 1) hs hl => ?_⟩
              rcases (by omega : jj = 0 ∨ jj = 1) with rfl | rfl <;> exact ⟨_, rfl, AOp.fieldPtr (k := 0) (d := 0) (e := 2) rfl rfl (hl 2 none _ (.head _) rfl) fo27_2⟩
            · refine .inl ⟨rfl, fun s' jj bb (h1 : 0 ≤ jj) (h2 : jj ≤ 1) hs hl => ?_⟩
              rcases (by omega : jj = 0 ∨ jj = 1) with rfl | rfl <;> exact ⟨_, rfl, AOp.loadPtr1 rfl rfl (hl 20 (some 2) _ (.head _) rfl) (by rw [hs]; rfl) sh25 rfl⟩
            · refine .inl ⟨rfl, fun s' jj bb (h1 : 0 ≤ jj) (h2 : jj ≤ 1) hs hl => ?_⟩
              rcases (by omega : jj = 0 ∨ jj = 1) with rfl | rfl <;> exact ⟨_, rfl, AOp.index (k := 0) rfl rfl (hl 21 (some 3) _ (.head _) rfl) rfl rfl (GType.trs_at hg7) el25⟩
            · refine .inl ⟨rfl, fun s' jj bb (h1 : 0 ≤ jj) (h2 : jj ≤ 1) hs hl => ?_⟩
              rcases (by omega : jj = 0 ∨ jj = 1) with rfl | rfl <;> exact ⟨_, rfl, AOp.loadEptr (ds := [.leaf (.int .i64 ((atD pt.gArgs 0).gKind)), .leaf (.string ((atD pt.gArgs 0).gName)), .row 3 (GType.trs ((atD pt.gArgs 0).gArgs))]) rfl rfl (hl 22 (some 4) _ (.head _) rfl) sh27 rfl rfl⟩
            · refine .inl ⟨rfl, fun s' jj bb (h1 : 0 ≤ jj) (h2 : jj ≤ 1) hs hl => ?_⟩
              rcases (by omega : jj = 0 ∨ jj = 1) with rfl | rfl <;> exact ⟨_, rfl, AOp.callF (res := (GType.pv (atD pt.gArgs 0))) (ps := [_]) rfl rfl Try.func76 (by kernel_rfl) rfl (evs_cons (hl 23 (some 5) _ (.head _) rfl) rfl) leA rfl rfl (sl4Copy_fn (atD pt.gArgs 0) hg8)⟩
            · refine .inl ⟨rfl, fun s' jj bb (h1 : 0 ≤ jj) (h2 : jj ≤ 1) hs hl => ?_⟩
              rcases (by omega : jj = 0 ∨ jj = 1) with rfl | rfl <;> exact ⟨_, rfl, AOp.build rfl rfl zr37 pl37 (parts_cons (hl 19 (some 1) _ (.tail _ (.head _)) rfl) rfl rfl (parts_cons (hl 24 (some 6) _ (.head _) rfl) rfl rfl rfl)) rfl⟩
            · refine .inl ⟨rfl, fun s' bb hs hl => ?_⟩
              refine .inl ⟨_, rfl, AOp.congr (AOp.alloc rfl rfl zr37) ?_⟩
              first | (rw [hs]; rfl) | rfl
            · refine .inl ⟨rfl, fun s' bb hs hl => ?_⟩
              refine .inr ⟨rfl, AOp.congr (AOp.storePtr (cs := [.t (.leaf (.string (pt.gName))), .t (.leaf (.int .i64 ((atD pt.gArgs 0).gKind))), .t (.leaf (.string ((atD pt.gArgs 0).gName))), .t (.row 3 (GType.trs ((atD pt.gArgs 0).gArgs)))]) (ds := [.t (.leaf (.string (pt.gName))), .t (.leaf (.int .i64 ((atD pt.gArgs 0).gKind))), .t (.leaf (.string ((atD pt.gArgs 0).gName))), .t (.row 3 (GType.trs ((atD pt.gArgs 0).gArgs)))]) rfl (hl 5 (some 8) _ (.head _) rfl) (by rw [hs]; rfl) (hl 25 (some 7) _ (.tail _ (.head _)) rfl) rfl rfl rfl sz37 (Nat.le_of_ble_eq_true rfl) rfl) ?_⟩
              first | (rw [hs]; rfl) | rfl
            refine AWP.seq ?_; refine AWP.region_lit ?_; refine AL.cons rfl (AOp.move (.inr rfl) rfl rfl) ?_; refine AL.nil ?_; refine AWP.seq ?_; refine AWP.seq ?_; refine AWP.region_lit ?_; refine AL.cons rfl (AOp.move (.inr rfl) rfl rfl) ?_; refine AL.nil ?_; refine AWP.cut (ι := Bool) (fun v10 => sl23Projs_R2 fu r_sl23Projs pt pout = some (.inr v10)) (fun v10 => ⟨[(1, .acc 4 (GBound.trs (pout)) 0), (2, .ptr 0 0), (4, .nil), (5, .ptr 1 0), (6, .t (.leaf (.bool (v10))))], ⟨[some ⟨27, [.t (.leaf (.int .i64 (pt.gKind))), .t (.leaf (.string (pt.gName))), .t (.row 3 (GType.trs (pt.gArgs)))]⟩, some ⟨37, [.t (.leaf (.string (pt.gName))), .t (.leaf (.int .i64 ((atD pt.gArgs 0).gKind))), .t (.leaf (.string ((atD pt.gArgs 0).gName))), .t (.row 3 (GType.trs ((atD pt.gArgs 0).gArgs)))]⟩], [⟨37, 4, GBound.trs (pout), false⟩]⟩⟩) (by repeat' (first | exact qcEnds | exact ncAWP | exact ncRound | exact ncEx | apply qcThen | apply qcBlock | apply qcCut)) ?_ ?_
            · refine AWP.block ?_; refine AWP.loopR (ι := Nat × Bool) (fun (i9, v10) => sl23Projs_R2 fu r_sl23Projs pt pout = loopN (sl23Projs_F2 fu r_sl23Projs pt pout) (pout.length - i9) i9 v10) (fun (i9, v10) => ⟨[(1, .acc 4 (GBound.trs (pout)) 0), (2, .ptr 0 0), (4, .nil), (5, .ptr 1 0), (6, .t (.leaf (.bool (v10)))), (7, .t (.leaf (.int .i64 (((i9 : Nat) : Int)))))], ⟨[some ⟨27, [.t (.leaf (.int .i64 (pt.gKind))), .t (.leaf (.string (pt.gName))), .t (.row 3 (GType.trs (pt.gArgs)))]⟩, some ⟨37, [.t (.leaf (.string (pt.gName))), .t (.leaf (.int .i64 ((atD pt.gArgs 0).gKind))), .t (.leaf (.string ((atD pt.gArgs 0).gName))), .t (.row 3 (GType.trs ((atD pt.gArgs 0).gArgs)))]⟩], [⟨37, 4, GBound.trs (pout), false⟩]⟩⟩) (fun (i9, v10) => pout.length - i9) (0, false) ?_ ?_ ?_
              · exact rfl
              · exact Wk.mk (StLe.mk' ⟨⟨rfl, leA, rfl⟩, ⟨⟨rfl, leA, rfl⟩, trivial⟩⟩ (by first | rfl | simp)) (keeps_all hC (boxes0) (Nat.le_of_ble_eq_true rfl)) ⟨⟨_, rfl, .refl _, rfl⟩, ⟨⟨_, rfl, .refl _, rfl⟩, ⟨⟨_, rfl, .refl _, rfl⟩, ⟨⟨_, rfl, .refl _, rfl⟩, ⟨⟨_, rfl, leA, rfl⟩, ⟨⟨_, rfl, leA, rfl⟩, trivial⟩⟩⟩⟩⟩⟩
              · rintro ⟨i9, v10⟩ hJ11
                refine AWP.seq ?_; refine AWP.seq ?_; refine AWP.region_lit ?_; refine AL.cons rfl (AOp.move (.inl rfl) rfl rfl) ?_; refine AL.cons rfl (AOp.move (.inl rfl) rfl rfl) ?_; refine AL.cons rfl (AOp.lenN rfl rfl rfl rfl el28 (GBound.trs_len _)) ?_; refine AL.cons rfl (AOp.lss rfl rfl rfl rfl) ?_; refine AL.nil ?_; refine AWP.cond rfl (fun h12 => ?_) (fun h12 => ?_)
                · have h12l : i9 < pout.length := nat_lt_of2 h12
                  have h12n := nat_lt_of h12
                  refine AWP.skip ?_; refine AWP.seq ?_; refine AWP.block ?_
                  rcases bool2 (v10) with g13 | g13
                  · refine AWP.drawnL ⟨_, _, fun _ _ => (⟨[some ⟨27, [.t (.leaf (.int .i64 (pt.gKind))), .t (.leaf (.string (pt.gName))), .t (.row 3 (GType.trs (pt.gArgs)))]⟩, some ⟨37, [.t (.leaf (.string (pt.gName))), .t (.leaf (.int .i64 ((atD pt.gArgs 0).gKind))), .t (.leaf (.string ((atD pt.gArgs 0).gName))), .t (.row 3 (GType.trs ((atD pt.gArgs 0).gArgs)))]⟩], [⟨37, 4, GBound.trs (pout), false⟩]⟩ : Sto), fun q' => ([some (.t (.leaf (.bool (v10)))), some (.t (.leaf (.bool (v10)))), none, none, none, none, none, none, some (.t (.leaf (.bool (true)))), some (.t (.leaf (.bool (true))))] : List (Option PV)).getD q' none, fun q' => ([.q 0 0, .q 0 0, .q 0 0, .q 0 0, .q 0 0, .q 0 0, .q 0 0, .q 0 0, .q 0 0, .q 0 0] : List DK).getD q' (.q 0 0), [], none, fun q' => ([[(6, none)], [(32, some 0)], [], [], [], [], [], [], [(33, some 1)], [(40, some 8)]] : List (List (Nat × Option Nat))).getD q' []⟩ rfl mixed (by kernel_rfl) rfl rfl ⟨?_, ?_, ?_, ?_, ?_, ?_, ?_, ?_, ?_, ?_, trivial⟩ rfl ?_
                    · exact Draw.step.q1 0 rfl rfl fun s' bb hs hl => ⟨_, rfl, AOp.move (.inl rfl) rfl (hl 6 none _ (.head _) rfl)⟩
                    · exact Draw.step.q1 0 rfl rfl fun s' bb hs hl => ⟨_, rfl, AOp.move (.inl rfl) rfl (hl 32 (some 0) _ (.head _) rfl)⟩
                    · exact .inr ⟨(congrArg (fun b => some (b == false)) g13), rfl, ⟨_, _, rfl⟩, fun d hd => by cases hd; rfl⟩
                    · exact .inr ⟨(congrArg (fun b => some (b == false)) g13), rfl, ⟨_, _, rfl⟩, fun d hd => by cases hd; rfl⟩
                    · exact .inr ⟨(congrArg (fun b => some (b == false)) g13), rfl, ⟨_, _, rfl⟩, fun d hd => by cases hd; rfl⟩
                    · exact .inr ⟨(congrArg (fun b => some (b == false)) g13), rfl, ⟨_, _, rfl⟩, fun d hd => by cases hd; rfl⟩
                    · exact .inr ⟨(congrArg (fun b => some (b == false)) g13), rfl, ⟨_, _, rfl⟩, fun d hd => by cases hd; rfl⟩
                    · exact .inr ⟨(congrArg (fun b => some (b == false)) g13), rfl, ⟨_, _, rfl⟩, fun d hd => by cases hd; rfl⟩
                    · exact Draw.step.q1 0 rfl rfl fun s' bb hs hl => ⟨_, rfl, AOp.pickT rfl rfl (hl 33 (some 1) _ (.head _) rfl) g13 rfl⟩
                    · exact Draw.step.q1 0 rfl rfl fun s' bb hs hl => ⟨_, rfl, AOp.move (.inr rfl) rfl (hl 40 (some 8) _ (.head _) rfl)⟩
                    refine AWP.region_lit ?_; refine AL.cons rfl (AOp.move (.inl rfl) rfl rfl) ?_; refine AL.cons rfl (AOp.addI rfl rfl rfl rfl (c := ((i9 + 1 : Nat) : Int)) (by omega) (by omega)) ?_; refine AL.cons rfl (AOp.move (.inr rfl) rfl rfl) ?_; refine AL.nil ?_
                    have e14 : (sl23Projs_F2 fu r_sl23Projs pt pout) i9 v10 = some (.next true) := swT g13 (rfl)
                    refine ⟨(i9 + 1, true), loopN_next h12l hJ11 e14, ?_, ?_⟩
                    · exact Wk.mk (StLe.mk' ⟨⟨rfl, leA, rfl⟩, ⟨⟨rfl, leA, rfl⟩, trivial⟩⟩ (by first | rfl | simp)) (keeps_all hC (boxes0) (Nat.le_of_ble_eq_true rfl)) ⟨⟨_, rfl, .refl _, rfl⟩, ⟨⟨_, rfl, .refl _, rfl⟩, ⟨⟨_, rfl, .refl _, rfl⟩, ⟨⟨_, rfl, .refl _, rfl⟩, ⟨⟨_, rfl, leA, rfl⟩, ⟨⟨_, rfl, leA, rfl⟩, trivial⟩⟩⟩⟩⟩⟩
                    · dsimp only; omega
                  · refine AWP.drawnL ⟨_, _, fun _ _ => (⟨[some ⟨27, [.t (.leaf (.int .i64 (pt.gKind))), .t (.leaf (.string (pt.gName))), .t (.row 3 (GType.trs (pt.gArgs)))]⟩, some ⟨37, [.t (.leaf (.string (pt.gName))), .t (.leaf (.int .i64 ((atD pt.gArgs 0).gKind))), .t (.leaf (.string ((atD pt.gArgs 0).gName))), .t (.row 3 (GType.trs ((atD pt.gArgs 0).gArgs)))]⟩], [⟨37, 4, GBound.trs (pout), false⟩]⟩ : Sto), fun q' => ([some (.t (.leaf (.bool (v10)))), some (.t (.leaf (.bool (v10)))), some (.acc 4 (GBound.trs (pout)) 0), some (.t (.leaf (.int .i64 (((i9 : Nat) : Int))))), some (.eptr (GBound.cs (atD pout i9))), some ((GBound.pv (atD pout i9))), some (.agg [.t (.leaf (.string (pt.gName))), .t (.leaf (.int .i64 ((atD pt.gArgs 0).gKind))), .t (.leaf (.string ((atD pt.gArgs 0).gName))), .t (.row 3 (GType.trs ((atD pt.gArgs 0).gArgs)))]), some (.t (.leaf (.bool (GBound.eq (atD pout i9) (GBound.mk pt.gName (atD pt.gArgs 0)))))), some (.t (.leaf (.bool (GBound.eq (atD pout i9) (GBound.mk pt.gName (atD pt.gArgs 0)))))), some (.t (.leaf (.bool (GBound.eq (atD pout i9) (GBound.mk pt.gName (atD pt.gArgs 0))))))] : List (Option PV)).getD q' none, fun q' => ([.q 0 0, .q 0 0, .q 0 0, .q 0 0, .q 0 0, .q 0 0, .q 0 0, .q 0 0, .q 0 0, .q 0 0] : List DK).getD q' (.q 0 0), [], none, fun q' => ([[(6, none)], [(32, some 0)], [(1, none)], [(7, none)], [(34, some 2), (35, some 3)], [(36, some 4)], [(5, none)], [(38, some 6), (37, some 5)], [(33, some 1), (39, some 7)], [(40, some 8)]] : List (List (Nat × Option Nat))).getD q' []⟩ rfl mixed (by kernel_rfl) rfl rfl ⟨?_, ?_, ?_, ?_, ?_, ?_, ?_, ?_, ?_, ?_, trivial⟩ rfl ?_
                    · exact Draw.step.q1 0 rfl rfl fun s' bb hs hl => ⟨_, rfl, AOp.move (.inl rfl) rfl (hl 6 none _ (.head _) rfl)⟩
                    · exact Draw.step.q1 0 rfl rfl fun s' bb hs hl => ⟨_, rfl, AOp.move (.inl rfl) rfl (hl 32 (some 0) _ (.head _) rfl)⟩
                    · exact Draw.step.q1 0 (congrArg (fun b => some (b == false)) g13) rfl fun s' bb hs hl => ⟨_, rfl, AOp.move (.inl rfl) rfl (hl 1 none _ (.head _) rfl)⟩
                    · exact Draw.step.q1 0 (congrArg (fun b => some (b == false)) g13) rfl fun s' bb hs hl => ⟨_, rfl, AOp.move (.inl rfl) rfl (hl 7 none _ (.head _) rfl)⟩
                    · exact Draw.step.q1 0 (congrArg (fun b => some (b == false)) g13) rfl fun s' bb hs hl => ⟨_, rfl, AOp.index (k := i9) rfl rfl (hl 34 (some 2) _ (.head _) rfl) rfl (hl 35 (some 3) _ (.tail _ (.head _)) rfl) (GBound.trs_at h12n) el28⟩
                    · exact Draw.step.q1 0 (congrArg (fun b => some (b == false)) g13) rfl fun s' bb hs hl => ⟨_, rfl, AOp.loadEptr (ds := [.leaf (.string ((atD pout i9).gTrait)), .leaf (.int .i64 ((atD pout i9).gType.gKind)), .leaf (.string ((atD pout i9).gType.gName)), .row 3 (GType.trs ((atD pout i9).gType.gArgs))]) rfl rfl (hl 36 (some 4) _ (.head _) rfl) sh37 rfl rfl⟩
                    · exact Draw.step.q1 0 (congrArg (fun b => some (b == false)) g13) rfl fun s' bb hs hl => ⟨_, rfl, AOp.loadPtr (cs := [.t (.leaf (.string (pt.gName))), .t (.leaf (.int .i64 ((atD pt.gArgs 0).gKind))), .t (.leaf (.string ((atD pt.gArgs 0).gName))), .t (.row 3 (GType.trs ((atD pt.gArgs 0).gArgs)))]) rfl rfl (hl 5 none _ (.head _) rfl) (by rw [hs]; rfl) sh37 rfl rfl⟩
                    · exact Draw.step.q1 0 (congrArg (fun b => some (b == false)) g13) rfl fun s' bb hs hl => ⟨_, rfl, AOp.callF (res := .t (.leaf (.bool (GBound.eq (atD pout i9) (GBound.mk pt.gName (atD pt.gArgs 0)))))) (ps := [_, _]) rfl rfl Try.func41 (by kernel_rfl) rfl (evs_cons (hl 37 (some 5) _ (.tail _ (.head _)) rfl) (evs_cons (hl 38 (some 6) _ (.head _) rfl) rfl)) leA rfl rfl (sEqualGoal_fn (atD pout i9) (GBound.mk pt.gName (atD pt.gArgs 0)))⟩
                    · exact Draw.step.q1 0 rfl rfl fun s' bb hs hl => ⟨_, rfl, AOp.pickF rfl rfl (hl 33 (some 1) _ (.head _) rfl) g13 (hl 39 (some 7) _ (.tail _ (.head _)) rfl)⟩
                    · exact Draw.step.q1 0 rfl rfl fun s' bb hs hl => ⟨_, rfl, AOp.move (.inr rfl) rfl (hl 40 (some 8) _ (.head _) rfl)⟩
                    refine AWP.region_lit ?_; refine AL.cons rfl (AOp.move (.inl rfl) rfl rfl) ?_; refine AL.cons rfl (AOp.addI rfl rfl rfl rfl (c := ((i9 + 1 : Nat) : Int)) (by omega) (by omega)) ?_; refine AL.cons rfl (AOp.move (.inr rfl) rfl rfl) ?_; refine AL.nil ?_
                    have e15 : (sl23Projs_F2 fu r_sl23Projs pt pout) i9 v10 = some (.next (GBound.eq (atD pout i9) (GBound.mk pt.gName (atD pt.gArgs 0)))) := swF g13 (rfl)
                    refine ⟨(i9 + 1, (GBound.eq (atD pout i9) (GBound.mk pt.gName (atD pt.gArgs 0)))), loopN_next h12l hJ11 e15, ?_, ?_⟩
                    · exact Wk.mk (StLe.mk' ⟨⟨rfl, leA, rfl⟩, ⟨⟨rfl, leA, rfl⟩, trivial⟩⟩ (by first | rfl | simp)) (keeps_all hC (boxes0) (Nat.le_of_ble_eq_true rfl)) ⟨⟨_, rfl, .refl _, rfl⟩, ⟨⟨_, rfl, .refl _, rfl⟩, ⟨⟨_, rfl, .refl _, rfl⟩, ⟨⟨_, rfl, .refl _, rfl⟩, ⟨⟨_, rfl, leA, rfl⟩, ⟨⟨_, rfl, leA, rfl⟩, trivial⟩⟩⟩⟩⟩⟩
                    · dsimp only; omega
                · have h12l : pout.length ≤ i9 := nat_ge_of2 h12
                  refine AWP.exit ?_; refine ⟨v10, loopN_end h12l hJ11, ?_⟩
                  exact Wk.mk (StLe.mk' ⟨⟨rfl, leA, rfl⟩, ⟨⟨rfl, leA, rfl⟩, trivial⟩⟩ (by first | rfl | simp)) (keeps_all hC (boxes0) (Nat.le_of_ble_eq_true rfl)) ⟨⟨_, rfl, .refl _, rfl⟩, ⟨⟨_, rfl, .refl _, rfl⟩, ⟨⟨_, rfl, .refl _, rfl⟩, ⟨⟨_, rfl, .refl _, rfl⟩, ⟨⟨_, rfl, .refl _, rfl⟩, trivial⟩⟩⟩⟩⟩
            · rintro v10 hR16
              refine AWP.seq ?_; refine AWP.region_lit ?_; refine AL.cons rfl (AOp.move (.inl rfl) rfl rfl) ?_; refine AL.cons rfl (AOp.notB rfl rfl rfl) ?_; refine AL.nil ?_; refine AWP.cond rfl (fun h17 => ?_) (fun h17 => ?_)
              · refine AWP.region_lit ?_; refine AL.cons rfl (AOp.move (.inl rfl) rfl rfl) ?_; refine AL.cons rfl (AOp.loadPtr (cs := [.t (.leaf (.string (pt.gName))), .t (.leaf (.int .i64 ((atD pt.gArgs 0).gKind))), .t (.leaf (.string ((atD pt.gArgs 0).gName))), .t (.row 3 (GType.trs ((atD pt.gArgs 0).gArgs)))]) rfl rfl rfl rfl sh37 rfl rfl) ?_; refine AL.cons rfl (AOp.buildSliceE (es := [GBound.cs (GBound.mk pt.gName (atD pt.gArgs 0))]) (es' := GBound.trs (([(GBound.mk pt.gName (atD pt.gArgs 0))] : List GBound))) (cs := [.t (.leaf (.string (pt.gName))), .t (.leaf (.int .i64 ((atD pt.gArgs 0).gKind))), .t (.leaf (.string ((atD pt.gArgs 0).gName))), .t (.row 3 (GType.trs ((atD pt.gArgs 0).gArgs)))]) rfl rfl el28 zr37 rfl rfl leA rfl (by simp [GBound.cs]) (by decide) rfl (by decide) (by simp [GBound.trs_map, GBound.tr_cs])) ?_
                rcases Classical.em ((pout).length + (([(GBound.mk pt.gName (atD pt.gArgs 0))] : List GBound)).length ≤ 68719476736) with hg18 | hg18
                · refine AL.cons rfl (AOp.appendE (es3 := GBound.trs (pout ++ ([(GBound.mk pt.gName (atD pt.gArgs 0))] : List GBound))) rfl rfl rfl rfl rfl rfl rfl rfl rfl (fun e he => by rw [GBound.trs_map] at he; obtain ⟨x, _, rfl⟩ := List.mem_map.1 he; rw [GBound.tr_cs]; rfl) el28 ze28 (by decide) (by rw [GBound.trs_len, GBound.trs_len]; exact room_le hg18 (by decide)) (by rw [GBound.trs_map, GBound.trs_map, GBound.trs_map, List.map_append])) ?_; refine AL.cons rfl (AOp.move (.inr rfl) rfl rfl) ?_; refine AL.nil ?_
                  have e19 : sl23Projs_C1 fu r_sl23Projs pt pout = some (.inr (pout ++ ([(GBound.mk pt.gName (atD pt.gArgs 0))] : List GBound))) := swT g4 (swT h6 (gdT hg7 (gdT hg8 (soR hR16 (swT h17 (gdT hg18 (rfl)))))))
                  refine ⟨(pout ++ ([(GBound.mk pt.gName (atD pt.gArgs 0))] : List GBound)), e19, ?_⟩
                  exact Wk.mk (StLe.mk' ⟨⟨rfl, leA, rfl⟩, trivial⟩ (by first | rfl | simp)) (keeps_all hC (boxes0) (Nat.le_of_ble_eq_true rfl)) ⟨⟨_, rfl, leA, rfl⟩, ⟨⟨_, rfl, .refl _, rfl⟩, ⟨⟨_, rfl, .refl _, rfl⟩, trivial⟩⟩⟩
                · have e20 : sl23Projs_C1 fu r_sl23Projs pt pout = none := swT g4 (swT h6 (gdT hg7 (gdT hg8 (soR hR16 (swT h17 (gdF hg18))))))
                  have e21 : sl23Projs_G fu r_sl23Projs pt pout = none := soN e20
                  exact none_some H e21
              · refine AWP.skip ?_
                have e22 : sl23Projs_C1 fu r_sl23Projs pt pout = some (.inr pout) := swT g4 (swT h6 (gdT hg7 (gdT hg8 (soR hR16 (swF h17 (rfl))))))
                refine ⟨pout, e22, ?_⟩
                exact Wk.mk (StLe.mk' ⟨⟨rfl, leA, rfl⟩, trivial⟩ (by first | rfl | simp)) (keeps_all hC (boxes0) (Nat.le_of_ble_eq_true rfl)) ⟨⟨_, rfl, leA, rfl⟩, ⟨⟨_, rfl, .refl _, rfl⟩, ⟨⟨_, rfl, .refl _, rfl⟩, trivial⟩⟩⟩
          · have e23 : sl23Projs_C1 fu r_sl23Projs pt pout = none := swT g4 (swT h6 (gdT hg7 (gdF hg8)))
            have e24 : sl23Projs_G fu r_sl23Projs pt pout = none := soN e23
            exact none_some H e24
        · have e25 : sl23Projs_C1 fu r_sl23Projs pt pout = none := swT g4 (swT h6 (gdF hg7))
          have e26 : sl23Projs_G fu r_sl23Projs pt pout = none := soN e25
          exact none_some H e26
      · refine AWP.skip ?_
        have e27 : sl23Projs_C1 fu r_sl23Projs pt pout = some (.inr pout) := swT g4 (swF h6 (rfl))
        refine ⟨pout, e27, ?_⟩
        exact Wk.mk (StLe.mk' ⟨⟨rfl, leA, rfl⟩, trivial⟩ (by first | rfl | simp)) (keeps_all hC (boxes0) (Nat.le_of_ble_eq_true rfl)) ⟨⟨_, rfl, leA, rfl⟩, ⟨⟨_, rfl, .refl _, rfl⟩, ⟨⟨_, rfl, .refl _, rfl⟩, trivial⟩⟩⟩
    · refine AL.skipP rfl rfl rfl g4 rfl rfl ?_; refine AL.skipP rfl rfl rfl g4 rfl rfl ?_; refine AL.skipP rfl rfl rfl g4 rfl rfl ?_; refine AL.skipP rfl rfl rfl g4 rfl rfl ?_; refine AL.cons rfl (AOp.pickF rfl rfl rfl g4 rfl) ?_; refine AL.nil ?_; refine AWP.cond rfl (fun h28 => ?_) (fun h28 => ?_)
      · exact absurd (h28.symm.trans rfl) (by decide)
      · refine AWP.skip ?_
        have e29 : sl23Projs_C1 fu r_sl23Projs pt pout = some (.inr pout) := swF g4 (rfl)
        refine ⟨pout, e29, ?_⟩
        exact Wk.mk (StLe.mk' ⟨⟨rfl, leA, rfl⟩, trivial⟩ (by first | rfl | simp)) (keeps_all hC (boxes0) (Nat.le_of_ble_eq_true rfl)) ⟨⟨_, rfl, leA, rfl⟩, ⟨⟨_, rfl, .refl _, rfl⟩, ⟨⟨_, rfl, .refl _, rfl⟩, trivial⟩⟩⟩
  · rintro v3 hR30
    refine AWP.seq ?_; refine AWP.seq ?_; refine AWP.region_lit ?_; refine AL.cons rfl (AOp.move (.inr rfl) rfl rfl) ?_; refine AL.nil ?_; refine AWP.fact (lk_lenN 1 rfl rfl (GBound.trs_len _)) (fun hl34 => ?_)
    refine AWP.cut (ι := (List GBound)) (fun v33 => sl23Projs_R3 fu r_sl23Projs pt pout v3 = some (.inr v33)) (fun v33 => ⟨[(1, .acc 4 (GBound.trs (v33)) 0), (4, .nil)], ⟨[some ⟨27, [.t (.leaf (.int .i64 (pt.gKind))), .t (.leaf (.string (pt.gName))), .t (.row 3 (GType.trs (pt.gArgs)))]⟩], [⟨37, 4, GBound.trs (v33), false⟩]⟩⟩) (by repeat' (first | exact qcEnds | exact ncAWP | exact ncRound | exact ncEx | apply qcThen | apply qcBlock | apply qcCut)) ?_ ?_
    · refine AWP.block ?_; refine AWP.loopR (ι := Nat × ((List GBound))) (fun (i31, v33) => sl23Projs_R3 fu r_sl23Projs pt pout v3 = loopN (sl23Projs_F3 fu r_sl23Projs pt pout v3) (pt.gArgs.length - i31) i31 v33) (fun (i31, v33) => ⟨[(1, .acc 4 (GBound.trs (v33)) 0), (2, .ptr 0 0), (4, .nil), (8, .t (.leaf (.int .i64 (((i31 : Nat) : Int)))))], ⟨[some ⟨27, [.t (.leaf (.int .i64 (pt.gKind))), .t (.leaf (.string (pt.gName))), .t (.row 3 (GType.trs (pt.gArgs)))]⟩], [⟨37, 4, GBound.trs (v33), false⟩]⟩⟩) (fun (i31, v33) => pt.gArgs.length - i31) (0, v3) ?_ ?_ ?_
      · exact rfl
      · exact Wk.mk (StLe.mk' ⟨⟨rfl, leA, rfl⟩, trivial⟩ (by first | rfl | simp)) (keeps_all hC (boxes0) (Nat.le_of_ble_eq_true rfl)) ⟨⟨_, rfl, leA, rfl⟩, ⟨⟨_, rfl, .refl _, rfl⟩, ⟨⟨_, rfl, .refl _, rfl⟩, ⟨⟨_, rfl, leA, rfl⟩, trivial⟩⟩⟩⟩
      · rintro ⟨i31, v33⟩ hJ35
        refine AWP.seq ?_; refine AWP.seq ?_; refine AWP.region_lit ?_; refine AL.cons rfl (AOp.move (.inl rfl) rfl rfl) ?_; refine AL.cons rfl (AOp.fieldPtr (k := 0) (d := 0) (e := 2) rfl rfl rfl fo27_2) ?_; refine AL.cons rfl (AOp.loadPtr1 rfl rfl rfl rfl sh25 rfl) ?_; refine AL.fact (lk_lenN 49 rfl rfl (GType.trs_len _)) (fun hl36 => ?_)
        refine AL.cons rfl (AOp.lenN rfl rfl rfl rfl el25 (GType.trs_len _)) ?_; refine AL.cons rfl (AOp.lss rfl rfl rfl rfl) ?_; refine AL.nil ?_; refine AWP.cond rfl (fun h37 => ?_) (fun h37 => ?_)
        · have h37l : i31 < pt.gArgs.length := nat_lt_of2 h37
          have h37n := nat_lt_of h37
          refine AWP.skip ?_; refine AWP.seq ?_; refine AWP.block ?_; refine AWP.region_lit ?_; refine AL.cons rfl (AOp.fieldPtr (k := 0) (d := 0) (e := 2) rfl rfl rfl fo27_2) ?_; refine AL.cons rfl (AOp.loadPtr1 rfl rfl rfl rfl sh25 rfl) ?_; refine AL.cons rfl (AOp.move (.inl rfl) rfl rfl) ?_; refine AL.cons rfl (AOp.index (k := i31) rfl rfl rfl rfl rfl (GType.trs_at h37n) el25) ?_; refine AL.cons rfl (AOp.loadEptr (ds := [.leaf (.int .i64 ((atD pt.gArgs i31).gKind)), .leaf (.string ((atD pt.gArgs i31).gName)), .row 3 (GType.trs ((atD pt.gArgs i31).gArgs))]) rfl rfl rfl sh27 rfl rfl) ?_; refine AL.cons rfl (AOp.move (.inl rfl) rfl rfl) ?_
          rcases hq38 : r_sl23Projs (atD pt.gArgs i31) v33 with _ | x39
          · have e40 : (sl23Projs_F3 fu r_sl23Projs pt pout v3) i31 v33 = none := bdN hq38
            have e41 : sl23Projs_R3 fu r_sl23Projs pt pout v3 = none := loopN_non h37l hJ35 e40
            have e42 : sl23Projs_G fu r_sl23Projs pt pout = none := soR hR30 (soN e41)
            exact none_some H e42
          · refine AL.cons rfl (AOp.callPE (pre := ⟨[], [⟨37, 4, GBound.trs (v33), false⟩]⟩) (st' := ⟨[], [⟨37, 4, GBound.trs (x39), false⟩]⟩) (ps := [_, _]) (qs := [(GType.pv (atD pt.gArgs i31)), .acc 4 (GBound.trs (v33)) 0]) [] [0] rfl rfl Try.func79 (by kernel_rfl) rfl rfl rfl (Part0.of trivial ⟨rfl, trivial⟩ (by decide) (by decide)) leA rfl rfl rfl (h_sl23Projs (atD pt.gArgs i31) v33 _ hq38)) ?_; refine AL.cons rfl (AOp.move (.inr rfl) rfl rfl) ?_; refine AL.nil ?_; refine AWP.region_lit ?_; refine AL.cons rfl (AOp.move (.inl rfl) rfl rfl) ?_; refine AL.cons rfl (AOp.addI rfl rfl rfl rfl (c := ((i31 + 1 : Nat) : Int)) (by omega) (by omega)) ?_; refine AL.cons rfl (AOp.move (.inr rfl) rfl rfl) ?_; refine AL.nil ?_
            have e43 : (sl23Projs_F3 fu r_sl23Projs pt pout v3) i31 v33 = some (.next x39) := bdS hq38 (rfl)
            refine ⟨(i31 + 1, x39), loopN_next h37l hJ35 e43, ?_, ?_⟩
            · exact Wk.mk (StLe.mk' ⟨⟨rfl, leA, rfl⟩, trivial⟩ (by first | rfl | simp)) (keeps_all hC (boxes0) (Nat.le_of_ble_eq_true rfl)) ⟨⟨_, rfl, leA, rfl⟩, ⟨⟨_, rfl, .refl _, rfl⟩, ⟨⟨_, rfl, .refl _, rfl⟩, ⟨⟨_, rfl, leA, rfl⟩, trivial⟩⟩⟩⟩
            · dsimp only; omega
        · have h37l : pt.gArgs.length ≤ i31 := nat_ge_of2 h37
          refine AWP.exit ?_; refine ⟨v33, loopN_end h37l hJ35, ?_⟩
          exact Wk.mk (StLe.mk' ⟨⟨rfl, leA, rfl⟩, trivial⟩ (by first | rfl | simp)) (keeps_all hC (boxes0) (Nat.le_of_ble_eq_true rfl)) ⟨⟨_, rfl, .refl _, rfl⟩, ⟨⟨_, rfl, .refl _, rfl⟩, trivial⟩⟩
    · rintro v33 hR44
      refine AWP.seq ?_; refine AWP.region_lit ?_; refine AL.cons rfl (AOp.move (.inl rfl) rfl rfl) ?_; refine AL.cons rfl (AOp.move (.inr rfl) rfl rfl) ?_; refine AL.nil ?_; refine AWP.ret ?_
      have e45 : sl23Projs_G fu r_sl23Projs pt pout = some v33 := soR hR30 (soR hR44 (rfl))
      have hz : v33 = r := Option.some.inj (e45.symm.trans H)
      subst hz
      exact Ends.mk (ps := [_]) (by first | exact .inr rfl | exact .inl rfl) ⟨rfl, trivial⟩ rfl (StLe.mk' (st' := ⟨[], [⟨37, 4, GBound.trs (v33), false⟩]⟩) trivial (by first | rfl | simp)) (keeps_all hC (boxes0) (Nat.le_of_ble_eq_true rfl)) (q := (.acc 4 (GBound.trs (v33)) 0 : PV)) leA rfl ⟨rfl, rfl⟩
noncomputable def sl23Projs_M : Nat → GType → (List GBound) → Option ((List GBound))
  | 0, _, _ => none
  | fu + 1, pt, pout => sl23Projs_G fu (sl23Projs_M fu) pt pout
theorem sl23Projs_all (fu : Nat) : (∀ (pt : GType) (pout : List GBound) (r : (List GBound)), sl23Projs_M fu pt pout = some r → ACalls Try.prog 79 [(GType.pv pt), .acc 4 (GBound.trs (pout)) 0] ⟨[], [⟨37, 4, GBound.trs (pout), false⟩]⟩ (fun q t => q = (.acc 4 (GBound.trs (r)) 0 : PV) ∧ t = ⟨[], [⟨37, 4, GBound.trs (r), false⟩]⟩)) := by
  induction fu with
  | zero => exact (fun pt pout r H => by simp only [sl23Projs_M] at H; cases H)
  | succ fu ih => exact (fun pt pout r H => by simp only [sl23Projs_M] at H; exact sl23Projs_step (sl23Projs_M fu) fu ih pt pout r H)
theorem sl23Projs_ok (fu : Nat) (pt : GType) (pout : List GBound) (r : (List GBound)) (H : sl23Projs_M fu pt pout = some r) : ACalls Try.prog 79 [(GType.pv pt), .acc 4 (GBound.trs (pout)) 0] ⟨[], [⟨37, 4, GBound.trs (pout), false⟩]⟩ (fun q t => q = (.acc 4 (GBound.trs (r)) 0 : PV) ∧ t = ⟨[], [⟨37, 4, GBound.trs (r), false⟩]⟩) := (sl23Projs_all fu) pt pout r H

noncomputable def sProjectionsIn_M (fu : Nat)  (pt : GType) : Option ((List GBound)) :=
 bd (sl23Projs_M fu pt ([])) (fun x2 =>
 some x2)
set_option maxRecDepth 100000 in
set_option maxHeartbeats 4000000 in
theorem sProjectionsIn_ok  (fu : Nat)  (pt : GType) (r : (List GBound)) (H : sProjectionsIn_M fu pt = some r) : AFun Try.prog 40 [(GType.pv pt)] (.t (.row 4 (GBound.trs (r))) : PV) := by
  refine ACalls.intro Try.func40 rfl (by first | decide | (simp; done) | (simp; decide)) ?_; intro C hC
  refine AWP.seq ?_; refine AWP.region_lit ?_; refine AL.cons rfl (AOp.box (cs := [.t (.leaf (.int .i64 (pt.gKind))), .t (.leaf (.string (pt.gName))), .t (.row 3 (GType.trs (pt.gArgs)))]) rfl rfl rfl rfl rfl) ?_; refine AL.cons rfl (AOp.move (.inr rfl) rfl rfl) ?_; refine AL.nil ?_; refine AWP.seq ?_; refine AWP.region_lit ?_; refine AL.cons rfl (AOp.loadPtr (cs := [.t (.leaf (.int .i64 (pt.gKind))), .t (.leaf (.string (pt.gName))), .t (.row 3 (GType.trs (pt.gArgs)))]) rfl rfl rfl rfl sh27 rfl rfl) ?_; refine AL.cons rfl (AOp.buildSliceA (es := []) (es' := GBound.trs ([])) (cs := []) rfl rfl el28 zr37 rfl rfl leA rfl (by simp [GBound.cs]) (by decide) rfl (by decide) (by simp [GBound.trs_map, GBound.tr_cs])) ?_
  rcases hq1 : sl23Projs_M fu pt ([]) with _ | x2
  · have e3 : sProjectionsIn_M fu pt = none := bdN hq1
    exact none_some H e3
  · refine AL.cons rfl (AOp.callPE (pre := ⟨[], [⟨37, 4, GBound.trs ([]), false⟩]⟩) (st' := ⟨[], [⟨37, 4, GBound.trs (x2), false⟩]⟩) (ps := [_, _]) (qs := [(GType.pv pt), .acc 4 (GBound.trs ([])) 0]) [] [0] rfl rfl Try.func79 (by kernel_rfl) rfl rfl rfl (Part0.of trivial ⟨rfl, trivial⟩ (by decide) (by decide)) leA rfl rfl rfl (sl23Projs_ok fu pt ([]) _ hq1)) ?_; refine AL.cons rfl (AOp.move (.inr rfl) rfl rfl) ?_; refine AL.nil ?_; refine AWP.ret ?_
    have e4 : sProjectionsIn_M fu pt = some x2 := bdS hq1 (rfl)
    have hz : x2 = r := Option.some.inj (e4.symm.trans H)
    subst hz
    exact Ends.mk (ps := [_]) (by first | exact .inr rfl | exact .inl rfl) ⟨rfl, trivial⟩ rfl (StLe.mk' (st' := ⟨[], []⟩) trivial rfl) (keeps_nil hC) (q := (.t (.row 4 (GBound.trs (x2))) : PV)) leA rfl ⟨rfl, rfl⟩

noncomputable def ihasGoal_1_M (fu : Nat)  (pb : GBound) (c1 : GBound) : Option Bool :=
 some (GBound.eq pb c1)
set_option maxRecDepth 100000 in
set_option maxHeartbeats 4000000 in
theorem ihasGoal_1_ok  (fu : Nat)  (pb : GBound) (c1 : GBound) (r : Bool) (H : ihasGoal_1_M fu pb c1 = some r) : ACalls Try.prog 78 [(GBound.pv pb), .ptr 0 0] ⟨[some ⟨37, [.t (.leaf (.string (c1.gTrait))), .t (.leaf (.int .i64 (c1.gType.gKind))), .t (.leaf (.string (c1.gType.gName))), .t (.row 3 (GType.trs (c1.gType.gArgs)))]⟩], []⟩ (fun q t => q = (.t (.leaf (.bool (r))) : PV) ∧ t = ⟨[some ⟨37, [.t (.leaf (.string (c1.gTrait))), .t (.leaf (.int .i64 (c1.gType.gKind))), .t (.leaf (.string (c1.gType.gName))), .t (.row 3 (GType.trs (c1.gType.gArgs)))]⟩], []⟩) := by
  refine ACalls.intro Try.func78 rfl (by first | decide | (simp; done) | (simp; decide)) ?_; intro C hC
  refine AWP.fact (box_lenN 0 3 rfl rfl rfl (GType.trs_len _)) (fun hl1 => ?_)
  refine AWP.seq ?_; refine AWP.region_lit ?_; refine AL.cons rfl (AOp.box (cs := [.t (.leaf (.string (pb.gTrait))), .t (.leaf (.int .i64 (pb.gType.gKind))), .t (.leaf (.string (pb.gType.gName))), .t (.row 3 (GType.trs (pb.gType.gArgs)))]) rfl rfl rfl rfl rfl) ?_; refine AL.cons rfl (AOp.move (.inr rfl) rfl rfl) ?_; refine AL.nil ?_; refine AWP.seq ?_; refine AWP.region_lit ?_; refine AL.cons rfl (AOp.loadPtr (cs := [.t (.leaf (.string (pb.gTrait))), .t (.leaf (.int .i64 (pb.gType.gKind))), .t (.leaf (.string (pb.gType.gName))), .t (.row 3 (GType.trs (pb.gType.gArgs)))]) rfl rfl rfl rfl sh37 rfl rfl) ?_; refine AL.cons rfl (AOp.loadPtr (cs := [.t (.leaf (.string (c1.gTrait))), .t (.leaf (.int .i64 (c1.gType.gKind))), .t (.leaf (.string (c1.gType.gName))), .t (.row 3 (GType.trs (c1.gType.gArgs)))]) rfl rfl rfl rfl sh37 rfl rfl) ?_; refine AL.cons rfl (AOp.callF (res := .t (.leaf (.bool (GBound.eq pb c1)))) (ps := [_, _]) rfl rfl Try.func12 (by kernel_rfl) rfl rfl leA rfl rfl (iEqualGoal_fn pb c1)) ?_; refine AL.cons rfl (AOp.move (.inr rfl) rfl rfl) ?_; refine AL.nil ?_; refine AWP.ret ?_
  have e2 : ihasGoal_1_M fu pb c1 = some (GBound.eq pb c1) := rfl
  have hz : (GBound.eq pb c1) = r := Option.some.inj (e2.symm.trans H)
  subst hz
  exact Ends.mk (ps := [_]) (by first | exact .inr rfl | exact .inl rfl) ⟨rfl, trivial⟩ rfl (StLe.mk' (st' := ⟨[some ⟨37, [.t (.leaf (.string (c1.gTrait))), .t (.leaf (.int .i64 (c1.gType.gKind))), .t (.leaf (.string (c1.gType.gName))), .t (.row 3 (GType.trs (c1.gType.gArgs)))]⟩], []⟩) ⟨⟨rfl, leA, rfl⟩, trivial⟩ rfl) (keeps_all hC (boxes1 rfl) (Nat.le_of_ble_eq_true rfl)) (q := (.t (.leaf (.bool ((GBound.eq pb c1)))) : PV)) leA rfl ⟨rfl, rfl⟩

noncomputable def gIndexFunc_Bound__ihasGoal_1_F1 (fu : Nat) (ps : List GBound) (c1_0 : GBound) : Nat → Unit → Option (LR Unit Int) :=
 fun i3 _ => bd (ihasGoal_1_M fu (atD ps i3) c1_0) (fun x7 =>
 sw (x7)
 (some (.ret ((i3 : Nat) : Int)))
 (some (.next ())))
noncomputable def gIndexFunc_Bound__ihasGoal_1_R1 (fu : Nat) (ps : List GBound) (c1_0 : GBound) : Option (Int ⊕ Unit) :=
 loopN (gIndexFunc_Bound__ihasGoal_1_F1 fu ps c1_0) (ps.length - 0) 0 ()
noncomputable def gIndexFunc_Bound__ihasGoal_1_M (fu : Nat)  (ps : List GBound) (c1_0 : GBound) : Option Int :=
 so (gIndexFunc_Bound__ihasGoal_1_R1 fu ps c1_0) (fun _ =>
 some (-1))
set_option maxRecDepth 100000 in
set_option maxHeartbeats 4000000 in
theorem gIndexFunc_Bound__ihasGoal_1_ok  (fu : Nat)  (ps : List GBound) (c1_0 : GBound) (r : Int) (H : gIndexFunc_Bound__ihasGoal_1_M fu ps c1_0 = some r) : ACalls Try.prog 77 [.t (.row 4 (GBound.trs (ps))), .fn 78 [.ptr 0 0]] ⟨[some ⟨37, [.t (.leaf (.string (c1_0.gTrait))), .t (.leaf (.int .i64 (c1_0.gType.gKind))), .t (.leaf (.string (c1_0.gType.gName))), .t (.row 3 (GType.trs (c1_0.gType.gArgs)))]⟩], []⟩ (fun q t => q = (.t (.leaf (.int .i64 (r))) : PV) ∧ t = ⟨[some ⟨37, [.t (.leaf (.string (c1_0.gTrait))), .t (.leaf (.int .i64 (c1_0.gType.gKind))), .t (.leaf (.string (c1_0.gType.gName))), .t (.row 3 (GType.trs (c1_0.gType.gArgs)))]⟩], []⟩) := by
  refine ACalls.intro Try.func77 rfl (by first | decide | (simp; done) | (simp; decide)) ?_; intro C hC
  refine AWP.fact (lk_lenN 0 rfl rfl (GBound.trs_len _)) (fun hl1 => ?_)
  refine AWP.fact (box_lenN 0 3 rfl rfl rfl (GType.trs_len _)) (fun hl2 => ?_)
  refine AWP.seq ?_; refine AWP.region_lit ?_; refine AL.cons rfl (AOp.move (.inr rfl) rfl rfl) ?_; refine AL.nil ?_; refine AWP.seq ?_; refine AWP.seq ?_; refine AWP.region_lit ?_; refine AL.cons rfl (AOp.move (.inl rfl) rfl rfl) ?_; refine AL.cons rfl (AOp.lenN rfl rfl rfl rfl el28 (GBound.trs_len _)) ?_; refine AL.cons rfl (AOp.move (.inl rfl) rfl rfl) ?_; refine AL.nil ?_; refine AWP.cut (ι := Unit) (fun _ => gIndexFunc_Bound__ihasGoal_1_R1 fu ps c1_0 = some (.inr ())) (fun _ => ⟨[(4, .t (.leaf (.int .i64 (0))))], ⟨[some ⟨37, [.t (.leaf (.string (c1_0.gTrait))), .t (.leaf (.int .i64 (c1_0.gType.gKind))), .t (.leaf (.string (c1_0.gType.gName))), .t (.row 3 (GType.trs (c1_0.gType.gArgs)))]⟩], []⟩⟩) (by repeat' (first | exact qcEnds | exact ncAWP | exact ncRound | exact ncEx | apply qcThen | apply qcBlock | apply qcCut)) ?_ ?_
  · refine AWP.block ?_; refine AWP.loopR (ι := Nat × Unit) (fun (i3, _) => gIndexFunc_Bound__ihasGoal_1_R1 fu ps c1_0 = loopN (gIndexFunc_Bound__ihasGoal_1_F1 fu ps c1_0) (ps.length - i3) i3 ()) (fun (i3, _) => ⟨[(0, .t (.row 4 (GBound.trs (ps)))), (1, .fn 78 [.ptr 0 0]), (4, .t (.leaf (.int .i64 (0)))), (7, .t (.leaf (.int .i64 (((ps.length : Nat) : Int))))), (8, .t (.leaf (.int .i64 (((i3 : Nat) : Int)))))], ⟨[some ⟨37, [.t (.leaf (.string (c1_0.gTrait))), .t (.leaf (.int .i64 (c1_0.gType.gKind))), .t (.leaf (.string (c1_0.gType.gName))), .t (.row 3 (GType.trs (c1_0.gType.gArgs)))]⟩], []⟩⟩) (fun (i3, _) => ps.length - i3) (0, ()) ?_ ?_ ?_
    · exact rfl
    · exact Wk.mk (StLe.mk' ⟨⟨rfl, leA, rfl⟩, trivial⟩ rfl) (keeps_all hC (boxes1 rfl) (Nat.le_of_ble_eq_true rfl)) ⟨⟨_, rfl, .refl _, rfl⟩, ⟨⟨_, rfl, .refl _, rfl⟩, ⟨⟨_, rfl, .refl _, rfl⟩, ⟨⟨_, rfl, .refl _, rfl⟩, ⟨⟨_, rfl, leA, rfl⟩, trivial⟩⟩⟩⟩⟩
    · rintro ⟨i3, ⟨⟩⟩ hJ4
      refine AWP.seq ?_; refine AWP.region_lit ?_; refine AL.cons rfl (AOp.lss rfl rfl rfl rfl) ?_; refine AL.nil ?_; refine AWP.seq ?_; refine AWP.cond rfl (fun h5 => ?_) (fun h5 => ?_)
      · have h5l : i3 < ps.length := nat_lt_of2 h5
        have h5n := nat_lt_of h5
        refine AWP.skip ?_; refine AWP.seq ?_; refine AWP.block ?_; refine AWP.seq ?_; refine AWP.region_lit ?_; refine AL.cons rfl (AOp.move (.inl rfl) rfl rfl) ?_; refine AL.cons rfl (AOp.move (.inr rfl) rfl rfl) ?_; refine AL.nil ?_; refine AWP.seq ?_; refine AWP.region_lit ?_; refine AL.cons rfl (AOp.move (.inl rfl) rfl rfl) ?_; refine AL.cons rfl (AOp.move (.inl rfl) rfl rfl) ?_; refine AL.cons rfl (AOp.move (.inl rfl) rfl rfl) ?_; refine AL.cons rfl (AOp.index (k := i3) rfl rfl rfl rfl rfl (GBound.trs_at h5n) el28) ?_; refine AL.cons rfl (AOp.loadEptr (ds := [.leaf (.string ((atD ps i3).gTrait)), .leaf (.int .i64 ((atD ps i3).gType.gKind)), .leaf (.string ((atD ps i3).gType.gName)), .row 3 (GType.trs ((atD ps i3).gType.gArgs))]) rfl rfl rfl sh37 rfl rfl) ?_
        rcases hq6 : ihasGoal_1_M fu (atD ps i3) c1_0 with _ | x7
        · have e8 : (gIndexFunc_Bound__ihasGoal_1_F1 fu ps c1_0) i3 () = none := bdN hq6
          have e9 : gIndexFunc_Bound__ihasGoal_1_R1 fu ps c1_0 = none := loopN_non h5l hJ4 e8
          have e10 : gIndexFunc_Bound__ihasGoal_1_M fu ps c1_0 = none := soN e9
          exact none_some H e10
        · refine AL.cons rfl (AOp.callVPE (pre := ⟨[some ⟨37, [.t (.leaf (.string (c1_0.gTrait))), .t (.leaf (.int .i64 (c1_0.gType.gKind))), .t (.leaf (.string (c1_0.gType.gName))), .t (.row 3 (GType.trs (c1_0.gType.gArgs)))]⟩], []⟩) (st' := ⟨[some ⟨37, [.t (.leaf (.string (c1_0.gTrait))), .t (.leaf (.int .i64 (c1_0.gType.gKind))), .t (.leaf (.string (c1_0.gType.gName))), .t (.row 3 (GType.trs (c1_0.gType.gArgs)))]⟩], []⟩) (ps := [_]) (cs := [.ptr 0 0]) (qs := [(GBound.pv (atD ps i3)), .ptr 0 0]) [0] [] rfl rfl rfl Try.func78 (by kernel_rfl) rfl rfl rfl (Part0.of ⟨⟨_, rfl, rfl, leA, rfl⟩, trivial⟩ trivial (by decide) (by decide)) leA rfl rfl rfl (ihasGoal_1_ok fu (atD ps i3) c1_0 _ hq6)) ?_; refine AL.nil ?_; refine AWP.cond rfl (fun h11 => ?_) (fun h11 => ?_)
          · refine AWP.seq ?_; refine AWP.region_lit ?_; refine AL.cons rfl (AOp.move (.inl rfl) rfl rfl) ?_; refine AL.cons rfl (AOp.move (.inr rfl) rfl rfl) ?_; refine AL.nil ?_; refine AWP.ret ?_
            have e12 : (gIndexFunc_Bound__ihasGoal_1_F1 fu ps c1_0) i3 () = some (.ret ((i3 : Nat) : Int)) := bdS hq6 (swT h11 (rfl))
            have e13 : gIndexFunc_Bound__ihasGoal_1_R1 fu ps c1_0 = some (.inl ((i3 : Nat) : Int)) := loopN_ret h5l hJ4 e12
            have e14 : gIndexFunc_Bound__ihasGoal_1_M fu ps c1_0 = some ((i3 : Nat) : Int) := soL e13
            have hz : ((i3 : Nat) : Int) = r := Option.some.inj (e14.symm.trans H)
            subst hz
            exact Ends.mk (ps := [_]) (by first | exact .inr rfl | exact .inl rfl) ⟨rfl, trivial⟩ rfl (StLe.mk' (st' := ⟨[some ⟨37, [.t (.leaf (.string (c1_0.gTrait))), .t (.leaf (.int .i64 (c1_0.gType.gKind))), .t (.leaf (.string (c1_0.gType.gName))), .t (.row 3 (GType.trs (c1_0.gType.gArgs)))]⟩], []⟩) ⟨⟨rfl, leA, rfl⟩, trivial⟩ rfl) (keeps_all hC (boxes1 rfl) (Nat.le_of_ble_eq_true rfl)) (q := (.t (.leaf (.int .i64 (((i3 : Nat) : Int)))) : PV)) leA rfl ⟨rfl, rfl⟩
          · refine AWP.skip ?_; refine AWP.region_lit ?_; refine AL.cons rfl (AOp.addI rfl rfl rfl rfl (c := ((i3 + 1 : Nat) : Int)) (by omega) (by omega)) ?_; refine AL.cons rfl (AOp.move (.inl rfl) rfl rfl) ?_; refine AL.nil ?_
            have e15 : (gIndexFunc_Bound__ihasGoal_1_F1 fu ps c1_0) i3 () = some (.next ()) := bdS hq6 (swF h11 (rfl))
            refine ⟨(i3 + 1, ()), loopN_next h5l hJ4 e15, ?_, ?_⟩
            · exact Wk.mk (StLe.mk' ⟨⟨rfl, leA, rfl⟩, trivial⟩ rfl) (keeps_all hC (boxes1 rfl) (Nat.le_of_ble_eq_true rfl)) ⟨⟨_, rfl, .refl _, rfl⟩, ⟨⟨_, rfl, .refl _, rfl⟩, ⟨⟨_, rfl, .refl _, rfl⟩, ⟨⟨_, rfl, .refl _, rfl⟩, ⟨⟨_, rfl, leA, rfl⟩, trivial⟩⟩⟩⟩⟩
            · dsimp only; omega
      · have h5l : ps.length ≤ i3 := nat_ge_of2 h5
        refine AWP.exit ?_; refine ⟨(), loopN_end h5l hJ4, ?_⟩
        exact Wk.mk (StLe.mk' ⟨⟨rfl, leA, rfl⟩, trivial⟩ rfl) (keeps_all hC (boxes1 rfl) (Nat.le_of_ble_eq_true rfl)) ⟨⟨_, rfl, .refl _, rfl⟩, trivial⟩
  · rintro ⟨⟩ hR16
    refine AWP.seq ?_; refine AWP.region_lit ?_; refine AL.cons rfl (AOp.move (.inr rfl) rfl rfl) ?_; refine AL.nil ?_; refine AWP.ret ?_
    have e17 : gIndexFunc_Bound__ihasGoal_1_M fu ps c1_0 = some (-1) := soR hR16 (rfl)
    have hz : (-1) = r := Option.some.inj (e17.symm.trans H)
    subst hz
    exact Ends.mk (ps := [_]) (by first | exact .inr rfl | exact .inl rfl) ⟨rfl, trivial⟩ rfl (StLe.mk' (st' := ⟨[some ⟨37, [.t (.leaf (.string (c1_0.gTrait))), .t (.leaf (.int .i64 (c1_0.gType.gKind))), .t (.leaf (.string (c1_0.gType.gName))), .t (.row 3 (GType.trs (c1_0.gType.gArgs)))]⟩], []⟩) ⟨⟨rfl, leA, rfl⟩, trivial⟩ rfl) (keeps_all hC (boxes1 rfl) (Nat.le_of_ble_eq_true rfl)) (q := (.t (.leaf (.int .i64 ((-1)))) : PV)) leA rfl ⟨rfl, rfl⟩

noncomputable def gContainsFunc_Bound__ihasGoal_1_M (fu : Nat)  (ps : List GBound) (c1_0 : GBound) : Option Bool :=
 bd (gIndexFunc_Bound__ihasGoal_1_M fu ps c1_0) (fun x4 =>
 some (decide ((x4 : Int) ≥ 0)))
set_option maxRecDepth 100000 in
set_option maxHeartbeats 4000000 in
theorem gContainsFunc_Bound__ihasGoal_1_ok  (fu : Nat)  (ps : List GBound) (c1_0 : GBound) (r : Bool) (H : gContainsFunc_Bound__ihasGoal_1_M fu ps c1_0 = some r) : ACalls Try.prog 37 [.t (.row 4 (GBound.trs (ps))), .fn 78 [.ptr 0 0]] ⟨[some ⟨37, [.t (.leaf (.string (c1_0.gTrait))), .t (.leaf (.int .i64 (c1_0.gType.gKind))), .t (.leaf (.string (c1_0.gType.gName))), .t (.row 3 (GType.trs (c1_0.gType.gArgs)))]⟩], []⟩ (fun q t => q = (.t (.leaf (.bool (r))) : PV) ∧ t = ⟨[some ⟨37, [.t (.leaf (.string (c1_0.gTrait))), .t (.leaf (.int .i64 (c1_0.gType.gKind))), .t (.leaf (.string (c1_0.gType.gName))), .t (.row 3 (GType.trs (c1_0.gType.gArgs)))]⟩], []⟩) := by
  refine ACalls.intro Try.func37 rfl (by first | decide | (simp; done) | (simp; decide)) ?_; intro C hC
  refine AWP.fact (lk_lenN 0 rfl rfl (GBound.trs_len _)) (fun hl1 => ?_)
  refine AWP.fact (box_lenN 0 3 rfl rfl rfl (GType.trs_len _)) (fun hl2 => ?_)
  refine AWP.seq ?_; refine AWP.region_lit ?_; refine AL.cons rfl (AOp.move (.inr rfl) rfl rfl) ?_; refine AL.nil ?_; refine AWP.seq ?_; refine AWP.region_lit ?_; refine AL.cons rfl (AOp.move (.inl rfl) rfl rfl) ?_; refine AL.cons rfl (AOp.move (.inl rfl) rfl rfl) ?_
  rcases hq3 : gIndexFunc_Bound__ihasGoal_1_M fu ps c1_0 with _ | x4
  · have e5 : gContainsFunc_Bound__ihasGoal_1_M fu ps c1_0 = none := bdN hq3
    exact none_some H e5
  · refine AL.cons rfl (AOp.callPE (pre := ⟨[some ⟨37, [.t (.leaf (.string (c1_0.gTrait))), .t (.leaf (.int .i64 (c1_0.gType.gKind))), .t (.leaf (.string (c1_0.gType.gName))), .t (.row 3 (GType.trs (c1_0.gType.gArgs)))]⟩], []⟩) (st' := ⟨[some ⟨37, [.t (.leaf (.string (c1_0.gTrait))), .t (.leaf (.int .i64 (c1_0.gType.gKind))), .t (.leaf (.string (c1_0.gType.gName))), .t (.row 3 (GType.trs (c1_0.gType.gArgs)))]⟩], []⟩) (ps := [_, _]) (qs := [.t (.row 4 (GBound.trs (ps))), .fn 78 [.ptr 0 0]]) [0] [] rfl rfl Try.func77 (by kernel_rfl) rfl rfl rfl (Part0.of ⟨⟨_, rfl, rfl, leA, rfl⟩, trivial⟩ trivial (by decide) (by decide)) leA rfl rfl rfl (gIndexFunc_Bound__ihasGoal_1_ok fu ps c1_0 _ hq3)) ?_; refine AL.cons rfl (AOp.geq rfl rfl rfl rfl) ?_; refine AL.cons rfl (AOp.move (.inr rfl) rfl rfl) ?_; refine AL.nil ?_; refine AWP.ret ?_
    have e6 : gContainsFunc_Bound__ihasGoal_1_M fu ps c1_0 = some (decide ((x4 : Int) ≥ 0)) := bdS hq3 (rfl)
    have hz : (decide ((x4 : Int) ≥ 0)) = r := Option.some.inj (e6.symm.trans H)
    subst hz
    exact Ends.mk (ps := [_]) (by first | exact .inr rfl | exact .inl rfl) ⟨rfl, trivial⟩ rfl (StLe.mk' (st' := ⟨[some ⟨37, [.t (.leaf (.string (c1_0.gTrait))), .t (.leaf (.int .i64 (c1_0.gType.gKind))), .t (.leaf (.string (c1_0.gType.gName))), .t (.row 3 (GType.trs (c1_0.gType.gArgs)))]⟩], []⟩) ⟨⟨rfl, leA, rfl⟩, trivial⟩ rfl) (keeps_all hC (boxes1 rfl) (Nat.le_of_ble_eq_true rfl)) (q := (.t (.leaf (.bool ((decide ((x4 : Int) ≥ 0))))) : PV)) leA rfl ⟨rfl, rfl⟩

noncomputable def ihasGoal_M (fu : Nat)  (plist : List GBound) (pg : GBound) : Option Bool :=
 bd (gContainsFunc_Bound__ihasGoal_1_M fu plist pg) (fun x3 =>
 some x3)
set_option maxRecDepth 100000 in
set_option maxHeartbeats 4000000 in
theorem ihasGoal_ok  (fu : Nat)  (plist : List GBound) (pg : GBound) (r : Bool) (H : ihasGoal_M fu plist pg = some r) : AFun Try.prog 39 [.t (.row 4 (GBound.trs (plist))), (GBound.pv pg)] (.t (.leaf (.bool (r))) : PV) := by
  refine ACalls.intro Try.func39 rfl (by first | decide | (simp; done) | (simp; decide)) ?_; intro C hC
  refine AWP.fact (lk_lenN 0 rfl rfl (GBound.trs_len _)) (fun hl1 => ?_)
  refine AWP.seq ?_; refine AWP.region_lit ?_; refine AL.cons rfl (AOp.box (cs := [.t (.leaf (.string (pg.gTrait))), .t (.leaf (.int .i64 (pg.gType.gKind))), .t (.leaf (.string (pg.gType.gName))), .t (.row 3 (GType.trs (pg.gType.gArgs)))]) rfl rfl rfl rfl rfl) ?_; refine AL.cons rfl (AOp.move (.inr rfl) rfl rfl) ?_; refine AL.nil ?_; refine AWP.seq ?_; refine AWP.region_lit ?_; refine AL.cons rfl (AOp.move (.inl rfl) rfl rfl) ?_; refine AL.cons rfl (AOp.makeFunc (ps := [.ptr 0 0]) rfl rfl rfl) ?_
  rcases hq2 : gContainsFunc_Bound__ihasGoal_1_M fu plist pg with _ | x3
  · have e4 : ihasGoal_M fu plist pg = none := bdN hq2
    exact none_some H e4
  · refine AL.cons rfl (AOp.callPE (pre := ⟨[some ⟨37, [.t (.leaf (.string (pg.gTrait))), .t (.leaf (.int .i64 (pg.gType.gKind))), .t (.leaf (.string (pg.gType.gName))), .t (.row 3 (GType.trs (pg.gType.gArgs)))]⟩], []⟩) (st' := ⟨[some ⟨37, [.t (.leaf (.string (pg.gTrait))), .t (.leaf (.int .i64 (pg.gType.gKind))), .t (.leaf (.string (pg.gType.gName))), .t (.row 3 (GType.trs (pg.gType.gArgs)))]⟩], []⟩) (ps := [_, _]) (qs := [.t (.row 4 (GBound.trs (plist))), .fn 78 [.ptr 0 0]]) [0] [] rfl rfl Try.func37 (by kernel_rfl) rfl rfl rfl (Part0.of ⟨⟨_, rfl, rfl, leA, rfl⟩, trivial⟩ trivial (by decide) (by decide)) leA rfl rfl rfl (gContainsFunc_Bound__ihasGoal_1_ok fu plist pg _ hq2)) ?_; refine AL.cons rfl (AOp.move (.inr rfl) rfl rfl) ?_; refine AL.nil ?_; refine AWP.ret ?_
    have e5 : ihasGoal_M fu plist pg = some x3 := bdS hq2 (rfl)
    have hz : x3 = r := Option.some.inj (e5.symm.trans H)
    subst hz
    exact Ends.mk (ps := [_]) (by first | exact .inr rfl | exact .inl rfl) ⟨rfl, trivial⟩ rfl (StLe.mk' (st' := ⟨[], []⟩) trivial rfl) (keeps_nil hC) (q := (.t (.leaf (.bool (x3))) : PV)) leA rfl ⟨rfl, rfl⟩

noncomputable def iProjectionsIn_1_M (fu : Nat)  (pu : GType) (c1 : List GBound) : Option ((List GBound)) :=
 sw (decide ((pu.gKind : Int) = 3))
 (sw (decide ((((pu.gArgs.length : Nat) : Int) : Int) > 0))
 (gd (0 < (pu.gArgs).length)
 (gd (Tr.bulkL (GType.tr (atD pu.gArgs 0)) ≤ 68719476735)
 (bd (ihasGoal_M fu c1 (GBound.mk pu.gName (atD pu.gArgs 0))) (fun x8 =>
 sw (!(x8))
 (gd ((c1).length + (([(GBound.mk pu.gName (atD pu.gArgs 0))] : List GBound)).length ≤ 68719476736)
 (some (c1 ++ ([(GBound.mk pu.gName (atD pu.gArgs 0))] : List GBound))))
 (some c1)))))
 (some c1))
 (some c1)
set_option maxRecDepth 100000 in
set_option maxHeartbeats 4000000 in
theorem iProjectionsIn_1_ok  (fu : Nat)  (pu : GType) (c1 : List GBound) (r : (List GBound)) (H : iProjectionsIn_1_M fu pu c1 = some r) : ACalls Try.prog 43 [(GType.pv pu), .ptr 0 0] ⟨[some ⟨28, [.acc 4 (GBound.trs (c1)) 0]⟩], [⟨37, 4, GBound.trs (c1), false⟩]⟩ (fun q t => q = (.tup [] : PV) ∧ t = ⟨[some ⟨28, [.acc 4 (GBound.trs (r)) 0]⟩], [⟨37, 4, GBound.trs (r), false⟩]⟩) := by
  refine ACalls.intro Try.func43 rfl (by first | decide | (simp; done) | (simp; decide)) ?_; intro C hC
  refine AWP.fact (box_lenN 0 0 rfl rfl rfl (GBound.trs_len _)) (fun hl1 => ?_)
  refine AWP.seq ?_; refine AWP.region_lit ?_; refine AL.cons rfl (AOp.box (cs := [.t (.leaf (.int .i64 (pu.gKind))), .t (.leaf (.string (pu.gName))), .t (.row 3 (GType.trs (pu.gArgs)))]) rfl rfl rfl rfl rfl) ?_; refine AL.nil ?_; refine AWP.seq ?_; refine AWP.region_lit ?_; refine AL.cons rfl (AOp.fieldPtr (k := 1) (d := 0) (e := 0) rfl rfl rfl fo27_0) ?_; refine AL.cons rfl (AOp.loadPtr1 rfl rfl rfl rfl sh3 rfl) ?_; refine AL.cons rfl (AOp.eqlI rfl rfl rfl rfl) ?_; refine AL.cons rfl (AOp.move (.inl rfl) rfl rfl) ?_; refine AL.splitB 7 rfl (fun g2 => ?_) (fun g2 => ?_)
  · refine AL.cons_gv rfl rfl rfl g2 (AOp.fieldPtr (k := 1) (d := 0) (e := 2) rfl rfl rfl fo27_2) ?_; refine AL.cons_gv rfl rfl rfl g2 (AOp.loadPtr1 rfl rfl rfl rfl sh25 rfl) ?_; refine AL.fact (lk_lenN 9 rfl rfl (GType.trs_len _)) (fun hl3 => ?_)
    refine AL.cons_gv rfl rfl rfl g2 (AOp.lenN rfl rfl rfl rfl el25 (GType.trs_len _)) ?_; refine AL.cons_gv rfl rfl rfl g2 (AOp.gtr rfl rfl rfl rfl) ?_; refine AL.cons rfl (AOp.pickT rfl rfl rfl g2 rfl) ?_; refine AL.nil ?_; refine AWP.cond rfl (fun h4 => ?_) (fun h4 => ?_)
    · refine AWP.seq ?_
      rcases Classical.em (0 < (pu.gArgs).length) with hg5 | hg5
      · rcases Classical.em (Tr.bulkL (GType.tr (atD pu.gArgs 0)) ≤ 68719476735) with hg6 | hg6
        · refine AWP.drawnL ⟨_, _, fun j' _ => ([(⟨[some ⟨28, [.acc 4 (GBound.trs (c1)) 0]⟩, some ⟨27, [.t (.leaf (.int .i64 (pu.gKind))), .t (.leaf (.string (pu.gName))), .t (.row 3 (GType.trs (pu.gArgs)))]⟩], [⟨37, 4, GBound.trs (c1), false⟩]⟩ : Sto), (⟨[some ⟨28, [.acc 4 (GBound.trs (c1)) 0]⟩, some ⟨27, [.t (.leaf (.int .i64 (pu.gKind))), .t (.leaf (.string (pu.gName))), .t (.row 3 (GType.trs (pu.gArgs)))]⟩, some ⟨37, [.t (.leaf (.string (⟨#[]⟩))), .t (.leaf (.int .i64 (0))), .t (.leaf (.string (⟨#[]⟩))), .nil]⟩], [⟨37, 4, GBound.trs (c1), false⟩]⟩ : Sto), (⟨[some ⟨28, [.acc 4 (GBound.trs (c1)) 0]⟩, some ⟨27, [.t (.leaf (.int .i64 (pu.gKind))), .t (.leaf (.string (pu.gName))), .t (.row 3 (GType.trs (pu.gArgs)))]⟩, some ⟨37, [.t (.leaf (.string (pu.gName))), .t (.leaf (.int .i64 ((atD pu.gArgs 0).gKind))), .t (.leaf (.string ((atD pu.gArgs 0).gName))), .t (.row 3 (GType.trs ((atD pu.gArgs 0).gArgs)))]⟩], [⟨37, 4, GBound.trs (c1), false⟩]⟩ : Sto)] : List Sto).getD j' (⟨[some ⟨28, [.acc 4 (GBound.trs (c1)) 0]⟩, some ⟨27, [.t (.leaf (.int .i64 (pu.gKind))), .t (.leaf (.string (pu.gName))), .t (.row 3 (GType.trs (pu.gArgs)))]⟩, some ⟨37, [.t (.leaf (.string (pu.gName))), .t (.leaf (.int .i64 ((atD pu.gArgs 0).gKind))), .t (.leaf (.string ((atD pu.gArgs 0).gName))), .t (.row 3 (GType.trs ((atD pu.gArgs 0).gArgs)))]⟩], [⟨37, 4, GBound.trs (c1), false⟩]⟩ : Sto), fun q' => ([some (.ptr 1 1), some (.t (.leaf (.string (pu.gName)))), some (.ptr 1 2), some (.t (.row 3 (GType.trs (pu.gArgs)))), some (.eptr (GType.cs (atD pu.gArgs 0))), some ((GType.pv (atD pu.gArgs 0))), some ((GType.pv (atD pu.gArgs 0))), some (.agg [.t (.leaf (.string (pu.gName))), .t (.leaf (.int .i64 ((atD pu.gArgs 0).gKind))), .t (.leaf (.string ((atD pu.gArgs 0).gName))), .t (.row 3 (GType.trs ((atD pu.gArgs 0).gArgs)))]), some (.ptr 2 0), none] : List (Option PV)).getD q' none, fun q' => ([.q 0 1, .q 0 1, .q 0 1, .q 0 1, .q 0 1, .q 0 1, .q 0 1, .q 0 1, .ef 0, .ef 1] : List DK).getD q' (.q 0 0), [8, 9], none, fun q' => ([[(2, none)], [(13, some 0)], [(2, none)], [(15, some 2)], [(16, some 3)], [(17, some 4)], [(18, some 5)], [(19, some 6), (14, some 1)], [], [(3, some 8), (20, some 7)]] : List (List (Nat × Option Nat))).getD q' []⟩ rfl mixed (by kernel_rfl) rfl rfl ⟨?_, ?_, ?_, ?_, ?_, ?_, ?_, ?_, ?_, ?_, trivial⟩ rfl ?_
          · refine .inl ⟨rfl, fun s' jj bb (h1 : 0 ≤ jj) (h2 : jj ≤ 1) hs hl => ?_⟩
            rcases (by omega : jj = 0 ∨ jj = 1) with rfl | rfl <;> exact ⟨_, rfl, AOp.fieldPtr (k := 1) (d := 0) (e := 1) rfl rfl (hl 2 none _ (.head _) rfl) fo27_1⟩
          · refine .inl ⟨rfl, fun s' jj bb (h1 : 0 ≤ jj) (h2 : jj ≤ 1) hs hl => ?_⟩
            rcases (by omega : jj = 0 ∨ jj = 1) with rfl | rfl <;> exact ⟨_, rfl, AOp.loadPtr1 rfl rfl (hl 13 (some 0) _ (.head _) rfl) (by rw [hs]; rfl) sh9 rfl⟩
          · refine .inl ⟨rfl, fun s' jj bb (h1 : 0 ≤ jj) (h2 : jj ≤ 1) hs hl => ?_⟩
            rcases (by omega : jj = 0 ∨ jj = 1) with rfl | rfl <;> exact ⟨_, rfl, AOp.fieldPtr (k := 1) (d := 0) (e := 2) rfl rfl (hl 2 none _ (.head _) rfl) fo27_2⟩
          · refine .inl ⟨rfl, fun s' jj bb (h1 : 0 ≤ jj) (h2 : jj ≤ 1) hs hl => ?_⟩
            rcases (by omega : jj = 0 ∨ jj = 1) with rfl | rfl <;> exact ⟨_, rfl, AOp.loadPtr1 rfl rfl (hl 15 (some 2) _ (.head _) rfl) (by rw [hs]; rfl) sh25 rfl⟩
          · refine .inl ⟨rfl, fun s' jj bb (h1 : 0 ≤ jj) (h2 : jj ≤ 1) hs hl => ?_⟩
            rcases (by omega : jj = 0 ∨ jj = 1) with rfl | rfl <;> exact ⟨_, rfl, AOp.index (k := 0) rfl rfl (hl 16 (some 3) _ (.head _) rfl) rfl rfl (GType.trs_at hg5) el25⟩
          · refine .inl ⟨rfl, fun s' jj bb (h1 : 0 ≤ jj) (h2 : jj ≤ 1) hs hl => ?_⟩
            rcases (by omega : jj = 0 ∨ jj = 1) with rfl | rfl <;> exact ⟨_, rfl, AOp.loadEptr (ds := [.leaf (.int .i64 ((atD pu.gArgs 0).gKind)), .leaf (.string ((atD pu.gArgs 0).gName)), .row 3 (GType.trs ((atD pu.gArgs 0).gArgs))]) rfl rfl (hl 17 (some 4) _ (.head _) rfl) sh27 rfl rfl⟩
          · refine .inl ⟨rfl, fun s' jj bb (h1 : 0 ≤ jj) (h2 : jj ≤ 1) hs hl => ?_⟩
            rcases (by omega : jj = 0 ∨ jj = 1) with rfl | rfl <;> exact ⟨_, rfl, AOp.callF (res := (GType.pv (atD pu.gArgs 0))) (ps := [_]) rfl rfl Try.func44 (by kernel_rfl) rfl (evs_cons (hl 18 (some 5) _ (.head _) rfl) rfl) leA rfl rfl (icopyType_fn (atD pu.gArgs 0) hg6)⟩
          · refine .inl ⟨rfl, fun s' jj bb (h1 : 0 ≤ jj) (h2 : jj ≤ 1) hs hl => ?_⟩
            rcases (by omega : jj = 0 ∨ jj = 1) with rfl | rfl <;> exact ⟨_, rfl, AOp.build rfl rfl zr37 pl37 (parts_cons (hl 14 (some 1) _ (.tail _ (.head _)) rfl) rfl rfl (parts_cons (hl 19 (some 6) _ (.head _) rfl) rfl rfl rfl)) rfl⟩
          · refine .inl ⟨rfl, fun s' bb hs hl => ?_⟩
            refine .inl ⟨_, rfl, AOp.congr (AOp.alloc rfl rfl zr37) ?_⟩
            first | (rw [hs]; rfl) | rfl
          · refine .inl ⟨rfl, fun s' bb hs hl => ?_⟩
            refine .inr ⟨rfl, AOp.congr (AOp.storePtr (cs := [.t (.leaf (.string (pu.gName))), .t (.leaf (.int .i64 ((atD pu.gArgs 0).gKind))), .t (.leaf (.string ((atD pu.gArgs 0).gName))), .t (.row 3 (GType.trs ((atD pu.gArgs 0).gArgs)))]) (ds := [.t (.leaf (.string (pu.gName))), .t (.leaf (.int .i64 ((atD pu.gArgs 0).gKind))), .t (.leaf (.string ((atD pu.gArgs 0).gName))), .t (.row 3 (GType.trs ((atD pu.gArgs 0).gArgs)))]) rfl (hl 3 (some 8) _ (.head _) rfl) (by rw [hs]; rfl) (hl 20 (some 7) _ (.tail _ (.head _)) rfl) rfl rfl rfl sz37 (Nat.le_of_ble_eq_true rfl) rfl) ?_⟩
            first | (rw [hs]; rfl) | rfl
          refine AWP.seq ?_; refine AWP.region_lit ?_; refine AL.cons rfl (AOp.loadPtr1 rfl rfl rfl rfl sh28 rfl) ?_; refine AL.cons rfl (AOp.loadPtr (cs := [.t (.leaf (.string (pu.gName))), .t (.leaf (.int .i64 ((atD pu.gArgs 0).gKind))), .t (.leaf (.string ((atD pu.gArgs 0).gName))), .t (.row 3 (GType.trs ((atD pu.gArgs 0).gArgs)))]) rfl rfl rfl rfl sh37 rfl rfl) ?_
          rcases hq7 : ihasGoal_M fu c1 (GBound.mk pu.gName (atD pu.gArgs 0)) with _ | x8
          · have e9 : iProjectionsIn_1_M fu pu c1 = none := swT g2 (swT h4 (gdT hg5 (gdT hg6 (bdN hq7))))
            exact none_some H e9
          · refine AL.cons rfl (AOp.callF (res := .t (.leaf (.bool (x8)))) (ps := [_, _]) rfl rfl Try.func39 (by kernel_rfl) rfl rfl leA rfl rfl (ihasGoal_ok fu c1 (GBound.mk pu.gName (atD pu.gArgs 0)) _ hq7)) ?_; refine AL.cons rfl (AOp.notB rfl rfl rfl) ?_; refine AL.nil ?_; refine AWP.cond rfl (fun h10 => ?_) (fun h10 => ?_)
            · refine AWP.region_lit ?_; refine AL.cons rfl (AOp.loadPtr1 rfl rfl rfl rfl sh28 rfl) ?_; refine AL.cons rfl (AOp.loadPtr (cs := [.t (.leaf (.string (pu.gName))), .t (.leaf (.int .i64 ((atD pu.gArgs 0).gKind))), .t (.leaf (.string ((atD pu.gArgs 0).gName))), .t (.row 3 (GType.trs ((atD pu.gArgs 0).gArgs)))]) rfl rfl rfl rfl sh37 rfl rfl) ?_; refine AL.cons rfl (AOp.buildSliceE (es := [GBound.cs (GBound.mk pu.gName (atD pu.gArgs 0))]) (es' := GBound.trs (([(GBound.mk pu.gName (atD pu.gArgs 0))] : List GBound))) (cs := [.t (.leaf (.string (pu.gName))), .t (.leaf (.int .i64 ((atD pu.gArgs 0).gKind))), .t (.leaf (.string ((atD pu.gArgs 0).gName))), .t (.row 3 (GType.trs ((atD pu.gArgs 0).gArgs)))]) rfl rfl el28 zr37 rfl rfl leA rfl (by simp [GBound.cs]) (by decide) rfl (by decide) (by simp [GBound.trs_map, GBound.tr_cs])) ?_
              rcases Classical.em ((c1).length + (([(GBound.mk pu.gName (atD pu.gArgs 0))] : List GBound)).length ≤ 68719476736) with hg11 | hg11
              · refine AL.cons rfl (AOp.appendE (es3 := GBound.trs (c1 ++ ([(GBound.mk pu.gName (atD pu.gArgs 0))] : List GBound))) rfl rfl rfl rfl rfl rfl rfl rfl rfl (fun e he => by rw [GBound.trs_map] at he; obtain ⟨x, _, rfl⟩ := List.mem_map.1 he; rw [GBound.tr_cs]; rfl) el28 ze28 (by decide) (by rw [GBound.trs_len, GBound.trs_len]; exact room_le hg11 (by decide)) (by rw [GBound.trs_map, GBound.trs_map, GBound.trs_map, List.map_append])) ?_; refine AL.cons rfl (AOp.storePtr (cs := [.acc 4 (GBound.trs (c1 ++ ([(GBound.mk pu.gName (atD pu.gArgs 0))] : List GBound))) 0]) (ds := [.acc 4 (GBound.trs (c1 ++ ([(GBound.mk pu.gName (atD pu.gArgs 0))] : List GBound))) 0]) rfl rfl rfl rfl rfl rfl rfl sz28 (Nat.le_of_ble_eq_true rfl) rfl) ?_; refine AL.nil ?_
                have e12 : iProjectionsIn_1_M fu pu c1 = some (c1 ++ ([(GBound.mk pu.gName (atD pu.gArgs 0))] : List GBound)) := swT g2 (swT h4 (gdT hg5 (gdT hg6 (bdS hq7 (swT h10 (gdT hg11 (rfl)))))))
                have hz : (c1 ++ ([(GBound.mk pu.gName (atD pu.gArgs 0))] : List GBound)) = r := Option.some.inj (e12.symm.trans H)
                subst hz
                exact Ends.mk (ps := []) (by first | exact .inr rfl | exact .inl rfl) trivial rfl (StLe.mk' (st' := ⟨[some ⟨28, [.acc 4 (GBound.trs ((c1 ++ ([(GBound.mk pu.gName (atD pu.gArgs 0))] : List GBound)))) 0]⟩], [⟨37, 4, GBound.trs ((c1 ++ ([(GBound.mk pu.gName (atD pu.gArgs 0))] : List GBound))), false⟩]⟩) ⟨⟨rfl, leA, rfl⟩, trivial⟩ (by first | rfl | simp)) (keeps_all hC (boxes1 rfl) (Nat.le_of_ble_eq_true rfl)) (q := (.tup [] : PV)) leA rfl ⟨rfl, rfl⟩
              · have e13 : iProjectionsIn_1_M fu pu c1 = none := swT g2 (swT h4 (gdT hg5 (gdT hg6 (bdS hq7 (swT h10 (gdF hg11))))))
                exact none_some H e13
            · refine AWP.skip ?_
              have e14 : iProjectionsIn_1_M fu pu c1 = some c1 := swT g2 (swT h4 (gdT hg5 (gdT hg6 (bdS hq7 (swF h10 (rfl))))))
              have hz : c1 = r := Option.some.inj (e14.symm.trans H)
              subst hz
              exact Ends.mk (ps := []) (by first | exact .inr rfl | exact .inl rfl) trivial rfl (StLe.mk' (st' := ⟨[some ⟨28, [.acc 4 (GBound.trs (c1)) 0]⟩], [⟨37, 4, GBound.trs (c1), false⟩]⟩) ⟨⟨rfl, leA, rfl⟩, trivial⟩ (by first | rfl | simp)) (keeps_all hC (boxes1 rfl) (Nat.le_of_ble_eq_true rfl)) (q := (.tup [] : PV)) leA rfl ⟨rfl, rfl⟩
        · have e15 : iProjectionsIn_1_M fu pu c1 = none := swT g2 (swT h4 (gdT hg5 (gdF hg6)))
          exact none_some H e15
      · have e16 : iProjectionsIn_1_M fu pu c1 = none := swT g2 (swT h4 (gdF hg5))
        exact none_some H e16
    · refine AWP.skip ?_
      have e17 : iProjectionsIn_1_M fu pu c1 = some c1 := swT g2 (swF h4 (rfl))
      have hz : c1 = r := Option.some.inj (e17.symm.trans H)
      subst hz
      exact Ends.mk (ps := []) (by first | exact .inr rfl | exact .inl rfl) trivial rfl (StLe.mk' (st' := ⟨[some ⟨28, [.acc 4 (GBound.trs (c1)) 0]⟩], [⟨37, 4, GBound.trs (c1), false⟩]⟩) ⟨⟨rfl, leA, rfl⟩, trivial⟩ (by first | rfl | simp)) (keeps_all hC (boxes1 rfl) (Nat.le_of_ble_eq_true rfl)) (q := (.tup [] : PV)) leA rfl ⟨rfl, rfl⟩
  · refine AL.skipP rfl rfl rfl g2 rfl rfl ?_; refine AL.skipP rfl rfl rfl g2 rfl rfl ?_; refine AL.skipP rfl rfl rfl g2 rfl rfl ?_; refine AL.skipP rfl rfl rfl g2 rfl rfl ?_; refine AL.cons rfl (AOp.pickF rfl rfl rfl g2 rfl) ?_; refine AL.nil ?_; refine AWP.cond rfl (fun h18 => ?_) (fun h18 => ?_)
    · exact absurd (h18.symm.trans rfl) (by decide)
    · refine AWP.skip ?_
      have e19 : iProjectionsIn_1_M fu pu c1 = some c1 := swF g2 (rfl)
      have hz : c1 = r := Option.some.inj (e19.symm.trans H)
      subst hz
      exact Ends.mk (ps := []) (by first | exact .inr rfl | exact .inl rfl) trivial rfl (StLe.mk' (st' := ⟨[some ⟨28, [.acc 4 (GBound.trs (c1)) 0]⟩], [⟨37, 4, GBound.trs (c1), false⟩]⟩) ⟨⟨rfl, leA, rfl⟩, trivial⟩ (by first | rfl | simp)) (keeps_all hC (boxes1 rfl) (Nat.le_of_ble_eq_true rfl)) (q := (.tup [] : PV)) leA rfl ⟨rfl, rfl⟩

noncomputable def ieachType__iProjectionsIn_1_F1 (fu : Nat) (r_ieachType__iProjectionsIn_1 : GType → (List GBound) → Option ((List GBound))) (pt : GType) (c1_0 : List GBound) (x3 : List GBound) : Nat → ((List GBound)) → Option (LR ((List GBound)) ((List GBound))) :=
 fun i6 v8 => bd (r_ieachType__iProjectionsIn_1 (atD pt.gArgs i6) v8) (fun x12 =>
 some (.next x12))
noncomputable def ieachType__iProjectionsIn_1_R1 (fu : Nat) (r_ieachType__iProjectionsIn_1 : GType → (List GBound) → Option ((List GBound))) (pt : GType) (c1_0 : List GBound) (x3 : List GBound) : Option (((List GBound)) ⊕ ((List GBound))) :=
 loopN (ieachType__iProjectionsIn_1_F1 fu r_ieachType__iProjectionsIn_1 pt c1_0 x3) (pt.gArgs.length - 0) 0 x3
noncomputable def ieachType__iProjectionsIn_1_G (fu : Nat) (r_ieachType__iProjectionsIn_1 : GType → (List GBound) → Option ((List GBound))) (pt : GType) (c1_0 : List GBound) : Option ((List GBound)) :=
 bd (iProjectionsIn_1_M fu pt c1_0) (fun x3 =>
 so (ieachType__iProjectionsIn_1_R1 fu r_ieachType__iProjectionsIn_1 pt c1_0 x3) (fun v8 =>
 some v8))
set_option maxRecDepth 100000 in
set_option maxHeartbeats 4000000 in
theorem ieachType__iProjectionsIn_1_step (r_ieachType__iProjectionsIn_1 : GType → (List GBound) → Option ((List GBound))) (fu : Nat) (h_ieachType__iProjectionsIn_1 : ∀ (pt : GType) (c1_0 : List GBound) (r : (List GBound)), r_ieachType__iProjectionsIn_1 pt c1_0 = some r → ACalls Try.prog 42 [(GType.pv pt), .fn 43 [.ptr 0 0]] ⟨[some ⟨28, [.acc 4 (GBound.trs (c1_0)) 0]⟩], [⟨37, 4, GBound.trs (c1_0), false⟩]⟩ (fun q t => q = (.tup [] : PV) ∧ t = ⟨[some ⟨28, [.acc 4 (GBound.trs (r)) 0]⟩], [⟨37, 4, GBound.trs (r), false⟩]⟩)) (pt : GType) (c1_0 : List GBound) (r : (List GBound)) (H : ieachType__iProjectionsIn_1_G fu r_ieachType__iProjectionsIn_1 pt c1_0 = some r) : ACalls Try.prog 42 [(GType.pv pt), .fn 43 [.ptr 0 0]] ⟨[some ⟨28, [.acc 4 (GBound.trs (c1_0)) 0]⟩], [⟨37, 4, GBound.trs (c1_0), false⟩]⟩ (fun q t => q = (.tup [] : PV) ∧ t = ⟨[some ⟨28, [.acc 4 (GBound.trs (r)) 0]⟩], [⟨37, 4, GBound.trs (r), false⟩]⟩) := by
  refine ACalls.intro Try.func42 rfl (by first | decide | (simp; done) | (simp; decide)) ?_; intro C hC
  refine AWP.fact (box_lenN 0 0 rfl rfl rfl (GBound.trs_len _)) (fun hl1 => ?_)
  refine AWP.seq ?_; refine AWP.region_lit ?_; refine AL.cons rfl (AOp.box (cs := [.t (.leaf (.int .i64 (pt.gKind))), .t (.leaf (.string (pt.gName))), .t (.row 3 (GType.trs (pt.gArgs)))]) rfl rfl rfl rfl rfl) ?_; refine AL.nil ?_; refine AWP.seq ?_; refine AWP.region_lit ?_; refine AL.cons rfl (AOp.move (.inl rfl) rfl rfl) ?_; refine AL.cons rfl (AOp.loadPtr (cs := [.t (.leaf (.int .i64 (pt.gKind))), .t (.leaf (.string (pt.gName))), .t (.row 3 (GType.trs (pt.gArgs)))]) rfl rfl rfl rfl sh27 rfl rfl) ?_
  rcases hq2 : iProjectionsIn_1_M fu pt c1_0 with _ | x3
  · have e4 : ieachType__iProjectionsIn_1_G fu r_ieachType__iProjectionsIn_1 pt c1_0 = none := bdN hq2
    exact none_some H e4
  · refine AL.cons rfl (AOp.callVPE (pre := ⟨[some ⟨28, [.acc 4 (GBound.trs (c1_0)) 0]⟩], [⟨37, 4, GBound.trs (c1_0), false⟩]⟩) (st' := ⟨[some ⟨28, [.acc 4 (GBound.trs (x3)) 0]⟩], [⟨37, 4, GBound.trs (x3), false⟩]⟩) (ps := [_]) (cs := [.ptr 0 0]) (qs := [(GType.pv pt), .ptr 0 0]) [0] [0] rfl rfl rfl Try.func43 (by kernel_rfl) rfl rfl rfl (Part0.of ⟨⟨_, rfl, rfl, leA, rfl⟩, trivial⟩ ⟨rfl, trivial⟩ (by decide) (by decide)) leA rfl rfl rfl (iProjectionsIn_1_ok fu pt c1_0 _ hq2)) ?_; refine AL.nil ?_; refine AWP.seq ?_; refine AWP.region_lit ?_; refine AL.cons rfl (AOp.fieldPtr (k := 1) (d := 0) (e := 2) rfl rfl rfl fo27_2) ?_; refine AL.cons rfl (AOp.loadPtr1 rfl rfl rfl rfl sh25 rfl) ?_; refine AL.fact (lk_lenN 10 rfl rfl (GType.trs_len _)) (fun hl5 => ?_)
    refine AL.cons rfl (AOp.lenN rfl rfl rfl rfl el25 (GType.trs_len _)) ?_; refine AL.cons rfl (AOp.move (.inl rfl) rfl rfl) ?_; refine AL.nil ?_; refine AWP.cut (ι := (List GBound)) (fun v8 => ieachType__iProjectionsIn_1_R1 fu r_ieachType__iProjectionsIn_1 pt c1_0 x3 = some (.inr v8)) (fun v8 => ⟨[], ⟨[some ⟨28, [.acc 4 (GBound.trs (v8)) 0]⟩, some ⟨27, [.t (.leaf (.int .i64 (pt.gKind))), .t (.leaf (.string (pt.gName))), .t (.row 3 (GType.trs (pt.gArgs)))]⟩], [⟨37, 4, GBound.trs (v8), false⟩]⟩⟩) (by repeat' (first | exact qcEnds | exact ncAWP | exact ncRound | exact ncEx | apply qcThen | apply qcBlock | apply qcCut)) ?_ ?_
    · refine AWP.block ?_; refine AWP.loopR (ι := Nat × ((List GBound))) (fun (i6, v8) => ieachType__iProjectionsIn_1_R1 fu r_ieachType__iProjectionsIn_1 pt c1_0 x3 = loopN (ieachType__iProjectionsIn_1_F1 fu r_ieachType__iProjectionsIn_1 pt c1_0 x3) (pt.gArgs.length - i6) i6 v8) (fun (i6, v8) => ⟨[(1, .fn 43 [.ptr 0 0]), (10, .t (.row 3 (GType.trs (pt.gArgs)))), (11, .t (.leaf (.int .i64 (((pt.gArgs.length : Nat) : Int))))), (12, .t (.leaf (.int .i64 (((i6 : Nat) : Int)))))], ⟨[some ⟨28, [.acc 4 (GBound.trs (v8)) 0]⟩, some ⟨27, [.t (.leaf (.int .i64 (pt.gKind))), .t (.leaf (.string (pt.gName))), .t (.row 3 (GType.trs (pt.gArgs)))]⟩], [⟨37, 4, GBound.trs (v8), false⟩]⟩⟩) (fun (i6, v8) => pt.gArgs.length - i6) (0, x3) ?_ ?_ ?_
      · exact rfl
      · exact Wk.mk (StLe.mk' ⟨⟨rfl, leA, rfl⟩, ⟨⟨rfl, leA, rfl⟩, trivial⟩⟩ (by first | rfl | simp)) (keeps_all hC (boxes1 rfl) (Nat.le_of_ble_eq_true rfl)) ⟨⟨_, rfl, .refl _, rfl⟩, ⟨⟨_, rfl, .refl _, rfl⟩, ⟨⟨_, rfl, .refl _, rfl⟩, ⟨⟨_, rfl, leA, rfl⟩, trivial⟩⟩⟩⟩
      · rintro ⟨i6, v8⟩ hJ9
        refine AWP.seq ?_; refine AWP.region_lit ?_; refine AL.cons rfl (AOp.lss rfl rfl rfl rfl) ?_; refine AL.nil ?_; refine AWP.seq ?_; refine AWP.cond rfl (fun h10 => ?_) (fun h10 => ?_)
        · have h10l : i6 < pt.gArgs.length := nat_lt_of2 h10
          have h10n := nat_lt_of h10
          refine AWP.skip ?_; refine AWP.seq ?_; refine AWP.block ?_; refine AWP.seq ?_; refine AWP.region_lit ?_; refine AL.cons rfl (AOp.index (k := i6) rfl rfl rfl rfl rfl (GType.trs_at h10n) el25) ?_; refine AL.cons rfl (AOp.loadEptr (ds := [.leaf (.int .i64 ((atD pt.gArgs i6).gKind)), .leaf (.string ((atD pt.gArgs i6).gName)), .row 3 (GType.trs ((atD pt.gArgs i6).gArgs))]) rfl rfl rfl sh27 rfl rfl) ?_; refine AL.cons rfl (AOp.alloc rfl rfl zr27) ?_; refine AL.cons rfl (AOp.storePtr (cs := [.t (.leaf (.int .i64 ((atD pt.gArgs i6).gKind))), .t (.leaf (.string ((atD pt.gArgs i6).gName))), .t (.row 3 (GType.trs ((atD pt.gArgs i6).gArgs)))]) (ds := [.t (.leaf (.int .i64 ((atD pt.gArgs i6).gKind))), .t (.leaf (.string ((atD pt.gArgs i6).gName))), .t (.row 3 (GType.trs ((atD pt.gArgs i6).gArgs)))]) rfl rfl rfl rfl rfl rfl rfl sz27 (Nat.le_of_ble_eq_true rfl) rfl) ?_; refine AL.nil ?_; refine AWP.region_lit ?_; refine AL.cons rfl (AOp.loadPtr (cs := [.t (.leaf (.int .i64 ((atD pt.gArgs i6).gKind))), .t (.leaf (.string ((atD pt.gArgs i6).gName))), .t (.row 3 (GType.trs ((atD pt.gArgs i6).gArgs)))]) rfl rfl rfl rfl sh27 rfl rfl) ?_; refine AL.cons rfl (AOp.move (.inl rfl) rfl rfl) ?_
          rcases hq11 : r_ieachType__iProjectionsIn_1 (atD pt.gArgs i6) v8 with _ | x12
          · have e13 : (ieachType__iProjectionsIn_1_F1 fu r_ieachType__iProjectionsIn_1 pt c1_0 x3) i6 v8 = none := bdN hq11
            have e14 : ieachType__iProjectionsIn_1_R1 fu r_ieachType__iProjectionsIn_1 pt c1_0 x3 = none := loopN_non h10l hJ9 e13
            have e15 : ieachType__iProjectionsIn_1_G fu r_ieachType__iProjectionsIn_1 pt c1_0 = none := bdS hq2 (soN e14)
            exact none_some H e15
          · refine AL.cons rfl (AOp.callPE (pre := ⟨[some ⟨28, [.acc 4 (GBound.trs (v8)) 0]⟩], [⟨37, 4, GBound.trs (v8), false⟩]⟩) (st' := ⟨[some ⟨28, [.acc 4 (GBound.trs (x12)) 0]⟩], [⟨37, 4, GBound.trs (x12), false⟩]⟩) (ps := [_, _]) (qs := [(GType.pv (atD pt.gArgs i6)), .fn 43 [.ptr 0 0]]) [0] [0] rfl rfl Try.func42 (by kernel_rfl) rfl rfl rfl (Part0.of ⟨⟨_, rfl, rfl, leA, rfl⟩, trivial⟩ ⟨rfl, trivial⟩ (by decide) (by decide)) leA rfl rfl rfl (h_ieachType__iProjectionsIn_1 (atD pt.gArgs i6) v8 _ hq11)) ?_; refine AL.nil ?_; refine AWP.region_lit ?_; refine AL.cons rfl (AOp.addI rfl rfl rfl rfl (c := ((i6 + 1 : Nat) : Int)) (by omega) (by omega)) ?_; refine AL.cons rfl (AOp.move (.inl rfl) rfl rfl) ?_; refine AL.nil ?_
            have e16 : (ieachType__iProjectionsIn_1_F1 fu r_ieachType__iProjectionsIn_1 pt c1_0 x3) i6 v8 = some (.next x12) := bdS hq11 (rfl)
            refine ⟨(i6 + 1, x12), loopN_next h10l hJ9 e16, ?_, ?_⟩
            · exact Wk.mk (StLe.mk' ⟨⟨rfl, leA, rfl⟩, ⟨⟨rfl, leA, rfl⟩, trivial⟩⟩ (by first | rfl | simp)) (keeps_all hC (boxes1 rfl) (Nat.le_of_ble_eq_true rfl)) ⟨⟨_, rfl, .refl _, rfl⟩, ⟨⟨_, rfl, .refl _, rfl⟩, ⟨⟨_, rfl, .refl _, rfl⟩, ⟨⟨_, rfl, leA, rfl⟩, trivial⟩⟩⟩⟩
            · dsimp only; omega
        · have h10l : pt.gArgs.length ≤ i6 := nat_ge_of2 h10
          refine AWP.exit ?_; refine ⟨v8, loopN_end h10l hJ9, ?_⟩
          exact Wk.mk (StLe.mk' ⟨⟨rfl, leA, rfl⟩, ⟨⟨rfl, leA, rfl⟩, trivial⟩⟩ (by first | rfl | simp)) (keeps_all hC (boxes1 rfl) (Nat.le_of_ble_eq_true rfl)) trivial
    · rintro v8 hR17
      have e18 : ieachType__iProjectionsIn_1_G fu r_ieachType__iProjectionsIn_1 pt c1_0 = some v8 := bdS hq2 (soR hR17 (rfl))
      have hz : v8 = r := Option.some.inj (e18.symm.trans H)
      subst hz
      exact Ends.mk (ps := []) (by first | exact .inr rfl | exact .inl rfl) trivial rfl (StLe.mk' (st' := ⟨[some ⟨28, [.acc 4 (GBound.trs (v8)) 0]⟩], [⟨37, 4, GBound.trs (v8), false⟩]⟩) ⟨⟨rfl, leA, rfl⟩, trivial⟩ (by first | rfl | simp)) (keeps_all hC (boxes1 rfl) (Nat.le_of_ble_eq_true rfl)) (q := (.tup [] : PV)) leA rfl ⟨rfl, rfl⟩
noncomputable def ieachType__iProjectionsIn_1_M : Nat → GType → (List GBound) → Option ((List GBound))
  | 0, _, _ => none
  | fu + 1, pt, c1_0 => ieachType__iProjectionsIn_1_G fu (ieachType__iProjectionsIn_1_M fu) pt c1_0
theorem ieachType__iProjectionsIn_1_all (fu : Nat) : (∀ (pt : GType) (c1_0 : List GBound) (r : (List GBound)), ieachType__iProjectionsIn_1_M fu pt c1_0 = some r → ACalls Try.prog 42 [(GType.pv pt), .fn 43 [.ptr 0 0]] ⟨[some ⟨28, [.acc 4 (GBound.trs (c1_0)) 0]⟩], [⟨37, 4, GBound.trs (c1_0), false⟩]⟩ (fun q t => q = (.tup [] : PV) ∧ t = ⟨[some ⟨28, [.acc 4 (GBound.trs (r)) 0]⟩], [⟨37, 4, GBound.trs (r), false⟩]⟩)) := by
  induction fu with
  | zero => exact (fun pt c1_0 r H => by simp only [ieachType__iProjectionsIn_1_M] at H; cases H)
  | succ fu ih => exact (fun pt c1_0 r H => by simp only [ieachType__iProjectionsIn_1_M] at H; exact ieachType__iProjectionsIn_1_step (ieachType__iProjectionsIn_1_M fu) fu ih pt c1_0 r H)
theorem ieachType__iProjectionsIn_1_ok (fu : Nat) (pt : GType) (c1_0 : List GBound) (r : (List GBound)) (H : ieachType__iProjectionsIn_1_M fu pt c1_0 = some r) : ACalls Try.prog 42 [(GType.pv pt), .fn 43 [.ptr 0 0]] ⟨[some ⟨28, [.acc 4 (GBound.trs (c1_0)) 0]⟩], [⟨37, 4, GBound.trs (c1_0), false⟩]⟩ (fun q t => q = (.tup [] : PV) ∧ t = ⟨[some ⟨28, [.acc 4 (GBound.trs (r)) 0]⟩], [⟨37, 4, GBound.trs (r), false⟩]⟩) := (ieachType__iProjectionsIn_1_all fu) pt c1_0 r H

noncomputable def iProjectionsIn_M (fu : Nat)  (pt : GType) : Option ((List GBound)) :=
 bd (ieachType__iProjectionsIn_1_M fu pt ([])) (fun x2 =>
 some x2)
set_option maxRecDepth 100000 in
set_option maxHeartbeats 4000000 in
theorem iProjectionsIn_ok  (fu : Nat)  (pt : GType) (r : (List GBound)) (H : iProjectionsIn_M fu pt = some r) : AFun Try.prog 11 [(GType.pv pt)] (.t (.row 4 (GBound.trs (r))) : PV) := by
  refine ACalls.intro Try.func11 rfl (by first | decide | (simp; done) | (simp; decide)) ?_; intro C hC
  refine AWP.seq ?_; refine AWP.region_lit ?_; refine AL.cons rfl (AOp.box (cs := [.t (.leaf (.int .i64 (pt.gKind))), .t (.leaf (.string (pt.gName))), .t (.row 3 (GType.trs (pt.gArgs)))]) rfl rfl rfl rfl rfl) ?_; refine AL.cons rfl (AOp.move (.inr rfl) rfl rfl) ?_; refine AL.nil ?_; refine AWP.seq ?_; refine AWP.region_lit ?_; refine AL.cons rfl (AOp.buildSliceA (es := []) (es' := GBound.trs ([])) (cs := []) rfl rfl el28 zr37 rfl rfl leA rfl (by simp [GBound.cs]) (by decide) rfl (by decide) (by simp [GBound.trs_map, GBound.tr_cs])) ?_; refine AL.cons rfl (AOp.alloc rfl rfl zr28) ?_; refine AL.cons rfl (AOp.storePtr (cs := [.acc 4 (GBound.trs ([])) 0]) (ds := [.acc 4 (GBound.trs ([])) 0]) rfl rfl rfl rfl rfl rfl rfl sz28 (Nat.le_of_ble_eq_true rfl) rfl) ?_; refine AL.nil ?_; refine AWP.seq ?_; refine AWP.region_lit ?_; refine AL.cons rfl (AOp.loadPtr (cs := [.t (.leaf (.int .i64 (pt.gKind))), .t (.leaf (.string (pt.gName))), .t (.row 3 (GType.trs (pt.gArgs)))]) rfl rfl rfl rfl sh27 rfl rfl) ?_; refine AL.cons rfl (AOp.makeFunc (ps := [.ptr 1 0]) rfl rfl rfl) ?_
  rcases hq1 : ieachType__iProjectionsIn_1_M fu pt ([]) with _ | x2
  · have e3 : iProjectionsIn_M fu pt = none := bdN hq1
    exact none_some H e3
  · refine AL.cons rfl (AOp.callPE (pre := ⟨[some ⟨28, [.acc 4 (GBound.trs ([])) 0]⟩], [⟨37, 4, GBound.trs ([]), false⟩]⟩) (st' := ⟨[some ⟨28, [.acc 4 (GBound.trs (x2)) 0]⟩], [⟨37, 4, GBound.trs (x2), false⟩]⟩) (ps := [_, _]) (qs := [(GType.pv pt), .fn 43 [.ptr 0 0]]) [1] [0] rfl rfl Try.func42 (by kernel_rfl) rfl rfl rfl (Part0.of ⟨⟨_, rfl, rfl, leA, rfl⟩, trivial⟩ ⟨rfl, trivial⟩ (by decide) (by decide)) leA rfl rfl rfl (ieachType__iProjectionsIn_1_ok fu pt ([]) _ hq1)) ?_; refine AL.nil ?_; refine AWP.seq ?_; refine AWP.region_lit ?_; refine AL.cons rfl (AOp.loadPtr1 rfl rfl rfl rfl sh28 rfl) ?_; refine AL.cons rfl (AOp.move (.inr rfl) rfl rfl) ?_; refine AL.nil ?_; refine AWP.ret ?_
    have e4 : iProjectionsIn_M fu pt = some x2 := bdS hq1 (rfl)
    have hz : x2 = r := Option.some.inj (e4.symm.trans H)
    subst hz
    exact Ends.mk (ps := [_]) (by first | exact .inr rfl | exact .inl rfl) ⟨rfl, trivial⟩ rfl (StLe.mk' (st' := ⟨[], []⟩) trivial rfl) (keeps_nil hC) (q := (.t (.row 4 (GBound.trs (x2))) : PV)) leA rfl ⟨rfl, rfl⟩

end Go.Proofs.Ytlijdhhajojenaa

namespace Go.Proofs.Ytlijdhhajojenaa
open Go.RowKit Go.Proofs

def projStep (out : List GBound) : GType → List GBound
  | .mk k n (a :: _) => if k = 3 then (if out.any (fun x => GBound.eq x (.mk n a)) then out else out ++ [.mk n a]) else out
  | .mk _ _ [] => out
def GType.projs (t : GType) : List GBound := t.pre.foldl projStep []
theorem projStep_kind {out : List GBound} {k : Int} {n : ByteArray} {l : List GType} (h : ¬ k = 3) : projStep out (.mk k n l) = out := by cases l <;> simp [projStep, h]
theorem projStep_nil {out : List GBound} {k : Int} {n : ByteArray} : projStep out (.mk k n []) = out := rfl
theorem projStep_has {out : List GBound} {n : ByteArray} {a : GType} {l : List GType} (h : out.any (fun x => GBound.eq x (.mk n a)) = true) : projStep out (.mk 3 n (a :: l)) = out := by simp [projStep, h]
theorem projStep_new {out : List GBound} {n : ByteArray} {a : GType} {l : List GType} (h : out.any (fun x => GBound.eq x (.mk n a)) = false) : projStep out (.mk 3 n (a :: l)) = out ++ [.mk n a] := by simp [projStep, h]
theorem projStep_len (out : List GBound) (u : GType) : (projStep out u).length ≤ out.length + 1 := by
  obtain ⟨k, n, l⟩ := u
  cases l with
  | nil => rw [projStep_nil]; omega
  | cons a l =>
    by_cases hk : k = 3
    · subst hk
      cases h : out.any (fun x => GBound.eq x (.mk n a))
      · rw [projStep_new h]; simp
      · rw [projStep_has h]; omega
    · rw [projStep_kind hk]; omega
end Go.Proofs.Ytlijdhhajojenaa

namespace Go.Proofs.Ytlijdhhajojenaa
set_option linter.unusedSimpArgs false
set_option linter.unusedVariables false
open Go.RowKit Go.Proofs

theorem projSteps_len : ∀ (l : List GType) (s : List GBound), (l.foldl projStep s).length ≤ s.length + l.length
  | [], s => by simp
  | a :: l, s => by
    rw [List.foldl_cons, List.length_cons]
    have h1 := projSteps_len l (projStep s a)
    have h2 := projStep_len s a
    omega
theorem pres_foldl : ∀ (xs : List GType) (s : List GBound), xs.foldl (fun s x => x.pre.foldl projStep s) s = (GType.pres xs).foldl projStep s
  | [], s => rfl
  | a :: l, s => by rw [List.foldl_cons, pres_foldl l, GType.pres, List.foldl_append]
theorem orfold {α : Type} (p : α → Bool) : ∀ (l : List α) (b : Bool), l.foldl (fun b x => if b then true else p x) b = (b || l.any p)
  | [], b => by simp
  | a :: l, b => by
    rw [List.foldl_cons, orfold p l, List.any_cons]
    cases b <;> simp
theorem sl23Projs_C1_eq (fu : Nat) (r1 : GType → List GBound → Option (List GBound)) (k : Int) (n : ByteArray) (xs : List GType) (out : List GBound) (hb : Tr.bulkL (GType.mk k n xs).tr ≤ 68719476735) (ho : out.length + 1 ≤ 68719476736) :
    sl23Projs_C1 fu r1 (.mk k n xs) out = some (.inr (projStep out (.mk k n xs))) := by
  unfold sl23Projs_C1
  simp only [GType.gKind_mk, GType.gName_mk, GType.gArgs_mk]
  by_cases hk : k = 3
  · subst hk
    rw [swT (by simp) rfl]
    cases xs with
    | nil => rw [swF (by simp) rfl]; rfl
    | cons a l =>
      have hb1 := bulk_args 3 n (a :: l)
      have hb2 : Tr.bulkL a.tr ≤ Tr.bulkAll (GType.trs (a :: l)) := bulk_mem (by simp)
      have ha : atD (a :: l) 0 = a := rfl
      rw [swT (by first | (simp; done) | (simp; omega)) rfl, gdT (by simp) rfl, gdT (by rw [ha]; omega) rfl]
      have hR : sl23Projs_R2 fu r1 (.mk 3 n (a :: l)) out = some (.inr (out.any fun x => GBound.eq x (.mk n a))) := by
        unfold sl23Projs_R2
        rw [loopN_fold0 (l := out) (g := fun b x => if b then true else GBound.eq x (.mk n a)) (fun _ _ => True) (fun i s hi _ => ⟨?_, trivial⟩) trivial, orfold, Bool.false_or]
        rw [sl23Projs_F2]
        simp only [GType.gName_mk, GType.gArgs_mk, ha]
        cases s <;> rfl
      rw [soR hR rfl]
      cases hany : out.any fun x => GBound.eq x (.mk n a)
      · rw [swT (by simp) rfl, gdT (by simpa using ho) rfl, projStep_new hany, ha]
      · rw [swF (by simp) rfl, projStep_has hany]
  · rw [swF (by simp [hk]) rfl, projStep_kind hk]
theorem sl23Projs_ev : ∀ t : GType, Tr.bulkL t.tr ≤ 68719476735 → Evt fun fu => ∀ out : List GBound, out.length + t.pre.length ≤ 68719476736 → sl23Projs_M fu t out = some (t.pre.foldl projStep out) := by
  refine GType.ind fun k n xs ih hb => ?_
  have hb1 := bulk_args k n xs
  refine Evt.succ ((Evt.list fun x hx => ih x hx (by have := bulk_mem hx; omega)).imp fun fu hf out ho => ?_)
  rw [GType.pre, List.length_cons] at ho
  simp only [sl23Projs_M, sl23Projs_G]
  rw [soR (sl23Projs_C1_eq fu _ k n xs out hb (by omega)) rfl]
  have h1 := projStep_len out (.mk k n xs)
  unfold sl23Projs_R3
  simp only [GType.gArgs_mk]
  rw [loopN_fold0 (l := xs) (g := fun s x => x.pre.foldl projStep s) (fun i s => s.length + (GType.pres (xs.drop i)).length ≤ 68719476736) (fun i s hi hp => ?_) (by rw [List.drop_zero]; omega)]
  · rw [GType.pre, List.foldl_cons, pres_foldl]; rfl
  · rw [drop_atD hi, GType.pres, List.length_append] at hp
    refine ⟨?_, ?_⟩
    · rw [sl23Projs_F3]
      simp only [GType.gArgs_mk]
      rw [bdS (hf _ (atD_mem hi) s (by omega)) rfl]
    · have := projSteps_len (atD xs i).pre s
      omega
theorem sProjectionsIn_fn (t : GType) (hb : Tr.bulkL t.tr ≤ 68719476735) (hp : t.pre.length ≤ 68719476736) : AFun Try.prog 40 [(GType.pv t)] (.t (.row 4 (GBound.trs t.projs))) := by
  obtain ⟨fu, h⟩ := (sl23Projs_ev t hb).get
  refine sProjectionsIn_ok fu t _ ?_
  unfold sProjectionsIn_M
  rw [bdS (h [] (by simpa using hp)) rfl]
  rfl
theorem ihasGoal_eq (fu : Nat) (l : List GBound) (g : GBound) : ihasGoal_M fu l g = some (l.any fun x => GBound.eq x g) := by
  have h1 : gIndexFunc_Bound__ihasGoal_1_M fu l g = some (match l.findIdx? (fun x => GBound.eq x g) with | some i => ((i : Nat) : Int) | none => -1) := by
    unfold gIndexFunc_Bound__ihasGoal_1_M gIndexFunc_Bound__ihasGoal_1_R1
    rw [loopN_index (l := l) (p := fun x => GBound.eq x g) fun i hi => by
      rw [gIndexFunc_Bound__ihasGoal_1_F1]
      simp only [ihasGoal_1_M, bd]
      cases GBound.eq (atD l i) g <;> rfl]
    cases l.findIdx? fun x => GBound.eq x g <;> rfl
  unfold ihasGoal_M gContainsFunc_Bound__ihasGoal_1_M
  rw [bdS (a := l.any fun x => GBound.eq x g) (by rw [bdS h1 rfl]; exact congrArg some index_any) rfl]
theorem ihasGoal_fn (l : List GBound) (g : GBound) : AFun Try.prog 39 [.t (.row 4 (GBound.trs l)), (GBound.pv g)] (.t (.leaf (.bool (l.any fun x => GBound.eq x g)))) := ihasGoal_ok 0 l g _ (ihasGoal_eq 0 l g)
theorem iProjectionsIn_1_eq (fu : Nat) (k : Int) (n : ByteArray) (xs : List GType) (out : List GBound) (hb : Tr.bulkL (GType.mk k n xs).tr ≤ 68719476735) (ho : out.length + 1 ≤ 68719476736) :
    iProjectionsIn_1_M fu (.mk k n xs) out = some (projStep out (.mk k n xs)) := by
  unfold iProjectionsIn_1_M
  simp only [GType.gKind_mk, GType.gName_mk, GType.gArgs_mk]
  by_cases hk : k = 3
  · subst hk
    rw [swT (by simp) rfl]
    cases xs with
    | nil => rw [swF (by simp) rfl]; rfl
    | cons a l =>
      have hb1 := bulk_args 3 n (a :: l)
      have hb2 : Tr.bulkL a.tr ≤ Tr.bulkAll (GType.trs (a :: l)) := bulk_mem (by simp)
      have ha : atD (a :: l) 0 = a := rfl
      rw [swT (by first | (simp; done) | (simp; omega)) rfl, gdT (by simp) rfl, gdT (by rw [ha]; omega) rfl, bdS (ihasGoal_eq fu _ _) rfl]
      simp only [ha]
      cases hany : out.any fun x => GBound.eq x (.mk n a)
      · rw [swT (by simp) rfl, gdT (by simpa using ho) rfl, projStep_new hany]
      · rw [swF (by simp) rfl, projStep_has hany]
  · rw [swF (by simp [hk]) rfl, projStep_kind hk]
theorem ieachProj_ev : ∀ t : GType, Tr.bulkL t.tr ≤ 68719476735 → Evt fun fu => ∀ out : List GBound, out.length + t.pre.length ≤ 68719476736 → ieachType__iProjectionsIn_1_M fu t out = some (t.pre.foldl projStep out) := by
  refine GType.ind fun k n xs ih hb => ?_
  have hb1 := bulk_args k n xs
  refine Evt.succ ((Evt.list fun x hx => ih x hx (by have := bulk_mem hx; omega)).imp fun fu hf out ho => ?_)
  rw [GType.pre, List.length_cons] at ho
  simp only [ieachType__iProjectionsIn_1_M, ieachType__iProjectionsIn_1_G]
  rw [bdS (iProjectionsIn_1_eq fu k n xs out hb (by omega)) rfl]
  have h1 := projStep_len out (.mk k n xs)
  unfold ieachType__iProjectionsIn_1_R1
  simp only [GType.gArgs_mk]
  rw [loopN_fold0 (l := xs) (g := fun s x => x.pre.foldl projStep s) (fun i s => s.length + (GType.pres (xs.drop i)).length ≤ 68719476736) (fun i s hi hp => ?_) (by rw [List.drop_zero]; omega)]
  · rw [GType.pre, List.foldl_cons, pres_foldl]; rfl
  · rw [drop_atD hi, GType.pres, List.length_append] at hp
    refine ⟨?_, ?_⟩
    · rw [ieachType__iProjectionsIn_1_F1]
      simp only [GType.gArgs_mk]
      rw [bdS (hf _ (atD_mem hi) s (by omega)) rfl]
    · have := projSteps_len (atD xs i).pre s
      omega
theorem iProjectionsIn_fn (t : GType) (hb : Tr.bulkL t.tr ≤ 68719476735) (hp : t.pre.length ≤ 68719476736) : AFun Try.prog 11 [(GType.pv t)] (.t (.row 4 (GBound.trs t.projs))) := by
  obtain ⟨fu, h⟩ := (ieachProj_ev t hb).get
  refine iProjectionsIn_ok fu t _ ?_
  unfold iProjectionsIn_M
  rw [bdS (h [] (by simpa using hp)) rfl]
  rfl
end Go.Proofs.Ytlijdhhajojenaa

namespace Go.Proofs.Ytlijdhhajojenaa
open Go.RowKit Go.Proofs
set_option linter.unusedSimpArgs false
set_option linter.unusedVariables false

attribute [local irreducible] lt

noncomputable def iAssocTypeIsCovered_1_M (fu : Nat)  (pb : GBound) (c1 : GInstance) : Option Bool :=
 some (!(List.any c1.gWhere (fun x => GBound.eq x pb)))
set_option maxRecDepth 100000 in
set_option maxHeartbeats 4000000 in
theorem iAssocTypeIsCovered_1_ok  (fu : Nat)  (pb : GBound) (c1 : GInstance) (r : Bool) (H : iAssocTypeIsCovered_1_M fu pb c1 = some r) : ACalls Try.prog 38 [(GBound.pv pb), .ptr 0 0] ⟨[some ⟨31, [.t (.leaf (.string (c1.gTrait))), .t (.row 1 (strTrs (c1.gVars))), .t (.leaf (.int .i64 (c1.gHead.gKind))), .t (.leaf (.string (c1.gHead.gName))), .t (.row 3 (GType.trs (c1.gHead.gArgs))), .t (.row 4 (GBound.trs (c1.gWhere))), .t (.leaf (.bool (c1.gDefault))), .t (.leaf (.bool (c1.gHasAssoc))), .t (.leaf (.int .i64 (c1.gAssoc.gKind))), .t (.leaf (.string (c1.gAssoc.gName))), .t (.row 3 (GType.trs (c1.gAssoc.gArgs))), .t (.row 11 (GMethod.trs (c1.gMethods)))]⟩], []⟩ (fun q t => q = (.t (.leaf (.bool (r))) : PV) ∧ t = ⟨[some ⟨31, [.t (.leaf (.string (c1.gTrait))), .t (.row 1 (strTrs (c1.gVars))), .t (.leaf (.int .i64 (c1.gHead.gKind))), .t (.leaf (.string (c1.gHead.gName))), .t (.row 3 (GType.trs (c1.gHead.gArgs))), .t (.row 4 (GBound.trs (c1.gWhere))), .t (.leaf (.bool (c1.gDefault))), .t (.leaf (.bool (c1.gHasAssoc))), .t (.leaf (.int .i64 (c1.gAssoc.gKind))), .t (.leaf (.string (c1.gAssoc.gName))), .t (.row 3 (GType.trs (c1.gAssoc.gArgs))), .t (.row 11 (GMethod.trs (c1.gMethods)))]⟩], []⟩) := by
  refine ACalls.intro Try.func38 rfl (by first | decide | (simp; done) | (simp; decide)) ?_; intro C hC
  refine AWP.fact (box_lenN 0 1 rfl rfl rfl (strTrs_len _)) (fun hl1 => ?_)
  refine AWP.fact (box_lenN 0 4 rfl rfl rfl (GType.trs_len _)) (fun hl2 => ?_)
  refine AWP.fact (box_lenN 0 5 rfl rfl rfl (GBound.trs_len _)) (fun hl3 => ?_)
  refine AWP.fact (box_lenN 0 10 rfl rfl rfl (GType.trs_len _)) (fun hl4 => ?_)
  refine AWP.fact (box_lenN 0 11 rfl rfl rfl (GMethod.trs_len _)) (fun hl5 => ?_)
  refine AWP.seq ?_; refine AWP.region_lit ?_; refine AL.cons rfl (AOp.box (cs := [.t (.leaf (.string (pb.gTrait))), .t (.leaf (.int .i64 (pb.gType.gKind))), .t (.leaf (.string (pb.gType.gName))), .t (.row 3 (GType.trs (pb.gType.gArgs)))]) rfl rfl rfl rfl rfl) ?_; refine AL.cons rfl (AOp.move (.inr rfl) rfl rfl) ?_; refine AL.nil ?_; refine AWP.seq ?_; refine AWP.region_lit ?_; refine AL.cons rfl (AOp.fieldPtr (k := 0) (d := 0) (e := 5) rfl rfl rfl fo31_3) ?_; refine AL.cons rfl (AOp.loadPtr1 rfl rfl rfl rfl sh28 rfl) ?_; refine AL.cons rfl (AOp.loadPtr (cs := [.t (.leaf (.string (pb.gTrait))), .t (.leaf (.int .i64 (pb.gType.gKind))), .t (.leaf (.string (pb.gType.gName))), .t (.row 3 (GType.trs (pb.gType.gArgs)))]) rfl rfl rfl rfl sh37 rfl rfl) ?_; refine AL.cons rfl (AOp.callF (res := .t (.leaf (.bool (List.any c1.gWhere (fun x => GBound.eq x pb))))) (ps := [_, _]) rfl rfl Try.func39 (by kernel_rfl) rfl rfl leA rfl rfl (ihasGoal_fn c1.gWhere pb)) ?_; refine AL.cons rfl (AOp.notB rfl rfl rfl) ?_; refine AL.cons rfl (AOp.move (.inr rfl) rfl rfl) ?_; refine AL.nil ?_; refine AWP.ret ?_
  have e6 : iAssocTypeIsCovered_1_M fu pb c1 = some (!(List.any c1.gWhere (fun x => GBound.eq x pb))) := rfl
  have hz : (!(List.any c1.gWhere (fun x => GBound.eq x pb))) = r := Option.some.inj (e6.symm.trans H)
  subst hz
  exact Ends.mk (ps := [_]) (by first | exact .inr rfl | exact .inl rfl) ⟨rfl, trivial⟩ rfl (StLe.mk' (st' := ⟨[some ⟨31, [.t (.leaf (.string (c1.gTrait))), .t (.row 1 (strTrs (c1.gVars))), .t (.leaf (.int .i64 (c1.gHead.gKind))), .t (.leaf (.string (c1.gHead.gName))), .t (.row 3 (GType.trs (c1.gHead.gArgs))), .t (.row 4 (GBound.trs (c1.gWhere))), .t (.leaf (.bool (c1.gDefault))), .t (.leaf (.bool (c1.gHasAssoc))), .t (.leaf (.int .i64 (c1.gAssoc.gKind))), .t (.leaf (.string (c1.gAssoc.gName))), .t (.row 3 (GType.trs (c1.gAssoc.gArgs))), .t (.row 11 (GMethod.trs (c1.gMethods)))]⟩], []⟩) ⟨⟨rfl, leA, rfl⟩, trivial⟩ rfl) (keeps_all hC (boxes1 rfl) (Nat.le_of_ble_eq_true rfl)) (q := (.t (.leaf (.bool ((!(List.any c1.gWhere (fun x => GBound.eq x pb)))))) : PV)) leA rfl ⟨rfl, rfl⟩

noncomputable def gIndexFunc_Bound__iAssocTypeIsCovered_1_F1 (fu : Nat) (ps : List GBound) (c1_0 : GInstance) : Nat → Unit → Option (LR Unit Int) :=
 fun i7 _ => bd (iAssocTypeIsCovered_1_M fu (atD ps i7) c1_0) (fun x11 =>
 sw (x11)
 (some (.ret ((i7 : Nat) : Int)))
 (some (.next ())))
noncomputable def gIndexFunc_Bound__iAssocTypeIsCovered_1_R1 (fu : Nat) (ps : List GBound) (c1_0 : GInstance) : Option (Int ⊕ Unit) :=
 loopN (gIndexFunc_Bound__iAssocTypeIsCovered_1_F1 fu ps c1_0) (ps.length - 0) 0 ()
noncomputable def gIndexFunc_Bound__iAssocTypeIsCovered_1_M (fu : Nat)  (ps : List GBound) (c1_0 : GInstance) : Option Int :=
 so (gIndexFunc_Bound__iAssocTypeIsCovered_1_R1 fu ps c1_0) (fun _ =>
 some (-1))
set_option maxRecDepth 100000 in
set_option maxHeartbeats 4000000 in
theorem gIndexFunc_Bound__iAssocTypeIsCovered_1_ok  (fu : Nat)  (ps : List GBound) (c1_0 : GInstance) (r : Int) (H : gIndexFunc_Bound__iAssocTypeIsCovered_1_M fu ps c1_0 = some r) : ACalls Try.prog 77 [.t (.row 4 (GBound.trs (ps))), .fn 38 [.ptr 0 0]] ⟨[some ⟨31, [.t (.leaf (.string (c1_0.gTrait))), .t (.row 1 (strTrs (c1_0.gVars))), .t (.leaf (.int .i64 (c1_0.gHead.gKind))), .t (.leaf (.string (c1_0.gHead.gName))), .t (.row 3 (GType.trs (c1_0.gHead.gArgs))), .t (.row 4 (GBound.trs (c1_0.gWhere))), .t (.leaf (.bool (c1_0.gDefault))), .t (.leaf (.bool (c1_0.gHasAssoc))), .t (.leaf (.int .i64 (c1_0.gAssoc.gKind))), .t (.leaf (.string (c1_0.gAssoc.gName))), .t (.row 3 (GType.trs (c1_0.gAssoc.gArgs))), .t (.row 11 (GMethod.trs (c1_0.gMethods)))]⟩], []⟩ (fun q t => q = (.t (.leaf (.int .i64 (r))) : PV) ∧ t = ⟨[some ⟨31, [.t (.leaf (.string (c1_0.gTrait))), .t (.row 1 (strTrs (c1_0.gVars))), .t (.leaf (.int .i64 (c1_0.gHead.gKind))), .t (.leaf (.string (c1_0.gHead.gName))), .t (.row 3 (GType.trs (c1_0.gHead.gArgs))), .t (.row 4 (GBound.trs (c1_0.gWhere))), .t (.leaf (.bool (c1_0.gDefault))), .t (.leaf (.bool (c1_0.gHasAssoc))), .t (.leaf (.int .i64 (c1_0.gAssoc.gKind))), .t (.leaf (.string (c1_0.gAssoc.gName))), .t (.row 3 (GType.trs (c1_0.gAssoc.gArgs))), .t (.row 11 (GMethod.trs (c1_0.gMethods)))]⟩], []⟩) := by
  refine ACalls.intro Try.func77 rfl (by first | decide | (simp; done) | (simp; decide)) ?_; intro C hC
  refine AWP.fact (lk_lenN 0 rfl rfl (GBound.trs_len _)) (fun hl1 => ?_)
  refine AWP.fact (box_lenN 0 1 rfl rfl rfl (strTrs_len _)) (fun hl2 => ?_)
  refine AWP.fact (box_lenN 0 4 rfl rfl rfl (GType.trs_len _)) (fun hl3 => ?_)
  refine AWP.fact (box_lenN 0 5 rfl rfl rfl (GBound.trs_len _)) (fun hl4 => ?_)
  refine AWP.fact (box_lenN 0 10 rfl rfl rfl (GType.trs_len _)) (fun hl5 => ?_)
  refine AWP.fact (box_lenN 0 11 rfl rfl rfl (GMethod.trs_len _)) (fun hl6 => ?_)
  refine AWP.seq ?_; refine AWP.region_lit ?_; refine AL.cons rfl (AOp.move (.inr rfl) rfl rfl) ?_; refine AL.nil ?_; refine AWP.seq ?_; refine AWP.seq ?_; refine AWP.region_lit ?_; refine AL.cons rfl (AOp.move (.inl rfl) rfl rfl) ?_; refine AL.cons rfl (AOp.lenN rfl rfl rfl rfl el28 (GBound.trs_len _)) ?_; refine AL.cons rfl (AOp.move (.inl rfl) rfl rfl) ?_; refine AL.nil ?_; refine AWP.cut (ι := Unit) (fun _ => gIndexFunc_Bound__iAssocTypeIsCovered_1_R1 fu ps c1_0 = some (.inr ())) (fun _ => ⟨[(4, .t (.leaf (.int .i64 (0))))], ⟨[some ⟨31, [.t (.leaf (.string (c1_0.gTrait))), .t (.row 1 (strTrs (c1_0.gVars))), .t (.leaf (.int .i64 (c1_0.gHead.gKind))), .t (.leaf (.string (c1_0.gHead.gName))), .t (.row 3 (GType.trs (c1_0.gHead.gArgs))), .t (.row 4 (GBound.trs (c1_0.gWhere))), .t (.leaf (.bool (c1_0.gDefault))), .t (.leaf (.bool (c1_0.gHasAssoc))), .t (.leaf (.int .i64 (c1_0.gAssoc.gKind))), .t (.leaf (.string (c1_0.gAssoc.gName))), .t (.row 3 (GType.trs (c1_0.gAssoc.gArgs))), .t (.row 11 (GMethod.trs (c1_0.gMethods)))]⟩], []⟩⟩) (by repeat' (first | exact qcEnds | exact ncAWP | exact ncRound | exact ncEx | apply qcThen | apply qcBlock | apply qcCut)) ?_ ?_
  · refine AWP.block ?_; refine AWP.loopR (ι := Nat × Unit) (fun (i7, _) => gIndexFunc_Bound__iAssocTypeIsCovered_1_R1 fu ps c1_0 = loopN (gIndexFunc_Bound__iAssocTypeIsCovered_1_F1 fu ps c1_0) (ps.length - i7) i7 ()) (fun (i7, _) => ⟨[(0, .t (.row 4 (GBound.trs (ps)))), (1, .fn 38 [.ptr 0 0]), (4, .t (.leaf (.int .i64 (0)))), (7, .t (.leaf (.int .i64 (((ps.length : Nat) : Int))))), (8, .t (.leaf (.int .i64 (((i7 : Nat) : Int)))))], ⟨[some ⟨31, [.t (.leaf (.string (c1_0.gTrait))), .t (.row 1 (strTrs (c1_0.gVars))), .t (.leaf (.int .i64 (c1_0.gHead.gKind))), .t (.leaf (.string (c1_0.gHead.gName))), .t (.row 3 (GType.trs (c1_0.gHead.gArgs))), .t (.row 4 (GBound.trs (c1_0.gWhere))), .t (.leaf (.bool (c1_0.gDefault))), .t (.leaf (.bool (c1_0.gHasAssoc))), .t (.leaf (.int .i64 (c1_0.gAssoc.gKind))), .t (.leaf (.string (c1_0.gAssoc.gName))), .t (.row 3 (GType.trs (c1_0.gAssoc.gArgs))), .t (.row 11 (GMethod.trs (c1_0.gMethods)))]⟩], []⟩⟩) (fun (i7, _) => ps.length - i7) (0, ()) ?_ ?_ ?_
    · exact rfl
    · exact Wk.mk (StLe.mk' ⟨⟨rfl, leA, rfl⟩, trivial⟩ rfl) (keeps_all hC (boxes1 rfl) (Nat.le_of_ble_eq_true rfl)) ⟨⟨_, rfl, .refl _, rfl⟩, ⟨⟨_, rfl, .refl _, rfl⟩, ⟨⟨_, rfl, .refl _, rfl⟩, ⟨⟨_, rfl, .refl _, rfl⟩, ⟨⟨_, rfl, leA, rfl⟩, trivial⟩⟩⟩⟩⟩
    · rintro ⟨i7, ⟨⟩⟩ hJ8
      refine AWP.seq ?_; refine AWP.region_lit ?_; refine AL.cons rfl (AOp.lss rfl rfl rfl rfl) ?_; refine AL.nil ?_; refine AWP.seq ?_; refine AWP.cond rfl (fun h9 => ?_) (fun h9 => ?_)
      · have h9l : i7 < ps.length := nat_lt_of2 h9
        have h9n := nat_lt_of h9
        refine AWP.skip ?_; refine AWP.seq ?_; refine AWP.block ?_; refine AWP.seq ?_; refine AWP.region_lit ?_; refine AL.cons rfl (AOp.move (.inl rfl) rfl rfl) ?_; refine AL.cons rfl (AOp.move (.inr rfl) rfl rfl) ?_; refine AL.nil ?_; refine AWP.seq ?_; refine AWP.region_lit ?_; refine AL.cons rfl (AOp.move (.inl rfl) rfl rfl) ?_; refine AL.cons rfl (AOp.move (.inl rfl) rfl rfl) ?_; refine AL.cons rfl (AOp.move (.inl rfl) rfl rfl) ?_; refine AL.cons rfl (AOp.index (k := i7) rfl rfl rfl rfl rfl (GBound.trs_at h9n) el28) ?_; refine AL.cons rfl (AOp.loadEptr (ds := [.leaf (.string ((atD ps i7).gTrait)), .leaf (.int .i64 ((atD ps i7).gType.gKind)), .leaf (.string ((atD ps i7).gType.gName)), .row 3 (GType.trs ((atD ps i7).gType.gArgs))]) rfl rfl rfl sh37 rfl rfl) ?_
        rcases hq10 : iAssocTypeIsCovered_1_M fu (atD ps i7) c1_0 with _ | x11
        · have e12 : (gIndexFunc_Bound__iAssocTypeIsCovered_1_F1 fu ps c1_0) i7 () = none := bdN hq10
          have e13 : gIndexFunc_Bound__iAssocTypeIsCovered_1_R1 fu ps c1_0 = none := loopN_non h9l hJ8 e12
          have e14 : gIndexFunc_Bound__iAssocTypeIsCovered_1_M fu ps c1_0 = none := soN e13
          exact none_some H e14
        · refine AL.cons rfl (AOp.callVPE (pre := ⟨[some ⟨31, [.t (.leaf (.string (c1_0.gTrait))), .t (.row 1 (strTrs (c1_0.gVars))), .t (.leaf (.int .i64 (c1_0.gHead.gKind))), .t (.leaf (.string (c1_0.gHead.gName))), .t (.row 3 (GType.trs (c1_0.gHead.gArgs))), .t (.row 4 (GBound.trs (c1_0.gWhere))), .t (.leaf (.bool (c1_0.gDefault))), .t (.leaf (.bool (c1_0.gHasAssoc))), .t (.leaf (.int .i64 (c1_0.gAssoc.gKind))), .t (.leaf (.string (c1_0.gAssoc.gName))), .t (.row 3 (GType.trs (c1_0.gAssoc.gArgs))), .t (.row 11 (GMethod.trs (c1_0.gMethods)))]⟩], []⟩) (st' := ⟨[some ⟨31, [.t (.leaf (.string (c1_0.gTrait))), .t (.row 1 (strTrs (c1_0.gVars))), .t (.leaf (.int .i64 (c1_0.gHead.gKind))), .t (.leaf (.string (c1_0.gHead.gName))), .t (.row 3 (GType.trs (c1_0.gHead.gArgs))), .t (.row 4 (GBound.trs (c1_0.gWhere))), .t (.leaf (.bool (c1_0.gDefault))), .t (.leaf (.bool (c1_0.gHasAssoc))), .t (.leaf (.int .i64 (c1_0.gAssoc.gKind))), .t (.leaf (.string (c1_0.gAssoc.gName))), .t (.row 3 (GType.trs (c1_0.gAssoc.gArgs))), .t (.row 11 (GMethod.trs (c1_0.gMethods)))]⟩], []⟩) (ps := [_]) (cs := [.ptr 0 0]) (qs := [(GBound.pv (atD ps i7)), .ptr 0 0]) [0] [] rfl rfl rfl Try.func38 (by kernel_rfl) rfl rfl rfl (Part0.of ⟨⟨_, rfl, rfl, leA, rfl⟩, trivial⟩ trivial (by decide) (by decide)) leA rfl rfl rfl (iAssocTypeIsCovered_1_ok fu (atD ps i7) c1_0 _ hq10)) ?_; refine AL.nil ?_; refine AWP.cond rfl (fun h15 => ?_) (fun h15 => ?_)
          · refine AWP.seq ?_; refine AWP.region_lit ?_; refine AL.cons rfl (AOp.move (.inl rfl) rfl rfl) ?_; refine AL.cons rfl (AOp.move (.inr rfl) rfl rfl) ?_; refine AL.nil ?_; refine AWP.ret ?_
            have e16 : (gIndexFunc_Bound__iAssocTypeIsCovered_1_F1 fu ps c1_0) i7 () = some (.ret ((i7 : Nat) : Int)) := bdS hq10 (swT h15 (rfl))
            have e17 : gIndexFunc_Bound__iAssocTypeIsCovered_1_R1 fu ps c1_0 = some (.inl ((i7 : Nat) : Int)) := loopN_ret h9l hJ8 e16
            have e18 : gIndexFunc_Bound__iAssocTypeIsCovered_1_M fu ps c1_0 = some ((i7 : Nat) : Int) := soL e17
            have hz : ((i7 : Nat) : Int) = r := Option.some.inj (e18.symm.trans H)
            subst hz
            exact Ends.mk (ps := [_]) (by first | exact .inr rfl | exact .inl rfl) ⟨rfl, trivial⟩ rfl (StLe.mk' (st' := ⟨[some ⟨31, [.t (.leaf (.string (c1_0.gTrait))), .t (.row 1 (strTrs (c1_0.gVars))), .t (.leaf (.int .i64 (c1_0.gHead.gKind))), .t (.leaf (.string (c1_0.gHead.gName))), .t (.row 3 (GType.trs (c1_0.gHead.gArgs))), .t (.row 4 (GBound.trs (c1_0.gWhere))), .t (.leaf (.bool (c1_0.gDefault))), .t (.leaf (.bool (c1_0.gHasAssoc))), .t (.leaf (.int .i64 (c1_0.gAssoc.gKind))), .t (.leaf (.string (c1_0.gAssoc.gName))), .t (.row 3 (GType.trs (c1_0.gAssoc.gArgs))), .t (.row 11 (GMethod.trs (c1_0.gMethods)))]⟩], []⟩) ⟨⟨rfl, leA, rfl⟩, trivial⟩ rfl) (keeps_all hC (boxes1 rfl) (Nat.le_of_ble_eq_true rfl)) (q := (.t (.leaf (.int .i64 (((i7 : Nat) : Int)))) : PV)) leA rfl ⟨rfl, rfl⟩
          · refine AWP.skip ?_; refine AWP.region_lit ?_; refine AL.cons rfl (AOp.addI rfl rfl rfl rfl (c := ((i7 + 1 : Nat) : Int)) (by omega) (by omega)) ?_; refine AL.cons rfl (AOp.move (.inl rfl) rfl rfl) ?_; refine AL.nil ?_
            have e19 : (gIndexFunc_Bound__iAssocTypeIsCovered_1_F1 fu ps c1_0) i7 () = some (.next ()) := bdS hq10 (swF h15 (rfl))
            refine ⟨(i7 + 1, ()), loopN_next h9l hJ8 e19, ?_, ?_⟩
            · exact Wk.mk (StLe.mk' ⟨⟨rfl, leA, rfl⟩, trivial⟩ rfl) (keeps_all hC (boxes1 rfl) (Nat.le_of_ble_eq_true rfl)) ⟨⟨_, rfl, .refl _, rfl⟩, ⟨⟨_, rfl, .refl _, rfl⟩, ⟨⟨_, rfl, .refl _, rfl⟩, ⟨⟨_, rfl, .refl _, rfl⟩, ⟨⟨_, rfl, leA, rfl⟩, trivial⟩⟩⟩⟩⟩
            · dsimp only; omega
      · have h9l : ps.length ≤ i7 := nat_ge_of2 h9
        refine AWP.exit ?_; refine ⟨(), loopN_end h9l hJ8, ?_⟩
        exact Wk.mk (StLe.mk' ⟨⟨rfl, leA, rfl⟩, trivial⟩ rfl) (keeps_all hC (boxes1 rfl) (Nat.le_of_ble_eq_true rfl)) ⟨⟨_, rfl, .refl _, rfl⟩, trivial⟩
  · rintro ⟨⟩ hR20
    refine AWP.seq ?_; refine AWP.region_lit ?_; refine AL.cons rfl (AOp.move (.inr rfl) rfl rfl) ?_; refine AL.nil ?_; refine AWP.ret ?_
    have e21 : gIndexFunc_Bound__iAssocTypeIsCovered_1_M fu ps c1_0 = some (-1) := soR hR20 (rfl)
    have hz : (-1) = r := Option.some.inj (e21.symm.trans H)
    subst hz
    exact Ends.mk (ps := [_]) (by first | exact .inr rfl | exact .inl rfl) ⟨rfl, trivial⟩ rfl (StLe.mk' (st' := ⟨[some ⟨31, [.t (.leaf (.string (c1_0.gTrait))), .t (.row 1 (strTrs (c1_0.gVars))), .t (.leaf (.int .i64 (c1_0.gHead.gKind))), .t (.leaf (.string (c1_0.gHead.gName))), .t (.row 3 (GType.trs (c1_0.gHead.gArgs))), .t (.row 4 (GBound.trs (c1_0.gWhere))), .t (.leaf (.bool (c1_0.gDefault))), .t (.leaf (.bool (c1_0.gHasAssoc))), .t (.leaf (.int .i64 (c1_0.gAssoc.gKind))), .t (.leaf (.string (c1_0.gAssoc.gName))), .t (.row 3 (GType.trs (c1_0.gAssoc.gArgs))), .t (.row 11 (GMethod.trs (c1_0.gMethods)))]⟩], []⟩) ⟨⟨rfl, leA, rfl⟩, trivial⟩ rfl) (keeps_all hC (boxes1 rfl) (Nat.le_of_ble_eq_true rfl)) (q := (.t (.leaf (.int .i64 ((-1)))) : PV)) leA rfl ⟨rfl, rfl⟩

noncomputable def gContainsFunc_Bound__iAssocTypeIsCovered_1_M (fu : Nat)  (ps : List GBound) (c1_0 : GInstance) : Option Bool :=
 bd (gIndexFunc_Bound__iAssocTypeIsCovered_1_M fu ps c1_0) (fun x8 =>
 some (decide ((x8 : Int) ≥ 0)))
set_option maxRecDepth 100000 in
set_option maxHeartbeats 4000000 in
theorem gContainsFunc_Bound__iAssocTypeIsCovered_1_ok  (fu : Nat)  (ps : List GBound) (c1_0 : GInstance) (r : Bool) (H : gContainsFunc_Bound__iAssocTypeIsCovered_1_M fu ps c1_0 = some r) : ACalls Try.prog 37 [.t (.row 4 (GBound.trs (ps))), .fn 38 [.ptr 0 0]] ⟨[some ⟨31, [.t (.leaf (.string (c1_0.gTrait))), .t (.row 1 (strTrs (c1_0.gVars))), .t (.leaf (.int .i64 (c1_0.gHead.gKind))), .t (.leaf (.string (c1_0.gHead.gName))), .t (.row 3 (GType.trs (c1_0.gHead.gArgs))), .t (.row 4 (GBound.trs (c1_0.gWhere))), .t (.leaf (.bool (c1_0.gDefault))), .t (.leaf (.bool (c1_0.gHasAssoc))), .t (.leaf (.int .i64 (c1_0.gAssoc.gKind))), .t (.leaf (.string (c1_0.gAssoc.gName))), .t (.row 3 (GType.trs (c1_0.gAssoc.gArgs))), .t (.row 11 (GMethod.trs (c1_0.gMethods)))]⟩], []⟩ (fun q t => q = (.t (.leaf (.bool (r))) : PV) ∧ t = ⟨[some ⟨31, [.t (.leaf (.string (c1_0.gTrait))), .t (.row 1 (strTrs (c1_0.gVars))), .t (.leaf (.int .i64 (c1_0.gHead.gKind))), .t (.leaf (.string (c1_0.gHead.gName))), .t (.row 3 (GType.trs (c1_0.gHead.gArgs))), .t (.row 4 (GBound.trs (c1_0.gWhere))), .t (.leaf (.bool (c1_0.gDefault))), .t (.leaf (.bool (c1_0.gHasAssoc))), .t (.leaf (.int .i64 (c1_0.gAssoc.gKind))), .t (.leaf (.string (c1_0.gAssoc.gName))), .t (.row 3 (GType.trs (c1_0.gAssoc.gArgs))), .t (.row 11 (GMethod.trs (c1_0.gMethods)))]⟩], []⟩) := by
  refine ACalls.intro Try.func37 rfl (by first | decide | (simp; done) | (simp; decide)) ?_; intro C hC
  refine AWP.fact (lk_lenN 0 rfl rfl (GBound.trs_len _)) (fun hl1 => ?_)
  refine AWP.fact (box_lenN 0 1 rfl rfl rfl (strTrs_len _)) (fun hl2 => ?_)
  refine AWP.fact (box_lenN 0 4 rfl rfl rfl (GType.trs_len _)) (fun hl3 => ?_)
  refine AWP.fact (box_lenN 0 5 rfl rfl rfl (GBound.trs_len _)) (fun hl4 => ?_)
  refine AWP.fact (box_lenN 0 10 rfl rfl rfl (GType.trs_len _)) (fun hl5 => ?_)
  refine AWP.fact (box_lenN 0 11 rfl rfl rfl (GMethod.trs_len _)) (fun hl6 => ?_)
  refine AWP.seq ?_; refine AWP.region_lit ?_; refine AL.cons rfl (AOp.move (.inr rfl) rfl rfl) ?_; refine AL.nil ?_; refine AWP.seq ?_; refine AWP.region_lit ?_; refine AL.cons rfl (AOp.move (.inl rfl) rfl rfl) ?_; refine AL.cons rfl (AOp.move (.inl rfl) rfl rfl) ?_
  rcases hq7 : gIndexFunc_Bound__iAssocTypeIsCovered_1_M fu ps c1_0 with _ | x8
  · have e9 : gContainsFunc_Bound__iAssocTypeIsCovered_1_M fu ps c1_0 = none := bdN hq7
    exact none_some H e9
  · refine AL.cons rfl (AOp.callPE (pre := ⟨[some ⟨31, [.t (.leaf (.string (c1_0.gTrait))), .t (.row 1 (strTrs (c1_0.gVars))), .t (.leaf (.int .i64 (c1_0.gHead.gKind))), .t (.leaf (.string (c1_0.gHead.gName))), .t (.row 3 (GType.trs (c1_0.gHead.gArgs))), .t (.row 4 (GBound.trs (c1_0.gWhere))), .t (.leaf (.bool (c1_0.gDefault))), .t (.leaf (.bool (c1_0.gHasAssoc))), .t (.leaf (.int .i64 (c1_0.gAssoc.gKind))), .t (.leaf (.string (c1_0.gAssoc.gName))), .t (.row 3 (GType.trs (c1_0.gAssoc.gArgs))), .t (.row 11 (GMethod.trs (c1_0.gMethods)))]⟩], []⟩) (st' := ⟨[some ⟨31, [.t (.leaf (.string (c1_0.gTrait))), .t (.row 1 (strTrs (c1_0.gVars))), .t (.leaf (.int .i64 (c1_0.gHead.gKind))), .t (.leaf (.string (c1_0.gHead.gName))), .t (.row 3 (GType.trs (c1_0.gHead.gArgs))), .t (.row 4 (GBound.trs (c1_0.gWhere))), .t (.leaf (.bool (c1_0.gDefault))), .t (.leaf (.bool (c1_0.gHasAssoc))), .t (.leaf (.int .i64 (c1_0.gAssoc.gKind))), .t (.leaf (.string (c1_0.gAssoc.gName))), .t (.row 3 (GType.trs (c1_0.gAssoc.gArgs))), .t (.row 11 (GMethod.trs (c1_0.gMethods)))]⟩], []⟩) (ps := [_, _]) (qs := [.t (.row 4 (GBound.trs (ps))), .fn 38 [.ptr 0 0]]) [0] [] rfl rfl Try.func77 (by kernel_rfl) rfl rfl rfl (Part0.of ⟨⟨_, rfl, rfl, leA, rfl⟩, trivial⟩ trivial (by decide) (by decide)) leA rfl rfl rfl (gIndexFunc_Bound__iAssocTypeIsCovered_1_ok fu ps c1_0 _ hq7)) ?_; refine AL.cons rfl (AOp.geq rfl rfl rfl rfl) ?_; refine AL.cons rfl (AOp.move (.inr rfl) rfl rfl) ?_; refine AL.nil ?_; refine AWP.ret ?_
    have e10 : gContainsFunc_Bound__iAssocTypeIsCovered_1_M fu ps c1_0 = some (decide ((x8 : Int) ≥ 0)) := bdS hq7 (rfl)
    have hz : (decide ((x8 : Int) ≥ 0)) = r := Option.some.inj (e10.symm.trans H)
    subst hz
    exact Ends.mk (ps := [_]) (by first | exact .inr rfl | exact .inl rfl) ⟨rfl, trivial⟩ rfl (StLe.mk' (st' := ⟨[some ⟨31, [.t (.leaf (.string (c1_0.gTrait))), .t (.row 1 (strTrs (c1_0.gVars))), .t (.leaf (.int .i64 (c1_0.gHead.gKind))), .t (.leaf (.string (c1_0.gHead.gName))), .t (.row 3 (GType.trs (c1_0.gHead.gArgs))), .t (.row 4 (GBound.trs (c1_0.gWhere))), .t (.leaf (.bool (c1_0.gDefault))), .t (.leaf (.bool (c1_0.gHasAssoc))), .t (.leaf (.int .i64 (c1_0.gAssoc.gKind))), .t (.leaf (.string (c1_0.gAssoc.gName))), .t (.row 3 (GType.trs (c1_0.gAssoc.gArgs))), .t (.row 11 (GMethod.trs (c1_0.gMethods)))]⟩], []⟩) ⟨⟨rfl, leA, rfl⟩, trivial⟩ rfl) (keeps_all hC (boxes1 rfl) (Nat.le_of_ble_eq_true rfl)) (q := (.t (.leaf (.bool ((decide ((x8 : Int) ≥ 0))))) : PV)) leA rfl ⟨rfl, rfl⟩

noncomputable def iAssocTypeIsCovered_M (fu : Nat)  (px : GInstance) : Option Bool :=
 gd (Tr.bulkL (GType.tr px.gAssoc) ≤ 68719476735)
 (gd ((GType.pre px.gAssoc).length ≤ 68719476736)
 (bd (gContainsFunc_Bound__iAssocTypeIsCovered_1_M fu (GType.projs px.gAssoc) px) (fun x4 =>
 some (!(x4)))))
set_option maxRecDepth 100000 in
set_option maxHeartbeats 4000000 in
theorem iAssocTypeIsCovered_ok  (fu : Nat)  (px : GInstance) (r : Bool) (H : iAssocTypeIsCovered_M fu px = some r) : AFun Try.prog 9 [(GInstance.pv px)] (.t (.leaf (.bool (r))) : PV) := by
  refine ACalls.intro Try.func9 rfl (by first | decide | (simp; done) | (simp; decide)) ?_; intro C hC
  refine AWP.seq ?_; refine AWP.region_lit ?_; refine AL.cons rfl (AOp.box (cs := [.t (.leaf (.string (px.gTrait))), .t (.row 1 (strTrs (px.gVars))), .t (.leaf (.int .i64 (px.gHead.gKind))), .t (.leaf (.string (px.gHead.gName))), .t (.row 3 (GType.trs (px.gHead.gArgs))), .t (.row 4 (GBound.trs (px.gWhere))), .t (.leaf (.bool (px.gDefault))), .t (.leaf (.bool (px.gHasAssoc))), .t (.leaf (.int .i64 (px.gAssoc.gKind))), .t (.leaf (.string (px.gAssoc.gName))), .t (.row 3 (GType.trs (px.gAssoc.gArgs))), .t (.row 11 (GMethod.trs (px.gMethods)))]) rfl rfl rfl rfl rfl) ?_; refine AL.cons rfl (AOp.move (.inr rfl) rfl rfl) ?_; refine AL.nil ?_; refine AWP.seq ?_; refine AWP.region_lit ?_; refine AL.cons rfl (AOp.fieldPtr (k := 0) (d := 0) (e := 8) rfl rfl rfl fo31_6) ?_; refine AL.cons rfl (AOp.loadPtr (cs := [.t (.leaf (.int .i64 (px.gAssoc.gKind))), .t (.leaf (.string (px.gAssoc.gName))), .t (.row 3 (GType.trs (px.gAssoc.gArgs)))]) rfl rfl rfl rfl sh27 rfl rfl) ?_
  rcases Classical.em (Tr.bulkL (GType.tr px.gAssoc) ≤ 68719476735) with hg1 | hg1
  · rcases Classical.em ((GType.pre px.gAssoc).length ≤ 68719476736) with hg2 | hg2
    · refine AL.cons rfl (AOp.callF (res := .t (.row 4 (GBound.trs (GType.projs px.gAssoc)))) (ps := [_]) rfl rfl Try.func11 (by kernel_rfl) rfl rfl leA rfl rfl (iProjectionsIn_fn px.gAssoc hg1 hg2)) ?_; refine AL.cons rfl (AOp.makeFunc (ps := [.ptr 0 0]) rfl rfl rfl) ?_
      rcases hq3 : gContainsFunc_Bound__iAssocTypeIsCovered_1_M fu (GType.projs px.gAssoc) px with _ | x4
      · have e5 : iAssocTypeIsCovered_M fu px = none := gdT hg1 (gdT hg2 (bdN hq3))
        exact none_some H e5
      · refine AL.cons rfl (AOp.callPE (pre := ⟨[some ⟨31, [.t (.leaf (.string (px.gTrait))), .t (.row 1 (strTrs (px.gVars))), .t (.leaf (.int .i64 (px.gHead.gKind))), .t (.leaf (.string (px.gHead.gName))), .t (.row 3 (GType.trs (px.gHead.gArgs))), .t (.row 4 (GBound.trs (px.gWhere))), .t (.leaf (.bool (px.gDefault))), .t (.leaf (.bool (px.gHasAssoc))), .t (.leaf (.int .i64 (px.gAssoc.gKind))), .t (.leaf (.string (px.gAssoc.gName))), .t (.row 3 (GType.trs (px.gAssoc.gArgs))), .t (.row 11 (GMethod.trs (px.gMethods)))]⟩], []⟩) (st' := ⟨[some ⟨31, [.t (.leaf (.string (px.gTrait))), .t (.row 1 (strTrs (px.gVars))), .t (.leaf (.int .i64 (px.gHead.gKind))), .t (.leaf (.string (px.gHead.gName))), .t (.row 3 (GType.trs (px.gHead.gArgs))), .t (.row 4 (GBound.trs (px.gWhere))), .t (.leaf (.bool (px.gDefault))), .t (.leaf (.bool (px.gHasAssoc))), .t (.leaf (.int .i64 (px.gAssoc.gKind))), .t (.leaf (.string (px.gAssoc.gName))), .t (.row 3 (GType.trs (px.gAssoc.gArgs))), .t (.row 11 (GMethod.trs (px.gMethods)))]⟩], []⟩) (ps := [_, _]) (qs := [.t (.row 4 (GBound.trs (GType.projs px.gAssoc))), .fn 38 [.ptr 0 0]]) [0] [] rfl rfl Try.func37 (by kernel_rfl) rfl rfl rfl (Part0.of ⟨⟨_, rfl, rfl, leA, rfl⟩, trivial⟩ trivial (by decide) (by decide)) leA rfl rfl rfl (gContainsFunc_Bound__iAssocTypeIsCovered_1_ok fu (GType.projs px.gAssoc) px _ hq3)) ?_; refine AL.cons rfl (AOp.notB rfl rfl rfl) ?_; refine AL.cons rfl (AOp.move (.inr rfl) rfl rfl) ?_; refine AL.nil ?_; refine AWP.ret ?_
        have e6 : iAssocTypeIsCovered_M fu px = some (!(x4)) := gdT hg1 (gdT hg2 (bdS hq3 (rfl)))
        have hz : (!(x4)) = r := Option.some.inj (e6.symm.trans H)
        subst hz
        exact Ends.mk (ps := [_]) (by first | exact .inr rfl | exact .inl rfl) ⟨rfl, trivial⟩ rfl (StLe.mk' (st' := ⟨[], []⟩) trivial rfl) (keeps_nil hC) (q := (.t (.leaf (.bool ((!(x4))))) : PV)) leA rfl ⟨rfl, rfl⟩
    · have e7 : iAssocTypeIsCovered_M fu px = none := gdT hg1 (gdF hg2)
      exact none_some H e7
  · have e8 : iAssocTypeIsCovered_M fu px = none := gdF hg1
    exact none_some H e8

noncomputable def sAssocTypeIsCovered_F2 (fu : Nat) (px : GInstance) (i3 : Nat) : Nat → Bool → Option (LR Bool (LR Unit Bool)) :=
 fun i7 v8 => sw (v8)
 (some (.next true))
 (some (.next (GBound.eq (atD px.gWhere i7) (atD (GType.projs px.gAssoc) i3))))
noncomputable def sAssocTypeIsCovered_R2 (fu : Nat) (px : GInstance) (i3 : Nat) : Option ((LR Unit Bool) ⊕ Bool) :=
 loopN (sAssocTypeIsCovered_F2 fu px i3) (px.gWhere.length - 0) 0 false
noncomputable def sAssocTypeIsCovered_F1 (fu : Nat) (px : GInstance) : Nat → Unit → Option (LR Unit Bool) :=
 fun i3 _ => so (sAssocTypeIsCovered_R2 fu px i3) (fun v8 =>
 sw (!(v8))
 (some (.ret false))
 (some (.next ())))
noncomputable def sAssocTypeIsCovered_R1 (fu : Nat) (px : GInstance) : Option (Bool ⊕ Unit) :=
 loopN (sAssocTypeIsCovered_F1 fu px) ((GType.projs px.gAssoc).length - 0) 0 ()
noncomputable def sAssocTypeIsCovered_M (fu : Nat)  (px : GInstance) : Option Bool :=
 gd (Tr.bulkL (GType.tr px.gAssoc) ≤ 68719476735)
 (gd ((GType.pre px.gAssoc).length ≤ 68719476736)
 (so (sAssocTypeIsCovered_R1 fu px) (fun _ =>
 some true)))
set_option maxRecDepth 100000 in
set_option maxHeartbeats 4000000 in
theorem sAssocTypeIsCovered_ok  (fu : Nat)  (px : GInstance) (r : Bool) (H : sAssocTypeIsCovered_M fu px = some r) : AFun Try.prog 10 [(GInstance.pv px)] (.t (.leaf (.bool (r))) : PV) := by
  refine ACalls.intro Try.func10 rfl (by first | decide | (simp; done) | (simp; decide)) ?_; intro C hC
  refine AWP.seq ?_; refine AWP.region_lit ?_; refine AL.cons rfl (AOp.box (cs := [.t (.leaf (.string (px.gTrait))), .t (.row 1 (strTrs (px.gVars))), .t (.leaf (.int .i64 (px.gHead.gKind))), .t (.leaf (.string (px.gHead.gName))), .t (.row 3 (GType.trs (px.gHead.gArgs))), .t (.row 4 (GBound.trs (px.gWhere))), .t (.leaf (.bool (px.gDefault))), .t (.leaf (.bool (px.gHasAssoc))), .t (.leaf (.int .i64 (px.gAssoc.gKind))), .t (.leaf (.string (px.gAssoc.gName))), .t (.row 3 (GType.trs (px.gAssoc.gArgs))), .t (.row 11 (GMethod.trs (px.gMethods)))]) rfl rfl rfl rfl rfl) ?_; refine AL.cons rfl (AOp.move (.inr rfl) rfl rfl) ?_; refine AL.nil ?_; refine AWP.seq ?_; refine AWP.region_lit ?_; refine AL.cons rfl (AOp.fieldPtr (k := 0) (d := 0) (e := 8) rfl rfl rfl fo31_6) ?_; refine AL.cons rfl (AOp.loadPtr (cs := [.t (.leaf (.int .i64 (px.gAssoc.gKind))), .t (.leaf (.string (px.gAssoc.gName))), .t (.row 3 (GType.trs (px.gAssoc.gArgs)))]) rfl rfl rfl rfl sh27 rfl rfl) ?_
  rcases Classical.em (Tr.bulkL (GType.tr px.gAssoc) ≤ 68719476735) with hg1 | hg1
  · rcases Classical.em ((GType.pre px.gAssoc).length ≤ 68719476736) with hg2 | hg2
    · refine AL.cons rfl (AOp.callF (res := .t (.row 4 (GBound.trs (GType.projs px.gAssoc)))) (ps := [_]) rfl rfl Try.func40 (by kernel_rfl) rfl rfl leA rfl rfl (sProjectionsIn_fn px.gAssoc hg1 hg2)) ?_; refine AL.cons rfl (AOp.move (.inr rfl) rfl rfl) ?_; refine AL.nil ?_; refine AWP.seq ?_; refine AWP.seq ?_; refine AWP.region_lit ?_; refine AL.cons rfl (AOp.move (.inr rfl) rfl rfl) ?_; refine AL.nil ?_; refine AWP.fact (lk_lenN 3 rfl rfl (GBound.trs_len _)) (fun hl4 => ?_)
      refine AWP.cut (ι := Unit) (fun _ => sAssocTypeIsCovered_R1 fu px = some (.inr ())) (fun _ => ⟨[(2, .t (.leaf (.bool (false))))], ⟨[some ⟨31, [.t (.leaf (.string (px.gTrait))), .t (.row 1 (strTrs (px.gVars))), .t (.leaf (.int .i64 (px.gHead.gKind))), .t (.leaf (.string (px.gHead.gName))), .t (.row 3 (GType.trs (px.gHead.gArgs))), .t (.row 4 (GBound.trs (px.gWhere))), .t (.leaf (.bool (px.gDefault))), .t (.leaf (.bool (px.gHasAssoc))), .t (.leaf (.int .i64 (px.gAssoc.gKind))), .t (.leaf (.string (px.gAssoc.gName))), .t (.row 3 (GType.trs (px.gAssoc.gArgs))), .t (.row 11 (GMethod.trs (px.gMethods)))]⟩], []⟩⟩) (by repeat' (first | exact qcEnds | exact ncAWP | exact ncRound | exact ncEx | apply qcThen | apply qcBlock | apply qcCut)) ?_ ?_
      · refine AWP.block ?_; refine AWP.loopR (ι := Nat × Unit) (fun (i3, _) => sAssocTypeIsCovered_R1 fu px = loopN (sAssocTypeIsCovered_F1 fu px) ((GType.projs px.gAssoc).length - i3) i3 ()) (fun (i3, _) => ⟨[(1, .ptr 0 0), (2, .t (.leaf (.bool (false)))), (3, .t (.row 4 (GBound.trs (GType.projs px.gAssoc)))), (4, .t (.leaf (.int .i64 (((i3 : Nat) : Int)))))], ⟨[some ⟨31, [.t (.leaf (.string (px.gTrait))), .t (.row 1 (strTrs (px.gVars))), .t (.leaf (.int .i64 (px.gHead.gKind))), .t (.leaf (.string (px.gHead.gName))), .t (.row 3 (GType.trs (px.gHead.gArgs))), .t (.row 4 (GBound.trs (px.gWhere))), .t (.leaf (.bool (px.gDefault))), .t (.leaf (.bool (px.gHasAssoc))), .t (.leaf (.int .i64 (px.gAssoc.gKind))), .t (.leaf (.string (px.gAssoc.gName))), .t (.row 3 (GType.trs (px.gAssoc.gArgs))), .t (.row 11 (GMethod.trs (px.gMethods)))]⟩], []⟩⟩) (fun (i3, _) => (GType.projs px.gAssoc).length - i3) (0, ()) ?_ ?_ ?_
        · exact rfl
        · exact Wk.mk (StLe.mk' ⟨⟨rfl, leA, rfl⟩, trivial⟩ rfl) (keeps_nil hC) ⟨⟨_, rfl, .refl _, rfl⟩, ⟨⟨_, rfl, .refl _, rfl⟩, ⟨⟨_, rfl, .refl _, rfl⟩, ⟨⟨_, rfl, leA, rfl⟩, trivial⟩⟩⟩⟩
        · rintro ⟨i3, ⟨⟩⟩ hJ5
          refine AWP.seq ?_; refine AWP.seq ?_; refine AWP.region_lit ?_; refine AL.cons rfl (AOp.move (.inl rfl) rfl rfl) ?_; refine AL.cons rfl (AOp.move (.inl rfl) rfl rfl) ?_; refine AL.cons rfl (AOp.lenN rfl rfl rfl rfl el28 (GBound.trs_len _)) ?_; refine AL.cons rfl (AOp.lss rfl rfl rfl rfl) ?_; refine AL.nil ?_; refine AWP.cond rfl (fun h6 => ?_) (fun h6 => ?_)
          · have h6l : i3 < (GType.projs px.gAssoc).length := nat_lt_of2 h6
            have h6n := nat_lt_of h6
            refine AWP.skip ?_; refine AWP.seq ?_; refine AWP.block ?_; refine AWP.seq ?_; refine AWP.region_lit ?_; refine AL.cons rfl (AOp.move (.inr rfl) rfl rfl) ?_; refine AL.nil ?_; refine AWP.seq ?_; refine AWP.seq ?_; refine AWP.region_lit ?_; refine AL.cons rfl (AOp.move (.inr rfl) rfl rfl) ?_; refine AL.nil ?_; refine AWP.cut (ι := Bool) (fun v8 => sAssocTypeIsCovered_R2 fu px i3 = some (.inr v8)) (fun v8 => ⟨[(1, .ptr 0 0), (2, .t (.leaf (.bool (false)))), (3, .t (.row 4 (GBound.trs (GType.projs px.gAssoc)))), (4, .t (.leaf (.int .i64 (((i3 : Nat) : Int))))), (5, .t (.leaf (.bool (v8)))), (10, .t (.leaf (.int .i64 (((i3 : Nat) : Int))))), (11, .t (.row 4 (GBound.trs (GType.projs px.gAssoc)))), (12, .t (.leaf (.int .i64 ((((GType.projs px.gAssoc).length : Nat) : Int))))), (13, .t (.leaf (.bool (decide ((((i3 : Nat) : Int) : Int) < (((GType.projs px.gAssoc).length : Nat) : Int))))))], ⟨[some ⟨31, [.t (.leaf (.string (px.gTrait))), .t (.row 1 (strTrs (px.gVars))), .t (.leaf (.int .i64 (px.gHead.gKind))), .t (.leaf (.string (px.gHead.gName))), .t (.row 3 (GType.trs (px.gHead.gArgs))), .t (.row 4 (GBound.trs (px.gWhere))), .t (.leaf (.bool (px.gDefault))), .t (.leaf (.bool (px.gHasAssoc))), .t (.leaf (.int .i64 (px.gAssoc.gKind))), .t (.leaf (.string (px.gAssoc.gName))), .t (.row 3 (GType.trs (px.gAssoc.gArgs))), .t (.row 11 (GMethod.trs (px.gMethods)))]⟩], []⟩⟩) (by repeat' (first | exact qcEnds | exact ncAWP | exact ncRound | exact ncEx | apply qcThen | apply qcBlock | apply qcCut)) ?_ ?_
            · refine AWP.block ?_; refine AWP.loopR (ι := Nat × Bool) (fun (i7, v8) => sAssocTypeIsCovered_R2 fu px i3 = loopN (sAssocTypeIsCovered_F2 fu px i3) (px.gWhere.length - i7) i7 v8) (fun (i7, v8) => ⟨[(1, .ptr 0 0), (2, .t (.leaf (.bool (false)))), (3, .t (.row 4 (GBound.trs (GType.projs px.gAssoc)))), (4, .t (.leaf (.int .i64 (((i3 : Nat) : Int))))), (5, .t (.leaf (.bool (v8)))), (6, .t (.leaf (.int .i64 (((i7 : Nat) : Int))))), (10, .t (.leaf (.int .i64 (((i3 : Nat) : Int))))), (11, .t (.row 4 (GBound.trs (GType.projs px.gAssoc)))), (12, .t (.leaf (.int .i64 ((((GType.projs px.gAssoc).length : Nat) : Int))))), (13, .t (.leaf (.bool (decide ((((i3 : Nat) : Int) : Int) < (((GType.projs px.gAssoc).length : Nat) : Int))))))], ⟨[some ⟨31, [.t (.leaf (.string (px.gTrait))), .t (.row 1 (strTrs (px.gVars))), .t (.leaf (.int .i64 (px.gHead.gKind))), .t (.leaf (.string (px.gHead.gName))), .t (.row 3 (GType.trs (px.gHead.gArgs))), .t (.row 4 (GBound.trs (px.gWhere))), .t (.leaf (.bool (px.gDefault))), .t (.leaf (.bool (px.gHasAssoc))), .t (.leaf (.int .i64 (px.gAssoc.gKind))), .t (.leaf (.string (px.gAssoc.gName))), .t (.row 3 (GType.trs (px.gAssoc.gArgs))), .t (.row 11 (GMethod.trs (px.gMethods)))]⟩], []⟩⟩) (fun (i7, v8) => px.gWhere.length - i7) (0, false) ?_ ?_ ?_
              · exact rfl
              · exact Wk.mk (StLe.mk' ⟨⟨rfl, leA, rfl⟩, trivial⟩ rfl) (keeps_nil hC) ⟨⟨_, rfl, .refl _, rfl⟩, ⟨⟨_, rfl, .refl _, rfl⟩, ⟨⟨_, rfl, .refl _, rfl⟩, ⟨⟨_, rfl, .refl _, rfl⟩, ⟨⟨_, rfl, leA, rfl⟩, ⟨⟨_, rfl, leA, rfl⟩, ⟨⟨_, rfl, .refl _, rfl⟩, ⟨⟨_, rfl, .refl _, rfl⟩, ⟨⟨_, rfl, .refl _, rfl⟩, ⟨⟨_, rfl, .refl _, rfl⟩, trivial⟩⟩⟩⟩⟩⟩⟩⟩⟩⟩
              · rintro ⟨i7, v8⟩ hJ9
                refine AWP.seq ?_; refine AWP.seq ?_; refine AWP.region_lit ?_; refine AL.cons rfl (AOp.move (.inl rfl) rfl rfl) ?_; refine AL.cons rfl (AOp.fieldPtr (k := 0) (d := 0) (e := 5) rfl rfl rfl fo31_3) ?_; refine AL.cons rfl (AOp.loadPtr1 rfl rfl rfl rfl sh28 rfl) ?_; refine AL.fact (lk_lenN 18 rfl rfl (GBound.trs_len _)) (fun hl10 => ?_)
                refine AL.cons rfl (AOp.lenN rfl rfl rfl rfl el28 (GBound.trs_len _)) ?_; refine AL.cons rfl (AOp.lss rfl rfl rfl rfl) ?_; refine AL.nil ?_; refine AWP.cond rfl (fun h11 => ?_) (fun h11 => ?_)
                · have h11l : i7 < px.gWhere.length := nat_lt_of2 h11
                  have h11n := nat_lt_of h11
                  refine AWP.skip ?_; refine AWP.seq ?_; refine AWP.block ?_
                  rcases bool2 (v8) with g12 | g12
                  · refine AWP.drawnL ⟨_, _, fun _ _ => (⟨[some ⟨31, [.t (.leaf (.string (px.gTrait))), .t (.row 1 (strTrs (px.gVars))), .t (.leaf (.int .i64 (px.gHead.gKind))), .t (.leaf (.string (px.gHead.gName))), .t (.row 3 (GType.trs (px.gHead.gArgs))), .t (.row 4 (GBound.trs (px.gWhere))), .t (.leaf (.bool (px.gDefault))), .t (.leaf (.bool (px.gHasAssoc))), .t (.leaf (.int .i64 (px.gAssoc.gKind))), .t (.leaf (.string (px.gAssoc.gName))), .t (.row 3 (GType.trs (px.gAssoc.gArgs))), .t (.row 11 (GMethod.trs (px.gMethods)))]⟩], []⟩ : Sto), fun q' => ([some (.t (.leaf (.bool (v8)))), some (.t (.leaf (.bool (v8)))), none, none, none, none, none, none, none, none, none, none, some (.t (.leaf (.bool (true)))), some (.t (.leaf (.bool (true))))] : List (Option PV)).getD q' none, fun q' => ([.q 0 0, .q 0 0, .q 0 0, .q 0 0, .q 0 0, .q 0 0, .q 0 0, .q 0 0, .q 0 0, .q 0 0, .q 0 0, .q 0 0, .q 0 0, .q 0 0] : List DK).getD q' (.q 0 0), [], none, fun q' => ([[(5, none)], [(23, some 0)], [], [], [], [], [], [], [], [], [], [], [(24, some 1)], [(35, some 12)]] : List (List (Nat × Option Nat))).getD q' []⟩ rfl mixed (by kernel_rfl) rfl rfl ⟨?_, ?_, ?_, ?_, ?_, ?_, ?_, ?_, ?_, ?_, ?_, ?_, ?_, ?_, trivial⟩ rfl ?_
                    · exact Draw.step.q1 0 rfl rfl fun s' bb hs hl => ⟨_, rfl, AOp.move (.inl rfl) rfl (hl 5 none _ (.head _) rfl)⟩
                    · exact Draw.step.q1 0 rfl rfl fun s' bb hs hl => ⟨_, rfl, AOp.move (.inl rfl) rfl (hl 23 (some 0) _ (.head _) rfl)⟩
                    · exact .inr ⟨(congrArg (fun b => some (b == false)) g12), rfl, ⟨_, _, rfl⟩, fun d hd => by cases hd; rfl⟩
                    · exact .inr ⟨(congrArg (fun b => some (b == false)) g12), rfl, ⟨_, _, rfl⟩, fun d hd => by cases hd; rfl⟩
                    · exact .inr ⟨(congrArg (fun b => some (b == false)) g12), rfl, ⟨_, _, rfl⟩, fun d hd => by cases hd; rfl⟩
                    · exact .inr ⟨(congrArg (fun b => some (b == false)) g12), rfl, ⟨_, _, rfl⟩, fun d hd => by cases hd; rfl⟩
                    · exact .inr ⟨(congrArg (fun b => some (b == false)) g12), rfl, ⟨_, _, rfl⟩, fun d hd => by cases hd; rfl⟩
                    · exact .inr ⟨(congrArg (fun b => some (b == false)) g12), rfl, ⟨_, _, rfl⟩, fun d hd => by cases hd; rfl⟩
                    · exact .inr ⟨(congrArg (fun b => some (b == false)) g12), rfl, ⟨_, _, rfl⟩, fun d hd => by cases hd; rfl⟩
                    · exact .inr ⟨(congrArg (fun b => some (b == false)) g12), rfl, ⟨_, _, rfl⟩, fun d hd => by cases hd; rfl⟩
                    · exact .inr ⟨(congrArg (fun b => some (b == false)) g12), rfl, ⟨_, _, rfl⟩, fun d hd => by cases hd; rfl⟩
                    · exact .inr ⟨(congrArg (fun b => some (b == false)) g12), rfl, ⟨_, _, rfl⟩, fun d hd => by cases hd; rfl⟩
                    · exact Draw.step.q1 0 rfl rfl fun s' bb hs hl => ⟨_, rfl, AOp.pickT rfl rfl (hl 24 (some 1) _ (.head _) rfl) g12 rfl⟩
                    · exact Draw.step.q1 0 rfl rfl fun s' bb hs hl => ⟨_, rfl, AOp.move (.inr rfl) rfl (hl 35 (some 12) _ (.head _) rfl)⟩
                    refine AWP.region_lit ?_; refine AL.cons rfl (AOp.move (.inl rfl) rfl rfl) ?_; refine AL.cons rfl (AOp.addI rfl rfl rfl rfl (c := ((i7 + 1 : Nat) : Int)) (by omega) (by omega)) ?_; refine AL.cons rfl (AOp.move (.inr rfl) rfl rfl) ?_; refine AL.nil ?_
                    have e13 : (sAssocTypeIsCovered_F2 fu px i3) i7 v8 = some (.next true) := swT g12 (rfl)
                    refine ⟨(i7 + 1, true), loopN_next h11l hJ9 e13, ?_, ?_⟩
                    · exact Wk.mk (StLe.mk' ⟨⟨rfl, leA, rfl⟩, trivial⟩ rfl) (keeps_nil hC) ⟨⟨_, rfl, .refl _, rfl⟩, ⟨⟨_, rfl, .refl _, rfl⟩, ⟨⟨_, rfl, .refl _, rfl⟩, ⟨⟨_, rfl, .refl _, rfl⟩, ⟨⟨_, rfl, leA, rfl⟩, ⟨⟨_, rfl, leA, rfl⟩, ⟨⟨_, rfl, .refl _, rfl⟩, ⟨⟨_, rfl, .refl _, rfl⟩, ⟨⟨_, rfl, .refl _, rfl⟩, ⟨⟨_, rfl, .refl _, rfl⟩, trivial⟩⟩⟩⟩⟩⟩⟩⟩⟩⟩
                    · dsimp only; omega
                  · refine AWP.drawnL ⟨_, _, fun _ _ => (⟨[some ⟨31, [.t (.leaf (.string (px.gTrait))), .t (.row 1 (strTrs (px.gVars))), .t (.leaf (.int .i64 (px.gHead.gKind))), .t (.leaf (.string (px.gHead.gName))), .t (.row 3 (GType.trs (px.gHead.gArgs))), .t (.row 4 (GBound.trs (px.gWhere))), .t (.leaf (.bool (px.gDefault))), .t (.leaf (.bool (px.gHasAssoc))), .t (.leaf (.int .i64 (px.gAssoc.gKind))), .t (.leaf (.string (px.gAssoc.gName))), .t (.row 3 (GType.trs (px.gAssoc.gArgs))), .t (.row 11 (GMethod.trs (px.gMethods)))]⟩], []⟩ : Sto), fun q' => ([some (.t (.leaf (.bool (v8)))), some (.t (.leaf (.bool (v8)))), some (.ptr 0 5), some (.t (.row 4 (GBound.trs (px.gWhere)))), some (.t (.leaf (.int .i64 (((i7 : Nat) : Int))))), some (.eptr (GBound.cs (atD px.gWhere i7))), some ((GBound.pv (atD px.gWhere i7))), some (.t (.row 4 (GBound.trs (GType.projs px.gAssoc)))), some (.t (.leaf (.int .i64 (((i3 : Nat) : Int))))), some (.eptr (GBound.cs (atD (GType.projs px.gAssoc) i3))), some ((GBound.pv (atD (GType.projs px.gAssoc) i3))), some (.t (.leaf (.bool (GBound.eq (atD px.gWhere i7) (atD (GType.projs px.gAssoc) i3))))), some (.t (.leaf (.bool (GBound.eq (atD px.gWhere i7) (atD (GType.projs px.gAssoc) i3))))), some (.t (.leaf (.bool (GBound.eq (atD px.gWhere i7) (atD (GType.projs px.gAssoc) i3)))))] : List (Option PV)).getD q' none, fun q' => ([.q 0 0, .q 0 0, .q 0 0, .q 0 0, .q 0 0, .q 0 0, .q 0 0, .q 0 0, .q 0 0, .q 0 0, .q 0 0, .q 0 0, .q 0 0, .q 0 0] : List DK).getD q' (.q 0 0), [], none, fun q' => ([[(5, none)], [(23, some 0)], [(1, none)], [(25, some 2)], [(6, none)], [(26, some 3), (27, some 4)], [(28, some 5)], [(3, none)], [(4, none)], [(30, some 7), (31, some 8)], [(32, some 9)], [(33, some 10), (29, some 6)], [(24, some 1), (34, some 11)], [(35, some 12)]] : List (List (Nat × Option Nat))).getD q' []⟩ rfl mixed (by kernel_rfl) rfl rfl ⟨?_, ?_, ?_, ?_, ?_, ?_, ?_, ?_, ?_, ?_, ?_, ?_, ?_, ?_, trivial⟩ rfl ?_
                    · exact Draw.step.q1 0 rfl rfl fun s' bb hs hl => ⟨_, rfl, AOp.move (.inl rfl) rfl (hl 5 none _ (.head _) rfl)⟩
                    · exact Draw.step.q1 0 rfl rfl fun s' bb hs hl => ⟨_, rfl, AOp.move (.inl rfl) rfl (hl 23 (some 0) _ (.head _) rfl)⟩
                    · exact Draw.step.q1 0 (congrArg (fun b => some (b == false)) g12) rfl fun s' bb hs hl => ⟨_, rfl, AOp.fieldPtr (k := 0) (d := 0) (e := 5) rfl rfl (hl 1 none _ (.head _) rfl) fo31_3⟩
                    · exact Draw.step.q1 0 (congrArg (fun b => some (b == false)) g12) rfl fun s' bb hs hl => ⟨_, rfl, AOp.loadPtr1 rfl rfl (hl 25 (some 2) _ (.head _) rfl) (by rw [hs]; rfl) sh28 rfl⟩
                    · exact Draw.step.q1 0 (congrArg (fun b => some (b == false)) g12) rfl fun s' bb hs hl => ⟨_, rfl, AOp.move (.inl rfl) rfl (hl 6 none _ (.head _) rfl)⟩
                    · exact Draw.step.q1 0 (congrArg (fun b => some (b == false)) g12) rfl fun s' bb hs hl => ⟨_, rfl, AOp.index (k := i7) rfl rfl (hl 26 (some 3) _ (.head _) rfl) rfl (hl 27 (some 4) _ (.tail _ (.head _)) rfl) (GBound.trs_at h11n) el28⟩
                    · exact Draw.step.q1 0 (congrArg (fun b => some (b == false)) g12) rfl fun s' bb hs hl => ⟨_, rfl, AOp.loadEptr (ds := [.leaf (.string ((atD px.gWhere i7).gTrait)), .leaf (.int .i64 ((atD px.gWhere i7).gType.gKind)), .leaf (.string ((atD px.gWhere i7).gType.gName)), .row 3 (GType.trs ((atD px.gWhere i7).gType.gArgs))]) rfl rfl (hl 28 (some 5) _ (.head _) rfl) sh37 rfl rfl⟩
                    · exact Draw.step.q1 0 (congrArg (fun b => some (b == false)) g12) rfl fun s' bb hs hl => ⟨_, rfl, AOp.move (.inl rfl) rfl (hl 3 none _ (.head _) rfl)⟩
                    · exact Draw.step.q1 0 (congrArg (fun b => some (b == false)) g12) rfl fun s' bb hs hl => ⟨_, rfl, AOp.move (.inl rfl) rfl (hl 4 none _ (.head _) rfl)⟩
                    · exact Draw.step.q1 0 (congrArg (fun b => some (b == false)) g12) rfl fun s' bb hs hl => ⟨_, rfl, AOp.index (k := i3) rfl rfl (hl 30 (some 7) _ (.head _) rfl) rfl (hl 31 (some 8) _ (.tail _ (.head _)) rfl) (GBound.trs_at h6n) el28⟩
                    · exact Draw.step.q1 0 (congrArg (fun b => some (b == false)) g12) rfl fun s' bb hs hl => ⟨_, rfl, AOp.loadEptr (ds := [.leaf (.string ((atD (GType.projs px.gAssoc) i3).gTrait)), .leaf (.int .i64 ((atD (GType.projs px.gAssoc) i3).gType.gKind)), .leaf (.string ((atD (GType.projs px.gAssoc) i3).gType.gName)), .row 3 (GType.trs ((atD (GType.projs px.gAssoc) i3).gType.gArgs))]) rfl rfl (hl 32 (some 9) _ (.head _) rfl) sh37 rfl rfl⟩
                    · exact Draw.step.q1 0 (congrArg (fun b => some (b == false)) g12) rfl fun s' bb hs hl => ⟨_, rfl, AOp.callF (res := .t (.leaf (.bool (GBound.eq (atD px.gWhere i7) (atD (GType.projs px.gAssoc) i3))))) (ps := [_, _]) rfl rfl Try.func41 (by kernel_rfl) rfl (evs_cons (hl 29 (some 6) _ (.tail _ (.head _)) rfl) (evs_cons (hl 33 (some 10) _ (.head _) rfl) rfl)) leA rfl rfl (sEqualGoal_fn (atD px.gWhere i7) (atD (GType.projs px.gAssoc) i3))⟩
                    · exact Draw.step.q1 0 rfl rfl fun s' bb hs hl => ⟨_, rfl, AOp.pickF rfl rfl (hl 24 (some 1) _ (.head _) rfl) g12 (hl 34 (some 11) _ (.tail _ (.head _)) rfl)⟩
                    · exact Draw.step.q1 0 rfl rfl fun s' bb hs hl => ⟨_, rfl, AOp.move (.inr rfl) rfl (hl 35 (some 12) _ (.head _) rfl)⟩
                    refine AWP.region_lit ?_; refine AL.cons rfl (AOp.move (.inl rfl) rfl rfl) ?_; refine AL.cons rfl (AOp.addI rfl rfl rfl rfl (c := ((i7 + 1 : Nat) : Int)) (by omega) (by omega)) ?_; refine AL.cons rfl (AOp.move (.inr rfl) rfl rfl) ?_; refine AL.nil ?_
                    have e14 : (sAssocTypeIsCovered_F2 fu px i3) i7 v8 = some (.next (GBound.eq (atD px.gWhere i7) (atD (GType.projs px.gAssoc) i3))) := swF g12 (rfl)
                    refine ⟨(i7 + 1, (GBound.eq (atD px.gWhere i7) (atD (GType.projs px.gAssoc) i3))), loopN_next h11l hJ9 e14, ?_, ?_⟩
                    · exact Wk.mk (StLe.mk' ⟨⟨rfl, leA, rfl⟩, trivial⟩ rfl) (keeps_nil hC) ⟨⟨_, rfl, .refl _, rfl⟩, ⟨⟨_, rfl, .refl _, rfl⟩, ⟨⟨_, rfl, .refl _, rfl⟩, ⟨⟨_, rfl, .refl _, rfl⟩, ⟨⟨_, rfl, leA, rfl⟩, ⟨⟨_, rfl, leA, rfl⟩, ⟨⟨_, rfl, .refl _, rfl⟩, ⟨⟨_, rfl, .refl _, rfl⟩, ⟨⟨_, rfl, .refl _, rfl⟩, ⟨⟨_, rfl, .refl _, rfl⟩, trivial⟩⟩⟩⟩⟩⟩⟩⟩⟩⟩
                    · dsimp only; omega
                · have h11l : px.gWhere.length ≤ i7 := nat_ge_of2 h11
                  refine AWP.exit ?_; refine ⟨v8, loopN_end h11l hJ9, ?_⟩
                  exact Wk.mk (StLe.mk' ⟨⟨rfl, leA, rfl⟩, trivial⟩ rfl) (keeps_nil hC) ⟨⟨_, rfl, .refl _, rfl⟩, ⟨⟨_, rfl, .refl _, rfl⟩, ⟨⟨_, rfl, .refl _, rfl⟩, ⟨⟨_, rfl, .refl _, rfl⟩, ⟨⟨_, rfl, .refl _, rfl⟩, ⟨⟨_, rfl, .refl _, rfl⟩, ⟨⟨_, rfl, .refl _, rfl⟩, ⟨⟨_, rfl, .refl _, rfl⟩, ⟨⟨_, rfl, .refl _, rfl⟩, trivial⟩⟩⟩⟩⟩⟩⟩⟩⟩
            · rintro v8 hR15
              refine AWP.seq ?_; refine AWP.region_lit ?_; refine AL.cons rfl (AOp.move (.inl rfl) rfl rfl) ?_; refine AL.cons rfl (AOp.notB rfl rfl rfl) ?_; refine AL.nil ?_; refine AWP.cond rfl (fun h16 => ?_) (fun h16 => ?_)
              · refine AWP.seq ?_; refine AWP.region_lit ?_; refine AL.cons rfl (AOp.move (.inr rfl) rfl rfl) ?_; refine AL.nil ?_; refine AWP.ret ?_
                have e17 : (sAssocTypeIsCovered_F1 fu px) i3 () = some (.ret false) := soR hR15 (swT h16 (rfl))
                have e18 : sAssocTypeIsCovered_R1 fu px = some (.inl false) := loopN_ret h6l hJ5 e17
                have e19 : sAssocTypeIsCovered_M fu px = some false := gdT hg1 (gdT hg2 (soL e18))
                have hz : false = r := Option.some.inj (e19.symm.trans H)
                subst hz
                exact Ends.mk (ps := [_]) (by first | exact .inr rfl | exact .inl rfl) ⟨rfl, trivial⟩ rfl (StLe.mk' (st' := ⟨[], []⟩) trivial rfl) (keeps_nil hC) (q := (.t (.leaf (.bool (false))) : PV)) leA rfl ⟨rfl, rfl⟩
              · refine AWP.skip ?_; refine AWP.region_lit ?_; refine AL.cons rfl (AOp.move (.inl rfl) rfl rfl) ?_; refine AL.cons rfl (AOp.addI rfl rfl rfl rfl (c := ((i3 + 1 : Nat) : Int)) (by omega) (by omega)) ?_; refine AL.cons rfl (AOp.move (.inr rfl) rfl rfl) ?_; refine AL.nil ?_
                have e20 : (sAssocTypeIsCovered_F1 fu px) i3 () = some (.next ()) := soR hR15 (swF h16 (rfl))
                refine ⟨(i3 + 1, ()), loopN_next h6l hJ5 e20, ?_, ?_⟩
                · exact Wk.mk (StLe.mk' ⟨⟨rfl, leA, rfl⟩, trivial⟩ rfl) (keeps_nil hC) ⟨⟨_, rfl, .refl _, rfl⟩, ⟨⟨_, rfl, .refl _, rfl⟩, ⟨⟨_, rfl, .refl _, rfl⟩, ⟨⟨_, rfl, leA, rfl⟩, trivial⟩⟩⟩⟩
                · dsimp only; omega
          · have h6l : (GType.projs px.gAssoc).length ≤ i3 := nat_ge_of2 h6
            refine AWP.exit ?_; refine ⟨(), loopN_end h6l hJ5, ?_⟩
            exact Wk.mk (StLe.mk' ⟨⟨rfl, leA, rfl⟩, trivial⟩ rfl) (keeps_nil hC) ⟨⟨_, rfl, .refl _, rfl⟩, trivial⟩
      · rintro ⟨⟩ hR21
        refine AWP.seq ?_; refine AWP.region_lit ?_; refine AL.cons rfl (AOp.move (.inr rfl) rfl rfl) ?_; refine AL.nil ?_; refine AWP.ret ?_
        have e22 : sAssocTypeIsCovered_M fu px = some true := gdT hg1 (gdT hg2 (soR hR21 (rfl)))
        have hz : true = r := Option.some.inj (e22.symm.trans H)
        subst hz
        exact Ends.mk (ps := [_]) (by first | exact .inr rfl | exact .inl rfl) ⟨rfl, trivial⟩ rfl (StLe.mk' (st' := ⟨[], []⟩) trivial rfl) (keeps_nil hC) (q := (.t (.leaf (.bool (true))) : PV)) leA rfl ⟨rfl, rfl⟩
    · have e23 : sAssocTypeIsCovered_M fu px = none := gdT hg1 (gdF hg2)
      exact none_some H e23
  · have e24 : sAssocTypeIsCovered_M fu px = none := gdF hg1
    exact none_some H e24

end Go.Proofs.Ytlijdhhajojenaa

namespace Go.Proofs.Ytlijdhhajojenaa
set_option linter.unusedSimpArgs false
set_option linter.unusedVariables false
open Go.RowKit Go.Proofs

def GInstance.covered (x : GInstance) : Bool := (GType.projs x.gAssoc).all fun g => x.gWhere.any fun b => GBound.eq b g
theorem iCovered_eq (fu : Nat) (x : GInstance) (hb : Tr.bulkL (GType.tr x.gAssoc) ≤ 68719476735) (hp : (GType.pre x.gAssoc).length ≤ 68719476736) : iAssocTypeIsCovered_M fu x = some x.covered := by
  have h1 : gIndexFunc_Bound__iAssocTypeIsCovered_1_M fu (GType.projs x.gAssoc) x = some (match (GType.projs x.gAssoc).findIdx? (fun g => !(x.gWhere.any fun b => GBound.eq b g)) with | some i => ((i : Nat) : Int) | none => -1) := by
    unfold gIndexFunc_Bound__iAssocTypeIsCovered_1_M gIndexFunc_Bound__iAssocTypeIsCovered_1_R1
    rw [loopN_index (l := GType.projs x.gAssoc) (p := fun g => !(x.gWhere.any fun b => GBound.eq b g)) fun i hi => by
      rw [gIndexFunc_Bound__iAssocTypeIsCovered_1_F1]
      simp only [iAssocTypeIsCovered_1_M, bd]
      cases (x.gWhere.any fun b => GBound.eq b (atD (GType.projs x.gAssoc) i)) <;> rfl]
    cases (GType.projs x.gAssoc).findIdx? fun g => !(x.gWhere.any fun b => GBound.eq b g) <;> rfl
  unfold iAssocTypeIsCovered_M gContainsFunc_Bound__iAssocTypeIsCovered_1_M
  rw [gdT hb rfl, gdT hp rfl, bdS (a := (GType.projs x.gAssoc).any fun g => !(x.gWhere.any fun b => GBound.eq b g)) (by rw [bdS h1 rfl]; exact congrArg some index_any) rfl]
  unfold GInstance.covered
  rw [← List.not_all_eq_any_not, Bool.not_not]
theorem sCovered_eq (fu : Nat) (x : GInstance) (hb : Tr.bulkL (GType.tr x.gAssoc) ≤ 68719476735) (hp : (GType.pre x.gAssoc).length ≤ 68719476736) : sAssocTypeIsCovered_M fu x = some x.covered := by
  unfold sAssocTypeIsCovered_M
  rw [gdT hb rfl, gdT hp rfl]
  have h2 : ∀ i, sAssocTypeIsCovered_R2 fu x i = some (.inr (x.gWhere.any fun b => GBound.eq b (atD (GType.projs x.gAssoc) i))) := fun i => by
    unfold sAssocTypeIsCovered_R2
    rw [loopN_fold0 (l := x.gWhere) (g := fun b y => if b then true else GBound.eq y (atD (GType.projs x.gAssoc) i)) (fun _ _ => True) (fun k s hk _ => ⟨?_, trivial⟩) trivial, orfold, Bool.false_or]
    rw [sAssocTypeIsCovered_F2]
    cases s <;> rfl
  have h1 : sAssocTypeIsCovered_R1 fu x = some (if x.covered then .inr () else .inl false) := by
    unfold sAssocTypeIsCovered_R1 GInstance.covered
    refine loopN_every (l := GType.projs x.gAssoc) (p := fun g => x.gWhere.any fun b => GBound.eq b g) (r := false) (s := ()) fun i hi => ?_
    rw [sAssocTypeIsCovered_F1, soR (h2 i) rfl]
    cases (x.gWhere.any fun b => GBound.eq b (atD (GType.projs x.gAssoc) i)) <;> rfl
  rw [h1]
  cases x.covered <;> rfl
theorem iCovered_fn (x : GInstance) (hb : Tr.bulkL (GType.tr x.gAssoc) ≤ 68719476735) (hp : (GType.pre x.gAssoc).length ≤ 68719476736) : AFun Try.prog 9 [(GInstance.pv x)] (.t (.leaf (.bool x.covered))) := iAssocTypeIsCovered_ok 0 x _ (iCovered_eq 0 x hb hp)
theorem sCovered_fn (x : GInstance) (hb : Tr.bulkL (GType.tr x.gAssoc) ≤ 68719476735) (hp : (GType.pre x.gAssoc).length ≤ 68719476736) : AFun Try.prog 10 [(GInstance.pv x)] (.t (.leaf (.bool x.covered))) := sAssocTypeIsCovered_ok 0 x _ (sCovered_eq 0 x hb hp)
end Go.Proofs.Ytlijdhhajojenaa

namespace Go.Proofs.Ytlijdhhajojenaa
open Go.RowKit Go.Proofs
set_option linter.unusedSimpArgs false
set_option linter.unusedVariables false

attribute [local irreducible] lt

noncomputable def iHasProjection_1_M (fu : Nat)  (pu : GType) (c1 : Bool) : Option Bool :=
 sw (c1)
 (some true)
 (some (decide ((pu.gKind : Int) = 3)))
set_option maxRecDepth 100000 in
set_option maxHeartbeats 4000000 in
theorem iHasProjection_1_ok  (fu : Nat)  (pu : GType) (c1 : Bool) (r : Bool) (H : iHasProjection_1_M fu pu c1 = some r) : ACalls Try.prog 46 [(GType.pv pu), .ptr 0 0] ⟨[some ⟨4, [.t (.leaf (.bool (c1)))]⟩], []⟩ (fun q t => q = (.tup [] : PV) ∧ t = ⟨[some ⟨4, [.t (.leaf (.bool (r)))]⟩], []⟩) := by
  refine ACalls.intro Try.func46 rfl (by first | decide | (simp; done) | (simp; decide)) ?_; intro C hC
  refine AWP.seq ?_; refine AWP.region_lit ?_; refine AL.cons rfl (AOp.box (cs := [.t (.leaf (.int .i64 (pu.gKind))), .t (.leaf (.string (pu.gName))), .t (.row 3 (GType.trs (pu.gArgs)))]) rfl rfl rfl rfl rfl) ?_; refine AL.nil ?_; refine AWP.region_lit ?_; refine AL.cons rfl (AOp.loadPtr1 rfl rfl rfl rfl sh4 rfl) ?_; refine AL.cons rfl (AOp.move (.inl rfl) rfl rfl) ?_; refine AL.splitB 4 rfl (fun g1 => ?_) (fun g1 => ?_)
  · refine AL.skipP rfl rfl rfl g1 rfl rfl ?_; refine AL.skipP rfl rfl rfl g1 rfl rfl ?_; refine AL.skipP rfl rfl rfl g1 rfl rfl ?_; refine AL.cons rfl (AOp.pickT rfl rfl rfl g1 rfl) ?_; refine AL.cons rfl (AOp.storePtr (cs := [.t (.leaf (.bool (true)))]) (ds := [.t (.leaf (.bool (true)))]) rfl rfl rfl rfl rfl rfl rfl sz4 (Nat.le_of_ble_eq_true rfl) rfl) ?_; refine AL.nil ?_
    have e2 : iHasProjection_1_M fu pu c1 = some true := swT g1 (rfl)
    have hz : true = r := Option.some.inj (e2.symm.trans H)
    subst hz
    exact Ends.mk (ps := []) (by first | exact .inr rfl | exact .inl rfl) trivial rfl (StLe.mk' (st' := ⟨[some ⟨4, [.t (.leaf (.bool (true)))]⟩], []⟩) ⟨⟨rfl, leA, rfl⟩, trivial⟩ rfl) (keeps_all hC (boxes1 rfl) (Nat.le_of_ble_eq_true rfl)) (q := (.tup [] : PV)) leA rfl ⟨rfl, rfl⟩
  · refine AL.cons_gv rfl rfl rfl g1 (AOp.fieldPtr (k := 1) (d := 0) (e := 0) rfl rfl rfl fo27_0) ?_; refine AL.cons_gv rfl rfl rfl g1 (AOp.loadPtr1 rfl rfl rfl rfl sh3 rfl) ?_; refine AL.cons_gv rfl rfl rfl g1 (AOp.eqlI rfl rfl rfl rfl) ?_; refine AL.cons rfl (AOp.pickF rfl rfl rfl g1 rfl) ?_; refine AL.cons rfl (AOp.storePtr (cs := [.t (.leaf (.bool (decide ((pu.gKind : Int) = 3))))]) (ds := [.t (.leaf (.bool (decide ((pu.gKind : Int) = 3))))]) rfl rfl rfl rfl rfl rfl rfl sz4 (Nat.le_of_ble_eq_true rfl) rfl) ?_; refine AL.nil ?_
    have e3 : iHasProjection_1_M fu pu c1 = some (decide ((pu.gKind : Int) = 3)) := swF g1 (rfl)
    have hz : (decide ((pu.gKind : Int) = 3)) = r := Option.some.inj (e3.symm.trans H)
    subst hz
    exact Ends.mk (ps := []) (by first | exact .inr rfl | exact .inl rfl) trivial rfl (StLe.mk' (st' := ⟨[some ⟨4, [.t (.leaf (.bool ((decide ((pu.gKind : Int) = 3)))))]⟩], []⟩) ⟨⟨rfl, leA, rfl⟩, trivial⟩ rfl) (keeps_all hC (boxes1 rfl) (Nat.le_of_ble_eq_true rfl)) (q := (.tup [] : PV)) leA rfl ⟨rfl, rfl⟩

noncomputable def ieachType__iHasProjection_1_F1 (fu : Nat) (r_ieachType__iHasProjection_1 : GType → Bool → Option Bool) (pt : GType) (c1_0 : Bool) (x2 : Bool) : Nat → Bool → Option (LR Bool Bool) :=
 fun i5 v6 => bd (r_ieachType__iHasProjection_1 (atD pt.gArgs i5) v6) (fun x10 =>
 some (.next x10))
noncomputable def ieachType__iHasProjection_1_R1 (fu : Nat) (r_ieachType__iHasProjection_1 : GType → Bool → Option Bool) (pt : GType) (c1_0 : Bool) (x2 : Bool) : Option (Bool ⊕ Bool) :=
 loopN (ieachType__iHasProjection_1_F1 fu r_ieachType__iHasProjection_1 pt c1_0 x2) (pt.gArgs.length - 0) 0 x2
noncomputable def ieachType__iHasProjection_1_G (fu : Nat) (r_ieachType__iHasProjection_1 : GType → Bool → Option Bool) (pt : GType) (c1_0 : Bool) : Option Bool :=
 bd (iHasProjection_1_M fu pt c1_0) (fun x2 =>
 so (ieachType__iHasProjection_1_R1 fu r_ieachType__iHasProjection_1 pt c1_0 x2) (fun v6 =>
 some v6))
set_option maxRecDepth 100000 in
set_option maxHeartbeats 4000000 in
theorem ieachType__iHasProjection_1_step (r_ieachType__iHasProjection_1 : GType → Bool → Option Bool) (fu : Nat) (h_ieachType__iHasProjection_1 : ∀ (pt : GType) (c1_0 : Bool) (r : Bool), r_ieachType__iHasProjection_1 pt c1_0 = some r → ACalls Try.prog 42 [(GType.pv pt), .fn 46 [.ptr 0 0]] ⟨[some ⟨4, [.t (.leaf (.bool (c1_0)))]⟩], []⟩ (fun q t => q = (.tup [] : PV) ∧ t = ⟨[some ⟨4, [.t (.leaf (.bool (r)))]⟩], []⟩)) (pt : GType) (c1_0 : Bool) (r : Bool) (H : ieachType__iHasProjection_1_G fu r_ieachType__iHasProjection_1 pt c1_0 = some r) : ACalls Try.prog 42 [(GType.pv pt), .fn 46 [.ptr 0 0]] ⟨[some ⟨4, [.t (.leaf (.bool (c1_0)))]⟩], []⟩ (fun q t => q = (.tup [] : PV) ∧ t = ⟨[some ⟨4, [.t (.leaf (.bool (r)))]⟩], []⟩) := by
  refine ACalls.intro Try.func42 rfl (by first | decide | (simp; done) | (simp; decide)) ?_; intro C hC
  refine AWP.seq ?_; refine AWP.region_lit ?_; refine AL.cons rfl (AOp.box (cs := [.t (.leaf (.int .i64 (pt.gKind))), .t (.leaf (.string (pt.gName))), .t (.row 3 (GType.trs (pt.gArgs)))]) rfl rfl rfl rfl rfl) ?_; refine AL.nil ?_; refine AWP.seq ?_; refine AWP.region_lit ?_; refine AL.cons rfl (AOp.move (.inl rfl) rfl rfl) ?_; refine AL.cons rfl (AOp.loadPtr (cs := [.t (.leaf (.int .i64 (pt.gKind))), .t (.leaf (.string (pt.gName))), .t (.row 3 (GType.trs (pt.gArgs)))]) rfl rfl rfl rfl sh27 rfl rfl) ?_
  rcases hq1 : iHasProjection_1_M fu pt c1_0 with _ | x2
  · have e3 : ieachType__iHasProjection_1_G fu r_ieachType__iHasProjection_1 pt c1_0 = none := bdN hq1
    exact none_some H e3
  · refine AL.cons rfl (AOp.callVPE (pre := ⟨[some ⟨4, [.t (.leaf (.bool (c1_0)))]⟩], []⟩) (st' := ⟨[some ⟨4, [.t (.leaf (.bool (x2)))]⟩], []⟩) (ps := [_]) (cs := [.ptr 0 0]) (qs := [(GType.pv pt), .ptr 0 0]) [0] [] rfl rfl rfl Try.func46 (by kernel_rfl) rfl rfl rfl (Part0.of ⟨⟨_, rfl, rfl, leA, rfl⟩, trivial⟩ trivial (by decide) (by decide)) leA rfl rfl rfl (iHasProjection_1_ok fu pt c1_0 _ hq1)) ?_; refine AL.nil ?_; refine AWP.seq ?_; refine AWP.region_lit ?_; refine AL.cons rfl (AOp.fieldPtr (k := 1) (d := 0) (e := 2) rfl rfl rfl fo27_2) ?_; refine AL.cons rfl (AOp.loadPtr1 rfl rfl rfl rfl sh25 rfl) ?_; refine AL.fact (lk_lenN 10 rfl rfl (GType.trs_len _)) (fun hl4 => ?_)
    refine AL.cons rfl (AOp.lenN rfl rfl rfl rfl el25 (GType.trs_len _)) ?_; refine AL.cons rfl (AOp.move (.inl rfl) rfl rfl) ?_; refine AL.nil ?_; refine AWP.cut (ι := Bool) (fun v6 => ieachType__iHasProjection_1_R1 fu r_ieachType__iHasProjection_1 pt c1_0 x2 = some (.inr v6)) (fun v6 => ⟨[], ⟨[some ⟨4, [.t (.leaf (.bool (v6)))]⟩, some ⟨27, [.t (.leaf (.int .i64 (pt.gKind))), .t (.leaf (.string (pt.gName))), .t (.row 3 (GType.trs (pt.gArgs)))]⟩], []⟩⟩) (by repeat' (first | exact qcEnds | exact ncAWP | exact ncRound | exact ncEx | apply qcThen | apply qcBlock | apply qcCut)) ?_ ?_
    · refine AWP.block ?_; refine AWP.loopR (ι := Nat × Bool) (fun (i5, v6) => ieachType__iHasProjection_1_R1 fu r_ieachType__iHasProjection_1 pt c1_0 x2 = loopN (ieachType__iHasProjection_1_F1 fu r_ieachType__iHasProjection_1 pt c1_0 x2) (pt.gArgs.length - i5) i5 v6) (fun (i5, v6) => ⟨[(1, .fn 46 [.ptr 0 0]), (10, .t (.row 3 (GType.trs (pt.gArgs)))), (11, .t (.leaf (.int .i64 (((pt.gArgs.length : Nat) : Int))))), (12, .t (.leaf (.int .i64 (((i5 : Nat) : Int)))))], ⟨[some ⟨4, [.t (.leaf (.bool (v6)))]⟩, some ⟨27, [.t (.leaf (.int .i64 (pt.gKind))), .t (.leaf (.string (pt.gName))), .t (.row 3 (GType.trs (pt.gArgs)))]⟩], []⟩⟩) (fun (i5, v6) => pt.gArgs.length - i5) (0, x2) ?_ ?_ ?_
      · exact rfl
      · exact Wk.mk (StLe.mk' ⟨⟨rfl, leA, rfl⟩, ⟨⟨rfl, leA, rfl⟩, trivial⟩⟩ rfl) (keeps_all hC (boxes1 rfl) (Nat.le_of_ble_eq_true rfl)) ⟨⟨_, rfl, .refl _, rfl⟩, ⟨⟨_, rfl, .refl _, rfl⟩, ⟨⟨_, rfl, .refl _, rfl⟩, ⟨⟨_, rfl, leA, rfl⟩, trivial⟩⟩⟩⟩
      · rintro ⟨i5, v6⟩ hJ7
        refine AWP.seq ?_; refine AWP.region_lit ?_; refine AL.cons rfl (AOp.lss rfl rfl rfl rfl) ?_; refine AL.nil ?_; refine AWP.seq ?_; refine AWP.cond rfl (fun h8 => ?_) (fun h8 => ?_)
        · have h8l : i5 < pt.gArgs.length := nat_lt_of2 h8
          have h8n := nat_lt_of h8
          refine AWP.skip ?_; refine AWP.seq ?_; refine AWP.block ?_; refine AWP.seq ?_; refine AWP.region_lit ?_; refine AL.cons rfl (AOp.index (k := i5) rfl rfl rfl rfl rfl (GType.trs_at h8n) el25) ?_; refine AL.cons rfl (AOp.loadEptr (ds := [.leaf (.int .i64 ((atD pt.gArgs i5).gKind)), .leaf (.string ((atD pt.gArgs i5).gName)), .row 3 (GType.trs ((atD pt.gArgs i5).gArgs))]) rfl rfl rfl sh27 rfl rfl) ?_; refine AL.cons rfl (AOp.alloc rfl rfl zr27) ?_; refine AL.cons rfl (AOp.storePtr (cs := [.t (.leaf (.int .i64 ((atD pt.gArgs i5).gKind))), .t (.leaf (.string ((atD pt.gArgs i5).gName))), .t (.row 3 (GType.trs ((atD pt.gArgs i5).gArgs)))]) (ds := [.t (.leaf (.int .i64 ((atD pt.gArgs i5).gKind))), .t (.leaf (.string ((atD pt.gArgs i5).gName))), .t (.row 3 (GType.trs ((atD pt.gArgs i5).gArgs)))]) rfl rfl rfl rfl rfl rfl rfl sz27 (Nat.le_of_ble_eq_true rfl) rfl) ?_; refine AL.nil ?_; refine AWP.region_lit ?_; refine AL.cons rfl (AOp.loadPtr (cs := [.t (.leaf (.int .i64 ((atD pt.gArgs i5).gKind))), .t (.leaf (.string ((atD pt.gArgs i5).gName))), .t (.row 3 (GType.trs ((atD pt.gArgs i5).gArgs)))]) rfl rfl rfl rfl sh27 rfl rfl) ?_; refine AL.cons rfl (AOp.move (.inl rfl) rfl rfl) ?_
          rcases hq9 : r_ieachType__iHasProjection_1 (atD pt.gArgs i5) v6 with _ | x10
          · have e11 : (ieachType__iHasProjection_1_F1 fu r_ieachType__iHasProjection_1 pt c1_0 x2) i5 v6 = none := bdN hq9
            have e12 : ieachType__iHasProjection_1_R1 fu r_ieachType__iHasProjection_1 pt c1_0 x2 = none := loopN_non h8l hJ7 e11
            have e13 : ieachType__iHasProjection_1_G fu r_ieachType__iHasProjection_1 pt c1_0 = none := bdS hq1 (soN e12)
            exact none_some H e13
          · refine AL.cons rfl (AOp.callPE (pre := ⟨[some ⟨4, [.t (.leaf (.bool (v6)))]⟩], []⟩) (st' := ⟨[some ⟨4, [.t (.leaf (.bool (x10)))]⟩], []⟩) (ps := [_, _]) (qs := [(GType.pv (atD pt.gArgs i5)), .fn 46 [.ptr 0 0]]) [0] [] rfl rfl Try.func42 (by kernel_rfl) rfl rfl rfl (Part0.of ⟨⟨_, rfl, rfl, leA, rfl⟩, trivial⟩ trivial (by decide) (by decide)) leA rfl rfl rfl (h_ieachType__iHasProjection_1 (atD pt.gArgs i5) v6 _ hq9)) ?_; refine AL.nil ?_; refine AWP.region_lit ?_; refine AL.cons rfl (AOp.addI rfl rfl rfl rfl (c := ((i5 + 1 : Nat) : Int)) (by omega) (by omega)) ?_; refine AL.cons rfl (AOp.move (.inl rfl) rfl rfl) ?_; refine AL.nil ?_
            have e14 : (ieachType__iHasProjection_1_F1 fu r_ieachType__iHasProjection_1 pt c1_0 x2) i5 v6 = some (.next x10) := bdS hq9 (rfl)
            refine ⟨(i5 + 1, x10), loopN_next h8l hJ7 e14, ?_, ?_⟩
            · exact Wk.mk (StLe.mk' ⟨⟨rfl, leA, rfl⟩, ⟨⟨rfl, leA, rfl⟩, trivial⟩⟩ rfl) (keeps_all hC (boxes1 rfl) (Nat.le_of_ble_eq_true rfl)) ⟨⟨_, rfl, .refl _, rfl⟩, ⟨⟨_, rfl, .refl _, rfl⟩, ⟨⟨_, rfl, .refl _, rfl⟩, ⟨⟨_, rfl, leA, rfl⟩, trivial⟩⟩⟩⟩
            · dsimp only; omega
        · have h8l : pt.gArgs.length ≤ i5 := nat_ge_of2 h8
          refine AWP.exit ?_; refine ⟨v6, loopN_end h8l hJ7, ?_⟩
          exact Wk.mk (StLe.mk' ⟨⟨rfl, leA, rfl⟩, ⟨⟨rfl, leA, rfl⟩, trivial⟩⟩ rfl) (keeps_all hC (boxes1 rfl) (Nat.le_of_ble_eq_true rfl)) trivial
    · rintro v6 hR15
      have e16 : ieachType__iHasProjection_1_G fu r_ieachType__iHasProjection_1 pt c1_0 = some v6 := bdS hq1 (soR hR15 (rfl))
      have hz : v6 = r := Option.some.inj (e16.symm.trans H)
      subst hz
      exact Ends.mk (ps := []) (by first | exact .inr rfl | exact .inl rfl) trivial rfl (StLe.mk' (st' := ⟨[some ⟨4, [.t (.leaf (.bool (v6)))]⟩], []⟩) ⟨⟨rfl, leA, rfl⟩, trivial⟩ rfl) (keeps_all hC (boxes1 rfl) (Nat.le_of_ble_eq_true rfl)) (q := (.tup [] : PV)) leA rfl ⟨rfl, rfl⟩
noncomputable def ieachType__iHasProjection_1_M : Nat → GType → Bool → Option Bool
  | 0, _, _ => none
  | fu + 1, pt, c1_0 => ieachType__iHasProjection_1_G fu (ieachType__iHasProjection_1_M fu) pt c1_0
theorem ieachType__iHasProjection_1_all (fu : Nat) : (∀ (pt : GType) (c1_0 : Bool) (r : Bool), ieachType__iHasProjection_1_M fu pt c1_0 = some r → ACalls Try.prog 42 [(GType.pv pt), .fn 46 [.ptr 0 0]] ⟨[some ⟨4, [.t (.leaf (.bool (c1_0)))]⟩], []⟩ (fun q t => q = (.tup [] : PV) ∧ t = ⟨[some ⟨4, [.t (.leaf (.bool (r)))]⟩], []⟩)) := by
  induction fu with
  | zero => exact (fun pt c1_0 r H => by simp only [ieachType__iHasProjection_1_M] at H; cases H)
  | succ fu ih => exact (fun pt c1_0 r H => by simp only [ieachType__iHasProjection_1_M] at H; exact ieachType__iHasProjection_1_step (ieachType__iHasProjection_1_M fu) fu ih pt c1_0 r H)
theorem ieachType__iHasProjection_1_ok (fu : Nat) (pt : GType) (c1_0 : Bool) (r : Bool) (H : ieachType__iHasProjection_1_M fu pt c1_0 = some r) : ACalls Try.prog 42 [(GType.pv pt), .fn 46 [.ptr 0 0]] ⟨[some ⟨4, [.t (.leaf (.bool (c1_0)))]⟩], []⟩ (fun q t => q = (.tup [] : PV) ∧ t = ⟨[some ⟨4, [.t (.leaf (.bool (r)))]⟩], []⟩) := (ieachType__iHasProjection_1_all fu) pt c1_0 r H

noncomputable def iHasProjection_M (fu : Nat)  (pt : GType) : Option Bool :=
 bd (ieachType__iHasProjection_1_M fu pt false) (fun x2 =>
 some x2)
set_option maxRecDepth 100000 in
set_option maxHeartbeats 4000000 in
theorem iHasProjection_ok  (fu : Nat)  (pt : GType) (r : Bool) (H : iHasProjection_M fu pt = some r) : AFun Try.prog 13 [(GType.pv pt)] (.t (.leaf (.bool (r))) : PV) := by
  refine ACalls.intro Try.func13 rfl (by first | decide | (simp; done) | (simp; decide)) ?_; intro C hC
  refine AWP.seq ?_; refine AWP.region_lit ?_; refine AL.cons rfl (AOp.box (cs := [.t (.leaf (.int .i64 (pt.gKind))), .t (.leaf (.string (pt.gName))), .t (.row 3 (GType.trs (pt.gArgs)))]) rfl rfl rfl rfl rfl) ?_; refine AL.cons rfl (AOp.move (.inr rfl) rfl rfl) ?_; refine AL.nil ?_; refine AWP.seq ?_; refine AWP.region_lit ?_; refine AL.cons rfl (AOp.alloc rfl rfl zr4) ?_; refine AL.cons rfl (AOp.storePtr (cs := [.t (.leaf (.bool (false)))]) (ds := [.t (.leaf (.bool (false)))]) rfl rfl rfl rfl rfl rfl rfl sz4 (Nat.le_of_ble_eq_true rfl) rfl) ?_; refine AL.nil ?_; refine AWP.seq ?_; refine AWP.region_lit ?_; refine AL.cons rfl (AOp.loadPtr (cs := [.t (.leaf (.int .i64 (pt.gKind))), .t (.leaf (.string (pt.gName))), .t (.row 3 (GType.trs (pt.gArgs)))]) rfl rfl rfl rfl sh27 rfl rfl) ?_; refine AL.cons rfl (AOp.makeFunc (ps := [.ptr 1 0]) rfl rfl rfl) ?_
  rcases hq1 : ieachType__iHasProjection_1_M fu pt false with _ | x2
  · have e3 : iHasProjection_M fu pt = none := bdN hq1
    exact none_some H e3
  · refine AL.cons rfl (AOp.callPE (pre := ⟨[some ⟨4, [.t (.leaf (.bool (false)))]⟩], []⟩) (st' := ⟨[some ⟨4, [.t (.leaf (.bool (x2)))]⟩], []⟩) (ps := [_, _]) (qs := [(GType.pv pt), .fn 46 [.ptr 0 0]]) [1] [] rfl rfl Try.func42 (by kernel_rfl) rfl rfl rfl (Part0.of ⟨⟨_, rfl, rfl, leA, rfl⟩, trivial⟩ trivial (by decide) (by decide)) leA rfl rfl rfl (ieachType__iHasProjection_1_ok fu pt false _ hq1)) ?_; refine AL.nil ?_; refine AWP.seq ?_; refine AWP.region_lit ?_; refine AL.cons rfl (AOp.loadPtr1 rfl rfl rfl rfl sh4 rfl) ?_; refine AL.cons rfl (AOp.move (.inr rfl) rfl rfl) ?_; refine AL.nil ?_; refine AWP.ret ?_
    have e4 : iHasProjection_M fu pt = some x2 := bdS hq1 (rfl)
    have hz : x2 = r := Option.some.inj (e4.symm.trans H)
    subst hz
    exact Ends.mk (ps := [_]) (by first | exact .inr rfl | exact .inl rfl) ⟨rfl, trivial⟩ rfl (StLe.mk' (st' := ⟨[], []⟩) trivial rfl) (keeps_nil hC) (q := (.t (.leaf (.bool (x2))) : PV)) leA rfl ⟨rfl, rfl⟩

end Go.Proofs.Ytlijdhhajojenaa

namespace Go.Proofs.Ytlijdhhajojenaa
set_option linter.unusedSimpArgs false
set_option linter.unusedVariables false
open Go.RowKit Go.Proofs

mutual
def GType.hp : GType → Bool
  | .mk k _ xs => GType.hps xs || decide (k = 3)
def GType.hps : List GType → Bool
  | [] => false
  | x :: r => GType.hp x || GType.hps r
end
theorem GType.hps_any : ∀ xs : List GType, GType.hps xs = xs.any GType.hp
  | [] => rfl
  | x :: r => by rw [GType.hps, GType.hps_any r, List.any_cons]
theorem orfold2 {α : Type} (p : α → Bool) : ∀ (l : List α) (b : Bool), l.foldl (fun b x => b || p x) b = (b || l.any p)
  | [], b => by simp
  | a :: l, b => by rw [List.foldl_cons, orfold2 p l, List.any_cons, Bool.or_assoc]
theorem ieachProj_ev2 : ∀ t : GType, Evt fun fu => ∀ c : Bool, ieachType__iHasProjection_1_M fu t c = some (c || t.hp) := by
  refine GType.ind fun k n xs ih => ?_; refine Evt.succ ((Evt.list ih).imp fun fu hf c => ?_)
  simp only [ieachType__iHasProjection_1_M, ieachType__iHasProjection_1_G]
  have hC : iHasProjection_1_M fu (.mk k n xs) c = some (c || decide (k = 3)) := by
    unfold iHasProjection_1_M
    simp only [GType.gKind_mk]
    cases c <;> rfl
  refine bdS hC (soR (s := ((c || decide (k = 3)) || xs.any GType.hp)) ?_ ?_)
  · unfold ieachType__iHasProjection_1_R1
    simp only [GType.gArgs_mk]
    rw [loopN_fold0 (l := xs) (g := fun s x => s || x.hp) (fun _ _ => True) (fun i s hi _ => ⟨?_, trivial⟩) trivial, orfold2]
    unfold ieachType__iHasProjection_1_F1
    simp only [GType.gArgs_mk]
    exact bdS (hf _ (atD_mem hi) s) rfl
  · rw [GType.hp, GType.hps_any]
    cases c <;> cases decide (k = 3) <;> simp
theorem iHasProj_fn (t : GType) : AFun Try.prog 13 [(GType.pv t)] (.t (.leaf (.bool t.hp))) := by
  obtain ⟨fu, h⟩ := (ieachProj_ev2 t).get
  refine iHasProjection_ok fu t _ ?_
  unfold iHasProjection_M
  exact bdS (h false) (by simp)
end Go.Proofs.Ytlijdhhajojenaa

namespace Go.Proofs.Ytlijdhhajojenaa
open Go.RowKit Go.Proofs
set_option linter.unusedSimpArgs false
set_option linter.unusedVariables false

attribute [local irreducible] lt

noncomputable def lbig_M (fu : Nat)  (pcode : List UInt8) : Option Bool :=
 some (decide ((((pcode.length : Nat) : Int) : Int) > 1048576))
set_option maxRecDepth 100000 in
set_option maxHeartbeats 4000000 in
theorem lbig_ok  (fu : Nat)  (pcode : List UInt8) (r : Bool) (H : lbig_M fu pcode = some r) : AFun Try.prog 7 [.t (.row 1 (byteTrs (pcode)))] (.t (.leaf (.bool (r))) : PV) := by
  refine ACalls.intro Try.func7 rfl (by first | decide | (simp; done) | (simp; decide)) ?_; intro C hC
  refine AWP.fact (lk_lenN 0 rfl rfl (byteTrs_len _)) (fun hl1 => ?_)
  refine AWP.seq ?_; refine AWP.region_lit ?_; refine AL.cons rfl (AOp.move (.inr rfl) rfl rfl) ?_; refine AL.nil ?_; refine AWP.seq ?_; refine AWP.region_lit ?_; refine AL.cons rfl (AOp.move (.inl rfl) rfl rfl) ?_; refine AL.cons rfl (AOp.lenN rfl rfl rfl rfl el22 (byteTrs_len _)) ?_; refine AL.cons rfl (AOp.gtr rfl rfl rfl rfl) ?_; refine AL.cons rfl (AOp.move (.inr rfl) rfl rfl) ?_; refine AL.nil ?_; refine AWP.ret ?_
  have e2 : lbig_M fu pcode = some (decide ((((pcode.length : Nat) : Int) : Int) > 1048576)) := rfl
  have hz : (decide ((((pcode.length : Nat) : Int) : Int) > 1048576)) = r := Option.some.inj (e2.symm.trans H)
  subst hz
  exact Ends.mk (ps := [_]) (by first | exact .inr rfl | exact .inl rfl) ⟨rfl, trivial⟩ rfl (StLe.mk' (st' := ⟨[], []⟩) trivial rfl) (keeps_nil hC) (q := (.t (.leaf (.bool ((decide ((((pcode.length : Nat) : Int) : Int) > 1048576))))) : PV)) leA rfl ⟨rfl, rfl⟩

noncomputable def sDrawAssocTypeIsCovered_M (fu : Nat)  (pcode : List UInt8) : Option GInstance :=
 gd ((pcode).length ≤ 1048576)
 (bd (sl13Inst_M fu (DS.start pcode)) (fun (x4, x5) =>
 sw (decide (x5.below 2 = 0))
 (bd (sl4Var_M fu (⟨#[97]⟩)) (fun x9 =>
 bd (sl4Proj_M fu ((x5.after 2).pick ([(⟨#[115, 104, 111, 119]⟩), (⟨#[111, 114, 100]⟩)] : List ByteArray)) x9) (fun x12 =>
 bd (sl4Con_M fu (⟨#[108, 105, 115, 116]⟩) ([x12] : List GType)) (fun x15 =>
 some (GInstance.mk x4.gTrait x4.gVars x4.gHead x4.gWhere x4.gDefault true x15 x4.gMethods)))))
 (some x4)))
set_option maxRecDepth 100000 in
set_option maxHeartbeats 4000000 in
theorem sDrawAssocTypeIsCovered_ok  (fu : Nat)  (pcode : List UInt8) (r : GInstance) (H : sDrawAssocTypeIsCovered_M fu pcode = some r) : AFun Try.prog 8 [.t (.row 1 (byteTrs (pcode)))] ((GInstance.pv r) : PV) := by
  refine ACalls.intro Try.func8 rfl (by first | decide | (simp; done) | (simp; decide)) ?_; intro C hC
  refine AWP.fact (lk_lenN 0 rfl rfl (byteTrs_len _)) (fun hl1 => ?_)
  refine AWP.seq ?_; refine AWP.region_lit ?_; refine AL.cons rfl (AOp.alloc rfl rfl zr31) ?_; refine AL.nil ?_; refine AWP.seq ?_; refine AWP.region_lit ?_; refine AL.cons rfl (AOp.move (.inl rfl) rfl rfl) ?_
  rcases Classical.em ((pcode).length ≤ 1048576) with hg2 | hg2
  · refine AL.cons rfl (AOp.callNew (ps := [_]) rfl rfl Try.func30 (by kernel_rfl) rfl rfl leA rfl rfl (new_ok pcode hg2)) ?_; refine AL.cons rfl (AOp.move (.inr rfl) rfl rfl) ?_; refine AL.nil ?_; refine AWP.seq ?_; refine AWP.region_lit ?_; refine AL.cons rfl (AOp.move (.inl rfl) rfl rfl) ?_
    rcases hq3 : sl13Inst_M fu (DS.start pcode) with _ | ⟨x4, x5⟩
    · have e6 : sDrawAssocTypeIsCovered_M fu pcode = none := gdT hg2 (bdN hq3)
      exact none_some H e6
    · refine AL.cons rfl (AOp.callPE (pre := ⟨[some ⟨94, [.t (.row 1 (byteTrs ((DS.start pcode).code))), .t (.leaf (.int .i64 ((((DS.start pcode).p : Nat) : Int)))), .t (.leaf (.int .i64 ((DS.start pcode).h)))]⟩], []⟩) (st' := ⟨[some ⟨94, [.t (.row 1 (byteTrs (x5.code))), .t (.leaf (.int .i64 (((x5.p : Nat) : Int)))), .t (.leaf (.int .i64 (x5.h)))]⟩], []⟩) (ps := [_]) (qs := [.ptr 0 0]) [1] [] rfl rfl Try.func31 (by kernel_rfl) rfl rfl rfl (Part0.of ⟨⟨_, rfl, rfl, leA, rfl⟩, trivial⟩ trivial (by decide) (by decide)) leA rfl rfl rfl (sl13Inst_ok fu (DS.start pcode) _ hq3)) ?_; refine AL.cons rfl (AOp.alloc rfl rfl zr31) ?_; refine AL.cons rfl (AOp.storePtr (cs := [.t (.leaf (.string (x4.gTrait))), .t (.row 1 (strTrs (x4.gVars))), .t (.leaf (.int .i64 (x4.gHead.gKind))), .t (.leaf (.string (x4.gHead.gName))), .t (.row 3 (GType.trs (x4.gHead.gArgs))), .t (.row 4 (GBound.trs (x4.gWhere))), .t (.leaf (.bool (x4.gDefault))), .t (.leaf (.bool (x4.gHasAssoc))), .t (.leaf (.int .i64 (x4.gAssoc.gKind))), .t (.leaf (.string (x4.gAssoc.gName))), .t (.row 3 (GType.trs (x4.gAssoc.gArgs))), .t (.row 11 (GMethod.trs (x4.gMethods)))]) (ds := [.t (.leaf (.string (x4.gTrait))), .t (.row 1 (strTrs (x4.gVars))), .t (.leaf (.int .i64 (x4.gHead.gKind))), .t (.leaf (.string (x4.gHead.gName))), .t (.row 3 (GType.trs (x4.gHead.gArgs))), .t (.row 4 (GBound.trs (x4.gWhere))), .t (.leaf (.bool (x4.gDefault))), .t (.leaf (.bool (x4.gHasAssoc))), .t (.leaf (.int .i64 (x4.gAssoc.gKind))), .t (.leaf (.string (x4.gAssoc.gName))), .t (.row 3 (GType.trs (x4.gAssoc.gArgs))), .t (.row 11 (GMethod.trs (x4.gMethods)))]) rfl rfl rfl rfl rfl rfl rfl sz31 (Nat.le_of_ble_eq_true rfl) rfl) ?_; refine AL.nil ?_; refine AWP.seq ?_; refine AWP.seq ?_; refine AWP.region_lit ?_; refine AL.cons rfl (AOp.move (.inl rfl) rfl rfl) ?_; refine AL.cons rfl (AOp.callPE (pre := ⟨[some ⟨94, [.t (.row 1 (byteTrs (x5.code))), .t (.leaf (.int .i64 (((x5.p : Nat) : Int)))), .t (.leaf (.int .i64 (x5.h)))]⟩], []⟩) (st' := ⟨[some ⟨94, [.t (.row 1 (byteTrs ((x5.after 2).code))), .t (.leaf (.int .i64 ((((x5.after 2).p : Nat) : Int)))), .t (.leaf (.int .i64 ((x5.after 2).h)))]⟩], []⟩) (ps := [_, _]) (qs := [.ptr 0 0, .t (.leaf (.int .i64 (((2 : Nat) : Int))))]) [1] [] rfl rfl Try.func32 (by kernel_rfl) rfl rfl rfl (by (try rw [hs]); exact ⟨rfl, rfl, by decide, by decide, fun k h => by rcases k with _ | k <;> simp at h; exact ⟨_, rfl⟩, fun k x h => by rcases k with _ | k <;> simp at h; subst h; exact ⟨_, rfl, rfl, leA, rfl⟩, fun r row h => by simp at h⟩) leA rfl rfl rfl (once_ok x5 2)) ?_; refine AL.nil ?_; refine AWP.cond rfl (fun h7 => ?_) (fun h7 => ?_)
      · refine AWP.seq ?_; refine AWP.region_lit ?_; refine AL.cons rfl (AOp.fieldPtr (k := 2) (d := 0) (e := 7) rfl rfl rfl fo31_5) ?_; refine AL.cons rfl (AOp.storePtr (cs := [.t (.leaf (.bool (true)))]) (ds := [.t (.leaf (.string (x4.gTrait))), .t (.row 1 (strTrs (x4.gVars))), .t (.leaf (.int .i64 (x4.gHead.gKind))), .t (.leaf (.string (x4.gHead.gName))), .t (.row 3 (GType.trs (x4.gHead.gArgs))), .t (.row 4 (GBound.trs (x4.gWhere))), .t (.leaf (.bool (x4.gDefault))), .t (.leaf (.bool (true))), .t (.leaf (.int .i64 (x4.gAssoc.gKind))), .t (.leaf (.string (x4.gAssoc.gName))), .t (.row 3 (GType.trs (x4.gAssoc.gArgs))), .t (.row 11 (GMethod.trs (x4.gMethods)))]) rfl rfl rfl rfl rfl rfl rfl sz4 (Nat.le_of_ble_eq_true rfl) rfl) ?_; refine AL.nil ?_; refine AWP.region_lit ?_; refine AL.cons rfl (AOp.move (.inl rfl) rfl rfl) ?_; refine AL.cons rfl (AOp.buildSliceE (es := [[.leaf (.string (⟨#[115, 104, 111, 119]⟩))], [.leaf (.string (⟨#[111, 114, 100]⟩))]]) (es' := strTrs (([(⟨#[115, 104, 111, 119]⟩), (⟨#[111, 114, 100]⟩)] : List ByteArray))) (cs := [.t (.leaf (.string (⟨#[115, 104, 111, 119]⟩))), .t (.leaf (.string (⟨#[111, 114, 100]⟩)))]) rfl rfl el24 zr9 rfl rfl leA rfl (by simp) (by decide) rfl (by decide) rfl) ?_; refine AL.cons rfl (AOp.callPE (pre := ⟨[some ⟨94, [.t (.row 1 (byteTrs ((x5.after 2).code))), .t (.leaf (.int .i64 ((((x5.after 2).p : Nat) : Int)))), .t (.leaf (.int .i64 ((x5.after 2).h)))]⟩], []⟩) (st' := ⟨[some ⟨94, [.t (.row 1 (byteTrs (((x5.after 2).after ([(⟨#[115, 104, 111, 119]⟩), (⟨#[111, 114, 100]⟩)] : List ByteArray).length).code))), .t (.leaf (.int .i64 (((((x5.after 2).after ([(⟨#[115, 104, 111, 119]⟩), (⟨#[111, 114, 100]⟩)] : List ByteArray).length).p : Nat) : Int)))), .t (.leaf (.int .i64 (((x5.after 2).after ([(⟨#[115, 104, 111, 119]⟩), (⟨#[111, 114, 100]⟩)] : List ByteArray).length).h)))]⟩], []⟩) (ps := [_, _]) (qs := [.ptr 0 0, .t (.row 1 (strTrs (([(⟨#[115, 104, 111, 119]⟩), (⟨#[111, 114, 100]⟩)] : List ByteArray))))]) [1] [] rfl rfl Try.func35 (by kernel_rfl) rfl rfl rfl (by (try rw [hs]); exact ⟨rfl, rfl, by decide, by decide, fun k h => by rcases k with _ | k <;> simp at h; exact ⟨_, rfl⟩, fun k x h => by rcases k with _ | k <;> simp at h; subst h; exact ⟨_, rfl, rfl, leA, rfl⟩, fun r row h => by simp at h⟩) leA rfl rfl rfl (pick_ok (x5.after 2) ([(⟨#[115, 104, 111, 119]⟩), (⟨#[111, 114, 100]⟩)] : List ByteArray) (by decide))) ?_
        rcases hq8 : sl4Var_M fu (⟨#[97]⟩) with _ | x9
        · have e10 : sDrawAssocTypeIsCovered_M fu pcode = none := gdT hg2 (bdS hq3 (swT h7 (bdN hq8)))
          exact none_some H e10
        · refine AL.cons rfl (AOp.callF (res := (GType.pv x9)) (ps := [_]) rfl rfl Try.func36 (by kernel_rfl) rfl rfl leA rfl rfl (sl4Var_ok fu (⟨#[97]⟩) _ hq8)) ?_
          rcases hq11 : sl4Proj_M fu ((x5.after 2).pick ([(⟨#[115, 104, 111, 119]⟩), (⟨#[111, 114, 100]⟩)] : List ByteArray)) x9 with _ | x12
          · have e13 : sDrawAssocTypeIsCovered_M fu pcode = none := gdT hg2 (bdS hq3 (swT h7 (bdS hq8 (bdN hq11))))
            exact none_some H e13
          · refine AL.cons rfl (AOp.callF (res := (GType.pv x12)) (ps := [_, _]) rfl rfl Try.func34 (by kernel_rfl) rfl rfl leA rfl rfl (sl4Proj_ok fu ((x5.after 2).pick ([(⟨#[115, 104, 111, 119]⟩), (⟨#[111, 114, 100]⟩)] : List ByteArray)) x9 _ hq11)) ?_; refine AL.cons rfl (AOp.buildSliceE (es := [GType.cs x12]) (es' := GType.trs (([x12] : List GType))) (cs := [.t (.leaf (.int .i64 (x12.gKind))), .t (.leaf (.string (x12.gName))), .t (.row 3 (GType.trs (x12.gArgs)))]) rfl rfl el25 zr27 rfl rfl leA rfl (by simp [GType.cs]) (by decide) rfl (by decide) (by simp [GType.trs_map, GType.tr_cs])) ?_
            rcases hq14 : sl4Con_M fu (⟨#[108, 105, 115, 116]⟩) ([x12] : List GType) with _ | x15
            · have e16 : sDrawAssocTypeIsCovered_M fu pcode = none := gdT hg2 (bdS hq3 (swT h7 (bdS hq8 (bdS hq11 (bdN hq14)))))
              exact none_some H e16
            · refine AL.cons rfl (AOp.callF (res := (GType.pv x15)) (ps := [_, _]) rfl rfl Try.func33 (by kernel_rfl) rfl rfl leA rfl rfl (sl4Con_ok fu (⟨#[108, 105, 115, 116]⟩) ([x12] : List GType) _ hq14)) ?_; refine AL.cons rfl (AOp.fieldPtr (k := 2) (d := 0) (e := 8) rfl rfl rfl fo31_6) ?_; refine AL.cons rfl (AOp.storePtr (cs := [.t (.leaf (.int .i64 (x15.gKind))), .t (.leaf (.string (x15.gName))), .t (.row 3 (GType.trs (x15.gArgs)))]) (ds := [.t (.leaf (.string (x4.gTrait))), .t (.row 1 (strTrs (x4.gVars))), .t (.leaf (.int .i64 (x4.gHead.gKind))), .t (.leaf (.string (x4.gHead.gName))), .t (.row 3 (GType.trs (x4.gHead.gArgs))), .t (.row 4 (GBound.trs (x4.gWhere))), .t (.leaf (.bool (x4.gDefault))), .t (.leaf (.bool (true))), .t (.leaf (.int .i64 (x15.gKind))), .t (.leaf (.string (x15.gName))), .t (.row 3 (GType.trs (x15.gArgs))), .t (.row 11 (GMethod.trs (x4.gMethods)))]) rfl rfl rfl rfl rfl rfl rfl sz27 (Nat.le_of_ble_eq_true rfl) rfl) ?_; refine AL.nil ?_; refine AWP.seq ?_; refine AWP.region_lit ?_; refine AL.cons rfl (AOp.loadPtr (cs := [.t (.leaf (.string (x4.gTrait))), .t (.row 1 (strTrs (x4.gVars))), .t (.leaf (.int .i64 (x4.gHead.gKind))), .t (.leaf (.string (x4.gHead.gName))), .t (.row 3 (GType.trs (x4.gHead.gArgs))), .t (.row 4 (GBound.trs (x4.gWhere))), .t (.leaf (.bool (x4.gDefault))), .t (.leaf (.bool (true))), .t (.leaf (.int .i64 (x15.gKind))), .t (.leaf (.string (x15.gName))), .t (.row 3 (GType.trs (x15.gArgs))), .t (.row 11 (GMethod.trs (x4.gMethods)))]) rfl rfl rfl rfl sh31 rfl rfl) ?_; refine AL.cons rfl (AOp.storePtr (cs := [.t (.leaf (.string (x4.gTrait))), .t (.row 1 (strTrs (x4.gVars))), .t (.leaf (.int .i64 (x4.gHead.gKind))), .t (.leaf (.string (x4.gHead.gName))), .t (.row 3 (GType.trs (x4.gHead.gArgs))), .t (.row 4 (GBound.trs (x4.gWhere))), .t (.leaf (.bool (x4.gDefault))), .t (.leaf (.bool (true))), .t (.leaf (.int .i64 (x15.gKind))), .t (.leaf (.string (x15.gName))), .t (.row 3 (GType.trs (x15.gArgs))), .t (.row 11 (GMethod.trs (x4.gMethods)))]) (ds := [.t (.leaf (.string (x4.gTrait))), .t (.row 1 (strTrs (x4.gVars))), .t (.leaf (.int .i64 (x4.gHead.gKind))), .t (.leaf (.string (x4.gHead.gName))), .t (.row 3 (GType.trs (x4.gHead.gArgs))), .t (.row 4 (GBound.trs (x4.gWhere))), .t (.leaf (.bool (x4.gDefault))), .t (.leaf (.bool (true))), .t (.leaf (.int .i64 (x15.gKind))), .t (.leaf (.string (x15.gName))), .t (.row 3 (GType.trs (x15.gArgs))), .t (.row 11 (GMethod.trs (x4.gMethods)))]) rfl rfl rfl rfl rfl rfl rfl sz31 (Nat.le_of_ble_eq_true rfl) rfl) ?_; refine AL.nil ?_; refine AWP.ret ?_
              have e17 : sDrawAssocTypeIsCovered_M fu pcode = some (GInstance.mk x4.gTrait x4.gVars x4.gHead x4.gWhere x4.gDefault true x15 x4.gMethods) := gdT hg2 (bdS hq3 (swT h7 (bdS hq8 (bdS hq11 (bdS hq14 (rfl))))))
              have hz : (GInstance.mk x4.gTrait x4.gVars x4.gHead x4.gWhere x4.gDefault true x15 x4.gMethods) = r := Option.some.inj (e17.symm.trans H)
              subst hz
              exact Ends.mk (ps := [_]) (by first | exact .inr rfl | exact .inl rfl) ⟨⟨_, _, _, rfl, rfl, sh31, rfl, rfl⟩, trivial⟩ rfl (StLe.mk' (st' := ⟨[], []⟩) trivial rfl) (keeps_nil hC) (q := ((GInstance.pv (GInstance.mk x4.gTrait x4.gVars x4.gHead x4.gWhere x4.gDefault true x15 x4.gMethods)) : PV)) leA rfl ⟨rfl, rfl⟩
      · refine AWP.skip ?_; refine AWP.seq ?_; refine AWP.region_lit ?_; refine AL.cons rfl (AOp.loadPtr (cs := [.t (.leaf (.string (x4.gTrait))), .t (.row 1 (strTrs (x4.gVars))), .t (.leaf (.int .i64 (x4.gHead.gKind))), .t (.leaf (.string (x4.gHead.gName))), .t (.row 3 (GType.trs (x4.gHead.gArgs))), .t (.row 4 (GBound.trs (x4.gWhere))), .t (.leaf (.bool (x4.gDefault))), .t (.leaf (.bool (x4.gHasAssoc))), .t (.leaf (.int .i64 (x4.gAssoc.gKind))), .t (.leaf (.string (x4.gAssoc.gName))), .t (.row 3 (GType.trs (x4.gAssoc.gArgs))), .t (.row 11 (GMethod.trs (x4.gMethods)))]) rfl rfl rfl rfl sh31 rfl rfl) ?_; refine AL.cons rfl (AOp.storePtr (cs := [.t (.leaf (.string (x4.gTrait))), .t (.row 1 (strTrs (x4.gVars))), .t (.leaf (.int .i64 (x4.gHead.gKind))), .t (.leaf (.string (x4.gHead.gName))), .t (.row 3 (GType.trs (x4.gHead.gArgs))), .t (.row 4 (GBound.trs (x4.gWhere))), .t (.leaf (.bool (x4.gDefault))), .t (.leaf (.bool (x4.gHasAssoc))), .t (.leaf (.int .i64 (x4.gAssoc.gKind))), .t (.leaf (.string (x4.gAssoc.gName))), .t (.row 3 (GType.trs (x4.gAssoc.gArgs))), .t (.row 11 (GMethod.trs (x4.gMethods)))]) (ds := [.t (.leaf (.string (x4.gTrait))), .t (.row 1 (strTrs (x4.gVars))), .t (.leaf (.int .i64 (x4.gHead.gKind))), .t (.leaf (.string (x4.gHead.gName))), .t (.row 3 (GType.trs (x4.gHead.gArgs))), .t (.row 4 (GBound.trs (x4.gWhere))), .t (.leaf (.bool (x4.gDefault))), .t (.leaf (.bool (x4.gHasAssoc))), .t (.leaf (.int .i64 (x4.gAssoc.gKind))), .t (.leaf (.string (x4.gAssoc.gName))), .t (.row 3 (GType.trs (x4.gAssoc.gArgs))), .t (.row 11 (GMethod.trs (x4.gMethods)))]) rfl rfl rfl rfl rfl rfl rfl sz31 (Nat.le_of_ble_eq_true rfl) rfl) ?_; refine AL.nil ?_; refine AWP.ret ?_
        have e18 : sDrawAssocTypeIsCovered_M fu pcode = some x4 := gdT hg2 (bdS hq3 (swF h7 (rfl)))
        have hz : x4 = r := Option.some.inj (e18.symm.trans H)
        subst hz
        exact Ends.mk (ps := [_]) (by first | exact .inr rfl | exact .inl rfl) ⟨⟨_, _, _, rfl, rfl, sh31, rfl, rfl⟩, trivial⟩ rfl (StLe.mk' (st' := ⟨[], []⟩) trivial rfl) (keeps_nil hC) (q := ((GInstance.pv x4) : PV)) leA rfl ⟨rfl, rfl⟩
  · have e19 : sDrawAssocTypeIsCovered_M fu pcode = none := gdF hg2
    exact none_some H e19

noncomputable def lFnOwn_F2 (fu : Nat) (pa0 : List UInt8) (x3 : Bool) (x8 : GInstance) (i19 : Nat) : Nat → Bool → Option (LR Bool (LR Unit Bool)) :=
 fun i23 v24 => sw (v24)
 (some (.next true))
 (some (.next (GBound.eq (atD x8.gWhere i23) (atD (GType.projs x8.gAssoc) i19))))
noncomputable def lFnOwn_R2 (fu : Nat) (pa0 : List UInt8) (x3 : Bool) (x8 : GInstance) (i19 : Nat) : Option ((LR Unit Bool) ⊕ Bool) :=
 loopN (lFnOwn_F2 fu pa0 x3 x8 i19) (x8.gWhere.length - 0) 0 false
noncomputable def lFnOwn_F1 (fu : Nat) (pa0 : List UInt8) (x3 : Bool) (x8 : GInstance) : Nat → Unit → Option (LR Unit Bool) :=
 fun i19 _ => so (lFnOwn_R2 fu pa0 x3 x8 i19) (fun v24 =>
 sw (!(v24))
 (some (.ret false))
 (some (.next ())))
noncomputable def lFnOwn_R1 (fu : Nat) (pa0 : List UInt8) (x3 : Bool) (x8 : GInstance) : Option (Bool ⊕ Unit) :=
 loopN (lFnOwn_F1 fu pa0 x3 x8) ((GType.projs x8.gAssoc).length - 0) 0 ()
noncomputable def lFnOwn_M (fu : Nat)  (pa0 : List UInt8) : Option Bool :=
 bd (lbig_M fu pa0) (fun x3 =>
 sw (x3)
 (some true)
 (bd (sDrawAssocTypeIsCovered_M fu pa0) (fun x8 =>
 gd (Tr.bulkL (GType.tr (GInstance.gAssoc x8)) ≤ 68719476735)
 (gd ((GType.pre (GInstance.gAssoc x8)).length ≤ 68719476736)
 (sw (!decide ((GInstance.covered x8 : Bool) = (GInstance.covered x8)))
 (some (decide ((GInstance.covered x8 : Bool) = (GInstance.covered x8))))
 (sw (!(GInstance.covered x8))
 (some (decide ((GInstance.covered x8 : Bool) = (GInstance.covered x8))))
 (gd (Tr.bulkL (GType.tr x8.gAssoc) ≤ 68719476735)
 (gd ((GType.pre x8.gAssoc).length ≤ 68719476736)
 (so (lFnOwn_R1 fu pa0 x3 x8) (fun _ =>
 some (decide ((GType.hp x8.gAssoc : Bool) = (decide (((((GType.projs x8.gAssoc).length : Nat) : Int) : Int) > 0))))))))))))))
set_option maxRecDepth 100000 in
set_option maxHeartbeats 4000000 in
theorem lFnOwn_ok  (fu : Nat)  (pa0 : List UInt8) (r : Bool) (H : lFnOwn_M fu pa0 = some r) : AFun Try.prog 3 [.t (.row 1 (byteTrs (pa0)))] (.t (.leaf (.bool (r))) : PV) := by
  refine ACalls.intro Try.func3 rfl (by first | decide | (simp; done) | (simp; decide)) ?_; intro C hC
  refine AWP.fact (lk_lenN 0 rfl rfl (byteTrs_len _)) (fun hl1 => ?_)
  refine AWP.seq ?_; refine AWP.region_lit ?_; refine AL.cons rfl (AOp.move (.inr rfl) rfl rfl) ?_; refine AL.nil ?_; refine AWP.seq ?_; refine AWP.seq ?_; refine AWP.region_lit ?_; refine AL.cons rfl (AOp.move (.inl rfl) rfl rfl) ?_
  rcases hq2 : lbig_M fu pa0 with _ | x3
  · have e4 : lFnOwn_M fu pa0 = none := bdN hq2
    exact none_some H e4
  · refine AL.cons rfl (AOp.callF (res := .t (.leaf (.bool (x3)))) (ps := [_]) rfl rfl Try.func7 (by kernel_rfl) rfl rfl leA rfl rfl (lbig_ok fu pa0 _ hq2)) ?_; refine AL.nil ?_; refine AWP.cond rfl (fun h5 => ?_) (fun h5 => ?_)
    · refine AWP.seq ?_; refine AWP.region_lit ?_; refine AL.cons rfl (AOp.move (.inr rfl) rfl rfl) ?_; refine AL.nil ?_; refine AWP.ret ?_
      have e6 : lFnOwn_M fu pa0 = some true := bdS hq2 (swT h5 (rfl))
      have hz : true = r := Option.some.inj (e6.symm.trans H)
      subst hz
      exact Ends.mk (ps := [_]) (by first | exact .inr rfl | exact .inl rfl) ⟨rfl, trivial⟩ rfl (StLe.mk' (st' := ⟨[], []⟩) trivial rfl) (keeps_nil hC) (q := (.t (.leaf (.bool (true))) : PV)) leA rfl ⟨rfl, rfl⟩
    · refine AWP.skip ?_; refine AWP.seq ?_; refine AWP.region_lit ?_; refine AL.cons rfl (AOp.move (.inl rfl) rfl rfl) ?_
      rcases hq7 : sDrawAssocTypeIsCovered_M fu pa0 with _ | x8
      · have e9 : lFnOwn_M fu pa0 = none := bdS hq2 (swF h5 (bdN hq7))
        exact none_some H e9
      · refine AL.cons rfl (AOp.callF (res := (GInstance.pv x8)) (ps := [_]) rfl rfl Try.func8 (by kernel_rfl) rfl rfl leA rfl rfl (sDrawAssocTypeIsCovered_ok fu pa0 _ hq7)) ?_; refine AL.cons rfl (AOp.alloc rfl rfl zr31) ?_; refine AL.cons rfl (AOp.storePtr (cs := [.t (.leaf (.string (x8.gTrait))), .t (.row 1 (strTrs (x8.gVars))), .t (.leaf (.int .i64 (x8.gHead.gKind))), .t (.leaf (.string (x8.gHead.gName))), .t (.row 3 (GType.trs (x8.gHead.gArgs))), .t (.row 4 (GBound.trs (x8.gWhere))), .t (.leaf (.bool (x8.gDefault))), .t (.leaf (.bool (x8.gHasAssoc))), .t (.leaf (.int .i64 (x8.gAssoc.gKind))), .t (.leaf (.string (x8.gAssoc.gName))), .t (.row 3 (GType.trs (x8.gAssoc.gArgs))), .t (.row 11 (GMethod.trs (x8.gMethods)))]) (ds := [.t (.leaf (.string (x8.gTrait))), .t (.row 1 (strTrs (x8.gVars))), .t (.leaf (.int .i64 (x8.gHead.gKind))), .t (.leaf (.string (x8.gHead.gName))), .t (.row 3 (GType.trs (x8.gHead.gArgs))), .t (.row 4 (GBound.trs (x8.gWhere))), .t (.leaf (.bool (x8.gDefault))), .t (.leaf (.bool (x8.gHasAssoc))), .t (.leaf (.int .i64 (x8.gAssoc.gKind))), .t (.leaf (.string (x8.gAssoc.gName))), .t (.row 3 (GType.trs (x8.gAssoc.gArgs))), .t (.row 11 (GMethod.trs (x8.gMethods)))]) rfl rfl rfl rfl rfl rfl rfl sz31 (Nat.le_of_ble_eq_true rfl) rfl) ?_; refine AL.nil ?_; refine AWP.seq ?_; refine AWP.region_lit ?_; refine AL.cons rfl (AOp.loadPtr (cs := [.t (.leaf (.string (x8.gTrait))), .t (.row 1 (strTrs (x8.gVars))), .t (.leaf (.int .i64 (x8.gHead.gKind))), .t (.leaf (.string (x8.gHead.gName))), .t (.row 3 (GType.trs (x8.gHead.gArgs))), .t (.row 4 (GBound.trs (x8.gWhere))), .t (.leaf (.bool (x8.gDefault))), .t (.leaf (.bool (x8.gHasAssoc))), .t (.leaf (.int .i64 (x8.gAssoc.gKind))), .t (.leaf (.string (x8.gAssoc.gName))), .t (.row 3 (GType.trs (x8.gAssoc.gArgs))), .t (.row 11 (GMethod.trs (x8.gMethods)))]) rfl rfl rfl rfl sh31 rfl rfl) ?_
        rcases Classical.em (Tr.bulkL (GType.tr (GInstance.gAssoc x8)) ≤ 68719476735) with hg10 | hg10
        · rcases Classical.em ((GType.pre (GInstance.gAssoc x8)).length ≤ 68719476736) with hg11 | hg11
          · refine AL.cons rfl (AOp.callF (res := .t (.leaf (.bool (GInstance.covered x8)))) (ps := [_]) rfl rfl Try.func9 (by kernel_rfl) rfl rfl leA rfl rfl (iCovered_fn x8 hg10 hg11)) ?_; refine AL.cons rfl (AOp.move (.inr rfl) rfl rfl) ?_; refine AL.nil ?_; refine AWP.seq ?_; refine AWP.seq ?_; refine AWP.region_lit ?_; refine AL.cons rfl (AOp.move (.inl rfl) rfl rfl) ?_; refine AL.cons rfl (AOp.loadPtr (cs := [.t (.leaf (.string (x8.gTrait))), .t (.row 1 (strTrs (x8.gVars))), .t (.leaf (.int .i64 (x8.gHead.gKind))), .t (.leaf (.string (x8.gHead.gName))), .t (.row 3 (GType.trs (x8.gHead.gArgs))), .t (.row 4 (GBound.trs (x8.gWhere))), .t (.leaf (.bool (x8.gDefault))), .t (.leaf (.bool (x8.gHasAssoc))), .t (.leaf (.int .i64 (x8.gAssoc.gKind))), .t (.leaf (.string (x8.gAssoc.gName))), .t (.row 3 (GType.trs (x8.gAssoc.gArgs))), .t (.row 11 (GMethod.trs (x8.gMethods)))]) rfl rfl rfl rfl sh31 rfl rfl) ?_; refine AL.cons rfl (AOp.callF (res := .t (.leaf (.bool (GInstance.covered x8)))) (ps := [_]) rfl rfl Try.func10 (by kernel_rfl) rfl rfl leA rfl rfl (sCovered_fn x8 hg10 hg11)) ?_; refine AL.cons rfl (AOp.neqB rfl rfl rfl rfl Try.underlying4) ?_; refine AL.cons rfl (AOp.move (.inl rfl) rfl rfl) ?_; refine AL.splitB 19 rfl (fun g12 => ?_) (fun g12 => ?_)
            · refine AL.skipP rfl rfl rfl g12 rfl rfl ?_; refine AL.skipP rfl rfl rfl g12 rfl rfl ?_; refine AL.cons rfl (AOp.pickT rfl rfl rfl g12 rfl) ?_; refine AL.nil ?_; refine AWP.cond rfl (fun h13 => ?_) (fun h13 => ?_)
              · refine AWP.seq ?_; refine AWP.region_lit ?_; refine AL.cons rfl (AOp.move (.inl rfl) rfl rfl) ?_; refine AL.cons rfl (AOp.loadPtr (cs := [.t (.leaf (.string (x8.gTrait))), .t (.row 1 (strTrs (x8.gVars))), .t (.leaf (.int .i64 (x8.gHead.gKind))), .t (.leaf (.string (x8.gHead.gName))), .t (.row 3 (GType.trs (x8.gHead.gArgs))), .t (.row 4 (GBound.trs (x8.gWhere))), .t (.leaf (.bool (x8.gDefault))), .t (.leaf (.bool (x8.gHasAssoc))), .t (.leaf (.int .i64 (x8.gAssoc.gKind))), .t (.leaf (.string (x8.gAssoc.gName))), .t (.row 3 (GType.trs (x8.gAssoc.gArgs))), .t (.row 11 (GMethod.trs (x8.gMethods)))]) rfl rfl rfl rfl sh31 rfl rfl) ?_; refine AL.cons rfl (AOp.callF (res := .t (.leaf (.bool (GInstance.covered x8)))) (ps := [_]) rfl rfl Try.func10 (by kernel_rfl) rfl rfl leA rfl rfl (sCovered_fn x8 hg10 hg11)) ?_; refine AL.cons rfl (AOp.eqlB rfl rfl rfl rfl Try.underlying4) ?_; refine AL.cons rfl (AOp.move (.inr rfl) rfl rfl) ?_; refine AL.nil ?_; refine AWP.ret ?_
                have e14 : lFnOwn_M fu pa0 = some (decide ((GInstance.covered x8 : Bool) = (GInstance.covered x8))) := bdS hq2 (swF h5 (bdS hq7 (gdT hg10 (gdT hg11 (swT g12 (rfl))))))
                have hz : (decide ((GInstance.covered x8 : Bool) = (GInstance.covered x8))) = r := Option.some.inj (e14.symm.trans H)
                subst hz
                exact Ends.mk (ps := [_]) (by first | exact .inr rfl | exact .inl rfl) ⟨rfl, trivial⟩ rfl (StLe.mk' (st' := ⟨[], []⟩) trivial rfl) (keeps_nil hC) (q := (.t (.leaf (.bool ((decide ((GInstance.covered x8 : Bool) = (GInstance.covered x8)))))) : PV)) leA rfl ⟨rfl, rfl⟩
              · exact absurd (h13.symm.trans rfl) (by decide)
            · refine AL.cons_gv rfl rfl rfl g12 (AOp.move (.inl rfl) rfl rfl) ?_; refine AL.cons_gv rfl rfl rfl g12 (AOp.notB rfl rfl rfl) ?_; refine AL.cons rfl (AOp.pickF rfl rfl rfl g12 rfl) ?_; refine AL.nil ?_; refine AWP.cond rfl (fun h15 => ?_) (fun h15 => ?_)
              · refine AWP.seq ?_; refine AWP.region_lit ?_; refine AL.cons rfl (AOp.move (.inl rfl) rfl rfl) ?_; refine AL.cons rfl (AOp.loadPtr (cs := [.t (.leaf (.string (x8.gTrait))), .t (.row 1 (strTrs (x8.gVars))), .t (.leaf (.int .i64 (x8.gHead.gKind))), .t (.leaf (.string (x8.gHead.gName))), .t (.row 3 (GType.trs (x8.gHead.gArgs))), .t (.row 4 (GBound.trs (x8.gWhere))), .t (.leaf (.bool (x8.gDefault))), .t (.leaf (.bool (x8.gHasAssoc))), .t (.leaf (.int .i64 (x8.gAssoc.gKind))), .t (.leaf (.string (x8.gAssoc.gName))), .t (.row 3 (GType.trs (x8.gAssoc.gArgs))), .t (.row 11 (GMethod.trs (x8.gMethods)))]) rfl rfl rfl rfl sh31 rfl rfl) ?_; refine AL.cons rfl (AOp.callF (res := .t (.leaf (.bool (GInstance.covered x8)))) (ps := [_]) rfl rfl Try.func10 (by kernel_rfl) rfl rfl leA rfl rfl (sCovered_fn x8 hg10 hg11)) ?_; refine AL.cons rfl (AOp.eqlB rfl rfl rfl rfl Try.underlying4) ?_; refine AL.cons rfl (AOp.move (.inr rfl) rfl rfl) ?_; refine AL.nil ?_; refine AWP.ret ?_
                have e16 : lFnOwn_M fu pa0 = some (decide ((GInstance.covered x8 : Bool) = (GInstance.covered x8))) := bdS hq2 (swF h5 (bdS hq7 (gdT hg10 (gdT hg11 (swF g12 (swT h15 (rfl)))))))
                have hz : (decide ((GInstance.covered x8 : Bool) = (GInstance.covered x8))) = r := Option.some.inj (e16.symm.trans H)
                subst hz
                exact Ends.mk (ps := [_]) (by first | exact .inr rfl | exact .inl rfl) ⟨rfl, trivial⟩ rfl (StLe.mk' (st' := ⟨[], []⟩) trivial rfl) (keeps_nil hC) (q := (.t (.leaf (.bool ((decide ((GInstance.covered x8 : Bool) = (GInstance.covered x8)))))) : PV)) leA rfl ⟨rfl, rfl⟩
              · refine AWP.skip ?_; refine AWP.seq ?_; refine AWP.region_lit ?_; refine AL.cons rfl (AOp.fieldPtr (k := 0) (d := 0) (e := 8) rfl rfl rfl fo31_6) ?_; refine AL.cons rfl (AOp.loadPtr (cs := [.t (.leaf (.int .i64 (x8.gAssoc.gKind))), .t (.leaf (.string (x8.gAssoc.gName))), .t (.row 3 (GType.trs (x8.gAssoc.gArgs)))]) rfl rfl rfl rfl sh27 rfl rfl) ?_
                rcases Classical.em (Tr.bulkL (GType.tr x8.gAssoc) ≤ 68719476735) with hg17 | hg17
                · rcases Classical.em ((GType.pre x8.gAssoc).length ≤ 68719476736) with hg18 | hg18
                  · refine AL.cons rfl (AOp.callF (res := .t (.row 4 (GBound.trs (GType.projs x8.gAssoc)))) (ps := [_]) rfl rfl Try.func11 (by kernel_rfl) rfl rfl leA rfl rfl (iProjectionsIn_fn x8.gAssoc hg17 hg18)) ?_; refine AL.cons rfl (AOp.move (.inr rfl) rfl rfl) ?_; refine AL.nil ?_; refine AWP.seq ?_; refine AWP.seq ?_; refine AWP.region_lit ?_; refine AL.cons rfl (AOp.move (.inr rfl) rfl rfl) ?_; refine AL.nil ?_; refine AWP.fact (lk_lenN 5 rfl rfl (GBound.trs_len _)) (fun hl20 => ?_)
                    refine AWP.cut (ι := Unit) (fun _ => lFnOwn_R1 fu pa0 x3 x8 = some (.inr ())) (fun _ => ⟨[(2, .t (.leaf (.bool (false)))), (3, .ptr 0 0), (5, .t (.row 4 (GBound.trs (GType.projs x8.gAssoc))))], ⟨[some ⟨31, [.t (.leaf (.string (x8.gTrait))), .t (.row 1 (strTrs (x8.gVars))), .t (.leaf (.int .i64 (x8.gHead.gKind))), .t (.leaf (.string (x8.gHead.gName))), .t (.row 3 (GType.trs (x8.gHead.gArgs))), .t (.row 4 (GBound.trs (x8.gWhere))), .t (.leaf (.bool (x8.gDefault))), .t (.leaf (.bool (x8.gHasAssoc))), .t (.leaf (.int .i64 (x8.gAssoc.gKind))), .t (.leaf (.string (x8.gAssoc.gName))), .t (.row 3 (GType.trs (x8.gAssoc.gArgs))), .t (.row 11 (GMethod.trs (x8.gMethods)))]⟩], []⟩⟩) (by repeat' (first | exact qcEnds | exact ncAWP | exact ncRound | exact ncEx | apply qcThen | apply qcBlock | apply qcCut)) ?_ ?_
                    · refine AWP.block ?_; refine AWP.loopR (ι := Nat × Unit) (fun (i19, _) => lFnOwn_R1 fu pa0 x3 x8 = loopN (lFnOwn_F1 fu pa0 x3 x8) ((GType.projs x8.gAssoc).length - i19) i19 ()) (fun (i19, _) => ⟨[(2, .t (.leaf (.bool (false)))), (3, .ptr 0 0), (5, .t (.row 4 (GBound.trs (GType.projs x8.gAssoc)))), (6, .t (.leaf (.int .i64 (((i19 : Nat) : Int)))))], ⟨[some ⟨31, [.t (.leaf (.string (x8.gTrait))), .t (.row 1 (strTrs (x8.gVars))), .t (.leaf (.int .i64 (x8.gHead.gKind))), .t (.leaf (.string (x8.gHead.gName))), .t (.row 3 (GType.trs (x8.gHead.gArgs))), .t (.row 4 (GBound.trs (x8.gWhere))), .t (.leaf (.bool (x8.gDefault))), .t (.leaf (.bool (x8.gHasAssoc))), .t (.leaf (.int .i64 (x8.gAssoc.gKind))), .t (.leaf (.string (x8.gAssoc.gName))), .t (.row 3 (GType.trs (x8.gAssoc.gArgs))), .t (.row 11 (GMethod.trs (x8.gMethods)))]⟩], []⟩⟩) (fun (i19, _) => (GType.projs x8.gAssoc).length - i19) (0, ()) ?_ ?_ ?_
                      · exact rfl
                      · exact Wk.mk (StLe.mk' ⟨⟨rfl, leA, rfl⟩, trivial⟩ rfl) (keeps_nil hC) ⟨⟨_, rfl, .refl _, rfl⟩, ⟨⟨_, rfl, .refl _, rfl⟩, ⟨⟨_, rfl, .refl _, rfl⟩, ⟨⟨_, rfl, leA, rfl⟩, trivial⟩⟩⟩⟩
                      · rintro ⟨i19, ⟨⟩⟩ hJ21
                        refine AWP.seq ?_; refine AWP.seq ?_; refine AWP.region_lit ?_; refine AL.cons rfl (AOp.move (.inl rfl) rfl rfl) ?_; refine AL.cons rfl (AOp.move (.inl rfl) rfl rfl) ?_; refine AL.cons rfl (AOp.lenN rfl rfl rfl rfl el28 (GBound.trs_len _)) ?_; refine AL.cons rfl (AOp.lss rfl rfl rfl rfl) ?_; refine AL.nil ?_; refine AWP.cond rfl (fun h22 => ?_) (fun h22 => ?_)
                        · have h22l : i19 < (GType.projs x8.gAssoc).length := nat_lt_of2 h22
                          have h22n := nat_lt_of h22
                          refine AWP.skip ?_; refine AWP.seq ?_; refine AWP.block ?_; refine AWP.seq ?_; refine AWP.region_lit ?_; refine AL.cons rfl (AOp.move (.inr rfl) rfl rfl) ?_; refine AL.nil ?_; refine AWP.seq ?_; refine AWP.seq ?_; refine AWP.region_lit ?_; refine AL.cons rfl (AOp.move (.inr rfl) rfl rfl) ?_; refine AL.nil ?_; refine AWP.cut (ι := Bool) (fun v24 => lFnOwn_R2 fu pa0 x3 x8 i19 = some (.inr v24)) (fun v24 => ⟨[(2, .t (.leaf (.bool (false)))), (3, .ptr 0 0), (5, .t (.row 4 (GBound.trs (GType.projs x8.gAssoc)))), (6, .t (.leaf (.int .i64 (((i19 : Nat) : Int))))), (7, .t (.leaf (.bool (v24)))), (30, .t (.leaf (.int .i64 (((i19 : Nat) : Int))))), (31, .t (.row 4 (GBound.trs (GType.projs x8.gAssoc)))), (32, .t (.leaf (.int .i64 ((((GType.projs x8.gAssoc).length : Nat) : Int))))), (33, .t (.leaf (.bool (decide ((((i19 : Nat) : Int) : Int) < (((GType.projs x8.gAssoc).length : Nat) : Int))))))], ⟨[some ⟨31, [.t (.leaf (.string (x8.gTrait))), .t (.row 1 (strTrs (x8.gVars))), .t (.leaf (.int .i64 (x8.gHead.gKind))), .t (.leaf (.string (x8.gHead.gName))), .t (.row 3 (GType.trs (x8.gHead.gArgs))), .t (.row 4 (GBound.trs (x8.gWhere))), .t (.leaf (.bool (x8.gDefault))), .t (.leaf (.bool (x8.gHasAssoc))), .t (.leaf (.int .i64 (x8.gAssoc.gKind))), .t (.leaf (.string (x8.gAssoc.gName))), .t (.row 3 (GType.trs (x8.gAssoc.gArgs))), .t (.row 11 (GMethod.trs (x8.gMethods)))]⟩], []⟩⟩) (by repeat' (first | exact qcEnds | exact ncAWP | exact ncRound | exact ncEx | apply qcThen | apply qcBlock | apply qcCut)) ?_ ?_
                          · refine AWP.block ?_; refine AWP.loopR (ι := Nat × Bool) (fun (i23, v24) => lFnOwn_R2 fu pa0 x3 x8 i19 = loopN (lFnOwn_F2 fu pa0 x3 x8 i19) (x8.gWhere.length - i23) i23 v24) (fun (i23, v24) => ⟨[(2, .t (.leaf (.bool (false)))), (3, .ptr 0 0), (5, .t (.row 4 (GBound.trs (GType.projs x8.gAssoc)))), (6, .t (.leaf (.int .i64 (((i19 : Nat) : Int))))), (7, .t (.leaf (.bool (v24)))), (8, .t (.leaf (.int .i64 (((i23 : Nat) : Int))))), (30, .t (.leaf (.int .i64 (((i19 : Nat) : Int))))), (31, .t (.row 4 (GBound.trs (GType.projs x8.gAssoc)))), (32, .t (.leaf (.int .i64 ((((GType.projs x8.gAssoc).length : Nat) : Int))))), (33, .t (.leaf (.bool (decide ((((i19 : Nat) : Int) : Int) < (((GType.projs x8.gAssoc).length : Nat) : Int))))))], ⟨[some ⟨31, [.t (.leaf (.string (x8.gTrait))), .t (.row 1 (strTrs (x8.gVars))), .t (.leaf (.int .i64 (x8.gHead.gKind))), .t (.leaf (.string (x8.gHead.gName))), .t (.row 3 (GType.trs (x8.gHead.gArgs))), .t (.row 4 (GBound.trs (x8.gWhere))), .t (.leaf (.bool (x8.gDefault))), .t (.leaf (.bool (x8.gHasAssoc))), .t (.leaf (.int .i64 (x8.gAssoc.gKind))), .t (.leaf (.string (x8.gAssoc.gName))), .t (.row 3 (GType.trs (x8.gAssoc.gArgs))), .t (.row 11 (GMethod.trs (x8.gMethods)))]⟩], []⟩⟩) (fun (i23, v24) => x8.gWhere.length - i23) (0, false) ?_ ?_ ?_
                            · exact rfl
                            · exact Wk.mk (StLe.mk' ⟨⟨rfl, leA, rfl⟩, trivial⟩ rfl) (keeps_nil hC) ⟨⟨_, rfl, .refl _, rfl⟩, ⟨⟨_, rfl, .refl _, rfl⟩, ⟨⟨_, rfl, .refl _, rfl⟩, ⟨⟨_, rfl, .refl _, rfl⟩, ⟨⟨_, rfl, leA, rfl⟩, ⟨⟨_, rfl, leA, rfl⟩, ⟨⟨_, rfl, .refl _, rfl⟩, ⟨⟨_, rfl, .refl _, rfl⟩, ⟨⟨_, rfl, .refl _, rfl⟩, ⟨⟨_, rfl, .refl _, rfl⟩, trivial⟩⟩⟩⟩⟩⟩⟩⟩⟩⟩
                            · rintro ⟨i23, v24⟩ hJ25
                              refine AWP.seq ?_; refine AWP.seq ?_; refine AWP.region_lit ?_; refine AL.cons rfl (AOp.move (.inl rfl) rfl rfl) ?_; refine AL.cons rfl (AOp.fieldPtr (k := 0) (d := 0) (e := 5) rfl rfl rfl fo31_3) ?_; refine AL.cons rfl (AOp.loadPtr1 rfl rfl rfl rfl sh28 rfl) ?_; refine AL.fact (lk_lenN 38 rfl rfl (GBound.trs_len _)) (fun hl26 => ?_)
                              refine AL.cons rfl (AOp.lenN rfl rfl rfl rfl el28 (GBound.trs_len _)) ?_; refine AL.cons rfl (AOp.lss rfl rfl rfl rfl) ?_; refine AL.nil ?_; refine AWP.cond rfl (fun h27 => ?_) (fun h27 => ?_)
                              · have h27l : i23 < x8.gWhere.length := nat_lt_of2 h27
                                have h27n := nat_lt_of h27
                                refine AWP.skip ?_; refine AWP.seq ?_; refine AWP.block ?_
                                rcases bool2 (v24) with g28 | g28
                                · refine AWP.drawnL ⟨_, _, fun _ _ => (⟨[some ⟨31, [.t (.leaf (.string (x8.gTrait))), .t (.row 1 (strTrs (x8.gVars))), .t (.leaf (.int .i64 (x8.gHead.gKind))), .t (.leaf (.string (x8.gHead.gName))), .t (.row 3 (GType.trs (x8.gHead.gArgs))), .t (.row 4 (GBound.trs (x8.gWhere))), .t (.leaf (.bool (x8.gDefault))), .t (.leaf (.bool (x8.gHasAssoc))), .t (.leaf (.int .i64 (x8.gAssoc.gKind))), .t (.leaf (.string (x8.gAssoc.gName))), .t (.row 3 (GType.trs (x8.gAssoc.gArgs))), .t (.row 11 (GMethod.trs (x8.gMethods)))]⟩], []⟩ : Sto), fun q' => ([some (.t (.leaf (.bool (v24)))), some (.t (.leaf (.bool (v24)))), none, none, none, none, none, none, none, none, none, none, some (.t (.leaf (.bool (true)))), some (.t (.leaf (.bool (true))))] : List (Option PV)).getD q' none, fun q' => ([.q 0 0, .q 0 0, .q 0 0, .q 0 0, .q 0 0, .q 0 0, .q 0 0, .q 0 0, .q 0 0, .q 0 0, .q 0 0, .q 0 0, .q 0 0, .q 0 0] : List DK).getD q' (.q 0 0), [], none, fun q' => ([[(7, none)], [(43, some 0)], [], [], [], [], [], [], [], [], [], [], [(44, some 1)], [(55, some 12)]] : List (List (Nat × Option Nat))).getD q' []⟩ rfl mixed (by kernel_rfl) rfl rfl ⟨?_, ?_, ?_, ?_, ?_, ?_, ?_, ?_, ?_, ?_, ?_, ?_, ?_, ?_, trivial⟩ rfl ?_
                                  · exact Draw.step.q1 0 rfl rfl fun s' bb hs hl => ⟨_, rfl, AOp.move (.inl rfl) rfl (hl 7 none _ (.head _) rfl)⟩
                                  · exact Draw.step.q1 0 rfl rfl fun s' bb hs hl => ⟨_, rfl, AOp.move (.inl rfl) rfl (hl 43 (some 0) _ (.head _) rfl)⟩
                                  · exact .inr ⟨(congrArg (fun b => some (b == false)) g28), rfl, ⟨_, _, rfl⟩, fun d hd => by cases hd; rfl⟩
                                  · exact .inr ⟨(congrArg (fun b => some (b == false)) g28), rfl, ⟨_, _, rfl⟩, fun d hd => by cases hd; rfl⟩
                                  · exact .inr ⟨(congrArg (fun b => some (b == false)) g28), rfl, ⟨_, _, rfl⟩, fun d hd => by cases hd; rfl⟩
                                  · exact .inr ⟨(congrArg (fun b => some (b == false)) g28), rfl, ⟨_, _, rfl⟩, fun d hd => by cases hd; rfl⟩
                                  · exact .inr ⟨(congrArg (fun b => some (b == false)) g28), rfl, ⟨_, _, rfl⟩, fun d hd => by cases hd; rfl⟩
                                  · exact .inr ⟨(congrArg (fun b => some (b == false)) g28), rfl, ⟨_, _, rfl⟩, fun d hd => by cases hd; rfl⟩
                                  · exact .inr ⟨(congrArg (fun b => some (b == false)) g28), rfl, ⟨_, _, rfl⟩, fun d hd => by cases hd; rfl⟩
                                  · exact .inr ⟨(congrArg (fun b => some (b == false)) g28), rfl, ⟨_, _, rfl⟩, fun d hd => by cases hd; rfl⟩
                                  · exact .inr ⟨(congrArg (fun b => some (b == false)) g28), rfl, ⟨_, _, rfl⟩, fun d hd => by cases hd; rfl⟩
                                  · exact .inr ⟨(congrArg (fun b => some (b == false)) g28), rfl, ⟨_, _, rfl⟩, fun d hd => by cases hd; rfl⟩
                                  · exact Draw.step.q1 0 rfl rfl fun s' bb hs hl => ⟨_, rfl, AOp.pickT rfl rfl (hl 44 (some 1) _ (.head _) rfl) g28 rfl⟩
                                  · exact Draw.step.q1 0 rfl rfl fun s' bb hs hl => ⟨_, rfl, AOp.move (.inr rfl) rfl (hl 55 (some 12) _ (.head _) rfl)⟩
                                  refine AWP.region_lit ?_; refine AL.cons rfl (AOp.move (.inl rfl) rfl rfl) ?_; refine AL.cons rfl (AOp.addI rfl rfl rfl rfl (c := ((i23 + 1 : Nat) : Int)) (by omega) (by omega)) ?_; refine AL.cons rfl (AOp.move (.inr rfl) rfl rfl) ?_; refine AL.nil ?_
                                  have e29 : (lFnOwn_F2 fu pa0 x3 x8 i19) i23 v24 = some (.next true) := swT g28 (rfl)
                                  refine ⟨(i23 + 1, true), loopN_next h27l hJ25 e29, ?_, ?_⟩
                                  · exact Wk.mk (StLe.mk' ⟨⟨rfl, leA, rfl⟩, trivial⟩ rfl) (keeps_nil hC) ⟨⟨_, rfl, .refl _, rfl⟩, ⟨⟨_, rfl, .refl _, rfl⟩, ⟨⟨_, rfl, .refl _, rfl⟩, ⟨⟨_, rfl, .refl _, rfl⟩, ⟨⟨_, rfl, leA, rfl⟩, ⟨⟨_, rfl, leA, rfl⟩, ⟨⟨_, rfl, .refl _, rfl⟩, ⟨⟨_, rfl, .refl _, rfl⟩, ⟨⟨_, rfl, .refl _, rfl⟩, ⟨⟨_, rfl, .refl _, rfl⟩, trivial⟩⟩⟩⟩⟩⟩⟩⟩⟩⟩
                                  · dsimp only; omega
                                · refine AWP.drawnL ⟨_, _, fun _ _ => (⟨[some ⟨31, [.t (.leaf (.string (x8.gTrait))), .t (.row 1 (strTrs (x8.gVars))), .t (.leaf (.int .i64 (x8.gHead.gKind))), .t (.leaf (.string (x8.gHead.gName))), .t (.row 3 (GType.trs (x8.gHead.gArgs))), .t (.row 4 (GBound.trs (x8.gWhere))), .t (.leaf (.bool (x8.gDefault))), .t (.leaf (.bool (x8.gHasAssoc))), .t (.leaf (.int .i64 (x8.gAssoc.gKind))), .t (.leaf (.string (x8.gAssoc.gName))), .t (.row 3 (GType.trs (x8.gAssoc.gArgs))), .t (.row 11 (GMethod.trs (x8.gMethods)))]⟩], []⟩ : Sto), fun q' => ([some (.t (.leaf (.bool (v24)))), some (.t (.leaf (.bool (v24)))), some (.ptr 0 5), some (.t (.row 4 (GBound.trs (x8.gWhere)))), some (.t (.leaf (.int .i64 (((i23 : Nat) : Int))))), some (.eptr (GBound.cs (atD x8.gWhere i23))), some ((GBound.pv (atD x8.gWhere i23))), some (.t (.row 4 (GBound.trs (GType.projs x8.gAssoc)))), some (.t (.leaf (.int .i64 (((i19 : Nat) : Int))))), some (.eptr (GBound.cs (atD (GType.projs x8.gAssoc) i19))), some ((GBound.pv (atD (GType.projs x8.gAssoc) i19))), some (.t (.leaf (.bool (GBound.eq (atD x8.gWhere i23) (atD (GType.projs x8.gAssoc) i19))))), some (.t (.leaf (.bool (GBound.eq (atD x8.gWhere i23) (atD (GType.projs x8.gAssoc) i19))))), some (.t (.leaf (.bool (GBound.eq (atD x8.gWhere i23) (atD (GType.projs x8.gAssoc) i19)))))] : List (Option PV)).getD q' none, fun q' => ([.q 0 0, .q 0 0, .q 0 0, .q 0 0, .q 0 0, .q 0 0, .q 0 0, .q 0 0, .q 0 0, .q 0 0, .q 0 0, .q 0 0, .q 0 0, .q 0 0] : List DK).getD q' (.q 0 0), [], none, fun q' => ([[(7, none)], [(43, some 0)], [(3, none)], [(45, some 2)], [(8, none)], [(46, some 3), (47, some 4)], [(48, some 5)], [(5, none)], [(6, none)], [(50, some 7), (51, some 8)], [(52, some 9)], [(53, some 10), (49, some 6)], [(44, some 1), (54, some 11)], [(55, some 12)]] : List (List (Nat × Option Nat))).getD q' []⟩ rfl mixed (by kernel_rfl) rfl rfl ⟨?_, ?_, ?_, ?_, ?_, ?_, ?_, ?_, ?_, ?_, ?_, ?_, ?_, ?_, trivial⟩ rfl ?_
                                  · exact Draw.step.q1 0 rfl rfl fun s' bb hs hl => ⟨_, rfl, AOp.move (.inl rfl) rfl (hl 7 none _ (.head _) rfl)⟩
                                  · exact Draw.step.q1 0 rfl rfl fun s' bb hs hl => ⟨_, rfl, AOp.move (.inl rfl) rfl (hl 43 (some 0) _ (.head _) rfl)⟩
                                  · exact Draw.step.q1 0 (congrArg (fun b => some (b == false)) g28) rfl fun s' bb hs hl => ⟨_, rfl, AOp.fieldPtr (k := 0) (d := 0) (e := 5) rfl rfl (hl 3 none _ (.head _) rfl) fo31_3⟩
                                  · exact Draw.step.q1 0 (congrArg (fun b => some (b == false)) g28) rfl fun s' bb hs hl => ⟨_, rfl, AOp.loadPtr1 rfl rfl (hl 45 (some 2) _ (.head _) rfl) (by rw [hs]; rfl) sh28 rfl⟩
                                  · exact Draw.step.q1 0 (congrArg (fun b => some (b == false)) g28) rfl fun s' bb hs hl => ⟨_, rfl, AOp.move (.inl rfl) rfl (hl 8 none _ (.head _) rfl)⟩
                                  · exact Draw.step.q1 0 (congrArg (fun b => some (b == false)) g28) rfl fun s' bb hs hl => ⟨_, rfl, AOp.index (k := i23) rfl rfl (hl 46 (some 3) _ (.head _) rfl) rfl (hl 47 (some 4) _ (.tail _ (.head _)) rfl) (GBound.trs_at h27n) el28⟩
                                  · exact Draw.step.q1 0 (congrArg (fun b => some (b == false)) g28) rfl fun s' bb hs hl => ⟨_, rfl, AOp.loadEptr (ds := [.leaf (.string ((atD x8.gWhere i23).gTrait)), .leaf (.int .i64 ((atD x8.gWhere i23).gType.gKind)), .leaf (.string ((atD x8.gWhere i23).gType.gName)), .row 3 (GType.trs ((atD x8.gWhere i23).gType.gArgs))]) rfl rfl (hl 48 (some 5) _ (.head _) rfl) sh37 rfl rfl⟩
                                  · exact Draw.step.q1 0 (congrArg (fun b => some (b == false)) g28) rfl fun s' bb hs hl => ⟨_, rfl, AOp.move (.inl rfl) rfl (hl 5 none _ (.head _) rfl)⟩
                                  · exact Draw.step.q1 0 (congrArg (fun b => some (b == false)) g28) rfl fun s' bb hs hl => ⟨_, rfl, AOp.move (.inl rfl) rfl (hl 6 none _ (.head _) rfl)⟩
                                  · exact Draw.step.q1 0 (congrArg (fun b => some (b == false)) g28) rfl fun s' bb hs hl => ⟨_, rfl, AOp.index (k := i19) rfl rfl (hl 50 (some 7) _ (.head _) rfl) rfl (hl 51 (some 8) _ (.tail _ (.head _)) rfl) (GBound.trs_at h22n) el28⟩
                                  · exact Draw.step.q1 0 (congrArg (fun b => some (b == false)) g28) rfl fun s' bb hs hl => ⟨_, rfl, AOp.loadEptr (ds := [.leaf (.string ((atD (GType.projs x8.gAssoc) i19).gTrait)), .leaf (.int .i64 ((atD (GType.projs x8.gAssoc) i19).gType.gKind)), .leaf (.string ((atD (GType.projs x8.gAssoc) i19).gType.gName)), .row 3 (GType.trs ((atD (GType.projs x8.gAssoc) i19).gType.gArgs))]) rfl rfl (hl 52 (some 9) _ (.head _) rfl) sh37 rfl rfl⟩
                                  · exact Draw.step.q1 0 (congrArg (fun b => some (b == false)) g28) rfl fun s' bb hs hl => ⟨_, rfl, AOp.callF (res := .t (.leaf (.bool (GBound.eq (atD x8.gWhere i23) (atD (GType.projs x8.gAssoc) i19))))) (ps := [_, _]) rfl rfl Try.func12 (by kernel_rfl) rfl (evs_cons (hl 49 (some 6) _ (.tail _ (.head _)) rfl) (evs_cons (hl 53 (some 10) _ (.head _) rfl) rfl)) leA rfl rfl (iEqualGoal_fn (atD x8.gWhere i23) (atD (GType.projs x8.gAssoc) i19))⟩
                                  · exact Draw.step.q1 0 rfl rfl fun s' bb hs hl => ⟨_, rfl, AOp.pickF rfl rfl (hl 44 (some 1) _ (.head _) rfl) g28 (hl 54 (some 11) _ (.tail _ (.head _)) rfl)⟩
                                  · exact Draw.step.q1 0 rfl rfl fun s' bb hs hl => ⟨_, rfl, AOp.move (.inr rfl) rfl (hl 55 (some 12) _ (.head _) rfl)⟩
                                  refine AWP.region_lit ?_; refine AL.cons rfl (AOp.move (.inl rfl) rfl rfl) ?_; refine AL.cons rfl (AOp.addI rfl rfl rfl rfl (c := ((i23 + 1 : Nat) : Int)) (by omega) (by omega)) ?_; refine AL.cons rfl (AOp.move (.inr rfl) rfl rfl) ?_; refine AL.nil ?_
                                  have e30 : (lFnOwn_F2 fu pa0 x3 x8 i19) i23 v24 = some (.next (GBound.eq (atD x8.gWhere i23) (atD (GType.projs x8.gAssoc) i19))) := swF g28 (rfl)
                                  refine ⟨(i23 + 1, (GBound.eq (atD x8.gWhere i23) (atD (GType.projs x8.gAssoc) i19))), loopN_next h27l hJ25 e30, ?_, ?_⟩
                                  · exact Wk.mk (StLe.mk' ⟨⟨rfl, leA, rfl⟩, trivial⟩ rfl) (keeps_nil hC) ⟨⟨_, rfl, .refl _, rfl⟩, ⟨⟨_, rfl, .refl _, rfl⟩, ⟨⟨_, rfl, .refl _, rfl⟩, ⟨⟨_, rfl, .refl _, rfl⟩, ⟨⟨_, rfl, leA, rfl⟩, ⟨⟨_, rfl, leA, rfl⟩, ⟨⟨_, rfl, .refl _, rfl⟩, ⟨⟨_, rfl, .refl _, rfl⟩, ⟨⟨_, rfl, .refl _, rfl⟩, ⟨⟨_, rfl, .refl _, rfl⟩, trivial⟩⟩⟩⟩⟩⟩⟩⟩⟩⟩
                                  · dsimp only; omega
                              · have h27l : x8.gWhere.length ≤ i23 := nat_ge_of2 h27
                                refine AWP.exit ?_; refine ⟨v24, loopN_end h27l hJ25, ?_⟩
                                exact Wk.mk (StLe.mk' ⟨⟨rfl, leA, rfl⟩, trivial⟩ rfl) (keeps_nil hC) ⟨⟨_, rfl, .refl _, rfl⟩, ⟨⟨_, rfl, .refl _, rfl⟩, ⟨⟨_, rfl, .refl _, rfl⟩, ⟨⟨_, rfl, .refl _, rfl⟩, ⟨⟨_, rfl, .refl _, rfl⟩, ⟨⟨_, rfl, .refl _, rfl⟩, ⟨⟨_, rfl, .refl _, rfl⟩, ⟨⟨_, rfl, .refl _, rfl⟩, ⟨⟨_, rfl, .refl _, rfl⟩, trivial⟩⟩⟩⟩⟩⟩⟩⟩⟩
                          · rintro v24 hR31
                            refine AWP.seq ?_; refine AWP.region_lit ?_; refine AL.cons rfl (AOp.move (.inl rfl) rfl rfl) ?_; refine AL.cons rfl (AOp.notB rfl rfl rfl) ?_; refine AL.nil ?_; refine AWP.cond rfl (fun h32 => ?_) (fun h32 => ?_)
                            · refine AWP.seq ?_; refine AWP.region_lit ?_; refine AL.cons rfl (AOp.move (.inr rfl) rfl rfl) ?_; refine AL.nil ?_; refine AWP.ret ?_
                              have e33 : (lFnOwn_F1 fu pa0 x3 x8) i19 () = some (.ret false) := soR hR31 (swT h32 (rfl))
                              have e34 : lFnOwn_R1 fu pa0 x3 x8 = some (.inl false) := loopN_ret h22l hJ21 e33
                              have e35 : lFnOwn_M fu pa0 = some false := bdS hq2 (swF h5 (bdS hq7 (gdT hg10 (gdT hg11 (swF g12 (swF h15 (gdT hg17 (gdT hg18 (soL e34)))))))))
                              have hz : false = r := Option.some.inj (e35.symm.trans H)
                              subst hz
                              exact Ends.mk (ps := [_]) (by first | exact .inr rfl | exact .inl rfl) ⟨rfl, trivial⟩ rfl (StLe.mk' (st' := ⟨[], []⟩) trivial rfl) (keeps_nil hC) (q := (.t (.leaf (.bool (false))) : PV)) leA rfl ⟨rfl, rfl⟩
                            · refine AWP.skip ?_; refine AWP.region_lit ?_; refine AL.cons rfl (AOp.move (.inl rfl) rfl rfl) ?_; refine AL.cons rfl (AOp.addI rfl rfl rfl rfl (c := ((i19 + 1 : Nat) : Int)) (by omega) (by omega)) ?_; refine AL.cons rfl (AOp.move (.inr rfl) rfl rfl) ?_; refine AL.nil ?_
                              have e36 : (lFnOwn_F1 fu pa0 x3 x8) i19 () = some (.next ()) := soR hR31 (swF h32 (rfl))
                              refine ⟨(i19 + 1, ()), loopN_next h22l hJ21 e36, ?_, ?_⟩
                              · exact Wk.mk (StLe.mk' ⟨⟨rfl, leA, rfl⟩, trivial⟩ rfl) (keeps_nil hC) ⟨⟨_, rfl, .refl _, rfl⟩, ⟨⟨_, rfl, .refl _, rfl⟩, ⟨⟨_, rfl, .refl _, rfl⟩, ⟨⟨_, rfl, leA, rfl⟩, trivial⟩⟩⟩⟩
                              · dsimp only; omega
                        · have h22l : (GType.projs x8.gAssoc).length ≤ i19 := nat_ge_of2 h22
                          refine AWP.exit ?_; refine ⟨(), loopN_end h22l hJ21, ?_⟩
                          exact Wk.mk (StLe.mk' ⟨⟨rfl, leA, rfl⟩, trivial⟩ rfl) (keeps_nil hC) ⟨⟨_, rfl, .refl _, rfl⟩, ⟨⟨_, rfl, .refl _, rfl⟩, ⟨⟨_, rfl, .refl _, rfl⟩, trivial⟩⟩⟩
                    · rintro ⟨⟩ hR37
                      refine AWP.seq ?_; refine AWP.region_lit ?_; refine AL.cons rfl (AOp.fieldPtr (k := 0) (d := 0) (e := 8) rfl rfl rfl fo31_6) ?_; refine AL.cons rfl (AOp.loadPtr (cs := [.t (.leaf (.int .i64 (x8.gAssoc.gKind))), .t (.leaf (.string (x8.gAssoc.gName))), .t (.row 3 (GType.trs (x8.gAssoc.gArgs)))]) rfl rfl rfl rfl sh27 rfl rfl) ?_; refine AL.cons rfl (AOp.callF (res := .t (.leaf (.bool (GType.hp x8.gAssoc)))) (ps := [_]) rfl rfl Try.func13 (by kernel_rfl) rfl rfl leA rfl rfl (iHasProj_fn x8.gAssoc)) ?_; refine AL.cons rfl (AOp.move (.inl rfl) rfl rfl) ?_; refine AL.cons rfl (AOp.lenN rfl rfl rfl rfl el28 (GBound.trs_len _)) ?_; refine AL.cons rfl (AOp.gtr rfl rfl rfl rfl) ?_; refine AL.cons rfl (AOp.eqlB rfl rfl rfl rfl Try.underlying4) ?_; refine AL.cons rfl (AOp.move (.inr rfl) rfl rfl) ?_; refine AL.nil ?_; refine AWP.ret ?_
                      have e38 : lFnOwn_M fu pa0 = some (decide ((GType.hp x8.gAssoc : Bool) = (decide (((((GType.projs x8.gAssoc).length : Nat) : Int) : Int) > 0)))) := bdS hq2 (swF h5 (bdS hq7 (gdT hg10 (gdT hg11 (swF g12 (swF h15 (gdT hg17 (gdT hg18 (soR hR37 (rfl))))))))))
                      have hz : (decide ((GType.hp x8.gAssoc : Bool) = (decide (((((GType.projs x8.gAssoc).length : Nat) : Int) : Int) > 0)))) = r := Option.some.inj (e38.symm.trans H)
                      subst hz
                      exact Ends.mk (ps := [_]) (by first | exact .inr rfl | exact .inl rfl) ⟨rfl, trivial⟩ rfl (StLe.mk' (st' := ⟨[], []⟩) trivial rfl) (keeps_nil hC) (q := (.t (.leaf (.bool ((decide ((GType.hp x8.gAssoc : Bool) = (decide (((((GType.projs x8.gAssoc).length : Nat) : Int) : Int) > 0))))))) : PV)) leA rfl ⟨rfl, rfl⟩
                  · have e39 : lFnOwn_M fu pa0 = none := bdS hq2 (swF h5 (bdS hq7 (gdT hg10 (gdT hg11 (swF g12 (swF h15 (gdT hg17 (gdF hg18))))))))
                    exact none_some H e39
                · have e40 : lFnOwn_M fu pa0 = none := bdS hq2 (swF h5 (bdS hq7 (gdT hg10 (gdT hg11 (swF g12 (swF h15 (gdF hg17)))))))
                  exact none_some H e40
          · have e41 : lFnOwn_M fu pa0 = none := bdS hq2 (swF h5 (bdS hq7 (gdT hg10 (gdF hg11))))
            exact none_some H e41
        · have e42 : lFnOwn_M fu pa0 = none := bdS hq2 (swF h5 (bdS hq7 (gdF hg10)))
          exact none_some H e42

end Go.Proofs.Ytlijdhhajojenaa

namespace Go.Proofs.Ytlijdhhajojenaa
set_option linter.unusedSimpArgs false
set_option linter.unusedVariables false
open Go.RowKit Go.WalkArith Go.IntWalk

theorem drawCov_ok : Evt fun fu => ∀ code : List UInt8, code.length ≤ 1048576 → Ok (sDrawAssocTypeIsCovered_M fu code) (InstOk 10000) := tInst.imp fun fu hI code hc => by
  unfold sDrawAssocTypeIsCovered_M
  refine Ok.gd hc (Ok.bd (hI _) ?_)
  rintro ⟨x, D⟩ hx
  have hx : InstOk 8000 x := hx
  refine Ok.sw (fun _ => Ok.bd (var_ok fu _) ?_) fun _ => Ok.some ⟨by have := hx.bulk; omega, hx.head, hx.assoc, hx.whl, hx.wh⟩
  rintro t rfl
  have p2 := DS.pick_size (D.after 2) (l := [⟨#[115, 104, 111, 119]⟩, ⟨#[111, 114, 100]⟩]) (k := 8) (by simp) (names2 (by decide) (by decide))
  have ta : TyG 20 (.mk 1 ⟨#[97]⟩ []) := tyG0 (by decide) (by decide)
  refine Ok.bd (proj_ok fu _ _ (by have := ta.1; omega)) ?_; rintro t rfl
  refine Ok.bd (con_ok fu _ _ (by simp)) ?_; rintro t rfl
  have hT : TyG 500 (.mk 2 ⟨#[108, 105, 115, 116]⟩ [.mk 3 ((D.after 2).pick [⟨#[115, 104, 111, 119]⟩, ⟨#[111, 114, 100]⟩]) [.mk 1 ⟨#[97]⟩ []]]) := tyG1 (b := 100) (tyG1 ta (by omega) (by decide) (fun h => absurd h (by decide))) (by decide) (by decide) (fun _ => by decide)
  refine Ok.some ⟨?_, hx.head, hT, hx.whl, hx.wh⟩
  have h1 := hx.bulk
  obtain ⟨a0, a1, a2, a3, a4, a5, a6, a7⟩ := x
  rw [GInstance.bk_mk] at h1 ⊢
  simp only [GInstance.gTrait_mk, GInstance.gVars_mk, GInstance.gHead_mk, GInstance.gWhere_mk, GInstance.gDefault_mk, GInstance.gMethods_mk]
  have := hT.1
  omega
theorem hp_pre : ∀ t : GType, t.hp = t.pre.any fun u => decide (u.gKind = 3) := by
  refine GType.ind fun k n xs ih => ?_
  have key : ∀ l : List GType, (∀ x ∈ l, x.hp = x.pre.any fun u => decide (u.gKind = 3)) → l.any GType.hp = (GType.pres l).any fun u => decide (u.gKind = 3) := by
    intro l
    induction l with
    | nil => intro _; rfl
    | cons a l ih =>
      intro h
      rw [List.any_cons, GType.pres, List.any_append, h a (by simp), ih fun x hx => h x (by simp [hx])]
  rw [GType.hp, GType.hps_any, key xs ih, GType.pre, List.any_cons, Bool.or_comm]
  rfl
theorem projStep_grow (out : List GBound) (u : GType) : out.length ≤ (projStep out u).length := by
  obtain ⟨k, n, l⟩ := u
  cases l with
  | nil => rw [projStep_nil]; omega
  | cons a l =>
    by_cases hk : k = 3
    · subst hk
      cases h : out.any (fun x => GBound.eq x (.mk n a))
      · rw [projStep_new h]; simp
      · rw [projStep_has h]; omega
    · rw [projStep_kind hk]; omega
theorem projSteps_grow : ∀ (l : List GType) (out : List GBound), out.length ≤ (l.foldl projStep out).length
  | [], out => Nat.le_refl _
  | u :: l, out => Nat.le_trans (projStep_grow out u) (projSteps_grow l _)
theorem projSteps_none : ∀ (l : List GType) (out : List GBound), (l.any fun u => decide (u.gKind = 3)) = false → l.foldl projStep out = out
  | [], out, _ => rfl
  | u :: l, out, h => by
    rw [List.any_cons, Bool.or_eq_false_iff] at h
    obtain ⟨k, n, xs⟩ := u
    rw [List.foldl_cons, projStep_kind (k := k) (of_decide_eq_false h.1)]
    exact projSteps_none l out h.2
theorem projSteps_some : ∀ (l : List GType) (out : List GBound), (∀ u ∈ l, NodeOk u) → (l.any fun u => decide (u.gKind = 3)) = true → 0 < (l.foldl projStep out).length
  | [], out, _, h => by simp at h
  | u :: l, out, hn, h => by
    rw [List.foldl_cons]
    by_cases hk : u.gKind = 3
    · have h1 := (hn u (by simp)).1 hk
      obtain ⟨k, n, xs⟩ := u
      cases xs with
      | nil => exact absurd rfl h1
      | cons a xs =>
        obtain rfl : k = 3 := hk
        refine Nat.lt_of_lt_of_le ?_ (projSteps_grow l _)
        cases h2 : out.any (fun x => GBound.eq x (.mk n a))
        · rw [projStep_new h2]; simp
        · rw [projStep_has h2]
          obtain ⟨y, hy, -⟩ := List.any_eq_true.1 h2
          exact List.length_pos_of_mem hy
    · rw [List.any_cons, decide_eq_false hk, Bool.false_or] at h
      exact projSteps_some l _ (fun v hv => hn v (by simp [hv])) h
theorem hp_projs {t : GType} (h : t.good) : t.hp = decide ((((t.projs.length : Nat) : Int) : Int) > 0) := by
  rw [hp_pre]
  unfold GType.projs
  cases hp : t.pre.any fun u => decide (u.gKind = 3) with
  | true => exact (decide_eq_true (by have := projSteps_some t.pre [] h hp; omega)).symm
  | false => rw [projSteps_none _ _ hp]; rfl
theorem fnOwn_ok (code : List UInt8) : AFun Try.prog 3 [.t (.row 1 (byteTrs code))] (.t (.leaf (.bool true))) := by
  by_cases hb : code.length > 1048576
  · refine lFnOwn_ok 0 code true ?_
    unfold lFnOwn_M lbig_M
    exact swT (decide_eq_true (by omega)) rfl
  obtain ⟨fu, h1⟩ := drawCov_ok.get
  obtain ⟨x, hx, hok⟩ := h1 code (by omega)
  have hb1 := hok.assoc.1
  have hb2 := GType.size_bulk x.gAssoc
  rw [← GType.pre_length] at hb2
  refine lFnOwn_ok fu code true ?_
  unfold lFnOwn_M lbig_M
  refine swF (decide_eq_false (by omega)) (bdS hx (gdT (by omega) (gdT (by omega) (swF (by simp) ?_))))
  cases hc : x.covered with
  | false => exact swT rfl (by simp)
  | true =>
    refine swF rfl (gdT (by omega) (gdT (by omega) (soR (s := ()) ?_ ?_)))
    · unfold lFnOwn_R1
      rw [loopN_every (l := GType.projs x.gAssoc) (p := fun g => x.gWhere.any fun b => GBound.eq b g) (r := false) (s := ()) fun i hi => ?_]
      · unfold GInstance.covered at hc
        rw [hc]
        rfl
      · unfold lFnOwn_F1
        refine soR (s := x.gWhere.any fun b => GBound.eq b (atD (GType.projs x.gAssoc) i)) ?_ ?_
        · unfold lFnOwn_R2
          rw [loopN_fold0 (l := x.gWhere) (g := fun b y => if b then true else GBound.eq y (atD (GType.projs x.gAssoc) i)) (fun _ _ => True) (fun k s hk _ => ⟨?_, trivial⟩) trivial, orfold, Bool.false_or]
          unfold lFnOwn_F2
          cases s <;> rfl
        · cases (x.gWhere.any fun b => GBound.eq b (atD (GType.projs x.gAssoc) i)) <;> rfl
    · rw [hp_projs hok.assoc.2]
      simp
end Go.Proofs.Ytlijdhhajojenaa
