/- Words, rules and walks of several kinds, laid together: MaGoal, TyPlain, Acc, TyFn, Each, AccT, Find, CopyTy, Projs, PlGoal, PlZ, PlProjZ. No conditions but those that each theorem states. -/
import Derived.Test.YtoifjkggpanceaaQ4LExactProjectionsIn
import Derived.Test.YtoifjkggpanceaaQ1LExactProjectionsIn
import Derived.Deep.AppendLies
import Derived.BigQuiet
import Derived.Deep.QuietTactic
import Derived.Test.YtoifjkggpanceaaQ2LExactProjectionsIn
import Derived.Deep.DeepCutAuto
import Derived.Test.YtoifjkggpanceaaQ3LExactProjectionsIn
set_option linter.unusedSimpArgs false
set_option linter.unusedVariables false
namespace Go.Proofs.Ytoifjkggpanceaa
open Go.RowKit Go.Proofs
set_option linter.unusedSimpArgs false
set_option linter.unusedVariables false

noncomputable def sEqualGoal_M (fu : Nat)  (pa : GBound) (pb : GBound) : Option Bool :=
 sw (decide (pa.gTrait = pb.gTrait))
 (some (GType.eq pa.gType pb.gType))
 (some false)
set_option maxRecDepth 100000 in
set_option maxHeartbeats 4000000 in
theorem sEqualGoal_ok  (fu : Nat)  (pa : GBound) (pb : GBound) (r : Bool) (H : sEqualGoal_M fu pa pb = some r) : AFun Try.prog 110 [(GBound.pv pa), (GBound.pv pb)] (.t (.leaf (.bool (r))) : PV) := by
  refine ACalls.intro Try.func110 rfl (by first | decide | (simp; done) | (simp; decide)) ?_
  intro C hC
  refine AWP.seq ?_
  refine AWP.region_lit ?_
  refine AL.cons rfl (AOp.box (cs := [.t (.leaf (.string (pa.gTrait))), .t (.leaf (.int .i64 (pa.gType.gKind))), .t (.leaf (.string (pa.gType.gName))), .t (.row 3 (GType.trs (pa.gType.gArgs)))]) rfl rfl rfl rfl rfl) ?_
  refine AL.cons rfl (AOp.box (cs := [.t (.leaf (.string (pb.gTrait))), .t (.leaf (.int .i64 (pb.gType.gKind))), .t (.leaf (.string (pb.gType.gName))), .t (.row 3 (GType.trs (pb.gType.gArgs)))]) rfl rfl rfl rfl rfl) ?_
  refine AL.cons rfl (AOp.move (.inr rfl) rfl rfl) ?_
  refine AL.nil ?_
  refine AWP.seq ?_
  refine AWP.region_lit ?_
  refine AL.cons rfl (AOp.fieldPtr (k := 0) (d := 0) (e := 0) rfl rfl rfl fo34_0) ?_
  refine AL.cons rfl (AOp.loadPtr1 rfl rfl rfl rfl sh9 rfl) ?_
  refine AL.cons rfl (AOp.fieldPtr (k := 1) (d := 0) (e := 0) rfl rfl rfl fo34_0) ?_
  refine AL.cons rfl (AOp.loadPtr1 rfl rfl rfl rfl sh9 rfl) ?_
  refine AL.cons rfl (AOp.eqlS rfl rfl rfl rfl) ?_
  refine AL.cons rfl (AOp.move (.inl rfl) rfl rfl) ?_
  refine AL.splitB 10 rfl (fun g1 => ?_) (fun g1 => ?_)
  · skip
    refine AL.cons_gv rfl rfl rfl g1 (AOp.fieldPtr (k := 0) (d := 0) (e := 1) rfl rfl rfl fo34_1) ?_
    refine AL.cons_gv rfl rfl rfl g1 (AOp.loadPtr (cs := [.t (.leaf (.int .i64 (pa.gType.gKind))), .t (.leaf (.string (pa.gType.gName))), .t (.row 3 (GType.trs (pa.gType.gArgs)))]) rfl rfl rfl rfl sh32 rfl rfl) ?_
    refine AL.cons_gv rfl rfl rfl g1 (AOp.fieldPtr (k := 1) (d := 0) (e := 1) rfl rfl rfl fo34_1) ?_
    refine AL.cons_gv rfl rfl rfl g1 (AOp.loadPtr (cs := [.t (.leaf (.int .i64 (pb.gType.gKind))), .t (.leaf (.string (pb.gType.gName))), .t (.row 3 (GType.trs (pb.gType.gArgs)))]) rfl rfl rfl rfl sh32 rfl rfl) ?_
    refine AL.cons_gv rfl rfl rfl g1 (AOp.callF (ps := [_, _]) rfl rfl Try.func169 (by kernel_rfl) rfl rfl (by (repeat' (first | exact PV.Le.refl _ | exact LeL.nil | exact PV.Le.nil _ | exact PV.Le.acc _ _ _ | apply LeL.cons | apply PV.Le.agg | apply PV.Le.tup))) rfl rfl (sEqualType_fn pa.gType pb.gType)) ?_
    refine AL.cons rfl (AOp.pickT rfl rfl rfl g1 rfl) ?_
    refine AL.cons rfl (AOp.move (.inr rfl) rfl rfl) ?_
    refine AL.nil ?_
    refine AWP.ret ?_
    have e2 : sEqualGoal_M fu pa pb = some (GType.eq pa.gType pb.gType) := swT g1 (rfl)
    have hz : (GType.eq pa.gType pb.gType) = r := Option.some.inj (e2.symm.trans H)
    subst hz
    exact Ends.mk (ps := [_]) (.inr rfl) ⟨rfl, trivial⟩ rfl (StLe.mk' (st' := ⟨[], []⟩) trivial rfl) (keeps_nil hC) (q := (.t (.leaf (.bool ((GType.eq pa.gType pb.gType)))) : PV)) (by (repeat' (first | exact PV.Le.refl _ | exact LeL.nil | exact PV.Le.nil _ | exact PV.Le.acc _ _ _ | apply LeL.cons | apply PV.Le.agg | apply PV.Le.tup))) rfl ⟨rfl, rfl⟩
  · skip
    refine AL.skip_v rfl rfl rfl g1 rfl ?_
    refine AL.skip_v rfl rfl rfl g1 rfl ?_
    refine AL.skip_v rfl rfl rfl g1 rfl ?_
    refine AL.skip_v rfl rfl rfl g1 rfl ?_
    refine AL.skip_v rfl rfl rfl g1 rfl ?_
    refine AL.cons rfl (AOp.pickF rfl rfl rfl g1 rfl) ?_
    refine AL.cons rfl (AOp.move (.inr rfl) rfl rfl) ?_
    refine AL.nil ?_
    refine AWP.ret ?_
    have e3 : sEqualGoal_M fu pa pb = some false := swF g1 (rfl)
    have hz : false = r := Option.some.inj (e3.symm.trans H)
    subst hz
    exact Ends.mk (ps := [_]) (.inr rfl) ⟨rfl, trivial⟩ rfl (StLe.mk' (st' := ⟨[], []⟩) trivial rfl) (keeps_nil hC) (q := (.t (.leaf (.bool (false))) : PV)) (by (repeat' (first | exact PV.Le.refl _ | exact LeL.nil | exact PV.Le.nil _ | exact PV.Le.acc _ _ _ | apply LeL.cons | apply PV.Le.agg | apply PV.Le.tup))) rfl ⟨rfl, rfl⟩

theorem GBound.eq_def (a b : GBound) : GBound.eq a b = ((a.gTrait == b.gTrait) && GType.eq a.gType b.gType) := by cases a; cases b; rfl
theorem sEqualGoal_fn (a b : GBound) : AFun Try.prog 110 [(GBound.pv a), (GBound.pv b)] (.t (.leaf (.bool (GBound.eq a b)))) := sEqualGoal_ok 0 a b _ (by unfold sEqualGoal_M; rw [GBound.eq_def]; by_cases h : a.gTrait = b.gTrait <;> simp [sw, h, bytes_beq_self, bytes_beq_ne])
noncomputable def sl23Projs_F2 (fu : Nat) (r_sl23Projs : GType → (List GBound) → Option ((List GBound))) (pt : GType) (pout : List GBound) : Nat → Bool → Option (LR Bool (((List GBound)) ⊕ ((List GBound)))) :=
 fun i9 v10 => sw (v10)
 (some (.next true))
 (some (.next (GBound.eq (atD pout i9) (GBound.mk pt.gName (atD pt.gArgs 0)))))
noncomputable def sl23Projs_R2 (fu : Nat) (r_sl23Projs : GType → (List GBound) → Option ((List GBound))) (pt : GType) (pout : List GBound) : Option ((((List GBound)) ⊕ ((List GBound))) ⊕ Bool) :=
 loopN (sl23Projs_F2 fu r_sl23Projs pt pout) (pout.length - 0) 0 false
noncomputable def sl23Projs_C1 (fu : Nat) (r_sl23Projs : GType → (List GBound) → Option ((List GBound))) (pt : GType) (pout : List GBound) : Option (((List GBound)) ⊕ ((List GBound))) :=
 sw (decide ((pt.gKind : Int) = 3))
 (sw (decide ((((pt.gArgs.length : Nat) : Int) : Int) > 0))
 (gd (0 < (pt.gArgs).length)
 (gd (Tr.bulkL (GType.tr (atD pt.gArgs 0)) ≤ 68719476735)
 (so (sl23Projs_R2 fu r_sl23Projs pt pout) (fun v10 =>
 sw (!(v10))
 (gd ((pout).length + (([(GBound.mk pt.gName (atD pt.gArgs 0))] : List GBound)).length ≤ 68719476736)
 (some (.inr (pout ++ ([(GBound.mk pt.gName (atD pt.gArgs 0))] : List GBound)))))
 (some (.inr pout))))))
 (some (.inr pout)))
 (some (.inr pout))
noncomputable def sl23Projs_F3 (fu : Nat) (r_sl23Projs : GType → (List GBound) → Option ((List GBound))) (pt : GType) (pout : List GBound) (v3 : List GBound) : Nat → ((List GBound)) → Option (LR ((List GBound)) ((List GBound))) :=
 fun i31 v33 => bd (r_sl23Projs (atD pt.gArgs i31) v33) (fun x39 =>
 some (.next x39))
noncomputable def sl23Projs_R3 (fu : Nat) (r_sl23Projs : GType → (List GBound) → Option ((List GBound))) (pt : GType) (pout : List GBound) (v3 : List GBound) : Option (((List GBound)) ⊕ ((List GBound))) :=
 loopN (sl23Projs_F3 fu r_sl23Projs pt pout v3) (pt.gArgs.length - 0) 0 v3
noncomputable def sl23Projs_G (fu : Nat) (r_sl23Projs : GType → (List GBound) → Option ((List GBound))) (pt : GType) (pout : List GBound) : Option ((List GBound)) :=
 so (sl23Projs_C1 fu r_sl23Projs pt pout) (fun v3 =>
 so (sl23Projs_R3 fu r_sl23Projs pt pout v3) (fun v33 =>
 some v33))
set_option maxRecDepth 100000 in
set_option maxHeartbeats 4000000 in
theorem sl23Projs_step (r_sl23Projs : GType → (List GBound) → Option ((List GBound))) (fu : Nat) (h_sl23Projs : ∀ (pt : GType) (pout : List GBound) (r : (List GBound)), r_sl23Projs pt pout = some r → ACalls Try.prog 115 [(GType.pv pt), .acc 4 (GBound.trs (pout)) 0] ⟨[], [⟨34, 4, GBound.trs (pout), false⟩]⟩ (fun q t => q = (.acc 4 (GBound.trs (r)) 0 : PV) ∧ t = ⟨[], [⟨34, 4, GBound.trs (r), false⟩]⟩)) (pt : GType) (pout : List GBound) (r : (List GBound)) (H : sl23Projs_G fu r_sl23Projs pt pout = some r) : ACalls Try.prog 115 [(GType.pv pt), .acc 4 (GBound.trs (pout)) 0] ⟨[], [⟨34, 4, GBound.trs (pout), false⟩]⟩ (fun q t => q = (.acc 4 (GBound.trs (r)) 0 : PV) ∧ t = ⟨[], [⟨34, 4, GBound.trs (r), false⟩]⟩) := by
  refine ACalls.intro Try.func115 rfl (by first | decide | (simp; done) | (simp; decide)) ?_
  intro C hC
  refine AWP.fact (lk_lenN 1 rfl rfl (GBound.trs_len _)) (fun hl1 => ?_)
  refine AWP.seq ?_
  refine AWP.region_lit ?_
  refine AL.cons rfl (AOp.box (cs := [.t (.leaf (.int .i64 (pt.gKind))), .t (.leaf (.string (pt.gName))), .t (.row 3 (GType.trs (pt.gArgs)))]) rfl rfl rfl rfl rfl) ?_
  refine AL.cons rfl (AOp.move (.inr rfl) rfl rfl) ?_
  refine AL.nil ?_
  refine AWP.seq ?_
  refine AWP.cut (ι := (List GBound)) (fun v3 => sl23Projs_C1 fu r_sl23Projs pt pout = some (.inr v3)) (fun v3 => ⟨[(1, .acc 4 (GBound.trs (v3)) 0), (2, .ptr 0 0), (4, .nil)], ⟨[some ⟨32, [.t (.leaf (.int .i64 (pt.gKind))), .t (.leaf (.string (pt.gName))), .t (.row 3 (GType.trs (pt.gArgs)))]⟩], [⟨34, 4, GBound.trs (v3), false⟩]⟩⟩) (by repeat' (first | exact qcEnds | exact ncAWP | exact ncRound | exact ncEx | apply qcThen | apply qcBlock | apply qcCut)) ?_ ?_
  · skip
    refine AWP.seq ?_
    refine AWP.region_lit ?_
    refine AL.cons rfl (AOp.fieldPtr (k := 0) (d := 0) (e := 0) rfl rfl rfl fo32_0) ?_
    refine AL.cons rfl (AOp.loadPtr1 rfl rfl rfl rfl sh3 rfl) ?_
    refine AL.cons rfl (AOp.eqlI rfl rfl rfl rfl) ?_
    refine AL.cons rfl (AOp.move (.inl rfl) rfl rfl) ?_
    refine AL.splitB 12 rfl (fun g4 => ?_) (fun g4 => ?_)
    · skip
      refine AL.cons_gv rfl rfl rfl g4 (AOp.fieldPtr (k := 0) (d := 0) (e := 2) rfl rfl rfl fo32_2) ?_
      refine AL.cons_gv rfl rfl rfl g4 (AOp.loadPtr1 rfl rfl rfl rfl sh30 rfl) ?_
      refine AL.fact (lk_lenN 14 rfl rfl (GType.trs_len _)) (fun hl5 => ?_)
      refine AL.cons_gv rfl rfl rfl g4 (AOp.lenN rfl rfl rfl rfl el30 (GType.trs_len _)) ?_
      refine AL.cons_gv rfl rfl rfl g4 (AOp.gtr rfl rfl rfl rfl) ?_
      refine AL.cons rfl (AOp.pickT rfl rfl rfl g4 rfl) ?_
      refine AL.nil ?_
      refine AWP.cond rfl (fun h6 => ?_) (fun h6 => ?_)
      · skip
        refine AWP.seq ?_
        rcases Classical.em (0 < (pt.gArgs).length) with hg7 | hg7
        · skip
          rcases Classical.em (Tr.bulkL (GType.tr (atD pt.gArgs 0)) ≤ 68719476735) with hg8 | hg8
          · skip
            refine AWP.drawnL ⟨_, _, fun j' _ => ([(⟨[some ⟨32, [.t (.leaf (.int .i64 (pt.gKind))), .t (.leaf (.string (pt.gName))), .t (.row 3 (GType.trs (pt.gArgs)))]⟩], [⟨34, 4, GBound.trs (pout), false⟩]⟩ : Sto), (⟨[some ⟨32, [.t (.leaf (.int .i64 (pt.gKind))), .t (.leaf (.string (pt.gName))), .t (.row 3 (GType.trs (pt.gArgs)))]⟩, some ⟨34, [.t (.leaf (.string (⟨#[]⟩))), .t (.leaf (.int .i64 (0))), .t (.leaf (.string (⟨#[]⟩))), .nil]⟩], [⟨34, 4, GBound.trs (pout), false⟩]⟩ : Sto), (⟨[some ⟨32, [.t (.leaf (.int .i64 (pt.gKind))), .t (.leaf (.string (pt.gName))), .t (.row 3 (GType.trs (pt.gArgs)))]⟩, some ⟨34, [.t (.leaf (.string (pt.gName))), .t (.leaf (.int .i64 ((atD pt.gArgs 0).gKind))), .t (.leaf (.string ((atD pt.gArgs 0).gName))), .t (.row 3 (GType.trs ((atD pt.gArgs 0).gArgs)))]⟩], [⟨34, 4, GBound.trs (pout), false⟩]⟩ : Sto)] : List Sto).getD j' (⟨[some ⟨32, [.t (.leaf (.int .i64 (pt.gKind))), .t (.leaf (.string (pt.gName))), .t (.row 3 (GType.trs (pt.gArgs)))]⟩, some ⟨34, [.t (.leaf (.string (pt.gName))), .t (.leaf (.int .i64 ((atD pt.gArgs 0).gKind))), .t (.leaf (.string ((atD pt.gArgs 0).gName))), .t (.row 3 (GType.trs ((atD pt.gArgs 0).gArgs)))]⟩], [⟨34, 4, GBound.trs (pout), false⟩]⟩ : Sto), fun q' => ([some (.ptr 0 1), some (.t (.leaf (.string (pt.gName)))), some (.ptr 0 2), some (.t (.row 3 (GType.trs (pt.gArgs)))), some (.eptr (GType.cs (atD pt.gArgs 0))), some ((GType.pv (atD pt.gArgs 0))), some ((GType.pv (atD pt.gArgs 0))), some (.agg [.t (.leaf (.string (pt.gName))), .t (.leaf (.int .i64 ((atD pt.gArgs 0).gKind))), .t (.leaf (.string ((atD pt.gArgs 0).gName))), .t (.row 3 (GType.trs ((atD pt.gArgs 0).gArgs)))]), some (.ptr 1 0), none] : List (Option PV)).getD q' none, fun q' => ([.q 0 1, .q 0 1, .q 0 1, .q 0 1, .q 0 1, .q 0 1, .q 0 1, .q 0 1, .ef 0, .ef 1] : List DK).getD q' (.q 0 0), [8, 9], none, fun q' => ([[(2, none)], [(18, some 0)], [(2, none)], [(20, some 2)], [(21, some 3)], [(22, some 4)], [(23, some 5)], [(24, some 6), (19, some 1)], [], [(5, some 8), (25, some 7)]] : List (List (Nat × Option Nat))).getD q' []⟩ rfl mixed (by kernel_rfl) rfl rfl ⟨?_, ?_, ?_, ?_, ?_, ?_, ?_, ?_, ?_, ?_, trivial⟩ rfl ?_
            · refine .inl ⟨rfl, fun s' jj bb (h1 : 0 ≤ jj) (h2 : jj ≤ 1) hs hl => ?_⟩
              rcases (by omega : jj = 0 ∨ jj = 1) with rfl | rfl <;> exact ⟨_, rfl, AOp.fieldPtr (k := 0) (d := 0) (e := 1) rfl rfl (hl 2 none _ (.head _) rfl) fo32_1⟩
            · refine .inl ⟨rfl, fun s' jj bb (h1 : 0 ≤ jj) (h2 : jj ≤ 1) hs hl => ?_⟩
              rcases (by omega : jj = 0 ∨ jj = 1) with rfl | rfl <;> exact ⟨_, rfl, AOp.loadPtr1 rfl rfl (hl 18 (some 0) _ (.head _) rfl) (by rw [hs]; rfl) sh9 rfl⟩
            · refine .inl ⟨rfl, fun s' jj bb (h1 : 0 ≤ jj) (h2 : jj ≤ 1) hs hl => ?_⟩
              rcases (by omega : jj = 0 ∨ jj = 1) with rfl | rfl <;> exact ⟨_, rfl, AOp.fieldPtr (k := 0) (d := 0) (e := 2) rfl rfl (hl 2 none _ (.head _) rfl) fo32_2⟩
            · refine .inl ⟨rfl, fun s' jj bb (h1 : 0 ≤ jj) (h2 : jj ≤ 1) hs hl => ?_⟩
              rcases (by omega : jj = 0 ∨ jj = 1) with rfl | rfl <;> exact ⟨_, rfl, AOp.loadPtr1 rfl rfl (hl 20 (some 2) _ (.head _) rfl) (by rw [hs]; rfl) sh30 rfl⟩
            · refine .inl ⟨rfl, fun s' jj bb (h1 : 0 ≤ jj) (h2 : jj ≤ 1) hs hl => ?_⟩
              rcases (by omega : jj = 0 ∨ jj = 1) with rfl | rfl <;> exact ⟨_, rfl, AOp.index (k := 0) rfl rfl (hl 21 (some 3) _ (.head _) rfl) rfl rfl (GType.trs_at hg7) el30⟩
            · refine .inl ⟨rfl, fun s' jj bb (h1 : 0 ≤ jj) (h2 : jj ≤ 1) hs hl => ?_⟩
              rcases (by omega : jj = 0 ∨ jj = 1) with rfl | rfl <;> exact ⟨_, rfl, AOp.loadEptr (ds := [.leaf (.int .i64 ((atD pt.gArgs 0).gKind)), .leaf (.string ((atD pt.gArgs 0).gName)), .row 3 (GType.trs ((atD pt.gArgs 0).gArgs))]) rfl rfl (hl 22 (some 4) _ (.head _) rfl) sh32 rfl rfl⟩
            · refine .inl ⟨rfl, fun s' jj bb (h1 : 0 ≤ jj) (h2 : jj ≤ 1) hs hl => ?_⟩
              rcases (by omega : jj = 0 ∨ jj = 1) with rfl | rfl <;> exact ⟨_, rfl, AOp.callF (ps := [_]) rfl rfl Try.func170 (by kernel_rfl) rfl (evs_cons (hl 23 (some 5) _ (.head _) rfl) rfl) (by (repeat' (first | exact PV.Le.refl _ | exact LeL.nil | exact PV.Le.nil _ | exact PV.Le.acc _ _ _ | apply LeL.cons | apply PV.Le.agg | apply PV.Le.tup))) rfl rfl (sl4Copy_fn (atD pt.gArgs 0) hg8)⟩
            · refine .inl ⟨rfl, fun s' jj bb (h1 : 0 ≤ jj) (h2 : jj ≤ 1) hs hl => ?_⟩
              rcases (by omega : jj = 0 ∨ jj = 1) with rfl | rfl <;> exact ⟨_, rfl, AOp.build rfl rfl zr34 pl34 (parts_cons (hl 19 (some 1) _ (.tail _ (.head _)) rfl) rfl rfl (parts_cons (hl 24 (some 6) _ (.head _) rfl) rfl rfl rfl)) rfl⟩
            · refine .inl ⟨rfl, fun s' bb hs hl => ?_⟩
              refine .inl ⟨_, rfl, AOp.congr (AOp.alloc rfl rfl zr34) ?_⟩
              first | (rw [hs]; rfl) | rfl
            · refine .inl ⟨rfl, fun s' bb hs hl => ?_⟩
              refine .inr ⟨rfl, AOp.congr (AOp.storePtr (cs := [.t (.leaf (.string (pt.gName))), .t (.leaf (.int .i64 ((atD pt.gArgs 0).gKind))), .t (.leaf (.string ((atD pt.gArgs 0).gName))), .t (.row 3 (GType.trs ((atD pt.gArgs 0).gArgs)))]) (ds := [.t (.leaf (.string (pt.gName))), .t (.leaf (.int .i64 ((atD pt.gArgs 0).gKind))), .t (.leaf (.string ((atD pt.gArgs 0).gName))), .t (.row 3 (GType.trs ((atD pt.gArgs 0).gArgs)))]) rfl (hl 5 (some 8) _ (.head _) rfl) (by rw [hs]; rfl) (hl 25 (some 7) _ (.tail _ (.head _)) rfl) rfl rfl rfl sz34 (Nat.le_of_ble_eq_true rfl) rfl) ?_⟩
              first | (rw [hs]; rfl) | rfl
            refine AWP.seq ?_
            refine AWP.region_lit ?_
            refine AL.cons rfl (AOp.move (.inr rfl) rfl rfl) ?_
            refine AL.nil ?_
            refine AWP.seq ?_
            refine AWP.seq ?_
            refine AWP.region_lit ?_
            refine AL.cons rfl (AOp.move (.inr rfl) rfl rfl) ?_
            refine AL.nil ?_
            refine AWP.cut (ι := Bool) (fun v10 => sl23Projs_R2 fu r_sl23Projs pt pout = some (.inr v10)) (fun v10 => ⟨[(1, .acc 4 (GBound.trs (pout)) 0), (2, .ptr 0 0), (4, .nil), (5, .ptr 1 0), (6, .t (.leaf (.bool (v10))))], ⟨[some ⟨32, [.t (.leaf (.int .i64 (pt.gKind))), .t (.leaf (.string (pt.gName))), .t (.row 3 (GType.trs (pt.gArgs)))]⟩, some ⟨34, [.t (.leaf (.string (pt.gName))), .t (.leaf (.int .i64 ((atD pt.gArgs 0).gKind))), .t (.leaf (.string ((atD pt.gArgs 0).gName))), .t (.row 3 (GType.trs ((atD pt.gArgs 0).gArgs)))]⟩], [⟨34, 4, GBound.trs (pout), false⟩]⟩⟩) (by repeat' (first | exact qcEnds | exact ncAWP | exact ncRound | exact ncEx | apply qcThen | apply qcBlock | apply qcCut)) ?_ ?_
            · skip
              refine AWP.block ?_
              refine AWP.loopR (ι := Nat × Bool) (fun (i9, v10) => sl23Projs_R2 fu r_sl23Projs pt pout = loopN (sl23Projs_F2 fu r_sl23Projs pt pout) (pout.length - i9) i9 v10) (fun (i9, v10) => ⟨[(1, .acc 4 (GBound.trs (pout)) 0), (2, .ptr 0 0), (4, .nil), (5, .ptr 1 0), (6, .t (.leaf (.bool (v10)))), (7, .t (.leaf (.int .i64 (((i9 : Nat) : Int)))))], ⟨[some ⟨32, [.t (.leaf (.int .i64 (pt.gKind))), .t (.leaf (.string (pt.gName))), .t (.row 3 (GType.trs (pt.gArgs)))]⟩, some ⟨34, [.t (.leaf (.string (pt.gName))), .t (.leaf (.int .i64 ((atD pt.gArgs 0).gKind))), .t (.leaf (.string ((atD pt.gArgs 0).gName))), .t (.row 3 (GType.trs ((atD pt.gArgs 0).gArgs)))]⟩], [⟨34, 4, GBound.trs (pout), false⟩]⟩⟩) (fun (i9, v10) => pout.length - i9) (0, false) ?_ ?_ ?_
              · exact rfl
              · skip
                exact Wk.mk (StLe.mk' ⟨⟨rfl, by (repeat' (first | exact PV.Le.refl _ | exact LeL.nil | exact PV.Le.nil _ | exact PV.Le.acc _ _ _ | apply LeL.cons | apply PV.Le.agg | apply PV.Le.tup)), rfl⟩, ⟨⟨rfl, by (repeat' (first | exact PV.Le.refl _ | exact LeL.nil | exact PV.Le.nil _ | exact PV.Le.acc _ _ _ | apply LeL.cons | apply PV.Le.agg | apply PV.Le.tup)), rfl⟩, trivial⟩⟩ (by first | rfl | simp)) (keeps_rowsN hC (Nat.le_of_ble_eq_true rfl)) ⟨⟨_, rfl, .refl _, rfl⟩, ⟨⟨_, rfl, .refl _, rfl⟩, ⟨⟨_, rfl, .refl _, rfl⟩, ⟨⟨_, rfl, .refl _, rfl⟩, ⟨⟨_, rfl, by (repeat' (first | exact PV.Le.refl _ | exact LeL.nil | exact PV.Le.nil _ | exact PV.Le.acc _ _ _ | apply LeL.cons | apply PV.Le.agg | apply PV.Le.tup)), rfl⟩, ⟨⟨_, rfl, by (repeat' (first | exact PV.Le.refl _ | exact LeL.nil | exact PV.Le.nil _ | exact PV.Le.acc _ _ _ | apply LeL.cons | apply PV.Le.agg | apply PV.Le.tup)), rfl⟩, trivial⟩⟩⟩⟩⟩⟩
              · rintro ⟨i9, v10⟩ hJ11
                refine AWP.seq ?_
                refine AWP.seq ?_
                refine AWP.region_lit ?_
                refine AL.cons rfl (AOp.move (.inl rfl) rfl rfl) ?_
                refine AL.cons rfl (AOp.move (.inl rfl) rfl rfl) ?_
                refine AL.cons rfl (AOp.lenN rfl rfl rfl rfl el86 (GBound.trs_len _)) ?_
                refine AL.cons rfl (AOp.lss rfl rfl rfl rfl) ?_
                refine AL.nil ?_
                refine AWP.cond rfl (fun h12 => ?_) (fun h12 => ?_)
                · skip
                  have h12l : i9 < pout.length := nat_lt_of2 h12
                  have h12n := nat_lt_of h12
                  refine AWP.skip ?_
                  refine AWP.seq ?_
                  refine AWP.block ?_
                  rcases bool2 (v10) with g13 | g13
                  · skip
                    refine AWP.drawnL ⟨_, _, fun _ _ => (⟨[some ⟨32, [.t (.leaf (.int .i64 (pt.gKind))), .t (.leaf (.string (pt.gName))), .t (.row 3 (GType.trs (pt.gArgs)))]⟩, some ⟨34, [.t (.leaf (.string (pt.gName))), .t (.leaf (.int .i64 ((atD pt.gArgs 0).gKind))), .t (.leaf (.string ((atD pt.gArgs 0).gName))), .t (.row 3 (GType.trs ((atD pt.gArgs 0).gArgs)))]⟩], [⟨34, 4, GBound.trs (pout), false⟩]⟩ : Sto), fun q' => ([some (.t (.leaf (.bool (v10)))), some (.t (.leaf (.bool (v10)))), none, none, none, none, none, none, some (.t (.leaf (.bool (true)))), some (.t (.leaf (.bool (true))))] : List (Option PV)).getD q' none, fun q' => ([.q 0 0, .q 0 0, .q 0 0, .q 0 0, .q 0 0, .q 0 0, .q 0 0, .q 0 0, .q 0 0, .q 0 0] : List DK).getD q' (.q 0 0), [], none, fun q' => ([[(6, none)], [(32, some 0)], [], [], [], [], [], [], [(33, some 1)], [(40, some 8)]] : List (List (Nat × Option Nat))).getD q' []⟩ rfl mixed (by kernel_rfl) rfl rfl ⟨?_, ?_, ?_, ?_, ?_, ?_, ?_, ?_, ?_, ?_, trivial⟩ rfl ?_
                    · refine .inl ⟨rfl, fun s' jj bb (h1 : 0 ≤ jj) (h2 : jj ≤ 0) hs hl => ?_⟩
                      obtain rfl : jj = 0 := by omega
                      exact ⟨_, rfl, AOp.move (.inl rfl) rfl (hl 6 none _ (.head _) rfl)⟩
                    · refine .inl ⟨rfl, fun s' jj bb (h1 : 0 ≤ jj) (h2 : jj ≤ 0) hs hl => ?_⟩
                      obtain rfl : jj = 0 := by omega
                      exact ⟨_, rfl, AOp.move (.inl rfl) rfl (hl 32 (some 0) _ (.head _) rfl)⟩
                    · exact .inr ⟨(congrArg (fun b => some (b == false)) g13), rfl, ⟨_, _, rfl⟩, fun d hd => by cases hd; rfl⟩
                    · exact .inr ⟨(congrArg (fun b => some (b == false)) g13), rfl, ⟨_, _, rfl⟩, fun d hd => by cases hd; rfl⟩
                    · exact .inr ⟨(congrArg (fun b => some (b == false)) g13), rfl, ⟨_, _, rfl⟩, fun d hd => by cases hd; rfl⟩
                    · exact .inr ⟨(congrArg (fun b => some (b == false)) g13), rfl, ⟨_, _, rfl⟩, fun d hd => by cases hd; rfl⟩
                    · exact .inr ⟨(congrArg (fun b => some (b == false)) g13), rfl, ⟨_, _, rfl⟩, fun d hd => by cases hd; rfl⟩
                    · exact .inr ⟨(congrArg (fun b => some (b == false)) g13), rfl, ⟨_, _, rfl⟩, fun d hd => by cases hd; rfl⟩
                    · refine .inl ⟨rfl, fun s' jj bb (h1 : 0 ≤ jj) (h2 : jj ≤ 0) hs hl => ?_⟩
                      obtain rfl : jj = 0 := by omega
                      exact ⟨_, rfl, AOp.pickT rfl rfl (hl 33 (some 1) _ (.head _) rfl) g13 rfl⟩
                    · refine .inl ⟨rfl, fun s' jj bb (h1 : 0 ≤ jj) (h2 : jj ≤ 0) hs hl => ?_⟩
                      obtain rfl : jj = 0 := by omega
                      exact ⟨_, rfl, AOp.move (.inr rfl) rfl (hl 40 (some 8) _ (.head _) rfl)⟩
                    refine AWP.region_lit ?_
                    refine AL.cons rfl (AOp.move (.inl rfl) rfl rfl) ?_
                    refine AL.cons rfl (AOp.addI rfl rfl rfl rfl (c := ((i9 + 1 : Nat) : Int)) (by omega) (by omega)) ?_
                    refine AL.cons rfl (AOp.move (.inr rfl) rfl rfl) ?_
                    refine AL.nil ?_
                    have e14 : (sl23Projs_F2 fu r_sl23Projs pt pout) i9 v10 = some (.next true) := swT g13 (rfl)
                    refine ⟨(i9 + 1, true), loopN_next h12l hJ11 e14, ?_, ?_⟩
                    · skip
                      exact Wk.mk (StLe.mk' ⟨⟨rfl, by (repeat' (first | exact PV.Le.refl _ | exact LeL.nil | exact PV.Le.nil _ | exact PV.Le.acc _ _ _ | apply LeL.cons | apply PV.Le.agg | apply PV.Le.tup)), rfl⟩, ⟨⟨rfl, by (repeat' (first | exact PV.Le.refl _ | exact LeL.nil | exact PV.Le.nil _ | exact PV.Le.acc _ _ _ | apply LeL.cons | apply PV.Le.agg | apply PV.Le.tup)), rfl⟩, trivial⟩⟩ (by first | rfl | simp)) (keeps_rowsN hC (Nat.le_of_ble_eq_true rfl)) ⟨⟨_, rfl, .refl _, rfl⟩, ⟨⟨_, rfl, .refl _, rfl⟩, ⟨⟨_, rfl, .refl _, rfl⟩, ⟨⟨_, rfl, .refl _, rfl⟩, ⟨⟨_, rfl, by (repeat' (first | exact PV.Le.refl _ | exact LeL.nil | exact PV.Le.nil _ | exact PV.Le.acc _ _ _ | apply LeL.cons | apply PV.Le.agg | apply PV.Le.tup)), rfl⟩, ⟨⟨_, rfl, by (repeat' (first | exact PV.Le.refl _ | exact LeL.nil | exact PV.Le.nil _ | exact PV.Le.acc _ _ _ | apply LeL.cons | apply PV.Le.agg | apply PV.Le.tup)), rfl⟩, trivial⟩⟩⟩⟩⟩⟩
                    · dsimp only; omega
                  · skip
                    refine AWP.drawnL ⟨_, _, fun _ _ => (⟨[some ⟨32, [.t (.leaf (.int .i64 (pt.gKind))), .t (.leaf (.string (pt.gName))), .t (.row 3 (GType.trs (pt.gArgs)))]⟩, some ⟨34, [.t (.leaf (.string (pt.gName))), .t (.leaf (.int .i64 ((atD pt.gArgs 0).gKind))), .t (.leaf (.string ((atD pt.gArgs 0).gName))), .t (.row 3 (GType.trs ((atD pt.gArgs 0).gArgs)))]⟩], [⟨34, 4, GBound.trs (pout), false⟩]⟩ : Sto), fun q' => ([some (.t (.leaf (.bool (v10)))), some (.t (.leaf (.bool (v10)))), some (.acc 4 (GBound.trs (pout)) 0), some (.t (.leaf (.int .i64 (((i9 : Nat) : Int))))), some (.eptr (GBound.cs (atD pout i9))), some ((GBound.pv (atD pout i9))), some (.agg [.t (.leaf (.string (pt.gName))), .t (.leaf (.int .i64 ((atD pt.gArgs 0).gKind))), .t (.leaf (.string ((atD pt.gArgs 0).gName))), .t (.row 3 (GType.trs ((atD pt.gArgs 0).gArgs)))]), some (.t (.leaf (.bool (GBound.eq (atD pout i9) (GBound.mk pt.gName (atD pt.gArgs 0)))))), some (.t (.leaf (.bool (GBound.eq (atD pout i9) (GBound.mk pt.gName (atD pt.gArgs 0)))))), some (.t (.leaf (.bool (GBound.eq (atD pout i9) (GBound.mk pt.gName (atD pt.gArgs 0))))))] : List (Option PV)).getD q' none, fun q' => ([.q 0 0, .q 0 0, .q 0 0, .q 0 0, .q 0 0, .q 0 0, .q 0 0, .q 0 0, .q 0 0, .q 0 0] : List DK).getD q' (.q 0 0), [], none, fun q' => ([[(6, none)], [(32, some 0)], [(1, none)], [(7, none)], [(34, some 2), (35, some 3)], [(36, some 4)], [(5, none)], [(38, some 6), (37, some 5)], [(33, some 1), (39, some 7)], [(40, some 8)]] : List (List (Nat × Option Nat))).getD q' []⟩ rfl mixed (by kernel_rfl) rfl rfl ⟨?_, ?_, ?_, ?_, ?_, ?_, ?_, ?_, ?_, ?_, trivial⟩ rfl ?_
                    · refine .inl ⟨rfl, fun s' jj bb (h1 : 0 ≤ jj) (h2 : jj ≤ 0) hs hl => ?_⟩
                      obtain rfl : jj = 0 := by omega
                      exact ⟨_, rfl, AOp.move (.inl rfl) rfl (hl 6 none _ (.head _) rfl)⟩
                    · refine .inl ⟨rfl, fun s' jj bb (h1 : 0 ≤ jj) (h2 : jj ≤ 0) hs hl => ?_⟩
                      obtain rfl : jj = 0 := by omega
                      exact ⟨_, rfl, AOp.move (.inl rfl) rfl (hl 32 (some 0) _ (.head _) rfl)⟩
                    · refine .inl ⟨(congrArg (fun b => some (b == false)) g13), fun s' jj bb (h1 : 0 ≤ jj) (h2 : jj ≤ 0) hs hl => ?_⟩
                      obtain rfl : jj = 0 := by omega
                      exact ⟨_, rfl, AOp.move (.inl rfl) rfl (hl 1 none _ (.head _) rfl)⟩
                    · refine .inl ⟨(congrArg (fun b => some (b == false)) g13), fun s' jj bb (h1 : 0 ≤ jj) (h2 : jj ≤ 0) hs hl => ?_⟩
                      obtain rfl : jj = 0 := by omega
                      exact ⟨_, rfl, AOp.move (.inl rfl) rfl (hl 7 none _ (.head _) rfl)⟩
                    · refine .inl ⟨(congrArg (fun b => some (b == false)) g13), fun s' jj bb (h1 : 0 ≤ jj) (h2 : jj ≤ 0) hs hl => ?_⟩
                      obtain rfl : jj = 0 := by omega
                      exact ⟨_, rfl, AOp.index (k := i9) rfl rfl (hl 34 (some 2) _ (.head _) rfl) rfl (hl 35 (some 3) _ (.tail _ (.head _)) rfl) (GBound.trs_at h12n) el86⟩
                    · refine .inl ⟨(congrArg (fun b => some (b == false)) g13), fun s' jj bb (h1 : 0 ≤ jj) (h2 : jj ≤ 0) hs hl => ?_⟩
                      obtain rfl : jj = 0 := by omega
                      exact ⟨_, rfl, AOp.loadEptr (ds := [.leaf (.string ((atD pout i9).gTrait)), .leaf (.int .i64 ((atD pout i9).gType.gKind)), .leaf (.string ((atD pout i9).gType.gName)), .row 3 (GType.trs ((atD pout i9).gType.gArgs))]) rfl rfl (hl 36 (some 4) _ (.head _) rfl) sh34 rfl rfl⟩
                    · refine .inl ⟨(congrArg (fun b => some (b == false)) g13), fun s' jj bb (h1 : 0 ≤ jj) (h2 : jj ≤ 0) hs hl => ?_⟩
                      obtain rfl : jj = 0 := by omega
                      exact ⟨_, rfl, AOp.loadPtr (cs := [.t (.leaf (.string (pt.gName))), .t (.leaf (.int .i64 ((atD pt.gArgs 0).gKind))), .t (.leaf (.string ((atD pt.gArgs 0).gName))), .t (.row 3 (GType.trs ((atD pt.gArgs 0).gArgs)))]) rfl rfl (hl 5 none _ (.head _) rfl) (by rw [hs]; rfl) sh34 rfl rfl⟩
                    · refine .inl ⟨(congrArg (fun b => some (b == false)) g13), fun s' jj bb (h1 : 0 ≤ jj) (h2 : jj ≤ 0) hs hl => ?_⟩
                      obtain rfl : jj = 0 := by omega
                      exact ⟨_, rfl, AOp.callF (ps := [_, _]) rfl rfl Try.func110 (by kernel_rfl) rfl (evs_cons (hl 37 (some 5) _ (.tail _ (.head _)) rfl) (evs_cons (hl 38 (some 6) _ (.head _) rfl) rfl)) (by (repeat' (first | exact PV.Le.refl _ | exact LeL.nil | exact PV.Le.nil _ | exact PV.Le.acc _ _ _ | apply LeL.cons | apply PV.Le.agg | apply PV.Le.tup))) rfl rfl (sEqualGoal_fn (atD pout i9) (GBound.mk pt.gName (atD pt.gArgs 0)))⟩
                    · refine .inl ⟨rfl, fun s' jj bb (h1 : 0 ≤ jj) (h2 : jj ≤ 0) hs hl => ?_⟩
                      obtain rfl : jj = 0 := by omega
                      exact ⟨_, rfl, AOp.pickF rfl rfl (hl 33 (some 1) _ (.head _) rfl) g13 (hl 39 (some 7) _ (.tail _ (.head _)) rfl)⟩
                    · refine .inl ⟨rfl, fun s' jj bb (h1 : 0 ≤ jj) (h2 : jj ≤ 0) hs hl => ?_⟩
                      obtain rfl : jj = 0 := by omega
                      exact ⟨_, rfl, AOp.move (.inr rfl) rfl (hl 40 (some 8) _ (.head _) rfl)⟩
                    refine AWP.region_lit ?_
                    refine AL.cons rfl (AOp.move (.inl rfl) rfl rfl) ?_
                    refine AL.cons rfl (AOp.addI rfl rfl rfl rfl (c := ((i9 + 1 : Nat) : Int)) (by omega) (by omega)) ?_
                    refine AL.cons rfl (AOp.move (.inr rfl) rfl rfl) ?_
                    refine AL.nil ?_
                    have e15 : (sl23Projs_F2 fu r_sl23Projs pt pout) i9 v10 = some (.next (GBound.eq (atD pout i9) (GBound.mk pt.gName (atD pt.gArgs 0)))) := swF g13 (rfl)
                    refine ⟨(i9 + 1, (GBound.eq (atD pout i9) (GBound.mk pt.gName (atD pt.gArgs 0)))), loopN_next h12l hJ11 e15, ?_, ?_⟩
                    · skip
                      exact Wk.mk (StLe.mk' ⟨⟨rfl, by (repeat' (first | exact PV.Le.refl _ | exact LeL.nil | exact PV.Le.nil _ | exact PV.Le.acc _ _ _ | apply LeL.cons | apply PV.Le.agg | apply PV.Le.tup)), rfl⟩, ⟨⟨rfl, by (repeat' (first | exact PV.Le.refl _ | exact LeL.nil | exact PV.Le.nil _ | exact PV.Le.acc _ _ _ | apply LeL.cons | apply PV.Le.agg | apply PV.Le.tup)), rfl⟩, trivial⟩⟩ (by first | rfl | simp)) (keeps_rowsN hC (Nat.le_of_ble_eq_true rfl)) ⟨⟨_, rfl, .refl _, rfl⟩, ⟨⟨_, rfl, .refl _, rfl⟩, ⟨⟨_, rfl, .refl _, rfl⟩, ⟨⟨_, rfl, .refl _, rfl⟩, ⟨⟨_, rfl, by (repeat' (first | exact PV.Le.refl _ | exact LeL.nil | exact PV.Le.nil _ | exact PV.Le.acc _ _ _ | apply LeL.cons | apply PV.Le.agg | apply PV.Le.tup)), rfl⟩, ⟨⟨_, rfl, by (repeat' (first | exact PV.Le.refl _ | exact LeL.nil | exact PV.Le.nil _ | exact PV.Le.acc _ _ _ | apply LeL.cons | apply PV.Le.agg | apply PV.Le.tup)), rfl⟩, trivial⟩⟩⟩⟩⟩⟩
                    · dsimp only; omega
                · skip
                  have h12l : pout.length ≤ i9 := nat_ge_of2 h12
                  refine AWP.exit ?_
                  refine ⟨v10, loopN_end h12l hJ11, ?_⟩
                  exact Wk.mk (StLe.mk' ⟨⟨rfl, by (repeat' (first | exact PV.Le.refl _ | exact LeL.nil | exact PV.Le.nil _ | exact PV.Le.acc _ _ _ | apply LeL.cons | apply PV.Le.agg | apply PV.Le.tup)), rfl⟩, ⟨⟨rfl, by (repeat' (first | exact PV.Le.refl _ | exact LeL.nil | exact PV.Le.nil _ | exact PV.Le.acc _ _ _ | apply LeL.cons | apply PV.Le.agg | apply PV.Le.tup)), rfl⟩, trivial⟩⟩ (by first | rfl | simp)) (keeps_rowsN hC (Nat.le_of_ble_eq_true rfl)) ⟨⟨_, rfl, .refl _, rfl⟩, ⟨⟨_, rfl, .refl _, rfl⟩, ⟨⟨_, rfl, .refl _, rfl⟩, ⟨⟨_, rfl, .refl _, rfl⟩, ⟨⟨_, rfl, .refl _, rfl⟩, trivial⟩⟩⟩⟩⟩
            · rintro v10 hR16
              refine AWP.seq ?_
              refine AWP.region_lit ?_
              refine AL.cons rfl (AOp.move (.inl rfl) rfl rfl) ?_
              refine AL.cons rfl (AOp.notB rfl rfl rfl) ?_
              refine AL.nil ?_
              refine AWP.cond rfl (fun h17 => ?_) (fun h17 => ?_)
              · skip
                refine AWP.region_lit ?_
                refine AL.cons rfl (AOp.move (.inl rfl) rfl rfl) ?_
                refine AL.cons rfl (AOp.loadPtr (cs := [.t (.leaf (.string (pt.gName))), .t (.leaf (.int .i64 ((atD pt.gArgs 0).gKind))), .t (.leaf (.string ((atD pt.gArgs 0).gName))), .t (.row 3 (GType.trs ((atD pt.gArgs 0).gArgs)))]) rfl rfl rfl rfl sh34 rfl rfl) ?_
                refine AL.cons rfl (AOp.buildSliceE (es := [GBound.cs (GBound.mk pt.gName (atD pt.gArgs 0))]) (es' := GBound.trs (([(GBound.mk pt.gName (atD pt.gArgs 0))] : List GBound))) (cs := [.t (.leaf (.string (pt.gName))), .t (.leaf (.int .i64 ((atD pt.gArgs 0).gKind))), .t (.leaf (.string ((atD pt.gArgs 0).gName))), .t (.row 3 (GType.trs ((atD pt.gArgs 0).gArgs)))]) rfl rfl el86 zr34 rfl rfl (by (repeat' (first | exact PV.Le.refl _ | exact LeL.nil | exact PV.Le.nil _ | exact PV.Le.acc _ _ _ | apply LeL.cons | apply PV.Le.agg | apply PV.Le.tup))) rfl (by simp [GBound.cs]) (by decide) rfl (by decide) (by simp [GBound.trs_map, GBound.tr_cs])) ?_
                rcases Classical.em ((pout).length + (([(GBound.mk pt.gName (atD pt.gArgs 0))] : List GBound)).length ≤ 68719476736) with hg18 | hg18
                · skip
                  refine AL.cons rfl (AOp.appendE (es3 := GBound.trs (pout ++ ([(GBound.mk pt.gName (atD pt.gArgs 0))] : List GBound))) rfl rfl rfl rfl rfl rfl rfl rfl rfl (fun e he => by rw [GBound.trs_map] at he; obtain ⟨x, _, rfl⟩ := List.mem_map.1 he; rw [GBound.tr_cs]; rfl) el86 ze86 (by decide) (by rw [GBound.trs_len, GBound.trs_len]; exact room_le hg18 (by decide)) (by rw [GBound.trs_map, GBound.trs_map, GBound.trs_map, List.map_append])) ?_
                  refine AL.cons rfl (AOp.move (.inr rfl) rfl rfl) ?_
                  refine AL.nil ?_
                  have e19 : sl23Projs_C1 fu r_sl23Projs pt pout = some (.inr (pout ++ ([(GBound.mk pt.gName (atD pt.gArgs 0))] : List GBound))) := swT g4 (swT h6 (gdT hg7 (gdT hg8 (soR hR16 (swT h17 (gdT hg18 (rfl)))))))
                  refine ⟨(pout ++ ([(GBound.mk pt.gName (atD pt.gArgs 0))] : List GBound)), e19, ?_⟩
                  exact Wk.mk (StLe.mk' ⟨⟨rfl, by (repeat' (first | exact PV.Le.refl _ | exact LeL.nil | exact PV.Le.nil _ | exact PV.Le.acc _ _ _ | apply LeL.cons | apply PV.Le.agg | apply PV.Le.tup)), rfl⟩, trivial⟩ (by first | rfl | simp)) (keeps_rowsN hC (Nat.le_of_ble_eq_true rfl)) ⟨⟨_, rfl, by (repeat' (first | exact PV.Le.refl _ | exact LeL.nil | exact PV.Le.nil _ | exact PV.Le.acc _ _ _ | apply LeL.cons | apply PV.Le.agg | apply PV.Le.tup)), rfl⟩, ⟨⟨_, rfl, .refl _, rfl⟩, ⟨⟨_, rfl, .refl _, rfl⟩, trivial⟩⟩⟩
                · skip
                  have e20 : sl23Projs_C1 fu r_sl23Projs pt pout = none := swT g4 (swT h6 (gdT hg7 (gdT hg8 (soR hR16 (swT h17 (gdF hg18))))))
                  have e21 : sl23Projs_G fu r_sl23Projs pt pout = none := soN e20
                  exact none_some H e21
              · skip
                refine AWP.skip ?_
                have e22 : sl23Projs_C1 fu r_sl23Projs pt pout = some (.inr pout) := swT g4 (swT h6 (gdT hg7 (gdT hg8 (soR hR16 (swF h17 (rfl))))))
                refine ⟨pout, e22, ?_⟩
                exact Wk.mk (StLe.mk' ⟨⟨rfl, by (repeat' (first | exact PV.Le.refl _ | exact LeL.nil | exact PV.Le.nil _ | exact PV.Le.acc _ _ _ | apply LeL.cons | apply PV.Le.agg | apply PV.Le.tup)), rfl⟩, trivial⟩ (by first | rfl | simp)) (keeps_rowsN hC (Nat.le_of_ble_eq_true rfl)) ⟨⟨_, rfl, by (repeat' (first | exact PV.Le.refl _ | exact LeL.nil | exact PV.Le.nil _ | exact PV.Le.acc _ _ _ | apply LeL.cons | apply PV.Le.agg | apply PV.Le.tup)), rfl⟩, ⟨⟨_, rfl, .refl _, rfl⟩, ⟨⟨_, rfl, .refl _, rfl⟩, trivial⟩⟩⟩
          · skip
            have e23 : sl23Projs_C1 fu r_sl23Projs pt pout = none := swT g4 (swT h6 (gdT hg7 (gdF hg8)))
            have e24 : sl23Projs_G fu r_sl23Projs pt pout = none := soN e23
            exact none_some H e24
        · skip
          have e25 : sl23Projs_C1 fu r_sl23Projs pt pout = none := swT g4 (swT h6 (gdF hg7))
          have e26 : sl23Projs_G fu r_sl23Projs pt pout = none := soN e25
          exact none_some H e26
      · skip
        refine AWP.skip ?_
        have e27 : sl23Projs_C1 fu r_sl23Projs pt pout = some (.inr pout) := swT g4 (swF h6 (rfl))
        refine ⟨pout, e27, ?_⟩
        exact Wk.mk (StLe.mk' ⟨⟨rfl, by (repeat' (first | exact PV.Le.refl _ | exact LeL.nil | exact PV.Le.nil _ | exact PV.Le.acc _ _ _ | apply LeL.cons | apply PV.Le.agg | apply PV.Le.tup)), rfl⟩, trivial⟩ (by first | rfl | simp)) (keeps_rowsN hC (Nat.le_of_ble_eq_true rfl)) ⟨⟨_, rfl, by (repeat' (first | exact PV.Le.refl _ | exact LeL.nil | exact PV.Le.nil _ | exact PV.Le.acc _ _ _ | apply LeL.cons | apply PV.Le.agg | apply PV.Le.tup)), rfl⟩, ⟨⟨_, rfl, .refl _, rfl⟩, ⟨⟨_, rfl, .refl _, rfl⟩, trivial⟩⟩⟩
    · skip
      refine AL.skip_v rfl rfl rfl g4 rfl ?_
      refine AL.skip_v rfl rfl rfl g4 rfl ?_
      refine AL.skip_v rfl rfl rfl g4 rfl ?_
      refine AL.skip_v rfl rfl rfl g4 rfl ?_
      refine AL.cons rfl (AOp.pickF rfl rfl rfl g4 rfl) ?_
      refine AL.nil ?_
      refine AWP.cond rfl (fun h28 => ?_) (fun h28 => ?_)
      · skip
        exact absurd (h28.symm.trans rfl) (by decide)
      · skip
        refine AWP.skip ?_
        have e29 : sl23Projs_C1 fu r_sl23Projs pt pout = some (.inr pout) := swF g4 (rfl)
        refine ⟨pout, e29, ?_⟩
        exact Wk.mk (StLe.mk' ⟨⟨rfl, by (repeat' (first | exact PV.Le.refl _ | exact LeL.nil | exact PV.Le.nil _ | exact PV.Le.acc _ _ _ | apply LeL.cons | apply PV.Le.agg | apply PV.Le.tup)), rfl⟩, trivial⟩ (by first | rfl | simp)) (keeps_rowsN hC (Nat.le_of_ble_eq_true rfl)) ⟨⟨_, rfl, by (repeat' (first | exact PV.Le.refl _ | exact LeL.nil | exact PV.Le.nil _ | exact PV.Le.acc _ _ _ | apply LeL.cons | apply PV.Le.agg | apply PV.Le.tup)), rfl⟩, ⟨⟨_, rfl, .refl _, rfl⟩, ⟨⟨_, rfl, .refl _, rfl⟩, trivial⟩⟩⟩
  · rintro v3 hR30
    refine AWP.seq ?_
    refine AWP.seq ?_
    refine AWP.region_lit ?_
    refine AL.cons rfl (AOp.move (.inr rfl) rfl rfl) ?_
    refine AL.nil ?_
    refine AWP.fact (lk_lenN 1 rfl rfl (GBound.trs_len _)) (fun hl34 => ?_)
    refine AWP.cut (ι := (List GBound)) (fun v33 => sl23Projs_R3 fu r_sl23Projs pt pout v3 = some (.inr v33)) (fun v33 => ⟨[(1, .acc 4 (GBound.trs (v33)) 0), (4, .nil)], ⟨[some ⟨32, [.t (.leaf (.int .i64 (pt.gKind))), .t (.leaf (.string (pt.gName))), .t (.row 3 (GType.trs (pt.gArgs)))]⟩], [⟨34, 4, GBound.trs (v33), false⟩]⟩⟩) (by repeat' (first | exact qcEnds | exact ncAWP | exact ncRound | exact ncEx | apply qcThen | apply qcBlock | apply qcCut)) ?_ ?_
    · skip
      refine AWP.block ?_
      refine AWP.loopR (ι := Nat × ((List GBound))) (fun (i31, v33) => sl23Projs_R3 fu r_sl23Projs pt pout v3 = loopN (sl23Projs_F3 fu r_sl23Projs pt pout v3) (pt.gArgs.length - i31) i31 v33) (fun (i31, v33) => ⟨[(1, .acc 4 (GBound.trs (v33)) 0), (2, .ptr 0 0), (4, .nil), (8, .t (.leaf (.int .i64 (((i31 : Nat) : Int)))))], ⟨[some ⟨32, [.t (.leaf (.int .i64 (pt.gKind))), .t (.leaf (.string (pt.gName))), .t (.row 3 (GType.trs (pt.gArgs)))]⟩], [⟨34, 4, GBound.trs (v33), false⟩]⟩⟩) (fun (i31, v33) => pt.gArgs.length - i31) (0, v3) ?_ ?_ ?_
      · exact rfl
      · skip
        exact Wk.mk (StLe.mk' ⟨⟨rfl, by (repeat' (first | exact PV.Le.refl _ | exact LeL.nil | exact PV.Le.nil _ | exact PV.Le.acc _ _ _ | apply LeL.cons | apply PV.Le.agg | apply PV.Le.tup)), rfl⟩, trivial⟩ (by first | rfl | simp)) (keeps_rowsN hC (Nat.le_of_ble_eq_true rfl)) ⟨⟨_, rfl, by (repeat' (first | exact PV.Le.refl _ | exact LeL.nil | exact PV.Le.nil _ | exact PV.Le.acc _ _ _ | apply LeL.cons | apply PV.Le.agg | apply PV.Le.tup)), rfl⟩, ⟨⟨_, rfl, .refl _, rfl⟩, ⟨⟨_, rfl, .refl _, rfl⟩, ⟨⟨_, rfl, by (repeat' (first | exact PV.Le.refl _ | exact LeL.nil | exact PV.Le.nil _ | exact PV.Le.acc _ _ _ | apply LeL.cons | apply PV.Le.agg | apply PV.Le.tup)), rfl⟩, trivial⟩⟩⟩⟩
      · rintro ⟨i31, v33⟩ hJ35
        refine AWP.seq ?_
        refine AWP.seq ?_
        refine AWP.region_lit ?_
        refine AL.cons rfl (AOp.move (.inl rfl) rfl rfl) ?_
        refine AL.cons rfl (AOp.fieldPtr (k := 0) (d := 0) (e := 2) rfl rfl rfl fo32_2) ?_
        refine AL.cons rfl (AOp.loadPtr1 rfl rfl rfl rfl sh30 rfl) ?_
        refine AL.fact (lk_lenN 49 rfl rfl (GType.trs_len _)) (fun hl36 => ?_)
        refine AL.cons rfl (AOp.lenN rfl rfl rfl rfl el30 (GType.trs_len _)) ?_
        refine AL.cons rfl (AOp.lss rfl rfl rfl rfl) ?_
        refine AL.nil ?_
        refine AWP.cond rfl (fun h37 => ?_) (fun h37 => ?_)
        · skip
          have h37l : i31 < pt.gArgs.length := nat_lt_of2 h37
          have h37n := nat_lt_of h37
          refine AWP.skip ?_
          refine AWP.seq ?_
          refine AWP.block ?_
          refine AWP.region_lit ?_
          refine AL.cons rfl (AOp.fieldPtr (k := 0) (d := 0) (e := 2) rfl rfl rfl fo32_2) ?_
          refine AL.cons rfl (AOp.loadPtr1 rfl rfl rfl rfl sh30 rfl) ?_
          refine AL.cons rfl (AOp.move (.inl rfl) rfl rfl) ?_
          refine AL.cons rfl (AOp.index (k := i31) rfl rfl rfl rfl rfl (GType.trs_at h37n) el30) ?_
          refine AL.cons rfl (AOp.loadEptr (ds := [.leaf (.int .i64 ((atD pt.gArgs i31).gKind)), .leaf (.string ((atD pt.gArgs i31).gName)), .row 3 (GType.trs ((atD pt.gArgs i31).gArgs))]) rfl rfl rfl sh32 rfl rfl) ?_
          refine AL.cons rfl (AOp.move (.inl rfl) rfl rfl) ?_
          rcases hq38 : r_sl23Projs (atD pt.gArgs i31) v33 with _ | x39
          · skip
            have e40 : (sl23Projs_F3 fu r_sl23Projs pt pout v3) i31 v33 = none := bdN hq38
            have e41 : sl23Projs_R3 fu r_sl23Projs pt pout v3 = none := loopN_non h37l hJ35 e40
            have e42 : sl23Projs_G fu r_sl23Projs pt pout = none := soR hR30 (soN e41)
            exact none_some H e42
          · skip
            refine AL.cons rfl (AOp.callPE (pre := ⟨[], [⟨34, 4, GBound.trs (v33), false⟩]⟩) (st' := ⟨[], [⟨34, 4, GBound.trs (x39), false⟩]⟩) (ps := [_, _]) (qs := [(GType.pv (atD pt.gArgs i31)), .acc 4 (GBound.trs (v33)) 0]) [] [0] rfl rfl Try.func115 (by kernel_rfl) rfl rfl rfl (by (try rw [hs]); exact ⟨rfl, rfl, by decide, by decide, fun k h => absurd h (Nat.not_lt_zero _), fun k x h => by simp at h, fun r row h => by rcases r with _ | r <;> simp at h; subst h; rfl⟩) (by (repeat' (first | exact PV.Le.refl _ | exact LeL.nil | exact PV.Le.nil _ | exact PV.Le.acc _ _ _ | apply LeL.cons | apply PV.Le.agg | apply PV.Le.tup))) rfl rfl rfl (h_sl23Projs (atD pt.gArgs i31) v33 _ hq38)) ?_
            refine AL.cons rfl (AOp.move (.inr rfl) rfl rfl) ?_
            refine AL.nil ?_
            refine AWP.region_lit ?_
            refine AL.cons rfl (AOp.move (.inl rfl) rfl rfl) ?_
            refine AL.cons rfl (AOp.addI rfl rfl rfl rfl (c := ((i31 + 1 : Nat) : Int)) (by omega) (by omega)) ?_
            refine AL.cons rfl (AOp.move (.inr rfl) rfl rfl) ?_
            refine AL.nil ?_
            have e43 : (sl23Projs_F3 fu r_sl23Projs pt pout v3) i31 v33 = some (.next x39) := bdS hq38 (rfl)
            refine ⟨(i31 + 1, x39), loopN_next h37l hJ35 e43, ?_, ?_⟩
            · skip
              exact Wk.mk (StLe.mk' ⟨⟨rfl, by (repeat' (first | exact PV.Le.refl _ | exact LeL.nil | exact PV.Le.nil _ | exact PV.Le.acc _ _ _ | apply LeL.cons | apply PV.Le.agg | apply PV.Le.tup)), rfl⟩, trivial⟩ (by first | rfl | simp)) (keeps_rowsN hC (Nat.le_of_ble_eq_true rfl)) ⟨⟨_, rfl, by (repeat' (first | exact PV.Le.refl _ | exact LeL.nil | exact PV.Le.nil _ | exact PV.Le.acc _ _ _ | apply LeL.cons | apply PV.Le.agg | apply PV.Le.tup)), rfl⟩, ⟨⟨_, rfl, .refl _, rfl⟩, ⟨⟨_, rfl, .refl _, rfl⟩, ⟨⟨_, rfl, by (repeat' (first | exact PV.Le.refl _ | exact LeL.nil | exact PV.Le.nil _ | exact PV.Le.acc _ _ _ | apply LeL.cons | apply PV.Le.agg | apply PV.Le.tup)), rfl⟩, trivial⟩⟩⟩⟩
            · dsimp only; omega
        · skip
          have h37l : pt.gArgs.length ≤ i31 := nat_ge_of2 h37
          refine AWP.exit ?_
          refine ⟨v33, loopN_end h37l hJ35, ?_⟩
          exact Wk.mk (StLe.mk' ⟨⟨rfl, by (repeat' (first | exact PV.Le.refl _ | exact LeL.nil | exact PV.Le.nil _ | exact PV.Le.acc _ _ _ | apply LeL.cons | apply PV.Le.agg | apply PV.Le.tup)), rfl⟩, trivial⟩ (by first | rfl | simp)) (keeps_rowsN hC (Nat.le_of_ble_eq_true rfl)) ⟨⟨_, rfl, .refl _, rfl⟩, ⟨⟨_, rfl, .refl _, rfl⟩, trivial⟩⟩
    · rintro v33 hR44
      refine AWP.seq ?_
      refine AWP.region_lit ?_
      refine AL.cons rfl (AOp.move (.inl rfl) rfl rfl) ?_
      refine AL.cons rfl (AOp.move (.inr rfl) rfl rfl) ?_
      refine AL.nil ?_
      refine AWP.ret ?_
      have e45 : sl23Projs_G fu r_sl23Projs pt pout = some v33 := soR hR30 (soR hR44 (rfl))
      have hz : v33 = r := Option.some.inj (e45.symm.trans H)
      subst hz
      exact Ends.mk (ps := [_]) (.inr rfl) ⟨rfl, trivial⟩ rfl (StLe.mk' (st' := ⟨[], [⟨34, 4, GBound.trs (v33), false⟩]⟩) trivial (by first | rfl | simp)) (keeps_rowsN hC (Nat.le_of_ble_eq_true rfl)) (q := (.acc 4 (GBound.trs (v33)) 0 : PV)) (by (repeat' (first | exact PV.Le.refl _ | exact LeL.nil | exact PV.Le.nil _ | exact PV.Le.acc _ _ _ | apply LeL.cons | apply PV.Le.agg | apply PV.Le.tup))) rfl ⟨rfl, rfl⟩
noncomputable def sl23Projs_M : Nat → GType → (List GBound) → Option ((List GBound))
  | 0, _, _ => none
  | fu + 1, pt, pout => sl23Projs_G fu (sl23Projs_M fu) pt pout
theorem sl23Projs_all (fu : Nat) : (∀ (pt : GType) (pout : List GBound) (r : (List GBound)), sl23Projs_M fu pt pout = some r → ACalls Try.prog 115 [(GType.pv pt), .acc 4 (GBound.trs (pout)) 0] ⟨[], [⟨34, 4, GBound.trs (pout), false⟩]⟩ (fun q t => q = (.acc 4 (GBound.trs (r)) 0 : PV) ∧ t = ⟨[], [⟨34, 4, GBound.trs (r), false⟩]⟩)) := by
  induction fu with
  | zero => exact (fun pt pout r H => by simp only [sl23Projs_M] at H; cases H)
  | succ fu ih => exact (fun pt pout r H => by simp only [sl23Projs_M] at H; exact sl23Projs_step (sl23Projs_M fu) fu ih pt pout r H)
theorem sl23Projs_ok (fu : Nat) (pt : GType) (pout : List GBound) (r : (List GBound)) (H : sl23Projs_M fu pt pout = some r) : ACalls Try.prog 115 [(GType.pv pt), .acc 4 (GBound.trs (pout)) 0] ⟨[], [⟨34, 4, GBound.trs (pout), false⟩]⟩ (fun q t => q = (.acc 4 (GBound.trs (r)) 0 : PV) ∧ t = ⟨[], [⟨34, 4, GBound.trs (r), false⟩]⟩) := (sl23Projs_all fu) pt pout r H

noncomputable def sProjectionsIn_M (fu : Nat)  (pt : GType) : Option ((List GBound)) :=
 bd (sl23Projs_M fu pt ([])) (fun x2 =>
 some x2)
set_option maxRecDepth 100000 in
set_option maxHeartbeats 4000000 in
theorem sProjectionsIn_ok  (fu : Nat)  (pt : GType) (r : (List GBound)) (H : sProjectionsIn_M fu pt = some r) : AFun Try.prog 49 [(GType.pv pt)] (.t (.row 4 (GBound.trs (r))) : PV) := by
  refine ACalls.intro Try.func49 rfl (by first | decide | (simp; done) | (simp; decide)) ?_
  intro C hC
  refine AWP.seq ?_
  refine AWP.region_lit ?_
  refine AL.cons rfl (AOp.box (cs := [.t (.leaf (.int .i64 (pt.gKind))), .t (.leaf (.string (pt.gName))), .t (.row 3 (GType.trs (pt.gArgs)))]) rfl rfl rfl rfl rfl) ?_
  refine AL.cons rfl (AOp.move (.inr rfl) rfl rfl) ?_
  refine AL.nil ?_
  refine AWP.seq ?_
  refine AWP.region_lit ?_
  refine AL.cons rfl (AOp.loadPtr (cs := [.t (.leaf (.int .i64 (pt.gKind))), .t (.leaf (.string (pt.gName))), .t (.row 3 (GType.trs (pt.gArgs)))]) rfl rfl rfl rfl sh32 rfl rfl) ?_
  refine AL.cons rfl (AOp.buildSliceA (es := []) (es' := GBound.trs ([])) (cs := []) rfl rfl el86 zr34 rfl rfl (by (repeat' (first | exact PV.Le.refl _ | exact LeL.nil | exact PV.Le.nil _ | exact PV.Le.acc _ _ _ | apply LeL.cons | apply PV.Le.agg | apply PV.Le.tup))) rfl (by simp [GBound.cs]) (by decide) rfl (by decide) (by simp [GBound.trs_map, GBound.tr_cs])) ?_
  rcases hq1 : sl23Projs_M fu pt ([]) with _ | x2
  · skip
    have e3 : sProjectionsIn_M fu pt = none := bdN hq1
    exact none_some H e3
  · skip
    refine AL.cons rfl (AOp.callPE (pre := ⟨[], [⟨34, 4, GBound.trs ([]), false⟩]⟩) (st' := ⟨[], [⟨34, 4, GBound.trs (x2), false⟩]⟩) (ps := [_, _]) (qs := [(GType.pv pt), .acc 4 (GBound.trs ([])) 0]) [] [0] rfl rfl Try.func115 (by kernel_rfl) rfl rfl rfl (by (try rw [hs]); exact ⟨rfl, rfl, by decide, by decide, fun k h => absurd h (Nat.not_lt_zero _), fun k x h => by simp at h, fun r row h => by rcases r with _ | r <;> simp at h; subst h; rfl⟩) (by (repeat' (first | exact PV.Le.refl _ | exact LeL.nil | exact PV.Le.nil _ | exact PV.Le.acc _ _ _ | apply LeL.cons | apply PV.Le.agg | apply PV.Le.tup))) rfl rfl rfl (sl23Projs_ok fu pt ([]) _ hq1)) ?_
    refine AL.cons rfl (AOp.move (.inr rfl) rfl rfl) ?_
    refine AL.nil ?_
    refine AWP.ret ?_
    have e4 : sProjectionsIn_M fu pt = some x2 := bdS hq1 (rfl)
    have hz : x2 = r := Option.some.inj (e4.symm.trans H)
    subst hz
    exact Ends.mk (ps := [_]) (.inr rfl) ⟨rfl, trivial⟩ rfl (StLe.mk' (st' := ⟨[], []⟩) trivial rfl) (keeps_nil hC) (q := (.t (.row 4 (GBound.trs (x2))) : PV)) (by (repeat' (first | exact PV.Le.refl _ | exact LeL.nil | exact PV.Le.nil _ | exact PV.Le.acc _ _ _ | apply LeL.cons | apply PV.Le.agg | apply PV.Le.tup))) rfl ⟨rfl, rfl⟩

end Go.Proofs.Ytoifjkggpanceaa

namespace Go.Proofs.Ytoifjkggpanceaa
open Go.RowKit Go.Proofs

mutual
def GType.size : GType → Nat
  | .mk _ _ xs => 1 + GType.sizes xs
def GType.sizes : List GType → Nat
  | [] => 0
  | e :: r => GType.size e + GType.sizes r
end
theorem GType.sizes_step {l : List GType} {k : Nat} (h : k < l.length) : GType.sizes (l.drop k) = GType.size l[k] + GType.sizes (l.drop (k + 1)) := by
  rw [List.drop_eq_getElem_cons h, GType.sizes]
theorem GType.sizes_drop : ∀ (l : List GType) (k : Nat), GType.sizes (l.drop k) ≤ GType.sizes l
  | [], k => by simp
  | a :: l, 0 => by simp
  | a :: l, k + 1 => by
    have := GType.sizes_drop l k
    simp only [List.drop_succ_cons, GType.sizes]
    omega
theorem GType.size_bulk : ∀ e : GType, GType.size e ≤ 1 + Tr.bulkL e.tr := by
  refine GType.ind fun v0 v1 v3 h => ?_
  have : ∀ l : List GType, (∀ x ∈ l, GType.size x ≤ 1 + Tr.bulkL x.tr) → GType.sizes l ≤ l.length + Tr.bulkAll (GType.trs l) := by
    intro l
    induction l with
    | nil => intro _; simp [GType.sizes]
    | cons a l ih =>
      intro hl
      have h1 := hl a (by simp)
      have h2 := ih fun x hx => hl x (by simp [hx])
      simp only [GType.sizes, GType.trs, Tr.bulkAll, List.length_cons]
      omega
  have := this v3 h
  simp only [GType.size, GType.tr, Tr.bulkL_append, Tr.bulkL, Tr.bulk, GType.trs_len]
  omega

mutual
def GType.pre : GType → List GType
  | .mk k n xs => .mk k n xs :: GType.pres xs
def GType.pres : List GType → List GType
  | [] => []
  | e :: r => GType.pre e ++ GType.pres r
end
theorem GType.pres_step {l : List GType} {k : Nat} (h : k < l.length) : GType.pres (l.drop k) = GType.pre l[k] ++ GType.pres (l.drop (k + 1)) := by
  rw [List.drop_eq_getElem_cons h, GType.pres]
theorem GType.pre_length : ∀ e : GType, (GType.pre e).length = GType.size e := by
  refine GType.ind fun v0 v1 v3 h => ?_
  have : ∀ l : List GType, (∀ x ∈ l, (GType.pre x).length = GType.size x) → (GType.pres l).length = GType.sizes l := by
    intro l
    induction l with
    | nil => intro _; rfl
    | cons a l ih =>
      intro hl
      simp only [GType.pres, List.length_append, GType.sizes, hl a (by simp), ih fun x hx => hl x (by simp [hx])]
  simp only [GType.pre, List.length_cons, GType.size, this v3 h]
  omega
theorem GType.pres_length : ∀ l : List GType, (GType.pres l).length = GType.sizes l
  | [] => rfl
  | a :: l => by simp only [GType.pres, List.length_append, GType.sizes, GType.pre_length, GType.pres_length l]

def hasS (l : List ByteArray) (s : ByteArray) : Bool := l.any fun x => decide (x = s)
def varStep (out : List ByteArray) (u : GType) : List ByteArray := if u.gKind = 1 ∧ hasS out u.gName = false then out ++ [u.gName] else out
def countStep (v : ByteArray) (n : Nat) (u : GType) : Nat := if u.gKind = 1 ∧ u.gName = v then n + 1 else n
def hasStep (b : Bool) (u : GType) : Bool := b || u.gKind == 3

theorem countStep_add (v : ByteArray) : ∀ (l : List GType) (n : Nat), l.foldl (countStep v) n = n + l.foldl (countStep v) 0
  | [], n => by simp
  | a :: l, n => by
    simp only [List.foldl_cons]
    rw [countStep_add v l (countStep v n a), countStep_add v l (countStep v 0 a)]
    unfold countStep
    split <;> omega
theorem countStep_le (v : ByteArray) : ∀ (l : List GType) (n : Nat), l.foldl (countStep v) n ≤ n + l.length
  | [], n => by simp
  | a :: l, n => by
    have := countStep_le v l (countStep v n a)
    have h : countStep v n a ≤ n + 1 := by unfold countStep; split <;> omega
    simp only [List.foldl_cons, List.length_cons]
    omega
def GType.vars (t : GType) : List ByteArray := t.pre.foldl varStep []
def GType.count (v : ByteArray) (t : GType) : Nat := t.pre.foldl (countStep v) 0
def GType.counts (v : ByteArray) (l : List GType) : Nat := (GType.pres l).foldl (countStep v) 0
theorem GType.count_mk (v : ByteArray) (k : Int) (n : ByteArray) (xs : List GType) : GType.count v (.mk k n xs) = (if k = 1 ∧ n = v then 1 else 0) + GType.counts v xs := by
  unfold GType.count GType.counts
  rw [GType.pre, List.foldl_cons, countStep_add]
  simp [countStep]
theorem GType.counts_step {v : ByteArray} {l : List GType} {k : Nat} (h : k < l.length) : GType.counts v (l.drop k) = GType.count v l[k] + GType.counts v (l.drop (k + 1)) := by
  unfold GType.count GType.counts
  rw [GType.pres_step h, List.foldl_append, countStep_add]
theorem GType.count_size (v : ByteArray) (t : GType) : GType.count v t ≤ GType.size t := by
  have := countStep_le v t.pre 0
  rw [GType.pre_length] at this
  unfold GType.count
  omega
theorem varStep_le : ∀ (l : List GType) (out : List ByteArray), (l.foldl varStep out).length ≤ out.length + l.length
  | [], out => by simp
  | a :: l, out => by
    have := varStep_le l (varStep out a)
    simp only [List.foldl_cons, List.length_cons]
    have h : (varStep out a).length ≤ out.length + 1 := by unfold varStep; split <;> simp
    omega

def GBound.smaller (b : GBound) (head : GType) : Bool :=
  (GType.vars b.gType).all (fun v => decide (GType.count v b.gType ≤ GType.count v head)) && decide (GType.size b.gType < GType.size head)

end Go.Proofs.Ytoifjkggpanceaa

namespace Go.Proofs.Ytoifjkggpanceaa
open Go.RowKit

/-- A slice of strings whose row is the call's own (blocks from 'base' on). -/
def AccS (e : TypeId) (base : Nat) (w : World) (l : List ByteArray) (v : Value) : Prop := w.ownsRow base e 1 v l.length (l.map Value.string) ∧ ∀ s ∈ l, s.size ≤ maxLen

theorem AccS.nil (e : TypeId) (base : Nat) (w : World) : AccS e base w [] (.slice none 0 0) := ⟨⟨rfl, .inl ⟨rfl, rfl⟩⟩, by simp⟩
theorem AccS.keep {e : TypeId} {base : Nat} {w w' : World} {l : List ByteArray} {v : Value} (h : AccS e base w l v) (hk : ∀ b, base ≤ b → b < w.heap.size → w'.heap[b]? = w.heap[b]?) : AccS e base w' l v := by
  refine ⟨⟨h.1.1, ?_⟩, h.2⟩
  rcases h.1.2 with h1 | ⟨g, cap, cur, h1, h2, h3, h4⟩
  · exact .inl h1
  · refine .inr ⟨g, cap, cur, h1, h2, ?_, h4⟩
    rw [hk g h2 (by rcases Nat.lt_or_ge g w.heap.size with hl | hl; exact hl; rw [Array.getElem?_eq_none hl] at h3; cases h3)]
    exact h3
theorem AccS.ext {e : TypeId} {base : Nat} {w w' : World} {l : List ByteArray} {v : Value} (h : AccS e base w l v) (hx : Ext w w') : AccS e base w' l v := h.keep fun b _ hb => hx.block b hb
theorem AccS.mono {e : TypeId} {base base' : Nat} {w : World} {l : List ByteArray} {v : Value} (h : AccS e base w l v) (hb : base' ≤ base) : AccS e base' w l v := by
  refine ⟨⟨h.1.1, ?_⟩, h.2⟩
  rcases h.1.2 with h1 | ⟨g, cap, cur, h1, h2, h3⟩
  · exact .inl h1
  · exact .inr ⟨g, cap, cur, h1, by omega, h3⟩
theorem AccS.own {e : TypeId} {base : Nat} {w : World} {l : List ByteArray} {v : Value} (h : AccS e base w l v) : Own w (.row 1 (strTrs l)) v (fun x => base ≤ x ∧ x < w.heap.size) := by
  have hget : ∀ (i : Nat) (x : List Tr), (strTrs l)[i]? = some x → ∃ s, l[i]? = some s ∧ x = [Tr.leaf (.string s)] := by
    intro i x hx
    unfold strTrs at hx
    rw [List.getElem?_map] at hx
    rcases hl : l[i]? with _ | s
    · simp [hl] at hx
    · simp [hl] at hx
      exact ⟨s, rfl, hx.symm⟩
  rcases h.1.2 with ⟨rfl, h0⟩ | ⟨g, cap, cur, rfl, h2, h3, h4, h5, h6, h7⟩
  · have : l = [] := List.length_eq_zero_iff.1 h0
    subst this
    exact Own.row (es := []) (fun _ _ => undef) (fun _ _ _ => False) (by simp) (by unfold maxLen; omega) (by simp) (by simp) (by simp) (by simp)
  · have hl := strTrs_len l
    rw [← hl]
    refine Own.row (fun i _ => (l[i]?.map Value.string).getD undef) (fun _ _ _ => False) (by rw [hl]; exact h4) h5 ?_ ?_ (by simp) (by simp)
    · intro _
      refine ⟨g, 0, e, cur, rfl, h3, ⟨h2, OB.lt h3⟩, ?_⟩
      intro i x hx j d hd
      obtain ⟨s, hs, rfl⟩ := hget i x hx
      cases j with
      | zero =>
        refine ⟨?_, by simp⟩
        have h8 : (cur.toList.take (l.length * 1))[i]? = (l.map Value.string)[i]? := by rw [h7]
        have hi : i < l.length := (List.getElem?_eq_some_iff.1 hs).1
        rw [List.getElem?_take, if_pos (by omega), List.getElem?_map, hs] at h8
        simpa [hs] using h8
      | succ j => simp at hd
    · intro i x hx j d hd
      obtain ⟨s, hs, rfl⟩ := hget i x hx
      cases j with
      | zero =>
        simp at hd
        subst hd
        simp only [hs, Option.map_some, Option.getD_some]
        exact .leaf (h.2 s (List.mem_of_getElem? hs))
      | succ j => simp at hd
theorem AccS.rep {e : TypeId} {base : Nat} {w : World} {l : List ByteArray} {v : Value} (h : AccS e base w l v) : Rep w (.row 1 (strTrs l)) v := h.own.rep

end Go.Proofs.Ytoifjkggpanceaa

namespace Go.Proofs.Ytoifjkggpanceaa
open Go.RowKit Go.Proofs

theorem hasS_step {l : List ByteArray} {s : ByteArray} {k : Nat} (h : k < l.length) : hasS (l.drop k) s = (decide (l[k] = s) || hasS (l.drop (k + 1)) s) := by
  rw [List.drop_eq_getElem_cons h, hasS, List.any_cons]; rfl

set_option maxRecDepth 100000 in
set_option maxHeartbeats 1000000 in
theorem l1Has_spec (l : List ByteArray) (s : ByteArray) (v : Value) (w : World) (h : Rep w (.row 1 (strTrs l)) v) :
    Calls Try.prog 104 #[v, .string s] w fun e w' => e = .returned (.bool (hasS l s)) ∧ w' = w := by
  obtain ⟨a, c, rfl, hl, hm⟩ := h.shape
  rw [strTrs_len] at *
  unfold maxLen at hm
  have HS := Lib.hid h
  clear h
  go_enter Try.func104, Try.ntmps104
  go_wp2_with fail
  go_loopw [5] (fun i wr => ∃ k : Nat, k ≤ l.length ∧ i = .int .i64 k ∧ wr = w ∧ Hid (hasS l s = hasS (l.drop k) s)) (fun i _ => l.length - (intOf i).toNat)
  case atStart => exact ⟨0, Nat.zero_le _, rfl, rfl, rfl⟩
  case round =>
    obtain ⟨k, hk, rfl, rfl, HE⟩ := hrel
    by_cases hlt : k < l.length
    · obtain ⟨b, off, rfl, hb, -, hcell⟩ := HS.out.str hlt
      have HST := Lib.hid (hasS_step (s := s) hlt)
      generalize l[k] = z at *
      go_wp2_with fail
      · rename_i hh
        have hz : z = s := bytes_inj (by simpa using hh)
        go_ret
        exact ⟨ret_bool (by rw [HE.out, HST.out]; simp [hz]), rfl⟩
      · rename_i hh
        have hz : ¬ z = s := fun h => by simp [h] at hh
        go_roundw
        case rel => exact ⟨k + 1, by omega, by go_num, by first | trivial | rfl, by show _ = _; rw [HE.out, HST.out]; simp [hz]⟩
        case measure => simp [intOf]; omega
    · have hkl : k = l.length := by omega
      go_wp2_with fail
      go_ret
      exact ⟨ret_bool (by rw [HE.out, hkl, List.drop_length]; rfl), rfl⟩

set_option maxRecDepth 100000 in
set_option maxHeartbeats 1000000 in
theorem typeSize_impl : ∀ (x : GType) (cs : List Value) (w : World), RepL w x.tr cs → GType.size x ≤ 1099511627776 →
    Calls Try.prog 70 #[.agg ⟨cs⟩] w fun e w' => e = .returned (.int .i64 (GType.size x)) ∧ Ext w w' := by
  refine GType.ind fun v0 v1 xs ih => ?_
  intro cs w hr hsz
  obtain ⟨a, c, rfl, -, -, h3⟩ := GType.opened hr
  obtain ⟨hl, hm, -⟩ := h3.lens
  have HS := Lib.hid h3
  have IH := Lib.hid ih
  simp only [GType.size] at hsz
  simp only [GType.size]
  clear hr h3 ih
  simp only [List.cons_append, List.nil_append]
  go_enter Try.func70, Try.ntmps70
  go_wp2_with fail
  go_loopw [3, 9] (fun n i wr => ∃ k m : Nat, k ≤ xs.length ∧ i = .int .i64 k ∧ n = .int .i64 (m : Int) ∧ Ext w wr ∧ 1 ≤ m ∧ Hid (m + GType.sizes (xs.drop k) = 1 + GType.sizes xs)) (fun _ i _ => xs.length - (intOf i).toNat)
  case atStart => exact ⟨0, 1, Nat.zero_le _, rfl, rfl, .alloc (.refl _) _, by omega, by rfl⟩
  case round =>
    obtain ⟨k, m, hk, rfl, rfl, hw, hm1, HE⟩ := hrel
    by_cases hlt : k < xs.length
    · obtain ⟨b, off, cs, rfl, hb, hcs, hc⟩ := (HS.out.ext hw).at2 (k := k) (GType.trs_get hlt)
      have HM := Lib.hid (List.getElem_mem hlt)
      have HCS := Lib.hid hcs
      have HC := Lib.hid hc
      have HI : Hid ((Try.prog.info? 32).map (·.size) = some cs.length) := by rw [← hcs.length, GType.tr_len]; exact isz32
      have HCL : Hid (cs.length = 3) := by rw [← hcs.length, GType.tr_len]; rfl
      clear hcs hc
      have HST := Lib.hid (GType.sizes_step hlt)
      have he := HE.out
      have hst := HST.out
      have hx : GType.size xs[k] ≤ 1099511627776 := by omega
      have hbd : m + GType.size xs[k] ≤ 1099511627777 := by omega
      clear he hst
      go_wp2_with (first
        | (refine wpList_load_rep rfl 32 (.tmp 11) rfl b (off + k * 3) rfl cs _ Try.underlying32 HI.out HC.out ?_)
        | (refine wpList_store_rep rfl 32 (.tmp 5) (.tmp 12) rfl wr.heap.size 0 rfl cs rfl 32 _ (OB.new wr _ _) HI.out (by rw [HCL.out]; exact Nat.le_refl _) HCS.out.one ?_; intro wb hob hgb hzb; rw [splice_whole (by rw [HCL.out]; rfl)] at hob; have HOB := Lib.hid hob; have HXB := Lib.hid (grown_ext (.alloc (.refl wr) _) hgb (Nat.le_refl _)); clear hob hgb hzb)
        | (refine wpList_load_rep rfl 32 (.tmp 5) rfl wr.heap.size 0 rfl cs _ Try.underlying32 HI.out HOB.out.cells0 ?_))
      refine (IH.out _ HM.out _ _ (HCS.out.ext HXB.out) hx).mono ?_
      rintro e w1 ⟨rfl, hw1⟩
      have HW1 := Lib.hid (hw.trans (HXB.out.trans hw1))
      clear hw1
      generalize GType.size xs[k] = z at *
      go_wp2_with fail
      go_roundw
      case rel => exact ⟨k + 1, m + z, by omega, by go_num, by go_num, HW1.out, by omega, by have := HE.out; have := HST.out; show _ = _; omega⟩
      case measure => simp [intOf]; omega
    · have hkl : k = xs.length := by omega
      go_wp2_with fail
      go_ret
      have := HE.out
      rw [hkl, List.drop_length] at this
      simp only [GType.sizes] at this
      exact ⟨ret_int (by omega), hw⟩

set_option maxRecDepth 100000 in
set_option maxHeartbeats 1000000 in
theorem typeSize_spec : ∀ (x : GType) (cs : List Value) (w : World), RepL w x.tr cs → GType.size x ≤ 1099511627776 →
    Calls Try.prog 84 #[.agg ⟨cs⟩] w fun e w' => e = .returned (.int .i64 (GType.size x)) ∧ Ext w w' := by
  refine GType.ind fun v0 v1 xs ih => ?_
  intro cs w hr hsz
  obtain ⟨a, c, rfl, -, -, h3⟩ := GType.opened hr
  obtain ⟨hl, hm, -⟩ := h3.lens
  have HS := Lib.hid h3
  have IH := Lib.hid ih
  simp only [GType.size] at hsz
  simp only [GType.size]
  clear hr h3 ih
  simp only [List.cons_append, List.nil_append]
  go_enter Try.func84, Try.ntmps84
  go_wp2_with fail
  go_loopw [3, 4] (fun n i wr => ∃ k m : Nat, k ≤ xs.length ∧ i = .int .i64 k ∧ n = .int .i64 (m : Int) ∧ Ext w wr ∧ Hid (OB wr w.heap.size 32 #[.int .i64 v0, .string v1, .slice a xs.length c]) ∧ 1 ≤ m ∧ Hid (m + GType.sizes (xs.drop k) = 1 + GType.sizes xs)) (fun _ i _ => xs.length - (intOf i).toNat)
  case atStart => exact ⟨0, 1, Nat.zero_le _, rfl, rfl, .alloc (.refl _) _, OB.new w _ _, by omega, by rfl⟩
  case round =>
    obtain ⟨k, m, hk, rfl, rfl, hw, HB, hm1, HE⟩ := hrel
    have hce := HB.out.cell
    by_cases hlt : k < xs.length
    · obtain ⟨b, off, cs, rfl, hb, hcs, hc⟩ := (HS.out.ext hw).at2 (k := k) (GType.trs_get hlt)
      have HM := Lib.hid (List.getElem_mem hlt)
      have HCS := Lib.hid hcs
      have HC := Lib.hid hc
      have HI : Hid ((Try.prog.info? 32).map (·.size) = some cs.length) := by rw [← hcs.length, GType.tr_len]; exact isz32
      have HCL : Hid (cs.length = 3) := by rw [← hcs.length, GType.tr_len]; rfl
      clear hcs hc
      have HST := Lib.hid (GType.sizes_step hlt)
      have he := HE.out
      have hst := HST.out
      have hx : GType.size xs[k] ≤ 1099511627776 := by omega
      have hbd : m + GType.size xs[k] ≤ 1099511627777 := by omega
      clear he hst
      go_wp2_with (refine wpList_load_rep rfl 32 (.tmp 16) rfl b (off + k * 3) rfl cs _ Try.underlying32 HI.out HC.out ?_)
      refine (IH.out _ HM.out _ _ HCS.out hx).mono ?_
      rintro e w1 ⟨rfl, hw1⟩
      have HW1 := Lib.hid (hw.trans hw1)
      have HB1 := Lib.hid (HB.out.ext hw1)
      clear hw1
      generalize GType.size xs[k] = z at *
      go_wp2_with fail
      go_roundw
      case rel => exact ⟨k + 1, m + z, by omega, by go_num, by go_num, HW1.out, HB1.out, by omega, by have := HE.out; have := HST.out; show _ = _; omega⟩
      case measure => simp [intOf]; omega
    · have hkl : k = xs.length := by omega
      go_wp2_with fail
      go_ret
      have := HE.out
      rw [hkl, List.drop_length] at this
      simp only [GType.sizes] at this
      exact ⟨ret_int (by omega), hw⟩


theorem GType.counts_size (v : ByteArray) : ∀ l : List GType, GType.counts v l ≤ GType.sizes l
  | [] => by simp [GType.counts, GType.pres, GType.sizes]
  | a :: l => by
    have h1 := GType.counts_size v l
    have h2 := GType.count_size v a
    have h3 := GType.counts_step (v := v) (l := a :: l) (k := 0) (by simp)
    simp only [List.drop_zero, List.getElem_cons_zero, List.drop_succ_cons] at h3
    simp only [GType.sizes]
    omega

set_option maxRecDepth 100000 in
set_option maxHeartbeats 1000000 in
theorem typeCount_spec (v : ByteArray) : ∀ (x : GType) (cs : List Value) (w : World), RepL w x.tr cs → GType.size x ≤ 1099511627776 →
    Calls Try.prog 83 #[.agg ⟨cs⟩, .string v] w fun e w' => e = .returned (.int .i64 (GType.count v x)) ∧ Ext w w' := by
  refine GType.ind fun v0 v1 xs ih => ?_
  intro cs w hr hsz
  obtain ⟨a, c, rfl, -, -, h3⟩ := GType.opened hr
  obtain ⟨hl, hm, -⟩ := h3.lens
  have HS := Lib.hid h3
  have IH := Lib.hid ih
  simp only [GType.size] at hsz
  have HCM := Lib.hid (GType.count_mk v v0 v1 xs)
  have hcs := GType.counts_size v xs
  clear hr h3 ih
  simp only [List.cons_append, List.nil_append]
  have key : ∀ d : Nat, d = (if v0 = 1 ∧ v1 = v then 1 else 0) → Hid (GType.count v (.mk v0 v1 xs) = d + GType.counts v xs) := fun d h => by rw [h]; exact HCM.out
  go_enter Try.func83, Try.ntmps83
  go_wp2_with fail
  · rename_i h1 h2 KK hKK
    have D := key 1 (by have hz : v1 = v := bytes_inj (by simpa using h2); simp [hz, h1])
    clear h2
    subst h1
    go_loopw [5, 6] (fun n i wr => ∃ k m : Nat, k ≤ xs.length ∧ i = .int .i64 k ∧ n = .int .i64 (m : Int) ∧ Ext w wr ∧ Hid (OB wr w.heap.size 32 #[.int .i64 1, .string v1, .slice a xs.length c]) ∧ m ≤ 1 + GType.counts v xs ∧ Hid (m + GType.counts v (xs.drop k) = GType.count v (.mk 1 v1 xs))) (fun _ i _ => xs.length - (intOf i).toNat)
    case atStart => exact ⟨0, 1, Nat.zero_le _, rfl, rfl, .alloc (.refl _) _, OB.new w _ _, by omega, D.out.symm⟩
    case round =>
      obtain ⟨k, m, hk, rfl, rfl, hw, HB, hm1, HE⟩ := hrel
      have hce := HB.out.cell
      by_cases hlt : k < xs.length
      · obtain ⟨b, off, cs, rfl, hb, hcs, hc⟩ := (HS.out.ext hw).at2 (k := k) (GType.trs_get hlt)
        have HM := Lib.hid (List.getElem_mem hlt)
        have HCS := Lib.hid hcs
        have HC := Lib.hid hc
        have HI : Hid ((Try.prog.info? 32).map (·.size) = some cs.length) := by rw [← hcs.length, GType.tr_len]; exact isz32
        have HCL : Hid (cs.length = 3) := by rw [← hcs.length, GType.tr_len]; rfl
        clear hcs hc
        have HST := Lib.hid (GType.counts_step (v := v) hlt)
        have hx1 : GType.size xs[k] + GType.sizes (xs.drop (k + 1)) ≤ GType.sizes xs := by rw [← GType.sizes_step hlt]; exact GType.sizes_drop xs k
        have hx : GType.size xs[k] ≤ 1099511627776 := by omega
        have hbd : GType.count v xs[k] ≤ 1099511627776 := by have := GType.count_size v xs[k]; omega
        clear hx1
        go_wp2_with (refine wpList_load_rep rfl 32 (.tmp 27) rfl b (off + k * 3) rfl cs _ Try.underlying32 HI.out HC.out ?_)
        refine (IH.out _ HM.out _ _ HCS.out hx).mono ?_
        rintro e w1 ⟨rfl, hw1⟩
        have HW1 := Lib.hid (hw.trans hw1)
        have HB1 := Lib.hid (HB.out.ext hw1)
        clear hw1
        have hcm : GType.count v (.mk 1 v1 xs) ≤ 1 + GType.counts v xs := by rw [HCM.out]; split <;> omega
        have HCN := Lib.hid hcm
        clear hcm
        generalize GType.count v xs[k] = z at *
        go_wp2_with fail
        go_roundw
        case rel => exact ⟨k + 1, m + z, by omega, by go_num, by go_num, HW1.out, HB1.out, by have := HE.out; have := HST.out; have := HCN.out; omega, by have := HE.out; have := HST.out; show _ = _; omega⟩
        case measure => simp [intOf]; omega
      · have hkl : k = xs.length := by omega
        go_wp2_with fail
        go_ret
        have := HE.out
        rw [hkl, List.drop_length] at this
        exact ⟨ret_int (by rw [← this]; simp [GType.counts, GType.pres]), hw⟩
  · rename_i h1 h2 KK hKK
    have D := key 0 (by have hz : ¬ v1 = v := (fun h => by simp [h] at h2); simp [hz])
    clear h2
    subst h1
    go_loopw [5, 6] (fun n i wr => ∃ k m : Nat, k ≤ xs.length ∧ i = .int .i64 k ∧ n = .int .i64 (m : Int) ∧ Ext w wr ∧ Hid (OB wr w.heap.size 32 #[.int .i64 1, .string v1, .slice a xs.length c]) ∧ m ≤ 1 + GType.counts v xs ∧ Hid (m + GType.counts v (xs.drop k) = GType.count v (.mk 1 v1 xs))) (fun _ i _ => xs.length - (intOf i).toNat)
    case atStart => exact ⟨0, 0, Nat.zero_le _, rfl, rfl, .alloc (.refl _) _, OB.new w _ _, by omega, D.out.symm⟩
    case round =>
      obtain ⟨k, m, hk, rfl, rfl, hw, HB, hm1, HE⟩ := hrel
      have hce := HB.out.cell
      by_cases hlt : k < xs.length
      · obtain ⟨b, off, cs, rfl, hb, hcs, hc⟩ := (HS.out.ext hw).at2 (k := k) (GType.trs_get hlt)
        have HM := Lib.hid (List.getElem_mem hlt)
        have HCS := Lib.hid hcs
        have HC := Lib.hid hc
        have HI : Hid ((Try.prog.info? 32).map (·.size) = some cs.length) := by rw [← hcs.length, GType.tr_len]; exact isz32
        have HCL : Hid (cs.length = 3) := by rw [← hcs.length, GType.tr_len]; rfl
        clear hcs hc
        have HST := Lib.hid (GType.counts_step (v := v) hlt)
        have hx1 : GType.size xs[k] + GType.sizes (xs.drop (k + 1)) ≤ GType.sizes xs := by rw [← GType.sizes_step hlt]; exact GType.sizes_drop xs k
        have hx : GType.size xs[k] ≤ 1099511627776 := by omega
        have hbd : GType.count v xs[k] ≤ 1099511627776 := by have := GType.count_size v xs[k]; omega
        clear hx1
        go_wp2_with (refine wpList_load_rep rfl 32 (.tmp 27) rfl b (off + k * 3) rfl cs _ Try.underlying32 HI.out HC.out ?_)
        refine (IH.out _ HM.out _ _ HCS.out hx).mono ?_
        rintro e w1 ⟨rfl, hw1⟩
        have HW1 := Lib.hid (hw.trans hw1)
        have HB1 := Lib.hid (HB.out.ext hw1)
        clear hw1
        have hcm : GType.count v (.mk 1 v1 xs) ≤ 1 + GType.counts v xs := by rw [HCM.out]; split <;> omega
        have HCN := Lib.hid hcm
        clear hcm
        generalize GType.count v xs[k] = z at *
        go_wp2_with fail
        go_roundw
        case rel => exact ⟨k + 1, m + z, by omega, by go_num, by go_num, HW1.out, HB1.out, by have := HE.out; have := HST.out; have := HCN.out; omega, by have := HE.out; have := HST.out; show _ = _; omega⟩
        case measure => simp [intOf]; omega
      · have hkl : k = xs.length := by omega
        go_wp2_with fail
        go_ret
        have := HE.out
        rw [hkl, List.drop_length] at this
        exact ⟨ret_int (by rw [← this]; simp [GType.counts, GType.pres]), hw⟩
  · rename_i h1 KK hKK
    have D := key 0 (by simp [h1])
    clear h1
    go_loopw [5, 6] (fun n i wr => ∃ k m : Nat, k ≤ xs.length ∧ i = .int .i64 k ∧ n = .int .i64 (m : Int) ∧ Ext w wr ∧ Hid (OB wr w.heap.size 32 #[.int .i64 v0, .string v1, .slice a xs.length c]) ∧ m ≤ 1 + GType.counts v xs ∧ Hid (m + GType.counts v (xs.drop k) = GType.count v (.mk v0 v1 xs))) (fun _ i _ => xs.length - (intOf i).toNat)
    case atStart => exact ⟨0, 0, Nat.zero_le _, rfl, rfl, .alloc (.refl _) _, OB.new w _ _, by omega, D.out.symm⟩
    case round =>
      obtain ⟨k, m, hk, rfl, rfl, hw, HB, hm1, HE⟩ := hrel
      have hce := HB.out.cell
      by_cases hlt : k < xs.length
      · obtain ⟨b, off, cs, rfl, hb, hcs, hc⟩ := (HS.out.ext hw).at2 (k := k) (GType.trs_get hlt)
        have HM := Lib.hid (List.getElem_mem hlt)
        have HCS := Lib.hid hcs
        have HC := Lib.hid hc
        have HI : Hid ((Try.prog.info? 32).map (·.size) = some cs.length) := by rw [← hcs.length, GType.tr_len]; exact isz32
        have HCL : Hid (cs.length = 3) := by rw [← hcs.length, GType.tr_len]; rfl
        clear hcs hc
        have HST := Lib.hid (GType.counts_step (v := v) hlt)
        have hx1 : GType.size xs[k] + GType.sizes (xs.drop (k + 1)) ≤ GType.sizes xs := by rw [← GType.sizes_step hlt]; exact GType.sizes_drop xs k
        have hx : GType.size xs[k] ≤ 1099511627776 := by omega
        have hbd : GType.count v xs[k] ≤ 1099511627776 := by have := GType.count_size v xs[k]; omega
        clear hx1
        go_wp2_with (refine wpList_load_rep rfl 32 (.tmp 27) rfl b (off + k * 3) rfl cs _ Try.underlying32 HI.out HC.out ?_)
        refine (IH.out _ HM.out _ _ HCS.out hx).mono ?_
        rintro e w1 ⟨rfl, hw1⟩
        have HW1 := Lib.hid (hw.trans hw1)
        have HB1 := Lib.hid (HB.out.ext hw1)
        clear hw1
        have hcm : GType.count v (.mk v0 v1 xs) ≤ 1 + GType.counts v xs := by rw [HCM.out]; split <;> omega
        have HCN := Lib.hid hcm
        clear hcm
        generalize GType.count v xs[k] = z at *
        go_wp2_with fail
        go_roundw
        case rel => exact ⟨k + 1, m + z, by omega, by go_num, by go_num, HW1.out, HB1.out, by have := HE.out; have := HST.out; have := HCN.out; omega, by have := HE.out; have := HST.out; show _ = _; omega⟩
        case measure => simp [intOf]; omega
      · have hkl : k = xs.length := by omega
        go_wp2_with fail
        go_ret
        have := HE.out
        rw [hkl, List.drop_length] at this
        exact ⟨ret_int (by rw [← this]; simp [GType.counts, GType.pres]), hw⟩

end Go.Proofs.Ytoifjkggpanceaa

namespace Go.Proofs.Ytoifjkggpanceaa
open Go.RowKit Go.Proofs

/-- What a closure with a state does at one type: 'Inv s S w' says that the state s lies in the blocks S. -/
def StepC {σ : Type} (g : FuncId) (caps : Array Value) (w0 : World) (Inv : σ → (Nat → Prop) → World → Prop) (step : σ → GType → σ) (Ok : σ → List GType → Prop) : Prop :=
  ∀ x s S l cs w, RepL w0 x.tr cs → Ext w0 w → Inv s S w → Ok s (x :: l) → Calls Try.prog g (#[.agg ⟨cs⟩] ++ caps) w fun e w' => (∃ v, e = .returned v) ∧ ∃ S', Inv (step s x) S' w' ∧ Chg S w w' ∧ ∀ b, S' b → S b ∨ w.heap.size ≤ b
/-- The state lies behind what was, and stays while only new blocks come. -/
structure InvOk {σ : Type} (w0 : World) (Inv : σ → (Nat → Prop) → World → Prop) : Prop where
  ext : ∀ s S w w', Inv s S w → Ext w w' → Inv s S w'
  lt : ∀ s S w b, Inv s S w → S b → b < w.heap.size
  ge : ∀ s S w b, Inv s S w → S b → w0.heap.size ≤ b

theorem OB.chg {S : Nat → Prop} {w w' : World} {g : Nat} {t : TypeId} {cs : Array Value} (h : OB w g t cs) (hc : Chg S w w') (hn : ¬ S g) : OB w' g t cs := (hc.block g h.lt hn).trans h
theorem Ext.chg {S : Nat → Prop} {a w w' : World} (h : Ext a w) (hc : Chg S w w') (hS : ∀ b, S b → a.heap.size ≤ b) : Ext a w' := Chg.ext h hc hS
theorem Chg.sub {S S' : Nat → Prop} {a b c : World} (h : Chg S a b) (k : Chg S' b c) (hS : ∀ x, S' x → S x ∨ a.heap.size ≤ x) : Chg S a c :=
  ⟨k.os.trans h.os, k.tape.trans h.tape, k.output.trans h.output, Nat.le_trans h.size k.size, fun x hx hn => (k.block x (Nat.lt_of_lt_of_le hx h.size) (fun hs => by rcases hS x hs with h1 | h1; exact hn h1; omega)).trans (h.block x hx hn)⟩

set_option maxRecDepth 100000 in
set_option maxHeartbeats 1000000 in
theorem eachType_of {σ : Type} (g : FuncId) (caps : Array Value) (hg : ∀ (args : Array Value) (w : World), (callFunc g args).run Try.prog w = .ok (.enter g args) w)
    (w0 : World) (Inv : σ → (Nat → Prop) → World → Prop) (step : σ → GType → σ) (Ok : σ → List GType → Prop) (hI : InvOk w0 Inv) (hok : ∀ s x l, Ok s (x :: l) → Ok (step s x) l)
    (H : StepC g caps w0 Inv step Ok) :
    ∀ (x : GType) (s : σ) (S : Nat → Prop) (l : List GType) (cs : List Value) (w : World), RepL w0 x.tr cs → Ext w0 w → Inv s S w → Ok s (x.pre ++ l) →
      Calls Try.prog 116 #[.agg ⟨cs⟩, .func (.func g) #[] caps] w fun e w' => (∃ v, e = .returned v) ∧ (∃ S', Inv (x.pre.foldl step s) S' w' ∧ Chg S w w' ∧ ∀ b, S' b → S b ∨ w.heap.size ≤ b) ∧ Ok (x.pre.foldl step s) l := by
  refine GType.ind fun v0 v1 xs ih => ?_
  intro s S l cs w hr hw hi ho
  have HR := Lib.hid hr
  obtain ⟨a, c, rfl, -, -, h3⟩ := GType.opened hr
  obtain ⟨hl, hm, -⟩ := h3.lens
  have HS := Lib.hid h3
  have IH := Lib.hid ih
  have HH := Lib.hid H
  have HI := Lib.hid hI
  have HK := Lib.hid hok
  have HI0 := Lib.hid (hI.ext _ _ _ _ hi (.alloc (.refl w) (.cells ⟨[.int .i64 v0] ++ ([.string v1] ++ ([.slice a xs.length c] ++ []))⟩ 32)))
  have HSB : Hid (∀ b, S b → b < w.heap.size) := fun b => hI.lt _ _ _ b hi
  have HSG : Hid (∀ b, S b → w0.heap.size ≤ b) := fun b => hI.ge _ _ _ b hi
  have HO := Lib.hid ho
  have HW := Lib.hid hw
  clear hr h3 ih H hI hok hi ho hw
  simp only [List.cons_append, List.nil_append] at *
  go_enter Try.func116, Try.ntmps116
  go_wp2_with (refine wpList_load_rep rfl 32 (.tmp 2) rfl w.heap.size 0 rfl _ _ Try.underlying32 isz32 (OB.cells0 (OB.new w _ _)) ?_)
  have ho1 : Ok s (.mk v0 v1 xs :: (GType.pres xs ++ l)) := by have := HO.out; simpa only [GType.pre, List.cons_append] using this
  have HO1 := Lib.hid ho1
  clear ho1
  refine (HH.out (.mk v0 v1 xs) s S (GType.pres xs ++ l) _ _ HR.out (Ext.alloc HW.out _) HI0.out HO1.out).mono ?_
  rintro e w1 ⟨⟨v, rfl⟩, S1, hi1, hc1, hs1⟩
  have hk1 : Hid (Ok (step s (.mk v0 v1 xs)) (GType.pres xs ++ l)) := HK.out _ _ _ HO1.out
  have hb1 : OB w1 w.heap.size 32 #[.int .i64 v0, .string v1, .slice a xs.length c] := (OB.new w _ _).chg hc1 (fun h => by have := HSB.out _ h; omega)
  have HC1 := Lib.hid hc1
  have HI1 := Lib.hid hi1
  have HS1 := Lib.hid hs1
  have HB1 := Lib.hid hb1
  have hce := hb1.cell
  have hsz1 := hc1.size
  simp only [World.size_alloc] at hsz1
  clear hc1 hi1 hs1 hb1
  go_wp2_with fail
  go_loopw [12] (fun i wr => ∃ (k : Nat) (s' : σ) (S' : Nat → Prop), k ≤ xs.length ∧ i = .int .i64 k ∧ Hid (Inv s' S' wr) ∧ Hid (Chg S w wr) ∧ Hid (∀ b, S' b → S b ∨ w.heap.size ≤ b) ∧ Hid (Ok s' (GType.pres (xs.drop k) ++ l)) ∧ Hid ((GType.pres (xs.drop k)).foldl step s' = (GType.pre (.mk v0 v1 xs)).foldl step s)) (fun i _ => xs.length - (intOf i).toNat)
  case atStart =>
    refine ⟨0, step s (.mk v0 v1 xs), S1, Nat.zero_le _, rfl, HI1.out, ?_, ?_, hk1, rfl⟩
    · exact (Chg.of_ext (.alloc (.refl w) _)).trans HC1.out
    · intro b hb
      rcases HS1.out b hb with h | h
      · exact .inl h
      · simp only [World.size_alloc] at h
        exact .inr (by omega)
  case round =>
    obtain ⟨k, s', S', hk, rfl, HIk, HCk, HSk, HOk, HEk⟩ := hrel
    have hwr := HW.out.chg HCk.out HSG.out
    by_cases hlt : k < xs.length
    · obtain ⟨b, off, cs, rfl, hb, hcs, hc⟩ := HS.out.at2 (k := k) (GType.trs_get hlt)
      have HM := Lib.hid (List.getElem_mem hlt)
      have HCS := Lib.hid hcs
      have HC := Lib.hid (cells_ext hwr hb hc)
      have HI3 : Hid ((Try.prog.info? 32).map (·.size) = some cs.length) := by rw [← hcs.length, GType.tr_len]; exact isz32
      have HCL : Hid (cs.length = 3) := by rw [← hcs.length, GType.tr_len]; rfl
      have HPS := Lib.hid (GType.pres_step hlt)
      have HWR := Lib.hid hwr
      clear hcs hc hwr
      go_wp2_with (first
        | (refine wpList_load_rep rfl 32 (.tmp 14) rfl b (off + k * 3) rfl cs _ Try.underlying32 HI3.out HC.out ?_)
        | (refine wpList_store_rep rfl 32 (.tmp 5) (.tmp 15) rfl wr.heap.size 0 rfl cs rfl 32 _ (OB.new wr _ _) HI3.out (by rw [HCL.out]; exact Nat.le_refl _) HCS.out.one ?_; intro wb hob hgb hzb; rw [splice_whole (by rw [HCL.out]; rfl)] at hob; have HOB := Lib.hid hob; have HXB := Lib.hid (grown_ext (.alloc (.refl wr) _) hgb (Nat.le_refl _)); clear hob hgb hzb)
        | (refine wpList_load_rep rfl 32 (.tmp 5) rfl wr.heap.size 0 rfl cs _ Try.underlying32 HI3.out HOB.out.cells0 ?_))
      refine (IH.out _ HM.out s' S' (GType.pres (xs.drop (k + 1)) ++ l) _ _ HCS.out (HWR.out.trans HXB.out) (HI.out.ext _ _ _ _ HIk.out HXB.out) (by have := HOk.out; rw [HPS.out, List.append_assoc] at this; exact this)).mono ?_
      rintro e w2 ⟨⟨v2, rfl⟩, ⟨S2, hi2, hc2, hs2⟩, hk2⟩
      have HI2 := Lib.hid hi2
      have HC2 := Lib.hid hc2
      have HS2 := Lib.hid hs2
      have HK2 := Lib.hid hk2
      clear hi2 hc2 hs2 hk2
      go_wp2_with fail
      go_roundw
      case rel =>
        have hz := HCk.out.size
        have hx := HXB.out.size
        refine ⟨k + 1, _, S2, by omega, by go_num, HI2.out, ?_, ?_, HK2.out, ?_⟩
        · exact (HCk.out.trans (Chg.of_ext HXB.out)).sub HC2.out HSk.out
        · intro b hb
          rcases HS2.out b hb with h | h
          · exact HSk.out b h
          · exact .inr (by omega)
        · show _ = _
          have := HEk.out
          rw [HPS.out, List.foldl_append] at this
          exact this
      case measure => simp [intOf]; omega
    · have hkl : k = xs.length := by omega
      go_wp2_with fail
      have h1 := HOk.out
      have h2 := HEk.out
      rw [hkl, List.drop_length] at h1 h2
      simp only [GType.pres, List.foldl_nil, List.nil_append] at h1 h2
      refine bodyPost_end (results_none rfl _ _ _) rfl ?_
      rw [← h2]
      exact ⟨⟨_, rfl⟩, ⟨S', HIk.out, HCk.out, HSk.out⟩, h1⟩
end Go.Proofs.Ytoifjkggpanceaa

namespace Go.Proofs.Ytoifjkggpanceaa
open Go.RowKit

/-- The slice is nil, or its row is known whole: it begins at 0 and the row's size is the capacity's. -/
def Whole (E : TypeId) (base sz : Nat) (w : World) (n : Nat) (v : Value) : Prop :=
  (v = .slice none 0 0 ∧ n = 0) ∨ ∃ g cap cur, v = .slice (some ⟨g, 0, none⟩) n cap ∧ base ≤ g ∧ OB w g E cur ∧ n ≤ cap ∧ cap ≤ maxLen ∧ cur.size = cap * sz

structure Acc (E : TypeId) (base sz : Nat) (w : World) (es : List (List Tr)) (v : Value) (S : Nat → Prop) : Prop where
  own : Own w (.row sz es) v S
  whole : Whole E base sz w es.length v
  lens : ∀ e ∈ es, e.length = sz
  lt : ∀ x, S x → base ≤ x ∧ x < w.heap.size

theorem Acc.rep {E : TypeId} {base sz : Nat} {w : World} {es : List (List Tr)} {v : Value} {S : Nat → Prop} (h : Acc E base sz w es v S) : Rep w (.row sz es) v := h.own.rep
theorem Acc.nil (E : TypeId) (base sz : Nat) (w : World) : Acc E base sz w [] (.slice none 0 0) (fun _ => False) :=
  ⟨Own.row (es := []) (fun _ _ => undef) (fun _ _ _ => False) (by simp) (by unfold maxLen; omega) (by simp) (by simp) (by simp) (by simp), .inl ⟨rfl, rfl⟩, by simp, by simp⟩
/-- An empty slice with a row of its own. -/
theorem Acc.empty {E : TypeId} {base sz : Nat} {w : World} {g cap : Nat} {cur : Array Value} (hb : base ≤ g) (ho : OB w g E cur) (hm : cap ≤ maxLen) (hc : cur.size = cap * sz) : Acc E base sz w [] (.slice (some ⟨g, 0, none⟩) 0 cap) (fun _ => False) :=
  ⟨Own.row (es := []) (fun _ _ => undef) (fun _ _ _ => False) (by simp) hm (by simp) (by simp) (by simp) (by simp), .inr ⟨g, cap, cur, rfl, hb, ho, Nat.zero_le _, hm, hc⟩, by simp, by simp⟩
theorem Acc.keep {E : TypeId} {base sz : Nat} {w w' : World} {es : List (List Tr)} {v : Value} {S : Nat → Prop} (h : Acc E base sz w es v S) (hz : w.heap.size ≤ w'.heap.size)
    (hx : ∀ b, S b ∨ v.ownBlock = some b → b < w.heap.size → w'.heap[b]? = w.heap[b]?) : Acc E base sz w' es v S := by
  refine ⟨h.own.keep fun b hb => hx b (.inl hb), ?_, h.lens, fun x hs => ⟨(h.lt x hs).1, Nat.lt_of_lt_of_le (h.lt x hs).2 hz⟩⟩
  rcases h.whole with h1 | ⟨g, cap, cur, rfl, h2, h3, h4⟩
  · exact .inl h1
  · exact .inr ⟨g, cap, cur, rfl, h2, (hx g (.inr rfl) h3.lt).trans h3, h4⟩
theorem Acc.ext {E : TypeId} {base sz : Nat} {w w' : World} {es : List (List Tr)} {v : Value} {S : Nat → Prop} (h : Acc E base sz w es v S) (hx : Ext w w') : Acc E base sz w' es v S := h.keep hx.size fun b _ hb => hx.block b hb
theorem Acc.mono {E : TypeId} {base base' sz : Nat} {w : World} {es : List (List Tr)} {v : Value} {S S' : Nat → Prop} (h : Acc E base sz w es v S) (hb : base' ≤ base) (hS : ∀ x, S x → S' x) (hl : ∀ x, S' x → base' ≤ x ∧ x < w.heap.size) : Acc E base' sz w es v S' := by
  refine ⟨h.own.mono hS, ?_, h.lens, hl⟩
  rcases h.whole with h1 | ⟨g, cap, cur, h1, h2, h3⟩
  · exact .inl h1
  · exact .inr ⟨g, cap, cur, h1, by omega, h3⟩

theorem Acc.owns {E : TypeId} {base sz : Nat} {w : World} {es : List (List Tr)} {v : Value} {S : Nat → Prop} (h : Acc E base sz w es v S) : ∃ xs, w.ownsRow base E sz v es.length xs := by
  rcases h.whole with ⟨h1, h2⟩ | ⟨g, cap, cur, h1, h2, h3, h4, h5, h6⟩
  · exact ⟨[], by simp [h2], .inl ⟨h1, h2⟩⟩
  · exact ⟨cur.toList.take (es.length * sz), by have := Nat.mul_le_mul_right sz h4; simp only [List.length_take, Array.length_toList]; omega, .inr ⟨g, cap, cur, h1, h2, h3, h4, h5, h6, rfl⟩⟩

theorem getE_append {α : Type} {es : List α} {e y : α} {i : Nat} (h : (es ++ [e])[i]? = some y) : (i < es.length ∧ es[i]? = some y) ∨ (i = es.length ∧ y = e) := by
  rcases Nat.lt_or_ge i es.length with hi | hi
  · rw [List.getElem?_append_left hi] at h
    exact .inl ⟨hi, h⟩
  · rw [List.getElem?_append_right hi] at h
    rcases hk : i - es.length with _ | k
    · rw [hk] at h
      simp at h
      exact .inr ⟨by omega, h.symm⟩
    · rw [hk] at h
      simp at h

theorem Acc.snoc {E : TypeId} {base base' sz : Nat} {w w' : World} {es : List (List Tr)} {e : List Tr} {v : Value} {S T : Nat → Prop} {xs cs : List Value} {g cap : Nat} (h : Acc E base sz w es v S) (hr : w.ownsRow base' E sz v es.length xs)
    (he : e.length = sz) (ho : OwnL w e cs T) (hST : ∀ x, S x → T x → False) (hT : ∀ x, T x → base ≤ x ∧ x < w.heap.size) (hTv : ∀ x, v.ownBlock = some x → ¬ T x)
    (hr' : w'.ownsRow base E sz (.slice (some ⟨g, 0, none⟩) (es.length + 1) cap) (es.length + 1) (xs ++ cs)) (hg : w.grownBy w' v.ownBlock) (hgg : v.ownBlock = some g ∨ g = w.heap.size) (_hbw : base ≤ w.heap.size) :
    Acc E base sz w' (es ++ [e]) (.slice (some ⟨g, 0, none⟩) (es.length + 1) cap) (fun x => S x ∨ T x ∨ x = g) := by
  obtain ⟨hown, hwh, hlens, hlt⟩ := h
  have hel : (es ++ [e]).length = es.length + 1 := by simp
  obtain ⟨hxl', hr'⟩ := hr'
  rcases hr' with ⟨h1, -⟩ | ⟨g', cap', cur', h1, hbg, hob', hcap, hmax, hcs', htake'⟩
  · simp at h1
  injection h1 with h1 h2 h3
  injection h1 with h1
  injection h1 with h1
  subst h1 h3
  have hgl : g < w'.heap.size := OB.lt hob'
  have hvlt : ∀ x, v.ownBlock = some x → x < w.heap.size := by
    intro x hx
    rcases hwh with ⟨rfl, -⟩ | ⟨g0, c0, u0, rfl, -, h3, -⟩
    · simp [Value.ownBlock] at hx
    · simp [Value.ownBlock] at hx
      subst hx
      exact h3.lt
  have hxl : xs.length = es.length * sz := hr.1
  have hlens' : ∀ y ∈ es ++ [e], y.length = sz := by
    intro y hy
    rcases List.mem_append.1 hy with hy | hy
    · exact hlens y hy
    · simp at hy; rw [hy, he]
  have hcur' : ∀ i, i < (es.length + 1) * sz → cur'[i]? = (xs ++ cs)[i]? := by
    intro i hi
    have h8 : (cur'.toList.take ((es.length + 1) * sz))[i]? = (xs ++ cs)[i]? := by rw [htake']
    rw [List.getElem?_take, if_pos hi] at h8
    simpa using h8
  obtain ⟨hcl, U, u1, u2, u3⟩ := ho
  have hTg : ∀ x, T x → x ≠ g := by
    rintro x hx rfl
    rcases hgg with h | h
    · exact hTv _ h hx
    · have := (hT _ hx).2; omega
  cases hown with
  | row c T0 o1 o2 o3 o4 o5 o6 =>
    rename_i a cap0
    have keepb : ∀ b, b < w.heap.size → (Value.slice a es.length cap0).ownBlock ≠ some b → w'.heap[b]? = w.heap[b]? := fun b hb hne => hg.block b hb (fun h => hne h.symm)
    -- the old cells, seen from the list
    have hold : ∀ i y, es[i]? = some y → ∀ j d, y[j]? = some d → xs[i * sz + j]? = some (c i j) ∧ (∀ x, T0 i j x → (Value.slice a es.length cap0).ownBlock ≠ some x) := by
      intro i y hy j d hd
      have hne : es ≠ [] := by rintro rfl; simp at hy
      obtain ⟨b, off, E1, arr, rfl, hob, hs, hc⟩ := o3 hne
      obtain ⟨hc1, hc2⟩ := hc i y hy j d hd
      rcases hr.2 with ⟨h1, -⟩ | ⟨g1, c1, cur1, h1, -, hob1, q4, q5, q6, q7⟩
      · simp at h1
      injection h1 with h1 h2 h3
      injection h1 with h1
      injection h1 with h1 h4
      subst h1 h4
      have hoo := hob.symm.trans hob1
      injection hoo with hoo
      injection hoo with hoo
      subst hoo
      have hi : i < es.length := (List.getElem?_eq_some_iff.1 hy).1
      have hj : j < sz := by rw [← hlens y (List.mem_of_getElem? hy)]; exact (List.getElem?_eq_some_iff.1 hd).1
      have hij : i * sz + j < es.length * sz := by
        have : (i + 1) * sz ≤ es.length * sz := Nat.mul_le_mul_right _ hi
        rw [Nat.succ_mul] at this
        omega
      refine ⟨?_, fun x hx hh => ?_⟩
      · rw [← q7, List.getElem?_take, if_pos hij]
        rw [Nat.zero_add] at hc1
        simpa using hc1
      · simp [Value.ownBlock] at hh
        exact hc2 x hx hh.symm
    have hgS : ∀ i y, es[i]? = some y → ∀ j d, y[j]? = some d → ∀ x, T0 i j x → x ≠ g := by
      intro i y hy j d hd x hx
      rintro rfl
      rcases hgg with h | h
      · exact (hold i y hy j d hd).2 _ hx h
      · have := (hlt _ (o5 i y hy j d hd _ hx)).2; omega
    refine ⟨?_, .inr ⟨g, cap, cur', by rw [hel], hbg, hob', by rw [hel]; exact hcap, hmax, hcs'⟩, hlens', ?_⟩
    · rw [← hel]
      refine Own.row (fun i j => (cur'[i * sz + j]?).getD undef) (fun i j => if i < es.length then T0 i j else U j) (by rw [hel]; exact hcap) hmax ?_ ?_ ?_ ?_
      · intro _
        refine ⟨g, 0, E, cur', rfl, hob', .inr (.inr rfl), ?_⟩
        intro i y hy j d hd
        have hj : j < sz := by rw [← hlens' y (List.mem_of_getElem? hy)]; exact (List.getElem?_eq_some_iff.1 hd).1
        have hi : i < es.length + 1 := by rw [← hel]; exact (List.getElem?_eq_some_iff.1 hy).1
        have hij : i * sz + j < (es.length + 1) * sz := by
          have : (i + 1) * sz ≤ (es.length + 1) * sz := Nat.mul_le_mul_right _ hi
          rw [Nat.succ_mul] at this
          omega
        have hle : (es.length + 1) * sz ≤ cap * sz := Nat.mul_le_mul_right _ hcap
        refine ⟨?_, fun x hx => ?_⟩
        · rw [Nat.zero_add, Array.getElem?_eq_getElem (by omega)]; rfl
        · rcases getE_append hy with ⟨hi2, hy2⟩ | ⟨rfl, rfl⟩
          · simp only [if_pos hi2] at hx
            exact hgS i y hy2 j d hd x hx
          · simp only [Nat.lt_irrefl, if_false] at hx
            exact hTg x (u2 j d hd x hx)
      · intro i y hy j d hd
        have hj : j < sz := by rw [← hlens' y (List.mem_of_getElem? hy)]; exact (List.getElem?_eq_some_iff.1 hd).1
        have hi : i < es.length + 1 := by rw [← hel]; exact (List.getElem?_eq_some_iff.1 hy).1
        have hij : i * sz + j < (es.length + 1) * sz := by
          have : (i + 1) * sz ≤ (es.length + 1) * sz := Nat.mul_le_mul_right _ hi
          rw [Nat.succ_mul] at this
          omega
        have hcu := hcur' (i * sz + j) hij
        rcases getE_append hy with ⟨hi2, hy2⟩ | ⟨rfl, rfl⟩
        · simp only [if_pos hi2]
          obtain ⟨h8, h9⟩ := hold i y hy2 j d hd
          rw [List.getElem?_append_left (List.getElem?_eq_some_iff.1 h8).1, h8] at hcu
          rw [hcu]
          exact (o4 i y hy2 j d hd).keep fun b hb hbl => keepb b hbl (h9 b hb)
        · simp only [Nat.lt_irrefl, if_false]
          obtain ⟨v1, hv1, how⟩ := u1 j d hd
          rw [List.getElem?_append_right (by omega), hxl, Nat.add_sub_cancel_left, hv1] at hcu
          rw [hcu]
          exact how.keep fun b hb hbl => keepb b hbl (fun hh => hTv b hh (u2 j d hd b hb))
      · intro i y hy j d hd x hx
        rcases getE_append hy with ⟨hi2, hy2⟩ | ⟨rfl, rfl⟩
        · simp only [if_pos hi2] at hx
          exact .inl (o5 i y hy2 j d hd x hx)
        · simp only [Nat.lt_irrefl, if_false] at hx
          exact .inr (.inl (u2 j d hd x hx))
      · intro i y hy j d hd i' y' hy' j' d' hd' hne x hx hx'
        rcases getE_append hy with ⟨hi2, hy2⟩ | ⟨rfl, rfl⟩
        · simp only [if_pos hi2] at hx
          rcases getE_append hy' with ⟨hi2', hy2'⟩ | ⟨rfl, rfl⟩
          · simp only [if_pos hi2'] at hx'
            exact o6 i y hy2 j d hd i' y' hy2' j' d' hd' hne x hx hx'
          · simp only [Nat.lt_irrefl, if_false] at hx'
            exact hST x (o5 i y hy2 j d hd x hx) (u2 j' d' hd' x hx')
        · simp only [Nat.lt_irrefl, if_false] at hx
          rcases getE_append hy' with ⟨hi2', hy2'⟩ | ⟨hi3, rfl⟩
          · simp only [if_pos hi2'] at hx'
            exact hST x (o5 i' y' hy2' j' d' hd' x hx') (u2 j d hd x hx)
          · subst hi3
            simp only [Nat.lt_irrefl, if_false] at hx'
            exact u3 j d hd j' d' hd' (hne rfl) x hx hx'
    · intro x hx
      rcases hx with hx | hx | rfl
      · exact ⟨(hlt x hx).1, Nat.lt_of_lt_of_le (hlt x hx).2 hg.size⟩
      · exact ⟨(hT x hx).1, Nat.lt_of_lt_of_le (hT x hx).2 hg.size⟩
      · exact ⟨hbg, hgl⟩

theorem Acc.wide {E : TypeId} {base sz : Nat} {w : World} {es : List (List Tr)} {v : Value} {S : Nat → Prop} (h : Acc E base sz w es v S) : Acc E base sz w es v (fun x => base ≤ x ∧ x < w.heap.size) := h.mono (Nat.le_refl _) h.lt fun _ hx => hx
theorem Acc.blk {E : TypeId} {base sz : Nat} {w : World} {es : List (List Tr)} {v : Value} {S : Nat → Prop} (h : Acc E base sz w es v S) {x : Nat} (hx : v.ownBlock = some x) : base ≤ x ∧ x < w.heap.size := by
  rcases h.whole with ⟨rfl, -⟩ | ⟨g0, c0, u0, rfl, h1, h3, -⟩
  · simp [Value.ownBlock] at hx
  · simp [Value.ownBlock] at hx
    subst hx
    exact ⟨h1, h3.lt⟩
theorem Acc.shape {E : TypeId} {base sz : Nat} {w : World} {es : List (List Tr)} {v : Value} {S : Nat → Prop} (h : Acc E base sz w es v S) : ∃ a cap, v = .slice a es.length cap ∧ es.length ≤ cap ∧ cap ≤ maxLen := h.rep.shape
/-- The world behind an append onto a slice of our own, as seen from an elder world. -/
theorem grown_ext_own {a w w' : World} {v : Value} (h : Ext a w) (hg : w.grownBy w' v.ownBlock) (hB : ∀ x, v.ownBlock = some x → a.heap.size ≤ x) : Ext a w' := Below.grown h hg h.size hB
theorem Chg.of_grown_own {w w' : World} {v : Value} (hg : w.grownBy w' v.ownBlock) : Chg (fun b => v.ownBlock = some b) w w' :=
  ⟨hg.os, hg.tape, hg.output, hg.size, fun x hx hs => hg.block x hx (fun h => hs h.symm)⟩

theorem OB.grown_own {w w' : World} {g : Nat} {t : TypeId} {cs : Array Value} {v : Value} (h : OB w g t cs) (hg : w.grownBy w' v.ownBlock) (hne : v.ownBlock ≠ some g) : OB w' g t cs := (hg.block g h.lt (fun e => hne e.symm)).trans h

/-- append of one element onto a slice of our own. -/
theorem wpList_append_acc {P : Program} {ops : Array Oper} {rest : List Oper} {o : Oper} {a : Act} {w : World} {Q : Exit → Act → World → Prop} (hgd : o.guard = none) (s x : Operand) (t : TypeId)
    (ho : o.op = .call { callee := .builtin .append, args := #[s, x], argTypes := #[t, t] }) (E : TypeId) (sz bytes : Nat) (ht : P.underlying t = some (.slice E))
    (hi : (P.info? E).map (fun i => (i.zero.map (fun z => z.cells.size), i.size, i.bytes)) = some (some sz, sz, bytes)) (hsz : 0 < sz) (hby : bytes ≤ 100)
    (base : Nat) (es : List (List Tr)) (n : Nat) (hn : es.length = n) (v : Value) (S : Nat → Prop) (hs : a.eval s = v) (hacc : Acc E base sz w es v S)
    (e : List Tr) (cs : List Value) (T : Nat → Prop) (he : e.length = sz) (ho2 : OwnL w e cs T) (hST : ∀ x, S x → T x → False) (hT : ∀ x, T x → base ≤ x ∧ x < w.heap.size) (hTv : ∀ x, v.ownBlock = some x → ¬ T x)
    (B c : Nat) (E2 : TypeId) (hx : a.eval x = .slice (some ⟨B, 0, none⟩) 1 c) (hB : OB w B E2 ⟨cs⟩) (hlen : n ≤ 1099511627776) (hbase : base ≤ w.heap.size)
    (h : ∀ g cap w', Acc E base sz w' (es ++ [e]) (.slice (some ⟨g, 0, none⟩) (n + 1) cap) (fun x => S x ∨ T x ∨ x = g) → w.grownBy w' v.ownBlock → (v.ownBlock = some g ∨ g = w.heap.size) → g < w'.heap.size →
      wpList P ops Q rest (a.put o.dst (.slice (some ⟨g, 0, none⟩) (n + 1) cap)) w') : wpList P ops Q (o :: rest) a w := by
  subst hn
  obtain ⟨xs, hxs⟩ := hacc.owns
  cases hq : P.info? E with
  | none => simp [hq] at hi
  | some i =>
    simp only [hq, Option.map_some, Option.some.injEq, Prod.mk.injEq] at hi
    obtain ⟨h1, h2, h3⟩ := hi
    cases hz : i.zero with
    | none => simp [hz] at h1
    | some z =>
      simp only [hz, Option.map_some, Option.some.injEq] at h1
      have hcl : cs.length = sz := by rw [ho2.1, he]
      have hbb : (es.length + 1) * bytes ≤ 1099511627777 * 100 := Nat.mul_le_mul (by omega) hby
      refine wpList_append_lies w hgd s x t ho base E i z sz bytes ht hq hz h2 h3 h1 hsz v es.length xs hs hxs ⟨B, 0, none⟩ 1 c cs hx (by omega) ?_ (ho2.rep.one) (by omega) (by unfold maxLen; omega) (by omega) hbase _ rfl ?_
      · intro j u hu
        exact World.news_of_block hB j u (by simpa using hu)
      · intro g cap w' k1 k2 k3 k4
        exact h g cap w' (hacc.snoc hxs he ho2 hST hT hTv k1 k2 k3 hbase) k2 k3 k4

/-- From world w on, a slice v of our own has been appended to: by now it is v' and holds es. -/
structure AccRun (E : TypeId) (base sz : Nat) (w : World) (v : Value) (w' : World) (es : List (List Tr)) (v' : Value) : Prop where
  acc : ∃ U, Acc E base sz w' es v' U
  chg : Chg (fun b => v.ownBlock = some b) w w'
  row : ∀ b, v'.ownBlock = some b → v.ownBlock = some b ∨ w.heap.size ≤ b
theorem AccRun.refl {E : TypeId} {base sz : Nat} {w : World} {es : List (List Tr)} {v : Value} {U : Nat → Prop} (h : Acc E base sz w es v U) : AccRun E base sz w v w es v := ⟨⟨U, h⟩, Chg.refl _ _, fun _ h => .inl h⟩
theorem AccRun.ext {E : TypeId} {base sz : Nat} {w w1 w2 : World} {es : List (List Tr)} {v v' : Value} (h : AccRun E base sz w v w1 es v') (hx : Ext w1 w2) : AccRun E base sz w v w2 es v' := by
  obtain ⟨U, h1⟩ := h.acc
  exact ⟨⟨U, h1.ext hx⟩, h.chg.trans (.of_ext hx), h.row⟩
theorem AccRun.trans {E : TypeId} {base sz : Nat} {w w1 w2 : World} {es es2 : List (List Tr)} {v v1 v2 : Value} (h : AccRun E base sz w v w1 es v1) (k : AccRun E base sz w1 v1 w2 es2 v2) : AccRun E base sz w v w2 es2 v2 := by
  refine ⟨k.acc, ⟨k.chg.os.trans h.chg.os, k.chg.tape.trans h.chg.tape, k.chg.output.trans h.chg.output, Nat.le_trans h.chg.size k.chg.size, fun b hb hn => ?_⟩, fun b hb => ?_⟩
  · refine (k.chg.block b (Nat.lt_of_lt_of_le hb h.chg.size) fun h1 => ?_).trans (h.chg.block b hb hn)
    rcases h.row b h1 with h2 | h2
    · exact hn h2
    · omega
  · rcases k.row b hb with h1 | h1
    · exact h.row b h1
    · exact .inr (Nat.le_trans h.chg.size h1)
theorem AccRun.extL {E : TypeId} {base sz : Nat} {w w1 w2 : World} {es : List (List Tr)} {v v2 : Value} (hx : Ext w w1) (_hv : ∀ b, v.ownBlock = some b → b < w.heap.size) (k : AccRun E base sz w1 v w2 es v2) : AccRun E base sz w v w2 es v2 := by
  refine ⟨k.acc, (Chg.of_ext hx).trans k.chg, fun b hb => ?_⟩
  rcases k.row b hb with h1 | h1
  · exact .inl h1
  · exact .inr (Nat.le_trans hx.size h1)
theorem AccRun.snoc {E : TypeId} {base sz : Nat} {w w' : World} {es : List (List Tr)} {v v' : Value} {U : Nat → Prop} {g cap n : Nat} (hv : v' = .slice (some ⟨g, 0, none⟩) n cap) (h : Acc E base sz w' es v' U) (hg : w.grownBy w' v.ownBlock) (hgg : v.ownBlock = some g ∨ g = w.heap.size) : AccRun E base sz w v w' es v' := by
  refine ⟨⟨U, h⟩, Chg.of_grown_own hg, fun b hb => ?_⟩
  subst hv
  simp [Value.ownBlock] at hb
  subst hb
  rcases hgg with h1 | h1
  · exact .inl h1
  · exact .inr (by omega)
/-- What lies elsewhere stays. -/
theorem AccRun.ob {E : TypeId} {base sz : Nat} {w w' : World} {es : List (List Tr)} {v v' : Value} (h : AccRun E base sz w v w' es v') {B : Nat} {T : TypeId} {cs : Array Value} (hB : OB w B T cs) (hn : v.ownBlock ≠ some B) : OB w' B T cs ∧ v'.ownBlock ≠ some B := by
  refine ⟨(h.chg.block B hB.lt hn).trans hB, fun h1 => ?_⟩
  rcases h.row B h1 with h2 | h2
  · exact hn h2
  · have := hB.lt; omega
theorem AccRun.old {E : TypeId} {base sz : Nat} {w0 w w' : World} {es : List (List Tr)} {v v' : Value} (h : AccRun E base sz w v w' es v') (hx : Ext w0 w) (hv : ∀ b, v.ownBlock = some b → w0.heap.size ≤ b) : Ext w0 w' := Chg.ext hx h.chg hv

end Go.Proofs.Ytoifjkggpanceaa

namespace Go.Proofs.Ytoifjkggpanceaa
open Go.RowKit Go.Proofs

/-- A part of a block that is known whole. -/
theorem OB.part {w : World} {B : Nat} {T : TypeId} {pre cs post : List Value} (h : OB w B T ⟨pre ++ (cs ++ post)⟩) : ∀ (j : Nat) (v : Value), cs[j]? = some v → w.cell? ⟨B, pre.length + j, none⟩ = some v := by
  intro j v hv
  rw [h.cell]
  have hj : j < cs.length := (List.getElem?_eq_some_iff.1 hv).1
  change (List.toArray (pre ++ (cs ++ post)))[pre.length + j]? = some v
  rw [List.getElem?_toArray, List.getElem?_append_right (by omega), Nat.add_sub_cancel_left, List.getElem?_append_left hj, hv]

set_option maxRecDepth 100000 in
set_option maxHeartbeats 1000000 in
theorem hasGoal_c (g : GBound) (ds : List Value) (B : Nat) (x : GBound) (cs : List Value) (w : World) (hr : RepL w x.tr cs) (hB : OB w B 34 ⟨ds⟩) (hg : RepL w g.tr ds) :
    Calls Try.prog 172 (#[.agg ⟨cs⟩] ++ #[.pointer (some ⟨B, 0, none⟩)]) w fun e w' => e = .returned (.bool (GBound.eq x g)) ∧ Ext w w' := by
  have HR := Lib.hid hr
  have HG := Lib.hid hg
  have HB := Lib.hid hB
  have HI : Hid ((Try.prog.info? 34).map (·.size) = some cs.length) := by rw [← hr.length, GBound.tr_len]; exact isz34
  have HI' : Hid ((Try.prog.info? 34).map (·.size) = some ds.length) := by rw [← hg.length, GBound.tr_len]; exact isz34
  clear hr hg hB
  go_enter Try.func172, Try.ntmps172
  go_wp2_with (first
    | (refine wpList_load_rep rfl 34 (.tmp 2) rfl w.heap.size 0 rfl cs _ Try.underlying34 HI.out (OB.cells0 (OB.new w _ _)) ?_)
    | (refine wpList_load_rep rfl 34 (.tmp 1) rfl B 0 rfl ds _ Try.underlying34 HI'.out (OB.cells0 (HB.out.ext (.alloc (.refl w) _))) ?_))
  refine (eqGoal_impl x g _ _ _ (HR.out.ext (.alloc (.refl _) _)) (HG.out.ext (.alloc (.refl _) _))).mono ?_
  rintro e w1 ⟨rfl, hw1⟩
  have HW1 := Lib.hid hw1
  clear hw1
  go_wp2_with fail
  go_ret
  exact ⟨rfl, .trans (.alloc (.refl _) _) HW1.out⟩

set_option maxRecDepth 100000 in
set_option maxHeartbeats 1000000 in
theorem cacheIndex_c (g : GBound) (ds : List Value) (B : Nat) (x : GBound) (cs : List Value) (w : World) (hr : RepL w x.tr cs) (hB : OB w B 34 ⟨ds⟩) (hg : RepL w g.tr ds) :
    Calls Try.prog 136 (#[.agg ⟨cs⟩] ++ #[.pointer (some ⟨B, 0, none⟩)]) w fun e w' => e = .returned (.bool (GBound.eq x g)) ∧ Ext w w' := by
  have HR := Lib.hid hr
  have HG := Lib.hid hg
  have HB := Lib.hid hB
  have HI : Hid ((Try.prog.info? 34).map (·.size) = some cs.length) := by rw [← hr.length, GBound.tr_len]; exact isz34
  have HI' : Hid ((Try.prog.info? 34).map (·.size) = some ds.length) := by rw [← hg.length, GBound.tr_len]; exact isz34
  clear hr hg hB
  go_enter Try.func136, Try.ntmps136
  go_wp2_with (first
    | (refine wpList_load_rep rfl 34 (.tmp 2) rfl w.heap.size 0 rfl cs _ Try.underlying34 HI.out (OB.cells0 (OB.new w _ _)) ?_)
    | (refine wpList_load_rep rfl 34 (.tmp 1) rfl B 0 rfl ds _ Try.underlying34 HI'.out (OB.cells0 (HB.out.ext (.alloc (.refl w) _))) ?_))
  refine (eqGoal_impl x g _ _ _ (HR.out.ext (.alloc (.refl _) _)) (HG.out.ext (.alloc (.refl _) _))).mono ?_
  rintro e w1 ⟨rfl, hw1⟩
  have HW1 := Lib.hid hw1
  clear hw1
  go_wp2_with fail
  go_ret
  exact ⟨rfl, .trans (.alloc (.refl _) _) HW1.out⟩

set_option maxRecDepth 100000 in
set_option maxHeartbeats 1000000 in
theorem findAssumption_c (g : GBound) (ds : List Value) (B : Nat) (x : GAssumption) (cs : List Value) (w : World) (hr : RepL w x.tr cs) (hB : OB w B 34 ⟨ds⟩) (hg : RepL w g.tr ds) :
    Calls Try.prog 113 (#[.agg ⟨cs⟩] ++ #[.pointer (some ⟨B, 0, none⟩)]) w fun e w' => e = .returned (.bool (GBound.eq x.gGoal g)) ∧ Ext w w' := by
  obtain ⟨v0, v1, v2⟩ := x
  obtain ⟨x0, a2, c2, rfl, h0, -, -⟩ := GAssumption.opened hr
  simp only [GAssumption.gGoal_mk]
  have HR := Lib.hid h0
  have HG := Lib.hid hg
  have HB := Lib.hid hB
  have HI : Hid ((Try.prog.info? 34).map (·.size) = some x0.length) := by rw [← h0.length, GBound.tr_len]; exact isz34
  have HI' : Hid ((Try.prog.info? 34).map (·.size) = some ds.length) := by rw [← hg.length, GBound.tr_len]; exact isz34
  clear hr hg hB h0
  have HP : Hid (∀ (j : Nat) (v : Value), x0[j]? = some v → (w.alloc (.cells ⟨x0 ++ ([.int .i64 v1] ++ ([.slice a2 v2.length c2] ++ []))⟩ 159)).cell? ⟨w.heap.size, 0 + j, none⟩ = some v) := OB.part (pre := []) (OB.new w _ _)
  go_enter Try.func113, Try.ntmps113
  go_wp2_with (first
    | (refine wpList_load_rep rfl 34 (.tmp 4) rfl w.heap.size 0 rfl x0 _ Try.underlying34 HI.out HP.out ?_)
    | (refine wpList_load_rep rfl 34 (.tmp 1) rfl B 0 rfl ds _ Try.underlying34 HI'.out (OB.cells0 (HB.out.ext (.alloc (.refl w) _))) ?_))
  refine (eqGoal_impl v0 g _ _ _ (HR.out.ext (.alloc (.refl _) _)) (HG.out.ext (.alloc (.refl _) _))).mono ?_
  rintro e w1 ⟨rfl, hw1⟩
  have HW1 := Lib.hid hw1
  clear hw1
  go_wp2_with fail
  go_ret
  exact ⟨rfl, .trans (.alloc (.refl _) _) HW1.out⟩

set_option maxRecDepth 100000 in
set_option maxHeartbeats 1000000 in
theorem findAssumption_impl (xs : List GAssumption) (g : GBound) (v : Value) (ds : List Value) (w : World) (h : Rep w (.row 6 (GAssumption.trs xs)) v) (hg : RepL w g.tr ds) :
    Calls Try.prog 47 #[v, .agg ⟨ds⟩] w fun e w' => e = .returned (.int .i64 (idxL (fun a => GBound.eq a.gGoal g) xs 0)) ∧ Ext w w' := by
  obtain ⟨a, c, rfl, -, -⟩ := h.shape
  rw [GAssumption.trs_len] at *
  rw [GAssumption.trs_map] at h
  have HS := Lib.hid h
  have HG := Lib.hid hg
  clear h hg
  go_enter Try.func47, Try.ntmps47
  go_wp2_with fail
  refine (indexFunc_112 GAssumption.tr (fun a => GBound.eq a.gGoal g) xs 113 #[.pointer (some ⟨w.heap.size, 0, none⟩)] (run_callFunc_body Try.func113 (by kernel_rfl) (by kernel_rfl)) GAssumption.tr_len _ _
    (fun x _ cs w' hw' hr => findAssumption_c g ds w.heap.size x cs w' hr ((OB.new w _ _).ext hw') (HG.out.ext (.trans (.alloc (.refl _) _) hw'))) (HS.out.ext (.alloc (.refl _) _))).mono ?_
  rintro e w1 ⟨rfl, hw1⟩
  have HW1 := Lib.hid hw1
  clear hw1
  go_wp2_with fail
  go_ret
  exact ⟨rfl, .trans (.alloc (.refl _) _) HW1.out⟩

set_option maxRecDepth 100000 in
set_option maxHeartbeats 1000000 in
theorem findAssumption_spec (xs : List GAssumption) (g : GBound) (v : Value) (ds : List Value) (w : World) (h : Rep w (.row 6 (GAssumption.trs xs)) v) (hg : RepL w g.tr ds) :
    Calls Try.prog 45 #[v, .agg ⟨ds⟩] w fun e w' => e = .returned (.int .i64 (idxL (fun a => GBound.eq a.gGoal g) xs 0)) ∧ Ext w w' := by
  obtain ⟨a, c, rfl, hl, hm⟩ := h.shape
  rw [GAssumption.trs_len] at *
  unfold maxLen at hm
  have HS := Lib.hid h
  have HG := Lib.hid hg
  have HI' : Hid ((Try.prog.info? 34).map (·.size) = some ds.length) := by rw [← hg.length, GBound.tr_len]; exact isz34
  clear h hg
  go_enter Try.func45, Try.ntmps45
  go_wp2_with fail
  go_loopw [5] (fun i wr => ∃ k : Nat, k ≤ xs.length ∧ i = .int .i64 k ∧ Ext w wr ∧ Hid (OB wr w.heap.size 34 ⟨ds⟩) ∧ Hid (idxL (fun a => GBound.eq a.gGoal g) xs 0 = idxL (fun a => GBound.eq a.gGoal g) (xs.drop k) k)) (fun i _ => xs.length - (intOf i).toNat)
  case atStart => exact ⟨0, Nat.zero_le _, rfl, .alloc (.refl _) _, OB.new w _ _, rfl⟩
  case round =>
    obtain ⟨k, hk, rfl, hw, HB, HE⟩ := hrel
    by_cases hlt : k < xs.length
    · obtain ⟨b, off, cs, rfl, hb, hcs, hc⟩ := (HS.out.ext hw).at2 (k := k) (GAssumption.trs_get hlt)
      have HST := Lib.hid (idxL_step (p := fun a => GBound.eq a.gGoal g) hlt)
      have hki := hlt
      generalize xs[k] = z at *
      obtain ⟨v0, v1, v2⟩ := z
      obtain ⟨x0, a2, c2, rfl, h0, -, -⟩ := GAssumption.opened hcs
      have HI : Hid ((Try.prog.info? 34).map (·.size) = some x0.length) := by rw [← h0.length, GBound.tr_len]; exact isz34
      have HC : Hid (∀ W, Ext wr W → ∀ (j : Nat) (v : Value), x0[j]? = some v → W.cell? ⟨b, off + k * 6 + 0 + j, none⟩ = some v) := by
        intro W hW j v hv
        refine (hW.cell (p := ⟨b, off + k * 6 + 0 + j, none⟩) hb).trans (hc j v ?_)
        have hj : j < x0.length := (List.getElem?_eq_some_iff.1 hv).1
        rw [List.getElem?_append_left hj, hv]
      have HR := Lib.hid h0
      simp only [GAssumption.gGoal_mk] at HST
      clear hcs hc h0
      go_wp2_with fail
      refine wp_region_held_drew (S := Ext wr) (by kernel_rfl) ?_ (fun hHeld => ?_)
      · exact .drew (.refl _)
      refine wpAnyH_take (i := 0) rfl (by kernel_rfl) (by kernel_rfl) (by kernel_rfl) (fun _ _ _ h => h) (.inl ⟨rfl, fun _ _ => rfl⟩) (by assumption) ?_
      simp only [Act.put, List.getElem_toArray, List.getElem_cons_zero, List.setIfInBounds_toArray, List.set_cons_zero, List.set_cons_succ]
      refine wpAnyH_take (i := 1) rfl (by kernel_rfl) (by kernel_rfl) (by kernel_rfl) (fun _ _ _ h => h) (.inl ⟨rfl, fun _ _ => rfl⟩) (by assumption) ?_
      simp only [Act.put, List.getElem_toArray, List.getElem_cons_zero, List.getElem_cons_succ, List.setIfInBounds_toArray, List.set_cons_zero, List.set_cons_succ]
      refine wpAnyH_index (i := 2) rfl (by kernel_rfl) (by kernel_rfl) (by kernel_rfl) rfl 82 (.tmp 12) (.tmp 13) rfl (b) (off) (xs.length) (c) (k) (6) rfl rfl (hki) Try.underlying82 (by kernel_rfl) (by assumption) (fun _ _ _ _ h => h) ?_
      simp only [Act.put, List.getElem_toArray, List.getElem_cons_zero, List.getElem_cons_succ, List.setIfInBounds_toArray, List.set_cons_zero, List.set_cons_succ]
      refine wpAnyH_take (i := 3) rfl (by kernel_rfl) (by kernel_rfl) (by kernel_rfl) (fun _ _ _ h => h) (.inl ⟨rfl, fun _ _ => rfl⟩) (by assumption) ?_
      simp only [Act.put, List.getElem_toArray, List.getElem_cons_zero, List.getElem_cons_succ, List.setIfInBounds_toArray, List.set_cons_zero, List.set_cons_succ]
      refine wpAnyH_load_rep (i := 4) rfl (by kernel_rfl) (by kernel_rfl) (by kernel_rfl) (fun _ _ _ h => h) rfl 34 (.tmp 15) rfl (b) (off + k * 6 + 0) rfl x0 _ Try.underlying34 HI.out (fun W hW => HC.out W hW) (by assumption) (fun _ _ _ _ h => h) ?_
      simp only [Act.put, List.getElem_toArray, List.getElem_cons_zero, List.getElem_cons_succ, List.setIfInBounds_toArray, List.set_cons_zero, List.set_cons_succ]
      refine wpAnyH_load_rep (i := 5) rfl (by kernel_rfl) (by kernel_rfl) (by kernel_rfl) (fun _ _ _ h => h) rfl 34 (.tmp 3) rfl (w.heap.size) (0) rfl ds _ Try.underlying34 HI'.out (fun W hW => OB.cells0 (HB.out.ext hW)) (by assumption) (fun _ _ _ _ h => h) ?_
      simp only [Act.put, List.getElem_toArray, List.getElem_cons_zero, List.getElem_cons_succ, List.setIfInBounds_toArray, List.set_cons_zero, List.set_cons_succ]
      refine wpAnyH_call (i := 6) (by kernel_rfl) rfl rfl (run_call_func rfl rfl #[.agg ⟨x0⟩, .agg ⟨ds⟩] (by simp only [List.map_toArray, List.map_cons, List.map_nil, Act.eval]; rfl) Try.func110 (by kernel_rfl) (by kernel_rfl) _) (eqGoal_spec v0 g _ _ _ (HR.out.ext hHeld) (HG.out.ext (hw.trans hHeld))) ?_
      rintro e w1 ⟨rfl, hw1⟩
      have hs1 := Ext.trans hHeld hw1
      refine ⟨_, rfl, hs1, ?_⟩
      simp only [Act.put, List.getElem_toArray, List.getElem_cons_zero, List.getElem_cons_succ, List.setIfInBounds_toArray, List.set_cons_zero, List.set_cons_succ]
      refine wpAnyH_done (by kernel_rfl) ?_ _
      clear hHeld
      have HW1 := Lib.hid (hw.trans hs1)
      have HB1 := Lib.hid (HB.out.ext hs1)
      clear hs1 hw1
      cases hq : GBound.eq v0 g
      · have HQ := Lib.hid hq
        clear hq
        go_wp2_with fail
        go_roundw
        case rel => exact ⟨k + 1, by omega, by go_num, HW1.out, HB1.out, by show _ = _; rw [HE.out, HST.out]; simp [HQ.out]⟩
        case measure => simp [intOf]; omega
      · have HQ := Lib.hid hq
        clear hq
        go_wp2_with fail
        go_ret
        exact ⟨ret_int (by rw [HE.out, HST.out]; simp [HQ.out]), HW1.out⟩
    · have hkl : k = xs.length := by omega
      go_wp2_with fail
      go_ret
      exact ⟨ret_int (by rw [HE.out, hkl, List.drop_length]; rfl), hw⟩

set_option maxRecDepth 100000 in
set_option maxHeartbeats 1000000 in
theorem hasGoal_impl (xs : List GBound) (g : GBound) (v : Value) (ds : List Value) (w : World) (h : Rep w (.row 4 (GBound.trs xs)) v) (hg : RepL w g.tr ds) :
    Calls Try.prog 119 #[v, .agg ⟨ds⟩] w fun e w' => e = .returned (.bool (xs.any (fun a => GBound.eq a g))) ∧ Ext w w' := by
  obtain ⟨a, c, rfl, -, -⟩ := h.shape
  rw [GBound.trs_len] at *
  rw [GBound.trs_map] at h
  have HS := Lib.hid h
  have HG := Lib.hid hg
  clear h hg
  go_enter Try.func119, Try.ntmps119
  go_wp2_with fail
  refine (containsFunc_128 GBound.tr (fun a => GBound.eq a g) xs 172 #[.pointer (some ⟨w.heap.size, 0, none⟩)] (run_callFunc_body Try.func172 (by kernel_rfl) (by kernel_rfl)) GBound.tr_len _ _
    (fun x _ cs w' hw' hr => hasGoal_c g ds w.heap.size x cs w' hr ((OB.new w _ _).ext hw') (HG.out.ext (.trans (.alloc (.refl _) _) hw'))) (HS.out.ext (.alloc (.refl _) _))).mono ?_
  rintro e w1 ⟨rfl, hw1⟩
  have HW1 := Lib.hid hw1
  clear hw1
  go_wp2_with fail
  go_ret
  exact ⟨rfl, .trans (.alloc (.refl _) _) HW1.out⟩

set_option maxRecDepth 100000 in
set_option maxHeartbeats 1000000 in
theorem cacheIndex_impl (x : GCache) (g : GBound) (cs ds : List Value) (w : World) (h : RepL w x.tr cs) (hg : RepL w g.tr ds) :
    Calls Try.prog 63 #[.agg ⟨cs⟩, .agg ⟨ds⟩] w fun e w' => e = .returned (.int .i64 (idxL (fun a => GBound.eq a g) x.gGoals 0)) ∧ Ext w w' := by
  obtain ⟨xs, v1, v2⟩ := x
  obtain ⟨a0, c0, a1, c1, a2, c2, rfl, h0, -, -⟩ := GCache.opened h
  rw [GBound.trs_map] at h0
  simp only [GCache.gGoals_mk]
  have HS := Lib.hid h0
  have HG := Lib.hid hg
  clear h h0 hg
  simp only [List.cons_append, List.nil_append]
  go_enter Try.func63, Try.ntmps63
  go_wp2_with fail
  have h2 := Two.new w 104 34 #[.slice a0 xs.length c0, .slice a1 v1.length c1, .slice a2 v2.length c2] ⟨ds⟩
  refine (indexFunc_135 GBound.tr (fun a => GBound.eq a g) xs 136 #[.pointer (some ⟨w.heap.size + 1, 0, none⟩)] (run_callFunc_body Try.func136 (by kernel_rfl) (by kernel_rfl)) GBound.tr_len _ _
    (fun x _ cs w' hw' hr => cacheIndex_c g ds (w.heap.size + 1) x cs w' hr (h2.o1.ext hw') (HG.out.ext (.trans (.alloc (.alloc (.refl _) _) _) hw'))) (HS.out.ext (.alloc (.alloc (.refl _) _) _))).mono ?_
  rintro e w1 ⟨rfl, hw1⟩
  have HW1 := Lib.hid hw1
  clear hw1 h2
  go_wp2_with fail
  go_ret
  exact ⟨rfl, .trans (.alloc (.alloc (.refl _) _) _) HW1.out⟩

set_option maxRecDepth 100000 in
set_option maxHeartbeats 1000000 in
theorem cacheIndex_spec (x : GCache) (g : GBound) (cs ds : List Value) (w : World) (h : RepL w x.tr cs) (hg : RepL w g.tr ds) :
    Calls Try.prog 61 #[.agg ⟨cs⟩, .agg ⟨ds⟩] w fun e w' => e = .returned (.int .i64 (idxL (fun a => GBound.eq a g) x.gGoals 0)) ∧ Ext w w' := by
  obtain ⟨xs, v1, v2⟩ := x
  obtain ⟨a, c, a1, c1, a2, c2, rfl, h0, -, -⟩ := GCache.opened h
  obtain ⟨hl, hm, -⟩ := h0.lens
  simp only [GCache.gGoals_mk]
  have HS := Lib.hid h0
  have HG := Lib.hid hg
  have HI' : Hid ((Try.prog.info? 34).map (·.size) = some ds.length) := by rw [← hg.length, GBound.tr_len]; exact isz34
  clear h h0 hg
  simp only [List.cons_append, List.nil_append]
  have h2 := Two.new w 104 34 #[.slice a xs.length c, .slice a1 v1.length c1, .slice a2 v2.length c2] ⟨ds⟩
  have H2 := Lib.hid h2
  clear h2
  go_enter Try.func61, Try.ntmps61
  go_wp2_with fail
  go_loopw [5] (fun i wr => ∃ k : Nat, k ≤ xs.length ∧ i = .int .i64 k ∧ Ext w wr ∧ Hid (Two wr w.heap.size 104 #[.slice a xs.length c, .slice a1 v1.length c1, .slice a2 v2.length c2] (w.heap.size + 1) 34 ⟨ds⟩) ∧ Hid (idxL (fun a => GBound.eq a g) xs 0 = idxL (fun a => GBound.eq a g) (xs.drop k) k)) (fun i _ => xs.length - (intOf i).toNat)
  case atStart => exact ⟨0, Nat.zero_le _, rfl, .alloc (.alloc (.refl _) _) _, H2.out, rfl⟩
  case round =>
    obtain ⟨k, hk, rfl, hw, HB, HE⟩ := hrel
    have hce := HB.out.o0.cell 0
    by_cases hlt : k < xs.length
    · obtain ⟨b, off, cs, rfl, hb, hcs, hc⟩ := (HS.out.ext hw).at2 (k := k) (GBound.trs_get hlt)
      have HST := Lib.hid (idxL_step (p := fun a => GBound.eq a g) hlt)
      have hki := hlt
      generalize xs[k] = z at *
      have HI : Hid ((Try.prog.info? 34).map (·.size) = some cs.length) := by rw [← hcs.length, GBound.tr_len]; exact isz34
      have HC : Hid (∀ W, Ext wr W → ∀ (j : Nat) (v : Value), cs[j]? = some v → W.cell? ⟨b, off + k * 4 + j, none⟩ = some v) := fun W hW j v hv => (hW.cell (p := ⟨b, off + k * 4 + j, none⟩) hb).trans (hc j v hv)
      have HCE : Hid (∀ W, Ext wr W → W.cell? ⟨w.heap.size, 0, none⟩ = some (.slice (some ⟨b, off, none⟩) xs.length c)) := fun W hW => (HB.out.o0.ext hW).cell 0
      have HR := Lib.hid hcs
      clear hcs hc
      go_wp2_with fail
      refine wp_region_held_drew (S := Ext wr) (by kernel_rfl) ?_ (fun hHeld => ?_)
      · exact .drew (.refl _)
      refine wpAnyH_take (i := 0) rfl (by kernel_rfl) (by kernel_rfl) (by kernel_rfl) (fun _ _ _ h => h) (.inl ⟨rfl, fun _ _ => rfl⟩) (by assumption) ?_
      simp only [Act.put, List.getElem_toArray, List.getElem_cons_zero, List.setIfInBounds_toArray, List.set_cons_zero, List.set_cons_succ]
      refine wpAnyH_cell (i := 1) rfl (by kernel_rfl) (by kernel_rfl) (by kernel_rfl) rfl 86 (.tmp 13) rfl (w.heap.size) (0) rfl (.slice (some ⟨b, off, none⟩) xs.length c) _ Try.underlying86 rfl (fun W hW => HCE.out W hW) (by assumption) (fun _ _ _ _ h => h) ?_
      simp only [Act.put, List.getElem_toArray, List.getElem_cons_zero, List.getElem_cons_succ, List.setIfInBounds_toArray, List.set_cons_zero, List.set_cons_succ]
      refine wpAnyH_take (i := 2) rfl (by kernel_rfl) (by kernel_rfl) (by kernel_rfl) (fun _ _ _ h => h) (.inl ⟨rfl, fun _ _ => rfl⟩) (by assumption) ?_
      simp only [Act.put, List.getElem_toArray, List.getElem_cons_zero, List.getElem_cons_succ, List.setIfInBounds_toArray, List.set_cons_zero, List.set_cons_succ]
      refine wpAnyH_index (i := 3) rfl (by kernel_rfl) (by kernel_rfl) (by kernel_rfl) rfl 86 (.tmp 14) (.tmp 15) rfl (b) (off) (xs.length) (c) (k) (4) rfl rfl (hki) Try.underlying86 (by kernel_rfl) (by assumption) (fun _ _ _ _ h => h) ?_
      simp only [Act.put, List.getElem_toArray, List.getElem_cons_zero, List.getElem_cons_succ, List.setIfInBounds_toArray, List.set_cons_zero, List.set_cons_succ]
      refine wpAnyH_load_rep (i := 4) rfl (by kernel_rfl) (by kernel_rfl) (by kernel_rfl) (fun _ _ _ h => h) rfl 34 (.tmp 16) rfl (b) (off + k * 4) rfl cs _ Try.underlying34 HI.out (fun W hW => HC.out W hW) (by assumption) (fun _ _ _ _ h => h) ?_
      simp only [Act.put, List.getElem_toArray, List.getElem_cons_zero, List.getElem_cons_succ, List.setIfInBounds_toArray, List.set_cons_zero, List.set_cons_succ]
      refine wpAnyH_load_rep (i := 5) rfl (by kernel_rfl) (by kernel_rfl) (by kernel_rfl) (fun _ _ _ h => h) rfl 34 (.tmp 3) rfl (w.heap.size + 1) (0) rfl ds _ Try.underlying34 HI'.out (fun W hW => OB.cells0 (HB.out.o1.ext hW)) (by assumption) (fun _ _ _ _ h => h) ?_
      simp only [Act.put, List.getElem_toArray, List.getElem_cons_zero, List.getElem_cons_succ, List.setIfInBounds_toArray, List.set_cons_zero, List.set_cons_succ]
      refine wpAnyH_call (i := 6) (by kernel_rfl) rfl rfl (run_call_func rfl rfl #[.agg ⟨cs⟩, .agg ⟨ds⟩] (by simp only [List.map_toArray, List.map_cons, List.map_nil, Act.eval]; rfl) Try.func110 (by kernel_rfl) (by kernel_rfl) _) (eqGoal_spec z g _ _ _ (HR.out.ext hHeld) (HG.out.ext (hw.trans hHeld))) ?_
      rintro e w1 ⟨rfl, hw1⟩
      have hs1 := Ext.trans hHeld hw1
      refine ⟨_, rfl, hs1, ?_⟩
      simp only [Act.put, List.getElem_toArray, List.getElem_cons_zero, List.getElem_cons_succ, List.setIfInBounds_toArray, List.set_cons_zero, List.set_cons_succ]
      refine wpAnyH_done (by kernel_rfl) ?_ _
      clear hHeld
      have HW1 := Lib.hid (hw.trans hs1)
      have HB1 := Lib.hid (HB.out.ext hs1)
      clear hs1 hw1 hce
      cases hq : GBound.eq z g
      · have HQ := Lib.hid hq
        clear hq
        go_wp2_with fail
        go_roundw
        case rel => exact ⟨k + 1, by omega, by go_num, HW1.out, HB1.out, by show _ = _; rw [HE.out, HST.out]; simp [HQ.out]⟩
        case measure => simp [intOf]; omega
      · have HQ := Lib.hid hq
        clear hq
        go_wp2_with fail
        go_ret
        exact ⟨ret_int (by rw [HE.out, HST.out]; simp [HQ.out]), HW1.out⟩
    · have hkl : k = xs.length := by omega
      go_wp2_with fail
      go_ret
      exact ⟨ret_int (by rw [HE.out, hkl, List.drop_length]; rfl), hw⟩

end Go.Proofs.Ytoifjkggpanceaa

namespace Go.Proofs.Ytoifjkggpanceaa
open Go.RowKit Go.Proofs

set_option maxRecDepth 100000 in
set_option maxHeartbeats 1000000 in
theorem copiesType_impl_of (l : List GType) (H : ∀ x ∈ l, ToC 118 x.tr) : ToSC 171 3 (GType.trs l) := by
  intro s w hs hbk
  obtain ⟨a, cap, rfl, hl, hm⟩ := hs.shape
  rw [GType.trs_len] at *
  unfold maxLen at hm
  have HS := Lib.hid hs
  have HH := Lib.hid H
  have n0 : (0 : Int) ≤ l.length := by omega
  clear hs H
  go_enter Try.func171, Try.ntmps171
  go_wp2_with (refine wpList_make_rep rfl 30 (.tmp 7) rfl l.length rfl 32 Try.underlying30 3 48 iszb32 (by omega) (by omega) ?_; intro wm arr0 ha0 hob0 hx0 hz0; have HA0 := Lib.hid ha0; have HOB0 := Lib.hid hob0; have HX0 := Lib.hid hx0; have HZ0 := Lib.hid hz0; clear ha0 hob0 hx0 hz0)
  go_loopw [11] (fun i wr => ∃ (k : Nat) (arr : Array Value), k ≤ l.length ∧ i = .int .i64 k ∧ Ext w wr ∧ w.heap.size < wr.heap.size ∧ Hid (OB wr w.heap.size 32 arr) ∧ Hid (arr.size = (GType.trs l).length * 3) ∧ Hid (Part wr w.heap.size arr 3 (GType.trs l) k)) (fun i _ => l.length - (intOf i).toNat)
  case atStart => exact ⟨0, arr0, Nat.zero_le _, rfl, HX0.out, by rw [HZ0.out]; omega, HOB0.out, by show _ = _; rw [GType.trs_len]; exact HA0.out, Part.zero _ _ _ _ _⟩
  case round =>
    obtain ⟨k, arr, hk, rfl, hw, hgt, HOB, HAS, HP⟩ := hrel
    by_cases hlt : k < l.length
    · obtain ⟨b, off, cs, rfl, hb, hcs, hc⟩ := (HS.out.ext hw).at2 (k := k) (GType.trs_get hlt)
      have HM := Lib.hid (List.getElem_mem hlt)
      have HCS := Lib.hid hcs
      have HC := Lib.hid hc
      have HI : Hid ((Try.prog.info? 32).map (·.size) = some cs.length) := by rw [← hcs.length, GType.tr_len]; exact isz32
      have HCL : Hid (cs.length = 3) := by rw [← hcs.length, GType.tr_len]; rfl
      clear hcs hc
      have hbe : Tr.bulkL (l[k]).tr ≤ Tr.bulkAll (GType.trs l) := by
        have h1 : k < (GType.trs l).length := by rw [GType.trs_len]; exact hlt
        have h2 := Tr.bulkAll_le h1
        have h3 : (GType.trs l)[k] = (l[k]).tr := by have h4 := GType.trs_get hlt; rw [List.getElem?_eq_getElem h1] at h4; exact Option.some.inj h4
        rwa [h3] at h2
      have hbs : Tr.bulkL (l[k]).tr ≤ 68719476736 := by omega
      clear hbe
      go_wp2_with (first
        | (refine wpList_load_rep rfl 32 (.tmp 14) rfl b (off + k * 3) rfl cs _ Try.underlying32 HI.out HC.out ?_)
        | (refine wpList_store_rep rfl 32 (.tmp 5) (.tmp 15) rfl wr.heap.size 0 rfl cs rfl 32 _ (OB.new wr _ _) HI.out (by rw [HCL.out]; exact Nat.le_refl _) HCS.out.one ?_; intro wb hob hgb hzb; rw [splice_whole (by rw [HCL.out]; rfl)] at hob; have HOBV := Lib.hid hob; have HXBV := Lib.hid (grown_ext (.alloc (.refl wr) _) hgb (Nat.le_refl _)); clear hob hgb hzb)
        | (refine wpList_load_rep rfl 32 (.tmp 5) rfl wr.heap.size 0 rfl cs _ Try.underlying32 HI.out HOBV.out.cells0 ?_))
      refine (HH.out _ HM.out _ _ (HCS.out.ext HXBV.out) hbs).mono ?_
      rintro e w1 ⟨cs1, rfl, hw1, ho1⟩
      have HW1 := Lib.hid (HXBV.out.trans hw1)
      have HO1 := Lib.hid (ho1.mono (S' := Between wr w1) fun x hx => ⟨Nat.le_trans HXBV.out.size hx.1, hx.2⟩)
      have HCL1 : Hid (cs1.length = 3) := ho1.1.trans (GType.tr_len _)
      have HF : Hid (0 + k * 3 + cs1.length ≤ arr.size) := by have h1 := HAS.out; have h2 := HCL1.out; rw [GType.trs_len] at h1; show _ ≤ _; omega
      clear hw1 ho1
      go_wp2_with (refine wpList_store_rep rfl 32 (.tmp 20) (.tmp 19) rfl w.heap.size (k * 3) rfl cs1 rfl 32 arr (HOB.out.ext HW1.out) (by rw [HCL1.out]; exact isz32) (by have := HF.out; omega) (HO1.out.rep.one) ?_; intro w2 hob2 hg2 hz2; have HOB2 := Lib.hid hob2; have HG2 := Lib.hid hg2; have HZ2 := Lib.hid hz2; clear hob2 hg2 hz2)
      go_roundw
      case rel =>
        have hfit : k * 3 + cs1.length ≤ arr.size := by have := HF.out; omega
        refine ⟨k + 1, _, by omega, by go_num, ?_, ?_, HOB2.out, by show _ = _; rw [splice_size hfit]; exact HAS.out, HP.out.step hgt HW1.out (GType.trs_get hlt) HO1.out HCL1.out HAS.out HG2.out HOB2.out⟩
        · exact grown_ext (hw.trans HW1.out) HG2.out (Nat.le_refl _)
        · have := HW1.out.size
          have := HZ2.out
          omega
      case measure => simp [intOf]; omega
    · have hkl : k = (GType.trs l).length := by rw [GType.trs_len]; omega
      go_wp2_with fail
      go_ret
      subst hkl
      have := (HP.out.done HOB.out (GType.sz l) (Nat.le_refl _) (by rw [GType.trs_len]; unfold maxLen; omega) (Nat.le_refl _)).mono (S' := Between w wr) fun x hx => ⟨hx.1, hx.2⟩
      rw [GType.trs_len] at this
      exact ⟨_, rfl, hw, this⟩

set_option maxRecDepth 100000 in
set_option maxHeartbeats 1000000 in
theorem copyType_impl : ∀ x : GType, ToC 118 x.tr := by
  refine GType.ind fun v0 v1 xs ih => ?_
  intro cs w hr hbk
  obtain ⟨a, c, rfl, k0, k1, h3⟩ := GType.opened hr
  have hbk2 : xs.length + Tr.bulkAll (GType.trs xs) ≤ 68719476736 := by
    simp only [GType.tr, Tr.bulkL_append, Tr.bulkL, Tr.bulk, GType.trs_len] at hbk
    omega
  have HCC := Lib.hid (copiesType_impl_of xs ih)
  have HS := Lib.hid h3
  have K0 := Lib.hid k0
  have K1 := Lib.hid k1
  have HL : Hid (Tr.bulkAll (GType.trs xs) + (GType.trs xs).length ≤ 68719476736) := by show _ ≤ _; rw [GType.trs_len]; omega
  clear hr h3 ih hbk hbk2 k0 k1
  simp only [List.cons_append, List.nil_append] at *
  go_enter Try.func118, Try.ntmps118
  go_wp2_with fail
  refine (HCC.out _ _ (HS.out.ext (.alloc (.alloc (.refl _) _) _)) (by have := HL.out; omega)).mono ?_
  rintro e w1 ⟨s', rfl, hw1, ho1⟩
  obtain ⟨da, dc, rfl, -, -⟩ := ho1.rep.shape
  rw [GType.trs_len] at *
  have h2w := (Two.new w 32 32 #[.int .i64 v0, .string v1, .slice a xs.length c] #[.int .i64 0, .string ⟨#[]⟩, .slice none 0 0]).ext hw1
  have H2 := Lib.hid h2w
  have HW1 := Lib.hid hw1
  have HO1 := Lib.hid ho1
  have hzz : w.heap.size + 1 < w1.heap.size := h2w.o1.lt
  clear h2w hw1 ho1
  have hone : Hid (∀ v ∈ ([.int .i64 v0, .string v1, .slice da xs.length dc] : List Value), v.oneCell' = true) := by
    intro v hv
    simp only [List.mem_cons, List.not_mem_nil, or_false] at hv
    rcases hv with rfl | rfl | rfl <;> rfl
  go_wp2_with (first
    | (refine wpList_store_cell rfl 30 (.tmp 6) (.tmp 5) rfl w.heap.size 2 rfl (.slice da xs.length dc) rfl rfl 32 _ H2.out.o0 isz30 (by simp) rfl ?_; intro w2 hob hg hz; have HOB := Lib.hid (show OB w2 w.heap.size 32 ⟨[.int .i64 v0, .string v1, .slice da xs.length dc]⟩ from hob); have HR2 := Lib.hid (H2.out.o1.grown hg (by omega)); have HG2 := Lib.hid hg; have hq2 : w1.heap.size = w2.heap.size := hz.symm; clear hob hg hz)
    | (refine wpList_load_rep rfl 32 (.tmp 1) rfl w.heap.size 0 rfl [.int .i64 v0, .string v1, .slice da xs.length dc] _ Try.underlying32 isz32 (OB.cells0 HOB.out) ?_)
    | (refine wpList_store_rep rfl 32 (.tmp 2) (.tmp 7) rfl (w.heap.size + 1) 0 rfl [.int .i64 v0, .string v1, .slice da xs.length dc] rfl 32 _ HR2.out isz32 (by simp) hone.out ?_; intro w3 hob hg hz; have HOB3 := Lib.hid (show OB w3 (w.heap.size + 1) 32 ⟨[.int .i64 v0, .string v1, .slice da xs.length dc]⟩ from hob); have HG3 := Lib.hid hg; have hq3 : w2.heap.size = w3.heap.size := hz.symm; clear hob hg hz))
  have hx3 : Ext w w3 := grown_ext (grown_ext (Ext.trans (.alloc (.alloc (.refl _) _) _) HW1.out) HG2.out (by omega)) HG3.out (by omega)
  refine bodyPost_ret (results_cell_row Try.results118 _ _ (w.heap.size + 1) 32 ⟨[.int .i64 v0, .string v1, .slice da xs.length dc]⟩ _ _ rfl HOB3.out Try.underlying32 rfl isz32) rfl ⟨[.int .i64 v0, .string v1, .slice da xs.length dc], rfl, hx3, ?_⟩
  have ow := HO1.out.keeps (lo := w.heap.size + 1 + 1) (Keeps.trans (Keeps.of_grown HG2.out (by omega)) (Keeps.of_grown HG3.out (by omega))) (by intro x hx; have := hx.1; simp only [World.size_alloc] at this; omega)
  have hall := OwnL.cons_leaf K0.out (OwnL.cons_leaf K1.out (OwnL.one ow))
  exact hall.mono (by intro x hx; have h1 := hx.1; have h2 := hx.2; simp only [World.size_alloc] at h1; exact ⟨by omega, by omega⟩)
theorem copiesType_impl (l : List GType) : ToSC 171 3 (GType.trs l) := copiesType_impl_of l fun x _ => copyType_impl x

set_option maxRecDepth 100000 in
set_option maxHeartbeats 1000000 in
theorem copiesType_spec_of (l : List GType) (H : ∀ x ∈ l, ToC 170 x.tr) : ToSC 204 3 (GType.trs l) := by
  intro s w hs hbk
  obtain ⟨a, cap, rfl, hl, hm⟩ := hs.shape
  rw [GType.trs_len] at *
  unfold maxLen at hm
  have HS := Lib.hid hs
  have HH := Lib.hid H
  clear hs H
  go_enter Try.func204, Try.ntmps204
  go_wp2_with fail
  have ha0 : Acc 32 w.heap.size 3 (w.alloc (.cells #[] 32)) ((GType.trs l).take 0) (.slice (some ⟨w.heap.size, 0, none⟩) 0 0) (fun _ => False) := by rw [List.take_zero]; exact Acc.empty (Nat.le_refl _) (OB.new w _ _) (by unfold maxLen; omega) rfl
  have HA0 := Lib.hid ha0
  clear ha0
  go_loopw [3, 4] (fun v i wr => ∃ (k : Nat) (a' : Option Addr) (c' : Nat), k ≤ l.length ∧ i = .int .i64 k ∧ v = .slice a' k c' ∧ Ext w wr ∧ Hid (∃ U, Acc 32 w.heap.size 3 wr ((GType.trs l).take k) (.slice a' k c') U)) (fun _ i _ => l.length - (intOf i).toNat)
  case atStart => exact ⟨0, _, _, Nat.zero_le _, rfl, rfl, .alloc (.refl _) _, ⟨_, HA0.out⟩⟩
  case round =>
    obtain ⟨k, a', c', hk, rfl, rfl, hw, HA⟩ := hrel
    by_cases hlt : k < l.length
    · obtain ⟨b, off, cs, rfl, hb, hcs, hc⟩ := (HS.out.ext hw).at2 (k := k) (GType.trs_get hlt)
      have HM := Lib.hid (List.getElem_mem hlt)
      have HCS := Lib.hid hcs
      have HC := Lib.hid hc
      have HI : Hid ((Try.prog.info? 32).map (·.size) = some cs.length) := by rw [← hcs.length, GType.tr_len]; exact isz32
      have HCL : Hid (cs.length = 3) := by rw [← hcs.length, GType.tr_len]; rfl
      clear hcs hc
      have hbe : Tr.bulkL (l[k]).tr ≤ Tr.bulkAll (GType.trs l) := by
        have h1 : k < (GType.trs l).length := by rw [GType.trs_len]; exact hlt
        have h2 := Tr.bulkAll_le h1
        have h3 : (GType.trs l)[k] = (l[k]).tr := by have h4 := GType.trs_get hlt; rw [List.getElem?_eq_getElem h1] at h4; exact Option.some.inj h4
        rwa [h3] at h2
      have hbs : Tr.bulkL (l[k]).tr ≤ 68719476736 := by omega
      clear hbe
      have HTL : Hid (((GType.trs l).take k).length = k) := by show _ = _; rw [List.length_take, GType.trs_len]; omega
      have HTK : Hid ((GType.trs l).take k ++ [(l[k]).tr] = (GType.trs l).take (k + 1)) := by
        show _ = _
        have h1 : k < (GType.trs l).length := by rw [GType.trs_len]; exact hlt
        have h3 : (GType.trs l)[k] = (l[k]).tr := by have h4 := GType.trs_get hlt; rw [List.getElem?_eq_getElem h1] at h4; exact Option.some.inj h4
        rw [List.take_succ_eq_append_getElem h1, h3]
      have HXL := Lib.hid (GType.tr_len l[k])
      generalize l[k] = x at *
      go_wp2_with (refine wpList_load_rep rfl 32 (.tmp 15) rfl b (off + k * 3) rfl cs _ Try.underlying32 HI.out HC.out ?_)
      refine (HH.out _ HM.out _ _ HCS.out hbs).mono ?_
      rintro e w1 ⟨cs1, rfl, hw1, ho1⟩
      obtain ⟨d0, d1, d2, rfl⟩ := list3 (ho1.1.trans HXL.out)
      obtain ⟨U, hu⟩ := HA.out
      have HU := Lib.hid hu
      have HW1 := Lib.hid hw1
      have HO1 := Lib.hid ho1
      have hw0 : w.heap.size ≤ wr.heap.size := hw.size
      have hw01 : wr.heap.size ≤ w1.heap.size := hw1.size
      clear hw1 ho1 hu
      go_wp2_with (refine wpList_append_acc rfl (.tmp 12) (.tmp 18) 30 rfl 32 3 48 Try.underlying30 iszc32 (by omega) (by omega) w.heap.size ((GType.trs l).take k) k HTL.out (.slice a' k c') U rfl ((HU.out.ext HW1.out).ext (.alloc (.refl _) _)) x.tr [d0, d1, d2] (Between wr w1) HXL.out (HO1.out.ext (.alloc (.refl _) _)) (fun b h1 h2 => by have := (HU.out.lt b h1).2; have := h2.1; omega) (fun b h => by have h1 := h.1; have h2 := h.2; simp only [World.size_alloc]; omega) (fun b h1 h2 => by have := (HU.out.blk h1).2; have := h2.1; omega) w1.heap.size 1 32 rfl (OB.new w1 _ _) (by omega) (by simp only [World.size_alloc]; omega) ?_; intro g gc wb hacc hgb hgg hgl; rw [HTK.out] at hacc; have HACC := Lib.hid hacc; have HGB := Lib.hid hgb; clear hacc hgb hgg)
      go_roundw
      case rel =>
        refine ⟨k + 1, some ⟨g, 0, none⟩, gc, by omega, by go_num, rfl, ?_, ⟨_, HACC.out⟩⟩
        exact grown_ext_own ((hw.trans HW1.out).trans (.alloc (.refl _) _)) HGB.out (fun b hb => (HU.out.blk hb).1)
      case measure => simp [intOf]; omega
    · have hkl : k = (GType.trs l).length := by rw [GType.trs_len]; omega
      obtain ⟨U, hu⟩ := HA.out
      have HU := Lib.hid hu
      clear hu
      go_wp2_with fail
      go_ret
      refine ⟨_, rfl, hw, ?_⟩
      have := HU.out.own
      rw [hkl, List.take_length] at this
      rw [hkl]
      exact this.mono fun b hb => HU.out.lt b hb

set_option maxRecDepth 100000 in
set_option maxHeartbeats 1000000 in
theorem copyType_spec : ∀ x : GType, ToC 170 x.tr := by
  refine GType.ind fun v0 v1 xs ih => ?_
  intro cs w hr hbk
  obtain ⟨a, c, rfl, k0, k1, h3⟩ := GType.opened hr
  have hbk2 : xs.length + Tr.bulkAll (GType.trs xs) ≤ 68719476736 := by
    simp only [GType.tr, Tr.bulkL_append, Tr.bulkL, Tr.bulk, GType.trs_len] at hbk
    omega
  have HCC := Lib.hid (copiesType_spec_of xs ih)
  have HS := Lib.hid h3
  have K0 := Lib.hid k0
  have K1 := Lib.hid k1
  have HL : Hid (Tr.bulkAll (GType.trs xs) + (GType.trs xs).length ≤ 68719476736) := by show _ ≤ _; rw [GType.trs_len]; omega
  clear hr h3 ih hbk hbk2 k0 k1
  simp only [List.cons_append, List.nil_append] at *
  have h0 : Two ((w.alloc (.cells #[.int .i64 v0, .string v1, .slice a xs.length c] 32)).alloc (.cells #[.int .i64 0, .string ⟨#[]⟩, .slice none 0 0] 32)) w.heap.size 32 #[.int .i64 v0, .string v1, .slice a xs.length c] (w.heap.size + 1) 32 #[.int .i64 0, .string ⟨#[]⟩, .slice none 0 0] := Two.new w _ _ _ _
  have H0 := Lib.hid h0
  clear h0
  go_enter Try.func170, Try.ntmps170
  go_wp2_with fail
  have HX0 : Hid (Ext w ((w.alloc (.cells #[.int .i64 v0, .string v1, .slice a xs.length c] 32)).alloc (.cells #[.int .i64 0, .string ⟨#[]⟩, .slice none 0 0] 32)).drew) := .drew (.alloc (.alloc (.refl _) _) _)
  have HC : Hid (∀ W : World, (Ext w W ∧ OB W w.heap.size 32 #[.int .i64 v0, .string v1, .slice a xs.length c]) → ∀ q : Nat, W.cell? ⟨w.heap.size, q, none⟩ = (#[.int .i64 v0, .string v1, .slice a xs.length c] : Array Value)[q]?) := fun W hW q => hW.2.cell q
  refine wp_region_held_drew (S := fun W => Ext w W ∧ OB W w.heap.size 32 #[.int .i64 v0, .string v1, .slice a xs.length c]) (by kernel_rfl) ?_ (fun hHeld => ?_)
  · exact ⟨HX0.out, H0.out.o0.ext (.drew (.refl _))⟩
  refine wpAnyH_take (i := 0) rfl (by kernel_rfl) (by kernel_rfl) (by kernel_rfl) (fun _ _ _ h => h) (.inl ⟨rfl, fun _ _ => rfl⟩) (by assumption) ?_
  simp only [Act.put, List.getElem_toArray, List.getElem_cons_zero, List.setIfInBounds_toArray, List.set_cons_zero, List.set_cons_succ]
  refine wpAnyH_cell (i := 1) rfl (by kernel_rfl) (by kernel_rfl) (by kernel_rfl) rfl 3 (.tmp 3) rfl (w.heap.size) (0) rfl (.int .i64 v0) _ Try.underlying3 rfl (fun W hW => HC.out W hW 0) (by assumption) (fun _ _ _ _ h => h) ?_
  simp only [Act.put, List.getElem_toArray, List.getElem_cons_zero, List.getElem_cons_succ, List.setIfInBounds_toArray, List.set_cons_zero, List.set_cons_succ]
  refine wpAnyH_take (i := 2) rfl (by kernel_rfl) (by kernel_rfl) (by kernel_rfl) (fun _ _ _ h => h) (.inl ⟨rfl, fun _ _ => rfl⟩) (by assumption) ?_
  simp only [Act.put, List.getElem_toArray, List.getElem_cons_zero, List.getElem_cons_succ, List.setIfInBounds_toArray, List.set_cons_zero, List.set_cons_succ]
  refine wpAnyH_cell (i := 3) rfl (by kernel_rfl) (by kernel_rfl) (by kernel_rfl) rfl 9 (.tmp 5) rfl (w.heap.size) (1) rfl (.string v1) _ Try.underlying9 rfl (fun W hW => HC.out W hW 1) (by assumption) (fun _ _ _ _ h => h) ?_
  simp only [Act.put, List.getElem_toArray, List.getElem_cons_zero, List.getElem_cons_succ, List.setIfInBounds_toArray, List.set_cons_zero, List.set_cons_succ]
  refine wpAnyH_take (i := 4) rfl (by kernel_rfl) (by kernel_rfl) (by kernel_rfl) (fun _ _ _ h => h) (.inl ⟨rfl, fun _ _ => rfl⟩) (by assumption) ?_
  simp only [Act.put, List.getElem_toArray, List.getElem_cons_zero, List.getElem_cons_succ, List.setIfInBounds_toArray, List.set_cons_zero, List.set_cons_succ]
  refine wpAnyH_cell (i := 5) rfl (by kernel_rfl) (by kernel_rfl) (by kernel_rfl) rfl 30 (.tmp 7) rfl (w.heap.size) (2) rfl (.slice a xs.length c) _ Try.underlying30 rfl (fun W hW => HC.out W hW 2) (by assumption) (fun _ _ _ _ h => h) ?_
  simp only [Act.put, List.getElem_toArray, List.getElem_cons_zero, List.getElem_cons_succ, List.setIfInBounds_toArray, List.set_cons_zero, List.set_cons_succ]
  refine wpAnyH_call (i := 6) (by kernel_rfl) rfl rfl (run_call_func rfl rfl #[.slice a xs.length c] (by simp only [List.map_toArray, List.map_cons, List.map_nil, Act.eval]; rfl) Try.func204 (by kernel_rfl) (by kernel_rfl) _) (HCC.out _ _ (HS.out.ext HX0.out) (by have := HL.out; omega)) ?_
  rintro e w1 ⟨s', rfl, hw1, ho1⟩
  have hs1 := (⟨hHeld.1.trans hw1, hHeld.2.ext hw1⟩ : Ext w w1 ∧ OB w1 w.heap.size 32 #[.int .i64 v0, .string v1, .slice a xs.length c])
  refine ⟨_, rfl, hs1, ?_⟩
  obtain ⟨da, dc, rfl, -, -⟩ := ho1.rep.shape
  rw [GType.trs_len] at *
  have H2 := Lib.hid ((H0.out.ext (.drew (.refl _))).ext hw1)
  have HW1 := Lib.hid hw1
  have HO1 := Lib.hid ho1
  have hzz : w.heap.size + 1 < w1.heap.size := H2.out.o1.lt
  have hone : Hid (∀ v ∈ ([.int .i64 v0, .string v1, .slice da xs.length dc] : List Value), v.oneCell' = true) := by simp [Value.oneCell', Hid]
  simp only [Act.put, List.getElem_toArray, List.getElem_cons_zero, List.getElem_cons_succ, List.setIfInBounds_toArray, List.set_cons_zero, List.set_cons_succ]
  refine wpAnyH_take (i := 7) (v := .agg ⟨[.int .i64 v0, .string v1, .slice da xs.length dc]⟩) rfl (by kernel_rfl) (by kernel_rfl) (by kernel_rfl) (fun _ _ _ h => h) (.inl ⟨rfl, fun _ _ => by simp [execOp, go_sem]⟩) (by assumption) ?_
  simp only [Act.put, List.getElem_toArray, List.getElem_cons_zero, List.getElem_cons_succ, List.setIfInBounds_toArray, List.set_cons_zero, List.set_cons_succ]
  refine wpAnyH_store_rep (i := 8) (by kernel_rfl) rfl rfl 32 (.tmp 2) (.tmp 10) rfl (w.heap.size + 1) (0) rfl ([.int .i64 v0, .string v1, .slice da xs.length dc]) rfl 32 _ (H2.out.o1) isz32 (by simp) (hone.out) ?_
  intro w3 hob hgb hzb
  have hs2 := (⟨grown_ext hs1.1 hgb (by omega), hs1.2.grown hgb (by omega)⟩ : Ext w w3 ∧ OB w3 w.heap.size 32 #[.int .i64 v0, .string v1, .slice a xs.length c])
  refine ⟨hs2, ?_⟩
  have HOB3 := Lib.hid (show OB w3 (w.heap.size + 1) 32 ⟨[.int .i64 v0, .string v1, .slice da xs.length dc]⟩ from hob)
  have HG3 := Lib.hid hgb
  have hq3 : w1.heap.size = w3.heap.size := hzb.symm
  clear hob hgb hzb hw1 ho1
  simp only [Act.put, List.getElem_toArray, List.getElem_cons_zero, List.getElem_cons_succ, List.setIfInBounds_toArray, List.set_cons_zero, List.set_cons_succ]
  refine wpAnyH_done (by kernel_rfl) ?_ _
  clear hHeld hs1
  go_wp2_with fail
  have hx3 : Ext w w3 := grown_ext (HX0.out.trans HW1.out) HG3.out (by omega)
  refine bodyPost_ret (results_cell_row Try.results170 _ _ (w.heap.size + 1) 32 ⟨[.int .i64 v0, .string v1, .slice da xs.length dc]⟩ _ _ rfl HOB3.out Try.underlying32 rfl isz32) rfl ⟨[.int .i64 v0, .string v1, .slice da xs.length dc], rfl, hx3, ?_⟩
  have hzd : (((w.alloc (.cells #[.int .i64 v0, .string v1, .slice a xs.length c] 32)).alloc (.cells #[.int .i64 0, .string ⟨#[]⟩, .slice none 0 0] 32)).drew).heap.size = w.heap.size + 1 + 1 := by show ((w.alloc _).alloc _).heap.size = _; simp only [World.size_alloc]
  have ow := HO1.out.keeps (lo := w.heap.size + 1 + 1) (Keeps.of_grown HG3.out (by omega)) (by intro x hx; have := hx.1; rw [hzd] at this; omega)
  have hall := OwnL.cons_leaf K0.out (OwnL.cons_leaf K1.out (OwnL.one ow))
  exact hall.mono (by intro x hx; have h1 := hx.1; have h2 := hx.2; rw [hzd] at h1; exact ⟨by omega, by omega⟩)
theorem copiesType_spec (l : List GType) : ToSC 204 3 (GType.trs l) := copiesType_spec_of l fun x _ => copyType_spec x

end Go.Proofs.Ytoifjkggpanceaa

namespace Go.Proofs.Ytoifjkggpanceaa
open Go.RowKit Go.Proofs

def projStep (out : List GBound) : GType → List GBound
  | .mk k n (a :: _) => if k = 3 then (if out.any (fun x => GBound.eq x (.mk n a)) then out else out ++ [.mk n a]) else out
  | .mk _ _ [] => out
def GType.projs (t : GType) : List GBound := t.pre.foldl projStep []
theorem projStep_kind {out : List GBound} {k : Int} {n : ByteArray} {l : List GType} (h : ¬ k = 3) : projStep out (.mk k n l) = out := by cases l <;> simp [projStep, h]
theorem projStep_nil {out : List GBound} {k : Int} {n : ByteArray} : projStep out (.mk k n []) = out := rfl
theorem projStep_has {out : List GBound} {n : ByteArray} {a : GType} {l : List GType} (h : out.any (fun x => GBound.eq x (.mk n a)) = true) : projStep out (.mk 3 n (a :: l)) = out := by simp [projStep, h]
theorem projStep_new {out : List GBound} {n : ByteArray} {a : GType} {l : List GType} (h : out.any (fun x => GBound.eq x (.mk n a)) = false) : projStep out (.mk 3 n (a :: l)) = out ++ [.mk n a] := by simp [projStep, h]
theorem projStep_len (out : List GBound) (u : GType) : (projStep out u).length ≤ out.length + 1 := by
  obtain ⟨k, n, l⟩ := u
  cases l with
  | nil => rw [projStep_nil]; omega
  | cons a l =>
    by_cases hk : k = 3
    · subst hk
      cases h : out.any (fun x => GBound.eq x (.mk n a))
      · rw [projStep_new h]; simp
      · rw [projStep_has h]; omega
    · rw [projStep_kind hk]; omega
theorem GBound.trs_snoc (l : List GBound) (x : GBound) : GBound.trs l ++ [x.tr] = GBound.trs (l ++ [x]) := by simp [GBound.trs_map]
theorem GBound.tr_mk (n : ByteArray) (a : GType) : (GBound.mk n a).tr = .leaf (.string n) :: a.tr := by simp [GBound.tr]

/-- Every type in a type is measured by less than the type. -/
theorem GType.pre_bulk : ∀ x : GType, ∀ y ∈ x.pre, Tr.bulkL y.tr ≤ Tr.bulkL x.tr := by
  refine GType.ind fun v0 v1 xs ih => ?_
  have key : ∀ l : List GType, (∀ x ∈ l, ∀ y ∈ x.pre, Tr.bulkL y.tr ≤ Tr.bulkL x.tr) → ∀ y ∈ GType.pres l, Tr.bulkL y.tr ≤ Tr.bulkAll (GType.trs l) := by
    intro l
    induction l with
    | nil => intro _ y hy; simp [GType.pres] at hy
    | cons a l ih =>
      intro h y hy
      simp only [GType.pres, List.mem_append] at hy
      simp only [GType.trs, Tr.bulkAll]
      rcases hy with hy | hy
      · have := h a (by simp) y hy; omega
      · have := ih (fun x hx => h x (by simp [hx])) y hy; omega
  intro y hy
  simp only [GType.pre, List.mem_cons] at hy
  rcases hy with rfl | hy
  · exact Nat.le_refl _
  · have := key xs ih y hy
    simp only [GType.tr, Tr.bulkL_append, Tr.bulkL, Tr.bulk]
    omega

/-- The projections met so far: a slice in a box of the closure's. -/
def InvP (base Bo : Nat) (s : List GBound) (S : Nat → Prop) (w : World) : Prop :=
  ∃ v U, OB w Bo 86 #[v] ∧ Acc 34 base 4 w (GBound.trs s) v U ∧ (S = fun b => b = Bo ∨ v.ownBlock = some b) ∧ base ≤ Bo ∧ v.ownBlock ≠ some Bo ∧ ¬ U Bo
theorem InvP.ok (w0 : World) (base Bo : Nat) (h0 : w0.heap.size ≤ base) : InvOk w0 (InvP base Bo) where
  ext := fun _ _ _ _ ⟨v, U, h1, h2, h3⟩ hx => ⟨v, U, h1.ext hx, h2.ext hx, h3⟩
  lt := fun _ _ _ b ⟨v, U, h1, h2, h3, h4, h5, h6⟩ hb => by
    subst h3
    rcases hb with rfl | hb
    · exact h1.lt
    · exact (h2.blk hb).2
  ge := fun _ _ _ b ⟨v, U, h1, h2, h3, h4, h5, h6⟩ hb => by
    subst h3
    rcases hb with rfl | hb
    · omega
    · have := (h2.blk hb).1; omega
def OkP (s : List GBound) (l : List GType) : Prop := s.length + l.length ≤ 1099511627776 ∧ ∀ y ∈ l, Tr.bulkL y.tr ≤ 68719476736
theorem OkP.step (s : List GBound) (y : GType) (l : List GType) (h : OkP s (y :: l)) : OkP (projStep s y) l := by
  obtain ⟨h1, h2⟩ := h
  rw [List.length_cons] at h1
  have := projStep_len s y
  exact ⟨by omega, fun z hz => h2 z (by simp [hz])⟩

set_option maxRecDepth 100000 in
set_option maxHeartbeats 2000000 in
theorem projs_step (w0 : World) (base Bo : Nat) (_h0 : w0.heap.size ≤ base) : StepC 117 #[.pointer (some ⟨Bo, 0, none⟩)] w0 (InvP base Bo) projStep OkP := by
  intro x s S l cs w hr hw hi ho
  obtain ⟨k, n, xs⟩ := x
  obtain ⟨a, c, rfl, -, hn, h3⟩ := GType.opened hr
  obtain ⟨hlc, hm, -⟩ := h3.lens
  obtain ⟨v, U, h1, h2, rfl, h4, h5, h6⟩ := hi
  have hs : s.length ≤ 1099511627776 := by have := ho.1; omega
  have hbk : Tr.bulkL (GType.mk k n xs).tr ≤ 68719476736 := ho.2 _ (by simp)
  obtain ⟨va, vc, rfl, -, -⟩ := h2.shape
  rw [GBound.trs_len] at *
  have H1 := Lib.hid h1
  have H2 := Lib.hid h2
  have H5 := Lib.hid h5
  have H6 := Lib.hid h6
  have HN := Lib.hid hn
  have H3 := Lib.hid h3
  have HW := Lib.hid hw
  simp only [List.cons_append, List.nil_append] at *
  have c1 := h1.cell 0
  have l1 := h1.lt
  have hbw : base ≤ w.heap.size := by omega
  clear hr hw ho h1 h2 h3 h5 h6 hn
  by_cases hk : k = 3
  · subst hk
    cases xs with
    | nil =>
      go_enter Try.func117, Try.ntmps117
      go_wp2_with fail
      go_end0
      rw [projStep_nil]
      exact ⟨⟨_, rfl⟩, _, ⟨_, U, H1.out.ext (.alloc (.refl w) _), H2.out.ext (.alloc (.refl w) _), rfl, h4, H5.out, H6.out⟩, Chg.of_ext (.alloc (.refl w) _), fun b h => .inl h⟩
    | cons y ys =>
      obtain ⟨b, off, es, rfl, hb, hes, hec⟩ := H3.out.at2 (k := 0) (GType.trs_get (l := y :: ys) (k := 0) (by simp))
      simp only [List.getElem_cons_zero] at hes
      have hyb : Tr.bulkL y.tr ≤ 68719476736 := by
        simp only [GType.tr, GType.trs, Tr.bulkL_append, Tr.bulkL, Tr.bulk, Tr.bulkAll] at hbk
        omega
      have HES := Lib.hid (hes.ext HW.out)
      have HEL : Hid (es.length = 3) := hes.length.symm.trans (GType.tr_len y)
      have HI : Hid ((Try.prog.info? 32).map (·.size) = some es.length) := by rw [HEL.out]; exact isz32
      have hbl : b < w.heap.size := Nat.lt_of_lt_of_le hb HW.out.size
      have HEC : Hid (∀ W, Ext w W → ∀ (j : Nat) (u : Value), es[j]? = some u → W.cell? ⟨b, off + 0 * 3 + j, none⟩ = some u) := fun W hW j u hu => ((HW.out.trans hW).cell (p := ⟨b, off + 0 * 3 + j, none⟩) hb).trans (hec j u hu)
      have hlen : (0 : Int) < ((y :: ys).length : Int) := by simp only [List.length_cons]; omega
      have hlen2 : 0 < (y :: ys).length := by simp
      clear hes hec hb hbk
      generalize hq : (y :: ys).length = q at *
      have HB2 : Hid (∀ W, Ext (w.alloc (.cells #[.int .i64 3, .string n, .slice (some ⟨b, off, none⟩) q c] 32)) W → OB W w.heap.size 32 #[.int .i64 3, .string n, .slice (some ⟨b, off, none⟩) q c]) := fun W hW => (OB.new w _ _).ext hW
      go_enter Try.func117, Try.ntmps117
      go_upto_region 2 with fail
      go_cut [3] (fun s3 wx => ∃ (B3 : Nat) (es' : List Value), s3 = .pointer (some ⟨B3, 0, none⟩) ∧ Hid (es'.length = 3) ∧ Hid (Ext (w.alloc (.cells #[.int .i64 3, .string n, .slice (some ⟨b, off, none⟩) q c] 32)) wx) ∧ w.heap.size < B3 ∧ Hid (OB wx B3 34 ⟨.string n :: es'⟩) ∧ Hid (OwnL wx y.tr es' (fun x => w.heap.size < x ∧ x ≠ B3 ∧ x < wx.heap.size)))
      case first =>
        refine wp_region_held_drew (S := Ext (w.alloc (.cells #[.int .i64 3, .string n, .slice (some ⟨b, off, none⟩) q c] 32))) (by kernel_rfl) ?_ (fun hHeld => ?_)
        · exact .drew (.refl _)
        refine wpAnyH_take (i := 0) rfl (by kernel_rfl) (by kernel_rfl) (by kernel_rfl) (fun _ _ _ h => h) (.inl ⟨rfl, fun _ _ => rfl⟩) (by assumption) ?_
        simp only [Act.put, List.getElem_toArray, List.getElem_cons_zero, List.setIfInBounds_toArray, List.set_cons_zero, List.set_cons_succ]
        refine wpAnyH_cell (i := 1) rfl (by kernel_rfl) (by kernel_rfl) (by kernel_rfl) rfl 9 (.tmp 13) rfl (w.heap.size) (1) rfl (.string n) _ Try.underlying9 rfl (fun W hW => (HB2.out W hW).cell 1) (by assumption) (fun _ _ _ _ h => h) ?_
        simp only [Act.put, List.getElem_toArray, List.getElem_cons_zero, List.getElem_cons_succ, List.setIfInBounds_toArray, List.set_cons_zero, List.set_cons_succ]
        refine wpAnyH_take (i := 2) rfl (by kernel_rfl) (by kernel_rfl) (by kernel_rfl) (fun _ _ _ h => h) (.inl ⟨rfl, fun _ _ => rfl⟩) (by assumption) ?_
        simp only [Act.put, List.getElem_toArray, List.getElem_cons_zero, List.getElem_cons_succ, List.setIfInBounds_toArray, List.set_cons_zero, List.set_cons_succ]
        refine wpAnyH_cell (i := 3) rfl (by kernel_rfl) (by kernel_rfl) (by kernel_rfl) rfl 30 (.tmp 15) rfl (w.heap.size) (2) rfl (.slice (some ⟨b, off, none⟩) q c) _ Try.underlying30 rfl (fun W hW => (HB2.out W hW).cell 2) (by assumption) (fun _ _ _ _ h => h) ?_
        simp only [Act.put, List.getElem_toArray, List.getElem_cons_zero, List.getElem_cons_succ, List.setIfInBounds_toArray, List.set_cons_zero, List.set_cons_succ]
        refine wpAnyH_index (i := 4) rfl (by kernel_rfl) (by kernel_rfl) (by kernel_rfl) rfl 30 (.tmp 16) (.const (.int .i64 0)) rfl (b) (off) (q) (c) (0) (3) rfl rfl (hlen2) Try.underlying30 (by kernel_rfl) (by assumption) (fun _ _ _ _ h => h) ?_
        simp only [Act.put, List.getElem_toArray, List.getElem_cons_zero, List.getElem_cons_succ, List.setIfInBounds_toArray, List.set_cons_zero, List.set_cons_succ]
        refine wpAnyH_load_rep (i := 5) rfl (by kernel_rfl) (by kernel_rfl) (by kernel_rfl) (fun _ _ _ h => h) rfl 32 (.tmp 17) rfl (b) (off + 0 * 3) rfl es _ Try.underlying32 HI.out (fun W hW => HEC.out W (Ext.trans (.alloc (.refl _) _) hW)) (by assumption) (fun _ _ _ _ h => h) ?_
        simp only [Act.put, List.getElem_toArray, List.getElem_cons_zero, List.getElem_cons_succ, List.setIfInBounds_toArray, List.set_cons_zero, List.set_cons_succ]
        refine wpAnyH_all (rs := [6, 8]) (by kernel_rfl) (by simp) (fun i hi => ?_)
        have hx0 : Ext w (w.alloc (.cells #[.int .i64 3, .string n, .slice (some ⟨b, off, none⟩) q c] 32)).drew := .drew (.alloc (.refl _) _)
        rcases (by simpa using hi : i = 6 ∨ i = 8) with rfl | rfl
        · refine wpOp_call rfl rfl (run_call_func rfl rfl #[.agg ⟨es⟩] (by simp only [List.map_toArray, List.map_cons, List.map_nil, Act.eval]; rfl) Try.func118 (by kernel_rfl) (by kernel_rfl) _) (copyType_impl y es _ (HES.out.ext (hx0)) hyb) ?_
          rintro e w1 ⟨es1, rfl, hw1, ho1⟩
          obtain ⟨q0, q1, q2, rfl⟩ := list3 (ho1.1.trans (GType.tr_len y))
          have hs1 : Ext (w.alloc (.cells #[.int .i64 3, .string n, .slice (some ⟨b, off, none⟩) q c] 32)) w1 := Ext.trans (.drew (.refl _)) hw1
          refine ⟨_, rfl, hs1, ?_⟩
          simp only [Act.put, List.getElem_toArray, List.getElem_cons_zero, List.getElem_cons_succ, List.setIfInBounds_toArray, List.set_cons_zero, List.set_cons_succ]
          refine wpAnyH_take (i := 7) (v := .agg ⟨[.string n, q0, q1, q2]⟩) rfl (by kernel_rfl) (by kernel_rfl) (by kernel_rfl) (fun _ _ _ h => h) (.inl ⟨rfl, fun _ _ => by simp [execOp, go_sem]⟩) (by assumption) ?_
          simp only [Act.put, List.getElem_toArray, List.getElem_cons_zero, List.getElem_cons_succ, List.setIfInBounds_toArray, List.set_cons_zero, List.set_cons_succ]
          have hs2 : Ext (w.alloc (.cells #[.int .i64 3, .string n, .slice (some ⟨b, off, none⟩) q c] 32)) (w1.alloc (.cells #[.string ⟨#[]⟩, .int .i64 0, .string ⟨#[]⟩, .slice none 0 0] 34)) := hs1.trans (.alloc (.refl _) _)
          refine wpAnyH_run (i := 8) (v := .pointer (some ⟨w1.heap.size, 0, none⟩)) (w' := w1.alloc (.cells #[.string ⟨#[]⟩, .int .i64 0, .string ⟨#[]⟩, .slice none 0 0] 34)) (by kernel_rfl) rfl rfl (by simp [execOp, go_sem]) hs2 ?_
          simp only [Act.put, List.getElem_toArray, List.getElem_cons_zero, List.getElem_cons_succ, List.setIfInBounds_toArray, List.set_cons_zero, List.set_cons_succ]
          have HZ := Lib.hid (OB.new w1 34 #[.string ⟨#[]⟩, .int .i64 0, .string ⟨#[]⟩, .slice none 0 0])
          have hz1 := hs1.size
          simp only [World.size_alloc] at hz1
          have hone : Hid (∀ v ∈ ([.string n, q0, q1, q2] : List Value), v.oneCell' = true) := by
            intro v hv
            rcases List.mem_cons.1 hv with rfl | hv
            · rfl
            · exact ho1.rep.one v hv
          refine wpAnyH_store_rep (i := 9) (by kernel_rfl) rfl rfl 34 (.tmp 3) (.tmp 20) rfl w1.heap.size 0 rfl [.string n, q0, q1, q2] rfl 34 #[.string ⟨#[]⟩, .int .i64 0, .string ⟨#[]⟩, .slice none 0 0] HZ.out isz34 (by simp) hone.out ?_
          intro w3 hob hgb hzb
          refine ⟨grown_ext hs2 hgb (by simp only [World.size_alloc]; omega), ?_⟩
          simp only [Act.put, List.getElem_toArray, List.getElem_cons_zero, List.getElem_cons_succ, List.setIfInBounds_toArray, List.set_cons_zero, List.set_cons_succ]
          refine wpAnyH_done (by kernel_rfl) ?_ _
          have hx3 : Ext (w.alloc (.cells #[.int .i64 3, .string n, .slice (some ⟨b, off, none⟩) q c] 32)) w3 := grown_ext hs2 hgb (by simp only [World.size_alloc]; omega)
          have HX3 := Lib.hid hx3
          have HOB3 := Lib.hid (show OB w3 w1.heap.size 34 ⟨[.string n, q0, q1, q2]⟩ from hob)
          have HGB := Lib.hid hgb
          have hz3 := hzb
          have hor := ho1.ext (Ext.alloc (.refl w1) (.cells #[.string ⟨#[]⟩, .int .i64 0, .string ⟨#[]⟩, .slice none 0 0] 34))
          have hor3 := hor.keep (w' := w3) fun x hx hxl => hgb.block x hxl (by intro h; injection h with h; have := hx.2; omega)
          have HOR := Lib.hid (hor3.mono (S' := fun x => w.heap.size < x ∧ x ≠ w1.heap.size ∧ x < w3.heap.size) fun x hx => by
            have h1 := hx.1
            have h2 := hx.2
            have h4 : ((w.alloc (.cells #[.int .i64 3, .string n, .slice (some ⟨b, off, none⟩) q c] 32)).drew).heap.size = w.heap.size + 1 := by show ((w.alloc (.cells #[.int .i64 3, .string n, .slice (some ⟨b, off, none⟩) q c] 32))).heap.size = _; simp only [World.size_alloc]
            rw [h4] at h1
            simp only [World.size_alloc] at hz3
            exact ⟨by omega, by omega, by omega⟩)
          clear hob hgb hzb hor hor3 ho1 hw1 hs1 hs2 hHeld hx3 hx0
          go_wp2_with fail
          go_meet
          exact ⟨w1.heap.size, [q0, q1, q2], rfl, by rfl, HX3.out, by omega, HOB3.out, HOR.out⟩
        · have hs1 : Ext (w.alloc (.cells #[.int .i64 3, .string n, .slice (some ⟨b, off, none⟩) q c] 32)) ((w.alloc (.cells #[.int .i64 3, .string n, .slice (some ⟨b, off, none⟩) q c] 32)).drew.alloc (.cells #[.string ⟨#[]⟩, .int .i64 0, .string ⟨#[]⟩, .slice none 0 0] 34)) := .alloc (.drew (.refl _)) _
          refine wpOp_run (v := .pointer (some ⟨(w.alloc (.cells #[.int .i64 3, .string n, .slice (some ⟨b, off, none⟩) q c] 32)).drew.heap.size, 0, none⟩)) (w' := (w.alloc (.cells #[.int .i64 3, .string n, .slice (some ⟨b, off, none⟩) q c] 32)).drew.alloc (.cells #[.string ⟨#[]⟩, .int .i64 0, .string ⟨#[]⟩, .slice none 0 0] 34)) rfl rfl (by simp [execOp, go_sem]) ⟨hs1, ?_⟩
          simp only [Act.put, List.getElem_toArray, List.getElem_cons_zero, List.getElem_cons_succ, List.setIfInBounds_toArray, List.set_cons_zero, List.set_cons_succ]
          refine wpAnyH_all (rs := [6]) (by kernel_rfl) (by simp) (fun i hi => ?_)
          obtain rfl : i = 6 := by simpa using hi
          have hx1 : Ext w ((w.alloc (.cells #[.int .i64 3, .string n, .slice (some ⟨b, off, none⟩) q c] 32)).drew.alloc (.cells #[.string ⟨#[]⟩, .int .i64 0, .string ⟨#[]⟩, .slice none 0 0] 34)) := Ext.trans (.alloc (.refl _) _) hs1
          refine wpOp_call rfl rfl (run_call_func rfl rfl #[.agg ⟨es⟩] (by simp only [List.map_toArray, List.map_cons, List.map_nil, Act.eval]; rfl) Try.func118 (by kernel_rfl) (by kernel_rfl) _) (copyType_impl y es _ (HES.out.ext (hx1)) hyb) ?_
          rintro e w1 ⟨es1, rfl, hw1, ho1⟩
          obtain ⟨q0, q1, q2, rfl⟩ := list3 (ho1.1.trans (GType.tr_len y))
          have hs2 : Ext (w.alloc (.cells #[.int .i64 3, .string n, .slice (some ⟨b, off, none⟩) q c] 32)) w1 := hs1.trans hw1
          refine ⟨_, rfl, hs2, ?_⟩
          simp only [Act.put, List.getElem_toArray, List.getElem_cons_zero, List.getElem_cons_succ, List.setIfInBounds_toArray, List.set_cons_zero, List.set_cons_succ]
          refine wpAnyH_take (i := 7) (v := .agg ⟨[.string n, q0, q1, q2]⟩) rfl (by kernel_rfl) (by kernel_rfl) (by kernel_rfl) (fun _ _ _ h => h) (.inl ⟨rfl, fun _ _ => by simp [execOp, go_sem]⟩) (by assumption) ?_
          simp only [Act.put, List.getElem_toArray, List.getElem_cons_zero, List.getElem_cons_succ, List.setIfInBounds_toArray, List.set_cons_zero, List.set_cons_succ]
          have hzd : ((w.alloc (.cells #[.int .i64 3, .string n, .slice (some ⟨b, off, none⟩) q c] 32)).drew).heap.size = w.heap.size + 1 := by show ((w.alloc (.cells #[.int .i64 3, .string n, .slice (some ⟨b, off, none⟩) q c] 32))).heap.size = _; simp only [World.size_alloc]
          have HZ0 : OB w1 (w.alloc (.cells #[.int .i64 3, .string n, .slice (some ⟨b, off, none⟩) q c] 32)).drew.heap.size 34 #[.string ⟨#[]⟩, .int .i64 0, .string ⟨#[]⟩, .slice none 0 0] := (OB.new (w.alloc (.cells #[.int .i64 3, .string n, .slice (some ⟨b, off, none⟩) q c] 32)).drew 34 #[.string ⟨#[]⟩, .int .i64 0, .string ⟨#[]⟩, .slice none 0 0]).ext hw1
          have HZ := Lib.hid HZ0
          have hz1 := HZ0.lt
          rw [hzd] at hz1
          have hone : Hid (∀ v ∈ ([.string n, q0, q1, q2] : List Value), v.oneCell' = true) := by
            intro v hv
            rcases List.mem_cons.1 hv with rfl | hv
            · rfl
            · exact ho1.rep.one v hv
          refine wpAnyH_store_rep (i := 9) (by kernel_rfl) rfl rfl 34 (.tmp 3) (.tmp 20) rfl ((w.alloc (.cells #[.int .i64 3, .string n, .slice (some ⟨b, off, none⟩) q c] 32)).drew.heap.size) 0 rfl [.string n, q0, q1, q2] rfl 34 #[.string ⟨#[]⟩, .int .i64 0, .string ⟨#[]⟩, .slice none 0 0] HZ.out isz34 (by simp) hone.out ?_
          intro w3 hob hgb hzb
          refine ⟨grown_ext hs2 hgb (by rw [hzd]; simp only [World.size_alloc]; omega), ?_⟩
          simp only [Act.put, List.getElem_toArray, List.getElem_cons_zero, List.getElem_cons_succ, List.setIfInBounds_toArray, List.set_cons_zero, List.set_cons_succ]
          refine wpAnyH_done (by kernel_rfl) ?_ _
          have hx3 : Ext (w.alloc (.cells #[.int .i64 3, .string n, .slice (some ⟨b, off, none⟩) q c] 32)) w3 := grown_ext hs2 hgb (by rw [hzd]; simp only [World.size_alloc]; omega)
          have HX3 := Lib.hid hx3
          have HOB3 := Lib.hid (show OB w3 ((w.alloc (.cells #[.int .i64 3, .string n, .slice (some ⟨b, off, none⟩) q c] 32)).drew.heap.size) 34 ⟨[.string n, q0, q1, q2]⟩ from hob)
          have HGB := Lib.hid hgb
          have hz3 := hzb
          have hor3 := ho1.keep (w' := w3) fun x hx hxl => hgb.block x hxl (by intro h; injection h with h; have h1 := hx.1; rw [hzd] at h; simp only [World.size_alloc, hzd] at h1; omega)
          have HOR := Lib.hid (hor3.mono (S' := fun x => w.heap.size < x ∧ x ≠ (w.alloc (.cells #[.int .i64 3, .string n, .slice (some ⟨b, off, none⟩) q c] 32)).drew.heap.size ∧ x < w3.heap.size) fun x hx => by
            have h1 := hx.1
            have h2 := hx.2
            simp only [World.size_alloc, hzd] at h1
            exact ⟨by omega, by rw [hzd]; omega, by omega⟩)
          clear hob hgb hzb hor3 ho1 hw1 hs1 hs2 hHeld hx3 hx0 hx1 HZ0
          go_wp2_with fail
          go_meet
          exact ⟨(w.alloc (.cells #[.int .i64 3, .string n, .slice (some ⟨b, off, none⟩) q c] 32)).drew.heap.size, [q0, q1, q2], rfl, by rfl, HX3.out, by rw [hzd]; omega, HOB3.out, HOR.out⟩
      case rest =>
        obtain ⟨B3, es', rfl, HEL', HX, hB3, HOB, HOW⟩ := hcut
        obtain ⟨q0, q1, q2, rfl⟩ := list3 HEL'.out
        have HXW : Hid (Ext w wc) := Ext.trans (.alloc (.refl _) _) HX.out
        have hcb : wc.cell? ⟨Bo, 0, none⟩ = some (.slice va s.length vc) := (H1.out.ext HXW.out).cell 0
        have HG : Hid (RepL wc (GBound.mk n y).tr [.string n, q0, q1, q2]) := by show RepL _ _ _; rw [GBound.tr_mk]; exact ⟨.leaf HN.out, HOW.out.rep⟩
        clear c1
        go_wp2_with (refine wpList_load_rep rfl 34 (.tmp 3) rfl B3 0 rfl [.string n, q0, q1, q2] _ Try.underlying34 isz34 (OB.cells0 HOB.out) ?_)
        refine (hasGoal_impl s (.mk n y) _ _ _ (H2.out.ext HXW.out).rep HG.out).mono ?_
        rintro e w2 ⟨rfl, hw2⟩
        have HW2 := Lib.hid hw2
        have hzc := HX.out.size
        have hz2 := hw2.size
        simp only [World.size_alloc] at hzc
        have hcb2 : w2.cell? ⟨Bo, 0, none⟩ = some (.slice va s.length vc) := (H1.out.ext (HXW.out.trans hw2)).cell 0
        clear hw2 hcb
        cases hany : s.any (fun x => GBound.eq x (.mk n y))
        · have HANY := Lib.hid hany
          clear hany
          have hOW2 := HOW.out.ext (HW2.out.trans (.alloc (.refl _) (.cells #[.string n, q0, q1, q2] 34)))
          have HOL : Hid (OwnL (w2.alloc (.cells #[.string n, q0, q1, q2] 34)) (GBound.mk n y).tr [.string n, q0, q1, q2] (fun x => w.heap.size < x ∧ x ≠ B3 ∧ x < wc.heap.size)) := by show OwnL _ _ _ _; rw [GBound.tr_mk]; exact OwnL.cons_leaf HN.out hOW2
          clear hOW2
          go_wp2_with (first
            | (refine wpList_load_rep rfl 34 (.tmp 3) rfl B3 0 rfl [.string n, q0, q1, q2] _ Try.underlying34 isz34 (OB.cells0 (HOB.out.ext HW2.out)) ?_)
            | (refine wpList_append_acc rfl (.tmp 25) (.tmp 27) 86 rfl 34 4 64 Try.underlying86 iszc34 (by omega) (by omega) base (GBound.trs s) s.length (GBound.trs_len s) (.slice va s.length vc) U rfl ((H2.out.ext (HXW.out.trans HW2.out)).ext (.alloc (.refl _) _)) (GBound.mk n y).tr [.string n, q0, q1, q2] (fun x => w.heap.size < x ∧ x ≠ B3 ∧ x < wc.heap.size) (GBound.tr_len _) HOL.out (fun x h1 h2 => by have := (H2.out.lt x h1).2; have := h2.1; omega) (fun x h => by have h1 := h.1; have h2 := h.2.2; simp only [World.size_alloc]; omega) (fun x h1 h2 => by have := (H2.out.blk h1).2; have := h2.1; omega) w2.heap.size 1 34 rfl (OB.new w2 _ _) hs (by simp only [World.size_alloc]; omega) ?_; intro g gc wb hacc hgb hgg hgl; rw [GBound.trs_snoc] at hacc; have HACC := Lib.hid hacc; have HGB := Lib.hid hgb; have HGG := Lib.hid hgg; clear hacc hgb hgg)
            | (refine wpList_store_cell rfl 86 (.tmp 1) (.tmp 28) rfl Bo 0 rfl (.slice (some ⟨g, 0, none⟩) (s.length + 1) gc) rfl rfl 86 _ ((H1.out.ext (HXW.out.trans (HW2.out.trans (.alloc (.refl _) (.cells #[.string n, q0, q1, q2] 34))))).grown_own HGB.out H5.out) isz86 (by simp) rfl ?_; intro wd hoc hgc hzc; have HOC := Lib.hid hoc; have HGC := Lib.hid hgc; clear hoc hgc hzc))
          go_end0
          have hob := HOC.out
          rw [splice_whole (by rfl)] at hob
          have hgg := HGG.out
          have hx : Chg (fun b' => b' = Bo ∨ (Value.slice va s.length vc).ownBlock = some b') w wb := (Chg.of_ext (HXW.out.trans (HW2.out.trans (.alloc (.refl _) _)))).trans ((Chg.of_grown_own HGB.out).mono fun x h => .inr h)
          simp only [World.size_alloc] at hgg
          have hgo : ∀ b', g = b' → (b' = Bo ∨ (Value.slice va s.length vc).ownBlock = some b') ∨ w.heap.size ≤ b' := by
            rintro b' rfl
            rcases hgg with h | h
            · exact .inl (.inr h)
            · exact .inr (by omega)
          have hgB : g ≠ Bo := by
            rintro rfl
            rcases hgg with h | h
            · exact H5.out h
            · omega
          refine ⟨⟨_, rfl⟩, (fun b' => b' = Bo ∨ (Value.slice (some ⟨g, 0, none⟩) (s.length + 1) gc).ownBlock = some b'), ⟨_, (fun x => U x ∨ (w.heap.size < x ∧ x ≠ B3 ∧ x < wc.heap.size) ∨ x = g), hob, ?_, rfl, h4, ?_, ?_⟩, hx.trans ((Chg.of_grown HGC.out rfl).mono fun x h => .inl h.symm), ?_⟩
          · rw [projStep_new HANY.out]
            refine HACC.out.keep HGC.out.size fun b' hb hbl => HGC.out.block b' hbl ?_
            intro h
            injection h with h
            subst h
            rcases hb with (hb | hb | hb) | hb
            · exact H6.out hb
            · have := hb.1; omega
            · exact hgB hb.symm
            · simp [Value.ownBlock] at hb; exact hgB hb
          · simp [Value.ownBlock]; exact hgB
          · rintro (hb | hb | hb)
            · exact H6.out hb
            · have := hb.1; omega
            · exact hgB hb.symm
          · rintro b' (rfl | h)
            · exact .inl (.inl rfl)
            · simp [Value.ownBlock] at h; exact hgo b' h
        · have HANY := Lib.hid hany
          clear hany
          go_wp2_with fail
          go_end0
          rw [projStep_has HANY.out]
          have hx : Ext w w2 := HXW.out.trans HW2.out
          exact ⟨⟨_, rfl⟩, _, ⟨_, U, H1.out.ext hx, H2.out.ext hx, rfl, h4, H5.out, H6.out⟩, Chg.of_ext hx, fun b' h => .inl h⟩
  · go_enter Try.func117, Try.ntmps117
    go_wp2_with fail
    go_end0
    rw [projStep_kind hk]
    exact ⟨⟨_, rfl⟩, _, ⟨_, U, H1.out.ext (.alloc (.refl w) _), H2.out.ext (.alloc (.refl w) _), rfl, h4, H5.out, H6.out⟩, Chg.of_ext (.alloc (.refl w) _), fun b h => .inl h⟩

set_option maxRecDepth 100000 in
set_option maxHeartbeats 2000000 in
theorem projs_impl (x : GType) (cs : List Value) (w : World) (hr : RepL w x.tr cs) (hsz : GType.size x ≤ 1099511627776) (hbk : Tr.bulkL x.tr ≤ 68719476736) :
    Calls Try.prog 50 #[.agg ⟨cs⟩] w fun e w' => ∃ u, e = .returned u ∧ Ext w w' ∧ Own w' (.row 4 (GBound.trs x.projs)) u (Between w w') := by
  have HR := Lib.hid hr
  have HL : Hid (cs.length = 3) := by rw [← hr.length, GType.tr_len]; rfl
  have HI : Hid ((Try.prog.info? 32).map (·.size) = some cs.length) := by rw [HL.out]; exact isz32
  clear hr
  have h3 := Three.new w 32 34 86 ⟨cs⟩ #[] #[.slice (some ⟨w.heap.size + 1, 0, none⟩) 0 0]
  have H3 := Lib.hid h3
  clear h3
  have hi0 : InvP w.heap.size (w.heap.size + 1 + 1) [] (fun b => b = w.heap.size + 1 + 1 ∨ b = w.heap.size + 1) (((w.alloc (.cells ⟨cs⟩ 32)).alloc (.cells #[] 34)).alloc (.cells #[.slice (some ⟨w.heap.size + 1, 0, none⟩) 0 0] 86)) := by
    refine ⟨_, fun _ => False, H3.out.o2, Acc.empty (by omega) H3.out.o1 (by unfold maxLen; omega) rfl, ?_, by omega, by simp [Value.ownBlock], fun h => h⟩
    funext b
    simp only [Value.ownBlock, Option.some.injEq, eq_iff_iff]
    exact ⟨fun h => h.imp id Eq.symm, fun h => h.imp id Eq.symm⟩
  have HI0 := Lib.hid hi0
  have HOK : Hid (OkP [] (x.pre ++ [])) := ⟨by rw [List.append_nil, GType.pre_length]; simpa using hsz, fun y hy => Nat.le_trans (GType.pre_bulk x y (by simpa using hy)) hbk⟩
  clear hi0
  go_enter Try.func50, Try.ntmps50
  go_wp2_with (refine wpList_load_rep rfl 32 (.tmp 1) rfl w.heap.size 0 rfl cs _ Try.underlying32 HI.out (OB.cells0 H3.out.o0) ?_)
  have hx : Ext w (((w.alloc (.cells ⟨cs⟩ 32)).alloc (.cells #[] 34)).alloc (.cells #[.slice (some ⟨w.heap.size + 1, 0, none⟩) 0 0] 86)) := .alloc (.alloc (.alloc (.refl _) _) _) _
  refine (eachType_of 117 _ (run_callFunc_body Try.func117 (by kernel_rfl) (by kernel_rfl)) w (InvP w.heap.size (w.heap.size + 1 + 1)) projStep OkP (InvP.ok w _ _ (Nat.le_refl _)) OkP.step (projs_step w _ _ (Nat.le_refl _)) x [] _ [] cs _ HR.out hx HI0.out HOK.out).mono ?_
  rintro e w1 ⟨⟨r, rfl⟩, ⟨S', hi, hc, -⟩, -⟩
  obtain ⟨v, U, h1, h2, -, -, -⟩ := hi
  have hce := h1.cell 0
  have HA := Lib.hid h2
  obtain ⟨va, vc, rfl, -, -⟩ := h2.shape
  have HX := Lib.hid (hx.chg hc (by rintro b (rfl | rfl) <;> omega))
  have hcnt : (x.pre).foldl projStep [] = x.projs := rfl
  rw [hcnt] at HA hce
  clear h1 h2 hc hx
  go_wp2_with fail
  go_ret
  exact ⟨_, rfl, HX.out, HA.out.wide.own⟩

end Go.Proofs.Ytoifjkggpanceaa

namespace Go.Proofs.Ytoifjkggpanceaa
set_option linter.unusedSimpArgs false
set_option linter.unusedVariables false
open Go.RowKit Go.Proofs

theorem projSteps_len : ∀ (l : List GType) (s : List GBound), (l.foldl projStep s).length ≤ s.length + l.length
  | [], s => by simp
  | a :: l, s => by
    rw [List.foldl_cons, List.length_cons]
    have h1 := projSteps_len l (projStep s a)
    have h2 := projStep_len s a
    omega
theorem pres_foldl : ∀ (xs : List GType) (s : List GBound), xs.foldl (fun s x => x.pre.foldl projStep s) s = (GType.pres xs).foldl projStep s
  | [], s => rfl
  | a :: l, s => by rw [List.foldl_cons, pres_foldl l, GType.pres, List.foldl_append]
theorem any_swap {l : List GBound} {n : ByteArray} {a : GType} : (l.any fun x => GBound.eq x (.mk n a)) = l.any fun x => GBound.eq x (.mk n a) := rfl
theorem orfold {α : Type} (p : α → Bool) : ∀ (l : List α) (b : Bool), l.foldl (fun b x => if b then true else p x) b = (b || l.any p)
  | [], b => by simp
  | a :: l, b => by
    rw [List.foldl_cons, orfold p l, List.any_cons]
    cases b <;> simp
theorem sl23Projs_C1_eq (fu : Nat) (r1 : GType → List GBound → Option (List GBound)) (k : Int) (n : ByteArray) (xs : List GType) (out : List GBound) (hb : Tr.bulkL (GType.mk k n xs).tr ≤ 68719476735) (ho : out.length + 1 ≤ 68719476736) :
    sl23Projs_C1 fu r1 (.mk k n xs) out = some (.inr (projStep out (.mk k n xs))) := by
  unfold sl23Projs_C1
  simp only [GType.gKind_mk, GType.gName_mk, GType.gArgs_mk]
  by_cases hk : k = 3
  · subst hk
    rw [swT (by simp) rfl]
    cases xs with
    | nil => rw [swF (by simp) rfl]; rfl
    | cons a l =>
      have hb1 := bulk_args 3 n (a :: l)
      have hb2 : Tr.bulkL a.tr ≤ Tr.bulkAll (GType.trs (a :: l)) := bulk_mem (by simp)
      have ha : atD (a :: l) 0 = a := rfl
      rw [swT (by first | (simp; done) | (simp; omega)) rfl, gdT (by simp) rfl, gdT (by rw [ha]; omega) rfl]
      have hR : sl23Projs_R2 fu r1 (.mk 3 n (a :: l)) out = some (.inr (out.any fun x => GBound.eq x (.mk n a))) := by
        unfold sl23Projs_R2
        rw [loopN_fold0 (l := out) (g := fun b x => if b then true else GBound.eq x (.mk n a)) (fun _ _ => True) (fun i s hi _ => ⟨?_, trivial⟩) trivial, orfold, Bool.false_or]
        rw [sl23Projs_F2]
        simp only [GType.gName_mk, GType.gArgs_mk, ha]
        cases s <;> rfl
      rw [soR hR rfl]
      cases hany : out.any fun x => GBound.eq x (.mk n a)
      · rw [swT (by simp) rfl, gdT (by simpa using ho) rfl, projStep_new hany, ha]
      · rw [swF (by simp) rfl, projStep_has hany]
  · rw [swF (by simp [hk]) rfl, projStep_kind hk]
theorem sl23Projs_ev : ∀ t : GType, Tr.bulkL t.tr ≤ 68719476735 → Evt fun fu => ∀ out : List GBound, out.length + t.pre.length ≤ 68719476736 → sl23Projs_M fu t out = some (t.pre.foldl projStep out) := by
  refine GType.ind fun k n xs ih hb => ?_
  have hb1 := bulk_args k n xs
  refine Evt.succ ((Evt.list fun x hx => ih x hx (by have := bulk_mem hx; omega)).imp fun fu hf out ho => ?_)
  rw [GType.pre, List.length_cons] at ho
  simp only [sl23Projs_M, sl23Projs_G]
  rw [soR (sl23Projs_C1_eq fu _ k n xs out hb (by omega)) rfl]
  have h1 := projStep_len out (.mk k n xs)
  unfold sl23Projs_R3
  simp only [GType.gArgs_mk]
  rw [loopN_fold0 (l := xs) (g := fun s x => x.pre.foldl projStep s) (fun i s => s.length + (GType.pres (xs.drop i)).length ≤ 68719476736) (fun i s hi hp => ?_) (by rw [List.drop_zero]; omega)]
  · rw [GType.pre, List.foldl_cons, pres_foldl]; rfl
  · rw [drop_atD hi, GType.pres, List.length_append] at hp
    refine ⟨?_, ?_⟩
    · rw [sl23Projs_F3]
      simp only [GType.gArgs_mk]
      rw [bdS (hf _ (atD_mem hi) s (by omega)) rfl]
    · have := projSteps_len (atD xs i).pre s
      omega
theorem sProjectionsIn_fn (t : GType) (hb : Tr.bulkL t.tr ≤ 68719476735) (hp : t.pre.length ≤ 68719476736) : AFun Try.prog 49 [(GType.pv t)] (.t (.row 4 (GBound.trs t.projs))) := by
  obtain ⟨fu, h⟩ := (sl23Projs_ev t hb).get
  refine sProjectionsIn_ok fu t _ ?_
  unfold sProjectionsIn_M
  rw [bdS (h [] (by simpa using hp)) rfl]
  rfl
end Go.Proofs.Ytoifjkggpanceaa

namespace Go.Proofs.Ytoifjkggpanceaa
open Go.RowKit
theorem AFun.plainR {P : Program} {f : FuncId} {args : List PV} {t : Tr} (h : AFun P f args (.t t)) {w : World} {vals : List Value} (hv : RVL0 w args vals) : Calls P f ⟨vals⟩ w fun e w' => ∃ u, e = .returned u ∧ Ext w w' ∧ Rep w' t u :=
  (h av0 lay0 w vals (sto0 w) hv).mono fun e w' => by
    rintro ⟨res, st', m', v, rfl, ⟨rfl, rfl⟩, -, he, hr⟩
    exact ⟨v, rfl, he.ext, RepM.rep hr⟩
theorem AFun.plainA {P : Program} {f : FuncId} {args : List PV} {ts : List Tr} (h : AFun P f args (.agg (ts.map PV.t))) {w : World} {vals : List Value} (hv : RVL0 w args vals) : Calls P f ⟨vals⟩ w fun e w' => ∃ cs, e = .returned (.agg ⟨cs⟩) ∧ Ext w w' ∧ RepL w' ts cs :=
  (h av0 lay0 w vals (sto0 w) hv).mono fun e w' => by
    rintro ⟨res, st', m', v, rfl, ⟨rfl, rfl⟩, -, he, cs, rfl, hr⟩
    exact ⟨cs, rfl, he.ext, RVL.ofTr hr⟩
theorem RVL0.nil {w : World} : RVL0 w [] [] := trivial
theorem RVL0.cons {w : World} {p : PV} {ps : List PV} {v : Value} {vs : List Value} (h : RV0 w p v) (k : RVL0 w ps vs) : RVL0 w (p :: ps) (v :: vs) := ⟨h, k⟩
end Go.Proofs.Ytoifjkggpanceaa

namespace Go.Proofs.Ytoifjkggpanceaa
open Go.RowKit Go.Proofs
theorem projs_spec (x : GType) (cs : List Value) (w : World) (hr : RepL w x.tr cs) (hb : Tr.bulkL x.tr ≤ 68719476735) (hp : x.pre.length ≤ 68719476736) :
    Calls Try.prog 49 #[.agg ⟨cs⟩] w fun e w' => ∃ u, e = .returned u ∧ Ext w w' ∧ Rep w' (.row 4 (GBound.trs x.projs)) u :=
  (sProjectionsIn_fn x hb hp).plainR (.cons (by rw [GType.tr_cs] at hr; exact RV0.agg hr) .nil)
theorem GType.cnt_bulk : ∀ x : GType, Tr.cntL x.tr ≤ 3 + 3 * Tr.bulkL x.tr := by
  refine GType.ind fun v0 v1 v2 h => ?_
  have : ∀ l : List GType, (∀ x ∈ l, Tr.cntL x.tr ≤ 3 + 3 * Tr.bulkL x.tr) → Tr.cntE (GType.trs l) ≤ 3 * l.length + 3 * Tr.bulkAll (GType.trs l) := by
    intro l
    induction l with
    | nil => intro _; simp [GType.trs, Tr.cntE]
    | cons a l ih =>
      intro hl
      have h1 := hl a (by simp)
      have h2 := ih fun x hx => hl x (by simp [hx])
      simp only [GType.trs, Tr.bulkAll, Tr.cntE, List.length_cons]
      omega
  have := this v2 h
  simp only [GType.tr, Tr.bulkL_append, Tr.cntL_append, Tr.cntL, Tr.cnt, Tr.bulkL, Tr.bulk, GType.trs_len]
  omega
theorem Tr.topN_leT : ∀ ts : List Tr, Tr.topN ts ≤ Tr.cntL ts
  | [] => by simp [Tr.topN]
  | .leaf v :: r => by have := Tr.topN_leT r; simp only [Tr.topN, Tr.cntL, Tr.cnt]; omega
  | .row sz es :: r => by have := Tr.topN_leT r; simp only [Tr.topN, Tr.cntL, Tr.cnt]; omega
theorem GType.top_bulk (x : GType) : Tr.topN x.tr ≤ 3 + 3 * Tr.bulkL x.tr := Nat.le_trans (Tr.topN_leT _) (GType.cnt_bulk x)
theorem projStep_mem {out : List GBound} {u : GType} {g : GBound} (h : g ∈ projStep out u) : g ∈ out ∨ Tr.bulkL g.gType.tr ≤ Tr.bulkL u.tr := by
  obtain ⟨k, n, l⟩ := u
  cases l with
  | nil => exact .inl (by rwa [projStep_nil] at h)
  | cons a l =>
    by_cases hk : k = 3
    · subst hk
      cases hany : out.any (fun x => GBound.eq x (.mk n a))
      · rw [projStep_new hany] at h
        rcases List.mem_append.1 h with h | h
        · exact .inl h
        · have : g = .mk n a := by simpa using h
          subst this
          have h1 := bulk_args 3 n (a :: l)
          have h2 : Tr.bulkL a.tr ≤ Tr.bulkAll (GType.trs (a :: l)) := bulk_mem (by simp)
          exact .inr (by show Tr.bulkL a.tr ≤ _; omega)
      · rw [projStep_has hany] at h
        exact .inl h
    · rw [projStep_kind hk] at h
      exact .inl h
theorem projSteps_mem : ∀ (l : List GType) {out : List GBound} {B : Nat}, (∀ g ∈ out, Tr.bulkL g.gType.tr ≤ B) → (∀ u ∈ l, Tr.bulkL u.tr ≤ B) → ∀ g ∈ l.foldl projStep out, Tr.bulkL g.gType.tr ≤ B
  | [], _, _, h, _ => h
  | a :: l, out, B, h, hl => by
    rw [List.foldl_cons]
    refine projSteps_mem l (fun g hg => ?_) fun u hu => hl u (List.mem_cons_of_mem _ hu)
    rcases projStep_mem hg with h1 | h1
    · exact h g h1
    · exact Nat.le_trans h1 (hl a (by simp))
theorem bounds_cnt {B : Nat} : ∀ {l : List GBound}, (∀ g ∈ l, Tr.bulkL g.gType.tr ≤ B) → Tr.cntE (GBound.trs l) ≤ l.length * (4 + 3 * B)
  | [], _ => by simp [GBound.trs, Tr.cntE]
  | g :: l, h => by
    have h1 := bounds_cnt (l := l) fun x hx => h x (List.mem_cons_of_mem _ hx)
    have h2 := h g (by simp)
    have h3 := GType.cnt_bulk g.gType
    obtain ⟨n, a⟩ := g
    have h2 : Tr.bulkL a.tr ≤ B := h2
    have h3 : Tr.cntL a.tr ≤ 3 + 3 * Tr.bulkL a.tr := h3
    rw [List.length_cons, Nat.add_mul]
    rw [GBound.trs_map] at h1 ⊢
    simp only [ List.map_cons, GBound.tr, List.nil_append, List.append_nil, List.singleton_append, List.cons_append, Tr.cntE, Tr.cntL, Tr.cnt]
    omega
theorem GType.projs_cnt (x : GType) (hb : Tr.bulkL x.tr ≤ 1048576) : Tr.cntE (GBound.trs x.projs) ≤ 4398046511104 := by
  have h1 := bounds_cnt (l := x.projs) (B := 1048576) (projSteps_mem x.pre (fun g hg => by simp at hg) fun u hu => Nat.le_trans (GType.pre_bulk x u hu) hb)
  have h2 := projSteps_len x.pre []
  have h3 : x.projs.length ≤ x.pre.length := by simpa [GType.projs] using h2
  have h4 := GType.size_bulk x
  rw [← GType.pre_length] at h4
  have h5 : x.projs.length * (4 + 3 * 1048576) ≤ 1048577 * (4 + 3 * 1048576) := Nat.mul_le_mul_right _ (by omega)
  omega
end Go.Proofs.Ytoifjkggpanceaa
