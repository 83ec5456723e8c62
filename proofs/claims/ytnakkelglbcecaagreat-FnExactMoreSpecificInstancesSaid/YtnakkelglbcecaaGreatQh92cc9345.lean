/- Words, rules and walks of several kinds, laid together: MaRel, PlZ, Cnt, PlRel. No conditions but those that each theorem states. -/
import Derived.Test.YtnakkelglbcecaaGreatQh3dd739bc
import Derived.Test.YtnakkelglbcecaaGreatQhad784d26
import Derived.Test.YtnakkelglbcecaaGreatQh64859010
import Derived.Test.YtnakkelglbcecaaGreatQh2ecc459e
import Derived.Test.YtnakkelglbcecaaGreatQhacf58ee8
import Derived.Test.YtnakkelglbcecaaGreatQh122dace5
import Derived.Test.YtnakkelglbcecaaGreatQhb2f830cf
set_option linter.unusedSimpArgs false
set_option linter.unusedVariables false
namespace Go.Proofs.YtnakkelglbcecaaGreat
open Go.RowKit Go.Proofs
set_option linter.unusedSimpArgs false
set_option linter.unusedVariables false

attribute [local irreducible] lt

noncomputable def sAllInstances_F2 (fu : Nat) (pw : GProgram) (i1 : Nat) (v3 : List GInstanceRef) : ((List GInstanceRef) × Int) → Option (LR ((List GInstanceRef) × Int) (LR ((List GInstanceRef)) ((List GInstanceRef)))) :=
 fun (v10, v9) => lt (atD pw.gPackages i1) (fun y18 =>
 sw (decide ((v9 : Int) < ((y18.gInstances.length : Nat) : Int)))
 (gd ((v10).length + (([(GInstanceRef.mk ((i1 : Nat) : Int) v9)] : List GInstanceRef)).length ≤ 68719476736)
 (some (.next ((v10 ++ ([(GInstanceRef.mk ((i1 : Nat) : Int) v9)] : List GInstanceRef)), (wrap64 (v9 + 1))))))
 (some (.brk (v10, v9))))
noncomputable def sAllInstances_R2 (fu : Nat) (pw : GProgram) (i1 : Nat) (v3 : List GInstanceRef) : Option ((LR ((List GInstanceRef)) ((List GInstanceRef))) ⊕ ((List GInstanceRef) × Int)) :=
 loopW (sAllInstances_F2 fu pw i1 v3) fu (v3, 0)
noncomputable def sAllInstances_F1 (fu : Nat) (pw : GProgram) : Nat → ((List GInstanceRef)) → Option (LR ((List GInstanceRef)) ((List GInstanceRef))) :=
 fun i1 v3 => so (sAllInstances_R2 fu pw i1 v3) (fun (v10, v9) =>
 some (.next v10))
noncomputable def sAllInstances_R1 (fu : Nat) (pw : GProgram) : Option (((List GInstanceRef)) ⊕ ((List GInstanceRef))) :=
 loopN (sAllInstances_F1 fu pw) (pw.gPackages.length - 0) 0 ([])
noncomputable def sAllInstances_M (fu : Nat)  (pw : GProgram) : Option ((List GInstanceRef)) :=
 so (sAllInstances_R1 fu pw) (fun v3 =>
 some v3)
set_option maxRecDepth 100000 in
set_option maxHeartbeats 4000000 in
theorem sAllInstances_ok  (fu : Nat)  (pw : GProgram) (r : (List GInstanceRef)) (H : sAllInstances_M fu pw = some r) : AFun Tryz.prog 97 [(GProgram.pv pw)] (.t (.row 2 (GInstanceRef.trs (r))) : PV) := by
  refine ACalls.intro Tryz.func97 rfl (by first | decide | (simp; done) | (simp; decide)) ?_
  intro C hC
  refine AWP.seq ?_
  refine AWP.region_lit ?_
  refine AL.cons rfl (AOp.box (cs := [.t (.row 6 (GPackage.trs (pw.gPackages)))]) rfl rfl rfl rfl rfl) ?_
  refine AL.cons rfl (AOp.move (.inr rfl) rfl rfl) ?_
  refine AL.nil ?_
  refine AWP.seq ?_
  refine AWP.region_lit ?_
  refine AL.cons rfl (AOp.buildSliceA (es := []) (es' := GInstanceRef.trs ([])) (cs := []) rfl rfl el66 zr33 rfl rfl (by (repeat' (first | exact PV.Le.refl _ | exact LeL.nil | exact PV.Le.nil _ | exact PV.Le.acc _ _ _ | apply LeL.cons | apply PV.Le.agg | apply PV.Le.tup))) rfl (by simp [GInstanceRef.cs]) (by decide) rfl (by decide) (by simp [GInstanceRef.trs_map, GInstanceRef.tr_cs])) ?_
  refine AL.cons rfl (AOp.move (.inr rfl) rfl rfl) ?_
  refine AL.nil ?_
  refine AWP.seq ?_
  refine AWP.seq ?_
  refine AWP.region_lit ?_
  refine AL.cons rfl (AOp.move (.inr rfl) rfl rfl) ?_
  refine AL.nil ?_
  refine AWP.fact (lk_lenN 3 rfl rfl (GInstanceRef.trs_len _)) (fun hl4 => ?_)
  refine AWP.cut (ι := (List GInstanceRef)) (fun v3 => sAllInstances_R1 fu pw = some (.inr v3)) (fun v3 => ⟨[(2, .nil), (3, .acc 2 (GInstanceRef.trs (v3)) 0)], ⟨[some ⟨31, [.t (.row 6 (GPackage.trs (pw.gPackages)))]⟩], [⟨33, 2, GInstanceRef.trs (v3), false⟩]⟩⟩) (by repeat' (first | exact qcEnds | exact ncAWP | exact ncRound | exact ncEx | apply qcThen | apply qcBlock | apply qcCut)) ?_ ?_
  · skip
    refine AWP.block ?_
    refine AWP.loopR (ι := Nat × ((List GInstanceRef))) (fun (i1, v3) => sAllInstances_R1 fu pw = loopN (sAllInstances_F1 fu pw) (pw.gPackages.length - i1) i1 v3) (fun (i1, v3) => ⟨[(1, .ptr 0 0), (2, .nil), (3, .acc 2 (GInstanceRef.trs (v3)) 0), (4, .t (.leaf (.int .i64 (((i1 : Nat) : Int)))))], ⟨[some ⟨31, [.t (.row 6 (GPackage.trs (pw.gPackages)))]⟩], [⟨33, 2, GInstanceRef.trs (v3), false⟩]⟩⟩) (fun (i1, v3) => pw.gPackages.length - i1) (0, ([])) ?_ ?_ ?_
    · exact rfl
    · skip
      exact Wk.mk (StLe.mk' ⟨⟨rfl, by (repeat' (first | exact PV.Le.refl _ | exact LeL.nil | exact PV.Le.nil _ | exact PV.Le.acc _ _ _ | apply LeL.cons | apply PV.Le.agg | apply PV.Le.tup)), rfl⟩, trivial⟩ (by first | rfl | simp)) (keeps_nil hC) ⟨⟨_, rfl, .refl _, rfl⟩, ⟨⟨_, rfl, .refl _, rfl⟩, ⟨⟨_, rfl, by (repeat' (first | exact PV.Le.refl _ | exact LeL.nil | exact PV.Le.nil _ | exact PV.Le.acc _ _ _ | apply LeL.cons | apply PV.Le.agg | apply PV.Le.tup)), rfl⟩, ⟨⟨_, rfl, by (repeat' (first | exact PV.Le.refl _ | exact LeL.nil | exact PV.Le.nil _ | exact PV.Le.acc _ _ _ | apply LeL.cons | apply PV.Le.agg | apply PV.Le.tup)), rfl⟩, trivial⟩⟩⟩⟩
    · rintro ⟨i1, v3⟩ hJ5
      refine AWP.seq ?_
      refine AWP.seq ?_
      refine AWP.region_lit ?_
      refine AL.cons rfl (AOp.move (.inl rfl) rfl rfl) ?_
      refine AL.cons rfl (AOp.fieldPtr (k := 0) (d := 0) (e := 0) rfl rfl rfl fo31_0) ?_
      refine AL.cons rfl (AOp.loadPtr1 rfl rfl rfl rfl sh29 rfl) ?_
      refine AL.fact (lk_lenN 9 rfl rfl (GPackage.trs_len _)) (fun hl6 => ?_)
      refine AL.cons rfl (AOp.lenN rfl rfl rfl rfl el29 (GPackage.trs_len _)) ?_
      refine AL.cons rfl (AOp.lss rfl rfl rfl rfl) ?_
      refine AL.nil ?_
      refine AWP.cond rfl (fun h7 => ?_) (fun h7 => ?_)
      · skip
        have h7l : i1 < pw.gPackages.length := nat_lt_of2 h7
        have h7n := nat_lt_of h7
        refine AWP.skip ?_
        refine AWP.seq ?_
        refine AWP.block ?_
        refine AWP.seq ?_
        refine AWP.region_lit ?_
        refine AL.cons rfl (AOp.move (.inr rfl) rfl rfl) ?_
        refine AL.nil ?_
        refine AWP.fact (lk_lenN 3 rfl rfl (GInstanceRef.trs_len _)) (fun hl11 => ?_)
        refine AWP.cut (ι := (List GInstanceRef) × Int) (fun (v10, v9) => sAllInstances_R2 fu pw i1 v3 = some (.inr (v10, v9))) (fun (v10, v9) => ⟨[(1, .ptr 0 0), (2, .nil), (3, .acc 2 (GInstanceRef.trs (v10)) 0), (4, .t (.leaf (.int .i64 (((i1 : Nat) : Int))))), (5, .t (.leaf (.int .i64 (v9)))), (7, .t (.leaf (.int .i64 (((i1 : Nat) : Int))))), (8, .ptr 0 0), (9, .t (.row 6 (GPackage.trs (pw.gPackages)))), (10, .t (.leaf (.int .i64 (((pw.gPackages.length : Nat) : Int))))), (11, .t (.leaf (.bool (decide ((((i1 : Nat) : Int) : Int) < ((pw.gPackages.length : Nat) : Int))))))], ⟨[some ⟨31, [.t (.row 6 (GPackage.trs (pw.gPackages)))]⟩], [⟨33, 2, GInstanceRef.trs (v10), false⟩]⟩⟩) (by repeat' (first | exact qcEnds | exact ncAWP | exact ncRound | exact ncEx | apply qcThen | apply qcBlock | apply qcCut)) ?_ ?_
        · skip
          refine AWP.block ?_
          refine AWP.loopR (ι := Nat × ((List GInstanceRef) × Int)) (fun (k12, (v10, v9)) => sAllInstances_R2 fu pw i1 v3 = loopW (sAllInstances_F2 fu pw i1 v3) k12 (v10, v9)) (fun (k12, (v10, v9)) => ⟨[(1, .ptr 0 0), (2, .nil), (3, .acc 2 (GInstanceRef.trs (v10)) 0), (4, .t (.leaf (.int .i64 (((i1 : Nat) : Int))))), (5, .t (.leaf (.int .i64 (v9)))), (7, .t (.leaf (.int .i64 (((i1 : Nat) : Int))))), (8, .ptr 0 0), (9, .t (.row 6 (GPackage.trs (pw.gPackages)))), (10, .t (.leaf (.int .i64 (((pw.gPackages.length : Nat) : Int))))), (11, .t (.leaf (.bool (decide ((((i1 : Nat) : Int) : Int) < ((pw.gPackages.length : Nat) : Int))))))], ⟨[some ⟨31, [.t (.row 6 (GPackage.trs (pw.gPackages)))]⟩], [⟨33, 2, GInstanceRef.trs (v10), false⟩]⟩⟩) (fun (k12, (v10, v9)) => k12) (fu, (v3, 0)) ?_ ?_ ?_
          · exact rfl
          · skip
            exact Wk.mk (StLe.mk' ⟨⟨rfl, by (repeat' (first | exact PV.Le.refl _ | exact LeL.nil | exact PV.Le.nil _ | exact PV.Le.acc _ _ _ | apply LeL.cons | apply PV.Le.agg | apply PV.Le.tup)), rfl⟩, trivial⟩ (by first | rfl | simp)) (keeps_nil hC) ⟨⟨_, rfl, .refl _, rfl⟩, ⟨⟨_, rfl, .refl _, rfl⟩, ⟨⟨_, rfl, by (repeat' (first | exact PV.Le.refl _ | exact LeL.nil | exact PV.Le.nil _ | exact PV.Le.acc _ _ _ | apply LeL.cons | apply PV.Le.agg | apply PV.Le.tup)), rfl⟩, ⟨⟨_, rfl, .refl _, rfl⟩, ⟨⟨_, rfl, by (repeat' (first | exact PV.Le.refl _ | exact LeL.nil | exact PV.Le.nil _ | exact PV.Le.acc _ _ _ | apply LeL.cons | apply PV.Le.agg | apply PV.Le.tup)), rfl⟩, ⟨⟨_, rfl, .refl _, rfl⟩, ⟨⟨_, rfl, .refl _, rfl⟩, ⟨⟨_, rfl, .refl _, rfl⟩, ⟨⟨_, rfl, .refl _, rfl⟩, ⟨⟨_, rfl, .refl _, rfl⟩, trivial⟩⟩⟩⟩⟩⟩⟩⟩⟩⟩
          · rintro ⟨k12, v10, v9⟩ hJ13
            rcases k12 with _ | k12
            · skip
              have e14 : sAllInstances_R2 fu pw i1 v3 = none := loopW_zero hJ13
              have e15 : (sAllInstances_F1 fu pw) i1 v3 = none := soN e14
              have e16 : sAllInstances_R1 fu pw = none := loopN_non h7l hJ5 e15
              have e17 : sAllInstances_M fu pw = none := soN e16
              exact none_some H e17
            · skip
              refine AWP.seq ?_
              refine AWP.seq ?_
              refine AWP.region_lit ?_
              refine AL.cons rfl (AOp.move (.inl rfl) rfl rfl) ?_
              refine AL.cons rfl (AOp.fieldPtr (k := 0) (d := 0) (e := 0) rfl rfl rfl fo31_0) ?_
              refine AL.cons rfl (AOp.loadPtr1 rfl rfl rfl rfl sh29 rfl) ?_
              refine AL.cons rfl (AOp.move (.inl rfl) rfl rfl) ?_
              obtain ⟨y18, hy19⟩ : ∃ y : GPackage, y = atD pw.gPackages i1 := ⟨_, rfl⟩
              refine AL.cons rfl (AOp.index (e := GPackage.cs y18) (k := i1) rfl rfl rfl rfl rfl (by rw [hy19]; exact GPackage.trs_at h7n) el29) ?_
              refine AL.cons rfl (AOp.fieldEptr (cs := (GPackage.cs y18)) (e := 4) rfl rfl rfl fo126_4) ?_
              refine AL.cons rfl (AOp.loadEptr1 (d := .row 12 (GInstance.trs (y18.gInstances))) rfl rfl rfl sh123 rfl) ?_
              refine AL.fact (lk_lenN 20 rfl rfl (GInstance.trs_len _)) (fun hl20 => ?_)
              refine AL.cons rfl (AOp.lenN rfl rfl rfl rfl el123 (GInstance.trs_len _)) ?_
              refine AL.cons rfl (AOp.lss rfl rfl rfl rfl) ?_
              refine AL.nil ?_
              refine AWP.cond rfl (fun h21 => ?_) (fun h21 => ?_)
              · skip
                refine AWP.skip ?_
                refine AWP.seq ?_
                refine AWP.block ?_
                refine AWP.region_lit ?_
                refine AL.cons rfl (AOp.move (.inl rfl) rfl rfl) ?_
                refine AL.cons rfl (AOp.move (.inl rfl) rfl rfl) ?_
                refine AL.cons rfl (AOp.move (.inl rfl) rfl rfl) ?_
                refine AL.cons rfl (AOp.build rfl rfl zr33 pl33 rfl rfl) ?_
                refine AL.cons rfl (AOp.buildSliceE (es := [GInstanceRef.cs (GInstanceRef.mk ((i1 : Nat) : Int) v9)]) (es' := GInstanceRef.trs (([(GInstanceRef.mk ((i1 : Nat) : Int) v9)] : List GInstanceRef))) (cs := [.t (.leaf (.int .i64 (((i1 : Nat) : Int)))), .t (.leaf (.int .i64 (v9)))]) rfl rfl el66 zr33 rfl rfl (by (repeat' (first | exact PV.Le.refl _ | exact LeL.nil | exact PV.Le.nil _ | exact PV.Le.acc _ _ _ | apply LeL.cons | apply PV.Le.agg | apply PV.Le.tup))) rfl (by simp [GInstanceRef.cs]) (by decide) rfl (by decide) (by simp [GInstanceRef.trs_map, GInstanceRef.tr_cs])) ?_
                rcases Classical.em ((v10).length + (([(GInstanceRef.mk ((i1 : Nat) : Int) v9)] : List GInstanceRef)).length ≤ 68719476736) with hg22 | hg22
                · skip
                  refine AL.cons rfl (AOp.appendE (es3 := GInstanceRef.trs (v10 ++ ([(GInstanceRef.mk ((i1 : Nat) : Int) v9)] : List GInstanceRef))) rfl rfl rfl rfl rfl rfl rfl rfl rfl (fun e he => by rw [GInstanceRef.trs_map] at he; obtain ⟨x, _, rfl⟩ := List.mem_map.1 he; rw [GInstanceRef.tr_cs]; rfl) el66 ze66 (by decide) (by rw [GInstanceRef.trs_len, GInstanceRef.trs_len]; exact room_le hg22 (by decide)) (by rw [GInstanceRef.trs_map, GInstanceRef.trs_map, GInstanceRef.trs_map, List.map_append])) ?_
                  refine AL.cons rfl (AOp.move (.inr rfl) rfl rfl) ?_
                  refine AL.nil ?_
                  refine AWP.region_lit ?_
                  refine AL.cons rfl (AOp.move (.inl rfl) rfl rfl) ?_
                  refine AL.cons rfl (AOp.addW rfl rfl rfl rfl) ?_
                  refine AL.cons rfl (AOp.move (.inr rfl) rfl rfl) ?_
                  refine AL.nil ?_
                  have e23 : (sAllInstances_F2 fu pw i1 v3) (v10, v9) = some (.next ((v10 ++ ([(GInstanceRef.mk ((i1 : Nat) : Int) v9)] : List GInstanceRef)), (wrap64 (v9 + 1)))) := ltE hy19 (swT h21 (gdT hg22 (rfl)))
                  refine ⟨(k12, ((v10 ++ ([(GInstanceRef.mk ((i1 : Nat) : Int) v9)] : List GInstanceRef)), (wrap64 (v9 + 1)))), loopW_next hJ13 e23, ?_, ?_⟩
                  · skip
                    exact Wk.mk (StLe.mk' ⟨⟨rfl, by (repeat' (first | exact PV.Le.refl _ | exact LeL.nil | exact PV.Le.nil _ | exact PV.Le.acc _ _ _ | apply LeL.cons | apply PV.Le.agg | apply PV.Le.tup)), rfl⟩, trivial⟩ (by first | rfl | simp)) (keeps_nil hC) ⟨⟨_, rfl, .refl _, rfl⟩, ⟨⟨_, rfl, .refl _, rfl⟩, ⟨⟨_, rfl, by (repeat' (first | exact PV.Le.refl _ | exact LeL.nil | exact PV.Le.nil _ | exact PV.Le.acc _ _ _ | apply LeL.cons | apply PV.Le.agg | apply PV.Le.tup)), rfl⟩, ⟨⟨_, rfl, .refl _, rfl⟩, ⟨⟨_, rfl, by (repeat' (first | exact PV.Le.refl _ | exact LeL.nil | exact PV.Le.nil _ | exact PV.Le.acc _ _ _ | apply LeL.cons | apply PV.Le.agg | apply PV.Le.tup)), rfl⟩, ⟨⟨_, rfl, .refl _, rfl⟩, ⟨⟨_, rfl, .refl _, rfl⟩, ⟨⟨_, rfl, .refl _, rfl⟩, ⟨⟨_, rfl, .refl _, rfl⟩, ⟨⟨_, rfl, .refl _, rfl⟩, trivial⟩⟩⟩⟩⟩⟩⟩⟩⟩⟩
                  · dsimp only; omega
                · skip
                  have e24 : (sAllInstances_F2 fu pw i1 v3) (v10, v9) = none := ltE hy19 (swT h21 (gdF hg22))
                  have e25 : sAllInstances_R2 fu pw i1 v3 = none := loopW_non hJ13 e24
                  have e26 : (sAllInstances_F1 fu pw) i1 v3 = none := soN e25
                  have e27 : sAllInstances_R1 fu pw = none := loopN_non h7l hJ5 e26
                  have e28 : sAllInstances_M fu pw = none := soN e27
                  exact none_some H e28
              · skip
                refine AWP.exit ?_
                have e29 : (sAllInstances_F2 fu pw i1 v3) (v10, v9) = some (.brk (v10, v9)) := ltE hy19 (swF h21 (rfl))
                refine ⟨(v10, v9), loopW_brk hJ13 e29, ?_⟩
                exact Wk.mk (StLe.mk' ⟨⟨rfl, by (repeat' (first | exact PV.Le.refl _ | exact LeL.nil | exact PV.Le.nil _ | exact PV.Le.acc _ _ _ | apply LeL.cons | apply PV.Le.agg | apply PV.Le.tup)), rfl⟩, trivial⟩ (by first | rfl | simp)) (keeps_nil hC) ⟨⟨_, rfl, .refl _, rfl⟩, ⟨⟨_, rfl, .refl _, rfl⟩, ⟨⟨_, rfl, .refl _, rfl⟩, ⟨⟨_, rfl, .refl _, rfl⟩, ⟨⟨_, rfl, .refl _, rfl⟩, ⟨⟨_, rfl, .refl _, rfl⟩, ⟨⟨_, rfl, .refl _, rfl⟩, ⟨⟨_, rfl, .refl _, rfl⟩, ⟨⟨_, rfl, .refl _, rfl⟩, ⟨⟨_, rfl, .refl _, rfl⟩, trivial⟩⟩⟩⟩⟩⟩⟩⟩⟩⟩
        · rintro ⟨v10, v9⟩ hR30
          refine AWP.region_lit ?_
          refine AL.cons rfl (AOp.move (.inl rfl) rfl rfl) ?_
          refine AL.cons rfl (AOp.addI rfl rfl rfl rfl (c := ((i1 + 1 : Nat) : Int)) (by omega) (by omega)) ?_
          refine AL.cons rfl (AOp.move (.inr rfl) rfl rfl) ?_
          refine AL.nil ?_
          have e31 : (sAllInstances_F1 fu pw) i1 v3 = some (.next v10) := soR hR30 (rfl)
          refine ⟨(i1 + 1, v10), loopN_next h7l hJ5 e31, ?_, ?_⟩
          · skip
            exact Wk.mk (StLe.mk' ⟨⟨rfl, by (repeat' (first | exact PV.Le.refl _ | exact LeL.nil | exact PV.Le.nil _ | exact PV.Le.acc _ _ _ | apply LeL.cons | apply PV.Le.agg | apply PV.Le.tup)), rfl⟩, trivial⟩ (by first | rfl | simp)) (keeps_nil hC) ⟨⟨_, rfl, .refl _, rfl⟩, ⟨⟨_, rfl, .refl _, rfl⟩, ⟨⟨_, rfl, by (repeat' (first | exact PV.Le.refl _ | exact LeL.nil | exact PV.Le.nil _ | exact PV.Le.acc _ _ _ | apply LeL.cons | apply PV.Le.agg | apply PV.Le.tup)), rfl⟩, ⟨⟨_, rfl, by (repeat' (first | exact PV.Le.refl _ | exact LeL.nil | exact PV.Le.nil _ | exact PV.Le.acc _ _ _ | apply LeL.cons | apply PV.Le.agg | apply PV.Le.tup)), rfl⟩, trivial⟩⟩⟩⟩
          · dsimp only; omega
      · skip
        have h7l : pw.gPackages.length ≤ i1 := nat_ge_of2 h7
        refine AWP.exit ?_
        refine ⟨v3, loopN_end h7l hJ5, ?_⟩
        exact Wk.mk (StLe.mk' ⟨⟨rfl, by (repeat' (first | exact PV.Le.refl _ | exact LeL.nil | exact PV.Le.nil _ | exact PV.Le.acc _ _ _ | apply LeL.cons | apply PV.Le.agg | apply PV.Le.tup)), rfl⟩, trivial⟩ (by first | rfl | simp)) (keeps_nil hC) ⟨⟨_, rfl, .refl _, rfl⟩, ⟨⟨_, rfl, .refl _, rfl⟩, trivial⟩⟩
  · rintro v3 hR32
    refine AWP.seq ?_
    refine AWP.region_lit ?_
    refine AL.cons rfl (AOp.move (.inl rfl) rfl rfl) ?_
    refine AL.cons rfl (AOp.move (.inr rfl) rfl rfl) ?_
    refine AL.nil ?_
    refine AWP.ret ?_
    have e33 : sAllInstances_M fu pw = some v3 := soR hR32 (rfl)
    have hz : v3 = r := Option.some.inj (e33.symm.trans H)
    subst hz
    exact Ends.mk (ps := [_]) (by first | exact .inr rfl | exact .inl rfl) ⟨rfl, trivial⟩ rfl (StLe.mk' (st' := ⟨[], []⟩) trivial rfl) (keeps_nil hC) (q := (.t (.row 2 (GInstanceRef.trs (v3))) : PV)) (by (repeat' (first | exact PV.Le.refl _ | exact LeL.nil | exact PV.Le.nil _ | exact PV.Le.acc _ _ _ | apply LeL.cons | apply PV.Le.agg | apply PV.Le.tup))) rfl ⟨rfl, rfl⟩

noncomputable def iAllInstances_F2 (fu : Nat) (pw : GProgram) (i2 : Nat) (v4 : List GInstanceRef) (y8 : GPackage) : Nat → ((List GInstanceRef)) → Option (LR ((List GInstanceRef)) (LR ((List GInstanceRef)) ((List GInstanceRef)))) :=
 fun i11 v13 => gd ((v13).length + (([(GInstanceRef.mk ((i2 : Nat) : Int) ((i11 : Nat) : Int))] : List GInstanceRef)).length ≤ 68719476736)
 (some (.next (v13 ++ ([(GInstanceRef.mk ((i2 : Nat) : Int) ((i11 : Nat) : Int))] : List GInstanceRef))))
noncomputable def iAllInstances_R2 (fu : Nat) (pw : GProgram) (i2 : Nat) (v4 : List GInstanceRef) (y8 : GPackage) : Option ((LR ((List GInstanceRef)) ((List GInstanceRef))) ⊕ ((List GInstanceRef))) :=
 loopN (iAllInstances_F2 fu pw i2 v4 y8) (y8.gInstances.length - 0) 0 v4
noncomputable def iAllInstances_F1 (fu : Nat) (pw : GProgram) : Nat → ((List GInstanceRef)) → Option (LR ((List GInstanceRef)) ((List GInstanceRef))) :=
 fun i2 v4 => lt (atD pw.gPackages i2) (fun y8 =>
 so (iAllInstances_R2 fu pw i2 v4 y8) (fun v13 =>
 some (.next v13)))
noncomputable def iAllInstances_R1 (fu : Nat) (pw : GProgram) : Option (((List GInstanceRef)) ⊕ ((List GInstanceRef))) :=
 loopN (iAllInstances_F1 fu pw) (pw.gPackages.length - 0) 0 ([])
noncomputable def iAllInstances_M (fu : Nat)  (pw : GProgram) : Option ((List GInstanceRef)) :=
 so (iAllInstances_R1 fu pw) (fun v4 =>
 some v4)
set_option maxRecDepth 100000 in
set_option maxHeartbeats 4000000 in
theorem iAllInstances_ok  (fu : Nat)  (pw : GProgram) (r : (List GInstanceRef)) (H : iAllInstances_M fu pw = some r) : AFun Tryz.prog 99 [(GProgram.pv pw)] (.t (.row 2 (GInstanceRef.trs (r))) : PV) := by
  refine ACalls.intro Tryz.func99 rfl (by first | decide | (simp; done) | (simp; decide)) ?_
  intro C hC
  refine AWP.seq ?_
  refine AWP.region_lit ?_
  refine AL.cons rfl (AOp.box (cs := [.t (.row 6 (GPackage.trs (pw.gPackages)))]) rfl rfl rfl rfl rfl) ?_
  refine AL.cons rfl (AOp.move (.inr rfl) rfl rfl) ?_
  refine AL.nil ?_
  refine AWP.seq ?_
  refine AWP.region_lit ?_
  refine AL.cons rfl (AOp.buildSliceA (es := []) (es' := GInstanceRef.trs ([])) (cs := []) rfl rfl el66 zr33 rfl rfl (by (repeat' (first | exact PV.Le.refl _ | exact LeL.nil | exact PV.Le.nil _ | exact PV.Le.acc _ _ _ | apply LeL.cons | apply PV.Le.agg | apply PV.Le.tup))) rfl (by simp [GInstanceRef.cs]) (by decide) rfl (by decide) (by simp [GInstanceRef.trs_map, GInstanceRef.tr_cs])) ?_
  refine AL.cons rfl (AOp.move (.inr rfl) rfl rfl) ?_
  refine AL.nil ?_
  refine AWP.seq ?_
  refine AWP.seq ?_
  refine AWP.region_lit ?_
  refine AL.cons rfl (AOp.fieldPtr (k := 0) (d := 0) (e := 0) rfl rfl rfl fo31_0) ?_
  refine AL.cons rfl (AOp.loadPtr1 rfl rfl rfl rfl sh29 rfl) ?_
  refine AL.fact (lk_lenN 9 rfl rfl (GPackage.trs_len _)) (fun hl1 => ?_)
  refine AL.cons rfl (AOp.lenN rfl rfl rfl rfl el29 (GPackage.trs_len _)) ?_
  refine AL.cons rfl (AOp.move (.inl rfl) rfl rfl) ?_
  refine AL.nil ?_
  refine AWP.fact (lk_lenN 3 rfl rfl (GInstanceRef.trs_len _)) (fun hl5 => ?_)
  refine AWP.cut (ι := (List GInstanceRef)) (fun v4 => iAllInstances_R1 fu pw = some (.inr v4)) (fun v4 => ⟨[(2, .nil), (3, .acc 2 (GInstanceRef.trs (v4)) 0)], ⟨[some ⟨31, [.t (.row 6 (GPackage.trs (pw.gPackages)))]⟩], [⟨33, 2, GInstanceRef.trs (v4), false⟩]⟩⟩) (by repeat' (first | exact qcEnds | exact ncAWP | exact ncRound | exact ncEx | apply qcThen | apply qcBlock | apply qcCut)) ?_ ?_
  · skip
    refine AWP.block ?_
    refine AWP.loopR (ι := Nat × ((List GInstanceRef))) (fun (i2, v4) => iAllInstances_R1 fu pw = loopN (iAllInstances_F1 fu pw) (pw.gPackages.length - i2) i2 v4) (fun (i2, v4) => ⟨[(2, .nil), (3, .acc 2 (GInstanceRef.trs (v4)) 0), (9, .t (.row 6 (GPackage.trs (pw.gPackages)))), (10, .t (.leaf (.int .i64 (((pw.gPackages.length : Nat) : Int))))), (11, .t (.leaf (.int .i64 (((i2 : Nat) : Int)))))], ⟨[some ⟨31, [.t (.row 6 (GPackage.trs (pw.gPackages)))]⟩], [⟨33, 2, GInstanceRef.trs (v4), false⟩]⟩⟩) (fun (i2, v4) => pw.gPackages.length - i2) (0, ([])) ?_ ?_ ?_
    · exact rfl
    · skip
      exact Wk.mk (StLe.mk' ⟨⟨rfl, by (repeat' (first | exact PV.Le.refl _ | exact LeL.nil | exact PV.Le.nil _ | exact PV.Le.acc _ _ _ | apply LeL.cons | apply PV.Le.agg | apply PV.Le.tup)), rfl⟩, trivial⟩ (by first | rfl | simp)) (keeps_nil hC) ⟨⟨_, rfl, .refl _, rfl⟩, ⟨⟨_, rfl, by (repeat' (first | exact PV.Le.refl _ | exact LeL.nil | exact PV.Le.nil _ | exact PV.Le.acc _ _ _ | apply LeL.cons | apply PV.Le.agg | apply PV.Le.tup)), rfl⟩, ⟨⟨_, rfl, .refl _, rfl⟩, ⟨⟨_, rfl, .refl _, rfl⟩, ⟨⟨_, rfl, by (repeat' (first | exact PV.Le.refl _ | exact LeL.nil | exact PV.Le.nil _ | exact PV.Le.acc _ _ _ | apply LeL.cons | apply PV.Le.agg | apply PV.Le.tup)), rfl⟩, trivial⟩⟩⟩⟩⟩
    · rintro ⟨i2, v4⟩ hJ6
      refine AWP.seq ?_
      refine AWP.region_lit ?_
      refine AL.cons rfl (AOp.lss rfl rfl rfl rfl) ?_
      refine AL.nil ?_
      refine AWP.seq ?_
      refine AWP.cond rfl (fun h7 => ?_) (fun h7 => ?_)
      · skip
        have h7l : i2 < pw.gPackages.length := nat_lt_of2 h7
        have h7n := nat_lt_of h7
        refine AWP.skip ?_
        refine AWP.seq ?_
        refine AWP.block ?_
        refine AWP.seq ?_
        refine AWP.region_lit ?_
        refine AL.cons rfl (AOp.move (.inl rfl) rfl rfl) ?_
        obtain ⟨y8, hy9⟩ : ∃ y : GPackage, y = atD pw.gPackages i2 := ⟨_, rfl⟩
        refine AL.cons rfl (AOp.index (e := GPackage.cs y8) (k := i2) rfl rfl rfl rfl rfl (by rw [hy9]; exact GPackage.trs_at h7n) el29) ?_
        refine AL.cons rfl (AOp.loadEptr (ds := [.leaf (.string (y8.gName)), .row 1 (strTrs (y8.gDeps)), .row 5 (GTrait.trs (y8.gTraits)), .row 3 (GDataType.trs (y8.gDataTypes)), .row 12 (GInstance.trs (y8.gInstances)), .row 16 (GFunction.trs (y8.gFunctions))]) rfl rfl rfl sh126 rfl rfl) ?_
        refine AL.cons rfl (AOp.alloc rfl rfl zr126) ?_
        refine AL.cons rfl (AOp.move (.inr rfl) rfl rfl) ?_
        refine AL.cons rfl (AOp.storePtr (cs := [.t (.leaf (.string (y8.gName))), .t (.row 1 (strTrs (y8.gDeps))), .t (.row 5 (GTrait.trs (y8.gTraits))), .t (.row 3 (GDataType.trs (y8.gDataTypes))), .t (.row 12 (GInstance.trs (y8.gInstances))), .t (.row 16 (GFunction.trs (y8.gFunctions)))]) (ds := [.t (.leaf (.string (y8.gName))), .t (.row 1 (strTrs (y8.gDeps))), .t (.row 5 (GTrait.trs (y8.gTraits))), .t (.row 3 (GDataType.trs (y8.gDataTypes))), .t (.row 12 (GInstance.trs (y8.gInstances))), .t (.row 16 (GFunction.trs (y8.gFunctions)))]) rfl rfl rfl rfl rfl rfl rfl sz126 (Nat.le_of_ble_eq_true rfl) rfl) ?_
        refine AL.nil ?_
        refine AWP.seq ?_
        refine AWP.region_lit ?_
        refine AL.cons rfl (AOp.fieldPtr (k := 1) (d := 0) (e := 4) rfl rfl rfl fo126_4) ?_
        refine AL.cons rfl (AOp.loadPtr1 rfl rfl rfl rfl sh123 rfl) ?_
        refine AL.fact (lk_lenN 17 rfl rfl (GInstance.trs_len _)) (fun hl10 => ?_)
        refine AL.cons rfl (AOp.lenN rfl rfl rfl rfl el123 (GInstance.trs_len _)) ?_
        refine AL.cons rfl (AOp.move (.inl rfl) rfl rfl) ?_
        refine AL.nil ?_
        refine AWP.fact (lk_lenN 3 rfl rfl (GInstanceRef.trs_len _)) (fun hl14 => ?_)
        refine AWP.cut (ι := (List GInstanceRef)) (fun v13 => iAllInstances_R2 fu pw i2 v4 y8 = some (.inr v13)) (fun v13 => ⟨[(2, .nil), (3, .acc 2 (GInstanceRef.trs (v13)) 0), (4, .t (.leaf (.int .i64 (((i2 : Nat) : Int))))), (5, .ptr 1 0), (9, .t (.row 6 (GPackage.trs (pw.gPackages)))), (10, .t (.leaf (.int .i64 (((pw.gPackages.length : Nat) : Int))))), (11, .t (.leaf (.int .i64 (((i2 : Nat) : Int))))), (12, .t (.leaf (.bool (decide ((((i2 : Nat) : Int) : Int) < ((pw.gPackages.length : Nat) : Int)))))), (13, .t (.leaf (.int .i64 (((i2 : Nat) : Int))))), (14, .eptr (GPackage.cs y8)), (15, (GPackage.pv y8)), (16, .ptr 1 4), (17, .t (.row 12 (GInstance.trs (y8.gInstances)))), (18, .t (.leaf (.int .i64 (((y8.gInstances.length : Nat) : Int)))))], ⟨[some ⟨31, [.t (.row 6 (GPackage.trs (pw.gPackages)))]⟩, some ⟨126, [.t (.leaf (.string (y8.gName))), .t (.row 1 (strTrs (y8.gDeps))), .t (.row 5 (GTrait.trs (y8.gTraits))), .t (.row 3 (GDataType.trs (y8.gDataTypes))), .t (.row 12 (GInstance.trs (y8.gInstances))), .t (.row 16 (GFunction.trs (y8.gFunctions)))]⟩], [⟨33, 2, GInstanceRef.trs (v13), false⟩]⟩⟩) (by repeat' (first | exact qcEnds | exact ncAWP | exact ncRound | exact ncEx | apply qcThen | apply qcBlock | apply qcCut)) ?_ ?_
        · skip
          refine AWP.block ?_
          refine AWP.loopR (ι := Nat × ((List GInstanceRef))) (fun (i11, v13) => iAllInstances_R2 fu pw i2 v4 y8 = loopN (iAllInstances_F2 fu pw i2 v4 y8) (y8.gInstances.length - i11) i11 v13) (fun (i11, v13) => ⟨[(2, .nil), (3, .acc 2 (GInstanceRef.trs (v13)) 0), (4, .t (.leaf (.int .i64 (((i2 : Nat) : Int))))), (5, .ptr 1 0), (9, .t (.row 6 (GPackage.trs (pw.gPackages)))), (10, .t (.leaf (.int .i64 (((pw.gPackages.length : Nat) : Int))))), (11, .t (.leaf (.int .i64 (((i2 : Nat) : Int))))), (12, .t (.leaf (.bool (decide ((((i2 : Nat) : Int) : Int) < ((pw.gPackages.length : Nat) : Int)))))), (13, .t (.leaf (.int .i64 (((i2 : Nat) : Int))))), (14, .eptr (GPackage.cs y8)), (15, (GPackage.pv y8)), (16, .ptr 1 4), (17, .t (.row 12 (GInstance.trs (y8.gInstances)))), (18, .t (.leaf (.int .i64 (((y8.gInstances.length : Nat) : Int))))), (19, .t (.leaf (.int .i64 (((i11 : Nat) : Int)))))], ⟨[some ⟨31, [.t (.row 6 (GPackage.trs (pw.gPackages)))]⟩, some ⟨126, [.t (.leaf (.string (y8.gName))), .t (.row 1 (strTrs (y8.gDeps))), .t (.row 5 (GTrait.trs (y8.gTraits))), .t (.row 3 (GDataType.trs (y8.gDataTypes))), .t (.row 12 (GInstance.trs (y8.gInstances))), .t (.row 16 (GFunction.trs (y8.gFunctions)))]⟩], [⟨33, 2, GInstanceRef.trs (v13), false⟩]⟩⟩) (fun (i11, v13) => y8.gInstances.length - i11) (0, v4) ?_ ?_ ?_
          · exact rfl
          · skip
            exact Wk.mk (StLe.mk' ⟨⟨rfl, by (repeat' (first | exact PV.Le.refl _ | exact LeL.nil | exact PV.Le.nil _ | exact PV.Le.acc _ _ _ | apply LeL.cons | apply PV.Le.agg | apply PV.Le.tup)), rfl⟩, ⟨⟨rfl, by (repeat' (first | exact PV.Le.refl _ | exact LeL.nil | exact PV.Le.nil _ | exact PV.Le.acc _ _ _ | apply LeL.cons | apply PV.Le.agg | apply PV.Le.tup)), rfl⟩, trivial⟩⟩ (by first | rfl | simp)) (keeps_nil hC) ⟨⟨_, rfl, .refl _, rfl⟩, ⟨⟨_, rfl, by (repeat' (first | exact PV.Le.refl _ | exact LeL.nil | exact PV.Le.nil _ | exact PV.Le.acc _ _ _ | apply LeL.cons | apply PV.Le.agg | apply PV.Le.tup)), rfl⟩, ⟨⟨_, rfl, .refl _, rfl⟩, ⟨⟨_, rfl, .refl _, rfl⟩, ⟨⟨_, rfl, .refl _, rfl⟩, ⟨⟨_, rfl, .refl _, rfl⟩, ⟨⟨_, rfl, .refl _, rfl⟩, ⟨⟨_, rfl, .refl _, rfl⟩, ⟨⟨_, rfl, .refl _, rfl⟩, ⟨⟨_, rfl, .refl _, rfl⟩, ⟨⟨_, rfl, .refl _, rfl⟩, ⟨⟨_, rfl, .refl _, rfl⟩, ⟨⟨_, rfl, .refl _, rfl⟩, ⟨⟨_, rfl, .refl _, rfl⟩, ⟨⟨_, rfl, by (repeat' (first | exact PV.Le.refl _ | exact LeL.nil | exact PV.Le.nil _ | exact PV.Le.acc _ _ _ | apply LeL.cons | apply PV.Le.agg | apply PV.Le.tup)), rfl⟩, trivial⟩⟩⟩⟩⟩⟩⟩⟩⟩⟩⟩⟩⟩⟩⟩
          · rintro ⟨i11, v13⟩ hJ15
            refine AWP.seq ?_
            refine AWP.region_lit ?_
            refine AL.cons rfl (AOp.lss rfl rfl rfl rfl) ?_
            refine AL.nil ?_
            refine AWP.seq ?_
            refine AWP.cond rfl (fun h16 => ?_) (fun h16 => ?_)
            · skip
              have h16l : i11 < y8.gInstances.length := nat_lt_of2 h16
              have h16n := nat_lt_of h16
              refine AWP.skip ?_
              refine AWP.seq ?_
              refine AWP.block ?_
              refine AWP.seq ?_
              refine AWP.region_lit ?_
              refine AL.cons rfl (AOp.move (.inl rfl) rfl rfl) ?_
              refine AL.cons rfl (AOp.move (.inr rfl) rfl rfl) ?_
              refine AL.nil ?_
              refine AWP.region_lit ?_
              refine AL.cons rfl (AOp.move (.inl rfl) rfl rfl) ?_
              refine AL.cons rfl (AOp.move (.inl rfl) rfl rfl) ?_
              refine AL.cons rfl (AOp.move (.inl rfl) rfl rfl) ?_
              refine AL.cons rfl (AOp.build rfl rfl zr33 pl33 rfl rfl) ?_
              refine AL.cons rfl (AOp.buildSliceE (es := [GInstanceRef.cs (GInstanceRef.mk ((i2 : Nat) : Int) ((i11 : Nat) : Int))]) (es' := GInstanceRef.trs (([(GInstanceRef.mk ((i2 : Nat) : Int) ((i11 : Nat) : Int))] : List GInstanceRef))) (cs := [.t (.leaf (.int .i64 (((i2 : Nat) : Int)))), .t (.leaf (.int .i64 (((i11 : Nat) : Int))))]) rfl rfl el66 zr33 rfl rfl (by (repeat' (first | exact PV.Le.refl _ | exact LeL.nil | exact PV.Le.nil _ | exact PV.Le.acc _ _ _ | apply LeL.cons | apply PV.Le.agg | apply PV.Le.tup))) rfl (by simp [GInstanceRef.cs]) (by decide) rfl (by decide) (by simp [GInstanceRef.trs_map, GInstanceRef.tr_cs])) ?_
              rcases Classical.em ((v13).length + (([(GInstanceRef.mk ((i2 : Nat) : Int) ((i11 : Nat) : Int))] : List GInstanceRef)).length ≤ 68719476736) with hg17 | hg17
              · skip
                refine AL.cons rfl (AOp.appendE (es3 := GInstanceRef.trs (v13 ++ ([(GInstanceRef.mk ((i2 : Nat) : Int) ((i11 : Nat) : Int))] : List GInstanceRef))) rfl rfl rfl rfl rfl rfl rfl rfl rfl (fun e he => by rw [GInstanceRef.trs_map] at he; obtain ⟨x, _, rfl⟩ := List.mem_map.1 he; rw [GInstanceRef.tr_cs]; rfl) el66 ze66 (by decide) (by rw [GInstanceRef.trs_len, GInstanceRef.trs_len]; exact room_le hg17 (by decide)) (by rw [GInstanceRef.trs_map, GInstanceRef.trs_map, GInstanceRef.trs_map, List.map_append])) ?_
                refine AL.cons rfl (AOp.move (.inr rfl) rfl rfl) ?_
                refine AL.nil ?_
                refine AWP.region_lit ?_
                refine AL.cons rfl (AOp.addI rfl rfl rfl rfl (c := ((i11 + 1 : Nat) : Int)) (by omega) (by omega)) ?_
                refine AL.cons rfl (AOp.move (.inl rfl) rfl rfl) ?_
                refine AL.nil ?_
                have e18 : (iAllInstances_F2 fu pw i2 v4 y8) i11 v13 = some (.next (v13 ++ ([(GInstanceRef.mk ((i2 : Nat) : Int) ((i11 : Nat) : Int))] : List GInstanceRef))) := gdT hg17 (rfl)
                refine ⟨(i11 + 1, (v13 ++ ([(GInstanceRef.mk ((i2 : Nat) : Int) ((i11 : Nat) : Int))] : List GInstanceRef))), loopN_next h16l hJ15 e18, ?_, ?_⟩
                · skip
                  exact Wk.mk (StLe.mk' ⟨⟨rfl, by (repeat' (first | exact PV.Le.refl _ | exact LeL.nil | exact PV.Le.nil _ | exact PV.Le.acc _ _ _ | apply LeL.cons | apply PV.Le.agg | apply PV.Le.tup)), rfl⟩, ⟨⟨rfl, by (repeat' (first | exact PV.Le.refl _ | exact LeL.nil | exact PV.Le.nil _ | exact PV.Le.acc _ _ _ | apply LeL.cons | apply PV.Le.agg | apply PV.Le.tup)), rfl⟩, trivial⟩⟩ (by first | rfl | simp)) (keeps_nil hC) ⟨⟨_, rfl, .refl _, rfl⟩, ⟨⟨_, rfl, by (repeat' (first | exact PV.Le.refl _ | exact LeL.nil | exact PV.Le.nil _ | exact PV.Le.acc _ _ _ | apply LeL.cons | apply PV.Le.agg | apply PV.Le.tup)), rfl⟩, ⟨⟨_, rfl, .refl _, rfl⟩, ⟨⟨_, rfl, .refl _, rfl⟩, ⟨⟨_, rfl, .refl _, rfl⟩, ⟨⟨_, rfl, .refl _, rfl⟩, ⟨⟨_, rfl, .refl _, rfl⟩, ⟨⟨_, rfl, .refl _, rfl⟩, ⟨⟨_, rfl, .refl _, rfl⟩, ⟨⟨_, rfl, .refl _, rfl⟩, ⟨⟨_, rfl, .refl _, rfl⟩, ⟨⟨_, rfl, .refl _, rfl⟩, ⟨⟨_, rfl, .refl _, rfl⟩, ⟨⟨_, rfl, .refl _, rfl⟩, ⟨⟨_, rfl, by (repeat' (first | exact PV.Le.refl _ | exact LeL.nil | exact PV.Le.nil _ | exact PV.Le.acc _ _ _ | apply LeL.cons | apply PV.Le.agg | apply PV.Le.tup)), rfl⟩, trivial⟩⟩⟩⟩⟩⟩⟩⟩⟩⟩⟩⟩⟩⟩⟩
                · dsimp only; omega
              · skip
                have e19 : (iAllInstances_F2 fu pw i2 v4 y8) i11 v13 = none := gdF hg17
                have e20 : iAllInstances_R2 fu pw i2 v4 y8 = none := loopN_non h16l hJ15 e19
                have e21 : (iAllInstances_F1 fu pw) i2 v4 = none := ltE hy9 (soN e20)
                have e22 : iAllInstances_R1 fu pw = none := loopN_non h7l hJ6 e21
                have e23 : iAllInstances_M fu pw = none := soN e22
                exact none_some H e23
            · skip
              have h16l : y8.gInstances.length ≤ i11 := nat_ge_of2 h16
              refine AWP.exit ?_
              refine ⟨v13, loopN_end h16l hJ15, ?_⟩
              exact Wk.mk (StLe.mk' ⟨⟨rfl, by (repeat' (first | exact PV.Le.refl _ | exact LeL.nil | exact PV.Le.nil _ | exact PV.Le.acc _ _ _ | apply LeL.cons | apply PV.Le.agg | apply PV.Le.tup)), rfl⟩, ⟨⟨rfl, by (repeat' (first | exact PV.Le.refl _ | exact LeL.nil | exact PV.Le.nil _ | exact PV.Le.acc _ _ _ | apply LeL.cons | apply PV.Le.agg | apply PV.Le.tup)), rfl⟩, trivial⟩⟩ (by first | rfl | simp)) (keeps_nil hC) ⟨⟨_, rfl, .refl _, rfl⟩, ⟨⟨_, rfl, .refl _, rfl⟩, ⟨⟨_, rfl, .refl _, rfl⟩, ⟨⟨_, rfl, .refl _, rfl⟩, ⟨⟨_, rfl, .refl _, rfl⟩, ⟨⟨_, rfl, .refl _, rfl⟩, ⟨⟨_, rfl, .refl _, rfl⟩, ⟨⟨_, rfl, .refl _, rfl⟩, ⟨⟨_, rfl, .refl _, rfl⟩, ⟨⟨_, rfl, .refl _, rfl⟩, ⟨⟨_, rfl, .refl _, rfl⟩, ⟨⟨_, rfl, .refl _, rfl⟩, ⟨⟨_, rfl, .refl _, rfl⟩, ⟨⟨_, rfl, .refl _, rfl⟩, trivial⟩⟩⟩⟩⟩⟩⟩⟩⟩⟩⟩⟩⟩⟩
        · rintro v13 hR24
          refine AWP.region_lit ?_
          refine AL.cons rfl (AOp.addI rfl rfl rfl rfl (c := ((i2 + 1 : Nat) : Int)) (by omega) (by omega)) ?_
          refine AL.cons rfl (AOp.move (.inl rfl) rfl rfl) ?_
          refine AL.nil ?_
          have e25 : (iAllInstances_F1 fu pw) i2 v4 = some (.next v13) := ltE hy9 (soR hR24 (rfl))
          refine ⟨(i2 + 1, v13), loopN_next h7l hJ6 e25, ?_, ?_⟩
          · skip
            exact Wk.mk (StLe.mk' ⟨⟨rfl, by (repeat' (first | exact PV.Le.refl _ | exact LeL.nil | exact PV.Le.nil _ | exact PV.Le.acc _ _ _ | apply LeL.cons | apply PV.Le.agg | apply PV.Le.tup)), rfl⟩, trivial⟩ (by first | rfl | simp)) (keeps_nil hC) ⟨⟨_, rfl, .refl _, rfl⟩, ⟨⟨_, rfl, by (repeat' (first | exact PV.Le.refl _ | exact LeL.nil | exact PV.Le.nil _ | exact PV.Le.acc _ _ _ | apply LeL.cons | apply PV.Le.agg | apply PV.Le.tup)), rfl⟩, ⟨⟨_, rfl, .refl _, rfl⟩, ⟨⟨_, rfl, .refl _, rfl⟩, ⟨⟨_, rfl, by (repeat' (first | exact PV.Le.refl _ | exact LeL.nil | exact PV.Le.nil _ | exact PV.Le.acc _ _ _ | apply LeL.cons | apply PV.Le.agg | apply PV.Le.tup)), rfl⟩, trivial⟩⟩⟩⟩⟩
          · dsimp only; omega
      · skip
        have h7l : pw.gPackages.length ≤ i2 := nat_ge_of2 h7
        refine AWP.exit ?_
        refine ⟨v4, loopN_end h7l hJ6, ?_⟩
        exact Wk.mk (StLe.mk' ⟨⟨rfl, by (repeat' (first | exact PV.Le.refl _ | exact LeL.nil | exact PV.Le.nil _ | exact PV.Le.acc _ _ _ | apply LeL.cons | apply PV.Le.agg | apply PV.Le.tup)), rfl⟩, trivial⟩ (by first | rfl | simp)) (keeps_nil hC) ⟨⟨_, rfl, .refl _, rfl⟩, ⟨⟨_, rfl, .refl _, rfl⟩, trivial⟩⟩
  · rintro v4 hR26
    refine AWP.seq ?_
    refine AWP.region_lit ?_
    refine AL.cons rfl (AOp.move (.inl rfl) rfl rfl) ?_
    refine AL.cons rfl (AOp.move (.inr rfl) rfl rfl) ?_
    refine AL.nil ?_
    refine AWP.ret ?_
    have e27 : iAllInstances_M fu pw = some v4 := soR hR26 (rfl)
    have hz : v4 = r := Option.some.inj (e27.symm.trans H)
    subst hz
    exact Ends.mk (ps := [_]) (by first | exact .inr rfl | exact .inl rfl) ⟨rfl, trivial⟩ rfl (StLe.mk' (st' := ⟨[], []⟩) trivial rfl) (keeps_nil hC) (q := (.t (.row 2 (GInstanceRef.trs (v4))) : PV)) (by (repeat' (first | exact PV.Le.refl _ | exact LeL.nil | exact PV.Le.nil _ | exact PV.Le.acc _ _ _ | apply LeL.cons | apply PV.Le.agg | apply PV.Le.tup))) rfl ⟨rfl, rfl⟩

noncomputable def sl22Side_F1 (fu : Nat) (pa0 : GProgram) (pa1 : GInstanceRef) (pa2 : Bool) (x2 : List GInstanceRef) : Nat → ((List GInstanceRef)) → Option (LR ((List GInstanceRef)) ((List GInstanceRef))) :=
 fun i4 v6 => sw (Option.isSome (GProgram.instAt pa0 pa1))
 (sw (decide (((atD x2 i4).gPackage : Int) = pa1.gPackage) && decide (((atD x2 i4).gAt : Int) = pa1.gAt))
 (some (.next v6))
 (sw (!decide ((oInst (GProgram.instAt pa0 (atD x2 i4))).gTrait = (oInst (GProgram.instAt pa0 pa1)).gTrait))
 (some (.next v6))
 (sw (pa2)
 (gd (Tr.bulkL (GType.tr ((oInst (GProgram.instAt pa0 (atD x2 i4))).gHead)) ≤ 68719476735)
 (gd (Tr.bulkL (GType.tr ((oInst (GProgram.instAt pa0 pa1)).gHead)) ≤ 68719476735)
 (sw (matchB ((oInst (GProgram.instAt pa0 (atD x2 i4))).gHead) ((oInst (GProgram.instAt pa0 pa1)).gHead))
 (gd ((v6).length + (([(atD x2 i4)] : List GInstanceRef)).length ≤ 68719476736)
 (some (.next (v6 ++ ([(atD x2 i4)] : List GInstanceRef)))))
 (some (.next v6)))))
 (gd (Tr.bulkL (GType.tr ((oInst (GProgram.instAt pa0 pa1)).gHead)) ≤ 68719476735)
 (gd (Tr.bulkL (GType.tr ((oInst (GProgram.instAt pa0 (atD x2 i4))).gHead)) ≤ 68719476735)
 (sw (matchB ((oInst (GProgram.instAt pa0 pa1)).gHead) ((oInst (GProgram.instAt pa0 (atD x2 i4))).gHead))
 (gd ((v6).length + (([(atD x2 i4)] : List GInstanceRef)).length ≤ 68719476736)
 (some (.next (v6 ++ ([(atD x2 i4)] : List GInstanceRef)))))
 (some (.next v6))))))))
 (some (.brk v6))
noncomputable def sl22Side_R1 (fu : Nat) (pa0 : GProgram) (pa1 : GInstanceRef) (pa2 : Bool) (x2 : List GInstanceRef) : Option (((List GInstanceRef)) ⊕ ((List GInstanceRef))) :=
 loopN (sl22Side_F1 fu pa0 pa1 pa2 x2) (x2.length - 0) 0 ([])
noncomputable def sl22Side_M (fu : Nat)  (pa0 : GProgram) (pa1 : GInstanceRef) (pa2 : Bool) : Option ((List GInstanceRef)) :=
 bd (sAllInstances_M fu pa0) (fun x2 =>
 so (sl22Side_R1 fu pa0 pa1 pa2 x2) (fun v6 =>
 some v6))
set_option maxRecDepth 100000 in
set_option maxHeartbeats 4000000 in
theorem sl22Side_ok  (fu : Nat)  (pa0 : GProgram) (pa1 : GInstanceRef) (pa2 : Bool) (r : (List GInstanceRef)) (H : sl22Side_M fu pa0 pa1 pa2 = some r) : AFun Tryz.prog 116 [(GProgram.pv pa0), (GInstanceRef.pv pa1), .t (.leaf (.bool (pa2)))] (.t (.row 2 (GInstanceRef.trs (r))) : PV) := by
  refine ACalls.intro Tryz.func116 rfl (by first | decide | (simp; done) | (simp; decide)) ?_
  intro C hC
  refine AWP.seq ?_
  refine AWP.region_lit ?_
  refine AL.cons rfl (AOp.box (cs := [.t (.row 6 (GPackage.trs (pa0.gPackages)))]) rfl rfl rfl rfl rfl) ?_
  refine AL.cons rfl (AOp.box (cs := [.t (.leaf (.int .i64 (pa1.gPackage))), .t (.leaf (.int .i64 (pa1.gAt)))]) rfl rfl rfl rfl rfl) ?_
  refine AL.cons rfl (AOp.move (.inr rfl) rfl rfl) ?_
  refine AL.nil ?_
  refine AWP.seq ?_
  refine AWP.region_lit ?_
  refine AL.cons rfl (AOp.buildSliceA (es := []) (es' := GInstanceRef.trs ([])) (cs := []) rfl rfl el66 zr33 rfl rfl (by (repeat' (first | exact PV.Le.refl _ | exact LeL.nil | exact PV.Le.nil _ | exact PV.Le.acc _ _ _ | apply LeL.cons | apply PV.Le.agg | apply PV.Le.tup))) rfl (by simp [GInstanceRef.cs]) (by decide) rfl (by decide) (by simp [GInstanceRef.trs_map, GInstanceRef.tr_cs])) ?_
  refine AL.cons rfl (AOp.move (.inr rfl) rfl rfl) ?_
  refine AL.nil ?_
  refine AWP.seq ?_
  refine AWP.region_lit ?_
  refine AL.cons rfl (AOp.loadPtr (cs := [.t (.row 6 (GPackage.trs (pa0.gPackages)))]) rfl rfl rfl rfl sh31 rfl rfl) ?_
  refine AL.cons rfl (AOp.loadPtr (cs := [.t (.leaf (.int .i64 (pa1.gPackage))), .t (.leaf (.int .i64 (pa1.gAt)))]) rfl rfl rfl rfl sh33 rfl rfl) ?_
  refine AL.cons rfl (AOp.callF (res := .tup [(GInstance.pv (oInst (GProgram.instAt pa0 pa1))), .t (.leaf (.bool (Option.isSome (GProgram.instAt pa0 pa1))))]) (ps := [_, _]) rfl rfl Tryz.func77 (by kernel_rfl) rfl rfl (by (repeat' (first | exact PV.Le.refl _ | exact LeL.nil | exact PV.Le.nil _ | exact PV.Le.acc _ _ _ | apply LeL.cons | apply PV.Le.agg | apply PV.Le.tup))) rfl rfl (inst_spec pa0 pa1)) ?_
  refine AL.cons rfl (AOp.move (.inl rfl) rfl rfl) ?_
  refine AL.cons rfl (AOp.extract rfl rfl rfl rfl) ?_
  refine AL.cons rfl (AOp.extract rfl rfl rfl rfl) ?_
  refine AL.cons rfl (AOp.alloc rfl rfl zr113) ?_
  refine AL.cons rfl (AOp.storePtr (cs := [.t (.leaf (.string ((oInst (GProgram.instAt pa0 pa1)).gTrait))), .t (.row 1 (strTrs ((oInst (GProgram.instAt pa0 pa1)).gVars))), .t (.leaf (.int .i64 ((oInst (GProgram.instAt pa0 pa1)).gHead.gKind))), .t (.leaf (.string ((oInst (GProgram.instAt pa0 pa1)).gHead.gName))), .t (.row 3 (GType.trs ((oInst (GProgram.instAt pa0 pa1)).gHead.gArgs))), .t (.row 4 (GBound.trs ((oInst (GProgram.instAt pa0 pa1)).gWhere))), .t (.leaf (.bool ((oInst (GProgram.instAt pa0 pa1)).gDefault))), .t (.leaf (.bool ((oInst (GProgram.instAt pa0 pa1)).gHasAssoc))), .t (.leaf (.int .i64 ((oInst (GProgram.instAt pa0 pa1)).gAssoc.gKind))), .t (.leaf (.string ((oInst (GProgram.instAt pa0 pa1)).gAssoc.gName))), .t (.row 3 (GType.trs ((oInst (GProgram.instAt pa0 pa1)).gAssoc.gArgs))), .t (.row 11 (GMethod.trs ((oInst (GProgram.instAt pa0 pa1)).gMethods)))]) (ds := [.t (.leaf (.string ((oInst (GProgram.instAt pa0 pa1)).gTrait))), .t (.row 1 (strTrs ((oInst (GProgram.instAt pa0 pa1)).gVars))), .t (.leaf (.int .i64 ((oInst (GProgram.instAt pa0 pa1)).gHead.gKind))), .t (.leaf (.string ((oInst (GProgram.instAt pa0 pa1)).gHead.gName))), .t (.row 3 (GType.trs ((oInst (GProgram.instAt pa0 pa1)).gHead.gArgs))), .t (.row 4 (GBound.trs ((oInst (GProgram.instAt pa0 pa1)).gWhere))), .t (.leaf (.bool ((oInst (GProgram.instAt pa0 pa1)).gDefault))), .t (.leaf (.bool ((oInst (GProgram.instAt pa0 pa1)).gHasAssoc))), .t (.leaf (.int .i64 ((oInst (GProgram.instAt pa0 pa1)).gAssoc.gKind))), .t (.leaf (.string ((oInst (GProgram.instAt pa0 pa1)).gAssoc.gName))), .t (.row 3 (GType.trs ((oInst (GProgram.instAt pa0 pa1)).gAssoc.gArgs))), .t (.row 11 (GMethod.trs ((oInst (GProgram.instAt pa0 pa1)).gMethods)))]) rfl rfl rfl rfl rfl rfl rfl sz113 (Nat.le_of_ble_eq_true rfl) rfl) ?_
  refine AL.cons rfl (AOp.move (.inr rfl) rfl rfl) ?_
  refine AL.nil ?_
  refine AWP.seq ?_
  refine AWP.region_lit ?_
  refine AL.cons rfl (AOp.loadPtr (cs := [.t (.row 6 (GPackage.trs (pa0.gPackages)))]) rfl rfl rfl rfl sh31 rfl rfl) ?_
  rcases hq1 : sAllInstances_M fu pa0 with _ | x2
  · skip
    have e3 : sl22Side_M fu pa0 pa1 pa2 = none := bdN hq1
    exact none_some H e3
  · skip
    refine AL.cons rfl (AOp.callF (res := .t (.row 2 (GInstanceRef.trs (x2)))) (ps := [_]) rfl rfl Tryz.func97 (by kernel_rfl) rfl rfl (by (repeat' (first | exact PV.Le.refl _ | exact LeL.nil | exact PV.Le.nil _ | exact PV.Le.acc _ _ _ | apply LeL.cons | apply PV.Le.agg | apply PV.Le.tup))) rfl rfl (sAllInstances_ok fu pa0 _ hq1)) ?_
    refine AL.cons rfl (AOp.move (.inr rfl) rfl rfl) ?_
    refine AL.nil ?_
    refine AWP.seq ?_
    refine AWP.seq ?_
    refine AWP.region_lit ?_
    refine AL.cons rfl (AOp.move (.inr rfl) rfl rfl) ?_
    refine AL.nil ?_
    refine AWP.fact (lk_lenN 7 rfl rfl (GInstanceRef.trs_len _)) (fun hl7 => ?_)
    refine AWP.fact (lk_lenN 10 rfl rfl (GInstanceRef.trs_len _)) (fun hl8 => ?_)
    refine AWP.cut (ι := (List GInstanceRef)) (fun v6 => sl22Side_R1 fu pa0 pa1 pa2 x2 = some (.inr v6)) (fun v6 => ⟨[(6, .nil), (7, .acc 2 (GInstanceRef.trs (v6)) 0)], ⟨[some ⟨31, [.t (.row 6 (GPackage.trs (pa0.gPackages)))]⟩, some ⟨33, [.t (.leaf (.int .i64 (pa1.gPackage))), .t (.leaf (.int .i64 (pa1.gAt)))]⟩, some ⟨113, [.t (.leaf (.string ((oInst (GProgram.instAt pa0 pa1)).gTrait))), .t (.row 1 (strTrs ((oInst (GProgram.instAt pa0 pa1)).gVars))), .t (.leaf (.int .i64 ((oInst (GProgram.instAt pa0 pa1)).gHead.gKind))), .t (.leaf (.string ((oInst (GProgram.instAt pa0 pa1)).gHead.gName))), .t (.row 3 (GType.trs ((oInst (GProgram.instAt pa0 pa1)).gHead.gArgs))), .t (.row 4 (GBound.trs ((oInst (GProgram.instAt pa0 pa1)).gWhere))), .t (.leaf (.bool ((oInst (GProgram.instAt pa0 pa1)).gDefault))), .t (.leaf (.bool ((oInst (GProgram.instAt pa0 pa1)).gHasAssoc))), .t (.leaf (.int .i64 ((oInst (GProgram.instAt pa0 pa1)).gAssoc.gKind))), .t (.leaf (.string ((oInst (GProgram.instAt pa0 pa1)).gAssoc.gName))), .t (.row 3 (GType.trs ((oInst (GProgram.instAt pa0 pa1)).gAssoc.gArgs))), .t (.row 11 (GMethod.trs ((oInst (GProgram.instAt pa0 pa1)).gMethods)))]⟩], [⟨33, 2, GInstanceRef.trs (v6), false⟩]⟩⟩) (by repeat' (first | exact qcEnds | exact ncAWP | exact ncRound | exact ncEx | apply qcThen | apply qcBlock | apply qcCut)) ?_ ?_
    · skip
      refine AWP.block ?_
      refine AWP.loopR (ι := Nat × ((List GInstanceRef))) (fun (i4, v6) => sl22Side_R1 fu pa0 pa1 pa2 x2 = loopN (sl22Side_F1 fu pa0 pa1 pa2 x2) (x2.length - i4) i4 v6) (fun (i4, v6) => ⟨[(2, .t (.leaf (.bool (pa2)))), (3, .ptr 0 0), (4, .ptr 1 0), (6, .nil), (7, .acc 2 (GInstanceRef.trs (v6)) 0), (8, .ptr 2 0), (9, .t (.leaf (.bool (Option.isSome (GProgram.instAt pa0 pa1))))), (10, .t (.row 2 (GInstanceRef.trs (x2)))), (11, .t (.leaf (.int .i64 (((i4 : Nat) : Int)))))], ⟨[some ⟨31, [.t (.row 6 (GPackage.trs (pa0.gPackages)))]⟩, some ⟨33, [.t (.leaf (.int .i64 (pa1.gPackage))), .t (.leaf (.int .i64 (pa1.gAt)))]⟩, some ⟨113, [.t (.leaf (.string ((oInst (GProgram.instAt pa0 pa1)).gTrait))), .t (.row 1 (strTrs ((oInst (GProgram.instAt pa0 pa1)).gVars))), .t (.leaf (.int .i64 ((oInst (GProgram.instAt pa0 pa1)).gHead.gKind))), .t (.leaf (.string ((oInst (GProgram.instAt pa0 pa1)).gHead.gName))), .t (.row 3 (GType.trs ((oInst (GProgram.instAt pa0 pa1)).gHead.gArgs))), .t (.row 4 (GBound.trs ((oInst (GProgram.instAt pa0 pa1)).gWhere))), .t (.leaf (.bool ((oInst (GProgram.instAt pa0 pa1)).gDefault))), .t (.leaf (.bool ((oInst (GProgram.instAt pa0 pa1)).gHasAssoc))), .t (.leaf (.int .i64 ((oInst (GProgram.instAt pa0 pa1)).gAssoc.gKind))), .t (.leaf (.string ((oInst (GProgram.instAt pa0 pa1)).gAssoc.gName))), .t (.row 3 (GType.trs ((oInst (GProgram.instAt pa0 pa1)).gAssoc.gArgs))), .t (.row 11 (GMethod.trs ((oInst (GProgram.instAt pa0 pa1)).gMethods)))]⟩], [⟨33, 2, GInstanceRef.trs (v6), false⟩]⟩⟩) (fun (i4, v6) => x2.length - i4) (0, ([])) ?_ ?_ ?_
      · exact rfl
      · skip
        exact Wk.mk (StLe.mk' ⟨⟨rfl, by (repeat' (first | exact PV.Le.refl _ | exact LeL.nil | exact PV.Le.nil _ | exact PV.Le.acc _ _ _ | apply LeL.cons | apply PV.Le.agg | apply PV.Le.tup)), rfl⟩, ⟨⟨rfl, by (repeat' (first | exact PV.Le.refl _ | exact LeL.nil | exact PV.Le.nil _ | exact PV.Le.acc _ _ _ | apply LeL.cons | apply PV.Le.agg | apply PV.Le.tup)), rfl⟩, ⟨⟨rfl, by (repeat' (first | exact PV.Le.refl _ | exact LeL.nil | exact PV.Le.nil _ | exact PV.Le.acc _ _ _ | apply LeL.cons | apply PV.Le.agg | apply PV.Le.tup)), rfl⟩, trivial⟩⟩⟩ (by first | rfl | simp)) (keeps_nil hC) ⟨⟨_, rfl, .refl _, rfl⟩, ⟨⟨_, rfl, .refl _, rfl⟩, ⟨⟨_, rfl, .refl _, rfl⟩, ⟨⟨_, rfl, .refl _, rfl⟩, ⟨⟨_, rfl, by (repeat' (first | exact PV.Le.refl _ | exact LeL.nil | exact PV.Le.nil _ | exact PV.Le.acc _ _ _ | apply LeL.cons | apply PV.Le.agg | apply PV.Le.tup)), rfl⟩, ⟨⟨_, rfl, .refl _, rfl⟩, ⟨⟨_, rfl, .refl _, rfl⟩, ⟨⟨_, rfl, .refl _, rfl⟩, ⟨⟨_, rfl, by (repeat' (first | exact PV.Le.refl _ | exact LeL.nil | exact PV.Le.nil _ | exact PV.Le.acc _ _ _ | apply LeL.cons | apply PV.Le.agg | apply PV.Le.tup)), rfl⟩, trivial⟩⟩⟩⟩⟩⟩⟩⟩⟩
      · rintro ⟨i4, v6⟩ hJ9
        refine AWP.seq ?_
        refine AWP.seq ?_
        refine AWP.region_lit ?_
        refine AL.cons rfl (AOp.move (.inl rfl) rfl rfl) ?_
        refine AL.cons rfl (AOp.move (.inl rfl) rfl rfl) ?_
        refine AL.cons rfl (AOp.lenN rfl rfl rfl rfl el66 (GInstanceRef.trs_len _)) ?_
        refine AL.cons rfl (AOp.lss rfl rfl rfl rfl) ?_
        refine AL.cons rfl (AOp.move (.inl rfl) rfl rfl) ?_
        refine AL.splitB 27 rfl (fun g10 => ?_) (fun g10 => ?_)
        · skip
          have g10l : i4 < x2.length := nat_lt_of2 g10
          have g10n := nat_lt_of g10
          refine AL.cons_gv rfl rfl rfl g10 (AOp.move (.inl rfl) rfl rfl) ?_
          refine AL.cons rfl (AOp.pickT rfl rfl rfl g10 rfl) ?_
          refine AL.nil ?_
          refine AWP.cond rfl (fun h11 => ?_) (fun h11 => ?_)
          · skip
            refine AWP.skip ?_
            refine AWP.seq ?_
            refine AWP.block ?_
            refine AWP.seq ?_
            refine AWP.drawnL ⟨_, _, fun j' _ => ([(⟨[some ⟨31, [.t (.row 6 (GPackage.trs (pa0.gPackages)))]⟩, some ⟨33, [.t (.leaf (.int .i64 (pa1.gPackage))), .t (.leaf (.int .i64 (pa1.gAt)))]⟩, some ⟨113, [.t (.leaf (.string ((oInst (GProgram.instAt pa0 pa1)).gTrait))), .t (.row 1 (strTrs ((oInst (GProgram.instAt pa0 pa1)).gVars))), .t (.leaf (.int .i64 ((oInst (GProgram.instAt pa0 pa1)).gHead.gKind))), .t (.leaf (.string ((oInst (GProgram.instAt pa0 pa1)).gHead.gName))), .t (.row 3 (GType.trs ((oInst (GProgram.instAt pa0 pa1)).gHead.gArgs))), .t (.row 4 (GBound.trs ((oInst (GProgram.instAt pa0 pa1)).gWhere))), .t (.leaf (.bool ((oInst (GProgram.instAt pa0 pa1)).gDefault))), .t (.leaf (.bool ((oInst (GProgram.instAt pa0 pa1)).gHasAssoc))), .t (.leaf (.int .i64 ((oInst (GProgram.instAt pa0 pa1)).gAssoc.gKind))), .t (.leaf (.string ((oInst (GProgram.instAt pa0 pa1)).gAssoc.gName))), .t (.row 3 (GType.trs ((oInst (GProgram.instAt pa0 pa1)).gAssoc.gArgs))), .t (.row 11 (GMethod.trs ((oInst (GProgram.instAt pa0 pa1)).gMethods)))]⟩], [⟨33, 2, GInstanceRef.trs (v6), false⟩]⟩ : Sto), (⟨[some ⟨31, [.t (.row 6 (GPackage.trs (pa0.gPackages)))]⟩, some ⟨33, [.t (.leaf (.int .i64 (pa1.gPackage))), .t (.leaf (.int .i64 (pa1.gAt)))]⟩, some ⟨113, [.t (.leaf (.string ((oInst (GProgram.instAt pa0 pa1)).gTrait))), .t (.row 1 (strTrs ((oInst (GProgram.instAt pa0 pa1)).gVars))), .t (.leaf (.int .i64 ((oInst (GProgram.instAt pa0 pa1)).gHead.gKind))), .t (.leaf (.string ((oInst (GProgram.instAt pa0 pa1)).gHead.gName))), .t (.row 3 (GType.trs ((oInst (GProgram.instAt pa0 pa1)).gHead.gArgs))), .t (.row 4 (GBound.trs ((oInst (GProgram.instAt pa0 pa1)).gWhere))), .t (.leaf (.bool ((oInst (GProgram.instAt pa0 pa1)).gDefault))), .t (.leaf (.bool ((oInst (GProgram.instAt pa0 pa1)).gHasAssoc))), .t (.leaf (.int .i64 ((oInst (GProgram.instAt pa0 pa1)).gAssoc.gKind))), .t (.leaf (.string ((oInst (GProgram.instAt pa0 pa1)).gAssoc.gName))), .t (.row 3 (GType.trs ((oInst (GProgram.instAt pa0 pa1)).gAssoc.gArgs))), .t (.row 11 (GMethod.trs ((oInst (GProgram.instAt pa0 pa1)).gMethods)))]⟩, some ⟨113, [.t (.leaf (.string (⟨#[]⟩))), .nil, .t (.leaf (.int .i64 (0))), .t (.leaf (.string (⟨#[]⟩))), .nil, .nil, .t (.leaf (.bool (false))), .t (.leaf (.bool (false))), .t (.leaf (.int .i64 (0))), .t (.leaf (.string (⟨#[]⟩))), .nil, .nil]⟩], [⟨33, 2, GInstanceRef.trs (v6), false⟩]⟩ : Sto), (⟨[some ⟨31, [.t (.row 6 (GPackage.trs (pa0.gPackages)))]⟩, some ⟨33, [.t (.leaf (.int .i64 (pa1.gPackage))), .t (.leaf (.int .i64 (pa1.gAt)))]⟩, some ⟨113, [.t (.leaf (.string ((oInst (GProgram.instAt pa0 pa1)).gTrait))), .t (.row 1 (strTrs ((oInst (GProgram.instAt pa0 pa1)).gVars))), .t (.leaf (.int .i64 ((oInst (GProgram.instAt pa0 pa1)).gHead.gKind))), .t (.leaf (.string ((oInst (GProgram.instAt pa0 pa1)).gHead.gName))), .t (.row 3 (GType.trs ((oInst (GProgram.instAt pa0 pa1)).gHead.gArgs))), .t (.row 4 (GBound.trs ((oInst (GProgram.instAt pa0 pa1)).gWhere))), .t (.leaf (.bool ((oInst (GProgram.instAt pa0 pa1)).gDefault))), .t (.leaf (.bool ((oInst (GProgram.instAt pa0 pa1)).gHasAssoc))), .t (.leaf (.int .i64 ((oInst (GProgram.instAt pa0 pa1)).gAssoc.gKind))), .t (.leaf (.string ((oInst (GProgram.instAt pa0 pa1)).gAssoc.gName))), .t (.row 3 (GType.trs ((oInst (GProgram.instAt pa0 pa1)).gAssoc.gArgs))), .t (.row 11 (GMethod.trs ((oInst (GProgram.instAt pa0 pa1)).gMethods)))]⟩, some ⟨113, [.t (.leaf (.string ((oInst (GProgram.instAt pa0 (atD x2 i4))).gTrait))), .t (.row 1 (strTrs ((oInst (GProgram.instAt pa0 (atD x2 i4))).gVars))), .t (.leaf (.int .i64 ((oInst (GProgram.instAt pa0 (atD x2 i4))).gHead.gKind))), .t (.leaf (.string ((oInst (GProgram.instAt pa0 (atD x2 i4))).gHead.gName))), .t (.row 3 (GType.trs ((oInst (GProgram.instAt pa0 (atD x2 i4))).gHead.gArgs))), .t (.row 4 (GBound.trs ((oInst (GProgram.instAt pa0 (atD x2 i4))).gWhere))), .t (.leaf (.bool ((oInst (GProgram.instAt pa0 (atD x2 i4))).gDefault))), .t (.leaf (.bool ((oInst (GProgram.instAt pa0 (atD x2 i4))).gHasAssoc))), .t (.leaf (.int .i64 ((oInst (GProgram.instAt pa0 (atD x2 i4))).gAssoc.gKind))), .t (.leaf (.string ((oInst (GProgram.instAt pa0 (atD x2 i4))).gAssoc.gName))), .t (.row 3 (GType.trs ((oInst (GProgram.instAt pa0 (atD x2 i4))).gAssoc.gArgs))), .t (.row 11 (GMethod.trs ((oInst (GProgram.instAt pa0 (atD x2 i4))).gMethods)))]⟩], [⟨33, 2, GInstanceRef.trs (v6), false⟩]⟩ : Sto)] : List Sto).getD j' (⟨[some ⟨31, [.t (.row 6 (GPackage.trs (pa0.gPackages)))]⟩, some ⟨33, [.t (.leaf (.int .i64 (pa1.gPackage))), .t (.leaf (.int .i64 (pa1.gAt)))]⟩, some ⟨113, [.t (.leaf (.string ((oInst (GProgram.instAt pa0 pa1)).gTrait))), .t (.row 1 (strTrs ((oInst (GProgram.instAt pa0 pa1)).gVars))), .t (.leaf (.int .i64 ((oInst (GProgram.instAt pa0 pa1)).gHead.gKind))), .t (.leaf (.string ((oInst (GProgram.instAt pa0 pa1)).gHead.gName))), .t (.row 3 (GType.trs ((oInst (GProgram.instAt pa0 pa1)).gHead.gArgs))), .t (.row 4 (GBound.trs ((oInst (GProgram.instAt pa0 pa1)).gWhere))), .t (.leaf (.bool ((oInst (GProgram.instAt pa0 pa1)).gDefault))), .t (.leaf (.bool ((oInst (GProgram.instAt pa0 pa1)).gHasAssoc))), .t (.leaf (.int .i64 ((oInst (GProgram.instAt pa0 pa1)).gAssoc.gKind))), .t (.leaf (.string ((oInst (GProgram.instAt pa0 pa1)).gAssoc.gName))), .t (.row 3 (GType.trs ((oInst (GProgram.instAt pa0 pa1)).gAssoc.gArgs))), .t (.row 11 (GMethod.trs ((oInst (GProgram.instAt pa0 pa1)).gMethods)))]⟩, some ⟨113, [.t (.leaf (.string ((oInst (GProgram.instAt pa0 (atD x2 i4))).gTrait))), .t (.row 1 (strTrs ((oInst (GProgram.instAt pa0 (atD x2 i4))).gVars))), .t (.leaf (.int .i64 ((oInst (GProgram.instAt pa0 (atD x2 i4))).gHead.gKind))), .t (.leaf (.string ((oInst (GProgram.instAt pa0 (atD x2 i4))).gHead.gName))), .t (.row 3 (GType.trs ((oInst (GProgram.instAt pa0 (atD x2 i4))).gHead.gArgs))), .t (.row 4 (GBound.trs ((oInst (GProgram.instAt pa0 (atD x2 i4))).gWhere))), .t (.leaf (.bool ((oInst (GProgram.instAt pa0 (atD x2 i4))).gDefault))), .t (.leaf (.bool ((oInst (GProgram.instAt pa0 (atD x2 i4))).gHasAssoc))), .t (.leaf (.int .i64 ((oInst (GProgram.instAt pa0 (atD x2 i4))).gAssoc.gKind))), .t (.leaf (.string ((oInst (GProgram.instAt pa0 (atD x2 i4))).gAssoc.gName))), .t (.row 3 (GType.trs ((oInst (GProgram.instAt pa0 (atD x2 i4))).gAssoc.gArgs))), .t (.row 11 (GMethod.trs ((oInst (GProgram.instAt pa0 (atD x2 i4))).gMethods)))]⟩], [⟨33, 2, GInstanceRef.trs (v6), false⟩]⟩ : Sto), fun q' => ([some ((GProgram.pv pa0)), some (.t (.row 2 (GInstanceRef.trs (x2)))), some (.t (.leaf (.int .i64 (((i4 : Nat) : Int))))), some (.eptr (GInstanceRef.cs (atD x2 i4))), some ((GInstanceRef.pv (atD x2 i4))), some (.tup [(GInstance.pv (oInst (GProgram.instAt pa0 (atD x2 i4)))), .t (.leaf (.bool (Option.isSome (GProgram.instAt pa0 (atD x2 i4)))))]), some (.tup [(GInstance.pv (oInst (GProgram.instAt pa0 (atD x2 i4)))), .t (.leaf (.bool (Option.isSome (GProgram.instAt pa0 (atD x2 i4)))))]), some ((GInstance.pv (oInst (GProgram.instAt pa0 (atD x2 i4))))), some (.t (.leaf (.bool (Option.isSome (GProgram.instAt pa0 (atD x2 i4)))))), some (.ptr 3 0), none, some (.t (.leaf (.bool (Option.isSome (GProgram.instAt pa0 (atD x2 i4))))))] : List (Option PV)).getD q' none, fun q' => ([.q 0 1, .q 0 1, .q 0 1, .q 0 1, .q 0 1, .q 0 1, .q 0 1, .q 0 1, .q 0 2, .ef 0, .ef 1, .q 2 2] : List DK).getD q' (.q 0 0), [9, 10], none, fun q' => ([[(3, none)], [(10, none)], [(11, none)], [(34, some 1), (35, some 2)], [(36, some 3)], [(37, some 4), (33, some 0)], [(38, some 5)], [(32, some 6)], [(32, some 6)], [], [(12, some 9), (39, some 7)], [(40, some 8)]] : List (List (Nat × Option Nat))).getD q' []⟩ rfl mixed (by kernel_rfl) rfl rfl ⟨?_, ?_, ?_, ?_, ?_, ?_, ?_, ?_, ?_, ?_, ?_, ?_, trivial⟩ rfl ?_
            · refine .inl ⟨rfl, fun s' jj bb (h1 : 0 ≤ jj) (h2 : jj ≤ 1) hs hl => ?_⟩
              rcases (by omega : jj = 0 ∨ jj = 1) with rfl | rfl <;> exact ⟨_, rfl, AOp.loadPtr (cs := [.t (.row 6 (GPackage.trs (pa0.gPackages)))]) rfl rfl (hl 3 none _ (.head _) rfl) (by rw [hs]; rfl) sh31 rfl rfl⟩
            · refine .inl ⟨rfl, fun s' jj bb (h1 : 0 ≤ jj) (h2 : jj ≤ 1) hs hl => ?_⟩
              rcases (by omega : jj = 0 ∨ jj = 1) with rfl | rfl <;> exact ⟨_, rfl, AOp.move (.inl rfl) rfl (hl 10 none _ (.head _) rfl)⟩
            · refine .inl ⟨rfl, fun s' jj bb (h1 : 0 ≤ jj) (h2 : jj ≤ 1) hs hl => ?_⟩
              rcases (by omega : jj = 0 ∨ jj = 1) with rfl | rfl <;> exact ⟨_, rfl, AOp.move (.inl rfl) rfl (hl 11 none _ (.head _) rfl)⟩
            · refine .inl ⟨rfl, fun s' jj bb (h1 : 0 ≤ jj) (h2 : jj ≤ 1) hs hl => ?_⟩
              rcases (by omega : jj = 0 ∨ jj = 1) with rfl | rfl <;> exact ⟨_, rfl, AOp.index (k := i4) rfl rfl (hl 34 (some 1) _ (.head _) rfl) rfl (hl 35 (some 2) _ (.tail _ (.head _)) rfl) (GInstanceRef.trs_at g10n) el66⟩
            · refine .inl ⟨rfl, fun s' jj bb (h1 : 0 ≤ jj) (h2 : jj ≤ 1) hs hl => ?_⟩
              rcases (by omega : jj = 0 ∨ jj = 1) with rfl | rfl <;> exact ⟨_, rfl, AOp.loadEptr (ds := [.leaf (.int .i64 ((atD x2 i4).gPackage)), .leaf (.int .i64 ((atD x2 i4).gAt))]) rfl rfl (hl 36 (some 3) _ (.head _) rfl) sh33 rfl rfl⟩
            · refine .inl ⟨rfl, fun s' jj bb (h1 : 0 ≤ jj) (h2 : jj ≤ 1) hs hl => ?_⟩
              rcases (by omega : jj = 0 ∨ jj = 1) with rfl | rfl <;> exact ⟨_, rfl, AOp.callF (res := .tup [(GInstance.pv (oInst (GProgram.instAt pa0 (atD x2 i4)))), .t (.leaf (.bool (Option.isSome (GProgram.instAt pa0 (atD x2 i4)))))]) (ps := [_, _]) rfl rfl Tryz.func77 (by kernel_rfl) rfl (evs_cons (hl 33 (some 0) _ (.tail _ (.head _)) rfl) (evs_cons (hl 37 (some 4) _ (.head _) rfl) rfl)) (by (repeat' (first | exact PV.Le.refl _ | exact LeL.nil | exact PV.Le.nil _ | exact PV.Le.acc _ _ _ | apply LeL.cons | apply PV.Le.agg | apply PV.Le.tup))) rfl rfl (inst_spec pa0 (atD x2 i4))⟩
            · refine .inl ⟨rfl, fun s' jj bb (h1 : 0 ≤ jj) (h2 : jj ≤ 1) hs hl => ?_⟩
              rcases (by omega : jj = 0 ∨ jj = 1) with rfl | rfl <;> exact ⟨_, rfl, AOp.move (.inl rfl) rfl (hl 38 (some 5) _ (.head _) rfl)⟩
            · refine .inl ⟨rfl, fun s' jj bb (h1 : 0 ≤ jj) (h2 : jj ≤ 1) hs hl => ?_⟩
              rcases (by omega : jj = 0 ∨ jj = 1) with rfl | rfl <;> exact ⟨_, rfl, AOp.extract rfl rfl (hl 32 (some 6) _ (.head _) rfl) rfl⟩
            · refine .inl ⟨rfl, fun s' jj bb (h1 : 0 ≤ jj) (h2 : jj ≤ 2) hs hl => ?_⟩
              rcases (by omega : jj = 0 ∨ jj = 1 ∨ jj = 2) with rfl | rfl | rfl <;> exact ⟨_, rfl, AOp.extract rfl rfl (hl 32 (some 6) _ (.head _) rfl) rfl⟩
            · refine .inl ⟨rfl, fun s' bb hs hl => ?_⟩
              refine .inl ⟨_, rfl, AOp.congr (AOp.alloc rfl rfl zr113) ?_⟩
              first | (rw [hs]; rfl) | rfl
            · refine .inl ⟨rfl, fun s' bb hs hl => ?_⟩
              refine .inr ⟨rfl, AOp.congr (AOp.storePtr (cs := [.t (.leaf (.string ((oInst (GProgram.instAt pa0 (atD x2 i4))).gTrait))), .t (.row 1 (strTrs ((oInst (GProgram.instAt pa0 (atD x2 i4))).gVars))), .t (.leaf (.int .i64 ((oInst (GProgram.instAt pa0 (atD x2 i4))).gHead.gKind))), .t (.leaf (.string ((oInst (GProgram.instAt pa0 (atD x2 i4))).gHead.gName))), .t (.row 3 (GType.trs ((oInst (GProgram.instAt pa0 (atD x2 i4))).gHead.gArgs))), .t (.row 4 (GBound.trs ((oInst (GProgram.instAt pa0 (atD x2 i4))).gWhere))), .t (.leaf (.bool ((oInst (GProgram.instAt pa0 (atD x2 i4))).gDefault))), .t (.leaf (.bool ((oInst (GProgram.instAt pa0 (atD x2 i4))).gHasAssoc))), .t (.leaf (.int .i64 ((oInst (GProgram.instAt pa0 (atD x2 i4))).gAssoc.gKind))), .t (.leaf (.string ((oInst (GProgram.instAt pa0 (atD x2 i4))).gAssoc.gName))), .t (.row 3 (GType.trs ((oInst (GProgram.instAt pa0 (atD x2 i4))).gAssoc.gArgs))), .t (.row 11 (GMethod.trs ((oInst (GProgram.instAt pa0 (atD x2 i4))).gMethods)))]) (ds := [.t (.leaf (.string ((oInst (GProgram.instAt pa0 (atD x2 i4))).gTrait))), .t (.row 1 (strTrs ((oInst (GProgram.instAt pa0 (atD x2 i4))).gVars))), .t (.leaf (.int .i64 ((oInst (GProgram.instAt pa0 (atD x2 i4))).gHead.gKind))), .t (.leaf (.string ((oInst (GProgram.instAt pa0 (atD x2 i4))).gHead.gName))), .t (.row 3 (GType.trs ((oInst (GProgram.instAt pa0 (atD x2 i4))).gHead.gArgs))), .t (.row 4 (GBound.trs ((oInst (GProgram.instAt pa0 (atD x2 i4))).gWhere))), .t (.leaf (.bool ((oInst (GProgram.instAt pa0 (atD x2 i4))).gDefault))), .t (.leaf (.bool ((oInst (GProgram.instAt pa0 (atD x2 i4))).gHasAssoc))), .t (.leaf (.int .i64 ((oInst (GProgram.instAt pa0 (atD x2 i4))).gAssoc.gKind))), .t (.leaf (.string ((oInst (GProgram.instAt pa0 (atD x2 i4))).gAssoc.gName))), .t (.row 3 (GType.trs ((oInst (GProgram.instAt pa0 (atD x2 i4))).gAssoc.gArgs))), .t (.row 11 (GMethod.trs ((oInst (GProgram.instAt pa0 (atD x2 i4))).gMethods)))]) rfl (hl 12 (some 9) _ (.head _) rfl) (by rw [hs]; rfl) (hl 39 (some 7) _ (.tail _ (.head _)) rfl) rfl rfl rfl sz113 (Nat.le_of_ble_eq_true rfl) rfl) ?_⟩
              first | (rw [hs]; rfl) | rfl
            · refine .inl ⟨rfl, fun s' jj bb (h1 : 2 ≤ jj) (h2 : jj ≤ 2) hs hl => ?_⟩
              obtain rfl : jj = 2 := by omega
              exact ⟨_, rfl, AOp.move (.inr rfl) rfl (hl 40 (some 8) _ (.head _) rfl)⟩
            refine AWP.seq ?_
            refine AWP.seq ?_
            rcases bool2 (decide (((atD x2 i4).gPackage : Int) = pa1.gPackage) && decide (((atD x2 i4).gAt : Int) = pa1.gAt)) with g12 | g12
            · skip
              refine AWP.drawnL ⟨_, _, fun _ _ => (⟨[some ⟨31, [.t (.row 6 (GPackage.trs (pa0.gPackages)))]⟩, some ⟨33, [.t (.leaf (.int .i64 (pa1.gPackage))), .t (.leaf (.int .i64 (pa1.gAt)))]⟩, some ⟨113, [.t (.leaf (.string ((oInst (GProgram.instAt pa0 pa1)).gTrait))), .t (.row 1 (strTrs ((oInst (GProgram.instAt pa0 pa1)).gVars))), .t (.leaf (.int .i64 ((oInst (GProgram.instAt pa0 pa1)).gHead.gKind))), .t (.leaf (.string ((oInst (GProgram.instAt pa0 pa1)).gHead.gName))), .t (.row 3 (GType.trs ((oInst (GProgram.instAt pa0 pa1)).gHead.gArgs))), .t (.row 4 (GBound.trs ((oInst (GProgram.instAt pa0 pa1)).gWhere))), .t (.leaf (.bool ((oInst (GProgram.instAt pa0 pa1)).gDefault))), .t (.leaf (.bool ((oInst (GProgram.instAt pa0 pa1)).gHasAssoc))), .t (.leaf (.int .i64 ((oInst (GProgram.instAt pa0 pa1)).gAssoc.gKind))), .t (.leaf (.string ((oInst (GProgram.instAt pa0 pa1)).gAssoc.gName))), .t (.row 3 (GType.trs ((oInst (GProgram.instAt pa0 pa1)).gAssoc.gArgs))), .t (.row 11 (GMethod.trs ((oInst (GProgram.instAt pa0 pa1)).gMethods)))]⟩, some ⟨113, [.t (.leaf (.string ((oInst (GProgram.instAt pa0 (atD x2 i4))).gTrait))), .t (.row 1 (strTrs ((oInst (GProgram.instAt pa0 (atD x2 i4))).gVars))), .t (.leaf (.int .i64 ((oInst (GProgram.instAt pa0 (atD x2 i4))).gHead.gKind))), .t (.leaf (.string ((oInst (GProgram.instAt pa0 (atD x2 i4))).gHead.gName))), .t (.row 3 (GType.trs ((oInst (GProgram.instAt pa0 (atD x2 i4))).gHead.gArgs))), .t (.row 4 (GBound.trs ((oInst (GProgram.instAt pa0 (atD x2 i4))).gWhere))), .t (.leaf (.bool ((oInst (GProgram.instAt pa0 (atD x2 i4))).gDefault))), .t (.leaf (.bool ((oInst (GProgram.instAt pa0 (atD x2 i4))).gHasAssoc))), .t (.leaf (.int .i64 ((oInst (GProgram.instAt pa0 (atD x2 i4))).gAssoc.gKind))), .t (.leaf (.string ((oInst (GProgram.instAt pa0 (atD x2 i4))).gAssoc.gName))), .t (.row 3 (GType.trs ((oInst (GProgram.instAt pa0 (atD x2 i4))).gAssoc.gArgs))), .t (.row 11 (GMethod.trs ((oInst (GProgram.instAt pa0 (atD x2 i4))).gMethods)))]⟩], [⟨33, 2, GInstanceRef.trs (v6), false⟩]⟩ : Sto), fun q' => ([some (.t (.row 2 (GInstanceRef.trs (x2)))), some (.t (.leaf (.int .i64 (((i4 : Nat) : Int))))), some (.eptr (GInstanceRef.cs (atD x2 i4))), some ((GInstanceRef.pv (atD x2 i4))), some ((GInstanceRef.pv pa1)), some (.t (.leaf (.bool (decide (((atD x2 i4).gPackage : Int) = pa1.gPackage) && decide (((atD x2 i4).gAt : Int) = pa1.gAt))))), some (.t (.leaf (.bool (decide (((atD x2 i4).gPackage : Int) = pa1.gPackage) && decide (((atD x2 i4).gAt : Int) = pa1.gAt))))), none, none, none, none, none, some (.t (.leaf (.bool (true))))] : List (Option PV)).getD q' none, fun q' => ([.q 0 0, .q 0 0, .q 0 0, .q 0 0, .q 0 0, .q 0 0, .q 0 0, .q 0 0, .q 0 0, .q 0 0, .q 0 0, .q 0 0, .q 0 0] : List DK).getD q' (.q 0 0), [], none, fun q' => ([[(10, none)], [(11, none)], [(41, some 0), (42, some 1)], [(43, some 2)], [(4, none)], [(44, some 3), (45, some 4)], [(46, some 5)], [], [], [], [], [], [(47, some 6)]] : List (List (Nat × Option Nat))).getD q' []⟩ rfl mixed (by kernel_rfl) rfl rfl ⟨?_, ?_, ?_, ?_, ?_, ?_, ?_, ?_, ?_, ?_, ?_, ?_, ?_, trivial⟩ rfl ?_
              · refine .inl ⟨rfl, fun s' jj bb (h1 : 0 ≤ jj) (h2 : jj ≤ 0) hs hl => ?_⟩
                obtain rfl : jj = 0 := by omega
                exact ⟨_, rfl, AOp.move (.inl rfl) rfl (hl 10 none _ (.head _) rfl)⟩
              · refine .inl ⟨rfl, fun s' jj bb (h1 : 0 ≤ jj) (h2 : jj ≤ 0) hs hl => ?_⟩
                obtain rfl : jj = 0 := by omega
                exact ⟨_, rfl, AOp.move (.inl rfl) rfl (hl 11 none _ (.head _) rfl)⟩
              · refine .inl ⟨rfl, fun s' jj bb (h1 : 0 ≤ jj) (h2 : jj ≤ 0) hs hl => ?_⟩
                obtain rfl : jj = 0 := by omega
                exact ⟨_, rfl, AOp.index (k := i4) rfl rfl (hl 41 (some 0) _ (.head _) rfl) rfl (hl 42 (some 1) _ (.tail _ (.head _)) rfl) (GInstanceRef.trs_at g10n) el66⟩
              · refine .inl ⟨rfl, fun s' jj bb (h1 : 0 ≤ jj) (h2 : jj ≤ 0) hs hl => ?_⟩
                obtain rfl : jj = 0 := by omega
                exact ⟨_, rfl, AOp.loadEptr (ds := [.leaf (.int .i64 ((atD x2 i4).gPackage)), .leaf (.int .i64 ((atD x2 i4).gAt))]) rfl rfl (hl 43 (some 2) _ (.head _) rfl) sh33 rfl rfl⟩
              · refine .inl ⟨rfl, fun s' jj bb (h1 : 0 ≤ jj) (h2 : jj ≤ 0) hs hl => ?_⟩
                obtain rfl : jj = 0 := by omega
                exact ⟨_, rfl, AOp.loadPtr (cs := [.t (.leaf (.int .i64 (pa1.gPackage))), .t (.leaf (.int .i64 (pa1.gAt)))]) rfl rfl (hl 4 none _ (.head _) rfl) (by rw [hs]; rfl) sh33 rfl rfl⟩
              · refine .inl ⟨rfl, fun s' jj bb (h1 : 0 ≤ jj) (h2 : jj ≤ 0) hs hl => ?_⟩
                obtain rfl : jj = 0 := by omega
                exact ⟨_, rfl, AOp.eqlP rfl rfl (hl 44 (some 3) _ (.head _) rfl) (hl 45 (some 4) _ (.tail _ (.head _)) rfl) eqg33 eqr33⟩
              · refine .inl ⟨rfl, fun s' jj bb (h1 : 0 ≤ jj) (h2 : jj ≤ 0) hs hl => ?_⟩
                obtain rfl : jj = 0 := by omega
                exact ⟨_, rfl, AOp.move (.inl rfl) rfl (hl 46 (some 5) _ (.head _) rfl)⟩
              · exact .inr ⟨(congrArg (fun b => some (b == false)) g12), rfl, ⟨_, _, rfl⟩, fun d hd => by cases hd; rfl⟩
              · exact .inr ⟨(congrArg (fun b => some (b == false)) g12), rfl, ⟨_, _, rfl⟩, fun d hd => by cases hd; rfl⟩
              · exact .inr ⟨(congrArg (fun b => some (b == false)) g12), rfl, ⟨_, _, rfl⟩, fun d hd => by cases hd; rfl⟩
              · exact .inr ⟨(congrArg (fun b => some (b == false)) g12), rfl, ⟨_, _, rfl⟩, fun d hd => by cases hd; rfl⟩
              · exact .inr ⟨(congrArg (fun b => some (b == false)) g12), rfl, ⟨_, _, rfl⟩, fun d hd => by cases hd; rfl⟩
              · refine .inl ⟨rfl, fun s' jj bb (h1 : 0 ≤ jj) (h2 : jj ≤ 0) hs hl => ?_⟩
                obtain rfl : jj = 0 := by omega
                exact ⟨_, rfl, AOp.pickT rfl rfl (hl 47 (some 6) _ (.head _) rfl) g12 rfl⟩
              refine AWP.cond rfl (fun h13 => ?_) (fun h13 => ?_)
              · skip
                refine AWP.exit ?_
                refine AWP.region_lit ?_
                refine AL.cons rfl (AOp.move (.inl rfl) rfl rfl) ?_
                refine AL.cons rfl (AOp.addI rfl rfl rfl rfl (c := ((i4 + 1 : Nat) : Int)) (by omega) (by omega)) ?_
                refine AL.cons rfl (AOp.move (.inr rfl) rfl rfl) ?_
                refine AL.nil ?_
                have e14 : (sl22Side_F1 fu pa0 pa1 pa2 x2) i4 v6 = some (.next v6) := swT h11 (swT g12 (rfl))
                refine ⟨(i4 + 1, v6), loopN_next g10l hJ9 e14, ?_, ?_⟩
                · skip
                  exact Wk.mk (StLe.mk' ⟨⟨rfl, by (repeat' (first | exact PV.Le.refl _ | exact LeL.nil | exact PV.Le.nil _ | exact PV.Le.acc _ _ _ | apply LeL.cons | apply PV.Le.agg | apply PV.Le.tup)), rfl⟩, ⟨⟨rfl, by (repeat' (first | exact PV.Le.refl _ | exact LeL.nil | exact PV.Le.nil _ | exact PV.Le.acc _ _ _ | apply LeL.cons | apply PV.Le.agg | apply PV.Le.tup)), rfl⟩, ⟨⟨rfl, by (repeat' (first | exact PV.Le.refl _ | exact LeL.nil | exact PV.Le.nil _ | exact PV.Le.acc _ _ _ | apply LeL.cons | apply PV.Le.agg | apply PV.Le.tup)), rfl⟩, trivial⟩⟩⟩ (by first | rfl | simp)) (keeps_nil hC) ⟨⟨_, rfl, .refl _, rfl⟩, ⟨⟨_, rfl, .refl _, rfl⟩, ⟨⟨_, rfl, .refl _, rfl⟩, ⟨⟨_, rfl, .refl _, rfl⟩, ⟨⟨_, rfl, .refl _, rfl⟩, ⟨⟨_, rfl, .refl _, rfl⟩, ⟨⟨_, rfl, .refl _, rfl⟩, ⟨⟨_, rfl, .refl _, rfl⟩, ⟨⟨_, rfl, by (repeat' (first | exact PV.Le.refl _ | exact LeL.nil | exact PV.Le.nil _ | exact PV.Le.acc _ _ _ | apply LeL.cons | apply PV.Le.agg | apply PV.Le.tup)), rfl⟩, trivial⟩⟩⟩⟩⟩⟩⟩⟩⟩
                · dsimp only; omega
              · skip
                exact absurd (h13.symm.trans rfl) (by decide)
            · skip
              refine AWP.drawnL ⟨_, _, fun _ _ => (⟨[some ⟨31, [.t (.row 6 (GPackage.trs (pa0.gPackages)))]⟩, some ⟨33, [.t (.leaf (.int .i64 (pa1.gPackage))), .t (.leaf (.int .i64 (pa1.gAt)))]⟩, some ⟨113, [.t (.leaf (.string ((oInst (GProgram.instAt pa0 pa1)).gTrait))), .t (.row 1 (strTrs ((oInst (GProgram.instAt pa0 pa1)).gVars))), .t (.leaf (.int .i64 ((oInst (GProgram.instAt pa0 pa1)).gHead.gKind))), .t (.leaf (.string ((oInst (GProgram.instAt pa0 pa1)).gHead.gName))), .t (.row 3 (GType.trs ((oInst (GProgram.instAt pa0 pa1)).gHead.gArgs))), .t (.row 4 (GBound.trs ((oInst (GProgram.instAt pa0 pa1)).gWhere))), .t (.leaf (.bool ((oInst (GProgram.instAt pa0 pa1)).gDefault))), .t (.leaf (.bool ((oInst (GProgram.instAt pa0 pa1)).gHasAssoc))), .t (.leaf (.int .i64 ((oInst (GProgram.instAt pa0 pa1)).gAssoc.gKind))), .t (.leaf (.string ((oInst (GProgram.instAt pa0 pa1)).gAssoc.gName))), .t (.row 3 (GType.trs ((oInst (GProgram.instAt pa0 pa1)).gAssoc.gArgs))), .t (.row 11 (GMethod.trs ((oInst (GProgram.instAt pa0 pa1)).gMethods)))]⟩, some ⟨113, [.t (.leaf (.string ((oInst (GProgram.instAt pa0 (atD x2 i4))).gTrait))), .t (.row 1 (strTrs ((oInst (GProgram.instAt pa0 (atD x2 i4))).gVars))), .t (.leaf (.int .i64 ((oInst (GProgram.instAt pa0 (atD x2 i4))).gHead.gKind))), .t (.leaf (.string ((oInst (GProgram.instAt pa0 (atD x2 i4))).gHead.gName))), .t (.row 3 (GType.trs ((oInst (GProgram.instAt pa0 (atD x2 i4))).gHead.gArgs))), .t (.row 4 (GBound.trs ((oInst (GProgram.instAt pa0 (atD x2 i4))).gWhere))), .t (.leaf (.bool ((oInst (GProgram.instAt pa0 (atD x2 i4))).gDefault))), .t (.leaf (.bool ((oInst (GProgram.instAt pa0 (atD x2 i4))).gHasAssoc))), .t (.leaf (.int .i64 ((oInst (GProgram.instAt pa0 (atD x2 i4))).gAssoc.gKind))), .t (.leaf (.string ((oInst (GProgram.instAt pa0 (atD x2 i4))).gAssoc.gName))), .t (.row 3 (GType.trs ((oInst (GProgram.instAt pa0 (atD x2 i4))).gAssoc.gArgs))), .t (.row 11 (GMethod.trs ((oInst (GProgram.instAt pa0 (atD x2 i4))).gMethods)))]⟩], [⟨33, 2, GInstanceRef.trs (v6), false⟩]⟩ : Sto), fun q' => ([some (.t (.row 2 (GInstanceRef.trs (x2)))), some (.t (.leaf (.int .i64 (((i4 : Nat) : Int))))), some (.eptr (GInstanceRef.cs (atD x2 i4))), some ((GInstanceRef.pv (atD x2 i4))), some ((GInstanceRef.pv pa1)), some (.t (.leaf (.bool (decide (((atD x2 i4).gPackage : Int) = pa1.gPackage) && decide (((atD x2 i4).gAt : Int) = pa1.gAt))))), some (.t (.leaf (.bool (decide (((atD x2 i4).gPackage : Int) = pa1.gPackage) && decide (((atD x2 i4).gAt : Int) = pa1.gAt))))), some (.ptr 3 0), some (.t (.leaf (.string ((oInst (GProgram.instAt pa0 (atD x2 i4))).gTrait)))), some (.ptr 2 0), some (.t (.leaf (.string ((oInst (GProgram.instAt pa0 pa1)).gTrait)))), some (.t (.leaf (.bool (!decide ((oInst (GProgram.instAt pa0 (atD x2 i4))).gTrait = (oInst (GProgram.instAt pa0 pa1)).gTrait))))), some (.t (.leaf (.bool (!decide ((oInst (GProgram.instAt pa0 (atD x2 i4))).gTrait = (oInst (GProgram.instAt pa0 pa1)).gTrait)))))] : List (Option PV)).getD q' none, fun q' => ([.q 0 0, .q 0 0, .q 0 0, .q 0 0, .q 0 0, .q 0 0, .q 0 0, .q 0 0, .q 0 0, .q 0 0, .q 0 0, .q 0 0, .q 0 0] : List DK).getD q' (.q 0 0), [], none, fun q' => ([[(10, none)], [(11, none)], [(41, some 0), (42, some 1)], [(43, some 2)], [(4, none)], [(44, some 3), (45, some 4)], [(46, some 5)], [(12, none)], [(48, some 7)], [(8, none)], [(50, some 9)], [(49, some 8), (51, some 10)], [(47, some 6), (52, some 11)]] : List (List (Nat × Option Nat))).getD q' []⟩ rfl mixed (by kernel_rfl) rfl rfl ⟨?_, ?_, ?_, ?_, ?_, ?_, ?_, ?_, ?_, ?_, ?_, ?_, ?_, trivial⟩ rfl ?_
              · refine .inl ⟨rfl, fun s' jj bb (h1 : 0 ≤ jj) (h2 : jj ≤ 0) hs hl => ?_⟩
                obtain rfl : jj = 0 := by omega
                exact ⟨_, rfl, AOp.move (.inl rfl) rfl (hl 10 none _ (.head _) rfl)⟩
              · refine .inl ⟨rfl, fun s' jj bb (h1 : 0 ≤ jj) (h2 : jj ≤ 0) hs hl => ?_⟩
                obtain rfl : jj = 0 := by omega
                exact ⟨_, rfl, AOp.move (.inl rfl) rfl (hl 11 none _ (.head _) rfl)⟩
              · refine .inl ⟨rfl, fun s' jj bb (h1 : 0 ≤ jj) (h2 : jj ≤ 0) hs hl => ?_⟩
                obtain rfl : jj = 0 := by omega
                exact ⟨_, rfl, AOp.index (k := i4) rfl rfl (hl 41 (some 0) _ (.head _) rfl) rfl (hl 42 (some 1) _ (.tail _ (.head _)) rfl) (GInstanceRef.trs_at g10n) el66⟩
              · refine .inl ⟨rfl, fun s' jj bb (h1 : 0 ≤ jj) (h2 : jj ≤ 0) hs hl => ?_⟩
                obtain rfl : jj = 0 := by omega
                exact ⟨_, rfl, AOp.loadEptr (ds := [.leaf (.int .i64 ((atD x2 i4).gPackage)), .leaf (.int .i64 ((atD x2 i4).gAt))]) rfl rfl (hl 43 (some 2) _ (.head _) rfl) sh33 rfl rfl⟩
              · refine .inl ⟨rfl, fun s' jj bb (h1 : 0 ≤ jj) (h2 : jj ≤ 0) hs hl => ?_⟩
                obtain rfl : jj = 0 := by omega
                exact ⟨_, rfl, AOp.loadPtr (cs := [.t (.leaf (.int .i64 (pa1.gPackage))), .t (.leaf (.int .i64 (pa1.gAt)))]) rfl rfl (hl 4 none _ (.head _) rfl) (by rw [hs]; rfl) sh33 rfl rfl⟩
              · refine .inl ⟨rfl, fun s' jj bb (h1 : 0 ≤ jj) (h2 : jj ≤ 0) hs hl => ?_⟩
                obtain rfl : jj = 0 := by omega
                exact ⟨_, rfl, AOp.eqlP rfl rfl (hl 44 (some 3) _ (.head _) rfl) (hl 45 (some 4) _ (.tail _ (.head _)) rfl) eqg33 eqr33⟩
              · refine .inl ⟨rfl, fun s' jj bb (h1 : 0 ≤ jj) (h2 : jj ≤ 0) hs hl => ?_⟩
                obtain rfl : jj = 0 := by omega
                exact ⟨_, rfl, AOp.move (.inl rfl) rfl (hl 46 (some 5) _ (.head _) rfl)⟩
              · refine .inl ⟨(congrArg (fun b => some (b == false)) g12), fun s' jj bb (h1 : 0 ≤ jj) (h2 : jj ≤ 0) hs hl => ?_⟩
                obtain rfl : jj = 0 := by omega
                exact ⟨_, rfl, AOp.fieldPtr (k := 3) (d := 0) (e := 0) rfl rfl (hl 12 none _ (.head _) rfl) fo113_0⟩
              · refine .inl ⟨(congrArg (fun b => some (b == false)) g12), fun s' jj bb (h1 : 0 ≤ jj) (h2 : jj ≤ 0) hs hl => ?_⟩
                obtain rfl : jj = 0 := by omega
                exact ⟨_, rfl, AOp.loadPtr1 rfl rfl (hl 48 (some 7) _ (.head _) rfl) (by rw [hs]; rfl) sh9 rfl⟩
              · refine .inl ⟨(congrArg (fun b => some (b == false)) g12), fun s' jj bb (h1 : 0 ≤ jj) (h2 : jj ≤ 0) hs hl => ?_⟩
                obtain rfl : jj = 0 := by omega
                exact ⟨_, rfl, AOp.fieldPtr (k := 2) (d := 0) (e := 0) rfl rfl (hl 8 none _ (.head _) rfl) fo113_0⟩
              · refine .inl ⟨(congrArg (fun b => some (b == false)) g12), fun s' jj bb (h1 : 0 ≤ jj) (h2 : jj ≤ 0) hs hl => ?_⟩
                obtain rfl : jj = 0 := by omega
                exact ⟨_, rfl, AOp.loadPtr1 rfl rfl (hl 50 (some 9) _ (.head _) rfl) (by rw [hs]; rfl) sh9 rfl⟩
              · refine .inl ⟨(congrArg (fun b => some (b == false)) g12), fun s' jj bb (h1 : 0 ≤ jj) (h2 : jj ≤ 0) hs hl => ?_⟩
                obtain rfl : jj = 0 := by omega
                exact ⟨_, rfl, AOp.neqS rfl rfl (hl 49 (some 8) _ (.head _) rfl) (hl 51 (some 10) _ (.tail _ (.head _)) rfl)⟩
              · refine .inl ⟨rfl, fun s' jj bb (h1 : 0 ≤ jj) (h2 : jj ≤ 0) hs hl => ?_⟩
                obtain rfl : jj = 0 := by omega
                exact ⟨_, rfl, AOp.pickF rfl rfl (hl 47 (some 6) _ (.head _) rfl) g12 (hl 52 (some 11) _ (.tail _ (.head _)) rfl)⟩
              refine AWP.cond rfl (fun h15 => ?_) (fun h15 => ?_)
              · skip
                refine AWP.exit ?_
                refine AWP.region_lit ?_
                refine AL.cons rfl (AOp.move (.inl rfl) rfl rfl) ?_
                refine AL.cons rfl (AOp.addI rfl rfl rfl rfl (c := ((i4 + 1 : Nat) : Int)) (by omega) (by omega)) ?_
                refine AL.cons rfl (AOp.move (.inr rfl) rfl rfl) ?_
                refine AL.nil ?_
                have e16 : (sl22Side_F1 fu pa0 pa1 pa2 x2) i4 v6 = some (.next v6) := swT h11 (swF g12 (swT h15 (rfl)))
                refine ⟨(i4 + 1, v6), loopN_next g10l hJ9 e16, ?_, ?_⟩
                · skip
                  exact Wk.mk (StLe.mk' ⟨⟨rfl, by (repeat' (first | exact PV.Le.refl _ | exact LeL.nil | exact PV.Le.nil _ | exact PV.Le.acc _ _ _ | apply LeL.cons | apply PV.Le.agg | apply PV.Le.tup)), rfl⟩, ⟨⟨rfl, by (repeat' (first | exact PV.Le.refl _ | exact LeL.nil | exact PV.Le.nil _ | exact PV.Le.acc _ _ _ | apply LeL.cons | apply PV.Le.agg | apply PV.Le.tup)), rfl⟩, ⟨⟨rfl, by (repeat' (first | exact PV.Le.refl _ | exact LeL.nil | exact PV.Le.nil _ | exact PV.Le.acc _ _ _ | apply LeL.cons | apply PV.Le.agg | apply PV.Le.tup)), rfl⟩, trivial⟩⟩⟩ (by first | rfl | simp)) (keeps_nil hC) ⟨⟨_, rfl, .refl _, rfl⟩, ⟨⟨_, rfl, .refl _, rfl⟩, ⟨⟨_, rfl, .refl _, rfl⟩, ⟨⟨_, rfl, .refl _, rfl⟩, ⟨⟨_, rfl, .refl _, rfl⟩, ⟨⟨_, rfl, .refl _, rfl⟩, ⟨⟨_, rfl, .refl _, rfl⟩, ⟨⟨_, rfl, .refl _, rfl⟩, ⟨⟨_, rfl, by (repeat' (first | exact PV.Le.refl _ | exact LeL.nil | exact PV.Le.nil _ | exact PV.Le.acc _ _ _ | apply LeL.cons | apply PV.Le.agg | apply PV.Le.tup)), rfl⟩, trivial⟩⟩⟩⟩⟩⟩⟩⟩⟩
                · dsimp only; omega
              · skip
                refine AWP.skip ?_
                refine AWP.seq ?_
                refine AWP.region_lit ?_
                refine AL.cons rfl (AOp.move (.inl rfl) rfl rfl) ?_
                refine AL.cons rfl (AOp.move (.inl rfl) rfl rfl) ?_
                refine AL.splitB 55 rfl (fun g17 => ?_) (fun g17 => ?_)
                · skip
                  refine AL.cons_gv rfl rfl rfl g17 (AOp.fieldPtr (k := 3) (d := 0) (e := 2) rfl rfl rfl fo113_2) ?_
                  refine AL.cons_gv rfl rfl rfl g17 (AOp.loadPtr (cs := [.t (.leaf (.int .i64 (((oInst (GProgram.instAt pa0 (atD x2 i4))).gHead).gKind))), .t (.leaf (.string (((oInst (GProgram.instAt pa0 (atD x2 i4))).gHead).gName))), .t (.row 3 (GType.trs (((oInst (GProgram.instAt pa0 (atD x2 i4))).gHead).gArgs)))]) rfl rfl rfl rfl sh47 rfl rfl) ?_
                  refine AL.cons_gv rfl rfl rfl g17 (AOp.fieldPtr (k := 2) (d := 0) (e := 2) rfl rfl rfl fo113_2) ?_
                  refine AL.cons_gv rfl rfl rfl g17 (AOp.loadPtr (cs := [.t (.leaf (.int .i64 (((oInst (GProgram.instAt pa0 pa1)).gHead).gKind))), .t (.leaf (.string (((oInst (GProgram.instAt pa0 pa1)).gHead).gName))), .t (.row 3 (GType.trs (((oInst (GProgram.instAt pa0 pa1)).gHead).gArgs)))]) rfl rfl rfl rfl sh47 rfl rfl) ?_
                  rcases Classical.em (Tr.bulkL (GType.tr ((oInst (GProgram.instAt pa0 (atD x2 i4))).gHead)) ≤ 68719476735) with hg18 | hg18
                  · skip
                    rcases Classical.em (Tr.bulkL (GType.tr ((oInst (GProgram.instAt pa0 pa1)).gHead)) ≤ 68719476735) with hg19 | hg19
                    · skip
                      refine AL.cons_gv rfl rfl rfl g17 (AOp.callF (res := .t (.leaf (.bool (matchB ((oInst (GProgram.instAt pa0 (atD x2 i4))).gHead) ((oInst (GProgram.instAt pa0 pa1)).gHead))))) (ps := [_, _]) rfl rfl Tryz.func113 (by kernel_rfl) rfl rfl (by (repeat' (first | exact PV.Le.refl _ | exact LeL.nil | exact PV.Le.nil _ | exact PV.Le.acc _ _ _ | apply LeL.cons | apply PV.Le.agg | apply PV.Le.tup))) rfl rfl (sMatches_fn ((oInst (GProgram.instAt pa0 (atD x2 i4))).gHead) ((oInst (GProgram.instAt pa0 pa1)).gHead) hg18 hg19)) ?_
                      refine AL.cons rfl (AOp.pickT rfl rfl rfl g17 rfl) ?_
                      refine AL.cons rfl (AOp.move (.inl rfl) rfl rfl) ?_
                      refine AL.splitB 62 rfl (fun g20 => ?_) (fun g20 => ?_)
                      · skip
                        refine AL.skipP rfl rfl rfl g20 rfl rfl ?_
                        refine AL.skipP rfl rfl rfl g20 rfl rfl ?_
                        refine AL.skipP rfl rfl rfl g20 rfl rfl ?_
                        refine AL.skipU rfl rfl rfl rfl ?_
                        refine AL.skipU rfl rfl rfl rfl ?_
                        refine AL.skipU rfl rfl rfl rfl ?_
                        refine AL.skipU rfl rfl rfl rfl ?_
                        refine AL.skipU rfl rfl rfl rfl ?_
                        refine AL.skipP rfl rfl rfl g20 rfl rfl ?_
                        refine AL.cons rfl (AOp.pickT rfl rfl rfl g20 rfl) ?_
                        refine AL.nil ?_
                        refine AWP.cond rfl (fun h21 => ?_) (fun h21 => ?_)
                        · skip
                          refine AWP.region_lit ?_
                          refine AL.cons rfl (AOp.move (.inl rfl) rfl rfl) ?_
                          refine AL.cons rfl (AOp.move (.inl rfl) rfl rfl) ?_
                          refine AL.cons rfl (AOp.move (.inl rfl) rfl rfl) ?_
                          refine AL.cons rfl (AOp.index (k := i4) rfl rfl rfl rfl rfl (GInstanceRef.trs_at g10n) el66) ?_
                          refine AL.cons rfl (AOp.loadEptr (ds := [.leaf (.int .i64 ((atD x2 i4).gPackage)), .leaf (.int .i64 ((atD x2 i4).gAt))]) rfl rfl rfl sh33 rfl rfl) ?_
                          refine AL.cons rfl (AOp.buildSliceE (es := [GInstanceRef.cs (atD x2 i4)]) (es' := GInstanceRef.trs (([(atD x2 i4)] : List GInstanceRef))) (cs := [.t (.leaf (.int .i64 ((atD x2 i4).gPackage))), .t (.leaf (.int .i64 ((atD x2 i4).gAt)))]) rfl rfl el66 zr33 rfl rfl (by (repeat' (first | exact PV.Le.refl _ | exact LeL.nil | exact PV.Le.nil _ | exact PV.Le.acc _ _ _ | apply LeL.cons | apply PV.Le.agg | apply PV.Le.tup))) rfl (by simp [GInstanceRef.cs]) (by decide) rfl (by decide) (by simp [GInstanceRef.trs_map, GInstanceRef.tr_cs])) ?_
                          rcases Classical.em ((v6).length + (([(atD x2 i4)] : List GInstanceRef)).length ≤ 68719476736) with hg22 | hg22
                          · skip
                            refine AL.cons rfl (AOp.appendE (es3 := GInstanceRef.trs (v6 ++ ([(atD x2 i4)] : List GInstanceRef))) rfl rfl rfl rfl rfl rfl rfl rfl rfl (fun e he => by rw [GInstanceRef.trs_map] at he; obtain ⟨x, _, rfl⟩ := List.mem_map.1 he; rw [GInstanceRef.tr_cs]; rfl) el66 ze66 (by decide) (by rw [GInstanceRef.trs_len, GInstanceRef.trs_len]; exact room_le hg22 (by decide)) (by rw [GInstanceRef.trs_map, GInstanceRef.trs_map, GInstanceRef.trs_map, List.map_append])) ?_
                            refine AL.cons rfl (AOp.move (.inr rfl) rfl rfl) ?_
                            refine AL.nil ?_
                            refine AWP.region_lit ?_
                            refine AL.cons rfl (AOp.move (.inl rfl) rfl rfl) ?_
                            refine AL.cons rfl (AOp.addI rfl rfl rfl rfl (c := ((i4 + 1 : Nat) : Int)) (by omega) (by omega)) ?_
                            refine AL.cons rfl (AOp.move (.inr rfl) rfl rfl) ?_
                            refine AL.nil ?_
                            have e23 : (sl22Side_F1 fu pa0 pa1 pa2 x2) i4 v6 = some (.next (v6 ++ ([(atD x2 i4)] : List GInstanceRef))) := swT h11 (swF g12 (swF h15 (swT g17 (gdT hg18 (gdT hg19 (swT g20 (gdT hg22 (rfl))))))))
                            refine ⟨(i4 + 1, (v6 ++ ([(atD x2 i4)] : List GInstanceRef))), loopN_next g10l hJ9 e23, ?_, ?_⟩
                            · skip
                              exact Wk.mk (StLe.mk' ⟨⟨rfl, by (repeat' (first | exact PV.Le.refl _ | exact LeL.nil | exact PV.Le.nil _ | exact PV.Le.acc _ _ _ | apply LeL.cons | apply PV.Le.agg | apply PV.Le.tup)), rfl⟩, ⟨⟨rfl, by (repeat' (first | exact PV.Le.refl _ | exact LeL.nil | exact PV.Le.nil _ | exact PV.Le.acc _ _ _ | apply LeL.cons | apply PV.Le.agg | apply PV.Le.tup)), rfl⟩, ⟨⟨rfl, by (repeat' (first | exact PV.Le.refl _ | exact LeL.nil | exact PV.Le.nil _ | exact PV.Le.acc _ _ _ | apply LeL.cons | apply PV.Le.agg | apply PV.Le.tup)), rfl⟩, trivial⟩⟩⟩ (by first | rfl | simp)) (keeps_nil hC) ⟨⟨_, rfl, .refl _, rfl⟩, ⟨⟨_, rfl, .refl _, rfl⟩, ⟨⟨_, rfl, .refl _, rfl⟩, ⟨⟨_, rfl, .refl _, rfl⟩, ⟨⟨_, rfl, by (repeat' (first | exact PV.Le.refl _ | exact LeL.nil | exact PV.Le.nil _ | exact PV.Le.acc _ _ _ | apply LeL.cons | apply PV.Le.agg | apply PV.Le.tup)), rfl⟩, ⟨⟨_, rfl, .refl _, rfl⟩, ⟨⟨_, rfl, .refl _, rfl⟩, ⟨⟨_, rfl, .refl _, rfl⟩, ⟨⟨_, rfl, by (repeat' (first | exact PV.Le.refl _ | exact LeL.nil | exact PV.Le.nil _ | exact PV.Le.acc _ _ _ | apply LeL.cons | apply PV.Le.agg | apply PV.Le.tup)), rfl⟩, trivial⟩⟩⟩⟩⟩⟩⟩⟩⟩
                            · dsimp only; omega
                          · skip
                            have e24 : (sl22Side_F1 fu pa0 pa1 pa2 x2) i4 v6 = none := swT h11 (swF g12 (swF h15 (swT g17 (gdT hg18 (gdT hg19 (swT g20 (gdF hg22)))))))
                            have e25 : sl22Side_R1 fu pa0 pa1 pa2 x2 = none := loopN_non g10l hJ9 e24
                            have e26 : sl22Side_M fu pa0 pa1 pa2 = none := bdS hq1 (soN e25)
                            exact none_some H e26
                        · skip
                          exact absurd (h21.symm.trans rfl) (by decide)
                      · skip
                        refine AL.cons_gv rfl rfl rfl g20 (AOp.move (.inl rfl) rfl rfl) ?_
                        refine AL.cons_gv rfl rfl rfl g20 (AOp.notB rfl rfl rfl) ?_
                        refine AL.cons_gv rfl rfl rfl g20 (AOp.move (.inl rfl) rfl rfl) ?_
                        refine AL.skipP rfl rfl rfl (congrArg (fun b => !b) g17) rfl rfl ?_
                        refine AL.skipP rfl rfl rfl (congrArg (fun b => !b) g17) rfl rfl ?_
                        refine AL.skipP rfl rfl rfl (congrArg (fun b => !b) g17) rfl rfl ?_
                        refine AL.skipP rfl rfl rfl (congrArg (fun b => !b) g17) rfl rfl ?_
                        refine AL.skipP rfl rfl rfl (congrArg (fun b => !b) g17) rfl rfl ?_
                        refine AL.cons_gv rfl rfl rfl g20 (AOp.pickF rfl rfl rfl (congrArg (fun b => !b) g17) rfl) ?_
                        refine AL.cons rfl (AOp.pickF rfl rfl rfl g20 rfl) ?_
                        refine AL.nil ?_
                        refine AWP.cond rfl (fun h27 => ?_) (fun h27 => ?_)
                        · skip
                          exact absurd (h27.symm.trans rfl) (by decide)
                        · skip
                          refine AWP.skip ?_
                          refine AWP.region_lit ?_
                          refine AL.cons rfl (AOp.move (.inl rfl) rfl rfl) ?_
                          refine AL.cons rfl (AOp.addI rfl rfl rfl rfl (c := ((i4 + 1 : Nat) : Int)) (by omega) (by omega)) ?_
                          refine AL.cons rfl (AOp.move (.inr rfl) rfl rfl) ?_
                          refine AL.nil ?_
                          have e28 : (sl22Side_F1 fu pa0 pa1 pa2 x2) i4 v6 = some (.next v6) := swT h11 (swF g12 (swF h15 (swT g17 (gdT hg18 (gdT hg19 (swF g20 (rfl)))))))
                          refine ⟨(i4 + 1, v6), loopN_next g10l hJ9 e28, ?_, ?_⟩
                          · skip
                            exact Wk.mk (StLe.mk' ⟨⟨rfl, by (repeat' (first | exact PV.Le.refl _ | exact LeL.nil | exact PV.Le.nil _ | exact PV.Le.acc _ _ _ | apply LeL.cons | apply PV.Le.agg | apply PV.Le.tup)), rfl⟩, ⟨⟨rfl, by (repeat' (first | exact PV.Le.refl _ | exact LeL.nil | exact PV.Le.nil _ | exact PV.Le.acc _ _ _ | apply LeL.cons | apply PV.Le.agg | apply PV.Le.tup)), rfl⟩, ⟨⟨rfl, by (repeat' (first | exact PV.Le.refl _ | exact LeL.nil | exact PV.Le.nil _ | exact PV.Le.acc _ _ _ | apply LeL.cons | apply PV.Le.agg | apply PV.Le.tup)), rfl⟩, trivial⟩⟩⟩ (by first | rfl | simp)) (keeps_nil hC) ⟨⟨_, rfl, .refl _, rfl⟩, ⟨⟨_, rfl, .refl _, rfl⟩, ⟨⟨_, rfl, .refl _, rfl⟩, ⟨⟨_, rfl, .refl _, rfl⟩, ⟨⟨_, rfl, .refl _, rfl⟩, ⟨⟨_, rfl, .refl _, rfl⟩, ⟨⟨_, rfl, .refl _, rfl⟩, ⟨⟨_, rfl, .refl _, rfl⟩, ⟨⟨_, rfl, by (repeat' (first | exact PV.Le.refl _ | exact LeL.nil | exact PV.Le.nil _ | exact PV.Le.acc _ _ _ | apply LeL.cons | apply PV.Le.agg | apply PV.Le.tup)), rfl⟩, trivial⟩⟩⟩⟩⟩⟩⟩⟩⟩
                          · dsimp only; omega
                    · skip
                      have e29 : (sl22Side_F1 fu pa0 pa1 pa2 x2) i4 v6 = none := swT h11 (swF g12 (swF h15 (swT g17 (gdT hg18 (gdF hg19)))))
                      have e30 : sl22Side_R1 fu pa0 pa1 pa2 x2 = none := loopN_non g10l hJ9 e29
                      have e31 : sl22Side_M fu pa0 pa1 pa2 = none := bdS hq1 (soN e30)
                      exact none_some H e31
                  · skip
                    have e32 : (sl22Side_F1 fu pa0 pa1 pa2 x2) i4 v6 = none := swT h11 (swF g12 (swF h15 (swT g17 (gdF hg18))))
                    have e33 : sl22Side_R1 fu pa0 pa1 pa2 x2 = none := loopN_non g10l hJ9 e32
                    have e34 : sl22Side_M fu pa0 pa1 pa2 = none := bdS hq1 (soN e33)
                    exact none_some H e34
                · skip
                  refine AL.skipP rfl rfl rfl g17 rfl rfl ?_
                  refine AL.skipP rfl rfl rfl g17 rfl rfl ?_
                  refine AL.skipP rfl rfl rfl g17 rfl rfl ?_
                  refine AL.skipP rfl rfl rfl g17 rfl rfl ?_
                  refine AL.skipP rfl rfl rfl g17 rfl rfl ?_
                  refine AL.cons rfl (AOp.pickF rfl rfl rfl g17 rfl) ?_
                  refine AL.cons rfl (AOp.move (.inl rfl) rfl rfl) ?_
                  refine AL.cons_gv rfl rfl rfl rfl (AOp.move (.inl rfl) rfl rfl) ?_
                  refine AL.cons_gv rfl rfl rfl rfl (AOp.notB rfl rfl rfl) ?_
                  refine AL.cons_gv rfl rfl rfl rfl (AOp.move (.inl rfl) rfl rfl) ?_
                  refine AL.cons_gv rfl rfl rfl (congrArg (fun b => !b) g17) (AOp.fieldPtr (k := 2) (d := 0) (e := 2) rfl rfl rfl fo113_2) ?_
                  refine AL.cons_gv rfl rfl rfl (congrArg (fun b => !b) g17) (AOp.loadPtr (cs := [.t (.leaf (.int .i64 (((oInst (GProgram.instAt pa0 pa1)).gHead).gKind))), .t (.leaf (.string (((oInst (GProgram.instAt pa0 pa1)).gHead).gName))), .t (.row 3 (GType.trs (((oInst (GProgram.instAt pa0 pa1)).gHead).gArgs)))]) rfl rfl rfl rfl sh47 rfl rfl) ?_
                  refine AL.cons_gv rfl rfl rfl (congrArg (fun b => !b) g17) (AOp.fieldPtr (k := 3) (d := 0) (e := 2) rfl rfl rfl fo113_2) ?_
                  refine AL.cons_gv rfl rfl rfl (congrArg (fun b => !b) g17) (AOp.loadPtr (cs := [.t (.leaf (.int .i64 (((oInst (GProgram.instAt pa0 (atD x2 i4))).gHead).gKind))), .t (.leaf (.string (((oInst (GProgram.instAt pa0 (atD x2 i4))).gHead).gName))), .t (.row 3 (GType.trs (((oInst (GProgram.instAt pa0 (atD x2 i4))).gHead).gArgs)))]) rfl rfl rfl rfl sh47 rfl rfl) ?_
                  rcases Classical.em (Tr.bulkL (GType.tr ((oInst (GProgram.instAt pa0 pa1)).gHead)) ≤ 68719476735) with hg35 | hg35
                  · skip
                    rcases Classical.em (Tr.bulkL (GType.tr ((oInst (GProgram.instAt pa0 (atD x2 i4))).gHead)) ≤ 68719476735) with hg36 | hg36
                    · skip
                      refine AL.cons_gv rfl rfl rfl (congrArg (fun b => !b) g17) (AOp.callF (res := .t (.leaf (.bool (matchB ((oInst (GProgram.instAt pa0 pa1)).gHead) ((oInst (GProgram.instAt pa0 (atD x2 i4))).gHead))))) (ps := [_, _]) rfl rfl Tryz.func113 (by kernel_rfl) rfl rfl (by (repeat' (first | exact PV.Le.refl _ | exact LeL.nil | exact PV.Le.nil _ | exact PV.Le.acc _ _ _ | apply LeL.cons | apply PV.Le.agg | apply PV.Le.tup))) rfl rfl (sMatches_fn ((oInst (GProgram.instAt pa0 pa1)).gHead) ((oInst (GProgram.instAt pa0 (atD x2 i4))).gHead) hg35 hg36)) ?_
                      refine AL.cons_gv rfl rfl rfl rfl (AOp.pickT rfl rfl rfl (congrArg (fun b => !b) g17) rfl) ?_
                      refine AL.cons rfl (AOp.pickF rfl rfl rfl rfl rfl) ?_
                      refine AL.nil ?_
                      refine AWP.cond rfl (fun h37 => ?_) (fun h37 => ?_)
                      · skip
                        refine AWP.region_lit ?_
                        refine AL.cons rfl (AOp.move (.inl rfl) rfl rfl) ?_
                        refine AL.cons rfl (AOp.move (.inl rfl) rfl rfl) ?_
                        refine AL.cons rfl (AOp.move (.inl rfl) rfl rfl) ?_
                        refine AL.cons rfl (AOp.index (k := i4) rfl rfl rfl rfl rfl (GInstanceRef.trs_at g10n) el66) ?_
                        refine AL.cons rfl (AOp.loadEptr (ds := [.leaf (.int .i64 ((atD x2 i4).gPackage)), .leaf (.int .i64 ((atD x2 i4).gAt))]) rfl rfl rfl sh33 rfl rfl) ?_
                        refine AL.cons rfl (AOp.buildSliceE (es := [GInstanceRef.cs (atD x2 i4)]) (es' := GInstanceRef.trs (([(atD x2 i4)] : List GInstanceRef))) (cs := [.t (.leaf (.int .i64 ((atD x2 i4).gPackage))), .t (.leaf (.int .i64 ((atD x2 i4).gAt)))]) rfl rfl el66 zr33 rfl rfl (by (repeat' (first | exact PV.Le.refl _ | exact LeL.nil | exact PV.Le.nil _ | exact PV.Le.acc _ _ _ | apply LeL.cons | apply PV.Le.agg | apply PV.Le.tup))) rfl (by simp [GInstanceRef.cs]) (by decide) rfl (by decide) (by simp [GInstanceRef.trs_map, GInstanceRef.tr_cs])) ?_
                        rcases Classical.em ((v6).length + (([(atD x2 i4)] : List GInstanceRef)).length ≤ 68719476736) with hg38 | hg38
                        · skip
                          refine AL.cons rfl (AOp.appendE (es3 := GInstanceRef.trs (v6 ++ ([(atD x2 i4)] : List GInstanceRef))) rfl rfl rfl rfl rfl rfl rfl rfl rfl (fun e he => by rw [GInstanceRef.trs_map] at he; obtain ⟨x, _, rfl⟩ := List.mem_map.1 he; rw [GInstanceRef.tr_cs]; rfl) el66 ze66 (by decide) (by rw [GInstanceRef.trs_len, GInstanceRef.trs_len]; exact room_le hg38 (by decide)) (by rw [GInstanceRef.trs_map, GInstanceRef.trs_map, GInstanceRef.trs_map, List.map_append])) ?_
                          refine AL.cons rfl (AOp.move (.inr rfl) rfl rfl) ?_
                          refine AL.nil ?_
                          refine AWP.region_lit ?_
                          refine AL.cons rfl (AOp.move (.inl rfl) rfl rfl) ?_
                          refine AL.cons rfl (AOp.addI rfl rfl rfl rfl (c := ((i4 + 1 : Nat) : Int)) (by omega) (by omega)) ?_
                          refine AL.cons rfl (AOp.move (.inr rfl) rfl rfl) ?_
                          refine AL.nil ?_
                          have e39 : (sl22Side_F1 fu pa0 pa1 pa2 x2) i4 v6 = some (.next (v6 ++ ([(atD x2 i4)] : List GInstanceRef))) := swT h11 (swF g12 (swF h15 (swF g17 (gdT hg35 (gdT hg36 (swT h37 (gdT hg38 (rfl))))))))
                          refine ⟨(i4 + 1, (v6 ++ ([(atD x2 i4)] : List GInstanceRef))), loopN_next g10l hJ9 e39, ?_, ?_⟩
                          · skip
                            exact Wk.mk (StLe.mk' ⟨⟨rfl, by (repeat' (first | exact PV.Le.refl _ | exact LeL.nil | exact PV.Le.nil _ | exact PV.Le.acc _ _ _ | apply LeL.cons | apply PV.Le.agg | apply PV.Le.tup)), rfl⟩, ⟨⟨rfl, by (repeat' (first | exact PV.Le.refl _ | exact LeL.nil | exact PV.Le.nil _ | exact PV.Le.acc _ _ _ | apply LeL.cons | apply PV.Le.agg | apply PV.Le.tup)), rfl⟩, ⟨⟨rfl, by (repeat' (first | exact PV.Le.refl _ | exact LeL.nil | exact PV.Le.nil _ | exact PV.Le.acc _ _ _ | apply LeL.cons | apply PV.Le.agg | apply PV.Le.tup)), rfl⟩, trivial⟩⟩⟩ (by first | rfl | simp)) (keeps_nil hC) ⟨⟨_, rfl, .refl _, rfl⟩, ⟨⟨_, rfl, .refl _, rfl⟩, ⟨⟨_, rfl, .refl _, rfl⟩, ⟨⟨_, rfl, .refl _, rfl⟩, ⟨⟨_, rfl, by (repeat' (first | exact PV.Le.refl _ | exact LeL.nil | exact PV.Le.nil _ | exact PV.Le.acc _ _ _ | apply LeL.cons | apply PV.Le.agg | apply PV.Le.tup)), rfl⟩, ⟨⟨_, rfl, .refl _, rfl⟩, ⟨⟨_, rfl, .refl _, rfl⟩, ⟨⟨_, rfl, .refl _, rfl⟩, ⟨⟨_, rfl, by (repeat' (first | exact PV.Le.refl _ | exact LeL.nil | exact PV.Le.nil _ | exact PV.Le.acc _ _ _ | apply LeL.cons | apply PV.Le.agg | apply PV.Le.tup)), rfl⟩, trivial⟩⟩⟩⟩⟩⟩⟩⟩⟩
                          · dsimp only; omega
                        · skip
                          have e40 : (sl22Side_F1 fu pa0 pa1 pa2 x2) i4 v6 = none := swT h11 (swF g12 (swF h15 (swF g17 (gdT hg35 (gdT hg36 (swT h37 (gdF hg38)))))))
                          have e41 : sl22Side_R1 fu pa0 pa1 pa2 x2 = none := loopN_non g10l hJ9 e40
                          have e42 : sl22Side_M fu pa0 pa1 pa2 = none := bdS hq1 (soN e41)
                          exact none_some H e42
                      · skip
                        refine AWP.skip ?_
                        refine AWP.region_lit ?_
                        refine AL.cons rfl (AOp.move (.inl rfl) rfl rfl) ?_
                        refine AL.cons rfl (AOp.addI rfl rfl rfl rfl (c := ((i4 + 1 : Nat) : Int)) (by omega) (by omega)) ?_
                        refine AL.cons rfl (AOp.move (.inr rfl) rfl rfl) ?_
                        refine AL.nil ?_
                        have e43 : (sl22Side_F1 fu pa0 pa1 pa2 x2) i4 v6 = some (.next v6) := swT h11 (swF g12 (swF h15 (swF g17 (gdT hg35 (gdT hg36 (swF h37 (rfl)))))))
                        refine ⟨(i4 + 1, v6), loopN_next g10l hJ9 e43, ?_, ?_⟩
                        · skip
                          exact Wk.mk (StLe.mk' ⟨⟨rfl, by (repeat' (first | exact PV.Le.refl _ | exact LeL.nil | exact PV.Le.nil _ | exact PV.Le.acc _ _ _ | apply LeL.cons | apply PV.Le.agg | apply PV.Le.tup)), rfl⟩, ⟨⟨rfl, by (repeat' (first | exact PV.Le.refl _ | exact LeL.nil | exact PV.Le.nil _ | exact PV.Le.acc _ _ _ | apply LeL.cons | apply PV.Le.agg | apply PV.Le.tup)), rfl⟩, ⟨⟨rfl, by (repeat' (first | exact PV.Le.refl _ | exact LeL.nil | exact PV.Le.nil _ | exact PV.Le.acc _ _ _ | apply LeL.cons | apply PV.Le.agg | apply PV.Le.tup)), rfl⟩, trivial⟩⟩⟩ (by first | rfl | simp)) (keeps_nil hC) ⟨⟨_, rfl, .refl _, rfl⟩, ⟨⟨_, rfl, .refl _, rfl⟩, ⟨⟨_, rfl, .refl _, rfl⟩, ⟨⟨_, rfl, .refl _, rfl⟩, ⟨⟨_, rfl, .refl _, rfl⟩, ⟨⟨_, rfl, .refl _, rfl⟩, ⟨⟨_, rfl, .refl _, rfl⟩, ⟨⟨_, rfl, .refl _, rfl⟩, ⟨⟨_, rfl, by (repeat' (first | exact PV.Le.refl _ | exact LeL.nil | exact PV.Le.nil _ | exact PV.Le.acc _ _ _ | apply LeL.cons | apply PV.Le.agg | apply PV.Le.tup)), rfl⟩, trivial⟩⟩⟩⟩⟩⟩⟩⟩⟩
                        · dsimp only; omega
                    · skip
                      have e44 : (sl22Side_F1 fu pa0 pa1 pa2 x2) i4 v6 = none := swT h11 (swF g12 (swF h15 (swF g17 (gdT hg35 (gdF hg36)))))
                      have e45 : sl22Side_R1 fu pa0 pa1 pa2 x2 = none := loopN_non g10l hJ9 e44
                      have e46 : sl22Side_M fu pa0 pa1 pa2 = none := bdS hq1 (soN e45)
                      exact none_some H e46
                  · skip
                    have e47 : (sl22Side_F1 fu pa0 pa1 pa2 x2) i4 v6 = none := swT h11 (swF g12 (swF h15 (swF g17 (gdF hg35))))
                    have e48 : sl22Side_R1 fu pa0 pa1 pa2 x2 = none := loopN_non g10l hJ9 e47
                    have e49 : sl22Side_M fu pa0 pa1 pa2 = none := bdS hq1 (soN e48)
                    exact none_some H e49
          · skip
            refine AWP.exit ?_
            have e50 : (sl22Side_F1 fu pa0 pa1 pa2 x2) i4 v6 = some (.brk v6) := swF h11 (rfl)
            refine ⟨v6, loopN_brk g10l hJ9 e50, ?_⟩
            exact Wk.mk (StLe.mk' ⟨⟨rfl, by (repeat' (first | exact PV.Le.refl _ | exact LeL.nil | exact PV.Le.nil _ | exact PV.Le.acc _ _ _ | apply LeL.cons | apply PV.Le.agg | apply PV.Le.tup)), rfl⟩, ⟨⟨rfl, by (repeat' (first | exact PV.Le.refl _ | exact LeL.nil | exact PV.Le.nil _ | exact PV.Le.acc _ _ _ | apply LeL.cons | apply PV.Le.agg | apply PV.Le.tup)), rfl⟩, ⟨⟨rfl, by (repeat' (first | exact PV.Le.refl _ | exact LeL.nil | exact PV.Le.nil _ | exact PV.Le.acc _ _ _ | apply LeL.cons | apply PV.Le.agg | apply PV.Le.tup)), rfl⟩, trivial⟩⟩⟩ (by first | rfl | simp)) (keeps_nil hC) ⟨⟨_, rfl, .refl _, rfl⟩, ⟨⟨_, rfl, .refl _, rfl⟩, trivial⟩⟩
        · skip
          have g10l : x2.length ≤ i4 := nat_ge_of2 g10
          refine AL.skipP rfl rfl rfl g10 rfl rfl ?_
          refine AL.cons rfl (AOp.pickF rfl rfl rfl g10 rfl) ?_
          refine AL.nil ?_
          refine AWP.cond rfl (fun h51 => ?_) (fun h51 => ?_)
          · skip
            exact absurd (h51.symm.trans rfl) (by decide)
          · skip
            refine AWP.exit ?_
            refine ⟨v6, loopN_end g10l hJ9, ?_⟩
            exact Wk.mk (StLe.mk' ⟨⟨rfl, by (repeat' (first | exact PV.Le.refl _ | exact LeL.nil | exact PV.Le.nil _ | exact PV.Le.acc _ _ _ | apply LeL.cons | apply PV.Le.agg | apply PV.Le.tup)), rfl⟩, ⟨⟨rfl, by (repeat' (first | exact PV.Le.refl _ | exact LeL.nil | exact PV.Le.nil _ | exact PV.Le.acc _ _ _ | apply LeL.cons | apply PV.Le.agg | apply PV.Le.tup)), rfl⟩, ⟨⟨rfl, by (repeat' (first | exact PV.Le.refl _ | exact LeL.nil | exact PV.Le.nil _ | exact PV.Le.acc _ _ _ | apply LeL.cons | apply PV.Le.agg | apply PV.Le.tup)), rfl⟩, trivial⟩⟩⟩ (by first | rfl | simp)) (keeps_nil hC) ⟨⟨_, rfl, .refl _, rfl⟩, ⟨⟨_, rfl, .refl _, rfl⟩, trivial⟩⟩
    · rintro v6 hR52
      refine AWP.seq ?_
      refine AWP.region_lit ?_
      refine AL.cons rfl (AOp.move (.inl rfl) rfl rfl) ?_
      refine AL.cons rfl (AOp.move (.inr rfl) rfl rfl) ?_
      refine AL.nil ?_
      refine AWP.ret ?_
      have e53 : sl22Side_M fu pa0 pa1 pa2 = some v6 := bdS hq1 (soR hR52 (rfl))
      have hz : v6 = r := Option.some.inj (e53.symm.trans H)
      subst hz
      exact Ends.mk (ps := [_]) (by first | exact .inr rfl | exact .inl rfl) ⟨rfl, trivial⟩ rfl (StLe.mk' (st' := ⟨[], []⟩) trivial rfl) (keeps_nil hC) (q := (.t (.row 2 (GInstanceRef.trs (v6))) : PV)) (by (repeat' (first | exact PV.Le.refl _ | exact LeL.nil | exact PV.Le.nil _ | exact PV.Le.acc _ _ _ | apply LeL.cons | apply PV.Le.agg | apply PV.Le.tup))) rfl ⟨rfl, rfl⟩

noncomputable def sMoreSpecificInstances_M (fu : Nat)  (pw : GProgram) (po : GInstanceRef) : Option ((List GInstanceRef)) :=
 bd (sl22Side_M fu pw po false) (fun x2 =>
 some x2)
set_option maxRecDepth 100000 in
set_option maxHeartbeats 4000000 in
theorem sMoreSpecificInstances_ok  (fu : Nat)  (pw : GProgram) (po : GInstanceRef) (r : (List GInstanceRef)) (H : sMoreSpecificInstances_M fu pw po = some r) : AFun Tryz.prog 64 [(GProgram.pv pw), (GInstanceRef.pv po)] (.t (.row 2 (GInstanceRef.trs (r))) : PV) := by
  refine ACalls.intro Tryz.func64 rfl (by first | decide | (simp; done) | (simp; decide)) ?_
  intro C hC
  refine AWP.seq ?_
  refine AWP.region_lit ?_
  refine AL.cons rfl (AOp.box (cs := [.t (.row 6 (GPackage.trs (pw.gPackages)))]) rfl rfl rfl rfl rfl) ?_
  refine AL.cons rfl (AOp.box (cs := [.t (.leaf (.int .i64 (po.gPackage))), .t (.leaf (.int .i64 (po.gAt)))]) rfl rfl rfl rfl rfl) ?_
  refine AL.cons rfl (AOp.move (.inr rfl) rfl rfl) ?_
  refine AL.nil ?_
  refine AWP.seq ?_
  refine AWP.region_lit ?_
  refine AL.cons rfl (AOp.loadPtr (cs := [.t (.row 6 (GPackage.trs (pw.gPackages)))]) rfl rfl rfl rfl sh31 rfl rfl) ?_
  refine AL.cons rfl (AOp.loadPtr (cs := [.t (.leaf (.int .i64 (po.gPackage))), .t (.leaf (.int .i64 (po.gAt)))]) rfl rfl rfl rfl sh33 rfl rfl) ?_
  rcases hq1 : sl22Side_M fu pw po false with _ | x2
  · skip
    have e3 : sMoreSpecificInstances_M fu pw po = none := bdN hq1
    exact none_some H e3
  · skip
    refine AL.cons rfl (AOp.callF (res := .t (.row 2 (GInstanceRef.trs (x2)))) (ps := [_, _, _]) rfl rfl Tryz.func116 (by kernel_rfl) rfl rfl (by (repeat' (first | exact PV.Le.refl _ | exact LeL.nil | exact PV.Le.nil _ | exact PV.Le.acc _ _ _ | apply LeL.cons | apply PV.Le.agg | apply PV.Le.tup))) rfl rfl (sl22Side_ok fu pw po false _ hq1)) ?_
    refine AL.cons rfl (AOp.move (.inr rfl) rfl rfl) ?_
    refine AL.nil ?_
    refine AWP.ret ?_
    have e4 : sMoreSpecificInstances_M fu pw po = some x2 := bdS hq1 (rfl)
    have hz : x2 = r := Option.some.inj (e4.symm.trans H)
    subst hz
    exact Ends.mk (ps := [_]) (by first | exact .inr rfl | exact .inl rfl) ⟨rfl, trivial⟩ rfl (StLe.mk' (st' := ⟨[], []⟩) trivial rfl) (keeps_nil hC) (q := (.t (.row 2 (GInstanceRef.trs (x2))) : PV)) (by (repeat' (first | exact PV.Le.refl _ | exact LeL.nil | exact PV.Le.nil _ | exact PV.Le.acc _ _ _ | apply LeL.cons | apply PV.Le.agg | apply PV.Le.tup))) rfl ⟨rfl, rfl⟩

noncomputable def iMoreSpecificInstances_1_M (fu : Nat)  (phead : GType) (pother : GType) : Option Bool :=
 gd (Tr.bulkL (GType.tr phead) ≤ 68719476735)
 (gd (Tr.bulkL (GType.tr pother) ≤ 68719476735)
 (some (matchB phead pother)))
set_option maxRecDepth 100000 in
set_option maxHeartbeats 4000000 in
theorem iMoreSpecificInstances_1_ok  (fu : Nat)  (phead : GType) (pother : GType) (r : Bool) (H : iMoreSpecificInstances_1_M fu phead pother = some r) : AFun Tryz.prog 119 [(GType.pv phead), (GType.pv pother)] (.t (.leaf (.bool (r))) : PV) := by
  refine ACalls.intro Tryz.func119 rfl (by first | decide | (simp; done) | (simp; decide)) ?_
  intro C hC
  refine AWP.seq ?_
  refine AWP.region_lit ?_
  refine AL.cons rfl (AOp.box (cs := [.t (.leaf (.int .i64 (phead.gKind))), .t (.leaf (.string (phead.gName))), .t (.row 3 (GType.trs (phead.gArgs)))]) rfl rfl rfl rfl rfl) ?_
  refine AL.cons rfl (AOp.box (cs := [.t (.leaf (.int .i64 (pother.gKind))), .t (.leaf (.string (pother.gName))), .t (.row 3 (GType.trs (pother.gArgs)))]) rfl rfl rfl rfl rfl) ?_
  refine AL.cons rfl (AOp.move (.inr rfl) rfl rfl) ?_
  refine AL.nil ?_
  refine AWP.seq ?_
  refine AWP.region_lit ?_
  refine AL.cons rfl (AOp.loadPtr (cs := [.t (.leaf (.int .i64 (phead.gKind))), .t (.leaf (.string (phead.gName))), .t (.row 3 (GType.trs (phead.gArgs)))]) rfl rfl rfl rfl sh47 rfl rfl) ?_
  refine AL.cons rfl (AOp.loadPtr (cs := [.t (.leaf (.int .i64 (pother.gKind))), .t (.leaf (.string (pother.gName))), .t (.row 3 (GType.trs (pother.gArgs)))]) rfl rfl rfl rfl sh47 rfl rfl) ?_
  rcases Classical.em (Tr.bulkL (GType.tr phead) ≤ 68719476735) with hg1 | hg1
  · skip
    rcases Classical.em (Tr.bulkL (GType.tr pother) ≤ 68719476735) with hg2 | hg2
    · skip
      refine AL.cons rfl (AOp.callF (res := .t (.leaf (.bool (matchB phead pother)))) (ps := [_, _]) rfl rfl Tryz.func115 (by kernel_rfl) rfl rfl (by (repeat' (first | exact PV.Le.refl _ | exact LeL.nil | exact PV.Le.nil _ | exact PV.Le.acc _ _ _ | apply LeL.cons | apply PV.Le.agg | apply PV.Le.tup))) rfl rfl (iMatches_fn phead pother hg1 hg2)) ?_
      refine AL.cons rfl (AOp.move (.inr rfl) rfl rfl) ?_
      refine AL.nil ?_
      refine AWP.ret ?_
      have e3 : iMoreSpecificInstances_1_M fu phead pother = some (matchB phead pother) := gdT hg1 (gdT hg2 (rfl))
      have hz : (matchB phead pother) = r := Option.some.inj (e3.symm.trans H)
      subst hz
      exact Ends.mk (ps := [_]) (by first | exact .inr rfl | exact .inl rfl) ⟨rfl, trivial⟩ rfl (StLe.mk' (st' := ⟨[], []⟩) trivial rfl) (keeps_nil hC) (q := (.t (.leaf (.bool ((matchB phead pother)))) : PV)) (by (repeat' (first | exact PV.Le.refl _ | exact LeL.nil | exact PV.Le.nil _ | exact PV.Le.acc _ _ _ | apply LeL.cons | apply PV.Le.agg | apply PV.Le.tup))) rfl ⟨rfl, rfl⟩
    · skip
      have e4 : iMoreSpecificInstances_1_M fu phead pother = none := gdT hg1 (gdF hg2)
      exact none_some H e4
  · skip
    have e5 : iMoreSpecificInstances_1_M fu phead pother = none := gdF hg1
    exact none_some H e5

noncomputable def irelated__iMoreSpecificInstances_1_F1 (fu : Nat) (pw : GProgram) (po : GInstanceRef) (x4 : List GInstanceRef) : Nat → ((List GInstanceRef)) → Option (LR ((List GInstanceRef)) ((List GInstanceRef))) :=
 fun i6 v8 => sw (!(decide (((atD x4 i6).gPackage : Int) = po.gPackage) && decide (((atD x4 i6).gAt : Int) = po.gAt)))
 (sw (decide ((oInst (GProgram.instAt pw (atD x4 i6))).gTrait = (oInst (GProgram.instAt pw po)).gTrait))
 (bd (iMoreSpecificInstances_1_M fu ((oInst (GProgram.instAt pw po)).gHead) ((oInst (GProgram.instAt pw (atD x4 i6))).gHead)) (fun x16 =>
 sw (x16)
 (gd ((v8).length + (([(atD x4 i6)] : List GInstanceRef)).length ≤ 68719476736)
 (some (.next (v8 ++ ([(atD x4 i6)] : List GInstanceRef)))))
 (some (.next v8))))
 (some (.next v8)))
 (some (.next v8))
noncomputable def irelated__iMoreSpecificInstances_1_R1 (fu : Nat) (pw : GProgram) (po : GInstanceRef) (x4 : List GInstanceRef) : Option (((List GInstanceRef)) ⊕ ((List GInstanceRef))) :=
 loopN (irelated__iMoreSpecificInstances_1_F1 fu pw po x4) (x4.length - 0) 0 ([])
noncomputable def irelated__iMoreSpecificInstances_1_M (fu : Nat)  (pw : GProgram) (po : GInstanceRef) : Option ((List GInstanceRef)) :=
 sw (!(Option.isSome (GProgram.instAt pw po)))
 (some ([]))
 (bd (iAllInstances_M fu pw) (fun x4 =>
 so (irelated__iMoreSpecificInstances_1_R1 fu pw po x4) (fun v8 =>
 some v8)))
set_option maxRecDepth 100000 in
set_option maxHeartbeats 4000000 in
theorem irelated__iMoreSpecificInstances_1_own (fu : Nat) (pw : GProgram) (po : GInstanceRef) (r : (List GInstanceRef)) (H : irelated__iMoreSpecificInstances_1_M fu pw po = some r) : ARow Tryz.prog 117 [(GProgram.pv pw), (GInstanceRef.pv po), .fn 119 []] 33 2 (GInstanceRef.trs (r)) none := by
  unfold ARow
  refine ACalls.intro Tryz.func117 rfl (by first | decide | (simp; done) | (simp; decide)) ?_
  intro C hC
  refine AWP.seq ?_
  refine AWP.region_lit ?_
  refine AL.cons rfl (AOp.box (cs := [.t (.row 6 (GPackage.trs (pw.gPackages)))]) rfl rfl rfl rfl rfl) ?_
  refine AL.cons rfl (AOp.box (cs := [.t (.leaf (.int .i64 (po.gPackage))), .t (.leaf (.int .i64 (po.gAt)))]) rfl rfl rfl rfl rfl) ?_
  refine AL.cons rfl (AOp.move (.inr rfl) rfl rfl) ?_
  refine AL.nil ?_
  refine AWP.seq ?_
  refine AWP.region_lit ?_
  refine AL.cons rfl (AOp.loadPtr (cs := [.t (.row 6 (GPackage.trs (pw.gPackages)))]) rfl rfl rfl rfl sh31 rfl rfl) ?_
  refine AL.cons rfl (AOp.loadPtr (cs := [.t (.leaf (.int .i64 (po.gPackage))), .t (.leaf (.int .i64 (po.gAt)))]) rfl rfl rfl rfl sh33 rfl rfl) ?_
  refine AL.cons rfl (AOp.callF (res := .tup [(GInstance.pv (oInst (GProgram.instAt pw po))), .t (.leaf (.bool (Option.isSome (GProgram.instAt pw po))))]) (ps := [_, _]) rfl rfl Tryz.func81 (by kernel_rfl) rfl rfl (by (repeat' (first | exact PV.Le.refl _ | exact LeL.nil | exact PV.Le.nil _ | exact PV.Le.acc _ _ _ | apply LeL.cons | apply PV.Le.agg | apply PV.Le.tup))) rfl rfl (inst_impl pw po)) ?_
  refine AL.cons rfl (AOp.move (.inl rfl) rfl rfl) ?_
  refine AL.cons rfl (AOp.extract rfl rfl rfl rfl) ?_
  refine AL.cons rfl (AOp.extract rfl rfl rfl rfl) ?_
  refine AL.cons rfl (AOp.alloc rfl rfl zr113) ?_
  refine AL.cons rfl (AOp.storePtr (cs := [.t (.leaf (.string ((oInst (GProgram.instAt pw po)).gTrait))), .t (.row 1 (strTrs ((oInst (GProgram.instAt pw po)).gVars))), .t (.leaf (.int .i64 ((oInst (GProgram.instAt pw po)).gHead.gKind))), .t (.leaf (.string ((oInst (GProgram.instAt pw po)).gHead.gName))), .t (.row 3 (GType.trs ((oInst (GProgram.instAt pw po)).gHead.gArgs))), .t (.row 4 (GBound.trs ((oInst (GProgram.instAt pw po)).gWhere))), .t (.leaf (.bool ((oInst (GProgram.instAt pw po)).gDefault))), .t (.leaf (.bool ((oInst (GProgram.instAt pw po)).gHasAssoc))), .t (.leaf (.int .i64 ((oInst (GProgram.instAt pw po)).gAssoc.gKind))), .t (.leaf (.string ((oInst (GProgram.instAt pw po)).gAssoc.gName))), .t (.row 3 (GType.trs ((oInst (GProgram.instAt pw po)).gAssoc.gArgs))), .t (.row 11 (GMethod.trs ((oInst (GProgram.instAt pw po)).gMethods)))]) (ds := [.t (.leaf (.string ((oInst (GProgram.instAt pw po)).gTrait))), .t (.row 1 (strTrs ((oInst (GProgram.instAt pw po)).gVars))), .t (.leaf (.int .i64 ((oInst (GProgram.instAt pw po)).gHead.gKind))), .t (.leaf (.string ((oInst (GProgram.instAt pw po)).gHead.gName))), .t (.row 3 (GType.trs ((oInst (GProgram.instAt pw po)).gHead.gArgs))), .t (.row 4 (GBound.trs ((oInst (GProgram.instAt pw po)).gWhere))), .t (.leaf (.bool ((oInst (GProgram.instAt pw po)).gDefault))), .t (.leaf (.bool ((oInst (GProgram.instAt pw po)).gHasAssoc))), .t (.leaf (.int .i64 ((oInst (GProgram.instAt pw po)).gAssoc.gKind))), .t (.leaf (.string ((oInst (GProgram.instAt pw po)).gAssoc.gName))), .t (.row 3 (GType.trs ((oInst (GProgram.instAt pw po)).gAssoc.gArgs))), .t (.row 11 (GMethod.trs ((oInst (GProgram.instAt pw po)).gMethods)))]) rfl rfl rfl rfl rfl rfl rfl sz113 (Nat.le_of_ble_eq_true rfl) rfl) ?_
  refine AL.cons rfl (AOp.move (.inr rfl) rfl rfl) ?_
  refine AL.nil ?_
  refine AWP.seq ?_
  refine AWP.seq ?_
  refine AWP.region_lit ?_
  refine AL.cons rfl (AOp.move (.inl rfl) rfl rfl) ?_
  refine AL.cons rfl (AOp.notB rfl rfl rfl) ?_
  refine AL.nil ?_
  refine AWP.cond rfl (fun h1 => ?_) (fun h1 => ?_)
  · skip
    refine AWP.seq ?_
    refine AWP.region_lit ?_
    refine AL.cons rfl (AOp.move (.inr rfl) rfl rfl) ?_
    refine AL.nil ?_
    refine AWP.wk (Wk.reg (i := 6) 33 2 (by decide) rfl) ?_
    refine AWP.ret ?_
    have e2 : irelated__iMoreSpecificInstances_1_M fu pw po = some ([]) := swT h1 (rfl)
    have hz : [] = r := Option.some.inj (e2.symm.trans H)
    subst hz
    exact Ends.mk (ps := [_]) (by first | exact .inr rfl | exact .inl rfl) ⟨rfl, trivial⟩ rfl (StLe.mk' (st' := ⟨[], [⟨33, 2, GInstanceRef.trs ([]), false⟩]⟩) trivial (by first | rfl | simp)) ⟨fun k x h => by simp [hC] at h, fun r row h => by simp [hC] at h⟩ (q := .acc 2 (GInstanceRef.trs ([])) 0) (by (repeat' (first | exact PV.Le.refl _ | exact LeL.nil | exact PV.Le.nil _ | exact PV.Le.acc _ _ _ | apply LeL.cons | apply PV.Le.agg | apply PV.Le.tup))) rfl ⟨0, rfl, rfl⟩
  · skip
    refine AWP.skip ?_
    refine AWP.seq ?_
    refine AWP.region_lit ?_
    refine AL.cons rfl (AOp.buildSliceA (es := []) (es' := GInstanceRef.trs ([])) (cs := []) rfl rfl el66 zr33 rfl rfl (by (repeat' (first | exact PV.Le.refl _ | exact LeL.nil | exact PV.Le.nil _ | exact PV.Le.acc _ _ _ | apply LeL.cons | apply PV.Le.agg | apply PV.Le.tup))) rfl (by simp [GInstanceRef.cs]) (by decide) rfl (by decide) (by simp [GInstanceRef.trs_map, GInstanceRef.tr_cs])) ?_
    refine AL.cons rfl (AOp.move (.inr rfl) rfl rfl) ?_
    refine AL.nil ?_
    refine AWP.seq ?_
    refine AWP.seq ?_
    refine AWP.region_lit ?_
    refine AL.cons rfl (AOp.loadPtr (cs := [.t (.row 6 (GPackage.trs (pw.gPackages)))]) rfl rfl rfl rfl sh31 rfl rfl) ?_
    rcases hq3 : iAllInstances_M fu pw with _ | x4
    · skip
      have e5 : irelated__iMoreSpecificInstances_1_M fu pw po = none := swF h1 (bdN hq3)
      exact none_some H e5
    · skip
      refine AL.cons rfl (AOp.callF (res := .t (.row 2 (GInstanceRef.trs (x4)))) (ps := [_]) rfl rfl Tryz.func99 (by kernel_rfl) rfl rfl (by (repeat' (first | exact PV.Le.refl _ | exact LeL.nil | exact PV.Le.nil _ | exact PV.Le.acc _ _ _ | apply LeL.cons | apply PV.Le.agg | apply PV.Le.tup))) rfl rfl (iAllInstances_ok fu pw _ hq3)) ?_
      refine AL.cons rfl (AOp.lenN rfl rfl rfl rfl el66 (GInstanceRef.trs_len _)) ?_
      refine AL.cons rfl (AOp.move (.inl rfl) rfl rfl) ?_
      refine AL.nil ?_
      refine AWP.fact (lk_lenN 9 rfl rfl (GInstanceRef.trs_len _)) (fun hl9 => ?_)
      refine AWP.fact (lk_lenN 24 rfl rfl (GInstanceRef.trs_len _)) (fun hl10 => ?_)
      refine AWP.cut (ι := (List GInstanceRef)) (fun v8 => irelated__iMoreSpecificInstances_1_R1 fu pw po x4 = some (.inr v8)) (fun v8 => ⟨[(6, .nil), (9, .acc 2 (GInstanceRef.trs (v8)) 0)], ⟨[some ⟨31, [.t (.row 6 (GPackage.trs (pw.gPackages)))]⟩, some ⟨33, [.t (.leaf (.int .i64 (po.gPackage))), .t (.leaf (.int .i64 (po.gAt)))]⟩, some ⟨113, [.t (.leaf (.string ((oInst (GProgram.instAt pw po)).gTrait))), .t (.row 1 (strTrs ((oInst (GProgram.instAt pw po)).gVars))), .t (.leaf (.int .i64 ((oInst (GProgram.instAt pw po)).gHead.gKind))), .t (.leaf (.string ((oInst (GProgram.instAt pw po)).gHead.gName))), .t (.row 3 (GType.trs ((oInst (GProgram.instAt pw po)).gHead.gArgs))), .t (.row 4 (GBound.trs ((oInst (GProgram.instAt pw po)).gWhere))), .t (.leaf (.bool ((oInst (GProgram.instAt pw po)).gDefault))), .t (.leaf (.bool ((oInst (GProgram.instAt pw po)).gHasAssoc))), .t (.leaf (.int .i64 ((oInst (GProgram.instAt pw po)).gAssoc.gKind))), .t (.leaf (.string ((oInst (GProgram.instAt pw po)).gAssoc.gName))), .t (.row 3 (GType.trs ((oInst (GProgram.instAt pw po)).gAssoc.gArgs))), .t (.row 11 (GMethod.trs ((oInst (GProgram.instAt pw po)).gMethods)))]⟩], [⟨33, 2, GInstanceRef.trs (v8), false⟩]⟩⟩) (by repeat' (first | exact qcEnds | exact ncAWP | exact ncRound | exact ncEx | apply qcThen | apply qcBlock | apply qcCut)) ?_ ?_
      · skip
        refine AWP.block ?_
        refine AWP.loopR (ι := Nat × ((List GInstanceRef))) (fun (i6, v8) => irelated__iMoreSpecificInstances_1_R1 fu pw po x4 = loopN (irelated__iMoreSpecificInstances_1_F1 fu pw po x4) (x4.length - i6) i6 v8) (fun (i6, v8) => ⟨[(2, .fn 119 []), (3, .ptr 0 0), (4, .ptr 1 0), (6, .nil), (7, .ptr 2 0), (9, .acc 2 (GInstanceRef.trs (v8)) 0), (24, .t (.row 2 (GInstanceRef.trs (x4)))), (25, .t (.leaf (.int .i64 (((x4.length : Nat) : Int))))), (26, .t (.leaf (.int .i64 (((i6 : Nat) : Int)))))], ⟨[some ⟨31, [.t (.row 6 (GPackage.trs (pw.gPackages)))]⟩, some ⟨33, [.t (.leaf (.int .i64 (po.gPackage))), .t (.leaf (.int .i64 (po.gAt)))]⟩, some ⟨113, [.t (.leaf (.string ((oInst (GProgram.instAt pw po)).gTrait))), .t (.row 1 (strTrs ((oInst (GProgram.instAt pw po)).gVars))), .t (.leaf (.int .i64 ((oInst (GProgram.instAt pw po)).gHead.gKind))), .t (.leaf (.string ((oInst (GProgram.instAt pw po)).gHead.gName))), .t (.row 3 (GType.trs ((oInst (GProgram.instAt pw po)).gHead.gArgs))), .t (.row 4 (GBound.trs ((oInst (GProgram.instAt pw po)).gWhere))), .t (.leaf (.bool ((oInst (GProgram.instAt pw po)).gDefault))), .t (.leaf (.bool ((oInst (GProgram.instAt pw po)).gHasAssoc))), .t (.leaf (.int .i64 ((oInst (GProgram.instAt pw po)).gAssoc.gKind))), .t (.leaf (.string ((oInst (GProgram.instAt pw po)).gAssoc.gName))), .t (.row 3 (GType.trs ((oInst (GProgram.instAt pw po)).gAssoc.gArgs))), .t (.row 11 (GMethod.trs ((oInst (GProgram.instAt pw po)).gMethods)))]⟩], [⟨33, 2, GInstanceRef.trs (v8), false⟩]⟩⟩) (fun (i6, v8) => x4.length - i6) (0, ([])) ?_ ?_ ?_
        · exact rfl
        · skip
          exact Wk.mk (StLe.mk' ⟨⟨rfl, by (repeat' (first | exact PV.Le.refl _ | exact LeL.nil | exact PV.Le.nil _ | exact PV.Le.acc _ _ _ | apply LeL.cons | apply PV.Le.agg | apply PV.Le.tup)), rfl⟩, ⟨⟨rfl, by (repeat' (first | exact PV.Le.refl _ | exact LeL.nil | exact PV.Le.nil _ | exact PV.Le.acc _ _ _ | apply LeL.cons | apply PV.Le.agg | apply PV.Le.tup)), rfl⟩, ⟨⟨rfl, by (repeat' (first | exact PV.Le.refl _ | exact LeL.nil | exact PV.Le.nil _ | exact PV.Le.acc _ _ _ | apply LeL.cons | apply PV.Le.agg | apply PV.Le.tup)), rfl⟩, trivial⟩⟩⟩ (by first | rfl | simp)) (keeps_nil hC) ⟨⟨_, rfl, .refl _, rfl⟩, ⟨⟨_, rfl, .refl _, rfl⟩, ⟨⟨_, rfl, .refl _, rfl⟩, ⟨⟨_, rfl, .refl _, rfl⟩, ⟨⟨_, rfl, .refl _, rfl⟩, ⟨⟨_, rfl, by (repeat' (first | exact PV.Le.refl _ | exact LeL.nil | exact PV.Le.nil _ | exact PV.Le.acc _ _ _ | apply LeL.cons | apply PV.Le.agg | apply PV.Le.tup)), rfl⟩, ⟨⟨_, rfl, .refl _, rfl⟩, ⟨⟨_, rfl, .refl _, rfl⟩, ⟨⟨_, rfl, by (repeat' (first | exact PV.Le.refl _ | exact LeL.nil | exact PV.Le.nil _ | exact PV.Le.acc _ _ _ | apply LeL.cons | apply PV.Le.agg | apply PV.Le.tup)), rfl⟩, trivial⟩⟩⟩⟩⟩⟩⟩⟩⟩
        · rintro ⟨i6, v8⟩ hJ11
          refine AWP.seq ?_
          refine AWP.region_lit ?_
          refine AL.cons rfl (AOp.lss rfl rfl rfl rfl) ?_
          refine AL.nil ?_
          refine AWP.seq ?_
          refine AWP.cond rfl (fun h12 => ?_) (fun h12 => ?_)
          · skip
            have h12l : i6 < x4.length := nat_lt_of2 h12
            have h12n := nat_lt_of h12
            refine AWP.skip ?_
            refine AWP.seq ?_
            refine AWP.block ?_
            refine AWP.seq ?_
            refine AWP.region_lit ?_
            refine AL.cons rfl (AOp.index (k := i6) rfl rfl rfl rfl rfl (GInstanceRef.trs_at h12n) el66) ?_
            refine AL.cons rfl (AOp.loadEptr (ds := [.leaf (.int .i64 ((atD x4 i6).gPackage)), .leaf (.int .i64 ((atD x4 i6).gAt))]) rfl rfl rfl sh33 rfl rfl) ?_
            refine AL.cons rfl (AOp.alloc rfl rfl zr33) ?_
            refine AL.cons rfl (AOp.storePtr (cs := [.t (.leaf (.int .i64 ((atD x4 i6).gPackage))), .t (.leaf (.int .i64 ((atD x4 i6).gAt)))]) (ds := [.t (.leaf (.int .i64 ((atD x4 i6).gPackage))), .t (.leaf (.int .i64 ((atD x4 i6).gAt)))]) rfl rfl rfl rfl rfl rfl rfl sz33 (Nat.le_of_ble_eq_true rfl) rfl) ?_
            refine AL.nil ?_
            refine AWP.seq ?_
            refine AWP.region_lit ?_
            refine AL.cons rfl (AOp.loadPtr (cs := [.t (.row 6 (GPackage.trs (pw.gPackages)))]) rfl rfl rfl rfl sh31 rfl rfl) ?_
            refine AL.cons rfl (AOp.loadPtr (cs := [.t (.leaf (.int .i64 ((atD x4 i6).gPackage))), .t (.leaf (.int .i64 ((atD x4 i6).gAt)))]) rfl rfl rfl rfl sh33 rfl rfl) ?_
            refine AL.cons rfl (AOp.callF (res := .tup [(GInstance.pv (oInst (GProgram.instAt pw (atD x4 i6)))), .t (.leaf (.bool (Option.isSome (GProgram.instAt pw (atD x4 i6)))))]) (ps := [_, _]) rfl rfl Tryz.func81 (by kernel_rfl) rfl rfl (by (repeat' (first | exact PV.Le.refl _ | exact LeL.nil | exact PV.Le.nil _ | exact PV.Le.acc _ _ _ | apply LeL.cons | apply PV.Le.agg | apply PV.Le.tup))) rfl rfl (inst_impl pw (atD x4 i6))) ?_
            refine AL.cons rfl (AOp.move (.inl rfl) rfl rfl) ?_
            refine AL.cons rfl (AOp.extract rfl rfl rfl rfl) ?_
            refine AL.cons rfl (AOp.extract rfl rfl rfl rfl) ?_
            refine AL.cons rfl (AOp.alloc rfl rfl zr113) ?_
            refine AL.cons rfl (AOp.storePtr (cs := [.t (.leaf (.string ((oInst (GProgram.instAt pw (atD x4 i6))).gTrait))), .t (.row 1 (strTrs ((oInst (GProgram.instAt pw (atD x4 i6))).gVars))), .t (.leaf (.int .i64 ((oInst (GProgram.instAt pw (atD x4 i6))).gHead.gKind))), .t (.leaf (.string ((oInst (GProgram.instAt pw (atD x4 i6))).gHead.gName))), .t (.row 3 (GType.trs ((oInst (GProgram.instAt pw (atD x4 i6))).gHead.gArgs))), .t (.row 4 (GBound.trs ((oInst (GProgram.instAt pw (atD x4 i6))).gWhere))), .t (.leaf (.bool ((oInst (GProgram.instAt pw (atD x4 i6))).gDefault))), .t (.leaf (.bool ((oInst (GProgram.instAt pw (atD x4 i6))).gHasAssoc))), .t (.leaf (.int .i64 ((oInst (GProgram.instAt pw (atD x4 i6))).gAssoc.gKind))), .t (.leaf (.string ((oInst (GProgram.instAt pw (atD x4 i6))).gAssoc.gName))), .t (.row 3 (GType.trs ((oInst (GProgram.instAt pw (atD x4 i6))).gAssoc.gArgs))), .t (.row 11 (GMethod.trs ((oInst (GProgram.instAt pw (atD x4 i6))).gMethods)))]) (ds := [.t (.leaf (.string ((oInst (GProgram.instAt pw (atD x4 i6))).gTrait))), .t (.row 1 (strTrs ((oInst (GProgram.instAt pw (atD x4 i6))).gVars))), .t (.leaf (.int .i64 ((oInst (GProgram.instAt pw (atD x4 i6))).gHead.gKind))), .t (.leaf (.string ((oInst (GProgram.instAt pw (atD x4 i6))).gHead.gName))), .t (.row 3 (GType.trs ((oInst (GProgram.instAt pw (atD x4 i6))).gHead.gArgs))), .t (.row 4 (GBound.trs ((oInst (GProgram.instAt pw (atD x4 i6))).gWhere))), .t (.leaf (.bool ((oInst (GProgram.instAt pw (atD x4 i6))).gDefault))), .t (.leaf (.bool ((oInst (GProgram.instAt pw (atD x4 i6))).gHasAssoc))), .t (.leaf (.int .i64 ((oInst (GProgram.instAt pw (atD x4 i6))).gAssoc.gKind))), .t (.leaf (.string ((oInst (GProgram.instAt pw (atD x4 i6))).gAssoc.gName))), .t (.row 3 (GType.trs ((oInst (GProgram.instAt pw (atD x4 i6))).gAssoc.gArgs))), .t (.row 11 (GMethod.trs ((oInst (GProgram.instAt pw (atD x4 i6))).gMethods)))]) rfl rfl rfl rfl rfl rfl rfl sz113 (Nat.le_of_ble_eq_true rfl) rfl) ?_
            refine AL.cons rfl (AOp.move (.inr rfl) rfl rfl) ?_
            refine AL.nil ?_
            refine AWP.seq ?_
            refine AWP.region_lit ?_
            refine AL.cons rfl (AOp.loadPtr (cs := [.t (.leaf (.int .i64 ((atD x4 i6).gPackage))), .t (.leaf (.int .i64 ((atD x4 i6).gAt)))]) rfl rfl rfl rfl sh33 rfl rfl) ?_
            refine AL.cons rfl (AOp.loadPtr (cs := [.t (.leaf (.int .i64 (po.gPackage))), .t (.leaf (.int .i64 (po.gAt)))]) rfl rfl rfl rfl sh33 rfl rfl) ?_
            refine AL.cons rfl (AOp.neqP rfl rfl rfl rfl eqg33 eqr33) ?_
            refine AL.cons rfl (AOp.move (.inl rfl) rfl rfl) ?_
            refine AL.splitB 39 rfl (fun g13 => ?_) (fun g13 => ?_)
            · skip
              refine AL.cons_gv rfl rfl rfl g13 (AOp.fieldPtr (k := 4) (d := 0) (e := 0) rfl rfl rfl fo113_0) ?_
              refine AL.cons_gv rfl rfl rfl g13 (AOp.loadPtr1 rfl rfl rfl rfl sh9 rfl) ?_
              refine AL.cons_gv rfl rfl rfl g13 (AOp.fieldPtr (k := 2) (d := 0) (e := 0) rfl rfl rfl fo113_0) ?_
              refine AL.cons_gv rfl rfl rfl g13 (AOp.loadPtr1 rfl rfl rfl rfl sh9 rfl) ?_
              refine AL.cons_gv rfl rfl rfl g13 (AOp.eqlS rfl rfl rfl rfl) ?_
              refine AL.cons rfl (AOp.pickT rfl rfl rfl g13 rfl) ?_
              refine AL.cons rfl (AOp.move (.inl rfl) rfl rfl) ?_
              refine AL.splitB 46 rfl (fun g14 => ?_) (fun g14 => ?_)
              · skip
                refine AL.cons_gv rfl rfl rfl g14 (AOp.move (.inl rfl) rfl rfl) ?_
                refine AL.cons_gv rfl rfl rfl g14 (AOp.fieldPtr (k := 2) (d := 0) (e := 2) rfl rfl rfl fo113_2) ?_
                refine AL.cons_gv rfl rfl rfl g14 (AOp.loadPtr (cs := [.t (.leaf (.int .i64 (((oInst (GProgram.instAt pw po)).gHead).gKind))), .t (.leaf (.string (((oInst (GProgram.instAt pw po)).gHead).gName))), .t (.row 3 (GType.trs (((oInst (GProgram.instAt pw po)).gHead).gArgs)))]) rfl rfl rfl rfl sh47 rfl rfl) ?_
                refine AL.cons_gv rfl rfl rfl g14 (AOp.fieldPtr (k := 4) (d := 0) (e := 2) rfl rfl rfl fo113_2) ?_
                refine AL.cons_gv rfl rfl rfl g14 (AOp.loadPtr (cs := [.t (.leaf (.int .i64 (((oInst (GProgram.instAt pw (atD x4 i6))).gHead).gKind))), .t (.leaf (.string (((oInst (GProgram.instAt pw (atD x4 i6))).gHead).gName))), .t (.row 3 (GType.trs (((oInst (GProgram.instAt pw (atD x4 i6))).gHead).gArgs)))]) rfl rfl rfl rfl sh47 rfl rfl) ?_
                rcases hq15 : iMoreSpecificInstances_1_M fu ((oInst (GProgram.instAt pw po)).gHead) ((oInst (GProgram.instAt pw (atD x4 i6))).gHead) with _ | x16
                · skip
                  have e17 : (irelated__iMoreSpecificInstances_1_F1 fu pw po x4) i6 v8 = none := swT g13 (swT g14 (bdN hq15))
                  have e18 : irelated__iMoreSpecificInstances_1_R1 fu pw po x4 = none := loopN_non h12l hJ11 e17
                  have e19 : irelated__iMoreSpecificInstances_1_M fu pw po = none := swF h1 (bdS hq3 (soN e18))
                  exact none_some H e19
                · skip
                  refine AL.cons_gv rfl rfl rfl g14 (AOp.callV (res := .t (.leaf (.bool (x16)))) (ps := [_, _]) (cs := []) rfl rfl rfl Tryz.func119 (by kernel_rfl) rfl rfl (by (repeat' (first | exact PV.Le.refl _ | exact LeL.nil | exact PV.Le.nil _ | exact PV.Le.acc _ _ _ | apply LeL.cons | apply PV.Le.agg | apply PV.Le.tup))) rfl rfl (iMoreSpecificInstances_1_ok fu ((oInst (GProgram.instAt pw po)).gHead) ((oInst (GProgram.instAt pw (atD x4 i6))).gHead) _ hq15)) ?_
                  refine AL.cons rfl (AOp.pickT rfl rfl rfl g14 rfl) ?_
                  refine AL.nil ?_
                  refine AWP.cond rfl (fun h20 => ?_) (fun h20 => ?_)
                  · skip
                    refine AWP.region_lit ?_
                    refine AL.cons rfl (AOp.move (.inl rfl) rfl rfl) ?_
                    refine AL.cons rfl (AOp.loadPtr (cs := [.t (.leaf (.int .i64 ((atD x4 i6).gPackage))), .t (.leaf (.int .i64 ((atD x4 i6).gAt)))]) rfl rfl rfl rfl sh33 rfl rfl) ?_
                    refine AL.cons rfl (AOp.buildSliceE (es := [GInstanceRef.cs (atD x4 i6)]) (es' := GInstanceRef.trs (([(atD x4 i6)] : List GInstanceRef))) (cs := [.t (.leaf (.int .i64 ((atD x4 i6).gPackage))), .t (.leaf (.int .i64 ((atD x4 i6).gAt)))]) rfl rfl el66 zr33 rfl rfl (by (repeat' (first | exact PV.Le.refl _ | exact LeL.nil | exact PV.Le.nil _ | exact PV.Le.acc _ _ _ | apply LeL.cons | apply PV.Le.agg | apply PV.Le.tup))) rfl (by simp [GInstanceRef.cs]) (by decide) rfl (by decide) (by simp [GInstanceRef.trs_map, GInstanceRef.tr_cs])) ?_
                    rcases Classical.em ((v8).length + (([(atD x4 i6)] : List GInstanceRef)).length ≤ 68719476736) with hg21 | hg21
                    · skip
                      refine AL.cons rfl (AOp.appendE (es3 := GInstanceRef.trs (v8 ++ ([(atD x4 i6)] : List GInstanceRef))) rfl rfl rfl rfl rfl rfl rfl rfl rfl (fun e he => by rw [GInstanceRef.trs_map] at he; obtain ⟨x, _, rfl⟩ := List.mem_map.1 he; rw [GInstanceRef.tr_cs]; rfl) el66 ze66 (by decide) (by rw [GInstanceRef.trs_len, GInstanceRef.trs_len]; exact room_le hg21 (by decide)) (by rw [GInstanceRef.trs_map, GInstanceRef.trs_map, GInstanceRef.trs_map, List.map_append])) ?_
                      refine AL.cons rfl (AOp.move (.inr rfl) rfl rfl) ?_
                      refine AL.nil ?_
                      refine AWP.region_lit ?_
                      refine AL.cons rfl (AOp.addI rfl rfl rfl rfl (c := ((i6 + 1 : Nat) : Int)) (by omega) (by omega)) ?_
                      refine AL.cons rfl (AOp.move (.inl rfl) rfl rfl) ?_
                      refine AL.nil ?_
                      have e22 : (irelated__iMoreSpecificInstances_1_F1 fu pw po x4) i6 v8 = some (.next (v8 ++ ([(atD x4 i6)] : List GInstanceRef))) := swT g13 (swT g14 (bdS hq15 (swT h20 (gdT hg21 (rfl)))))
                      refine ⟨(i6 + 1, (v8 ++ ([(atD x4 i6)] : List GInstanceRef))), loopN_next h12l hJ11 e22, ?_, ?_⟩
                      · skip
                        exact Wk.mk (StLe.mk' ⟨⟨rfl, by (repeat' (first | exact PV.Le.refl _ | exact LeL.nil | exact PV.Le.nil _ | exact PV.Le.acc _ _ _ | apply LeL.cons | apply PV.Le.agg | apply PV.Le.tup)), rfl⟩, ⟨⟨rfl, by (repeat' (first | exact PV.Le.refl _ | exact LeL.nil | exact PV.Le.nil _ | exact PV.Le.acc _ _ _ | apply LeL.cons | apply PV.Le.agg | apply PV.Le.tup)), rfl⟩, ⟨⟨rfl, by (repeat' (first | exact PV.Le.refl _ | exact LeL.nil | exact PV.Le.nil _ | exact PV.Le.acc _ _ _ | apply LeL.cons | apply PV.Le.agg | apply PV.Le.tup)), rfl⟩, trivial⟩⟩⟩ (by first | rfl | simp)) (keeps_nil hC) ⟨⟨_, rfl, .refl _, rfl⟩, ⟨⟨_, rfl, .refl _, rfl⟩, ⟨⟨_, rfl, .refl _, rfl⟩, ⟨⟨_, rfl, .refl _, rfl⟩, ⟨⟨_, rfl, .refl _, rfl⟩, ⟨⟨_, rfl, by (repeat' (first | exact PV.Le.refl _ | exact LeL.nil | exact PV.Le.nil _ | exact PV.Le.acc _ _ _ | apply LeL.cons | apply PV.Le.agg | apply PV.Le.tup)), rfl⟩, ⟨⟨_, rfl, .refl _, rfl⟩, ⟨⟨_, rfl, .refl _, rfl⟩, ⟨⟨_, rfl, by (repeat' (first | exact PV.Le.refl _ | exact LeL.nil | exact PV.Le.nil _ | exact PV.Le.acc _ _ _ | apply LeL.cons | apply PV.Le.agg | apply PV.Le.tup)), rfl⟩, trivial⟩⟩⟩⟩⟩⟩⟩⟩⟩
                      · dsimp only; omega
                    · skip
                      have e23 : (irelated__iMoreSpecificInstances_1_F1 fu pw po x4) i6 v8 = none := swT g13 (swT g14 (bdS hq15 (swT h20 (gdF hg21))))
                      have e24 : irelated__iMoreSpecificInstances_1_R1 fu pw po x4 = none := loopN_non h12l hJ11 e23
                      have e25 : irelated__iMoreSpecificInstances_1_M fu pw po = none := swF h1 (bdS hq3 (soN e24))
                      exact none_some H e25
                  · skip
                    refine AWP.skip ?_
                    refine AWP.region_lit ?_
                    refine AL.cons rfl (AOp.addI rfl rfl rfl rfl (c := ((i6 + 1 : Nat) : Int)) (by omega) (by omega)) ?_
                    refine AL.cons rfl (AOp.move (.inl rfl) rfl rfl) ?_
                    refine AL.nil ?_
                    have e26 : (irelated__iMoreSpecificInstances_1_F1 fu pw po x4) i6 v8 = some (.next v8) := swT g13 (swT g14 (bdS hq15 (swF h20 (rfl))))
                    refine ⟨(i6 + 1, v8), loopN_next h12l hJ11 e26, ?_, ?_⟩
                    · skip
                      exact Wk.mk (StLe.mk' ⟨⟨rfl, by (repeat' (first | exact PV.Le.refl _ | exact LeL.nil | exact PV.Le.nil _ | exact PV.Le.acc _ _ _ | apply LeL.cons | apply PV.Le.agg | apply PV.Le.tup)), rfl⟩, ⟨⟨rfl, by (repeat' (first | exact PV.Le.refl _ | exact LeL.nil | exact PV.Le.nil _ | exact PV.Le.acc _ _ _ | apply LeL.cons | apply PV.Le.agg | apply PV.Le.tup)), rfl⟩, ⟨⟨rfl, by (repeat' (first | exact PV.Le.refl _ | exact LeL.nil | exact PV.Le.nil _ | exact PV.Le.acc _ _ _ | apply LeL.cons | apply PV.Le.agg | apply PV.Le.tup)), rfl⟩, trivial⟩⟩⟩ (by first | rfl | simp)) (keeps_nil hC) ⟨⟨_, rfl, .refl _, rfl⟩, ⟨⟨_, rfl, .refl _, rfl⟩, ⟨⟨_, rfl, .refl _, rfl⟩, ⟨⟨_, rfl, .refl _, rfl⟩, ⟨⟨_, rfl, .refl _, rfl⟩, ⟨⟨_, rfl, .refl _, rfl⟩, ⟨⟨_, rfl, .refl _, rfl⟩, ⟨⟨_, rfl, .refl _, rfl⟩, ⟨⟨_, rfl, by (repeat' (first | exact PV.Le.refl _ | exact LeL.nil | exact PV.Le.nil _ | exact PV.Le.acc _ _ _ | apply LeL.cons | apply PV.Le.agg | apply PV.Le.tup)), rfl⟩, trivial⟩⟩⟩⟩⟩⟩⟩⟩⟩
                    · dsimp only; omega
              · skip
                refine AL.skipP rfl rfl rfl g14 rfl rfl ?_
                refine AL.skipP rfl rfl rfl g14 rfl rfl ?_
                refine AL.skipP rfl rfl rfl g14 rfl rfl ?_
                refine AL.skipP rfl rfl rfl g14 rfl rfl ?_
                refine AL.skipP rfl rfl rfl g14 rfl rfl ?_
                refine AL.skipP rfl rfl rfl g14 rfl rfl ?_
                refine AL.cons rfl (AOp.pickF rfl rfl rfl g14 rfl) ?_
                refine AL.nil ?_
                refine AWP.cond rfl (fun h27 => ?_) (fun h27 => ?_)
                · skip
                  exact absurd (h27.symm.trans rfl) (by decide)
                · skip
                  refine AWP.skip ?_
                  refine AWP.region_lit ?_
                  refine AL.cons rfl (AOp.addI rfl rfl rfl rfl (c := ((i6 + 1 : Nat) : Int)) (by omega) (by omega)) ?_
                  refine AL.cons rfl (AOp.move (.inl rfl) rfl rfl) ?_
                  refine AL.nil ?_
                  have e28 : (irelated__iMoreSpecificInstances_1_F1 fu pw po x4) i6 v8 = some (.next v8) := swT g13 (swF g14 (rfl))
                  refine ⟨(i6 + 1, v8), loopN_next h12l hJ11 e28, ?_, ?_⟩
                  · skip
                    exact Wk.mk (StLe.mk' ⟨⟨rfl, by (repeat' (first | exact PV.Le.refl _ | exact LeL.nil | exact PV.Le.nil _ | exact PV.Le.acc _ _ _ | apply LeL.cons | apply PV.Le.agg | apply PV.Le.tup)), rfl⟩, ⟨⟨rfl, by (repeat' (first | exact PV.Le.refl _ | exact LeL.nil | exact PV.Le.nil _ | exact PV.Le.acc _ _ _ | apply LeL.cons | apply PV.Le.agg | apply PV.Le.tup)), rfl⟩, ⟨⟨rfl, by (repeat' (first | exact PV.Le.refl _ | exact LeL.nil | exact PV.Le.nil _ | exact PV.Le.acc _ _ _ | apply LeL.cons | apply PV.Le.agg | apply PV.Le.tup)), rfl⟩, trivial⟩⟩⟩ (by first | rfl | simp)) (keeps_nil hC) ⟨⟨_, rfl, .refl _, rfl⟩, ⟨⟨_, rfl, .refl _, rfl⟩, ⟨⟨_, rfl, .refl _, rfl⟩, ⟨⟨_, rfl, .refl _, rfl⟩, ⟨⟨_, rfl, .refl _, rfl⟩, ⟨⟨_, rfl, .refl _, rfl⟩, ⟨⟨_, rfl, .refl _, rfl⟩, ⟨⟨_, rfl, .refl _, rfl⟩, ⟨⟨_, rfl, by (repeat' (first | exact PV.Le.refl _ | exact LeL.nil | exact PV.Le.nil _ | exact PV.Le.acc _ _ _ | apply LeL.cons | apply PV.Le.agg | apply PV.Le.tup)), rfl⟩, trivial⟩⟩⟩⟩⟩⟩⟩⟩⟩
                  · dsimp only; omega
            · skip
              refine AL.skipP rfl rfl rfl g13 rfl rfl ?_
              refine AL.skipP rfl rfl rfl g13 rfl rfl ?_
              refine AL.skipP rfl rfl rfl g13 rfl rfl ?_
              refine AL.skipP rfl rfl rfl g13 rfl rfl ?_
              refine AL.skipP rfl rfl rfl g13 rfl rfl ?_
              refine AL.cons rfl (AOp.pickF rfl rfl rfl g13 rfl) ?_
              refine AL.cons rfl (AOp.move (.inl rfl) rfl rfl) ?_
              refine AL.skipP rfl rfl rfl rfl rfl rfl ?_
              refine AL.skipP rfl rfl rfl rfl rfl rfl ?_
              refine AL.skipP rfl rfl rfl rfl rfl rfl ?_
              refine AL.skipP rfl rfl rfl rfl rfl rfl ?_
              refine AL.skipP rfl rfl rfl rfl rfl rfl ?_
              refine AL.skipP rfl rfl rfl rfl rfl rfl ?_
              refine AL.cons rfl (AOp.pickF rfl rfl rfl rfl rfl) ?_
              refine AL.nil ?_
              refine AWP.cond rfl (fun h29 => ?_) (fun h29 => ?_)
              · skip
                exact absurd (h29.symm.trans rfl) (by decide)
              · skip
                refine AWP.skip ?_
                refine AWP.region_lit ?_
                refine AL.cons rfl (AOp.addI rfl rfl rfl rfl (c := ((i6 + 1 : Nat) : Int)) (by omega) (by omega)) ?_
                refine AL.cons rfl (AOp.move (.inl rfl) rfl rfl) ?_
                refine AL.nil ?_
                have e30 : (irelated__iMoreSpecificInstances_1_F1 fu pw po x4) i6 v8 = some (.next v8) := swF g13 (rfl)
                refine ⟨(i6 + 1, v8), loopN_next h12l hJ11 e30, ?_, ?_⟩
                · skip
                  exact Wk.mk (StLe.mk' ⟨⟨rfl, by (repeat' (first | exact PV.Le.refl _ | exact LeL.nil | exact PV.Le.nil _ | exact PV.Le.acc _ _ _ | apply LeL.cons | apply PV.Le.agg | apply PV.Le.tup)), rfl⟩, ⟨⟨rfl, by (repeat' (first | exact PV.Le.refl _ | exact LeL.nil | exact PV.Le.nil _ | exact PV.Le.acc _ _ _ | apply LeL.cons | apply PV.Le.agg | apply PV.Le.tup)), rfl⟩, ⟨⟨rfl, by (repeat' (first | exact PV.Le.refl _ | exact LeL.nil | exact PV.Le.nil _ | exact PV.Le.acc _ _ _ | apply LeL.cons | apply PV.Le.agg | apply PV.Le.tup)), rfl⟩, trivial⟩⟩⟩ (by first | rfl | simp)) (keeps_nil hC) ⟨⟨_, rfl, .refl _, rfl⟩, ⟨⟨_, rfl, .refl _, rfl⟩, ⟨⟨_, rfl, .refl _, rfl⟩, ⟨⟨_, rfl, .refl _, rfl⟩, ⟨⟨_, rfl, .refl _, rfl⟩, ⟨⟨_, rfl, .refl _, rfl⟩, ⟨⟨_, rfl, .refl _, rfl⟩, ⟨⟨_, rfl, .refl _, rfl⟩, ⟨⟨_, rfl, by (repeat' (first | exact PV.Le.refl _ | exact LeL.nil | exact PV.Le.nil _ | exact PV.Le.acc _ _ _ | apply LeL.cons | apply PV.Le.agg | apply PV.Le.tup)), rfl⟩, trivial⟩⟩⟩⟩⟩⟩⟩⟩⟩
                · dsimp only; omega
          · skip
            have h12l : x4.length ≤ i6 := nat_ge_of2 h12
            refine AWP.exit ?_
            refine ⟨v8, loopN_end h12l hJ11, ?_⟩
            exact Wk.mk (StLe.mk' ⟨⟨rfl, by (repeat' (first | exact PV.Le.refl _ | exact LeL.nil | exact PV.Le.nil _ | exact PV.Le.acc _ _ _ | apply LeL.cons | apply PV.Le.agg | apply PV.Le.tup)), rfl⟩, ⟨⟨rfl, by (repeat' (first | exact PV.Le.refl _ | exact LeL.nil | exact PV.Le.nil _ | exact PV.Le.acc _ _ _ | apply LeL.cons | apply PV.Le.agg | apply PV.Le.tup)), rfl⟩, ⟨⟨rfl, by (repeat' (first | exact PV.Le.refl _ | exact LeL.nil | exact PV.Le.nil _ | exact PV.Le.acc _ _ _ | apply LeL.cons | apply PV.Le.agg | apply PV.Le.tup)), rfl⟩, trivial⟩⟩⟩ (by first | rfl | simp)) (keeps_nil hC) ⟨⟨_, rfl, .refl _, rfl⟩, ⟨⟨_, rfl, .refl _, rfl⟩, trivial⟩⟩
      · rintro v8 hR31
        refine AWP.seq ?_
        refine AWP.region_lit ?_
        refine AL.cons rfl (AOp.move (.inl rfl) rfl rfl) ?_
        refine AL.cons rfl (AOp.move (.inr rfl) rfl rfl) ?_
        refine AL.nil ?_
        refine AWP.ret ?_
        have e32 : irelated__iMoreSpecificInstances_1_M fu pw po = some v8 := swF h1 (bdS hq3 (soR hR31 (rfl)))
        have hz : v8 = r := Option.some.inj (e32.symm.trans H)
        subst hz
        exact Ends.mk (ps := [_]) (by first | exact .inr rfl | exact .inl rfl) ⟨rfl, trivial⟩ rfl (StLe.mk' (st' := ⟨[], [⟨33, 2, GInstanceRef.trs (v8), false⟩]⟩) trivial (by first | rfl | simp)) ⟨fun k x h => by simp [hC] at h, fun r row h => by simp [hC] at h⟩ (q := .acc 2 (GInstanceRef.trs (v8)) 0) (by (repeat' (first | exact PV.Le.refl _ | exact LeL.nil | exact PV.Le.nil _ | exact PV.Le.acc _ _ _ | apply LeL.cons | apply PV.Le.agg | apply PV.Le.tup))) rfl ⟨0, rfl, rfl⟩

noncomputable def iMoreSpecificInstances_M (fu : Nat)  (pw : GProgram) (po : GInstanceRef) : Option ((List GInstanceRef)) :=
 bd (irelated__iMoreSpecificInstances_1_M fu pw po) (fun x2 =>
 some x2)
set_option maxRecDepth 100000 in
set_option maxHeartbeats 4000000 in
theorem iMoreSpecificInstances_own (fu : Nat) (pw : GProgram) (po : GInstanceRef) (r : (List GInstanceRef)) (H : iMoreSpecificInstances_M fu pw po = some r) : ARow Tryz.prog 65 [(GProgram.pv pw), (GInstanceRef.pv po)] 33 2 (GInstanceRef.trs (r)) none := by
  unfold ARow
  refine ACalls.intro Tryz.func65 rfl (by first | decide | (simp; done) | (simp; decide)) ?_
  intro C hC
  refine AWP.seq ?_
  refine AWP.region_lit ?_
  refine AL.cons rfl (AOp.box (cs := [.t (.row 6 (GPackage.trs (pw.gPackages)))]) rfl rfl rfl rfl rfl) ?_
  refine AL.cons rfl (AOp.box (cs := [.t (.leaf (.int .i64 (po.gPackage))), .t (.leaf (.int .i64 (po.gAt)))]) rfl rfl rfl rfl rfl) ?_
  refine AL.cons rfl (AOp.move (.inr rfl) rfl rfl) ?_
  refine AL.nil ?_
  refine AWP.seq ?_
  refine AWP.region_lit ?_
  refine AL.cons rfl (AOp.loadPtr (cs := [.t (.row 6 (GPackage.trs (pw.gPackages)))]) rfl rfl rfl rfl sh31 rfl rfl) ?_
  refine AL.cons rfl (AOp.loadPtr (cs := [.t (.leaf (.int .i64 (po.gPackage))), .t (.leaf (.int .i64 (po.gAt)))]) rfl rfl rfl rfl sh33 rfl rfl) ?_
  rcases hq1 : irelated__iMoreSpecificInstances_1_M fu pw po with _ | x2
  · skip
    have e3 : iMoreSpecificInstances_M fu pw po = none := bdN hq1
    exact none_some H e3
  · skip
    refine AL.cons rfl (AOp.callRow (ps := [_, _, _]) (rs := none) rfl rfl Tryz.func117 (by kernel_rfl) rfl rfl (by (repeat' (first | exact PV.Le.refl _ | exact LeL.nil | exact PV.Le.nil _ | exact PV.Le.acc _ _ _ | apply LeL.cons | apply PV.Le.agg | apply PV.Le.tup))) rfl rfl (irelated__iMoreSpecificInstances_1_own fu pw po _ hq1)) ?_
    refine AL.cons rfl (AOp.move (.inr rfl) rfl rfl) ?_
    refine AL.nil ?_
    refine AWP.ret ?_
    have e4 : iMoreSpecificInstances_M fu pw po = some x2 := bdS hq1 (rfl)
    have hz : x2 = r := Option.some.inj (e4.symm.trans H)
    subst hz
    exact Ends.mk (ps := [_]) (by first | exact .inr rfl | exact .inl rfl) ⟨rfl, trivial⟩ rfl (StLe.mk' (st' := ⟨[], [⟨33, 2, GInstanceRef.trs (x2), false⟩]⟩) trivial (by first | rfl | simp)) ⟨fun k x h => by simp [hC] at h, fun r row h => by simp [hC] at h⟩ (q := .acc 2 (GInstanceRef.trs (x2)) 0) (by (repeat' (first | exact PV.Le.refl _ | exact LeL.nil | exact PV.Le.nil _ | exact PV.Le.acc _ _ _ | apply LeL.cons | apply PV.Le.agg | apply PV.Le.tup))) rfl ⟨0, rfl, rfl⟩

end Go.Proofs.YtnakkelglbcecaaGreat

namespace Go.Proofs.YtnakkelglbcecaaGreat
open Go.RowKit
theorem AFun.plainR {P : Program} {f : FuncId} {args : List PV} {t : Tr} (h : AFun P f args (.t t)) {w : World} {vals : List Value} (hv : RVL0 w args vals) : Calls P f ⟨vals⟩ w fun e w' => ∃ u, e = .returned u ∧ Ext w w' ∧ Rep w' t u :=
  (h av0 lay0 w vals (sto0 w) hv).mono fun e w' => by
    rintro ⟨res, st', m', v, rfl, ⟨rfl, rfl⟩, -, he, hr⟩
    exact ⟨v, rfl, he.ext, RepM.rep hr⟩
theorem RVL0.nil {w : World} : RVL0 w [] [] := trivial
theorem RVL0.cons {w : World} {p : PV} {ps : List PV} {v : Value} {vs : List Value} (h : RV0 w p v) (k : RVL0 w ps vs) : RVL0 w (p :: ps) (v :: vs) := ⟨h, k⟩
end Go.Proofs.YtnakkelglbcecaaGreat

namespace Go.Proofs.YtnakkelglbcecaaGreat
theorem Tr.bulkL_cat : ∀ (a b : List Tr), Tr.bulkL (a ++ b) = Tr.bulkL a + Tr.bulkL b
  | [], b => by simp [Tr.bulkL]
  | t :: a, b => by simp [Tr.bulkL, Tr.bulkL_cat a b, Nat.add_assoc]
theorem cnts_of : ∀ {es : List (List Tr)}, (∀ e ∈ es, Tr.cntL e ≤ 20 + 20 * Tr.bulkL e) → Tr.cntE es ≤ 20 * es.length + 20 * Tr.bulkAll es
  | [], _ => by simp [Tr.cntE]
  | e :: r, h => by
    have h1 := cnts_of (es := r) (fun x hx => h x (List.mem_cons_of_mem _ hx))
    have h2 := h e (by simp)
    simp only [Tr.cntE, Tr.bulkAll, List.length_cons]
    omega
theorem strCnt (l : List ByteArray) : Tr.cntE (strTrs l) = l.length := by
  induction l with
  | nil => rfl
  | cons a l ih => simp only [strTrs, List.map_cons, Tr.cntE, Tr.cntL, Tr.cnt, List.length_cons] at *; omega
theorem Tr.topN_cnt : ∀ ts : List Tr, Tr.topN ts ≤ Tr.cntL ts
  | [] => by simp [Tr.topN]
  | .leaf v :: r => by have := Tr.topN_cnt r; simp only [Tr.topN, Tr.cntL, Tr.cnt]; omega
  | .row sz es :: r => by have := Tr.topN_cnt r; simp only [Tr.topN, Tr.cntL, Tr.cnt]; omega
theorem GType.cnt_le : ∀ x : GType, Tr.cntL x.tr ≤ 3 + 20 * Tr.bulkL x.tr := by
  refine GType.ind fun v0 v1 v2 ih => ?_
  have c2 : Tr.cntE (GType.trs v2) ≤ 20 * v2.length + 20 * Tr.bulkAll (GType.trs v2) := by have h := cnts_of (GType.all (l := v2) (Q := fun e => Tr.cntL e ≤ 20 + 20 * Tr.bulkL e) (fun x hx => by have := ih x hx; omega)); rw [GType.trs_len] at h; exact h
  have d2 := GType.trs_len v2
  simp only [GType.tr, Tr.cntL_append, Tr.bulkL_cat, Tr.cntL, Tr.cnt, Tr.bulkL, Tr.bulk]
  omega
theorem GType.cnts_le (l : List GType) : Tr.cntE (GType.trs l) ≤ 20 * l.length + 20 * Tr.bulkAll (GType.trs l) := by
  have h := cnts_of (GType.all (l := l) (Q := fun e => Tr.cntL e ≤ 20 + 20 * Tr.bulkL e) (fun x _ => by have := GType.cnt_le x; omega))
  rw [GType.trs_len] at h
  exact h
theorem GArm.cnt_of (x : GArm) (h : Tr.cntL x.gBody.tr ≤ 9 + 20 * Tr.bulkL x.gBody.tr) : Tr.cntL x.tr ≤ 11 + 20 * Tr.bulkL x.tr := by
  obtain ⟨v0, v1, v2⟩ := x
  have h : Tr.cntL v2.tr ≤ 9 + 20 * Tr.bulkL v2.tr := h
  have c1 := strCnt v1
  have d1 := strTrs_len v1
  simp only [GArm.tr, Tr.cntL_append, Tr.bulkL_cat, Tr.cntL, Tr.cnt, Tr.bulkL, Tr.bulk]
  omega
theorem GExpr.cnt_le : ∀ x : GExpr, Tr.cntL x.tr ≤ 9 + 20 * Tr.bulkL x.tr := by
  refine GExpr.ind fun v0 v1 v2 v3 v4 v5 v6 ih5 ih6 => ?_
  have c4 := GType.cnt_le v4
  have c5 : Tr.cntE (GExpr.trs v5) ≤ 20 * v5.length + 20 * Tr.bulkAll (GExpr.trs v5) := by have h := cnts_of (GExpr.all (l := v5) (Q := fun e => Tr.cntL e ≤ 20 + 20 * Tr.bulkL e) (fun x hx => by have := ih5 x hx; omega)); rw [GExpr.trs_len] at h; exact h
  have c6 : Tr.cntE (GArm.trs v6) ≤ 20 * v6.length + 20 * Tr.bulkAll (GArm.trs v6) := by have h := cnts_of (GArm.all (l := v6) (Q := fun e => Tr.cntL e ≤ 20 + 20 * Tr.bulkL e) (fun x hx => by have := GArm.cnt_of x (ih6 x hx); omega)); rw [GArm.trs_len] at h; exact h
  have d5 := GExpr.trs_len v5
  have d6 := GArm.trs_len v6
  simp only [GExpr.tr, Tr.cntL_append, Tr.bulkL_cat, Tr.cntL, Tr.cnt, Tr.bulkL, Tr.bulk]
  omega
theorem GBound.cnt_le (x : GBound) : Tr.cntL x.tr ≤ 4 + 20 * Tr.bulkL x.tr := by
  obtain ⟨v0, v1⟩ := x
  have c1 := GType.cnt_le v1
  simp only [GBound.tr, Tr.cntL_append, Tr.bulkL_cat, Tr.cntL, Tr.cnt, Tr.bulkL, Tr.bulk]
  omega
theorem GBound.cnts_le (l : List GBound) : Tr.cntE (GBound.trs l) ≤ 20 * l.length + 20 * Tr.bulkAll (GBound.trs l) := by
  have h := cnts_of (GBound.all (l := l) (Q := fun e => Tr.cntL e ≤ 20 + 20 * Tr.bulkL e) (fun x _ => by have := GBound.cnt_le x; omega))
  rw [GBound.trs_len] at h
  exact h
theorem GParam.cnt_le (x : GParam) : Tr.cntL x.tr ≤ 4 + 20 * Tr.bulkL x.tr := by
  obtain ⟨v0, v1⟩ := x
  have c1 := GType.cnt_le v1
  simp only [GParam.tr, Tr.cntL_append, Tr.bulkL_cat, Tr.cntL, Tr.cnt, Tr.bulkL, Tr.bulk]
  omega
theorem GParam.cnts_le (l : List GParam) : Tr.cntE (GParam.trs l) ≤ 20 * l.length + 20 * Tr.bulkAll (GParam.trs l) := by
  have h := cnts_of (GParam.all (l := l) (Q := fun e => Tr.cntL e ≤ 20 + 20 * Tr.bulkL e) (fun x _ => by have := GParam.cnt_le x; omega))
  rw [GParam.trs_len] at h
  exact h
theorem GMethod.cnt_le (x : GMethod) : Tr.cntL x.tr ≤ 11 + 20 * Tr.bulkL x.tr := by
  obtain ⟨v0, v1, v2⟩ := x
  have c1 := strCnt v1
  have d1 := strTrs_len v1
  have c2 := GExpr.cnt_le v2
  simp only [GMethod.tr, Tr.cntL_append, Tr.bulkL_cat, Tr.cntL, Tr.cnt, Tr.bulkL, Tr.bulk]
  omega
theorem GMethod.cnts_le (l : List GMethod) : Tr.cntE (GMethod.trs l) ≤ 20 * l.length + 20 * Tr.bulkAll (GMethod.trs l) := by
  have h := cnts_of (GMethod.all (l := l) (Q := fun e => Tr.cntL e ≤ 20 + 20 * Tr.bulkL e) (fun x _ => by have := GMethod.cnt_le x; omega))
  rw [GMethod.trs_len] at h
  exact h
theorem GConstructor.cnt_le (x : GConstructor) : Tr.cntL x.tr ≤ 2 + 20 * Tr.bulkL x.tr := by
  obtain ⟨v0, v1⟩ := x
  have c1 := GType.cnts_le v1
  have d1 := GType.trs_len v1
  simp only [GConstructor.tr, Tr.cntL_append, Tr.bulkL_cat, Tr.cntL, Tr.cnt, Tr.bulkL, Tr.bulk]
  omega
theorem GConstructor.cnts_le (l : List GConstructor) : Tr.cntE (GConstructor.trs l) ≤ 20 * l.length + 20 * Tr.bulkAll (GConstructor.trs l) := by
  have h := cnts_of (GConstructor.all (l := l) (Q := fun e => Tr.cntL e ≤ 20 + 20 * Tr.bulkL e) (fun x _ => by have := GConstructor.cnt_le x; omega))
  rw [GConstructor.trs_len] at h
  exact h
theorem GSignature.cnt_le (x : GSignature) : Tr.cntL x.tr ≤ 16 + 20 * Tr.bulkL x.tr := by
  obtain ⟨v0, v1, v2, v3, v4, v5⟩ := x
  have c1 := GType.cnts_le v1
  have d1 := GType.trs_len v1
  have c2 := GType.cnt_le v2
  have c4 := strCnt v4
  have d4 := strTrs_len v4
  have c5 := GExpr.cnt_le v5
  simp only [GSignature.tr, Tr.cntL_append, Tr.bulkL_cat, Tr.cntL, Tr.cnt, Tr.bulkL, Tr.bulk]
  omega
theorem GSignature.cnts_le (l : List GSignature) : Tr.cntE (GSignature.trs l) ≤ 20 * l.length + 20 * Tr.bulkAll (GSignature.trs l) := by
  have h := cnts_of (GSignature.all (l := l) (Q := fun e => Tr.cntL e ≤ 20 + 20 * Tr.bulkL e) (fun x _ => by have := GSignature.cnt_le x; omega))
  rw [GSignature.trs_len] at h
  exact h
theorem GTrait.cnt_le (x : GTrait) : Tr.cntL x.tr ≤ 5 + 20 * Tr.bulkL x.tr := by
  obtain ⟨v0, v1, v2, v3, v4⟩ := x
  have c1 := strCnt v1
  have d1 := strTrs_len v1
  have c4 := GSignature.cnts_le v4
  have d4 := GSignature.trs_len v4
  simp only [GTrait.tr, Tr.cntL_append, Tr.bulkL_cat, Tr.cntL, Tr.cnt, Tr.bulkL, Tr.bulk]
  omega
theorem GTrait.cnts_le (l : List GTrait) : Tr.cntE (GTrait.trs l) ≤ 20 * l.length + 20 * Tr.bulkAll (GTrait.trs l) := by
  have h := cnts_of (GTrait.all (l := l) (Q := fun e => Tr.cntL e ≤ 20 + 20 * Tr.bulkL e) (fun x _ => by have := GTrait.cnt_le x; omega))
  rw [GTrait.trs_len] at h
  exact h
theorem GDataType.cnt_le (x : GDataType) : Tr.cntL x.tr ≤ 3 + 20 * Tr.bulkL x.tr := by
  obtain ⟨v0, v1, v2⟩ := x
  have c1 := strCnt v1
  have d1 := strTrs_len v1
  have c2 := GConstructor.cnts_le v2
  have d2 := GConstructor.trs_len v2
  simp only [GDataType.tr, Tr.cntL_append, Tr.bulkL_cat, Tr.cntL, Tr.cnt, Tr.bulkL, Tr.bulk]
  omega
theorem GDataType.cnts_le (l : List GDataType) : Tr.cntE (GDataType.trs l) ≤ 20 * l.length + 20 * Tr.bulkAll (GDataType.trs l) := by
  have h := cnts_of (GDataType.all (l := l) (Q := fun e => Tr.cntL e ≤ 20 + 20 * Tr.bulkL e) (fun x _ => by have := GDataType.cnt_le x; omega))
  rw [GDataType.trs_len] at h
  exact h
theorem GInstance.cnt_le (x : GInstance) : Tr.cntL x.tr ≤ 12 + 20 * Tr.bulkL x.tr := by
  obtain ⟨v0, v1, v2, v3, v4, v5, v6, v7⟩ := x
  have c1 := strCnt v1
  have d1 := strTrs_len v1
  have c2 := GType.cnt_le v2
  have c3 := GBound.cnts_le v3
  have d3 := GBound.trs_len v3
  have c6 := GType.cnt_le v6
  have c7 := GMethod.cnts_le v7
  have d7 := GMethod.trs_len v7
  simp only [GInstance.tr, Tr.cntL_append, Tr.bulkL_cat, Tr.cntL, Tr.cnt, Tr.bulkL, Tr.bulk]
  omega
theorem GInstance.cnts_le (l : List GInstance) : Tr.cntE (GInstance.trs l) ≤ 20 * l.length + 20 * Tr.bulkAll (GInstance.trs l) := by
  have h := cnts_of (GInstance.all (l := l) (Q := fun e => Tr.cntL e ≤ 20 + 20 * Tr.bulkL e) (fun x _ => by have := GInstance.cnt_le x; omega))
  rw [GInstance.trs_len] at h
  exact h
theorem GFunction.cnt_le (x : GFunction) : Tr.cntL x.tr ≤ 16 + 20 * Tr.bulkL x.tr := by
  obtain ⟨v0, v1, v2, v3, v4, v5⟩ := x
  have c1 := strCnt v1
  have d1 := strTrs_len v1
  have c2 := GBound.cnts_le v2
  have d2 := GBound.trs_len v2
  have c3 := GParam.cnts_le v3
  have d3 := GParam.trs_len v3
  have c4 := GType.cnt_le v4
  have c5 := GExpr.cnt_le v5
  simp only [GFunction.tr, Tr.cntL_append, Tr.bulkL_cat, Tr.cntL, Tr.cnt, Tr.bulkL, Tr.bulk]
  omega
theorem GFunction.cnts_le (l : List GFunction) : Tr.cntE (GFunction.trs l) ≤ 20 * l.length + 20 * Tr.bulkAll (GFunction.trs l) := by
  have h := cnts_of (GFunction.all (l := l) (Q := fun e => Tr.cntL e ≤ 20 + 20 * Tr.bulkL e) (fun x _ => by have := GFunction.cnt_le x; omega))
  rw [GFunction.trs_len] at h
  exact h
theorem GPackage.cnt_le (x : GPackage) : Tr.cntL x.tr ≤ 6 + 20 * Tr.bulkL x.tr := by
  obtain ⟨v0, v1, v2, v3, v4, v5⟩ := x
  have c1 := strCnt v1
  have d1 := strTrs_len v1
  have c2 := GTrait.cnts_le v2
  have d2 := GTrait.trs_len v2
  have c3 := GDataType.cnts_le v3
  have d3 := GDataType.trs_len v3
  have c4 := GInstance.cnts_le v4
  have d4 := GInstance.trs_len v4
  have c5 := GFunction.cnts_le v5
  have d5 := GFunction.trs_len v5
  simp only [GPackage.tr, Tr.cntL_append, Tr.bulkL_cat, Tr.cntL, Tr.cnt, Tr.bulkL, Tr.bulk]
  omega
theorem GPackage.cnts_le (l : List GPackage) : Tr.cntE (GPackage.trs l) ≤ 20 * l.length + 20 * Tr.bulkAll (GPackage.trs l) := by
  have h := cnts_of (GPackage.all (l := l) (Q := fun e => Tr.cntL e ≤ 20 + 20 * Tr.bulkL e) (fun x _ => by have := GPackage.cnt_le x; omega))
  rw [GPackage.trs_len] at h
  exact h
theorem GProgram.cnt_le (x : GProgram) : Tr.cntL x.tr ≤ 1 + 20 * Tr.bulkL x.tr := by
  obtain ⟨v0⟩ := x
  have c0 := GPackage.cnts_le v0
  have d0 := GPackage.trs_len v0
  simp only [GProgram.tr, Tr.cntL_append, Tr.bulkL_cat, Tr.cntL, Tr.cnt, Tr.bulkL, Tr.bulk]
  omega
theorem GProgram.top_le (x : GProgram) : Tr.topN x.tr ≤ 20 + 20 * Tr.bulkL x.tr := by
  have h1 := Tr.topN_cnt x.tr
  have h2 := GProgram.cnt_le x
  omega
end Go.Proofs.YtnakkelglbcecaaGreat

namespace Go.Proofs.YtnakkelglbcecaaGreat
set_option linter.unusedSimpArgs false
set_option linter.unusedVariables false
open Go.RowKit Go.WalkArith
attribute [local irreducible] lt

theorem wrap64_id {x : Int} (h0 : 0 ≤ x) (h1 : x < 9223372036854775807) : wrap64 x = x := by
  unfold wrap64 IntKind.wrap
  simp [IntKind.bits, IntKind.signed]
  omega
section
variable {α β : Type} {g : Nat → List α} {M : Nat}
theorem loopN_app {F : Nat → List α → Option (LR (List α) β)} {n : Nat} (hs : ∀ j v, j < n → v.length + (g j).length ≤ M → F j v = some (.next (v ++ g j))) :
    ∀ (k j : Nat) (v : List α), n - j = k → v.length + ((List.range' j k).flatMap g).length ≤ M → loopN F (n - j) j v = some (.inr (v ++ (List.range' j k).flatMap g))
  | 0, j, v, hk, _ => by rw [loopN_all (by omega)]; simp
  | k + 1, j, v, hk, hl => by
    have hj : j < n := by omega
    rw [List.range'_succ, List.flatMap_cons, List.length_append] at hl
    rw [loopN_step hj (hs j v hj (by omega)), loopN_app hs k (j + 1) (v ++ g j) (by omega) (by rw [List.length_append]; omega), List.range'_succ, List.flatMap_cons, List.append_assoc]
theorem loopN_app0 {F : Nat → List α → Option (LR (List α) β)} {n : Nat} (hs : ∀ j v, j < n → v.length + (g j).length ≤ M → F j v = some (.next (v ++ g j))) {v : List α} (hl : v.length + ((List.range' 0 n).flatMap g).length ≤ M) : loopN F (n - 0) 0 v = some (.inr (v ++ (List.range' 0 n).flatMap g)) := loopN_app hs n 0 v rfl hl
theorem loopW_app {F : List α × Int → Option (LR (List α × Int) β)} {n : Nat} (hs : ∀ (j : Nat) v, j < n → v.length + (g j).length ≤ M → F (v, (j : Int)) = some (.next (v ++ g j, ((j + 1 : Nat) : Int)))) (he : ∀ v, F (v, (n : Int)) = some (.brk (v, (n : Int)))) :
    ∀ (k j fu : Nat) (v : List α), n - j = k → j ≤ n → k < fu → v.length + ((List.range' j k).flatMap g).length ≤ M → loopW F fu (v, (j : Int)) = some (.inr (v ++ (List.range' j k).flatMap g, (n : Int)))
  | 0, j, fu, v, hk, hj, hf, _ => by
    obtain ⟨f, rfl⟩ : ∃ f, fu = f + 1 := ⟨fu - 1, by omega⟩
    obtain rfl : j = n := by omega
    rw [loopW, he]
    simp
  | k + 1, j, fu, v, hk, hj, hf, hl => by
    obtain ⟨f, rfl⟩ : ∃ f, fu = f + 1 := ⟨fu - 1, by omega⟩
    rw [List.range'_succ, List.flatMap_cons, List.length_append] at hl
    rw [loopW, hs j v (by omega) (by omega)]
    have h := loopW_app hs he k (j + 1) f (v ++ g j) (by omega) (by omega) (by omega) (by rw [List.length_append]; omega)
    rw [List.range'_succ, List.flatMap_cons, ← List.append_assoc]
    exact h
theorem flat_mem : ∀ {l : List Nat} {i : Nat}, i ∈ l → (g i).length ≤ (l.flatMap g).length
  | a :: l, i, h => by
    rw [List.flatMap_cons, List.length_append]
    rcases List.mem_cons.1 h with rfl | h
    · omega
    · have := flat_mem h
      omega
theorem flat_le1 (h : ∀ i, (g i).length ≤ 1) : ∀ l : List Nat, (l.flatMap g).length ≤ l.length
  | [] => by simp
  | a :: l => by
    have h1 := flat_le1 h l
    have h2 := h a
    rw [List.flatMap_cons, List.length_append, List.length_cons]
    omega
theorem flat_one {h : Nat → α} : ∀ l : List Nat, (l.flatMap fun k => [h k]).length = l.length
  | [] => by simp
  | a :: l => by
    have h1 := flat_one (h := h) l
    rw [List.flatMap_cons, List.length_append, List.length_cons, h1]
    simp
    omega
end
def GProgram.refsAt (w : GProgram) (i : Nat) : List GInstanceRef := (List.range' 0 (atD w.gPackages i).gInstances.length).flatMap fun (k : Nat) => [GInstanceRef.mk (i : Int) (k : Int)]
def GProgram.allRefs (w : GProgram) : List GInstanceRef := (List.range' 0 w.gPackages.length).flatMap w.refsAt
theorem GProgram.refsAt_len (w : GProgram) (i : Nat) : (w.refsAt i).length = (atD w.gPackages i).gInstances.length := by
  unfold GProgram.refsAt
  rw [flat_one, List.length_range']
theorem iAllInstances_fn (fu : Nat) (w : GProgram) (hw : w.allRefs.length ≤ 68719476736) : iAllInstances_M fu w = some w.allRefs := by
  unfold iAllInstances_M iAllInstances_R1
  have h := loopN_app0 (F := iAllInstances_F1 fu w) (n := w.gPackages.length) (g := w.refsAt) (M := 68719476736) (v := []) (fun i v hi hv => by
    have h2 := loopN_app0 (F := iAllInstances_F2 fu w i v (atD w.gPackages i)) (n := (atD w.gPackages i).gInstances.length) (g := fun (k : Nat) => [GInstanceRef.mk (i : Int) (k : Int)]) (M := 68719476736) (v := v) (fun k u hk hu => by unfold iAllInstances_F2; exact gdT hu rfl) hv
    unfold iAllInstances_F1
    exact ltE rfl (soR h2 rfl)) (by rw [List.length_nil, Nat.zero_add]; exact hw)
  exact soR h rfl
theorem sAllInstances_fn (fu : Nat) (w : GProgram) (hw : w.allRefs.length ≤ 68719476736) (hf : w.allRefs.length < fu) : sAllInstances_M fu w = some w.allRefs := by
  unfold sAllInstances_M sAllInstances_R1
  have h := loopN_app0 (F := sAllInstances_F1 fu w) (n := w.gPackages.length) (g := w.refsAt) (M := 68719476736) (v := []) (fun i v hi hv => by
    have hle := flat_mem (g := w.refsAt) (l := List.range' 0 w.gPackages.length) (i := i) (by rw [List.mem_range'_1]; omega)
    have hle : (w.refsAt i).length ≤ w.allRefs.length := hle
    rw [GProgram.refsAt_len] at hle
    have h2 := loopW_app (F := sAllInstances_F2 fu w i v) (n := (atD w.gPackages i).gInstances.length) (g := fun (k : Nat) => [GInstanceRef.mk (i : Int) (k : Int)]) (M := 68719476736) (fun j u hj hu => by
        unfold sAllInstances_F2
        refine ltE rfl (swT (decide_eq_true (by omega)) (gdT hu ?_))
        rw [wrap64_id (by omega) (by omega)]
        rfl) (fun u => by
        unfold sAllInstances_F2
        exact ltE rfl (swF (decide_eq_false (by omega)) rfl)) (atD w.gPackages i).gInstances.length 0 fu v (by omega) (by omega) (by omega) hv
    unfold sAllInstances_F1
    exact soR h2 rfl) (by rw [List.length_nil, Nat.zero_add]; exact hw)
  exact soR h rfl
def GProgram.relC (w : GProgram) (o : GInstanceRef) (p : GType → GType → Bool) (r : GInstanceRef) : Bool :=
  !(decide ((r.gPackage : Int) = o.gPackage) && decide ((r.gAt : Int) = o.gAt)) && (decide ((oInst (GProgram.instAt w r)).gTrait = (oInst (GProgram.instAt w o)).gTrait) && p (oInst (GProgram.instAt w o)).gHead (oInst (GProgram.instAt w r)).gHead)
def GProgram.relG (w : GProgram) (o : GInstanceRef) (p : GType → GType → Bool) (i : Nat) : List GInstanceRef := bif w.relC o p (atD w.allRefs i) then [atD w.allRefs i] else []
def GProgram.relOf (w : GProgram) (o : GInstanceRef) (p : GType → GType → Bool) : List GInstanceRef := bif (GProgram.instAt w o).isSome then (List.range' 0 w.allRefs.length).flatMap (w.relG o p) else []
theorem GProgram.relG_len (w : GProgram) (o : GInstanceRef) (p : GType → GType → Bool) : ((List.range' 0 w.allRefs.length).flatMap (w.relG o p)).length ≤ w.allRefs.length := by
  have h := flat_le1 (g := w.relG o p) (fun i => by unfold GProgram.relG; cases w.relC o p (atD w.allRefs i) <;> simp) (List.range' 0 w.allRefs.length)
  rwa [List.length_range'] at h
theorem GProgram.relOf_len (w : GProgram) (o : GInstanceRef) (p : GType → GType → Bool) : (w.relOf o p).length ≤ w.allRefs.length := by
  unfold GProgram.relOf
  cases (GProgram.instAt w o).isSome
  · simp
  · exact w.relG_len o p
theorem irelMoreSpecificInstances_fn (fu : Nat) (w : GProgram) (o : GInstanceRef) (hw : w.allRefs.length ≤ 68719476736) (hB : ∀ r, Tr.bulkL (oInst (GProgram.instAt w r)).gHead.tr ≤ 68719476735) : iMoreSpecificInstances_M fu w o = some (w.relOf o (fun x y => matchB x y)) := by
  unfold iMoreSpecificInstances_M
  refine bdS (a := w.relOf o (fun x y => matchB x y)) ?_ rfl
  unfold irelated__iMoreSpecificInstances_1_M GProgram.relOf
  cases hs : (GProgram.instAt w o).isSome with
  | false => exact swT rfl rfl
  | true =>
    refine swF rfl (bdS (iAllInstances_fn fu w hw) ?_)
    have h := loopN_app0 (F := irelated__iMoreSpecificInstances_1_F1 fu w o w.allRefs) (n := w.allRefs.length) (g := w.relG o (fun x y => matchB x y)) (M := 68719476736) (v := []) (fun i v hi hv => by
      unfold irelated__iMoreSpecificInstances_1_F1
      unfold GProgram.relG at hv ⊢
      cases h1 : (decide ((((atD w.allRefs i)).gPackage : Int) = o.gPackage) && decide (((atD w.allRefs i).gAt : Int) = o.gAt)) with
      | true =>
        have hc : w.relC o (fun x y => matchB x y) (atD w.allRefs i) = false := by unfold GProgram.relC; rw [h1]; rfl
        rw [hc]
        exact swF rfl (by rw [cond_false, List.append_nil])
      | false =>
        cases h2 : decide ((oInst (GProgram.instAt w (atD w.allRefs i))).gTrait = (oInst (GProgram.instAt w o)).gTrait) with
        | false =>
          have hc : w.relC o (fun x y => matchB x y) (atD w.allRefs i) = false := by unfold GProgram.relC; rw [h1, h2]; rfl
          rw [hc]
          exact swT rfl (swF rfl (by rw [cond_false, List.append_nil]))
        | true =>
          cases h3 : matchB (oInst (GProgram.instAt w o)).gHead (oInst (GProgram.instAt w (atD w.allRefs i))).gHead with
          | false =>
            have hc : w.relC o (fun x y => matchB x y) (atD w.allRefs i) = false := by unfold GProgram.relC; rw [h1, h2]; show (!false && (true && matchB (oInst (GProgram.instAt w o)).gHead (oInst (GProgram.instAt w (atD w.allRefs i))).gHead)) = false; rw [h3]; rfl
            rw [hc]
            have hm : iMoreSpecificInstances_1_M fu ((oInst (GProgram.instAt w o)).gHead) ((oInst (GProgram.instAt w (atD w.allRefs i))).gHead) = some false := by unfold iMoreSpecificInstances_1_M; exact gdT (hB _) (gdT (hB _) (by rw [h3]))
            exact swT rfl (swT rfl (bdS hm (swF rfl (by rw [cond_false, List.append_nil]))))
          | true =>
            have hc : w.relC o (fun x y => matchB x y) (atD w.allRefs i) = true := by unfold GProgram.relC; rw [h1, h2]; show (!false && (true && matchB (oInst (GProgram.instAt w o)).gHead (oInst (GProgram.instAt w (atD w.allRefs i))).gHead)) = true; rw [h3]; rfl
            rw [hc] at hv ⊢
            have hm : iMoreSpecificInstances_1_M fu ((oInst (GProgram.instAt w o)).gHead) ((oInst (GProgram.instAt w (atD w.allRefs i))).gHead) = some true := by unfold iMoreSpecificInstances_1_M; exact gdT (hB _) (gdT (hB _) (by rw [h3]))
            exact swT rfl (swT rfl (bdS hm (swT rfl (gdT hv rfl))))) (by have := w.relG_len o (fun x y => matchB x y); rw [List.length_nil]; omega)
    exact soR h rfl
theorem sSide_fn (fu : Nat) (w : GProgram) (o : GInstanceRef) (b : Bool) (hw : w.allRefs.length ≤ 68719476736) (hf : w.allRefs.length < fu) (hB : ∀ r, Tr.bulkL (oInst (GProgram.instAt w r)).gHead.tr ≤ 68719476735) : sl22Side_M fu w o b = some (w.relOf o (fun x y => bif b then matchB y x else matchB x y)) := by
  unfold sl22Side_M sl22Side_R1 GProgram.relOf
  refine bdS (sAllInstances_fn fu w hw hf) ?_
  cases hs : (GProgram.instAt w o).isSome with
  | false =>
    have h : loopN (sl22Side_F1 fu w o b w.allRefs) (w.allRefs.length - 0) 0 [] = some (.inr []) := by
      cases hn : w.allRefs.length with
      | zero => rfl
      | succ n =>
        rw [show n + 1 - 0 = n + 1 from rfl, loopN]
        have he : sl22Side_F1 fu w o b w.allRefs 0 [] = some (.brk []) := by unfold sl22Side_F1; exact swF hs rfl
        rw [he]
    exact soR h rfl
  | true =>
    have h := loopN_app0 (F := sl22Side_F1 fu w o b w.allRefs) (n := w.allRefs.length) (g := w.relG o (fun x y => bif b then matchB y x else matchB x y)) (M := 68719476736) (v := []) (fun i v hi hv => by
      unfold sl22Side_F1
      unfold GProgram.relG at hv ⊢
      cases h1 : (decide ((((atD w.allRefs i)).gPackage : Int) = o.gPackage) && decide (((atD w.allRefs i).gAt : Int) = o.gAt)) with
      | true =>
        have hc : w.relC o (fun x y => bif b then matchB y x else matchB x y) (atD w.allRefs i) = false := by unfold GProgram.relC; rw [h1]; rfl
        rw [hc]
        exact swT hs (swT rfl (by rw [cond_false, List.append_nil]))
      | false =>
        cases h2 : decide ((oInst (GProgram.instAt w (atD w.allRefs i))).gTrait = (oInst (GProgram.instAt w o)).gTrait) with
        | false =>
          have hc : w.relC o (fun x y => bif b then matchB y x else matchB x y) (atD w.allRefs i) = false := by unfold GProgram.relC; rw [h1, h2]; rfl
          rw [hc]
          exact swT hs (swF rfl (swT rfl (by rw [cond_false, List.append_nil])))
        | true =>
          cases h3 : (bif b then matchB (oInst (GProgram.instAt w (atD w.allRefs i))).gHead (oInst (GProgram.instAt w o)).gHead else matchB (oInst (GProgram.instAt w o)).gHead (oInst (GProgram.instAt w (atD w.allRefs i))).gHead) with
          | false =>
            have hc : w.relC o (fun x y => bif b then matchB y x else matchB x y) (atD w.allRefs i) = false := by unfold GProgram.relC; rw [h1, h2]; exact (congrArg (fun z => !false && (true && z)) h3).trans rfl
            rw [hc]
            cases b with
            | true => exact swT hs (swF rfl (swF rfl (swT rfl (gdT (hB _) (gdT (hB _) (swF h3 (by rw [cond_false, List.append_nil])))))))
            | false => exact swT hs (swF rfl (swF rfl (swF rfl (gdT (hB _) (gdT (hB _) (swF h3 (by rw [cond_false, List.append_nil])))))))
          | true =>
            have hc : w.relC o (fun x y => bif b then matchB y x else matchB x y) (atD w.allRefs i) = true := by unfold GProgram.relC; rw [h1, h2]; exact (congrArg (fun z => !false && (true && z)) h3).trans rfl
            rw [hc] at hv ⊢
            cases b with
            | true => exact swT hs (swF rfl (swF rfl (swT rfl (gdT (hB _) (gdT (hB _) (swT h3 (gdT hv rfl)))))))
            | false => exact swT hs (swF rfl (swF rfl (swF rfl (gdT (hB _) (gdT (hB _) (swT h3 (gdT hv rfl)))))))) (by have := w.relG_len o (fun x y => bif b then matchB y x else matchB x y); rw [List.length_nil]; omega)
    exact soR h rfl
theorem bulk_all : ∀ {es : List (List Tr)} {e : List Tr}, e ∈ es → Tr.bulkL e ≤ Tr.bulkAll es
  | a :: es, e, h => by
    rw [Tr.bulkAll]
    rcases List.mem_cons.1 h with rfl | h
    · omega
    · have := bulk_all h
      omega
theorem GPackage.inst_bulk (p : GPackage) : p.gInstances.length + Tr.bulkAll (GInstance.trs p.gInstances) ≤ Tr.bulkL p.tr := by
  rw [GPackage.tr_cs]
  simp only [GPackage.cs, Tr.bulkL, Tr.bulk, GInstance.trs_len]
  omega
theorem GProgram.pkg_bulk (w : GProgram) : Tr.bulkAll (GPackage.trs w.gPackages) ≤ Tr.bulkL w.tr := by
  rw [GProgram.tr_cs]
  simp only [GProgram.cs, Tr.bulkL, Tr.bulk]
  omega
theorem GInstance.head_bulk (x : GInstance) : Tr.bulkL x.gHead.tr ≤ Tr.bulkL x.tr := by
  obtain ⟨v0, v1, v2, v3, v4, v5, v6, v7⟩ := x
  simp only [GInstance.tr, Tr.bulkL_cat, Tr.bulkL, Tr.bulk, GInstance.gHead_mk]
  omega
theorem GProgram.refs_bulk (w : GProgram) : ∀ (k j : Nat), w.gPackages.length - j = k → ((List.range' j k).flatMap w.refsAt).length ≤ Tr.bulkAll (GPackage.trs (w.gPackages.drop j))
  | 0, j, hk => by simp
  | k + 1, j, hk => by
    have hj : j < w.gPackages.length := by omega
    have h := GProgram.refs_bulk w k (j + 1) (by omega)
    have h1 := GPackage.inst_bulk (atD w.gPackages j)
    rw [GPackage.trs_map] at h
    rw [List.range'_succ, List.flatMap_cons, List.length_append, GProgram.refsAt_len, drop_atD hj, GPackage.trs_map, List.map_cons, Tr.bulkAll]
    omega
theorem GProgram.allRefs_bulk (w : GProgram) : w.allRefs.length ≤ Tr.bulkL w.tr := by
  have h := GProgram.refs_bulk w w.gPackages.length 0 rfl
  rw [List.drop_zero] at h
  exact Nat.le_trans h w.pkg_bulk
theorem GProgram.inst_head_bulk (w : GProgram) (r : GInstanceRef) : Tr.bulkL (oInst (GProgram.instAt w r)).gHead.tr ≤ Tr.bulkL w.tr := by
  cases hq : GProgram.instAt w r with
  | none => exact Nat.zero_le _
  | some x =>
    unfold GProgram.instAt at hq
    split at hq
    · cases hp : w.gPackages[r.gPackage.toNat]? with
      | none => rw [hp] at hq; cases hq
      | some p =>
        rw [hp] at hq
        have hq : p.gInstances[r.gAt.toNat]? = some x := hq
        have h1 := bulk_all (es := GPackage.trs w.gPackages) (e := p.tr) (by rw [GPackage.trs_map]; exact List.mem_map_of_mem (List.mem_of_getElem? hp))
        have h2 := bulk_all (es := GInstance.trs p.gInstances) (e := x.tr) (by rw [GInstance.trs_map]; exact List.mem_map_of_mem (List.mem_of_getElem? hq))
        have h3 := GPackage.inst_bulk p
        have h4 := w.pkg_bulk
        have h5 := x.head_bulk
        show Tr.bulkL x.gHead.tr ≤ _
        omega
    · cases hq
theorem refTrs_flat (l : List GInstanceRef) : ∀ e ∈ GInstanceRef.trs l, ∀ d ∈ e, ∃ u, d = .leaf u := by
  intro e he d hd
  rw [GInstanceRef.trs_map] at he
  obtain ⟨x, _, rfl⟩ := List.mem_map.1 he
  obtain ⟨a, b⟩ := x
  simp only [GInstanceRef.tr, List.mem_append, List.mem_singleton, List.not_mem_nil, or_false] at hd
  rcases hd with rfl | rfl
  · exact ⟨_, rfl⟩
  · exact ⟨_, rfl⟩
theorem refCnt (l : List GInstanceRef) : Tr.cntE (GInstanceRef.trs l) = 2 * l.length := by
  induction l with
  | nil => rfl
  | cons a l ih =>
    obtain ⟨x, y⟩ := a
    rw [GInstanceRef.trs_map] at *
    simp only [List.map_cons, Tr.cntE, List.length_cons, GInstanceRef.tr, Tr.cntL_append, Tr.cntL, Tr.cnt]
    omega
theorem relMoreSpecificInstancesP_impl (x0 : GProgram) (x1 : GInstanceRef) (w : World) (c0 c1 : List Value) (h0 : RepL w x0.tr c0) (h1 : RepL w x1.tr c1) (hb : Tr.bulkL x0.tr ≤ 68719476735) : Calls Tryz.prog 65 #[.agg ⟨c0⟩, .agg ⟨c1⟩] w fun e w' => ∃ v, e = .returned v ∧ Ext w w' ∧ Own w' (.row 2 (GInstanceRef.trs (x0.relOf x1 (fun x y => matchB x y)))) v (Between w w') := by
  rw [GProgram.tr_cs] at h0
  rw [GInstanceRef.tr_cs] at h1
  have hr := x0.allRefs_bulk
  exact (iMoreSpecificInstances_own 0 x0 x1 _ (irelMoreSpecificInstances_fn 0 x0 x1 (by omega) (fun r => by have := x0.inst_head_bulk r; omega))).own (refTrs_flat _) (RVL0.cons (RV0.agg h0) (RVL0.cons (RV0.agg h1) RVL0.nil))
theorem relMoreSpecificInstancesP_spec (x0 : GProgram) (x1 : GInstanceRef) (w : World) (c0 c1 : List Value) (h0 : RepL w x0.tr c0) (h1 : RepL w x1.tr c1) (hb : Tr.bulkL x0.tr ≤ 68719476735) : Calls Tryz.prog 64 #[.agg ⟨c0⟩, .agg ⟨c1⟩] w fun e w' => ∃ v, e = .returned v ∧ Ext w w' ∧ Rep w' (.row 2 (GInstanceRef.trs (x0.relOf x1 (fun x y => matchB x y)))) v := by
  rw [GProgram.tr_cs] at h0
  rw [GInstanceRef.tr_cs] at h1
  have hr := x0.allRefs_bulk
  have hm : sMoreSpecificInstances_M (x0.allRefs.length + 1) x0 x1 = some (x0.relOf x1 (fun x y => matchB x y)) := bdS (sSide_fn _ x0 x1 false (by omega) (by omega) (fun r => by have := x0.inst_head_bulk r; omega)) rfl
  exact (sMoreSpecificInstances_ok _ x0 x1 _ hm).plainR (RVL0.cons (RV0.agg h0) (RVL0.cons (RV0.agg h1) RVL0.nil))
end Go.Proofs.YtnakkelglbcecaaGreat
