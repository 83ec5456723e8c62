/- Words, rules and walks of several kinds, laid together: MaMatch, PlMatch. No conditions but those that each theorem states. -/
import Derived.Test.YtnakkelglbcecaaGreatQhb2f830cf
import Derived.Test.YtnakkelglbcecaaGreatQh2ecc459e
import Derived.Test.YtnakkelglbcecaaGreatQhacf58ee8
import Derived.Test.YtnakkelglbcecaaGreatQh122dace5
import Derived.Test.YtnakkelglbcecaaGreatQh64859010
set_option linter.unusedSimpArgs false
set_option linter.unusedVariables false
namespace Go.Proofs.YtnakkelglbcecaaGreat
open Go.RowKit Go.Proofs
set_option linter.unusedSimpArgs false
set_option linter.unusedVariables false

noncomputable def sLookup_F1 (fu : Nat) (plist : List GBinding) (pv : ByteArray) : Nat → Unit → Option (LR Unit (GType × Bool)) :=
 fun i2 _ => sw (decide ((atD plist i2).gVar = pv))
 (gd (Tr.bulkL (GType.tr ((atD plist i2).gType)) ≤ 68719476735)
 (some (.ret (((atD plist i2).gType), true))))
 (some (.next ()))
noncomputable def sLookup_R1 (fu : Nat) (plist : List GBinding) (pv : ByteArray) : Option ((GType × Bool) ⊕ Unit) :=
 loopN (sLookup_F1 fu plist pv) (plist.length - 0) 0 ()
noncomputable def sLookup_M (fu : Nat)  (plist : List GBinding) (pv : ByteArray) : Option (GType × Bool) :=
 so (sLookup_R1 fu plist pv) (fun _ =>
 some ((GType.mk 0 (⟨#[]⟩) []), false))
set_option maxRecDepth 100000 in
set_option maxHeartbeats 4000000 in
theorem sLookup_ok  (fu : Nat)  (plist : List GBinding) (pv : ByteArray) (r : GType × Bool) (H : sLookup_M fu plist pv = some r) : AFun Tryz.prog 157 [.t (.row 4 (GBinding.trs (plist))), .t (.leaf (.string (pv)))] (.tup [(GType.pv r.1), .t (.leaf (.bool (r.2)))] : PV) := by
  refine ACalls.intro Tryz.func157 rfl (by first | decide | (simp; done) | (simp; decide)) ?_
  intro C hC
  refine AWP.fact (lk_lenN 0 rfl rfl (GBinding.trs_len _)) (fun hl1 => ?_)
  refine AWP.seq ?_
  refine AWP.region_lit ?_
  refine AL.cons rfl (AOp.alloc rfl rfl zr47) ?_
  refine AL.cons rfl (AOp.move (.inr rfl) rfl rfl) ?_
  refine AL.nil ?_
  refine AWP.seq ?_
  refine AWP.seq ?_
  refine AWP.region_lit ?_
  refine AL.cons rfl (AOp.move (.inr rfl) rfl rfl) ?_
  refine AL.nil ?_
  refine AWP.cut (ι := Unit) (fun _ => sLookup_R1 fu plist pv = some (.inr ())) (fun _ => ⟨[(4, .ptr 0 0), (5, .t (.leaf (.bool (false))))], ⟨[some ⟨47, [.t (.leaf (.int .i64 (0))), .t (.leaf (.string (⟨#[]⟩))), .nil]⟩], []⟩⟩) (by repeat' (first | exact qcEnds | exact ncAWP | exact ncRound | exact ncEx | apply qcThen | apply qcBlock | apply qcCut)) ?_ ?_
  · skip
    refine AWP.block ?_
    refine AWP.loopR (ι := Nat × Unit) (fun (i2, _) => sLookup_R1 fu plist pv = loopN (sLookup_F1 fu plist pv) (plist.length - i2) i2 ()) (fun (i2, _) => ⟨[(0, .t (.row 4 (GBinding.trs (plist)))), (1, .t (.leaf (.string (pv)))), (4, .ptr 0 0), (5, .t (.leaf (.bool (false)))), (6, .t (.leaf (.int .i64 (((i2 : Nat) : Int)))))], ⟨[some ⟨47, [.t (.leaf (.int .i64 (0))), .t (.leaf (.string (⟨#[]⟩))), .nil]⟩], []⟩⟩) (fun (i2, _) => plist.length - i2) (0, ()) ?_ ?_ ?_
    · exact rfl
    · skip
      exact Wk.mk (StLe.mk' ⟨⟨rfl, by (repeat' (first | exact PV.Le.refl _ | exact LeL.nil | exact PV.Le.nil _ | exact PV.Le.acc _ _ _ | apply LeL.cons | apply PV.Le.agg | apply PV.Le.tup)), rfl⟩, trivial⟩ rfl) (keeps_nil hC) ⟨⟨_, rfl, .refl _, rfl⟩, ⟨⟨_, rfl, .refl _, rfl⟩, ⟨⟨_, rfl, .refl _, rfl⟩, ⟨⟨_, rfl, .refl _, rfl⟩, ⟨⟨_, rfl, by (repeat' (first | exact PV.Le.refl _ | exact LeL.nil | exact PV.Le.nil _ | exact PV.Le.acc _ _ _ | apply LeL.cons | apply PV.Le.agg | apply PV.Le.tup)), rfl⟩, trivial⟩⟩⟩⟩⟩
    · rintro ⟨i2, ⟨⟩⟩ hJ3
      refine AWP.seq ?_
      refine AWP.seq ?_
      refine AWP.region_lit ?_
      refine AL.cons rfl (AOp.move (.inl rfl) rfl rfl) ?_
      refine AL.cons rfl (AOp.move (.inl rfl) rfl rfl) ?_
      refine AL.cons rfl (AOp.lenN rfl rfl rfl rfl el138 (GBinding.trs_len _)) ?_
      refine AL.cons rfl (AOp.lss rfl rfl rfl rfl) ?_
      refine AL.nil ?_
      refine AWP.cond rfl (fun h4 => ?_) (fun h4 => ?_)
      · skip
        have h4l : i2 < plist.length := nat_lt_of2 h4
        have h4n := nat_lt_of h4
        refine AWP.skip ?_
        refine AWP.seq ?_
        refine AWP.block ?_
        refine AWP.seq ?_
        refine AWP.region_lit ?_
        refine AL.cons rfl (AOp.move (.inl rfl) rfl rfl) ?_
        refine AL.cons rfl (AOp.move (.inl rfl) rfl rfl) ?_
        refine AL.cons rfl (AOp.index (k := i2) rfl rfl rfl rfl rfl (GBinding.trs_at h4n) el138) ?_
        refine AL.cons rfl (AOp.fieldEptr (cs := (GBinding.cs (atD plist i2))) (e := 0) rfl rfl rfl fo225_0) ?_
        refine AL.cons rfl (AOp.loadEptr1 (d := .leaf (.string ((atD plist i2).gVar))) rfl rfl rfl sh9 rfl) ?_
        refine AL.cons rfl (AOp.move (.inl rfl) rfl rfl) ?_
        refine AL.cons rfl (AOp.eqlS rfl rfl rfl rfl) ?_
        refine AL.nil ?_
        refine AWP.cond rfl (fun h5 => ?_) (fun h5 => ?_)
        · skip
          refine AWP.seq ?_
          refine AWP.region_lit ?_
          refine AL.cons rfl (AOp.move (.inl rfl) rfl rfl) ?_
          refine AL.cons rfl (AOp.move (.inl rfl) rfl rfl) ?_
          refine AL.cons rfl (AOp.index (k := i2) rfl rfl rfl rfl rfl (GBinding.trs_at h4n) el138) ?_
          refine AL.cons rfl (AOp.fieldEptr (cs := (GBinding.cs (atD plist i2))) (e := 1) rfl rfl rfl fo225_1) ?_
          refine AL.cons rfl (AOp.loadEptr (ds := [.leaf (.int .i64 (((atD plist i2).gType).gKind)), .leaf (.string (((atD plist i2).gType).gName)), .row 3 (GType.trs (((atD plist i2).gType).gArgs))]) rfl rfl rfl sh47 rfl rfl) ?_
          rcases Classical.em (Tr.bulkL (GType.tr ((atD plist i2).gType)) ≤ 68719476735) with hg6 | hg6
          · skip
            refine AL.cons rfl (AOp.callF (res := (GType.pv ((atD plist i2).gType))) (ps := [_]) rfl rfl Tryz.func110 (by kernel_rfl) rfl rfl (by (repeat' (first | exact PV.Le.refl _ | exact LeL.nil | exact PV.Le.nil _ | exact PV.Le.acc _ _ _ | apply LeL.cons | apply PV.Le.agg | apply PV.Le.tup))) rfl rfl (sl4Copy_fn ((atD plist i2).gType) hg6)) ?_
            refine AL.cons rfl (AOp.storePtr (cs := [.t (.leaf (.int .i64 (((atD plist i2).gType).gKind))), .t (.leaf (.string (((atD plist i2).gType).gName))), .t (.row 3 (GType.trs (((atD plist i2).gType).gArgs)))]) (ds := [.t (.leaf (.int .i64 (((atD plist i2).gType).gKind))), .t (.leaf (.string (((atD plist i2).gType).gName))), .t (.row 3 (GType.trs (((atD plist i2).gType).gArgs)))]) rfl rfl rfl rfl rfl rfl rfl sz47 (Nat.le_of_ble_eq_true rfl) rfl) ?_
            refine AL.cons rfl (AOp.move (.inr rfl) rfl rfl) ?_
            refine AL.nil ?_
            refine AWP.ret ?_
            have e7 : (sLookup_F1 fu plist pv) i2 () = some (.ret (((atD plist i2).gType), true)) := swT h5 (gdT hg6 (rfl))
            have e8 : sLookup_R1 fu plist pv = some (.inl (((atD plist i2).gType), true)) := loopN_ret h4l hJ3 e7
            have e9 : sLookup_M fu plist pv = some (((atD plist i2).gType), true) := soL e8
            have hz : (((atD plist i2).gType), true) = r := Option.some.inj (e9.symm.trans H)
            subst hz
            exact Ends.mk (ps := [_, _]) (by first | exact .inr rfl | exact .inl rfl) ⟨⟨_, _, _, rfl, rfl, sh47, rfl, rfl⟩, rfl, trivial⟩ rfl (StLe.mk' (st' := ⟨[], []⟩) trivial rfl) (keeps_nil hC) (q := (.tup [(GType.pv ((atD plist i2).gType)), .t (.leaf (.bool (true)))] : PV)) (by (repeat' (first | exact PV.Le.refl _ | exact LeL.nil | exact PV.Le.nil _ | exact PV.Le.acc _ _ _ | apply LeL.cons | apply PV.Le.agg | apply PV.Le.tup))) rfl ⟨rfl, rfl⟩
          · skip
            have e10 : (sLookup_F1 fu plist pv) i2 () = none := swT h5 (gdF hg6)
            have e11 : sLookup_R1 fu plist pv = none := loopN_non h4l hJ3 e10
            have e12 : sLookup_M fu plist pv = none := soN e11
            exact none_some H e12
        · skip
          refine AWP.skip ?_
          refine AWP.region_lit ?_
          refine AL.cons rfl (AOp.move (.inl rfl) rfl rfl) ?_
          refine AL.cons rfl (AOp.addI rfl rfl rfl rfl (c := ((i2 + 1 : Nat) : Int)) (by omega) (by omega)) ?_
          refine AL.cons rfl (AOp.move (.inr rfl) rfl rfl) ?_
          refine AL.nil ?_
          have e13 : (sLookup_F1 fu plist pv) i2 () = some (.next ()) := swF h5 (rfl)
          refine ⟨(i2 + 1, ()), loopN_next h4l hJ3 e13, ?_, ?_⟩
          · skip
            exact Wk.mk (StLe.mk' ⟨⟨rfl, by (repeat' (first | exact PV.Le.refl _ | exact LeL.nil | exact PV.Le.nil _ | exact PV.Le.acc _ _ _ | apply LeL.cons | apply PV.Le.agg | apply PV.Le.tup)), rfl⟩, trivial⟩ rfl) (keeps_nil hC) ⟨⟨_, rfl, .refl _, rfl⟩, ⟨⟨_, rfl, .refl _, rfl⟩, ⟨⟨_, rfl, .refl _, rfl⟩, ⟨⟨_, rfl, .refl _, rfl⟩, ⟨⟨_, rfl, by (repeat' (first | exact PV.Le.refl _ | exact LeL.nil | exact PV.Le.nil _ | exact PV.Le.acc _ _ _ | apply LeL.cons | apply PV.Le.agg | apply PV.Le.tup)), rfl⟩, trivial⟩⟩⟩⟩⟩
          · dsimp only; omega
      · skip
        have h4l : plist.length ≤ i2 := nat_ge_of2 h4
        refine AWP.exit ?_
        refine ⟨(), loopN_end h4l hJ3, ?_⟩
        exact Wk.mk (StLe.mk' ⟨⟨rfl, by (repeat' (first | exact PV.Le.refl _ | exact LeL.nil | exact PV.Le.nil _ | exact PV.Le.acc _ _ _ | apply LeL.cons | apply PV.Le.agg | apply PV.Le.tup)), rfl⟩, trivial⟩ rfl) (keeps_nil hC) ⟨⟨_, rfl, .refl _, rfl⟩, ⟨⟨_, rfl, .refl _, rfl⟩, trivial⟩⟩
  · rintro ⟨⟩ hR14
    refine AWP.seq ?_
    refine AWP.region_lit ?_
    refine AL.cons rfl (AOp.build rfl rfl zr47 pl47 rfl rfl) ?_
    refine AL.cons rfl (AOp.storePtr (cs := [.t (.leaf (.int .i64 (0))), .t (.leaf (.string (⟨#[]⟩))), .nil]) (ds := [.t (.leaf (.int .i64 (0))), .t (.leaf (.string (⟨#[]⟩))), .nil]) rfl rfl rfl rfl rfl rfl rfl sz47 (Nat.le_of_ble_eq_true rfl) rfl) ?_
    refine AL.cons rfl (AOp.move (.inr rfl) rfl rfl) ?_
    refine AL.nil ?_
    refine AWP.ret ?_
    have e15 : sLookup_M fu plist pv = some ((GType.mk 0 (⟨#[]⟩) []), false) := soR hR14 (rfl)
    have hz : ((GType.mk 0 (⟨#[]⟩) []), false) = r := Option.some.inj (e15.symm.trans H)
    subst hz
    exact Ends.mk (ps := [_, _]) (by first | exact .inr rfl | exact .inl rfl) ⟨⟨_, _, _, rfl, rfl, sh47, rfl, rfl⟩, rfl, trivial⟩ rfl (StLe.mk' (st' := ⟨[], []⟩) trivial rfl) (keeps_nil hC) (q := (.tup [(GType.pv (GType.mk 0 (⟨#[]⟩) [])), .t (.leaf (.bool (false)))] : PV)) (by (repeat' (first | exact PV.Le.refl _ | exact LeL.nil | exact PV.Le.nil _ | exact PV.Le.acc _ _ _ | apply LeL.cons | apply PV.Le.agg | apply PV.Le.tup))) rfl ⟨rfl, rfl⟩

noncomputable def sl7All_F1 (fu : Nat) (r_sl7All : (List GType) → (List GType) → (List GBinding) → Option ((List GBinding) × Bool × (List GBinding))) (r_sl7Match : GType → GType → (List GBinding) → Option ((List GBinding) × Bool × (List GBinding))) (pp : List GType) (pall : List GType) (plist : List GBinding) : Nat → ((List GBinding)) → Option (LR ((List GBinding)) ((List GBinding) × Bool × (List GBinding))) :=
 fun i4 v6 => gd (i4 < (pall).length)
 (bd (r_sl7Match (atD pp i4) (atD pall i4) v6) (fun (x11, x12, x13) =>
 sw (x12)
 (gd (x11 = x13)
 (some (.next x11)))
 (some (.ret (v6, false, x13)))))
noncomputable def sl7All_R1 (fu : Nat) (r_sl7All : (List GType) → (List GType) → (List GBinding) → Option ((List GBinding) × Bool × (List GBinding))) (r_sl7Match : GType → GType → (List GBinding) → Option ((List GBinding) × Bool × (List GBinding))) (pp : List GType) (pall : List GType) (plist : List GBinding) : Option (((List GBinding) × Bool × (List GBinding)) ⊕ ((List GBinding))) :=
 loopN (sl7All_F1 fu r_sl7All r_sl7Match pp pall plist) (pp.length - 0) 0 plist
noncomputable def sl7All_G (fu : Nat) (r_sl7All : (List GType) → (List GType) → (List GBinding) → Option ((List GBinding) × Bool × (List GBinding))) (r_sl7Match : GType → GType → (List GBinding) → Option ((List GBinding) × Bool × (List GBinding))) (pp : List GType) (pall : List GType) (plist : List GBinding) : Option ((List GBinding) × Bool × (List GBinding)) :=
 so (sl7All_R1 fu r_sl7All r_sl7Match pp pall plist) (fun v6 =>
 some (v6, true, v6))
set_option maxRecDepth 100000 in
set_option maxHeartbeats 4000000 in
theorem sl7All_step (r_sl7All : (List GType) → (List GType) → (List GBinding) → Option ((List GBinding) × Bool × (List GBinding))) (r_sl7Match : GType → GType → (List GBinding) → Option ((List GBinding) × Bool × (List GBinding))) (fu : Nat) (h_sl7All : ∀ (pp : List GType) (pall : List GType) (plist : List GBinding) (r : (List GBinding) × Bool × (List GBinding)), r_sl7All pp pall plist = some r → ACalls Tryz.prog 199 [.t (.row 3 (GType.trs (pp))), .t (.row 3 (GType.trs (pall))), .acc 4 (GBinding.trs (plist)) 0] ⟨[], [⟨225, 4, GBinding.trs (plist), false⟩]⟩ (fun q t => q = (.tup [(bif r.2.1 then .acc 4 (GBinding.trs (r.1)) 0 else .t (.row 4 (GBinding.trs (r.1)))), .t (.leaf (.bool (r.2.1)))] : PV) ∧ t = ⟨[], [⟨225, 4, GBinding.trs (r.2.2), false⟩]⟩)) (h_sl7Match : ∀ (pp : GType) (pt : GType) (plist : List GBinding) (r : (List GBinding) × Bool × (List GBinding)), r_sl7Match pp pt plist = some r → ACalls Tryz.prog 214 [(GType.pv pp), (GType.pv pt), .acc 4 (GBinding.trs (plist)) 0] ⟨[], [⟨225, 4, GBinding.trs (plist), false⟩]⟩ (fun q t => q = (.tup [(bif r.2.1 then .acc 4 (GBinding.trs (r.1)) 0 else .t (.row 4 (GBinding.trs (r.1)))), .t (.leaf (.bool (r.2.1)))] : PV) ∧ t = ⟨[], [⟨225, 4, GBinding.trs (r.2.2), false⟩]⟩)) (pp : List GType) (pall : List GType) (plist : List GBinding) (r : (List GBinding) × Bool × (List GBinding)) (H : sl7All_G fu r_sl7All r_sl7Match pp pall plist = some r) : ACalls Tryz.prog 199 [.t (.row 3 (GType.trs (pp))), .t (.row 3 (GType.trs (pall))), .acc 4 (GBinding.trs (plist)) 0] ⟨[], [⟨225, 4, GBinding.trs (plist), false⟩]⟩ (fun q t => q = (.tup [(bif r.2.1 then .acc 4 (GBinding.trs (r.1)) 0 else .t (.row 4 (GBinding.trs (r.1)))), .t (.leaf (.bool (r.2.1)))] : PV) ∧ t = ⟨[], [⟨225, 4, GBinding.trs (r.2.2), false⟩]⟩) := by
  refine ACalls.intro Tryz.func199 rfl (by first | decide | (simp; done) | (simp; decide)) ?_
  intro C hC
  refine AWP.fact (lk_lenN 0 rfl rfl (GType.trs_len _)) (fun hl1 => ?_)
  refine AWP.fact (lk_lenN 1 rfl rfl (GType.trs_len _)) (fun hl2 => ?_)
  refine AWP.fact (lk_lenN 2 rfl rfl (GBinding.trs_len _)) (fun hl3 => ?_)
  refine AWP.seq ?_
  refine AWP.region_lit ?_
  refine AL.cons rfl (AOp.move (.inr rfl) rfl rfl) ?_
  refine AL.cons rfl (AOp.move (.inr rfl) rfl rfl) ?_
  refine AL.nil ?_
  refine AWP.seq ?_
  refine AWP.seq ?_
  refine AWP.region_lit ?_
  refine AL.cons rfl (AOp.move (.inr rfl) rfl rfl) ?_
  refine AL.nil ?_
  refine AWP.cut (ι := (List GBinding)) (fun v6 => sl7All_R1 fu r_sl7All r_sl7Match pp pall plist = some (.inr v6)) (fun v6 => ⟨[(2, .acc 4 (GBinding.trs (v6)) 0), (6, .nil), (7, .t (.leaf (.bool (false))))], ⟨[], [⟨225, 4, GBinding.trs (v6), false⟩]⟩⟩) (by repeat' (first | exact qcEnds | exact ncAWP | exact ncRound | exact ncEx | apply qcThen | apply qcBlock | apply qcCut)) ?_ ?_
  · skip
    refine AWP.block ?_
    refine AWP.loopR (ι := Nat × ((List GBinding))) (fun (i4, v6) => sl7All_R1 fu r_sl7All r_sl7Match pp pall plist = loopN (sl7All_F1 fu r_sl7All r_sl7Match pp pall plist) (pp.length - i4) i4 v6) (fun (i4, v6) => ⟨[(0, .t (.row 3 (GType.trs (pp)))), (1, .t (.row 3 (GType.trs (pall)))), (2, .acc 4 (GBinding.trs (v6)) 0), (6, .nil), (7, .t (.leaf (.bool (false)))), (8, .t (.leaf (.int .i64 (((i4 : Nat) : Int)))))], ⟨[], [⟨225, 4, GBinding.trs (v6), false⟩]⟩⟩) (fun (i4, v6) => pp.length - i4) (0, plist) ?_ ?_ ?_
    · exact rfl
    · skip
      exact Wk.mk (StLe.mk' trivial (by first | rfl | simp)) (keeps_all hC (boxes0) (Nat.le_of_ble_eq_true rfl)) ⟨⟨_, rfl, .refl _, rfl⟩, ⟨⟨_, rfl, .refl _, rfl⟩, ⟨⟨_, rfl, by (repeat' (first | exact PV.Le.refl _ | exact LeL.nil | exact PV.Le.nil _ | exact PV.Le.acc _ _ _ | apply LeL.cons | apply PV.Le.agg | apply PV.Le.tup)), rfl⟩, ⟨⟨_, rfl, .refl _, rfl⟩, ⟨⟨_, rfl, .refl _, rfl⟩, ⟨⟨_, rfl, by (repeat' (first | exact PV.Le.refl _ | exact LeL.nil | exact PV.Le.nil _ | exact PV.Le.acc _ _ _ | apply LeL.cons | apply PV.Le.agg | apply PV.Le.tup)), rfl⟩, trivial⟩⟩⟩⟩⟩⟩
    · rintro ⟨i4, v6⟩ hJ7
      refine AWP.seq ?_
      refine AWP.seq ?_
      refine AWP.region_lit ?_
      refine AL.cons rfl (AOp.move (.inl rfl) rfl rfl) ?_
      refine AL.cons rfl (AOp.move (.inl rfl) rfl rfl) ?_
      refine AL.cons rfl (AOp.lenN rfl rfl rfl rfl el45 (GType.trs_len _)) ?_
      refine AL.cons rfl (AOp.lss rfl rfl rfl rfl) ?_
      refine AL.nil ?_
      refine AWP.cond rfl (fun h8 => ?_) (fun h8 => ?_)
      · skip
        have h8l : i4 < pp.length := nat_lt_of2 h8
        have h8n := nat_lt_of h8
        refine AWP.skip ?_
        refine AWP.seq ?_
        refine AWP.block ?_
        refine AWP.seq ?_
        rcases Classical.em (i4 < (pall).length) with hg9 | hg9
        · skip
          rcases hq10 : r_sl7Match (atD pp i4) (atD pall i4) v6 with _ | ⟨x11, x12, x13⟩
          · skip
            have e14 : (sl7All_F1 fu r_sl7All r_sl7Match pp pall plist) i4 v6 = none := gdT hg9 (bdN hq10)
            have e15 : sl7All_R1 fu r_sl7All r_sl7Match pp pall plist = none := loopN_non h8l hJ7 e14
            have e16 : sl7All_G fu r_sl7All r_sl7Match pp pall plist = none := soN e15
            exact none_some H e16
          · skip
            cases x12
            · skip
              refine AWP.drawnL ⟨_, _, fun j' _ => ([(⟨[], [⟨225, 4, GBinding.trs (v6), false⟩]⟩ : Sto), (⟨[], [⟨225, 4, GBinding.trs (x13), false⟩]⟩ : Sto)] : List Sto).getD j' (⟨[], [⟨225, 4, GBinding.trs (x13), false⟩]⟩ : Sto), fun q' => ([some (.t (.row 3 (GType.trs (pp)))), some (.t (.leaf (.int .i64 (((i4 : Nat) : Int))))), some (.eptr (GType.cs (atD pp i4))), some ((GType.pv (atD pp i4))), some (.t (.row 3 (GType.trs (pall)))), some (.t (.leaf (.int .i64 (((i4 : Nat) : Int))))), some (.eptr (GType.cs (atD pall i4))), some ((GType.pv (atD pall i4))), some (.acc 4 (GBinding.trs (v6)) 0), some (.tup [.t (.row 4 (GBinding.trs (x11))), .t (.leaf (.bool (false)))]), some (.tup [.t (.row 4 (GBinding.trs (x11))), .t (.leaf (.bool (false)))]), some (.t (.row 4 (GBinding.trs (x11)))), some (.t (.leaf (.bool (false)))), some (.t (.row 4 (GBinding.trs (x11)))), some (.t (.leaf (.bool (false))))] : List (Option PV)).getD q' none, fun q' => ([.q 0 0, .q 0 0, .q 0 0, .q 0 0, .q 0 0, .q 0 0, .q 0 0, .q 0 0, .q 0 0, .ef 0, .q 1 1, .q 1 1, .q 1 1, .q 1 1, .q 1 1] : List DK).getD q' (.q 0 0), [9], none, fun q' => ([[(0, none)], [(8, none)], [(18, some 0), (19, some 1)], [(20, some 2)], [(1, none)], [(8, none)], [(22, some 4), (23, some 5)], [(24, some 6)], [(2, none)], [(26, some 8), (25, some 7), (21, some 3)], [(27, some 9)], [(17, some 10)], [(17, some 10)], [(28, some 11)], [(29, some 12)]] : List (List (Nat × Option Nat))).getD q' []⟩ rfl mixed (by kernel_rfl) rfl rfl ⟨?_, ?_, ?_, ?_, ?_, ?_, ?_, ?_, ?_, ?_, ?_, ?_, ?_, ?_, ?_, trivial⟩ rfl ?_
              · refine .inl ⟨rfl, fun s' jj bb (h1 : 0 ≤ jj) (h2 : jj ≤ 0) hs hl => ?_⟩
                obtain rfl : jj = 0 := by omega
                exact ⟨_, rfl, AOp.move (.inl rfl) rfl (hl 0 none _ (.head _) rfl)⟩
              · refine .inl ⟨rfl, fun s' jj bb (h1 : 0 ≤ jj) (h2 : jj ≤ 0) hs hl => ?_⟩
                obtain rfl : jj = 0 := by omega
                exact ⟨_, rfl, AOp.move (.inl rfl) rfl (hl 8 none _ (.head _) rfl)⟩
              · refine .inl ⟨rfl, fun s' jj bb (h1 : 0 ≤ jj) (h2 : jj ≤ 0) hs hl => ?_⟩
                obtain rfl : jj = 0 := by omega
                exact ⟨_, rfl, AOp.index (k := i4) rfl rfl (hl 18 (some 0) _ (.head _) rfl) rfl (hl 19 (some 1) _ (.tail _ (.head _)) rfl) (GType.trs_at h8n) el45⟩
              · refine .inl ⟨rfl, fun s' jj bb (h1 : 0 ≤ jj) (h2 : jj ≤ 0) hs hl => ?_⟩
                obtain rfl : jj = 0 := by omega
                exact ⟨_, rfl, AOp.loadEptr (ds := [.leaf (.int .i64 ((atD pp i4).gKind)), .leaf (.string ((atD pp i4).gName)), .row 3 (GType.trs ((atD pp i4).gArgs))]) rfl rfl (hl 20 (some 2) _ (.head _) rfl) sh47 rfl rfl⟩
              · refine .inl ⟨rfl, fun s' jj bb (h1 : 0 ≤ jj) (h2 : jj ≤ 0) hs hl => ?_⟩
                obtain rfl : jj = 0 := by omega
                exact ⟨_, rfl, AOp.move (.inl rfl) rfl (hl 1 none _ (.head _) rfl)⟩
              · refine .inl ⟨rfl, fun s' jj bb (h1 : 0 ≤ jj) (h2 : jj ≤ 0) hs hl => ?_⟩
                obtain rfl : jj = 0 := by omega
                exact ⟨_, rfl, AOp.move (.inl rfl) rfl (hl 8 none _ (.head _) rfl)⟩
              · refine .inl ⟨rfl, fun s' jj bb (h1 : 0 ≤ jj) (h2 : jj ≤ 0) hs hl => ?_⟩
                obtain rfl : jj = 0 := by omega
                exact ⟨_, rfl, AOp.index (k := i4) rfl rfl (hl 22 (some 4) _ (.head _) rfl) rfl (hl 23 (some 5) _ (.tail _ (.head _)) rfl) (GType.trs_at hg9) el45⟩
              · refine .inl ⟨rfl, fun s' jj bb (h1 : 0 ≤ jj) (h2 : jj ≤ 0) hs hl => ?_⟩
                obtain rfl : jj = 0 := by omega
                exact ⟨_, rfl, AOp.loadEptr (ds := [.leaf (.int .i64 ((atD pall i4).gKind)), .leaf (.string ((atD pall i4).gName)), .row 3 (GType.trs ((atD pall i4).gArgs))]) rfl rfl (hl 24 (some 6) _ (.head _) rfl) sh47 rfl rfl⟩
              · refine .inl ⟨rfl, fun s' jj bb (h1 : 0 ≤ jj) (h2 : jj ≤ 0) hs hl => ?_⟩
                obtain rfl : jj = 0 := by omega
                exact ⟨_, rfl, AOp.move (.inl rfl) rfl (hl 2 none _ (.head _) rfl)⟩
              · refine .inl ⟨rfl, fun s' bb hs hl => ?_⟩
                refine .inl ⟨_, rfl, AOp.congr (AOp.callPE (pre := ⟨[], [⟨225, 4, GBinding.trs (v6), false⟩]⟩) (st' := ⟨[], [⟨225, 4, GBinding.trs (x13), false⟩]⟩) (ps := [_, _, _]) (qs := [(GType.pv (atD pp i4)), (GType.pv (atD pall i4)), .acc 4 (GBinding.trs (v6)) 0]) [] [0] rfl rfl Tryz.func214 (by kernel_rfl) rfl (evs_cons (hl 21 (some 3) _ (.tail _ (.tail _ (.head _))) rfl) (evs_cons (hl 25 (some 7) _ (.tail _ (.head _)) rfl) (evs_cons (hl 26 (some 8) _ (.head _) rfl) rfl))) hs (by (try rw [hs]); exact Part0.of trivial ⟨rfl, trivial⟩ (by decide) (by decide)) (by (repeat' (first | exact PV.Le.refl _ | exact LeL.nil | exact PV.Le.nil _ | exact PV.Le.acc _ _ _ | apply LeL.cons | apply PV.Le.agg | apply PV.Le.tup))) rfl rfl rfl (h_sl7Match (atD pp i4) (atD pall i4) v6 _ hq10)) ?_⟩
                first | (rw [hs]; rfl) | rfl
              · refine .inl ⟨rfl, fun s' jj bb (h1 : 1 ≤ jj) (h2 : jj ≤ 1) hs hl => ?_⟩
                obtain rfl : jj = 1 := by omega
                exact ⟨_, rfl, AOp.move (.inl rfl) rfl (hl 27 (some 9) _ (.head _) rfl)⟩
              · refine .inl ⟨rfl, fun s' jj bb (h1 : 1 ≤ jj) (h2 : jj ≤ 1) hs hl => ?_⟩
                obtain rfl : jj = 1 := by omega
                exact ⟨_, rfl, AOp.extract rfl rfl (hl 17 (some 10) _ (.head _) rfl) rfl⟩
              · refine .inl ⟨rfl, fun s' jj bb (h1 : 1 ≤ jj) (h2 : jj ≤ 1) hs hl => ?_⟩
                obtain rfl : jj = 1 := by omega
                exact ⟨_, rfl, AOp.extract rfl rfl (hl 17 (some 10) _ (.head _) rfl) rfl⟩
              · refine .inl ⟨rfl, fun s' jj bb (h1 : 1 ≤ jj) (h2 : jj ≤ 1) hs hl => ?_⟩
                obtain rfl : jj = 1 := by omega
                exact ⟨_, rfl, AOp.move (.inr rfl) rfl (hl 28 (some 11) _ (.head _) rfl)⟩
              · refine .inl ⟨rfl, fun s' jj bb (h1 : 1 ≤ jj) (h2 : jj ≤ 1) hs hl => ?_⟩
                obtain rfl : jj = 1 := by omega
                exact ⟨_, rfl, AOp.move (.inr rfl) rfl (hl 29 (some 12) _ (.head _) rfl)⟩
              refine AWP.seq ?_
              refine AWP.seq ?_
              refine AWP.region_lit ?_
              refine AL.cons rfl (AOp.move (.inl rfl) rfl rfl) ?_
              refine AL.cons rfl (AOp.notB rfl rfl rfl) ?_
              refine AL.nil ?_
              refine AWP.cond rfl (fun h17 => ?_) (fun h17 => ?_)
              · skip
                refine AWP.seq ?_
                refine AWP.region_lit ?_
                refine AL.cons rfl (AOp.move (.inl rfl) rfl rfl) ?_
                refine AL.cons rfl (AOp.move (.inr rfl) rfl rfl) ?_
                refine AL.cons rfl (AOp.move (.inr rfl) rfl rfl) ?_
                refine AL.nil ?_
                refine AWP.ret ?_
                have e18 : (sl7All_F1 fu r_sl7All r_sl7Match pp pall plist) i4 v6 = some (.ret (v6, false, x13)) := gdT hg9 (bdS hq10 (swF rfl (rfl)))
                have e19 : sl7All_R1 fu r_sl7All r_sl7Match pp pall plist = some (.inl (v6, false, x13)) := loopN_ret h8l hJ7 e18
                have e20 : sl7All_G fu r_sl7All r_sl7Match pp pall plist = some (v6, false, x13) := soL e19
                have hz : (v6, false, x13) = r := Option.some.inj (e20.symm.trans H)
                subst hz
                exact Ends.mk (ps := [_, _]) (by first | exact .inr rfl | exact .inl rfl) ⟨rfl, rfl, trivial⟩ rfl (StLe.mk' (st' := ⟨[], [⟨225, 4, GBinding.trs (x13), false⟩]⟩) trivial (by first | rfl | simp)) (keeps_all hC (boxes0) (Nat.le_of_ble_eq_true rfl)) (q := (.tup [(bif false then .acc 4 (GBinding.trs (v6)) 0 else .t (.row 4 (GBinding.trs (v6)))), .t (.leaf (.bool (false)))] : PV)) (by (repeat' (first | exact PV.Le.refl _ | exact LeL.nil | exact PV.Le.nil _ | exact PV.Le.acc _ _ _ | apply LeL.cons | apply PV.Le.agg | apply PV.Le.tup))) rfl ⟨rfl, rfl⟩
              · skip
                exact absurd (h17.symm.trans (congrArg (fun b => !b) (rfl : false = false))) (by decide)
            · skip
              rcases Classical.em (x11 = x13) with hg21 | hg21
              · skip
                have hg21c := hg21
                subst hg21
                refine AWP.drawnL ⟨_, _, fun j' _ => ([(⟨[], [⟨225, 4, GBinding.trs (v6), false⟩]⟩ : Sto), (⟨[], [⟨225, 4, GBinding.trs (x11), false⟩]⟩ : Sto)] : List Sto).getD j' (⟨[], [⟨225, 4, GBinding.trs (x11), false⟩]⟩ : Sto), fun q' => ([some (.t (.row 3 (GType.trs (pp)))), some (.t (.leaf (.int .i64 (((i4 : Nat) : Int))))), some (.eptr (GType.cs (atD pp i4))), some ((GType.pv (atD pp i4))), some (.t (.row 3 (GType.trs (pall)))), some (.t (.leaf (.int .i64 (((i4 : Nat) : Int))))), some (.eptr (GType.cs (atD pall i4))), some ((GType.pv (atD pall i4))), some (.acc 4 (GBinding.trs (v6)) 0), some (.tup [.acc 4 (GBinding.trs (x11)) 0, .t (.leaf (.bool (true)))]), some (.tup [.acc 4 (GBinding.trs (x11)) 0, .t (.leaf (.bool (true)))]), some (.acc 4 (GBinding.trs (x11)) 0), some (.t (.leaf (.bool (true)))), some (.acc 4 (GBinding.trs (x11)) 0), some (.t (.leaf (.bool (true))))] : List (Option PV)).getD q' none, fun q' => ([.q 0 0, .q 0 0, .q 0 0, .q 0 0, .q 0 0, .q 0 0, .q 0 0, .q 0 0, .q 0 0, .ef 0, .q 1 1, .q 1 1, .q 1 1, .q 1 1, .q 1 1] : List DK).getD q' (.q 0 0), [9], none, fun q' => ([[(0, none)], [(8, none)], [(18, some 0), (19, some 1)], [(20, some 2)], [(1, none)], [(8, none)], [(22, some 4), (23, some 5)], [(24, some 6)], [(2, none)], [(26, some 8), (25, some 7), (21, some 3)], [(27, some 9)], [(17, some 10)], [(17, some 10)], [(28, some 11)], [(29, some 12)]] : List (List (Nat × Option Nat))).getD q' []⟩ rfl mixed (by kernel_rfl) rfl rfl ⟨?_, ?_, ?_, ?_, ?_, ?_, ?_, ?_, ?_, ?_, ?_, ?_, ?_, ?_, ?_, trivial⟩ rfl ?_
                · refine .inl ⟨rfl, fun s' jj bb (h1 : 0 ≤ jj) (h2 : jj ≤ 0) hs hl => ?_⟩
                  obtain rfl : jj = 0 := by omega
                  exact ⟨_, rfl, AOp.move (.inl rfl) rfl (hl 0 none _ (.head _) rfl)⟩
                · refine .inl ⟨rfl, fun s' jj bb (h1 : 0 ≤ jj) (h2 : jj ≤ 0) hs hl => ?_⟩
                  obtain rfl : jj = 0 := by omega
                  exact ⟨_, rfl, AOp.move (.inl rfl) rfl (hl 8 none _ (.head _) rfl)⟩
                · refine .inl ⟨rfl, fun s' jj bb (h1 : 0 ≤ jj) (h2 : jj ≤ 0) hs hl => ?_⟩
                  obtain rfl : jj = 0 := by omega
                  exact ⟨_, rfl, AOp.index (k := i4) rfl rfl (hl 18 (some 0) _ (.head _) rfl) rfl (hl 19 (some 1) _ (.tail _ (.head _)) rfl) (GType.trs_at h8n) el45⟩
                · refine .inl ⟨rfl, fun s' jj bb (h1 : 0 ≤ jj) (h2 : jj ≤ 0) hs hl => ?_⟩
                  obtain rfl : jj = 0 := by omega
                  exact ⟨_, rfl, AOp.loadEptr (ds := [.leaf (.int .i64 ((atD pp i4).gKind)), .leaf (.string ((atD pp i4).gName)), .row 3 (GType.trs ((atD pp i4).gArgs))]) rfl rfl (hl 20 (some 2) _ (.head _) rfl) sh47 rfl rfl⟩
                · refine .inl ⟨rfl, fun s' jj bb (h1 : 0 ≤ jj) (h2 : jj ≤ 0) hs hl => ?_⟩
                  obtain rfl : jj = 0 := by omega
                  exact ⟨_, rfl, AOp.move (.inl rfl) rfl (hl 1 none _ (.head _) rfl)⟩
                · refine .inl ⟨rfl, fun s' jj bb (h1 : 0 ≤ jj) (h2 : jj ≤ 0) hs hl => ?_⟩
                  obtain rfl : jj = 0 := by omega
                  exact ⟨_, rfl, AOp.move (.inl rfl) rfl (hl 8 none _ (.head _) rfl)⟩
                · refine .inl ⟨rfl, fun s' jj bb (h1 : 0 ≤ jj) (h2 : jj ≤ 0) hs hl => ?_⟩
                  obtain rfl : jj = 0 := by omega
                  exact ⟨_, rfl, AOp.index (k := i4) rfl rfl (hl 22 (some 4) _ (.head _) rfl) rfl (hl 23 (some 5) _ (.tail _ (.head _)) rfl) (GType.trs_at hg9) el45⟩
                · refine .inl ⟨rfl, fun s' jj bb (h1 : 0 ≤ jj) (h2 : jj ≤ 0) hs hl => ?_⟩
                  obtain rfl : jj = 0 := by omega
                  exact ⟨_, rfl, AOp.loadEptr (ds := [.leaf (.int .i64 ((atD pall i4).gKind)), .leaf (.string ((atD pall i4).gName)), .row 3 (GType.trs ((atD pall i4).gArgs))]) rfl rfl (hl 24 (some 6) _ (.head _) rfl) sh47 rfl rfl⟩
                · refine .inl ⟨rfl, fun s' jj bb (h1 : 0 ≤ jj) (h2 : jj ≤ 0) hs hl => ?_⟩
                  obtain rfl : jj = 0 := by omega
                  exact ⟨_, rfl, AOp.move (.inl rfl) rfl (hl 2 none _ (.head _) rfl)⟩
                · refine .inl ⟨rfl, fun s' bb hs hl => ?_⟩
                  refine .inl ⟨_, rfl, AOp.congr (AOp.callPE (pre := ⟨[], [⟨225, 4, GBinding.trs (v6), false⟩]⟩) (st' := ⟨[], [⟨225, 4, GBinding.trs (x11), false⟩]⟩) (ps := [_, _, _]) (qs := [(GType.pv (atD pp i4)), (GType.pv (atD pall i4)), .acc 4 (GBinding.trs (v6)) 0]) [] [0] rfl rfl Tryz.func214 (by kernel_rfl) rfl (evs_cons (hl 21 (some 3) _ (.tail _ (.tail _ (.head _))) rfl) (evs_cons (hl 25 (some 7) _ (.tail _ (.head _)) rfl) (evs_cons (hl 26 (some 8) _ (.head _) rfl) rfl))) hs (by (try rw [hs]); exact Part0.of trivial ⟨rfl, trivial⟩ (by decide) (by decide)) (by (repeat' (first | exact PV.Le.refl _ | exact LeL.nil | exact PV.Le.nil _ | exact PV.Le.acc _ _ _ | apply LeL.cons | apply PV.Le.agg | apply PV.Le.tup))) rfl rfl rfl (h_sl7Match (atD pp i4) (atD pall i4) v6 _ hq10)) ?_⟩
                  first | (rw [hs]; rfl) | rfl
                · refine .inl ⟨rfl, fun s' jj bb (h1 : 1 ≤ jj) (h2 : jj ≤ 1) hs hl => ?_⟩
                  obtain rfl : jj = 1 := by omega
                  exact ⟨_, rfl, AOp.move (.inl rfl) rfl (hl 27 (some 9) _ (.head _) rfl)⟩
                · refine .inl ⟨rfl, fun s' jj bb (h1 : 1 ≤ jj) (h2 : jj ≤ 1) hs hl => ?_⟩
                  obtain rfl : jj = 1 := by omega
                  exact ⟨_, rfl, AOp.extract rfl rfl (hl 17 (some 10) _ (.head _) rfl) rfl⟩
                · refine .inl ⟨rfl, fun s' jj bb (h1 : 1 ≤ jj) (h2 : jj ≤ 1) hs hl => ?_⟩
                  obtain rfl : jj = 1 := by omega
                  exact ⟨_, rfl, AOp.extract rfl rfl (hl 17 (some 10) _ (.head _) rfl) rfl⟩
                · refine .inl ⟨rfl, fun s' jj bb (h1 : 1 ≤ jj) (h2 : jj ≤ 1) hs hl => ?_⟩
                  obtain rfl : jj = 1 := by omega
                  exact ⟨_, rfl, AOp.move (.inr rfl) rfl (hl 28 (some 11) _ (.head _) rfl)⟩
                · refine .inl ⟨rfl, fun s' jj bb (h1 : 1 ≤ jj) (h2 : jj ≤ 1) hs hl => ?_⟩
                  obtain rfl : jj = 1 := by omega
                  exact ⟨_, rfl, AOp.move (.inr rfl) rfl (hl 29 (some 12) _ (.head _) rfl)⟩
                refine AWP.seq ?_
                refine AWP.seq ?_
                refine AWP.region_lit ?_
                refine AL.cons rfl (AOp.move (.inl rfl) rfl rfl) ?_
                refine AL.cons rfl (AOp.notB rfl rfl rfl) ?_
                refine AL.nil ?_
                refine AWP.cond rfl (fun h22 => ?_) (fun h22 => ?_)
                · skip
                  exact absurd (h22.symm.trans (congrArg (fun b => !b) (rfl : true = true))) (by decide)
                · skip
                  refine AWP.skip ?_
                  refine AWP.region_lit ?_
                  refine AL.cons rfl (AOp.move (.inl rfl) rfl rfl) ?_
                  refine AL.cons rfl (AOp.move (.inr rfl) rfl rfl) ?_
                  refine AL.nil ?_
                  refine AWP.region_lit ?_
                  refine AL.cons rfl (AOp.move (.inl rfl) rfl rfl) ?_
                  refine AL.cons rfl (AOp.addI rfl rfl rfl rfl (c := ((i4 + 1 : Nat) : Int)) (by omega) (by omega)) ?_
                  refine AL.cons rfl (AOp.move (.inr rfl) rfl rfl) ?_
                  refine AL.nil ?_
                  have e23 : (sl7All_F1 fu r_sl7All r_sl7Match pp pall plist) i4 v6 = some (.next x11) := gdT hg9 (bdS hq10 (swT rfl (gdT hg21c (rfl))))
                  refine ⟨(i4 + 1, x11), loopN_next h8l hJ7 e23, ?_, ?_⟩
                  · skip
                    exact Wk.mk (StLe.mk' trivial (by first | rfl | simp)) (keeps_all hC (boxes0) (Nat.le_of_ble_eq_true rfl)) ⟨⟨_, rfl, .refl _, rfl⟩, ⟨⟨_, rfl, .refl _, rfl⟩, ⟨⟨_, rfl, by (repeat' (first | exact PV.Le.refl _ | exact LeL.nil | exact PV.Le.nil _ | exact PV.Le.acc _ _ _ | apply LeL.cons | apply PV.Le.agg | apply PV.Le.tup)), rfl⟩, ⟨⟨_, rfl, .refl _, rfl⟩, ⟨⟨_, rfl, .refl _, rfl⟩, ⟨⟨_, rfl, by (repeat' (first | exact PV.Le.refl _ | exact LeL.nil | exact PV.Le.nil _ | exact PV.Le.acc _ _ _ | apply LeL.cons | apply PV.Le.agg | apply PV.Le.tup)), rfl⟩, trivial⟩⟩⟩⟩⟩⟩
                  · dsimp only; omega
              · skip
                have e24 : (sl7All_F1 fu r_sl7All r_sl7Match pp pall plist) i4 v6 = none := gdT hg9 (bdS hq10 (swT rfl (gdF hg21)))
                have e25 : sl7All_R1 fu r_sl7All r_sl7Match pp pall plist = none := loopN_non h8l hJ7 e24
                have e26 : sl7All_G fu r_sl7All r_sl7Match pp pall plist = none := soN e25
                exact none_some H e26
        · skip
          have e27 : (sl7All_F1 fu r_sl7All r_sl7Match pp pall plist) i4 v6 = none := gdF hg9
          have e28 : sl7All_R1 fu r_sl7All r_sl7Match pp pall plist = none := loopN_non h8l hJ7 e27
          have e29 : sl7All_G fu r_sl7All r_sl7Match pp pall plist = none := soN e28
          exact none_some H e29
      · skip
        have h8l : pp.length ≤ i4 := nat_ge_of2 h8
        refine AWP.exit ?_
        refine ⟨v6, loopN_end h8l hJ7, ?_⟩
        exact Wk.mk (StLe.mk' trivial (by first | rfl | simp)) (keeps_all hC (boxes0) (Nat.le_of_ble_eq_true rfl)) ⟨⟨_, rfl, .refl _, rfl⟩, ⟨⟨_, rfl, .refl _, rfl⟩, ⟨⟨_, rfl, .refl _, rfl⟩, trivial⟩⟩⟩
  · rintro v6 hR30
    refine AWP.seq ?_
    refine AWP.region_lit ?_
    refine AL.cons rfl (AOp.move (.inl rfl) rfl rfl) ?_
    refine AL.cons rfl (AOp.move (.inr rfl) rfl rfl) ?_
    refine AL.cons rfl (AOp.move (.inr rfl) rfl rfl) ?_
    refine AL.nil ?_
    refine AWP.ret ?_
    have e31 : sl7All_G fu r_sl7All r_sl7Match pp pall plist = some (v6, true, v6) := soR hR30 (rfl)
    have hz : (v6, true, v6) = r := Option.some.inj (e31.symm.trans H)
    subst hz
    exact Ends.mk (ps := [_, _]) (by first | exact .inr rfl | exact .inl rfl) ⟨rfl, rfl, trivial⟩ rfl (StLe.mk' (st' := ⟨[], [⟨225, 4, GBinding.trs (v6), false⟩]⟩) trivial (by first | rfl | simp)) (keeps_all hC (boxes0) (Nat.le_of_ble_eq_true rfl)) (q := (.tup [(bif true then .acc 4 (GBinding.trs (v6)) 0 else .t (.row 4 (GBinding.trs (v6)))), .t (.leaf (.bool (true)))] : PV)) (by (repeat' (first | exact PV.Le.refl _ | exact LeL.nil | exact PV.Le.nil _ | exact PV.Le.acc _ _ _ | apply LeL.cons | apply PV.Le.agg | apply PV.Le.tup))) rfl ⟨rfl, rfl⟩
noncomputable def sl7Match_G (fu : Nat) (r_sl7All : (List GType) → (List GType) → (List GBinding) → Option ((List GBinding) × Bool × (List GBinding))) (r_sl7Match : GType → GType → (List GBinding) → Option ((List GBinding) × Bool × (List GBinding))) (pp : GType) (pt : GType) (plist : List GBinding) : Option ((List GBinding) × Bool × (List GBinding)) :=
 sw (decide ((pp.gKind : Int) = 1))
 (bd (sLookup_M fu plist pp.gName) (fun (x4, x5) =>
 sw (x5)
 (sw (GType.eq x4 pt)
 (some (plist, (GType.eq x4 pt), plist))
 (some (plist, (GType.eq x4 pt), plist)))
 (gd (Tr.bulkL (GType.tr pt) ≤ 68719476735)
 (gd ((plist).length + (([(GBinding.mk pp.gName pt)] : List GBinding)).length ≤ 68719476736)
 (some ((plist ++ ([(GBinding.mk pp.gName pt)] : List GBinding)), true, (plist ++ ([(GBinding.mk pp.gName pt)] : List GBinding))))))))
 (sw (!decide ((pp.gKind : Int) = pt.gKind))
 (some (plist, false, plist))
 (sw (!decide (pp.gName = pt.gName))
 (some (plist, false, plist))
 (sw (!decide ((((pp.gArgs.length : Nat) : Int) : Int) = ((pt.gArgs.length : Nat) : Int)))
 (some (plist, false, plist))
 (bd (r_sl7All pp.gArgs pt.gArgs plist) (fun (x27, x28, x29) =>
 sw (x28)
 (gd (x27 = x29)
 (some (x27, true, x27)))
 (some (x27, false, x29)))))))
set_option maxRecDepth 100000 in
set_option maxHeartbeats 4000000 in
theorem sl7Match_step (r_sl7All : (List GType) → (List GType) → (List GBinding) → Option ((List GBinding) × Bool × (List GBinding))) (r_sl7Match : GType → GType → (List GBinding) → Option ((List GBinding) × Bool × (List GBinding))) (fu : Nat) (h_sl7All : ∀ (pp : List GType) (pall : List GType) (plist : List GBinding) (r : (List GBinding) × Bool × (List GBinding)), r_sl7All pp pall plist = some r → ACalls Tryz.prog 199 [.t (.row 3 (GType.trs (pp))), .t (.row 3 (GType.trs (pall))), .acc 4 (GBinding.trs (plist)) 0] ⟨[], [⟨225, 4, GBinding.trs (plist), false⟩]⟩ (fun q t => q = (.tup [(bif r.2.1 then .acc 4 (GBinding.trs (r.1)) 0 else .t (.row 4 (GBinding.trs (r.1)))), .t (.leaf (.bool (r.2.1)))] : PV) ∧ t = ⟨[], [⟨225, 4, GBinding.trs (r.2.2), false⟩]⟩)) (h_sl7Match : ∀ (pp : GType) (pt : GType) (plist : List GBinding) (r : (List GBinding) × Bool × (List GBinding)), r_sl7Match pp pt plist = some r → ACalls Tryz.prog 214 [(GType.pv pp), (GType.pv pt), .acc 4 (GBinding.trs (plist)) 0] ⟨[], [⟨225, 4, GBinding.trs (plist), false⟩]⟩ (fun q t => q = (.tup [(bif r.2.1 then .acc 4 (GBinding.trs (r.1)) 0 else .t (.row 4 (GBinding.trs (r.1)))), .t (.leaf (.bool (r.2.1)))] : PV) ∧ t = ⟨[], [⟨225, 4, GBinding.trs (r.2.2), false⟩]⟩)) (pp : GType) (pt : GType) (plist : List GBinding) (r : (List GBinding) × Bool × (List GBinding)) (H : sl7Match_G fu r_sl7All r_sl7Match pp pt plist = some r) : ACalls Tryz.prog 214 [(GType.pv pp), (GType.pv pt), .acc 4 (GBinding.trs (plist)) 0] ⟨[], [⟨225, 4, GBinding.trs (plist), false⟩]⟩ (fun q t => q = (.tup [(bif r.2.1 then .acc 4 (GBinding.trs (r.1)) 0 else .t (.row 4 (GBinding.trs (r.1)))), .t (.leaf (.bool (r.2.1)))] : PV) ∧ t = ⟨[], [⟨225, 4, GBinding.trs (r.2.2), false⟩]⟩) := by
  refine ACalls.intro Tryz.func214 rfl (by first | decide | (simp; done) | (simp; decide)) ?_
  intro C hC
  refine AWP.fact (lk_lenN 2 rfl rfl (GBinding.trs_len _)) (fun hl1 => ?_)
  refine AWP.seq ?_
  refine AWP.region_lit ?_
  refine AL.cons rfl (AOp.box (cs := [.t (.leaf (.int .i64 (pp.gKind))), .t (.leaf (.string (pp.gName))), .t (.row 3 (GType.trs (pp.gArgs)))]) rfl rfl rfl rfl rfl) ?_
  refine AL.cons rfl (AOp.box (cs := [.t (.leaf (.int .i64 (pt.gKind))), .t (.leaf (.string (pt.gName))), .t (.row 3 (GType.trs (pt.gArgs)))]) rfl rfl rfl rfl rfl) ?_
  refine AL.cons rfl (AOp.move (.inr rfl) rfl rfl) ?_
  refine AL.cons rfl (AOp.move (.inr rfl) rfl rfl) ?_
  refine AL.nil ?_
  refine AWP.seq ?_
  refine AWP.seq ?_
  refine AWP.region_lit ?_
  refine AL.cons rfl (AOp.fieldPtr (k := 0) (d := 0) (e := 0) rfl rfl rfl fo47_0) ?_
  refine AL.cons rfl (AOp.loadPtr1 rfl rfl rfl rfl sh3 rfl) ?_
  refine AL.cons rfl (AOp.eqlI rfl rfl rfl rfl) ?_
  refine AL.nil ?_
  refine AWP.cond rfl (fun h2 => ?_) (fun h2 => ?_)
  · skip
    refine AWP.seq ?_
    refine AWP.region_lit ?_
    refine AL.cons rfl (AOp.move (.inl rfl) rfl rfl) ?_
    refine AL.cons rfl (AOp.fieldPtr (k := 0) (d := 0) (e := 1) rfl rfl rfl fo47_1) ?_
    refine AL.cons rfl (AOp.loadPtr1 rfl rfl rfl rfl sh9 rfl) ?_
    rcases hq3 : sLookup_M fu plist pp.gName with _ | ⟨x4, x5⟩
    · skip
      have e6 : sl7Match_G fu r_sl7All r_sl7Match pp pt plist = none := swT h2 (bdN hq3)
      exact none_some H e6
    · skip
      refine AL.cons rfl (AOp.callF (res := .tup [(GType.pv x4), .t (.leaf (.bool (x5)))]) (ps := [_, _]) rfl rfl Tryz.func157 (by kernel_rfl) rfl rfl (by (repeat' (first | exact PV.Le.refl _ | exact LeL.nil | exact PV.Le.nil _ | exact PV.Le.acc _ _ _ | apply LeL.cons | apply PV.Le.agg | apply PV.Le.tup))) rfl rfl (sLookup_ok fu plist pp.gName _ hq3)) ?_
      refine AL.cons rfl (AOp.move (.inl rfl) rfl rfl) ?_
      refine AL.cons rfl (AOp.extract rfl rfl rfl rfl) ?_
      refine AL.cons rfl (AOp.extract rfl rfl rfl rfl) ?_
      refine AL.cons rfl (AOp.alloc rfl rfl zr47) ?_
      refine AL.cons rfl (AOp.storePtr (cs := [.t (.leaf (.int .i64 (x4.gKind))), .t (.leaf (.string (x4.gName))), .t (.row 3 (GType.trs (x4.gArgs)))]) (ds := [.t (.leaf (.int .i64 (x4.gKind))), .t (.leaf (.string (x4.gName))), .t (.row 3 (GType.trs (x4.gArgs)))]) rfl rfl rfl rfl rfl rfl rfl sz47 (Nat.le_of_ble_eq_true rfl) rfl) ?_
      refine AL.cons rfl (AOp.move (.inr rfl) rfl rfl) ?_
      refine AL.nil ?_
      refine AWP.seq ?_
      refine AWP.seq ?_
      refine AWP.region_lit ?_
      refine AL.cons rfl (AOp.move (.inl rfl) rfl rfl) ?_
      refine AL.nil ?_
      refine AWP.cond rfl (fun h7 => ?_) (fun h7 => ?_)
      · skip
        refine AWP.seq ?_
        refine AWP.region_lit ?_
        refine AL.cons rfl (AOp.move (.inl rfl) rfl rfl) ?_
        refine AL.cons rfl (AOp.loadPtr (cs := [.t (.leaf (.int .i64 (x4.gKind))), .t (.leaf (.string (x4.gName))), .t (.row 3 (GType.trs (x4.gArgs)))]) rfl rfl rfl rfl sh47 rfl rfl) ?_
        refine AL.cons rfl (AOp.loadPtr (cs := [.t (.leaf (.int .i64 (pt.gKind))), .t (.leaf (.string (pt.gName))), .t (.row 3 (GType.trs (pt.gArgs)))]) rfl rfl rfl rfl sh47 rfl rfl) ?_
        refine AL.cons rfl (AOp.callF (res := .t (.leaf (.bool (GType.eq x4 pt)))) (ps := [_, _]) rfl rfl Tryz.func228 (by kernel_rfl) rfl rfl (by (repeat' (first | exact PV.Le.refl _ | exact LeL.nil | exact PV.Le.nil _ | exact PV.Le.acc _ _ _ | apply LeL.cons | apply PV.Le.agg | apply PV.Le.tup))) rfl rfl (sEqualType_fn x4 pt)) ?_
        refine AL.cons rfl (AOp.move (.inr rfl) rfl rfl) ?_
        refine AL.cons rfl (AOp.move (.inr rfl) rfl rfl) ?_
        refine AL.nil ?_
        refine AWP.ret ?_
        rcases bool2 (GType.eq x4 pt) with g8 | g8
        · skip
          have e9 : sl7Match_G fu r_sl7All r_sl7Match pp pt plist = some (plist, (GType.eq x4 pt), plist) := swT h2 (bdS hq3 (swT h7 (swT g8 (rfl))))
          have hz : (plist, (GType.eq x4 pt), plist) = r := Option.some.inj (e9.symm.trans H)
          subst hz
          exact Ends.mk (ps := [_, _]) (by first | exact .inr rfl | exact .inl rfl) ⟨rfl, rfl, trivial⟩ rfl (StLe.mk' (st' := ⟨[], [⟨225, 4, GBinding.trs (plist), false⟩]⟩) trivial (by first | rfl | simp)) (keeps_all hC (boxes0) (Nat.le_of_ble_eq_true rfl)) (q := (.tup [(bif (GType.eq x4 pt) then .acc 4 (GBinding.trs (plist)) 0 else .t (.row 4 (GBinding.trs (plist)))), .t (.leaf (.bool ((GType.eq x4 pt))))] : PV)) (by rw [g8]; exact (by (repeat' (first | exact PV.Le.refl _ | exact LeL.nil | exact PV.Le.nil _ | exact PV.Le.acc _ _ _ | apply LeL.cons | apply PV.Le.agg | apply PV.Le.tup)))) (by rw [g8]; rfl) ⟨rfl, rfl⟩
        · skip
          have e10 : sl7Match_G fu r_sl7All r_sl7Match pp pt plist = some (plist, (GType.eq x4 pt), plist) := swT h2 (bdS hq3 (swT h7 (swF g8 (rfl))))
          have hz : (plist, (GType.eq x4 pt), plist) = r := Option.some.inj (e10.symm.trans H)
          subst hz
          exact Ends.mk (ps := [_, _]) (by first | exact .inr rfl | exact .inl rfl) ⟨rfl, rfl, trivial⟩ rfl (StLe.mk' (st' := ⟨[], [⟨225, 4, GBinding.trs (plist), false⟩]⟩) trivial (by first | rfl | simp)) (keeps_all hC (boxes0) (Nat.le_of_ble_eq_true rfl)) (q := (.tup [(bif (GType.eq x4 pt) then .acc 4 (GBinding.trs (plist)) 0 else .t (.row 4 (GBinding.trs (plist)))), .t (.leaf (.bool ((GType.eq x4 pt))))] : PV)) (by rw [g8]; exact (by (repeat' (first | exact PV.Le.refl _ | exact LeL.nil | exact PV.Le.nil _ | exact PV.Le.acc _ _ _ | apply LeL.cons | apply PV.Le.agg | apply PV.Le.tup)))) (by rw [g8]; rfl) ⟨rfl, rfl⟩
      · skip
        refine AWP.skip ?_
        refine AWP.seq ?_
        rcases Classical.em (Tr.bulkL (GType.tr pt) ≤ 68719476735) with hg11 | hg11
        · skip
          rcases Classical.em ((plist).length + (([(GBinding.mk pp.gName pt)] : List GBinding)).length ≤ 68719476736) with hg12 | hg12
          · skip
            refine AWP.drawnL ⟨_, _, fun j' _ => ([(⟨[some ⟨47, [.t (.leaf (.int .i64 (pp.gKind))), .t (.leaf (.string (pp.gName))), .t (.row 3 (GType.trs (pp.gArgs)))]⟩, some ⟨47, [.t (.leaf (.int .i64 (pt.gKind))), .t (.leaf (.string (pt.gName))), .t (.row 3 (GType.trs (pt.gArgs)))]⟩, some ⟨47, [.t (.leaf (.int .i64 (x4.gKind))), .t (.leaf (.string (x4.gName))), .t (.row 3 (GType.trs (x4.gArgs)))]⟩], [⟨225, 4, GBinding.trs (plist), false⟩]⟩ : Sto), (⟨[some ⟨47, [.t (.leaf (.int .i64 (pp.gKind))), .t (.leaf (.string (pp.gName))), .t (.row 3 (GType.trs (pp.gArgs)))]⟩, some ⟨47, [.t (.leaf (.int .i64 (pt.gKind))), .t (.leaf (.string (pt.gName))), .t (.row 3 (GType.trs (pt.gArgs)))]⟩, some ⟨47, [.t (.leaf (.int .i64 (x4.gKind))), .t (.leaf (.string (x4.gName))), .t (.row 3 (GType.trs (x4.gArgs)))]⟩], [⟨225, 4, GBinding.trs (plist ++ ([(GBinding.mk pp.gName pt)] : List GBinding)), false⟩]⟩ : Sto)] : List Sto).getD j' (⟨[some ⟨47, [.t (.leaf (.int .i64 (pp.gKind))), .t (.leaf (.string (pp.gName))), .t (.row 3 (GType.trs (pp.gArgs)))]⟩, some ⟨47, [.t (.leaf (.int .i64 (pt.gKind))), .t (.leaf (.string (pt.gName))), .t (.row 3 (GType.trs (pt.gArgs)))]⟩, some ⟨47, [.t (.leaf (.int .i64 (x4.gKind))), .t (.leaf (.string (x4.gName))), .t (.row 3 (GType.trs (x4.gArgs)))]⟩], [⟨225, 4, GBinding.trs (plist ++ ([(GBinding.mk pp.gName pt)] : List GBinding)), false⟩]⟩ : Sto), fun q' => ([some (.acc 4 (GBinding.trs (plist)) 0), some (.ptr 0 1), some (.t (.leaf (.string (pp.gName)))), some ((GType.pv pt)), some ((GType.pv pt)), some (.agg [.t (.leaf (.string (pp.gName))), .t (.leaf (.int .i64 (pt.gKind))), .t (.leaf (.string (pt.gName))), .t (.row 3 (GType.trs (pt.gArgs)))]), some (.t (.row 4 (GBinding.trs (([(GBinding.mk pp.gName pt)] : List GBinding))))), some (.acc 4 (GBinding.trs (plist ++ ([(GBinding.mk pp.gName pt)] : List GBinding))) 0), some (.acc 4 (GBinding.trs (plist ++ ([(GBinding.mk pp.gName pt)] : List GBinding))) 0), some (.t (.leaf (.bool (true))))] : List (Option PV)).getD q' none, fun q' => ([.q 0 0, .q 0 0, .q 0 0, .q 0 0, .q 0 0, .q 0 0, .q 0 0, .ef 0, .q 1 1, .q 1 1] : List DK).getD q' (.q 0 0), [7], none, fun q' => ([[(2, none)], [(3, none)], [(26, some 1)], [(4, none)], [(28, some 3)], [(29, some 4), (27, some 2)], [(30, some 5)], [(25, some 0), (31, some 6)], [(32, some 7)], []] : List (List (Nat × Option Nat))).getD q' []⟩ rfl mixed (by kernel_rfl) rfl rfl ⟨?_, ?_, ?_, ?_, ?_, ?_, ?_, ?_, ?_, ?_, trivial⟩ rfl ?_
            · refine .inl ⟨rfl, fun s' jj bb (h1 : 0 ≤ jj) (h2 : jj ≤ 0) hs hl => ?_⟩
              obtain rfl : jj = 0 := by omega
              exact ⟨_, rfl, AOp.move (.inl rfl) rfl (hl 2 none _ (.head _) rfl)⟩
            · refine .inl ⟨rfl, fun s' jj bb (h1 : 0 ≤ jj) (h2 : jj ≤ 0) hs hl => ?_⟩
              obtain rfl : jj = 0 := by omega
              exact ⟨_, rfl, AOp.fieldPtr (k := 0) (d := 0) (e := 1) rfl rfl (hl 3 none _ (.head _) rfl) fo47_1⟩
            · refine .inl ⟨rfl, fun s' jj bb (h1 : 0 ≤ jj) (h2 : jj ≤ 0) hs hl => ?_⟩
              obtain rfl : jj = 0 := by omega
              exact ⟨_, rfl, AOp.loadPtr1 rfl rfl (hl 26 (some 1) _ (.head _) rfl) (by rw [hs]; rfl) sh9 rfl⟩
            · refine .inl ⟨rfl, fun s' jj bb (h1 : 0 ≤ jj) (h2 : jj ≤ 0) hs hl => ?_⟩
              obtain rfl : jj = 0 := by omega
              exact ⟨_, rfl, AOp.loadPtr (cs := [.t (.leaf (.int .i64 (pt.gKind))), .t (.leaf (.string (pt.gName))), .t (.row 3 (GType.trs (pt.gArgs)))]) rfl rfl (hl 4 none _ (.head _) rfl) (by rw [hs]; rfl) sh47 rfl rfl⟩
            · refine .inl ⟨rfl, fun s' jj bb (h1 : 0 ≤ jj) (h2 : jj ≤ 0) hs hl => ?_⟩
              obtain rfl : jj = 0 := by omega
              exact ⟨_, rfl, AOp.callF (res := (GType.pv pt)) (ps := [_]) rfl rfl Tryz.func110 (by kernel_rfl) rfl (evs_cons (hl 28 (some 3) _ (.head _) rfl) rfl) (by (repeat' (first | exact PV.Le.refl _ | exact LeL.nil | exact PV.Le.nil _ | exact PV.Le.acc _ _ _ | apply LeL.cons | apply PV.Le.agg | apply PV.Le.tup))) rfl rfl (sl4Copy_fn pt hg11)⟩
            · refine .inl ⟨rfl, fun s' jj bb (h1 : 0 ≤ jj) (h2 : jj ≤ 0) hs hl => ?_⟩
              obtain rfl : jj = 0 := by omega
              exact ⟨_, rfl, AOp.build rfl rfl zr225 pl225 (parts_cons (hl 27 (some 2) _ (.tail _ (.head _)) rfl) rfl rfl (parts_cons (hl 29 (some 4) _ (.head _) rfl) rfl rfl rfl)) rfl⟩
            · refine .inl ⟨rfl, fun s' jj bb (h1 : 0 ≤ jj) (h2 : jj ≤ 0) hs hl => ?_⟩
              obtain rfl : jj = 0 := by omega
              exact ⟨_, rfl, AOp.buildSliceE (es := [GBinding.cs (GBinding.mk pp.gName pt)]) (es' := GBinding.trs (([(GBinding.mk pp.gName pt)] : List GBinding))) (cs := [.t (.leaf (.string (pp.gName))), .t (.leaf (.int .i64 (pt.gKind))), .t (.leaf (.string (pt.gName))), .t (.row 3 (GType.trs (pt.gArgs)))]) rfl rfl el138 zr225 (parts_cons (hl 30 (some 5) _ (.head _) rfl) rfl rfl rfl) rfl (by (repeat' (first | exact PV.Le.refl _ | exact LeL.nil | exact PV.Le.nil _ | exact PV.Le.acc _ _ _ | apply LeL.cons | apply PV.Le.agg | apply PV.Le.tup))) rfl (by simp [GBinding.cs]) (by decide) rfl (by decide) (by simp [GBinding.trs_map, GBinding.tr_cs])⟩
            · refine .inl ⟨rfl, fun s' bb hs hl => ?_⟩
              refine .inl ⟨_, rfl, AOp.congr (AOp.appendE (es3 := GBinding.trs (plist ++ ([(GBinding.mk pp.gName pt)] : List GBinding))) rfl rfl (hl 25 (some 0) _ (.head _) rfl) (by rw [hs]; rfl) rfl rfl rfl (hl 31 (some 6) _ (.tail _ (.head _)) rfl) rfl (fun e he => by rw [GBinding.trs_map] at he; obtain ⟨x, _, rfl⟩ := List.mem_map.1 he; rw [GBinding.tr_cs]; rfl) el138 ze138 (by decide) (by rw [GBinding.trs_len, GBinding.trs_len]; exact room_le hg12 (by decide)) (by rw [GBinding.trs_map, GBinding.trs_map, GBinding.trs_map, List.map_append])) ?_⟩
              first | (rw [hs]; rfl) | rfl
            · refine .inl ⟨rfl, fun s' jj bb (h1 : 1 ≤ jj) (h2 : jj ≤ 1) hs hl => ?_⟩
              obtain rfl : jj = 1 := by omega
              exact ⟨_, rfl, AOp.move (.inr rfl) rfl (hl 32 (some 7) _ (.head _) rfl)⟩
            · refine .inl ⟨rfl, fun s' jj bb (h1 : 1 ≤ jj) (h2 : jj ≤ 1) hs hl => ?_⟩
              obtain rfl : jj = 1 := by omega
              exact ⟨_, rfl, AOp.move (.inr rfl) rfl rfl⟩
            refine AWP.ret ?_
            have e13 : sl7Match_G fu r_sl7All r_sl7Match pp pt plist = some ((plist ++ ([(GBinding.mk pp.gName pt)] : List GBinding)), true, (plist ++ ([(GBinding.mk pp.gName pt)] : List GBinding))) := swT h2 (bdS hq3 (swF h7 (gdT hg11 (gdT hg12 (rfl)))))
            have hz : ((plist ++ ([(GBinding.mk pp.gName pt)] : List GBinding)), true, (plist ++ ([(GBinding.mk pp.gName pt)] : List GBinding))) = r := Option.some.inj (e13.symm.trans H)
            subst hz
            exact Ends.mk (ps := [_, _]) (by first | exact .inr rfl | exact .inl rfl) ⟨rfl, rfl, trivial⟩ rfl (StLe.mk' (st' := ⟨[], [⟨225, 4, GBinding.trs ((plist ++ ([(GBinding.mk pp.gName pt)] : List GBinding))), false⟩]⟩) trivial (by first | rfl | simp)) (keeps_all hC (boxes0) (Nat.le_of_ble_eq_true rfl)) (q := (.tup [(bif true then .acc 4 (GBinding.trs (plist ++ ([(GBinding.mk pp.gName pt)] : List GBinding))) 0 else .t (.row 4 (GBinding.trs (plist ++ ([(GBinding.mk pp.gName pt)] : List GBinding))))), .t (.leaf (.bool (true)))] : PV)) (by (repeat' (first | exact PV.Le.refl _ | exact LeL.nil | exact PV.Le.nil _ | exact PV.Le.acc _ _ _ | apply LeL.cons | apply PV.Le.agg | apply PV.Le.tup))) rfl ⟨rfl, rfl⟩
          · skip
            have e14 : sl7Match_G fu r_sl7All r_sl7Match pp pt plist = none := swT h2 (bdS hq3 (swF h7 (gdT hg11 (gdF hg12))))
            exact none_some H e14
        · skip
          have e15 : sl7Match_G fu r_sl7All r_sl7Match pp pt plist = none := swT h2 (bdS hq3 (swF h7 (gdF hg11)))
          exact none_some H e15
  · skip
    refine AWP.skip ?_
    refine AWP.seq ?_
    refine AWP.seq ?_
    refine AWP.region_lit ?_
    refine AL.cons rfl (AOp.fieldPtr (k := 0) (d := 0) (e := 0) rfl rfl rfl fo47_0) ?_
    refine AL.cons rfl (AOp.loadPtr1 rfl rfl rfl rfl sh3 rfl) ?_
    refine AL.cons rfl (AOp.fieldPtr (k := 1) (d := 0) (e := 0) rfl rfl rfl fo47_0) ?_
    refine AL.cons rfl (AOp.loadPtr1 rfl rfl rfl rfl sh3 rfl) ?_
    refine AL.cons rfl (AOp.neqI rfl rfl rfl rfl) ?_
    refine AL.cons rfl (AOp.move (.inl rfl) rfl rfl) ?_
    refine AL.splitB 38 rfl (fun g16 => ?_) (fun g16 => ?_)
    · skip
      refine AL.skipP rfl rfl rfl g16 rfl rfl ?_
      refine AL.skipP rfl rfl rfl g16 rfl rfl ?_
      refine AL.skipP rfl rfl rfl g16 rfl rfl ?_
      refine AL.skipP rfl rfl rfl g16 rfl rfl ?_
      refine AL.skipP rfl rfl rfl g16 rfl rfl ?_
      refine AL.cons rfl (AOp.pickT rfl rfl rfl g16 rfl) ?_
      refine AL.cons rfl (AOp.move (.inl rfl) rfl rfl) ?_
      refine AL.skipP rfl rfl rfl rfl rfl rfl ?_
      refine AL.skipP rfl rfl rfl rfl rfl rfl ?_
      refine AL.skipP rfl rfl rfl rfl rfl rfl ?_
      refine AL.skipP rfl rfl rfl rfl rfl rfl ?_
      refine AL.skipP rfl rfl rfl rfl rfl rfl ?_
      refine AL.skipP rfl rfl rfl rfl rfl rfl ?_
      refine AL.skipP rfl rfl rfl rfl rfl rfl ?_
      refine AL.cons rfl (AOp.pickT rfl rfl rfl rfl rfl) ?_
      refine AL.nil ?_
      refine AWP.cond rfl (fun h17 => ?_) (fun h17 => ?_)
      · skip
        refine AWP.seq ?_
        refine AWP.region_lit ?_
        refine AL.cons rfl (AOp.move (.inl rfl) rfl rfl) ?_
        refine AL.cons rfl (AOp.move (.inr rfl) rfl rfl) ?_
        refine AL.cons rfl (AOp.move (.inr rfl) rfl rfl) ?_
        refine AL.nil ?_
        refine AWP.ret ?_
        have e18 : sl7Match_G fu r_sl7All r_sl7Match pp pt plist = some (plist, false, plist) := swF h2 (swT g16 (rfl))
        have hz : (plist, false, plist) = r := Option.some.inj (e18.symm.trans H)
        subst hz
        exact Ends.mk (ps := [_, _]) (by first | exact .inr rfl | exact .inl rfl) ⟨rfl, rfl, trivial⟩ rfl (StLe.mk' (st' := ⟨[], [⟨225, 4, GBinding.trs (plist), false⟩]⟩) trivial (by first | rfl | simp)) (keeps_all hC (boxes0) (Nat.le_of_ble_eq_true rfl)) (q := (.tup [(bif false then .acc 4 (GBinding.trs (plist)) 0 else .t (.row 4 (GBinding.trs (plist)))), .t (.leaf (.bool (false)))] : PV)) (by (repeat' (first | exact PV.Le.refl _ | exact LeL.nil | exact PV.Le.nil _ | exact PV.Le.acc _ _ _ | apply LeL.cons | apply PV.Le.agg | apply PV.Le.tup))) rfl ⟨rfl, rfl⟩
      · skip
        exact absurd (h17.symm.trans rfl) (by decide)
    · skip
      refine AL.cons_gv rfl rfl rfl g16 (AOp.fieldPtr (k := 0) (d := 0) (e := 1) rfl rfl rfl fo47_1) ?_
      refine AL.cons_gv rfl rfl rfl g16 (AOp.loadPtr1 rfl rfl rfl rfl sh9 rfl) ?_
      refine AL.cons_gv rfl rfl rfl g16 (AOp.fieldPtr (k := 1) (d := 0) (e := 1) rfl rfl rfl fo47_1) ?_
      refine AL.cons_gv rfl rfl rfl g16 (AOp.loadPtr1 rfl rfl rfl rfl sh9 rfl) ?_
      refine AL.cons_gv rfl rfl rfl g16 (AOp.neqS rfl rfl rfl rfl) ?_
      refine AL.cons rfl (AOp.pickF rfl rfl rfl g16 rfl) ?_
      refine AL.cons rfl (AOp.move (.inl rfl) rfl rfl) ?_
      refine AL.splitB 45 rfl (fun g19 => ?_) (fun g19 => ?_)
      · skip
        refine AL.skipP rfl rfl rfl g19 rfl rfl ?_
        refine AL.skipP rfl rfl rfl g19 rfl rfl ?_
        refine AL.skipP rfl rfl rfl g19 rfl rfl ?_
        refine AL.skipP rfl rfl rfl g19 rfl rfl ?_
        refine AL.skipP rfl rfl rfl g19 rfl rfl ?_
        refine AL.skipP rfl rfl rfl g19 rfl rfl ?_
        refine AL.skipP rfl rfl rfl g19 rfl rfl ?_
        refine AL.cons rfl (AOp.pickT rfl rfl rfl g19 rfl) ?_
        refine AL.nil ?_
        refine AWP.cond rfl (fun h20 => ?_) (fun h20 => ?_)
        · skip
          refine AWP.seq ?_
          refine AWP.region_lit ?_
          refine AL.cons rfl (AOp.move (.inl rfl) rfl rfl) ?_
          refine AL.cons rfl (AOp.move (.inr rfl) rfl rfl) ?_
          refine AL.cons rfl (AOp.move (.inr rfl) rfl rfl) ?_
          refine AL.nil ?_
          refine AWP.ret ?_
          have e21 : sl7Match_G fu r_sl7All r_sl7Match pp pt plist = some (plist, false, plist) := swF h2 (swF g16 (swT g19 (rfl)))
          have hz : (plist, false, plist) = r := Option.some.inj (e21.symm.trans H)
          subst hz
          exact Ends.mk (ps := [_, _]) (by first | exact .inr rfl | exact .inl rfl) ⟨rfl, rfl, trivial⟩ rfl (StLe.mk' (st' := ⟨[], [⟨225, 4, GBinding.trs (plist), false⟩]⟩) trivial (by first | rfl | simp)) (keeps_all hC (boxes0) (Nat.le_of_ble_eq_true rfl)) (q := (.tup [(bif false then .acc 4 (GBinding.trs (plist)) 0 else .t (.row 4 (GBinding.trs (plist)))), .t (.leaf (.bool (false)))] : PV)) (by (repeat' (first | exact PV.Le.refl _ | exact LeL.nil | exact PV.Le.nil _ | exact PV.Le.acc _ _ _ | apply LeL.cons | apply PV.Le.agg | apply PV.Le.tup))) rfl ⟨rfl, rfl⟩
        · skip
          exact absurd (h20.symm.trans rfl) (by decide)
      · skip
        refine AL.cons_gv rfl rfl rfl g19 (AOp.fieldPtr (k := 0) (d := 0) (e := 2) rfl rfl rfl fo47_2) ?_
        refine AL.cons_gv rfl rfl rfl g19 (AOp.loadPtr1 rfl rfl rfl rfl sh45 rfl) ?_
        refine AL.fact (lk_lenN 47 rfl rfl (GType.trs_len _)) (fun hl22 => ?_)
        refine AL.cons_gv rfl rfl rfl g19 (AOp.lenN rfl rfl rfl rfl el45 (GType.trs_len _)) ?_
        refine AL.cons_gv rfl rfl rfl g19 (AOp.fieldPtr (k := 1) (d := 0) (e := 2) rfl rfl rfl fo47_2) ?_
        refine AL.cons_gv rfl rfl rfl g19 (AOp.loadPtr1 rfl rfl rfl rfl sh45 rfl) ?_
        refine AL.fact (lk_lenN 50 rfl rfl (GType.trs_len _)) (fun hl23 => ?_)
        refine AL.cons_gv rfl rfl rfl g19 (AOp.lenN rfl rfl rfl rfl el45 (GType.trs_len _)) ?_
        refine AL.cons_gv rfl rfl rfl g19 (AOp.neqI rfl rfl rfl rfl) ?_
        refine AL.cons rfl (AOp.pickF rfl rfl rfl g19 rfl) ?_
        refine AL.nil ?_
        refine AWP.cond rfl (fun h24 => ?_) (fun h24 => ?_)
        · skip
          refine AWP.seq ?_
          refine AWP.region_lit ?_
          refine AL.cons rfl (AOp.move (.inl rfl) rfl rfl) ?_
          refine AL.cons rfl (AOp.move (.inr rfl) rfl rfl) ?_
          refine AL.cons rfl (AOp.move (.inr rfl) rfl rfl) ?_
          refine AL.nil ?_
          refine AWP.ret ?_
          have e25 : sl7Match_G fu r_sl7All r_sl7Match pp pt plist = some (plist, false, plist) := swF h2 (swF g16 (swF g19 (swT h24 (rfl))))
          have hz : (plist, false, plist) = r := Option.some.inj (e25.symm.trans H)
          subst hz
          exact Ends.mk (ps := [_, _]) (by first | exact .inr rfl | exact .inl rfl) ⟨rfl, rfl, trivial⟩ rfl (StLe.mk' (st' := ⟨[], [⟨225, 4, GBinding.trs (plist), false⟩]⟩) trivial (by first | rfl | simp)) (keeps_all hC (boxes0) (Nat.le_of_ble_eq_true rfl)) (q := (.tup [(bif false then .acc 4 (GBinding.trs (plist)) 0 else .t (.row 4 (GBinding.trs (plist)))), .t (.leaf (.bool (false)))] : PV)) (by (repeat' (first | exact PV.Le.refl _ | exact LeL.nil | exact PV.Le.nil _ | exact PV.Le.acc _ _ _ | apply LeL.cons | apply PV.Le.agg | apply PV.Le.tup))) rfl ⟨rfl, rfl⟩
        · skip
          refine AWP.skip ?_
          refine AWP.seq ?_
          refine AWP.region_lit ?_
          refine AL.cons rfl (AOp.fieldPtr (k := 0) (d := 0) (e := 2) rfl rfl rfl fo47_2) ?_
          refine AL.cons rfl (AOp.loadPtr1 rfl rfl rfl rfl sh45 rfl) ?_
          refine AL.cons rfl (AOp.fieldPtr (k := 1) (d := 0) (e := 2) rfl rfl rfl fo47_2) ?_
          refine AL.cons rfl (AOp.loadPtr1 rfl rfl rfl rfl sh45 rfl) ?_
          refine AL.cons rfl (AOp.move (.inl rfl) rfl rfl) ?_
          rcases hq26 : r_sl7All pp.gArgs pt.gArgs plist with _ | ⟨x27, x28, x29⟩
          · skip
            have e30 : sl7Match_G fu r_sl7All r_sl7Match pp pt plist = none := swF h2 (swF g16 (swF g19 (swF h24 (bdN hq26))))
            exact none_some H e30
          · skip
            cases x28
            · skip
              refine AL.cons rfl (AOp.callPE (pre := ⟨[], [⟨225, 4, GBinding.trs (plist), false⟩]⟩) (st' := ⟨[], [⟨225, 4, GBinding.trs (x29), false⟩]⟩) (ps := [_, _, _]) (qs := [.t (.row 3 (GType.trs (pp.gArgs))), .t (.row 3 (GType.trs (pt.gArgs))), .acc 4 (GBinding.trs (plist)) 0]) [] [0] rfl rfl Tryz.func199 (by kernel_rfl) rfl rfl rfl (Part0.of trivial ⟨rfl, trivial⟩ (by decide) (by decide)) (by (repeat' (first | exact PV.Le.refl _ | exact LeL.nil | exact PV.Le.nil _ | exact PV.Le.acc _ _ _ | apply LeL.cons | apply PV.Le.agg | apply PV.Le.tup))) rfl rfl rfl (h_sl7All pp.gArgs pt.gArgs plist _ hq26)) ?_
              refine AL.cons rfl (AOp.extract rfl rfl rfl rfl) ?_
              refine AL.cons rfl (AOp.extract rfl rfl rfl rfl) ?_
              refine AL.cons rfl (AOp.move (.inr rfl) rfl rfl) ?_
              refine AL.cons rfl (AOp.move (.inr rfl) rfl rfl) ?_
              refine AL.nil ?_
              refine AWP.ret ?_
              have e31 : sl7Match_G fu r_sl7All r_sl7Match pp pt plist = some (x27, false, x29) := swF h2 (swF g16 (swF g19 (swF h24 (bdS hq26 (swF rfl (rfl))))))
              have hz : (x27, false, x29) = r := Option.some.inj (e31.symm.trans H)
              subst hz
              exact Ends.mk (ps := [_, _]) (by first | exact .inr rfl | exact .inl rfl) ⟨rfl, rfl, trivial⟩ rfl (StLe.mk' (st' := ⟨[], [⟨225, 4, GBinding.trs (x29), false⟩]⟩) trivial (by first | rfl | simp)) (keeps_all hC (boxes0) (Nat.le_of_ble_eq_true rfl)) (q := (.tup [(bif false then .acc 4 (GBinding.trs (x27)) 0 else .t (.row 4 (GBinding.trs (x27)))), .t (.leaf (.bool (false)))] : PV)) (by (repeat' (first | exact PV.Le.refl _ | exact LeL.nil | exact PV.Le.nil _ | exact PV.Le.acc _ _ _ | apply LeL.cons | apply PV.Le.agg | apply PV.Le.tup))) rfl ⟨rfl, rfl⟩
            · skip
              rcases Classical.em (x27 = x29) with hg32 | hg32
              · skip
                have hg32c := hg32
                subst hg32
                refine AL.cons rfl (AOp.callPE (pre := ⟨[], [⟨225, 4, GBinding.trs (plist), false⟩]⟩) (st' := ⟨[], [⟨225, 4, GBinding.trs (x27), false⟩]⟩) (ps := [_, _, _]) (qs := [.t (.row 3 (GType.trs (pp.gArgs))), .t (.row 3 (GType.trs (pt.gArgs))), .acc 4 (GBinding.trs (plist)) 0]) [] [0] rfl rfl Tryz.func199 (by kernel_rfl) rfl rfl rfl (Part0.of trivial ⟨rfl, trivial⟩ (by decide) (by decide)) (by (repeat' (first | exact PV.Le.refl _ | exact LeL.nil | exact PV.Le.nil _ | exact PV.Le.acc _ _ _ | apply LeL.cons | apply PV.Le.agg | apply PV.Le.tup))) rfl rfl rfl (h_sl7All pp.gArgs pt.gArgs plist _ hq26)) ?_
                refine AL.cons rfl (AOp.extract rfl rfl rfl rfl) ?_
                refine AL.cons rfl (AOp.extract rfl rfl rfl rfl) ?_
                refine AL.cons rfl (AOp.move (.inr rfl) rfl rfl) ?_
                refine AL.cons rfl (AOp.move (.inr rfl) rfl rfl) ?_
                refine AL.nil ?_
                refine AWP.ret ?_
                have e33 : sl7Match_G fu r_sl7All r_sl7Match pp pt plist = some (x27, true, x27) := swF h2 (swF g16 (swF g19 (swF h24 (bdS hq26 (swT rfl (gdT hg32c (rfl)))))))
                have hz : (x27, true, x27) = r := Option.some.inj (e33.symm.trans H)
                subst hz
                exact Ends.mk (ps := [_, _]) (by first | exact .inr rfl | exact .inl rfl) ⟨rfl, rfl, trivial⟩ rfl (StLe.mk' (st' := ⟨[], [⟨225, 4, GBinding.trs (x27), false⟩]⟩) trivial (by first | rfl | simp)) (keeps_all hC (boxes0) (Nat.le_of_ble_eq_true rfl)) (q := (.tup [(bif true then .acc 4 (GBinding.trs (x27)) 0 else .t (.row 4 (GBinding.trs (x27)))), .t (.leaf (.bool (true)))] : PV)) (by (repeat' (first | exact PV.Le.refl _ | exact LeL.nil | exact PV.Le.nil _ | exact PV.Le.acc _ _ _ | apply LeL.cons | apply PV.Le.agg | apply PV.Le.tup))) rfl ⟨rfl, rfl⟩
              · skip
                have e34 : sl7Match_G fu r_sl7All r_sl7Match pp pt plist = none := swF h2 (swF g16 (swF g19 (swF h24 (bdS hq26 (swT rfl (gdF hg32))))))
                exact none_some H e34
mutual
noncomputable def sl7All_M : Nat → (List GType) → (List GType) → (List GBinding) → Option ((List GBinding) × Bool × (List GBinding))
  | 0, _, _, _ => none
  | fu + 1, pp, pall, plist => sl7All_G fu (sl7All_M fu) (sl7Match_M fu) pp pall plist
noncomputable def sl7Match_M : Nat → GType → GType → (List GBinding) → Option ((List GBinding) × Bool × (List GBinding))
  | 0, _, _, _ => none
  | fu + 1, pp, pt, plist => sl7Match_G fu (sl7All_M fu) (sl7Match_M fu) pp pt plist
end
theorem sl7All_all (fu : Nat) : (∀ (pp : List GType) (pall : List GType) (plist : List GBinding) (r : (List GBinding) × Bool × (List GBinding)), sl7All_M fu pp pall plist = some r → ACalls Tryz.prog 199 [.t (.row 3 (GType.trs (pp))), .t (.row 3 (GType.trs (pall))), .acc 4 (GBinding.trs (plist)) 0] ⟨[], [⟨225, 4, GBinding.trs (plist), false⟩]⟩ (fun q t => q = (.tup [(bif r.2.1 then .acc 4 (GBinding.trs (r.1)) 0 else .t (.row 4 (GBinding.trs (r.1)))), .t (.leaf (.bool (r.2.1)))] : PV) ∧ t = ⟨[], [⟨225, 4, GBinding.trs (r.2.2), false⟩]⟩)) ∧ (∀ (pp : GType) (pt : GType) (plist : List GBinding) (r : (List GBinding) × Bool × (List GBinding)), sl7Match_M fu pp pt plist = some r → ACalls Tryz.prog 214 [(GType.pv pp), (GType.pv pt), .acc 4 (GBinding.trs (plist)) 0] ⟨[], [⟨225, 4, GBinding.trs (plist), false⟩]⟩ (fun q t => q = (.tup [(bif r.2.1 then .acc 4 (GBinding.trs (r.1)) 0 else .t (.row 4 (GBinding.trs (r.1)))), .t (.leaf (.bool (r.2.1)))] : PV) ∧ t = ⟨[], [⟨225, 4, GBinding.trs (r.2.2), false⟩]⟩)) := by
  induction fu with
  | zero => exact ⟨(fun pp pall plist r H => by simp only [sl7All_M] at H; cases H), (fun pp pt plist r H => by simp only [sl7Match_M] at H; cases H)⟩
  | succ fu ih => exact ⟨(fun pp pall plist r H => by simp only [sl7All_M] at H; exact sl7All_step (sl7All_M fu) (sl7Match_M fu) fu ih.1 ih.2 pp pall plist r H), (fun pp pt plist r H => by simp only [sl7Match_M] at H; exact sl7Match_step (sl7All_M fu) (sl7Match_M fu) fu ih.1 ih.2 pp pt plist r H)⟩
theorem sl7All_ok (fu : Nat) (pp : List GType) (pall : List GType) (plist : List GBinding) (r : (List GBinding) × Bool × (List GBinding)) (H : sl7All_M fu pp pall plist = some r) : ACalls Tryz.prog 199 [.t (.row 3 (GType.trs (pp))), .t (.row 3 (GType.trs (pall))), .acc 4 (GBinding.trs (plist)) 0] ⟨[], [⟨225, 4, GBinding.trs (plist), false⟩]⟩ (fun q t => q = (.tup [(bif r.2.1 then .acc 4 (GBinding.trs (r.1)) 0 else .t (.row 4 (GBinding.trs (r.1)))), .t (.leaf (.bool (r.2.1)))] : PV) ∧ t = ⟨[], [⟨225, 4, GBinding.trs (r.2.2), false⟩]⟩) := (sl7All_all fu).1 pp pall plist r H
noncomputable def sMatchAll_M (fu : Nat)  (pp : List GType) (pall : List GType) : Option ((List GBinding) × Bool) :=
 sw (!decide ((((pp.length : Nat) : Int) : Int) = ((pall.length : Nat) : Int)))
 (some (([]), false))
 (bd (sl7All_M fu pp pall ([])) (fun (x6, x7, x8) =>
 sw (x7)
 (gd (x6 = x8)
 (some (x6, true)))
 (some (([]), false))))
set_option maxRecDepth 100000 in
set_option maxHeartbeats 4000000 in
theorem sMatchAll_ok  (fu : Nat)  (pp : List GType) (pall : List GType) (r : (List GBinding) × Bool) (H : sMatchAll_M fu pp pall = some r) : AFun Tryz.prog 156 [.t (.row 3 (GType.trs (pp))), .t (.row 3 (GType.trs (pall)))] (.tup [.t (.row 4 (GBinding.trs (r.1))), .t (.leaf (.bool (r.2)))] : PV) := by
  refine ACalls.intro Tryz.func156 rfl (by first | decide | (simp; done) | (simp; decide)) ?_
  intro C hC
  refine AWP.fact (lk_lenN 0 rfl rfl (GType.trs_len _)) (fun hl1 => ?_)
  refine AWP.fact (lk_lenN 1 rfl rfl (GType.trs_len _)) (fun hl2 => ?_)
  refine AWP.seq ?_
  refine AWP.region_lit ?_
  refine AL.cons rfl (AOp.move (.inr rfl) rfl rfl) ?_
  refine AL.cons rfl (AOp.move (.inr rfl) rfl rfl) ?_
  refine AL.nil ?_
  refine AWP.seq ?_
  refine AWP.seq ?_
  refine AWP.region_lit ?_
  refine AL.cons rfl (AOp.move (.inl rfl) rfl rfl) ?_
  refine AL.cons rfl (AOp.lenN rfl rfl rfl rfl el45 (GType.trs_len _)) ?_
  refine AL.cons rfl (AOp.move (.inl rfl) rfl rfl) ?_
  refine AL.cons rfl (AOp.lenN rfl rfl rfl rfl el45 (GType.trs_len _)) ?_
  refine AL.cons rfl (AOp.neqI rfl rfl rfl rfl) ?_
  refine AL.nil ?_
  refine AWP.cond rfl (fun h3 => ?_) (fun h3 => ?_)
  · skip
    refine AWP.seq ?_
    refine AWP.region_lit ?_
    refine AL.cons rfl (AOp.buildSliceA (es := []) (es' := GBinding.trs ([])) (cs := []) rfl rfl el138 zr225 rfl rfl (by (repeat' (first | exact PV.Le.refl _ | exact LeL.nil | exact PV.Le.nil _ | exact PV.Le.acc _ _ _ | apply LeL.cons | apply PV.Le.agg | apply PV.Le.tup))) rfl (by simp [GBinding.cs]) (by decide) rfl (by decide) (by simp [GBinding.trs_map, GBinding.tr_cs])) ?_
    refine AL.cons rfl (AOp.move (.inr rfl) rfl rfl) ?_
    refine AL.cons rfl (AOp.move (.inr rfl) rfl rfl) ?_
    refine AL.nil ?_
    refine AWP.ret ?_
    have e4 : sMatchAll_M fu pp pall = some (([]), false) := swT h3 (rfl)
    have hz : (([]), false) = r := Option.some.inj (e4.symm.trans H)
    subst hz
    exact Ends.mk (ps := [_, _]) (by first | exact .inr rfl | exact .inl rfl) ⟨rfl, rfl, trivial⟩ rfl (StLe.mk' (st' := ⟨[], []⟩) trivial rfl) (keeps_nil hC) (q := (.tup [.t (.row 4 (GBinding.trs (([])))), .t (.leaf (.bool (false)))] : PV)) (by (repeat' (first | exact PV.Le.refl _ | exact LeL.nil | exact PV.Le.nil _ | exact PV.Le.acc _ _ _ | apply LeL.cons | apply PV.Le.agg | apply PV.Le.tup))) rfl ⟨rfl, rfl⟩
  · skip
    refine AWP.skip ?_
    refine AWP.seq ?_
    refine AWP.region_lit ?_
    refine AL.cons rfl (AOp.move (.inl rfl) rfl rfl) ?_
    refine AL.cons rfl (AOp.move (.inl rfl) rfl rfl) ?_
    refine AL.cons rfl (AOp.buildSliceA (es := []) (es' := GBinding.trs ([])) (cs := []) rfl rfl el138 zr225 rfl rfl (by (repeat' (first | exact PV.Le.refl _ | exact LeL.nil | exact PV.Le.nil _ | exact PV.Le.acc _ _ _ | apply LeL.cons | apply PV.Le.agg | apply PV.Le.tup))) rfl (by simp [GBinding.cs]) (by decide) rfl (by decide) (by simp [GBinding.trs_map, GBinding.tr_cs])) ?_
    rcases hq5 : sl7All_M fu pp pall ([]) with _ | ⟨x6, x7, x8⟩
    · skip
      have e9 : sMatchAll_M fu pp pall = none := swF h3 (bdN hq5)
      exact none_some H e9
    · skip
      cases x7
      · skip
        refine AL.cons rfl (AOp.callPE (pre := ⟨[], [⟨225, 4, GBinding.trs ([]), false⟩]⟩) (st' := ⟨[], [⟨225, 4, GBinding.trs (x8), false⟩]⟩) (ps := [_, _, _]) (qs := [.t (.row 3 (GType.trs (pp))), .t (.row 3 (GType.trs (pall))), .acc 4 (GBinding.trs ([])) 0]) [] [0] rfl rfl Tryz.func199 (by kernel_rfl) rfl rfl rfl (Part0.of trivial ⟨rfl, trivial⟩ (by decide) (by decide)) (by (repeat' (first | exact PV.Le.refl _ | exact LeL.nil | exact PV.Le.nil _ | exact PV.Le.acc _ _ _ | apply LeL.cons | apply PV.Le.agg | apply PV.Le.tup))) rfl rfl rfl (sl7All_ok fu pp pall ([]) _ hq5)) ?_
        refine AL.cons rfl (AOp.move (.inl rfl) rfl rfl) ?_
        refine AL.cons rfl (AOp.extract rfl rfl rfl rfl) ?_
        refine AL.cons rfl (AOp.extract rfl rfl rfl rfl) ?_
        refine AL.cons rfl (AOp.move (.inr rfl) rfl rfl) ?_
        refine AL.cons rfl (AOp.move (.inr rfl) rfl rfl) ?_
        refine AL.nil ?_
        refine AWP.seq ?_
        refine AWP.seq ?_
        refine AWP.region_lit ?_
        refine AL.cons rfl (AOp.move (.inl rfl) rfl rfl) ?_
        refine AL.cons rfl (AOp.notB rfl rfl rfl) ?_
        refine AL.nil ?_
        refine AWP.cond rfl (fun h10 => ?_) (fun h10 => ?_)
        · skip
          refine AWP.seq ?_
          refine AWP.region_lit ?_
          refine AL.cons rfl (AOp.buildSliceA (es := []) (es' := GBinding.trs ([])) (cs := []) rfl rfl el138 zr225 rfl rfl (by (repeat' (first | exact PV.Le.refl _ | exact LeL.nil | exact PV.Le.nil _ | exact PV.Le.acc _ _ _ | apply LeL.cons | apply PV.Le.agg | apply PV.Le.tup))) rfl (by simp [GBinding.cs]) (by decide) rfl (by decide) (by simp [GBinding.trs_map, GBinding.tr_cs])) ?_
          refine AL.cons rfl (AOp.move (.inr rfl) rfl rfl) ?_
          refine AL.cons rfl (AOp.move (.inr rfl) rfl rfl) ?_
          refine AL.nil ?_
          refine AWP.ret ?_
          have e11 : sMatchAll_M fu pp pall = some (([]), false) := swF h3 (bdS hq5 (swF rfl (rfl)))
          have hz : (([]), false) = r := Option.some.inj (e11.symm.trans H)
          subst hz
          exact Ends.mk (ps := [_, _]) (by first | exact .inr rfl | exact .inl rfl) ⟨rfl, rfl, trivial⟩ rfl (StLe.mk' (st' := ⟨[], []⟩) trivial rfl) (keeps_nil hC) (q := (.tup [.t (.row 4 (GBinding.trs (([])))), .t (.leaf (.bool (false)))] : PV)) (by (repeat' (first | exact PV.Le.refl _ | exact LeL.nil | exact PV.Le.nil _ | exact PV.Le.acc _ _ _ | apply LeL.cons | apply PV.Le.agg | apply PV.Le.tup))) rfl ⟨rfl, rfl⟩
        · skip
          exact absurd (h10.symm.trans (congrArg (fun b => !b) (rfl : false = false))) (by decide)
      · skip
        rcases Classical.em (x6 = x8) with hg12 | hg12
        · skip
          have hg12c := hg12
          subst hg12
          refine AL.cons rfl (AOp.callPE (pre := ⟨[], [⟨225, 4, GBinding.trs ([]), false⟩]⟩) (st' := ⟨[], [⟨225, 4, GBinding.trs (x6), false⟩]⟩) (ps := [_, _, _]) (qs := [.t (.row 3 (GType.trs (pp))), .t (.row 3 (GType.trs (pall))), .acc 4 (GBinding.trs ([])) 0]) [] [0] rfl rfl Tryz.func199 (by kernel_rfl) rfl rfl rfl (Part0.of trivial ⟨rfl, trivial⟩ (by decide) (by decide)) (by (repeat' (first | exact PV.Le.refl _ | exact LeL.nil | exact PV.Le.nil _ | exact PV.Le.acc _ _ _ | apply LeL.cons | apply PV.Le.agg | apply PV.Le.tup))) rfl rfl rfl (sl7All_ok fu pp pall ([]) _ hq5)) ?_
          refine AL.cons rfl (AOp.move (.inl rfl) rfl rfl) ?_
          refine AL.cons rfl (AOp.extract rfl rfl rfl rfl) ?_
          refine AL.cons rfl (AOp.extract rfl rfl rfl rfl) ?_
          refine AL.cons rfl (AOp.move (.inr rfl) rfl rfl) ?_
          refine AL.cons rfl (AOp.move (.inr rfl) rfl rfl) ?_
          refine AL.nil ?_
          refine AWP.seq ?_
          refine AWP.seq ?_
          refine AWP.region_lit ?_
          refine AL.cons rfl (AOp.move (.inl rfl) rfl rfl) ?_
          refine AL.cons rfl (AOp.notB rfl rfl rfl) ?_
          refine AL.nil ?_
          refine AWP.cond rfl (fun h13 => ?_) (fun h13 => ?_)
          · skip
            exact absurd (h13.symm.trans (congrArg (fun b => !b) (rfl : true = true))) (by decide)
          · skip
            refine AWP.skip ?_
            refine AWP.seq ?_
            refine AWP.region_lit ?_
            refine AL.cons rfl (AOp.move (.inl rfl) rfl rfl) ?_
            refine AL.cons rfl (AOp.move (.inr rfl) rfl rfl) ?_
            refine AL.cons rfl (AOp.move (.inr rfl) rfl rfl) ?_
            refine AL.nil ?_
            refine AWP.ret ?_
            have e14 : sMatchAll_M fu pp pall = some (x6, true) := swF h3 (bdS hq5 (swT rfl (gdT hg12c (rfl))))
            have hz : (x6, true) = r := Option.some.inj (e14.symm.trans H)
            subst hz
            exact Ends.mk (ps := [_, _]) (by first | exact .inr rfl | exact .inl rfl) ⟨rfl, rfl, trivial⟩ rfl (StLe.mk' (st' := ⟨[], []⟩) trivial rfl) (keeps_nil hC) (q := (.tup [.t (.row 4 (GBinding.trs (x6))), .t (.leaf (.bool (true)))] : PV)) (by (repeat' (first | exact PV.Le.refl _ | exact LeL.nil | exact PV.Le.nil _ | exact PV.Le.acc _ _ _ | apply LeL.cons | apply PV.Le.agg | apply PV.Le.tup))) rfl ⟨rfl, rfl⟩
        · skip
          have e15 : sMatchAll_M fu pp pall = none := swF h3 (bdS hq5 (swT rfl (gdF hg12)))
          exact none_some H e15

noncomputable def sMatch_M (fu : Nat)  (pp : GType) (pt : GType) : Option ((List GBinding) × Bool) :=
 bd (sMatchAll_M fu ([pp] : List GType) ([pt] : List GType)) (fun (x2, x3) =>
 some (x2, x3))
set_option maxRecDepth 100000 in
set_option maxHeartbeats 4000000 in
theorem sMatch_ok  (fu : Nat)  (pp : GType) (pt : GType) (r : (List GBinding) × Bool) (H : sMatch_M fu pp pt = some r) : AFun Tryz.prog 102 [(GType.pv pp), (GType.pv pt)] (.tup [.t (.row 4 (GBinding.trs (r.1))), .t (.leaf (.bool (r.2)))] : PV) := by
  refine ACalls.intro Tryz.func102 rfl (by first | decide | (simp; done) | (simp; decide)) ?_
  intro C hC
  refine AWP.seq ?_
  refine AWP.region_lit ?_
  refine AL.cons rfl (AOp.box (cs := [.t (.leaf (.int .i64 (pp.gKind))), .t (.leaf (.string (pp.gName))), .t (.row 3 (GType.trs (pp.gArgs)))]) rfl rfl rfl rfl rfl) ?_
  refine AL.cons rfl (AOp.box (cs := [.t (.leaf (.int .i64 (pt.gKind))), .t (.leaf (.string (pt.gName))), .t (.row 3 (GType.trs (pt.gArgs)))]) rfl rfl rfl rfl rfl) ?_
  refine AL.cons rfl (AOp.move (.inr rfl) rfl rfl) ?_
  refine AL.cons rfl (AOp.move (.inr rfl) rfl rfl) ?_
  refine AL.nil ?_
  refine AWP.seq ?_
  refine AWP.region_lit ?_
  refine AL.cons rfl (AOp.loadPtr (cs := [.t (.leaf (.int .i64 (pp.gKind))), .t (.leaf (.string (pp.gName))), .t (.row 3 (GType.trs (pp.gArgs)))]) rfl rfl rfl rfl sh47 rfl rfl) ?_
  refine AL.cons rfl (AOp.buildSliceE (es := [GType.cs pp]) (es' := GType.trs (([pp] : List GType))) (cs := [.t (.leaf (.int .i64 (pp.gKind))), .t (.leaf (.string (pp.gName))), .t (.row 3 (GType.trs (pp.gArgs)))]) rfl rfl el45 zr47 rfl rfl (by (repeat' (first | exact PV.Le.refl _ | exact LeL.nil | exact PV.Le.nil _ | exact PV.Le.acc _ _ _ | apply LeL.cons | apply PV.Le.agg | apply PV.Le.tup))) rfl (by simp [GType.cs]) (by decide) rfl (by decide) (by simp [GType.trs_map, GType.tr_cs])) ?_
  refine AL.cons rfl (AOp.loadPtr (cs := [.t (.leaf (.int .i64 (pt.gKind))), .t (.leaf (.string (pt.gName))), .t (.row 3 (GType.trs (pt.gArgs)))]) rfl rfl rfl rfl sh47 rfl rfl) ?_
  refine AL.cons rfl (AOp.buildSliceE (es := [GType.cs pt]) (es' := GType.trs (([pt] : List GType))) (cs := [.t (.leaf (.int .i64 (pt.gKind))), .t (.leaf (.string (pt.gName))), .t (.row 3 (GType.trs (pt.gArgs)))]) rfl rfl el45 zr47 rfl rfl (by (repeat' (first | exact PV.Le.refl _ | exact LeL.nil | exact PV.Le.nil _ | exact PV.Le.acc _ _ _ | apply LeL.cons | apply PV.Le.agg | apply PV.Le.tup))) rfl (by simp [GType.cs]) (by decide) rfl (by decide) (by simp [GType.trs_map, GType.tr_cs])) ?_
  rcases hq1 : sMatchAll_M fu ([pp] : List GType) ([pt] : List GType) with _ | ⟨x2, x3⟩
  · skip
    have e4 : sMatch_M fu pp pt = none := bdN hq1
    exact none_some H e4
  · skip
    refine AL.cons rfl (AOp.callF (res := .tup [.t (.row 4 (GBinding.trs (x2))), .t (.leaf (.bool (x3)))]) (ps := [_, _]) rfl rfl Tryz.func156 (by kernel_rfl) rfl rfl (by (repeat' (first | exact PV.Le.refl _ | exact LeL.nil | exact PV.Le.nil _ | exact PV.Le.acc _ _ _ | apply LeL.cons | apply PV.Le.agg | apply PV.Le.tup))) rfl rfl (sMatchAll_ok fu ([pp] : List GType) ([pt] : List GType) _ hq1)) ?_
    refine AL.cons rfl (AOp.extract rfl rfl rfl rfl) ?_
    refine AL.cons rfl (AOp.extract rfl rfl rfl rfl) ?_
    refine AL.cons rfl (AOp.move (.inr rfl) rfl rfl) ?_
    refine AL.cons rfl (AOp.move (.inr rfl) rfl rfl) ?_
    refine AL.nil ?_
    refine AWP.ret ?_
    have e5 : sMatch_M fu pp pt = some (x2, x3) := bdS hq1 (rfl)
    have hz : (x2, x3) = r := Option.some.inj (e5.symm.trans H)
    subst hz
    exact Ends.mk (ps := [_, _]) (by first | exact .inr rfl | exact .inl rfl) ⟨rfl, rfl, trivial⟩ rfl (StLe.mk' (st' := ⟨[], []⟩) trivial rfl) (keeps_nil hC) (q := (.tup [.t (.row 4 (GBinding.trs (x2))), .t (.leaf (.bool (x3)))] : PV)) (by (repeat' (first | exact PV.Le.refl _ | exact LeL.nil | exact PV.Le.nil _ | exact PV.Le.acc _ _ _ | apply LeL.cons | apply PV.Le.agg | apply PV.Le.tup))) rfl ⟨rfl, rfl⟩

noncomputable def sMatches_M (fu : Nat)  (pp : GType) (pt : GType) : Option Bool :=
 bd (sMatch_M fu pp pt) (fun (x2, x3) =>
 some x3)
set_option maxRecDepth 100000 in
set_option maxHeartbeats 4000000 in
theorem sMatches_ok  (fu : Nat)  (pp : GType) (pt : GType) (r : Bool) (H : sMatches_M fu pp pt = some r) : AFun Tryz.prog 113 [(GType.pv pp), (GType.pv pt)] (.t (.leaf (.bool (r))) : PV) := by
  refine ACalls.intro Tryz.func113 rfl (by first | decide | (simp; done) | (simp; decide)) ?_
  intro C hC
  refine AWP.seq ?_
  refine AWP.region_lit ?_
  refine AL.cons rfl (AOp.box (cs := [.t (.leaf (.int .i64 (pp.gKind))), .t (.leaf (.string (pp.gName))), .t (.row 3 (GType.trs (pp.gArgs)))]) rfl rfl rfl rfl rfl) ?_
  refine AL.cons rfl (AOp.box (cs := [.t (.leaf (.int .i64 (pt.gKind))), .t (.leaf (.string (pt.gName))), .t (.row 3 (GType.trs (pt.gArgs)))]) rfl rfl rfl rfl rfl) ?_
  refine AL.cons rfl (AOp.move (.inr rfl) rfl rfl) ?_
  refine AL.nil ?_
  refine AWP.seq ?_
  refine AWP.region_lit ?_
  refine AL.cons rfl (AOp.loadPtr (cs := [.t (.leaf (.int .i64 (pp.gKind))), .t (.leaf (.string (pp.gName))), .t (.row 3 (GType.trs (pp.gArgs)))]) rfl rfl rfl rfl sh47 rfl rfl) ?_
  refine AL.cons rfl (AOp.loadPtr (cs := [.t (.leaf (.int .i64 (pt.gKind))), .t (.leaf (.string (pt.gName))), .t (.row 3 (GType.trs (pt.gArgs)))]) rfl rfl rfl rfl sh47 rfl rfl) ?_
  rcases hq1 : sMatch_M fu pp pt with _ | ⟨x2, x3⟩
  · skip
    have e4 : sMatches_M fu pp pt = none := bdN hq1
    exact none_some H e4
  · skip
    refine AL.cons rfl (AOp.callF (res := .tup [.t (.row 4 (GBinding.trs (x2))), .t (.leaf (.bool (x3)))]) (ps := [_, _]) rfl rfl Tryz.func102 (by kernel_rfl) rfl rfl (by (repeat' (first | exact PV.Le.refl _ | exact LeL.nil | exact PV.Le.nil _ | exact PV.Le.acc _ _ _ | apply LeL.cons | apply PV.Le.agg | apply PV.Le.tup))) rfl rfl (sMatch_ok fu pp pt _ hq1)) ?_
    refine AL.cons rfl (AOp.move (.inl rfl) rfl rfl) ?_
    refine AL.cons rfl (AOp.extract rfl rfl rfl rfl) ?_
    refine AL.cons rfl (AOp.extract rfl rfl rfl rfl) ?_
    refine AL.cons rfl (AOp.move (.inr rfl) rfl rfl) ?_
    refine AL.cons rfl (AOp.move (.inr rfl) rfl rfl) ?_
    refine AL.nil ?_
    refine AWP.seq ?_
    refine AWP.region_lit ?_
    refine AL.cons rfl (AOp.move (.inl rfl) rfl rfl) ?_
    refine AL.cons rfl (AOp.move (.inr rfl) rfl rfl) ?_
    refine AL.nil ?_
    refine AWP.ret ?_
    have e5 : sMatches_M fu pp pt = some x3 := bdS hq1 (rfl)
    have hz : x3 = r := Option.some.inj (e5.symm.trans H)
    subst hz
    exact Ends.mk (ps := [_]) (by first | exact .inr rfl | exact .inl rfl) ⟨rfl, trivial⟩ rfl (StLe.mk' (st' := ⟨[], []⟩) trivial rfl) (keeps_nil hC) (q := (.t (.leaf (.bool (x3))) : PV)) (by (repeat' (first | exact PV.Le.refl _ | exact LeL.nil | exact PV.Le.nil _ | exact PV.Le.acc _ _ _ | apply LeL.cons | apply PV.Le.agg | apply PV.Le.tup))) rfl ⟨rfl, rfl⟩

noncomputable def iLookup_F1 (fu : Nat) (plist : List GBinding) (pv : ByteArray) : Nat → Unit → Option (LR Unit (GType × Bool)) :=
 fun i2 _ => sw (decide ((atD plist i2).gVar = pv))
 (gd (Tr.bulkL (GType.tr ((atD plist i2).gType)) ≤ 68719476735)
 (some (.ret (((atD plist i2).gType), true))))
 (some (.next ()))
noncomputable def iLookup_R1 (fu : Nat) (plist : List GBinding) (pv : ByteArray) : Option ((GType × Bool) ⊕ Unit) :=
 loopN (iLookup_F1 fu plist pv) (plist.length - 0) 0 ()
noncomputable def iLookup_M (fu : Nat)  (plist : List GBinding) (pv : ByteArray) : Option (GType × Bool) :=
 so (iLookup_R1 fu plist pv) (fun _ =>
 some ((GType.mk 0 (⟨#[]⟩) []), false))
set_option maxRecDepth 100000 in
set_option maxHeartbeats 4000000 in
theorem iLookup_ok  (fu : Nat)  (plist : List GBinding) (pv : ByteArray) (r : GType × Bool) (H : iLookup_M fu plist pv = some r) : AFun Tryz.prog 160 [.t (.row 4 (GBinding.trs (plist))), .t (.leaf (.string (pv)))] (.tup [(GType.pv r.1), .t (.leaf (.bool (r.2)))] : PV) := by
  refine ACalls.intro Tryz.func160 rfl (by first | decide | (simp; done) | (simp; decide)) ?_
  intro C hC
  refine AWP.fact (lk_lenN 0 rfl rfl (GBinding.trs_len _)) (fun hl1 => ?_)
  refine AWP.seq ?_
  refine AWP.region_lit ?_
  refine AL.cons rfl (AOp.alloc rfl rfl zr47) ?_
  refine AL.cons rfl (AOp.move (.inr rfl) rfl rfl) ?_
  refine AL.nil ?_
  refine AWP.seq ?_
  refine AWP.seq ?_
  refine AWP.region_lit ?_
  refine AL.cons rfl (AOp.move (.inl rfl) rfl rfl) ?_
  refine AL.cons rfl (AOp.lenN rfl rfl rfl rfl el138 (GBinding.trs_len _)) ?_
  refine AL.cons rfl (AOp.move (.inl rfl) rfl rfl) ?_
  refine AL.nil ?_
  refine AWP.cut (ι := Unit) (fun _ => iLookup_R1 fu plist pv = some (.inr ())) (fun _ => ⟨[(4, .ptr 0 0), (5, .t (.leaf (.bool (false))))], ⟨[some ⟨47, [.t (.leaf (.int .i64 (0))), .t (.leaf (.string (⟨#[]⟩))), .nil]⟩], []⟩⟩) (by repeat' (first | exact qcEnds | exact ncAWP | exact ncRound | exact ncEx | apply qcThen | apply qcBlock | apply qcCut)) ?_ ?_
  · skip
    refine AWP.block ?_
    refine AWP.loopR (ι := Nat × Unit) (fun (i2, _) => iLookup_R1 fu plist pv = loopN (iLookup_F1 fu plist pv) (plist.length - i2) i2 ()) (fun (i2, _) => ⟨[(1, .t (.leaf (.string (pv)))), (4, .ptr 0 0), (5, .t (.leaf (.bool (false)))), (8, .t (.row 4 (GBinding.trs (plist)))), (9, .t (.leaf (.int .i64 (((plist.length : Nat) : Int))))), (10, .t (.leaf (.int .i64 (((i2 : Nat) : Int)))))], ⟨[some ⟨47, [.t (.leaf (.int .i64 (0))), .t (.leaf (.string (⟨#[]⟩))), .nil]⟩], []⟩⟩) (fun (i2, _) => plist.length - i2) (0, ()) ?_ ?_ ?_
    · exact rfl
    · skip
      exact Wk.mk (StLe.mk' ⟨⟨rfl, by (repeat' (first | exact PV.Le.refl _ | exact LeL.nil | exact PV.Le.nil _ | exact PV.Le.acc _ _ _ | apply LeL.cons | apply PV.Le.agg | apply PV.Le.tup)), rfl⟩, trivial⟩ rfl) (keeps_nil hC) ⟨⟨_, rfl, .refl _, rfl⟩, ⟨⟨_, rfl, .refl _, rfl⟩, ⟨⟨_, rfl, .refl _, rfl⟩, ⟨⟨_, rfl, .refl _, rfl⟩, ⟨⟨_, rfl, .refl _, rfl⟩, ⟨⟨_, rfl, by (repeat' (first | exact PV.Le.refl _ | exact LeL.nil | exact PV.Le.nil _ | exact PV.Le.acc _ _ _ | apply LeL.cons | apply PV.Le.agg | apply PV.Le.tup)), rfl⟩, trivial⟩⟩⟩⟩⟩⟩
    · rintro ⟨i2, ⟨⟩⟩ hJ3
      refine AWP.seq ?_
      refine AWP.region_lit ?_
      refine AL.cons rfl (AOp.lss rfl rfl rfl rfl) ?_
      refine AL.nil ?_
      refine AWP.seq ?_
      refine AWP.cond rfl (fun h4 => ?_) (fun h4 => ?_)
      · skip
        have h4l : i2 < plist.length := nat_lt_of2 h4
        have h4n := nat_lt_of h4
        refine AWP.skip ?_
        refine AWP.seq ?_
        refine AWP.block ?_
        refine AWP.seq ?_
        refine AWP.region_lit ?_
        refine AL.cons rfl (AOp.index (k := i2) rfl rfl rfl rfl rfl (GBinding.trs_at h4n) el138) ?_
        refine AL.cons rfl (AOp.loadEptr (ds := [.leaf (.string ((atD plist i2).gVar)), .leaf (.int .i64 ((atD plist i2).gType.gKind)), .leaf (.string ((atD plist i2).gType.gName)), .row 3 (GType.trs ((atD plist i2).gType.gArgs))]) rfl rfl rfl sh225 rfl rfl) ?_
        refine AL.cons rfl (AOp.alloc rfl rfl zr225) ?_
        refine AL.cons rfl (AOp.storePtr (cs := [.t (.leaf (.string ((atD plist i2).gVar))), .t (.leaf (.int .i64 ((atD plist i2).gType.gKind))), .t (.leaf (.string ((atD plist i2).gType.gName))), .t (.row 3 (GType.trs ((atD plist i2).gType.gArgs)))]) (ds := [.t (.leaf (.string ((atD plist i2).gVar))), .t (.leaf (.int .i64 ((atD plist i2).gType.gKind))), .t (.leaf (.string ((atD plist i2).gType.gName))), .t (.row 3 (GType.trs ((atD plist i2).gType.gArgs)))]) rfl rfl rfl rfl rfl rfl rfl sz225 (Nat.le_of_ble_eq_true rfl) rfl) ?_
        refine AL.nil ?_
        refine AWP.seq ?_
        refine AWP.region_lit ?_
        refine AL.cons rfl (AOp.fieldPtr (k := 1) (d := 0) (e := 0) rfl rfl rfl fo225_0) ?_
        refine AL.cons rfl (AOp.loadPtr1 rfl rfl rfl rfl sh9 rfl) ?_
        refine AL.cons rfl (AOp.move (.inl rfl) rfl rfl) ?_
        refine AL.cons rfl (AOp.eqlS rfl rfl rfl rfl) ?_
        refine AL.nil ?_
        refine AWP.cond rfl (fun h5 => ?_) (fun h5 => ?_)
        · skip
          refine AWP.seq ?_
          refine AWP.region_lit ?_
          refine AL.cons rfl (AOp.fieldPtr (k := 1) (d := 0) (e := 1) rfl rfl rfl fo225_1) ?_
          refine AL.cons rfl (AOp.loadPtr (cs := [.t (.leaf (.int .i64 (((atD plist i2).gType).gKind))), .t (.leaf (.string (((atD plist i2).gType).gName))), .t (.row 3 (GType.trs (((atD plist i2).gType).gArgs)))]) rfl rfl rfl rfl sh47 rfl rfl) ?_
          rcases Classical.em (Tr.bulkL (GType.tr ((atD plist i2).gType)) ≤ 68719476735) with hg6 | hg6
          · skip
            refine AL.cons rfl (AOp.callF (res := (GType.pv ((atD plist i2).gType))) (ps := [_]) rfl rfl Tryz.func111 (by kernel_rfl) rfl rfl (by (repeat' (first | exact PV.Le.refl _ | exact LeL.nil | exact PV.Le.nil _ | exact PV.Le.acc _ _ _ | apply LeL.cons | apply PV.Le.agg | apply PV.Le.tup))) rfl rfl (icopyType_fn ((atD plist i2).gType) hg6)) ?_
            refine AL.cons rfl (AOp.storePtr (cs := [.t (.leaf (.int .i64 (((atD plist i2).gType).gKind))), .t (.leaf (.string (((atD plist i2).gType).gName))), .t (.row 3 (GType.trs (((atD plist i2).gType).gArgs)))]) (ds := [.t (.leaf (.int .i64 (((atD plist i2).gType).gKind))), .t (.leaf (.string (((atD plist i2).gType).gName))), .t (.row 3 (GType.trs (((atD plist i2).gType).gArgs)))]) rfl rfl rfl rfl rfl rfl rfl sz47 (Nat.le_of_ble_eq_true rfl) rfl) ?_
            refine AL.cons rfl (AOp.move (.inr rfl) rfl rfl) ?_
            refine AL.nil ?_
            refine AWP.ret ?_
            have e7 : (iLookup_F1 fu plist pv) i2 () = some (.ret (((atD plist i2).gType), true)) := swT h5 (gdT hg6 (rfl))
            have e8 : iLookup_R1 fu plist pv = some (.inl (((atD plist i2).gType), true)) := loopN_ret h4l hJ3 e7
            have e9 : iLookup_M fu plist pv = some (((atD plist i2).gType), true) := soL e8
            have hz : (((atD plist i2).gType), true) = r := Option.some.inj (e9.symm.trans H)
            subst hz
            exact Ends.mk (ps := [_, _]) (by first | exact .inr rfl | exact .inl rfl) ⟨⟨_, _, _, rfl, rfl, sh47, rfl, rfl⟩, rfl, trivial⟩ rfl (StLe.mk' (st' := ⟨[], []⟩) trivial rfl) (keeps_nil hC) (q := (.tup [(GType.pv ((atD plist i2).gType)), .t (.leaf (.bool (true)))] : PV)) (by (repeat' (first | exact PV.Le.refl _ | exact LeL.nil | exact PV.Le.nil _ | exact PV.Le.acc _ _ _ | apply LeL.cons | apply PV.Le.agg | apply PV.Le.tup))) rfl ⟨rfl, rfl⟩
          · skip
            have e10 : (iLookup_F1 fu plist pv) i2 () = none := swT h5 (gdF hg6)
            have e11 : iLookup_R1 fu plist pv = none := loopN_non h4l hJ3 e10
            have e12 : iLookup_M fu plist pv = none := soN e11
            exact none_some H e12
        · skip
          refine AWP.skip ?_
          refine AWP.region_lit ?_
          refine AL.cons rfl (AOp.addI rfl rfl rfl rfl (c := ((i2 + 1 : Nat) : Int)) (by omega) (by omega)) ?_
          refine AL.cons rfl (AOp.move (.inl rfl) rfl rfl) ?_
          refine AL.nil ?_
          have e13 : (iLookup_F1 fu plist pv) i2 () = some (.next ()) := swF h5 (rfl)
          refine ⟨(i2 + 1, ()), loopN_next h4l hJ3 e13, ?_, ?_⟩
          · skip
            exact Wk.mk (StLe.mk' ⟨⟨rfl, by (repeat' (first | exact PV.Le.refl _ | exact LeL.nil | exact PV.Le.nil _ | exact PV.Le.acc _ _ _ | apply LeL.cons | apply PV.Le.agg | apply PV.Le.tup)), rfl⟩, trivial⟩ rfl) (keeps_nil hC) ⟨⟨_, rfl, .refl _, rfl⟩, ⟨⟨_, rfl, .refl _, rfl⟩, ⟨⟨_, rfl, .refl _, rfl⟩, ⟨⟨_, rfl, .refl _, rfl⟩, ⟨⟨_, rfl, .refl _, rfl⟩, ⟨⟨_, rfl, by (repeat' (first | exact PV.Le.refl _ | exact LeL.nil | exact PV.Le.nil _ | exact PV.Le.acc _ _ _ | apply LeL.cons | apply PV.Le.agg | apply PV.Le.tup)), rfl⟩, trivial⟩⟩⟩⟩⟩⟩
          · dsimp only; omega
      · skip
        have h4l : plist.length ≤ i2 := nat_ge_of2 h4
        refine AWP.exit ?_
        refine ⟨(), loopN_end h4l hJ3, ?_⟩
        exact Wk.mk (StLe.mk' ⟨⟨rfl, by (repeat' (first | exact PV.Le.refl _ | exact LeL.nil | exact PV.Le.nil _ | exact PV.Le.acc _ _ _ | apply LeL.cons | apply PV.Le.agg | apply PV.Le.tup)), rfl⟩, trivial⟩ rfl) (keeps_nil hC) ⟨⟨_, rfl, .refl _, rfl⟩, ⟨⟨_, rfl, .refl _, rfl⟩, trivial⟩⟩
  · rintro ⟨⟩ hR14
    refine AWP.seq ?_
    refine AWP.region_lit ?_
    refine AL.cons rfl (AOp.build rfl rfl zr47 pl47 rfl rfl) ?_
    refine AL.cons rfl (AOp.storePtr (cs := [.t (.leaf (.int .i64 (0))), .t (.leaf (.string (⟨#[]⟩))), .nil]) (ds := [.t (.leaf (.int .i64 (0))), .t (.leaf (.string (⟨#[]⟩))), .nil]) rfl rfl rfl rfl rfl rfl rfl sz47 (Nat.le_of_ble_eq_true rfl) rfl) ?_
    refine AL.cons rfl (AOp.move (.inr rfl) rfl rfl) ?_
    refine AL.nil ?_
    refine AWP.ret ?_
    have e15 : iLookup_M fu plist pv = some ((GType.mk 0 (⟨#[]⟩) []), false) := soR hR14 (rfl)
    have hz : ((GType.mk 0 (⟨#[]⟩) []), false) = r := Option.some.inj (e15.symm.trans H)
    subst hz
    exact Ends.mk (ps := [_, _]) (by first | exact .inr rfl | exact .inl rfl) ⟨⟨_, _, _, rfl, rfl, sh47, rfl, rfl⟩, rfl, trivial⟩ rfl (StLe.mk' (st' := ⟨[], []⟩) trivial rfl) (keeps_nil hC) (q := (.tup [(GType.pv (GType.mk 0 (⟨#[]⟩) [])), .t (.leaf (.bool (false)))] : PV)) (by (repeat' (first | exact PV.Le.refl _ | exact LeL.nil | exact PV.Le.nil _ | exact PV.Le.acc _ _ _ | apply LeL.cons | apply PV.Le.agg | apply PV.Le.tup))) rfl ⟨rfl, rfl⟩

noncomputable def imatchAll_F1 (fu : Nat) (r_imatchAll : (List GBinding) → (List GType) → (List GType) → Option ((List GBinding) × Bool × (List GBinding))) (r_imatch : (List GBinding) → GType → GType → Option ((List GBinding) × Bool × (List GBinding))) (ps : List GBinding) (pp : List GType) (pall : List GType) : Nat → ((List GBinding)) → Option (LR ((List GBinding)) ((List GBinding) × Bool × (List GBinding))) :=
 fun i6 v8 => gd (i6 < (pall).length)
 (bd (r_imatch v8 (atD pp i6) (atD pall i6)) (fun (x13, x14, x15) =>
 sw (x14)
 (gd (x13 = x15)
 (some (.next x13)))
 (some (.ret ([], false, x15)))))
noncomputable def imatchAll_R1 (fu : Nat) (r_imatchAll : (List GBinding) → (List GType) → (List GType) → Option ((List GBinding) × Bool × (List GBinding))) (r_imatch : (List GBinding) → GType → GType → Option ((List GBinding) × Bool × (List GBinding))) (ps : List GBinding) (pp : List GType) (pall : List GType) : Option (((List GBinding) × Bool × (List GBinding)) ⊕ ((List GBinding))) :=
 loopN (imatchAll_F1 fu r_imatchAll r_imatch ps pp pall) (pp.length - 0) 0 ps
noncomputable def imatchAll_G (fu : Nat) (r_imatchAll : (List GBinding) → (List GType) → (List GType) → Option ((List GBinding) × Bool × (List GBinding))) (r_imatch : (List GBinding) → GType → GType → Option ((List GBinding) × Bool × (List GBinding))) (ps : List GBinding) (pp : List GType) (pall : List GType) : Option ((List GBinding) × Bool × (List GBinding)) :=
 sw (!decide ((((pp.length : Nat) : Int) : Int) = ((pall.length : Nat) : Int)))
 (some ([], false, ps))
 (so (imatchAll_R1 fu r_imatchAll r_imatch ps pp pall) (fun v8 =>
 some (v8, true, v8)))
set_option maxRecDepth 100000 in
set_option maxHeartbeats 4000000 in
theorem imatchAll_step (r_imatchAll : (List GBinding) → (List GType) → (List GType) → Option ((List GBinding) × Bool × (List GBinding))) (r_imatch : (List GBinding) → GType → GType → Option ((List GBinding) × Bool × (List GBinding))) (fu : Nat) (h_imatchAll : ∀ (ps : List GBinding) (pp : List GType) (pall : List GType) (r : (List GBinding) × Bool × (List GBinding)), r_imatchAll ps pp pall = some r → ACalls Tryz.prog 159 [.acc 4 (GBinding.trs (ps)) 0, .t (.row 3 (GType.trs (pp))), .t (.row 3 (GType.trs (pall)))] ⟨[], [⟨225, 4, GBinding.trs (ps), false⟩]⟩ (fun q t => q = (.tup [(bif r.2.1 then .acc 4 (GBinding.trs (r.1)) 0 else .t (.row 4 (GBinding.trs (r.1)))), .t (.leaf (.bool (r.2.1)))] : PV) ∧ t = ⟨[], [⟨225, 4, GBinding.trs (r.2.2), false⟩]⟩)) (h_imatch : ∀ (ps : List GBinding) (pp : GType) (pt : GType) (r : (List GBinding) × Bool × (List GBinding)), r_imatch ps pp pt = some r → ACalls Tryz.prog 200 [.acc 4 (GBinding.trs (ps)) 0, (GType.pv pp), (GType.pv pt)] ⟨[], [⟨225, 4, GBinding.trs (ps), false⟩]⟩ (fun q t => q = (.tup [(bif r.2.1 then .acc 4 (GBinding.trs (r.1)) 0 else .t (.row 4 (GBinding.trs (r.1)))), .t (.leaf (.bool (r.2.1)))] : PV) ∧ t = ⟨[], [⟨225, 4, GBinding.trs (r.2.2), false⟩]⟩)) (ps : List GBinding) (pp : List GType) (pall : List GType) (r : (List GBinding) × Bool × (List GBinding)) (H : imatchAll_G fu r_imatchAll r_imatch ps pp pall = some r) : ACalls Tryz.prog 159 [.acc 4 (GBinding.trs (ps)) 0, .t (.row 3 (GType.trs (pp))), .t (.row 3 (GType.trs (pall)))] ⟨[], [⟨225, 4, GBinding.trs (ps), false⟩]⟩ (fun q t => q = (.tup [(bif r.2.1 then .acc 4 (GBinding.trs (r.1)) 0 else .t (.row 4 (GBinding.trs (r.1)))), .t (.leaf (.bool (r.2.1)))] : PV) ∧ t = ⟨[], [⟨225, 4, GBinding.trs (r.2.2), false⟩]⟩) := by
  refine ACalls.intro Tryz.func159 rfl (by first | decide | (simp; done) | (simp; decide)) ?_
  intro C hC
  refine AWP.fact (lk_lenN 0 rfl rfl (GBinding.trs_len _)) (fun hl1 => ?_)
  refine AWP.fact (lk_lenN 1 rfl rfl (GType.trs_len _)) (fun hl2 => ?_)
  refine AWP.fact (lk_lenN 2 rfl rfl (GType.trs_len _)) (fun hl3 => ?_)
  refine AWP.seq ?_
  refine AWP.region_lit ?_
  refine AL.cons rfl (AOp.move (.inr rfl) rfl rfl) ?_
  refine AL.cons rfl (AOp.move (.inr rfl) rfl rfl) ?_
  refine AL.nil ?_
  refine AWP.seq ?_
  refine AWP.seq ?_
  refine AWP.region_lit ?_
  refine AL.cons rfl (AOp.move (.inl rfl) rfl rfl) ?_
  refine AL.cons rfl (AOp.lenN rfl rfl rfl rfl el45 (GType.trs_len _)) ?_
  refine AL.cons rfl (AOp.move (.inl rfl) rfl rfl) ?_
  refine AL.cons rfl (AOp.lenN rfl rfl rfl rfl el45 (GType.trs_len _)) ?_
  refine AL.cons rfl (AOp.neqI rfl rfl rfl rfl) ?_
  refine AL.nil ?_
  refine AWP.cond rfl (fun h4 => ?_) (fun h4 => ?_)
  · skip
    refine AWP.seq ?_
    refine AWP.region_lit ?_
    refine AL.cons rfl (AOp.move (.inr rfl) rfl rfl) ?_
    refine AL.cons rfl (AOp.move (.inr rfl) rfl rfl) ?_
    refine AL.nil ?_
    refine AWP.ret ?_
    have e5 : imatchAll_G fu r_imatchAll r_imatch ps pp pall = some ([], false, ps) := swT h4 (rfl)
    have hz : ([], false, ps) = r := Option.some.inj (e5.symm.trans H)
    subst hz
    exact Ends.mk (ps := [_, _]) (by first | exact .inr rfl | exact .inl rfl) ⟨rfl, rfl, trivial⟩ rfl (StLe.mk' (st' := ⟨[], [⟨225, 4, GBinding.trs (ps), false⟩]⟩) trivial (by first | rfl | simp)) (keeps_all hC (boxes0) (Nat.le_of_ble_eq_true rfl)) (q := (.tup [(bif false then .acc 4 (GBinding.trs ([])) 0 else .t (.row 4 (GBinding.trs ([])))), .t (.leaf (.bool (false)))] : PV)) (by (repeat' (first | exact PV.Le.refl _ | exact LeL.nil | exact PV.Le.nil _ | exact PV.Le.acc _ _ _ | apply LeL.cons | apply PV.Le.agg | apply PV.Le.tup))) rfl ⟨rfl, rfl⟩
  · skip
    refine AWP.skip ?_
    refine AWP.seq ?_
    refine AWP.seq ?_
    refine AWP.region_lit ?_
    refine AL.cons rfl (AOp.move (.inl rfl) rfl rfl) ?_
    refine AL.cons rfl (AOp.lenN rfl rfl rfl rfl el45 (GType.trs_len _)) ?_
    refine AL.cons rfl (AOp.move (.inl rfl) rfl rfl) ?_
    refine AL.nil ?_
    refine AWP.cut (ι := (List GBinding)) (fun v8 => imatchAll_R1 fu r_imatchAll r_imatch ps pp pall = some (.inr v8)) (fun v8 => ⟨[(0, .acc 4 (GBinding.trs (v8)) 0), (6, .nil), (7, .t (.leaf (.bool (false))))], ⟨[], [⟨225, 4, GBinding.trs (v8), false⟩]⟩⟩) (by repeat' (first | exact qcEnds | exact ncAWP | exact ncRound | exact ncEx | apply qcThen | apply qcBlock | apply qcCut)) ?_ ?_
    · skip
      refine AWP.block ?_
      refine AWP.loopR (ι := Nat × ((List GBinding))) (fun (i6, v8) => imatchAll_R1 fu r_imatchAll r_imatch ps pp pall = loopN (imatchAll_F1 fu r_imatchAll r_imatch ps pp pall) (pp.length - i6) i6 v8) (fun (i6, v8) => ⟨[(0, .acc 4 (GBinding.trs (v8)) 0), (1, .t (.row 3 (GType.trs (pp)))), (2, .t (.row 3 (GType.trs (pall)))), (6, .nil), (7, .t (.leaf (.bool (false)))), (17, .t (.leaf (.int .i64 (((pp.length : Nat) : Int))))), (18, .t (.leaf (.int .i64 (((i6 : Nat) : Int)))))], ⟨[], [⟨225, 4, GBinding.trs (v8), false⟩]⟩⟩) (fun (i6, v8) => pp.length - i6) (0, ps) ?_ ?_ ?_
      · exact rfl
      · skip
        exact Wk.mk (StLe.mk' trivial (by first | rfl | simp)) (keeps_all hC (boxes0) (Nat.le_of_ble_eq_true rfl)) ⟨⟨_, rfl, by (repeat' (first | exact PV.Le.refl _ | exact LeL.nil | exact PV.Le.nil _ | exact PV.Le.acc _ _ _ | apply LeL.cons | apply PV.Le.agg | apply PV.Le.tup)), rfl⟩, ⟨⟨_, rfl, .refl _, rfl⟩, ⟨⟨_, rfl, .refl _, rfl⟩, ⟨⟨_, rfl, .refl _, rfl⟩, ⟨⟨_, rfl, .refl _, rfl⟩, ⟨⟨_, rfl, .refl _, rfl⟩, ⟨⟨_, rfl, by (repeat' (first | exact PV.Le.refl _ | exact LeL.nil | exact PV.Le.nil _ | exact PV.Le.acc _ _ _ | apply LeL.cons | apply PV.Le.agg | apply PV.Le.tup)), rfl⟩, trivial⟩⟩⟩⟩⟩⟩⟩
      · rintro ⟨i6, v8⟩ hJ9
        refine AWP.seq ?_
        refine AWP.region_lit ?_
        refine AL.cons rfl (AOp.lss rfl rfl rfl rfl) ?_
        refine AL.nil ?_
        refine AWP.seq ?_
        refine AWP.cond rfl (fun h10 => ?_) (fun h10 => ?_)
        · skip
          have h10l : i6 < pp.length := nat_lt_of2 h10
          have h10n := nat_lt_of h10
          refine AWP.skip ?_
          refine AWP.seq ?_
          refine AWP.block ?_
          refine AWP.seq ?_
          refine AWP.region_lit ?_
          refine AL.cons rfl (AOp.move (.inl rfl) rfl rfl) ?_
          refine AL.cons rfl (AOp.move (.inr rfl) rfl rfl) ?_
          refine AL.nil ?_
          refine AWP.seq ?_
          rcases Classical.em (i6 < (pall).length) with hg11 | hg11
          · skip
            rcases hq12 : r_imatch v8 (atD pp i6) (atD pall i6) with _ | ⟨x13, x14, x15⟩
            · skip
              have e16 : (imatchAll_F1 fu r_imatchAll r_imatch ps pp pall) i6 v8 = none := gdT hg11 (bdN hq12)
              have e17 : imatchAll_R1 fu r_imatchAll r_imatch ps pp pall = none := loopN_non h10l hJ9 e16
              have e18 : imatchAll_G fu r_imatchAll r_imatch ps pp pall = none := swF h4 (soN e17)
              exact none_some H e18
            · skip
              cases x14
              · skip
                refine AWP.drawnL ⟨_, _, fun j' _ => ([(⟨[], [⟨225, 4, GBinding.trs (v8), false⟩]⟩ : Sto), (⟨[], [⟨225, 4, GBinding.trs (x15), false⟩]⟩ : Sto)] : List Sto).getD j' (⟨[], [⟨225, 4, GBinding.trs (x15), false⟩]⟩ : Sto), fun q' => ([some (.acc 4 (GBinding.trs (v8)) 0), some (.t (.row 3 (GType.trs (pp)))), some (.t (.leaf (.int .i64 (((i6 : Nat) : Int))))), some (.eptr (GType.cs (atD pp i6))), some ((GType.pv (atD pp i6))), some (.t (.row 3 (GType.trs (pall)))), some (.t (.leaf (.int .i64 (((i6 : Nat) : Int))))), some (.eptr (GType.cs (atD pall i6))), some ((GType.pv (atD pall i6))), some (.tup [.t (.row 4 (GBinding.trs (x13))), .t (.leaf (.bool (false)))]), some (.tup [.t (.row 4 (GBinding.trs (x13))), .t (.leaf (.bool (false)))]), some (.t (.row 4 (GBinding.trs (x13)))), some (.t (.leaf (.bool (false)))), some (.t (.row 4 (GBinding.trs (x13)))), some (.t (.leaf (.bool (false))))] : List (Option PV)).getD q' none, fun q' => ([.q 0 0, .q 0 0, .q 0 0, .q 0 0, .q 0 0, .q 0 0, .q 0 0, .q 0 0, .q 0 0, .ef 0, .q 1 1, .q 1 1, .q 1 1, .q 1 1, .q 1 1] : List DK).getD q' (.q 0 0), [9], none, fun q' => ([[(0, none)], [(1, none)], [(8, none)], [(23, some 1), (24, some 2)], [(25, some 3)], [(2, none)], [(8, none)], [(27, some 5), (28, some 6)], [(29, some 7)], [(30, some 8), (26, some 4), (22, some 0)], [(31, some 9)], [(21, some 10)], [(21, some 10)], [(32, some 11)], [(33, some 12)]] : List (List (Nat × Option Nat))).getD q' []⟩ rfl mixed (by kernel_rfl) rfl rfl ⟨?_, ?_, ?_, ?_, ?_, ?_, ?_, ?_, ?_, ?_, ?_, ?_, ?_, ?_, ?_, trivial⟩ rfl ?_
                · refine .inl ⟨rfl, fun s' jj bb (h1 : 0 ≤ jj) (h2 : jj ≤ 0) hs hl => ?_⟩
                  obtain rfl : jj = 0 := by omega
                  exact ⟨_, rfl, AOp.move (.inl rfl) rfl (hl 0 none _ (.head _) rfl)⟩
                · refine .inl ⟨rfl, fun s' jj bb (h1 : 0 ≤ jj) (h2 : jj ≤ 0) hs hl => ?_⟩
                  obtain rfl : jj = 0 := by omega
                  exact ⟨_, rfl, AOp.move (.inl rfl) rfl (hl 1 none _ (.head _) rfl)⟩
                · refine .inl ⟨rfl, fun s' jj bb (h1 : 0 ≤ jj) (h2 : jj ≤ 0) hs hl => ?_⟩
                  obtain rfl : jj = 0 := by omega
                  exact ⟨_, rfl, AOp.move (.inl rfl) rfl (hl 8 none _ (.head _) rfl)⟩
                · refine .inl ⟨rfl, fun s' jj bb (h1 : 0 ≤ jj) (h2 : jj ≤ 0) hs hl => ?_⟩
                  obtain rfl : jj = 0 := by omega
                  exact ⟨_, rfl, AOp.index (k := i6) rfl rfl (hl 23 (some 1) _ (.head _) rfl) rfl (hl 24 (some 2) _ (.tail _ (.head _)) rfl) (GType.trs_at h10n) el45⟩
                · refine .inl ⟨rfl, fun s' jj bb (h1 : 0 ≤ jj) (h2 : jj ≤ 0) hs hl => ?_⟩
                  obtain rfl : jj = 0 := by omega
                  exact ⟨_, rfl, AOp.loadEptr (ds := [.leaf (.int .i64 ((atD pp i6).gKind)), .leaf (.string ((atD pp i6).gName)), .row 3 (GType.trs ((atD pp i6).gArgs))]) rfl rfl (hl 25 (some 3) _ (.head _) rfl) sh47 rfl rfl⟩
                · refine .inl ⟨rfl, fun s' jj bb (h1 : 0 ≤ jj) (h2 : jj ≤ 0) hs hl => ?_⟩
                  obtain rfl : jj = 0 := by omega
                  exact ⟨_, rfl, AOp.move (.inl rfl) rfl (hl 2 none _ (.head _) rfl)⟩
                · refine .inl ⟨rfl, fun s' jj bb (h1 : 0 ≤ jj) (h2 : jj ≤ 0) hs hl => ?_⟩
                  obtain rfl : jj = 0 := by omega
                  exact ⟨_, rfl, AOp.move (.inl rfl) rfl (hl 8 none _ (.head _) rfl)⟩
                · refine .inl ⟨rfl, fun s' jj bb (h1 : 0 ≤ jj) (h2 : jj ≤ 0) hs hl => ?_⟩
                  obtain rfl : jj = 0 := by omega
                  exact ⟨_, rfl, AOp.index (k := i6) rfl rfl (hl 27 (some 5) _ (.head _) rfl) rfl (hl 28 (some 6) _ (.tail _ (.head _)) rfl) (GType.trs_at hg11) el45⟩
                · refine .inl ⟨rfl, fun s' jj bb (h1 : 0 ≤ jj) (h2 : jj ≤ 0) hs hl => ?_⟩
                  obtain rfl : jj = 0 := by omega
                  exact ⟨_, rfl, AOp.loadEptr (ds := [.leaf (.int .i64 ((atD pall i6).gKind)), .leaf (.string ((atD pall i6).gName)), .row 3 (GType.trs ((atD pall i6).gArgs))]) rfl rfl (hl 29 (some 7) _ (.head _) rfl) sh47 rfl rfl⟩
                · refine .inl ⟨rfl, fun s' bb hs hl => ?_⟩
                  refine .inl ⟨_, rfl, AOp.congr (AOp.callPE (pre := ⟨[], [⟨225, 4, GBinding.trs (v8), false⟩]⟩) (st' := ⟨[], [⟨225, 4, GBinding.trs (x15), false⟩]⟩) (ps := [_, _, _]) (qs := [.acc 4 (GBinding.trs (v8)) 0, (GType.pv (atD pp i6)), (GType.pv (atD pall i6))]) [] [0] rfl rfl Tryz.func200 (by kernel_rfl) rfl (evs_cons (hl 22 (some 0) _ (.tail _ (.tail _ (.head _))) rfl) (evs_cons (hl 26 (some 4) _ (.tail _ (.head _)) rfl) (evs_cons (hl 30 (some 8) _ (.head _) rfl) rfl))) hs (by (try rw [hs]); exact Part0.of trivial ⟨rfl, trivial⟩ (by decide) (by decide)) (by (repeat' (first | exact PV.Le.refl _ | exact LeL.nil | exact PV.Le.nil _ | exact PV.Le.acc _ _ _ | apply LeL.cons | apply PV.Le.agg | apply PV.Le.tup))) rfl rfl rfl (h_imatch v8 (atD pp i6) (atD pall i6) _ hq12)) ?_⟩
                  first | (rw [hs]; rfl) | rfl
                · refine .inl ⟨rfl, fun s' jj bb (h1 : 1 ≤ jj) (h2 : jj ≤ 1) hs hl => ?_⟩
                  obtain rfl : jj = 1 := by omega
                  exact ⟨_, rfl, AOp.move (.inl rfl) rfl (hl 31 (some 9) _ (.head _) rfl)⟩
                · refine .inl ⟨rfl, fun s' jj bb (h1 : 1 ≤ jj) (h2 : jj ≤ 1) hs hl => ?_⟩
                  obtain rfl : jj = 1 := by omega
                  exact ⟨_, rfl, AOp.extract rfl rfl (hl 21 (some 10) _ (.head _) rfl) rfl⟩
                · refine .inl ⟨rfl, fun s' jj bb (h1 : 1 ≤ jj) (h2 : jj ≤ 1) hs hl => ?_⟩
                  obtain rfl : jj = 1 := by omega
                  exact ⟨_, rfl, AOp.extract rfl rfl (hl 21 (some 10) _ (.head _) rfl) rfl⟩
                · refine .inl ⟨rfl, fun s' jj bb (h1 : 1 ≤ jj) (h2 : jj ≤ 1) hs hl => ?_⟩
                  obtain rfl : jj = 1 := by omega
                  exact ⟨_, rfl, AOp.move (.inr rfl) rfl (hl 32 (some 11) _ (.head _) rfl)⟩
                · refine .inl ⟨rfl, fun s' jj bb (h1 : 1 ≤ jj) (h2 : jj ≤ 1) hs hl => ?_⟩
                  obtain rfl : jj = 1 := by omega
                  exact ⟨_, rfl, AOp.move (.inr rfl) rfl (hl 33 (some 12) _ (.head _) rfl)⟩
                refine AWP.seq ?_
                refine AWP.seq ?_
                refine AWP.region_lit ?_
                refine AL.cons rfl (AOp.move (.inl rfl) rfl rfl) ?_
                refine AL.cons rfl (AOp.notB rfl rfl rfl) ?_
                refine AL.nil ?_
                refine AWP.cond rfl (fun h19 => ?_) (fun h19 => ?_)
                · skip
                  refine AWP.seq ?_
                  refine AWP.region_lit ?_
                  refine AL.cons rfl (AOp.move (.inr rfl) rfl rfl) ?_
                  refine AL.cons rfl (AOp.move (.inr rfl) rfl rfl) ?_
                  refine AL.nil ?_
                  refine AWP.ret ?_
                  have e20 : (imatchAll_F1 fu r_imatchAll r_imatch ps pp pall) i6 v8 = some (.ret ([], false, x15)) := gdT hg11 (bdS hq12 (swF rfl (rfl)))
                  have e21 : imatchAll_R1 fu r_imatchAll r_imatch ps pp pall = some (.inl ([], false, x15)) := loopN_ret h10l hJ9 e20
                  have e22 : imatchAll_G fu r_imatchAll r_imatch ps pp pall = some ([], false, x15) := swF h4 (soL e21)
                  have hz : ([], false, x15) = r := Option.some.inj (e22.symm.trans H)
                  subst hz
                  exact Ends.mk (ps := [_, _]) (by first | exact .inr rfl | exact .inl rfl) ⟨rfl, rfl, trivial⟩ rfl (StLe.mk' (st' := ⟨[], [⟨225, 4, GBinding.trs (x15), false⟩]⟩) trivial (by first | rfl | simp)) (keeps_all hC (boxes0) (Nat.le_of_ble_eq_true rfl)) (q := (.tup [(bif false then .acc 4 (GBinding.trs ([])) 0 else .t (.row 4 (GBinding.trs ([])))), .t (.leaf (.bool (false)))] : PV)) (by (repeat' (first | exact PV.Le.refl _ | exact LeL.nil | exact PV.Le.nil _ | exact PV.Le.acc _ _ _ | apply LeL.cons | apply PV.Le.agg | apply PV.Le.tup))) rfl ⟨rfl, rfl⟩
                · skip
                  exact absurd (h19.symm.trans (congrArg (fun b => !b) (rfl : false = false))) (by decide)
              · skip
                rcases Classical.em (x13 = x15) with hg23 | hg23
                · skip
                  have hg23c := hg23
                  subst hg23
                  refine AWP.drawnL ⟨_, _, fun j' _ => ([(⟨[], [⟨225, 4, GBinding.trs (v8), false⟩]⟩ : Sto), (⟨[], [⟨225, 4, GBinding.trs (x13), false⟩]⟩ : Sto)] : List Sto).getD j' (⟨[], [⟨225, 4, GBinding.trs (x13), false⟩]⟩ : Sto), fun q' => ([some (.acc 4 (GBinding.trs (v8)) 0), some (.t (.row 3 (GType.trs (pp)))), some (.t (.leaf (.int .i64 (((i6 : Nat) : Int))))), some (.eptr (GType.cs (atD pp i6))), some ((GType.pv (atD pp i6))), some (.t (.row 3 (GType.trs (pall)))), some (.t (.leaf (.int .i64 (((i6 : Nat) : Int))))), some (.eptr (GType.cs (atD pall i6))), some ((GType.pv (atD pall i6))), some (.tup [.acc 4 (GBinding.trs (x13)) 0, .t (.leaf (.bool (true)))]), some (.tup [.acc 4 (GBinding.trs (x13)) 0, .t (.leaf (.bool (true)))]), some (.acc 4 (GBinding.trs (x13)) 0), some (.t (.leaf (.bool (true)))), some (.acc 4 (GBinding.trs (x13)) 0), some (.t (.leaf (.bool (true))))] : List (Option PV)).getD q' none, fun q' => ([.q 0 0, .q 0 0, .q 0 0, .q 0 0, .q 0 0, .q 0 0, .q 0 0, .q 0 0, .q 0 0, .ef 0, .q 1 1, .q 1 1, .q 1 1, .q 1 1, .q 1 1] : List DK).getD q' (.q 0 0), [9], none, fun q' => ([[(0, none)], [(1, none)], [(8, none)], [(23, some 1), (24, some 2)], [(25, some 3)], [(2, none)], [(8, none)], [(27, some 5), (28, some 6)], [(29, some 7)], [(30, some 8), (26, some 4), (22, some 0)], [(31, some 9)], [(21, some 10)], [(21, some 10)], [(32, some 11)], [(33, some 12)]] : List (List (Nat × Option Nat))).getD q' []⟩ rfl mixed (by kernel_rfl) rfl rfl ⟨?_, ?_, ?_, ?_, ?_, ?_, ?_, ?_, ?_, ?_, ?_, ?_, ?_, ?_, ?_, trivial⟩ rfl ?_
                  · refine .inl ⟨rfl, fun s' jj bb (h1 : 0 ≤ jj) (h2 : jj ≤ 0) hs hl => ?_⟩
                    obtain rfl : jj = 0 := by omega
                    exact ⟨_, rfl, AOp.move (.inl rfl) rfl (hl 0 none _ (.head _) rfl)⟩
                  · refine .inl ⟨rfl, fun s' jj bb (h1 : 0 ≤ jj) (h2 : jj ≤ 0) hs hl => ?_⟩
                    obtain rfl : jj = 0 := by omega
                    exact ⟨_, rfl, AOp.move (.inl rfl) rfl (hl 1 none _ (.head _) rfl)⟩
                  · refine .inl ⟨rfl, fun s' jj bb (h1 : 0 ≤ jj) (h2 : jj ≤ 0) hs hl => ?_⟩
                    obtain rfl : jj = 0 := by omega
                    exact ⟨_, rfl, AOp.move (.inl rfl) rfl (hl 8 none _ (.head _) rfl)⟩
                  · refine .inl ⟨rfl, fun s' jj bb (h1 : 0 ≤ jj) (h2 : jj ≤ 0) hs hl => ?_⟩
                    obtain rfl : jj = 0 := by omega
                    exact ⟨_, rfl, AOp.index (k := i6) rfl rfl (hl 23 (some 1) _ (.head _) rfl) rfl (hl 24 (some 2) _ (.tail _ (.head _)) rfl) (GType.trs_at h10n) el45⟩
                  · refine .inl ⟨rfl, fun s' jj bb (h1 : 0 ≤ jj) (h2 : jj ≤ 0) hs hl => ?_⟩
                    obtain rfl : jj = 0 := by omega
                    exact ⟨_, rfl, AOp.loadEptr (ds := [.leaf (.int .i64 ((atD pp i6).gKind)), .leaf (.string ((atD pp i6).gName)), .row 3 (GType.trs ((atD pp i6).gArgs))]) rfl rfl (hl 25 (some 3) _ (.head _) rfl) sh47 rfl rfl⟩
                  · refine .inl ⟨rfl, fun s' jj bb (h1 : 0 ≤ jj) (h2 : jj ≤ 0) hs hl => ?_⟩
                    obtain rfl : jj = 0 := by omega
                    exact ⟨_, rfl, AOp.move (.inl rfl) rfl (hl 2 none _ (.head _) rfl)⟩
                  · refine .inl ⟨rfl, fun s' jj bb (h1 : 0 ≤ jj) (h2 : jj ≤ 0) hs hl => ?_⟩
                    obtain rfl : jj = 0 := by omega
                    exact ⟨_, rfl, AOp.move (.inl rfl) rfl (hl 8 none _ (.head _) rfl)⟩
                  · refine .inl ⟨rfl, fun s' jj bb (h1 : 0 ≤ jj) (h2 : jj ≤ 0) hs hl => ?_⟩
                    obtain rfl : jj = 0 := by omega
                    exact ⟨_, rfl, AOp.index (k := i6) rfl rfl (hl 27 (some 5) _ (.head _) rfl) rfl (hl 28 (some 6) _ (.tail _ (.head _)) rfl) (GType.trs_at hg11) el45⟩
                  · refine .inl ⟨rfl, fun s' jj bb (h1 : 0 ≤ jj) (h2 : jj ≤ 0) hs hl => ?_⟩
                    obtain rfl : jj = 0 := by omega
                    exact ⟨_, rfl, AOp.loadEptr (ds := [.leaf (.int .i64 ((atD pall i6).gKind)), .leaf (.string ((atD pall i6).gName)), .row 3 (GType.trs ((atD pall i6).gArgs))]) rfl rfl (hl 29 (some 7) _ (.head _) rfl) sh47 rfl rfl⟩
                  · refine .inl ⟨rfl, fun s' bb hs hl => ?_⟩
                    refine .inl ⟨_, rfl, AOp.congr (AOp.callPE (pre := ⟨[], [⟨225, 4, GBinding.trs (v8), false⟩]⟩) (st' := ⟨[], [⟨225, 4, GBinding.trs (x13), false⟩]⟩) (ps := [_, _, _]) (qs := [.acc 4 (GBinding.trs (v8)) 0, (GType.pv (atD pp i6)), (GType.pv (atD pall i6))]) [] [0] rfl rfl Tryz.func200 (by kernel_rfl) rfl (evs_cons (hl 22 (some 0) _ (.tail _ (.tail _ (.head _))) rfl) (evs_cons (hl 26 (some 4) _ (.tail _ (.head _)) rfl) (evs_cons (hl 30 (some 8) _ (.head _) rfl) rfl))) hs (by (try rw [hs]); exact Part0.of trivial ⟨rfl, trivial⟩ (by decide) (by decide)) (by (repeat' (first | exact PV.Le.refl _ | exact LeL.nil | exact PV.Le.nil _ | exact PV.Le.acc _ _ _ | apply LeL.cons | apply PV.Le.agg | apply PV.Le.tup))) rfl rfl rfl (h_imatch v8 (atD pp i6) (atD pall i6) _ hq12)) ?_⟩
                    first | (rw [hs]; rfl) | rfl
                  · refine .inl ⟨rfl, fun s' jj bb (h1 : 1 ≤ jj) (h2 : jj ≤ 1) hs hl => ?_⟩
                    obtain rfl : jj = 1 := by omega
                    exact ⟨_, rfl, AOp.move (.inl rfl) rfl (hl 31 (some 9) _ (.head _) rfl)⟩
                  · refine .inl ⟨rfl, fun s' jj bb (h1 : 1 ≤ jj) (h2 : jj ≤ 1) hs hl => ?_⟩
                    obtain rfl : jj = 1 := by omega
                    exact ⟨_, rfl, AOp.extract rfl rfl (hl 21 (some 10) _ (.head _) rfl) rfl⟩
                  · refine .inl ⟨rfl, fun s' jj bb (h1 : 1 ≤ jj) (h2 : jj ≤ 1) hs hl => ?_⟩
                    obtain rfl : jj = 1 := by omega
                    exact ⟨_, rfl, AOp.extract rfl rfl (hl 21 (some 10) _ (.head _) rfl) rfl⟩
                  · refine .inl ⟨rfl, fun s' jj bb (h1 : 1 ≤ jj) (h2 : jj ≤ 1) hs hl => ?_⟩
                    obtain rfl : jj = 1 := by omega
                    exact ⟨_, rfl, AOp.move (.inr rfl) rfl (hl 32 (some 11) _ (.head _) rfl)⟩
                  · refine .inl ⟨rfl, fun s' jj bb (h1 : 1 ≤ jj) (h2 : jj ≤ 1) hs hl => ?_⟩
                    obtain rfl : jj = 1 := by omega
                    exact ⟨_, rfl, AOp.move (.inr rfl) rfl (hl 33 (some 12) _ (.head _) rfl)⟩
                  refine AWP.seq ?_
                  refine AWP.seq ?_
                  refine AWP.region_lit ?_
                  refine AL.cons rfl (AOp.move (.inl rfl) rfl rfl) ?_
                  refine AL.cons rfl (AOp.notB rfl rfl rfl) ?_
                  refine AL.nil ?_
                  refine AWP.cond rfl (fun h24 => ?_) (fun h24 => ?_)
                  · skip
                    exact absurd (h24.symm.trans (congrArg (fun b => !b) (rfl : true = true))) (by decide)
                  · skip
                    refine AWP.skip ?_
                    refine AWP.region_lit ?_
                    refine AL.cons rfl (AOp.move (.inl rfl) rfl rfl) ?_
                    refine AL.cons rfl (AOp.move (.inr rfl) rfl rfl) ?_
                    refine AL.nil ?_
                    refine AWP.region_lit ?_
                    refine AL.cons rfl (AOp.addI rfl rfl rfl rfl (c := ((i6 + 1 : Nat) : Int)) (by omega) (by omega)) ?_
                    refine AL.cons rfl (AOp.move (.inl rfl) rfl rfl) ?_
                    refine AL.nil ?_
                    have e25 : (imatchAll_F1 fu r_imatchAll r_imatch ps pp pall) i6 v8 = some (.next x13) := gdT hg11 (bdS hq12 (swT rfl (gdT hg23c (rfl))))
                    refine ⟨(i6 + 1, x13), loopN_next h10l hJ9 e25, ?_, ?_⟩
                    · skip
                      exact Wk.mk (StLe.mk' trivial (by first | rfl | simp)) (keeps_all hC (boxes0) (Nat.le_of_ble_eq_true rfl)) ⟨⟨_, rfl, by (repeat' (first | exact PV.Le.refl _ | exact LeL.nil | exact PV.Le.nil _ | exact PV.Le.acc _ _ _ | apply LeL.cons | apply PV.Le.agg | apply PV.Le.tup)), rfl⟩, ⟨⟨_, rfl, .refl _, rfl⟩, ⟨⟨_, rfl, .refl _, rfl⟩, ⟨⟨_, rfl, .refl _, rfl⟩, ⟨⟨_, rfl, .refl _, rfl⟩, ⟨⟨_, rfl, .refl _, rfl⟩, ⟨⟨_, rfl, by (repeat' (first | exact PV.Le.refl _ | exact LeL.nil | exact PV.Le.nil _ | exact PV.Le.acc _ _ _ | apply LeL.cons | apply PV.Le.agg | apply PV.Le.tup)), rfl⟩, trivial⟩⟩⟩⟩⟩⟩⟩
                    · dsimp only; omega
                · skip
                  have e26 : (imatchAll_F1 fu r_imatchAll r_imatch ps pp pall) i6 v8 = none := gdT hg11 (bdS hq12 (swT rfl (gdF hg23)))
                  have e27 : imatchAll_R1 fu r_imatchAll r_imatch ps pp pall = none := loopN_non h10l hJ9 e26
                  have e28 : imatchAll_G fu r_imatchAll r_imatch ps pp pall = none := swF h4 (soN e27)
                  exact none_some H e28
          · skip
            have e29 : (imatchAll_F1 fu r_imatchAll r_imatch ps pp pall) i6 v8 = none := gdF hg11
            have e30 : imatchAll_R1 fu r_imatchAll r_imatch ps pp pall = none := loopN_non h10l hJ9 e29
            have e31 : imatchAll_G fu r_imatchAll r_imatch ps pp pall = none := swF h4 (soN e30)
            exact none_some H e31
        · skip
          have h10l : pp.length ≤ i6 := nat_ge_of2 h10
          refine AWP.exit ?_
          refine ⟨v8, loopN_end h10l hJ9, ?_⟩
          exact Wk.mk (StLe.mk' trivial (by first | rfl | simp)) (keeps_all hC (boxes0) (Nat.le_of_ble_eq_true rfl)) ⟨⟨_, rfl, .refl _, rfl⟩, ⟨⟨_, rfl, .refl _, rfl⟩, ⟨⟨_, rfl, .refl _, rfl⟩, trivial⟩⟩⟩
    · rintro v8 hR32
      refine AWP.seq ?_
      refine AWP.region_lit ?_
      refine AL.cons rfl (AOp.move (.inl rfl) rfl rfl) ?_
      refine AL.cons rfl (AOp.move (.inr rfl) rfl rfl) ?_
      refine AL.cons rfl (AOp.move (.inr rfl) rfl rfl) ?_
      refine AL.nil ?_
      refine AWP.ret ?_
      have e33 : imatchAll_G fu r_imatchAll r_imatch ps pp pall = some (v8, true, v8) := swF h4 (soR hR32 (rfl))
      have hz : (v8, true, v8) = r := Option.some.inj (e33.symm.trans H)
      subst hz
      exact Ends.mk (ps := [_, _]) (by first | exact .inr rfl | exact .inl rfl) ⟨rfl, rfl, trivial⟩ rfl (StLe.mk' (st' := ⟨[], [⟨225, 4, GBinding.trs (v8), false⟩]⟩) trivial (by first | rfl | simp)) (keeps_all hC (boxes0) (Nat.le_of_ble_eq_true rfl)) (q := (.tup [(bif true then .acc 4 (GBinding.trs (v8)) 0 else .t (.row 4 (GBinding.trs (v8)))), .t (.leaf (.bool (true)))] : PV)) (by (repeat' (first | exact PV.Le.refl _ | exact LeL.nil | exact PV.Le.nil _ | exact PV.Le.acc _ _ _ | apply LeL.cons | apply PV.Le.agg | apply PV.Le.tup))) rfl ⟨rfl, rfl⟩
noncomputable def imatch_G (fu : Nat) (r_imatchAll : (List GBinding) → (List GType) → (List GType) → Option ((List GBinding) × Bool × (List GBinding))) (r_imatch : (List GBinding) → GType → GType → Option ((List GBinding) × Bool × (List GBinding))) (ps : List GBinding) (pp : GType) (pt : GType) : Option ((List GBinding) × Bool × (List GBinding)) :=
 sw (decide ((pp.gKind : Int) = 1))
 (bd (iLookup_M fu ps pp.gName) (fun (x4, x5) =>
 sw (x5)
 (sw (GType.eq x4 pt)
 (some (ps, (GType.eq x4 pt), ps))
 (some (ps, (GType.eq x4 pt), ps)))
 (gd (Tr.bulkL (GType.tr pt) ≤ 68719476735)
 (gd ((ps).length + (([(GBinding.mk pp.gName pt)] : List GBinding)).length ≤ 68719476736)
 (some ((ps ++ ([(GBinding.mk pp.gName pt)] : List GBinding)), true, (ps ++ ([(GBinding.mk pp.gName pt)] : List GBinding))))))))
 (sw (!decide ((pp.gKind : Int) = pt.gKind))
 (some ([], false, ps))
 (sw (!decide (pp.gName = pt.gName))
 (some ([], false, ps))
 (bd (r_imatchAll ps pp.gArgs pt.gArgs) (fun (x24, x25, x26) =>
 sw (x25)
 (gd (x24 = x26)
 (some (x24, true, x24)))
 (some (x24, false, x26))))))
set_option maxRecDepth 100000 in
set_option maxHeartbeats 4000000 in
theorem imatch_step (r_imatchAll : (List GBinding) → (List GType) → (List GType) → Option ((List GBinding) × Bool × (List GBinding))) (r_imatch : (List GBinding) → GType → GType → Option ((List GBinding) × Bool × (List GBinding))) (fu : Nat) (h_imatchAll : ∀ (ps : List GBinding) (pp : List GType) (pall : List GType) (r : (List GBinding) × Bool × (List GBinding)), r_imatchAll ps pp pall = some r → ACalls Tryz.prog 159 [.acc 4 (GBinding.trs (ps)) 0, .t (.row 3 (GType.trs (pp))), .t (.row 3 (GType.trs (pall)))] ⟨[], [⟨225, 4, GBinding.trs (ps), false⟩]⟩ (fun q t => q = (.tup [(bif r.2.1 then .acc 4 (GBinding.trs (r.1)) 0 else .t (.row 4 (GBinding.trs (r.1)))), .t (.leaf (.bool (r.2.1)))] : PV) ∧ t = ⟨[], [⟨225, 4, GBinding.trs (r.2.2), false⟩]⟩)) (h_imatch : ∀ (ps : List GBinding) (pp : GType) (pt : GType) (r : (List GBinding) × Bool × (List GBinding)), r_imatch ps pp pt = some r → ACalls Tryz.prog 200 [.acc 4 (GBinding.trs (ps)) 0, (GType.pv pp), (GType.pv pt)] ⟨[], [⟨225, 4, GBinding.trs (ps), false⟩]⟩ (fun q t => q = (.tup [(bif r.2.1 then .acc 4 (GBinding.trs (r.1)) 0 else .t (.row 4 (GBinding.trs (r.1)))), .t (.leaf (.bool (r.2.1)))] : PV) ∧ t = ⟨[], [⟨225, 4, GBinding.trs (r.2.2), false⟩]⟩)) (ps : List GBinding) (pp : GType) (pt : GType) (r : (List GBinding) × Bool × (List GBinding)) (H : imatch_G fu r_imatchAll r_imatch ps pp pt = some r) : ACalls Tryz.prog 200 [.acc 4 (GBinding.trs (ps)) 0, (GType.pv pp), (GType.pv pt)] ⟨[], [⟨225, 4, GBinding.trs (ps), false⟩]⟩ (fun q t => q = (.tup [(bif r.2.1 then .acc 4 (GBinding.trs (r.1)) 0 else .t (.row 4 (GBinding.trs (r.1)))), .t (.leaf (.bool (r.2.1)))] : PV) ∧ t = ⟨[], [⟨225, 4, GBinding.trs (r.2.2), false⟩]⟩) := by
  refine ACalls.intro Tryz.func200 rfl (by first | decide | (simp; done) | (simp; decide)) ?_
  intro C hC
  refine AWP.fact (lk_lenN 0 rfl rfl (GBinding.trs_len _)) (fun hl1 => ?_)
  refine AWP.seq ?_
  refine AWP.region_lit ?_
  refine AL.cons rfl (AOp.box (cs := [.t (.leaf (.int .i64 (pp.gKind))), .t (.leaf (.string (pp.gName))), .t (.row 3 (GType.trs (pp.gArgs)))]) rfl rfl rfl rfl rfl) ?_
  refine AL.cons rfl (AOp.box (cs := [.t (.leaf (.int .i64 (pt.gKind))), .t (.leaf (.string (pt.gName))), .t (.row 3 (GType.trs (pt.gArgs)))]) rfl rfl rfl rfl rfl) ?_
  refine AL.cons rfl (AOp.move (.inr rfl) rfl rfl) ?_
  refine AL.cons rfl (AOp.move (.inr rfl) rfl rfl) ?_
  refine AL.nil ?_
  refine AWP.seq ?_
  refine AWP.seq ?_
  refine AWP.region_lit ?_
  refine AL.cons rfl (AOp.fieldPtr (k := 0) (d := 0) (e := 0) rfl rfl rfl fo47_0) ?_
  refine AL.cons rfl (AOp.loadPtr1 rfl rfl rfl rfl sh3 rfl) ?_
  refine AL.cons rfl (AOp.eqlI rfl rfl rfl rfl) ?_
  refine AL.nil ?_
  refine AWP.cond rfl (fun h2 => ?_) (fun h2 => ?_)
  · skip
    refine AWP.seq ?_
    refine AWP.seq ?_
    refine AWP.region_lit ?_
    refine AL.cons rfl (AOp.move (.inl rfl) rfl rfl) ?_
    refine AL.cons rfl (AOp.fieldPtr (k := 0) (d := 0) (e := 1) rfl rfl rfl fo47_1) ?_
    refine AL.cons rfl (AOp.loadPtr1 rfl rfl rfl rfl sh9 rfl) ?_
    rcases hq3 : iLookup_M fu ps pp.gName with _ | ⟨x4, x5⟩
    · skip
      have e6 : imatch_G fu r_imatchAll r_imatch ps pp pt = none := swT h2 (bdN hq3)
      exact none_some H e6
    · skip
      refine AL.cons rfl (AOp.callF (res := .tup [(GType.pv x4), .t (.leaf (.bool (x5)))]) (ps := [_, _]) rfl rfl Tryz.func160 (by kernel_rfl) rfl rfl (by (repeat' (first | exact PV.Le.refl _ | exact LeL.nil | exact PV.Le.nil _ | exact PV.Le.acc _ _ _ | apply LeL.cons | apply PV.Le.agg | apply PV.Le.tup))) rfl rfl (iLookup_ok fu ps pp.gName _ hq3)) ?_
      refine AL.cons rfl (AOp.move (.inl rfl) rfl rfl) ?_
      refine AL.cons rfl (AOp.extract rfl rfl rfl rfl) ?_
      refine AL.cons rfl (AOp.extract rfl rfl rfl rfl) ?_
      refine AL.cons rfl (AOp.alloc rfl rfl zr47) ?_
      refine AL.cons rfl (AOp.storePtr (cs := [.t (.leaf (.int .i64 (x4.gKind))), .t (.leaf (.string (x4.gName))), .t (.row 3 (GType.trs (x4.gArgs)))]) (ds := [.t (.leaf (.int .i64 (x4.gKind))), .t (.leaf (.string (x4.gName))), .t (.row 3 (GType.trs (x4.gArgs)))]) rfl rfl rfl rfl rfl rfl rfl sz47 (Nat.le_of_ble_eq_true rfl) rfl) ?_
      refine AL.cons rfl (AOp.move (.inr rfl) rfl rfl) ?_
      refine AL.nil ?_
      refine AWP.seq ?_
      refine AWP.region_lit ?_
      refine AL.cons rfl (AOp.move (.inl rfl) rfl rfl) ?_
      refine AL.nil ?_
      refine AWP.cond rfl (fun h7 => ?_) (fun h7 => ?_)
      · skip
        refine AWP.seq ?_
        refine AWP.region_lit ?_
        refine AL.cons rfl (AOp.move (.inl rfl) rfl rfl) ?_
        refine AL.cons rfl (AOp.loadPtr (cs := [.t (.leaf (.int .i64 (x4.gKind))), .t (.leaf (.string (x4.gName))), .t (.row 3 (GType.trs (x4.gArgs)))]) rfl rfl rfl rfl sh47 rfl rfl) ?_
        refine AL.cons rfl (AOp.loadPtr (cs := [.t (.leaf (.int .i64 (pt.gKind))), .t (.leaf (.string (pt.gName))), .t (.row 3 (GType.trs (pt.gArgs)))]) rfl rfl rfl rfl sh47 rfl rfl) ?_
        refine AL.cons rfl (AOp.callF (res := .t (.leaf (.bool (GType.eq x4 pt)))) (ps := [_, _]) rfl rfl Tryz.func215 (by kernel_rfl) rfl rfl (by (repeat' (first | exact PV.Le.refl _ | exact LeL.nil | exact PV.Le.nil _ | exact PV.Le.acc _ _ _ | apply LeL.cons | apply PV.Le.agg | apply PV.Le.tup))) rfl rfl (iEqualType_fn x4 pt)) ?_
        refine AL.cons rfl (AOp.move (.inr rfl) rfl rfl) ?_
        refine AL.cons rfl (AOp.move (.inr rfl) rfl rfl) ?_
        refine AL.nil ?_
        refine AWP.ret ?_
        rcases bool2 (GType.eq x4 pt) with g8 | g8
        · skip
          have e9 : imatch_G fu r_imatchAll r_imatch ps pp pt = some (ps, (GType.eq x4 pt), ps) := swT h2 (bdS hq3 (swT h7 (swT g8 (rfl))))
          have hz : (ps, (GType.eq x4 pt), ps) = r := Option.some.inj (e9.symm.trans H)
          subst hz
          exact Ends.mk (ps := [_, _]) (by first | exact .inr rfl | exact .inl rfl) ⟨rfl, rfl, trivial⟩ rfl (StLe.mk' (st' := ⟨[], [⟨225, 4, GBinding.trs (ps), false⟩]⟩) trivial (by first | rfl | simp)) (keeps_all hC (boxes0) (Nat.le_of_ble_eq_true rfl)) (q := (.tup [(bif (GType.eq x4 pt) then .acc 4 (GBinding.trs (ps)) 0 else .t (.row 4 (GBinding.trs (ps)))), .t (.leaf (.bool ((GType.eq x4 pt))))] : PV)) (by rw [g8]; exact (by (repeat' (first | exact PV.Le.refl _ | exact LeL.nil | exact PV.Le.nil _ | exact PV.Le.acc _ _ _ | apply LeL.cons | apply PV.Le.agg | apply PV.Le.tup)))) (by rw [g8]; rfl) ⟨rfl, rfl⟩
        · skip
          have e10 : imatch_G fu r_imatchAll r_imatch ps pp pt = some (ps, (GType.eq x4 pt), ps) := swT h2 (bdS hq3 (swT h7 (swF g8 (rfl))))
          have hz : (ps, (GType.eq x4 pt), ps) = r := Option.some.inj (e10.symm.trans H)
          subst hz
          exact Ends.mk (ps := [_, _]) (by first | exact .inr rfl | exact .inl rfl) ⟨rfl, rfl, trivial⟩ rfl (StLe.mk' (st' := ⟨[], [⟨225, 4, GBinding.trs (ps), false⟩]⟩) trivial (by first | rfl | simp)) (keeps_all hC (boxes0) (Nat.le_of_ble_eq_true rfl)) (q := (.tup [(bif (GType.eq x4 pt) then .acc 4 (GBinding.trs (ps)) 0 else .t (.row 4 (GBinding.trs (ps)))), .t (.leaf (.bool ((GType.eq x4 pt))))] : PV)) (by rw [g8]; exact (by (repeat' (first | exact PV.Le.refl _ | exact LeL.nil | exact PV.Le.nil _ | exact PV.Le.acc _ _ _ | apply LeL.cons | apply PV.Le.agg | apply PV.Le.tup)))) (by rw [g8]; rfl) ⟨rfl, rfl⟩
      · skip
        refine AWP.skip ?_
        refine AWP.seq ?_
        rcases Classical.em (Tr.bulkL (GType.tr pt) ≤ 68719476735) with hg11 | hg11
        · skip
          rcases Classical.em ((ps).length + (([(GBinding.mk pp.gName pt)] : List GBinding)).length ≤ 68719476736) with hg12 | hg12
          · skip
            refine AWP.drawnL ⟨_, _, fun j' _ => ([(⟨[some ⟨47, [.t (.leaf (.int .i64 (pp.gKind))), .t (.leaf (.string (pp.gName))), .t (.row 3 (GType.trs (pp.gArgs)))]⟩, some ⟨47, [.t (.leaf (.int .i64 (pt.gKind))), .t (.leaf (.string (pt.gName))), .t (.row 3 (GType.trs (pt.gArgs)))]⟩, some ⟨47, [.t (.leaf (.int .i64 (x4.gKind))), .t (.leaf (.string (x4.gName))), .t (.row 3 (GType.trs (x4.gArgs)))]⟩], [⟨225, 4, GBinding.trs (ps), false⟩]⟩ : Sto), (⟨[some ⟨47, [.t (.leaf (.int .i64 (pp.gKind))), .t (.leaf (.string (pp.gName))), .t (.row 3 (GType.trs (pp.gArgs)))]⟩, some ⟨47, [.t (.leaf (.int .i64 (pt.gKind))), .t (.leaf (.string (pt.gName))), .t (.row 3 (GType.trs (pt.gArgs)))]⟩, some ⟨47, [.t (.leaf (.int .i64 (x4.gKind))), .t (.leaf (.string (x4.gName))), .t (.row 3 (GType.trs (x4.gArgs)))]⟩], [⟨225, 4, GBinding.trs (ps ++ ([(GBinding.mk pp.gName pt)] : List GBinding)), false⟩]⟩ : Sto)] : List Sto).getD j' (⟨[some ⟨47, [.t (.leaf (.int .i64 (pp.gKind))), .t (.leaf (.string (pp.gName))), .t (.row 3 (GType.trs (pp.gArgs)))]⟩, some ⟨47, [.t (.leaf (.int .i64 (pt.gKind))), .t (.leaf (.string (pt.gName))), .t (.row 3 (GType.trs (pt.gArgs)))]⟩, some ⟨47, [.t (.leaf (.int .i64 (x4.gKind))), .t (.leaf (.string (x4.gName))), .t (.row 3 (GType.trs (x4.gArgs)))]⟩], [⟨225, 4, GBinding.trs (ps ++ ([(GBinding.mk pp.gName pt)] : List GBinding)), false⟩]⟩ : Sto), fun q' => ([some (.acc 4 (GBinding.trs (ps)) 0), some (.ptr 0 1), some (.t (.leaf (.string (pp.gName)))), some ((GType.pv pt)), some ((GType.pv pt)), some (.agg [.t (.leaf (.string (pp.gName))), .t (.leaf (.int .i64 (pt.gKind))), .t (.leaf (.string (pt.gName))), .t (.row 3 (GType.trs (pt.gArgs)))]), some (.t (.row 4 (GBinding.trs (([(GBinding.mk pp.gName pt)] : List GBinding))))), some (.acc 4 (GBinding.trs (ps ++ ([(GBinding.mk pp.gName pt)] : List GBinding))) 0), some (.acc 4 (GBinding.trs (ps ++ ([(GBinding.mk pp.gName pt)] : List GBinding))) 0), some (.t (.leaf (.bool (true))))] : List (Option PV)).getD q' none, fun q' => ([.q 0 0, .q 0 0, .q 0 0, .q 0 0, .q 0 0, .q 0 0, .q 0 0, .ef 0, .q 1 1, .q 1 1] : List DK).getD q' (.q 0 0), [7], none, fun q' => ([[(0, none)], [(4, none)], [(26, some 1)], [(5, none)], [(28, some 3)], [(29, some 4), (27, some 2)], [(30, some 5)], [(25, some 0), (31, some 6)], [(32, some 7)], []] : List (List (Nat × Option Nat))).getD q' []⟩ rfl mixed (by kernel_rfl) rfl rfl ⟨?_, ?_, ?_, ?_, ?_, ?_, ?_, ?_, ?_, ?_, trivial⟩ rfl ?_
            · refine .inl ⟨rfl, fun s' jj bb (h1 : 0 ≤ jj) (h2 : jj ≤ 0) hs hl => ?_⟩
              obtain rfl : jj = 0 := by omega
              exact ⟨_, rfl, AOp.move (.inl rfl) rfl (hl 0 none _ (.head _) rfl)⟩
            · refine .inl ⟨rfl, fun s' jj bb (h1 : 0 ≤ jj) (h2 : jj ≤ 0) hs hl => ?_⟩
              obtain rfl : jj = 0 := by omega
              exact ⟨_, rfl, AOp.fieldPtr (k := 0) (d := 0) (e := 1) rfl rfl (hl 4 none _ (.head _) rfl) fo47_1⟩
            · refine .inl ⟨rfl, fun s' jj bb (h1 : 0 ≤ jj) (h2 : jj ≤ 0) hs hl => ?_⟩
              obtain rfl : jj = 0 := by omega
              exact ⟨_, rfl, AOp.loadPtr1 rfl rfl (hl 26 (some 1) _ (.head _) rfl) (by rw [hs]; rfl) sh9 rfl⟩
            · refine .inl ⟨rfl, fun s' jj bb (h1 : 0 ≤ jj) (h2 : jj ≤ 0) hs hl => ?_⟩
              obtain rfl : jj = 0 := by omega
              exact ⟨_, rfl, AOp.loadPtr (cs := [.t (.leaf (.int .i64 (pt.gKind))), .t (.leaf (.string (pt.gName))), .t (.row 3 (GType.trs (pt.gArgs)))]) rfl rfl (hl 5 none _ (.head _) rfl) (by rw [hs]; rfl) sh47 rfl rfl⟩
            · refine .inl ⟨rfl, fun s' jj bb (h1 : 0 ≤ jj) (h2 : jj ≤ 0) hs hl => ?_⟩
              obtain rfl : jj = 0 := by omega
              exact ⟨_, rfl, AOp.callF (res := (GType.pv pt)) (ps := [_]) rfl rfl Tryz.func111 (by kernel_rfl) rfl (evs_cons (hl 28 (some 3) _ (.head _) rfl) rfl) (by (repeat' (first | exact PV.Le.refl _ | exact LeL.nil | exact PV.Le.nil _ | exact PV.Le.acc _ _ _ | apply LeL.cons | apply PV.Le.agg | apply PV.Le.tup))) rfl rfl (icopyType_fn pt hg11)⟩
            · refine .inl ⟨rfl, fun s' jj bb (h1 : 0 ≤ jj) (h2 : jj ≤ 0) hs hl => ?_⟩
              obtain rfl : jj = 0 := by omega
              exact ⟨_, rfl, AOp.build rfl rfl zr225 pl225 (parts_cons (hl 27 (some 2) _ (.tail _ (.head _)) rfl) rfl rfl (parts_cons (hl 29 (some 4) _ (.head _) rfl) rfl rfl rfl)) rfl⟩
            · refine .inl ⟨rfl, fun s' jj bb (h1 : 0 ≤ jj) (h2 : jj ≤ 0) hs hl => ?_⟩
              obtain rfl : jj = 0 := by omega
              exact ⟨_, rfl, AOp.buildSliceE (es := [GBinding.cs (GBinding.mk pp.gName pt)]) (es' := GBinding.trs (([(GBinding.mk pp.gName pt)] : List GBinding))) (cs := [.t (.leaf (.string (pp.gName))), .t (.leaf (.int .i64 (pt.gKind))), .t (.leaf (.string (pt.gName))), .t (.row 3 (GType.trs (pt.gArgs)))]) rfl rfl el138 zr225 (parts_cons (hl 30 (some 5) _ (.head _) rfl) rfl rfl rfl) rfl (by (repeat' (first | exact PV.Le.refl _ | exact LeL.nil | exact PV.Le.nil _ | exact PV.Le.acc _ _ _ | apply LeL.cons | apply PV.Le.agg | apply PV.Le.tup))) rfl (by simp [GBinding.cs]) (by decide) rfl (by decide) (by simp [GBinding.trs_map, GBinding.tr_cs])⟩
            · refine .inl ⟨rfl, fun s' bb hs hl => ?_⟩
              refine .inl ⟨_, rfl, AOp.congr (AOp.appendE (es3 := GBinding.trs (ps ++ ([(GBinding.mk pp.gName pt)] : List GBinding))) rfl rfl (hl 25 (some 0) _ (.head _) rfl) (by rw [hs]; rfl) rfl rfl rfl (hl 31 (some 6) _ (.tail _ (.head _)) rfl) rfl (fun e he => by rw [GBinding.trs_map] at he; obtain ⟨x, _, rfl⟩ := List.mem_map.1 he; rw [GBinding.tr_cs]; rfl) el138 ze138 (by decide) (by rw [GBinding.trs_len, GBinding.trs_len]; exact room_le hg12 (by decide)) (by rw [GBinding.trs_map, GBinding.trs_map, GBinding.trs_map, List.map_append])) ?_⟩
              first | (rw [hs]; rfl) | rfl
            · refine .inl ⟨rfl, fun s' jj bb (h1 : 1 ≤ jj) (h2 : jj ≤ 1) hs hl => ?_⟩
              obtain rfl : jj = 1 := by omega
              exact ⟨_, rfl, AOp.move (.inr rfl) rfl (hl 32 (some 7) _ (.head _) rfl)⟩
            · refine .inl ⟨rfl, fun s' jj bb (h1 : 1 ≤ jj) (h2 : jj ≤ 1) hs hl => ?_⟩
              obtain rfl : jj = 1 := by omega
              exact ⟨_, rfl, AOp.move (.inr rfl) rfl rfl⟩
            refine AWP.ret ?_
            have e13 : imatch_G fu r_imatchAll r_imatch ps pp pt = some ((ps ++ ([(GBinding.mk pp.gName pt)] : List GBinding)), true, (ps ++ ([(GBinding.mk pp.gName pt)] : List GBinding))) := swT h2 (bdS hq3 (swF h7 (gdT hg11 (gdT hg12 (rfl)))))
            have hz : ((ps ++ ([(GBinding.mk pp.gName pt)] : List GBinding)), true, (ps ++ ([(GBinding.mk pp.gName pt)] : List GBinding))) = r := Option.some.inj (e13.symm.trans H)
            subst hz
            exact Ends.mk (ps := [_, _]) (by first | exact .inr rfl | exact .inl rfl) ⟨rfl, rfl, trivial⟩ rfl (StLe.mk' (st' := ⟨[], [⟨225, 4, GBinding.trs ((ps ++ ([(GBinding.mk pp.gName pt)] : List GBinding))), false⟩]⟩) trivial (by first | rfl | simp)) (keeps_all hC (boxes0) (Nat.le_of_ble_eq_true rfl)) (q := (.tup [(bif true then .acc 4 (GBinding.trs (ps ++ ([(GBinding.mk pp.gName pt)] : List GBinding))) 0 else .t (.row 4 (GBinding.trs (ps ++ ([(GBinding.mk pp.gName pt)] : List GBinding))))), .t (.leaf (.bool (true)))] : PV)) (by (repeat' (first | exact PV.Le.refl _ | exact LeL.nil | exact PV.Le.nil _ | exact PV.Le.acc _ _ _ | apply LeL.cons | apply PV.Le.agg | apply PV.Le.tup))) rfl ⟨rfl, rfl⟩
          · skip
            have e14 : imatch_G fu r_imatchAll r_imatch ps pp pt = none := swT h2 (bdS hq3 (swF h7 (gdT hg11 (gdF hg12))))
            exact none_some H e14
        · skip
          have e15 : imatch_G fu r_imatchAll r_imatch ps pp pt = none := swT h2 (bdS hq3 (swF h7 (gdF hg11)))
          exact none_some H e15
  · skip
    refine AWP.skip ?_
    refine AWP.seq ?_
    refine AWP.seq ?_
    refine AWP.region_lit ?_
    refine AL.cons rfl (AOp.fieldPtr (k := 0) (d := 0) (e := 0) rfl rfl rfl fo47_0) ?_
    refine AL.cons rfl (AOp.loadPtr1 rfl rfl rfl rfl sh3 rfl) ?_
    refine AL.cons rfl (AOp.fieldPtr (k := 1) (d := 0) (e := 0) rfl rfl rfl fo47_0) ?_
    refine AL.cons rfl (AOp.loadPtr1 rfl rfl rfl rfl sh3 rfl) ?_
    refine AL.cons rfl (AOp.neqI rfl rfl rfl rfl) ?_
    refine AL.cons rfl (AOp.move (.inl rfl) rfl rfl) ?_
    refine AL.splitB 38 rfl (fun g16 => ?_) (fun g16 => ?_)
    · skip
      refine AL.skipP rfl rfl rfl g16 rfl rfl ?_
      refine AL.skipP rfl rfl rfl g16 rfl rfl ?_
      refine AL.skipP rfl rfl rfl g16 rfl rfl ?_
      refine AL.skipP rfl rfl rfl g16 rfl rfl ?_
      refine AL.skipP rfl rfl rfl g16 rfl rfl ?_
      refine AL.cons rfl (AOp.pickT rfl rfl rfl g16 rfl) ?_
      refine AL.nil ?_
      refine AWP.cond rfl (fun h17 => ?_) (fun h17 => ?_)
      · skip
        refine AWP.seq ?_
        refine AWP.region_lit ?_
        refine AL.cons rfl (AOp.move (.inr rfl) rfl rfl) ?_
        refine AL.cons rfl (AOp.move (.inr rfl) rfl rfl) ?_
        refine AL.nil ?_
        refine AWP.ret ?_
        have e18 : imatch_G fu r_imatchAll r_imatch ps pp pt = some ([], false, ps) := swF h2 (swT g16 (rfl))
        have hz : ([], false, ps) = r := Option.some.inj (e18.symm.trans H)
        subst hz
        exact Ends.mk (ps := [_, _]) (by first | exact .inr rfl | exact .inl rfl) ⟨rfl, rfl, trivial⟩ rfl (StLe.mk' (st' := ⟨[], [⟨225, 4, GBinding.trs (ps), false⟩]⟩) trivial (by first | rfl | simp)) (keeps_all hC (boxes0) (Nat.le_of_ble_eq_true rfl)) (q := (.tup [(bif false then .acc 4 (GBinding.trs ([])) 0 else .t (.row 4 (GBinding.trs ([])))), .t (.leaf (.bool (false)))] : PV)) (by (repeat' (first | exact PV.Le.refl _ | exact LeL.nil | exact PV.Le.nil _ | exact PV.Le.acc _ _ _ | apply LeL.cons | apply PV.Le.agg | apply PV.Le.tup))) rfl ⟨rfl, rfl⟩
      · skip
        exact absurd (h17.symm.trans rfl) (by decide)
    · skip
      refine AL.cons_gv rfl rfl rfl g16 (AOp.fieldPtr (k := 0) (d := 0) (e := 1) rfl rfl rfl fo47_1) ?_
      refine AL.cons_gv rfl rfl rfl g16 (AOp.loadPtr1 rfl rfl rfl rfl sh9 rfl) ?_
      refine AL.cons_gv rfl rfl rfl g16 (AOp.fieldPtr (k := 1) (d := 0) (e := 1) rfl rfl rfl fo47_1) ?_
      refine AL.cons_gv rfl rfl rfl g16 (AOp.loadPtr1 rfl rfl rfl rfl sh9 rfl) ?_
      refine AL.cons_gv rfl rfl rfl g16 (AOp.neqS rfl rfl rfl rfl) ?_
      refine AL.cons rfl (AOp.pickF rfl rfl rfl g16 rfl) ?_
      refine AL.nil ?_
      refine AWP.cond rfl (fun h19 => ?_) (fun h19 => ?_)
      · skip
        refine AWP.seq ?_
        refine AWP.region_lit ?_
        refine AL.cons rfl (AOp.move (.inr rfl) rfl rfl) ?_
        refine AL.cons rfl (AOp.move (.inr rfl) rfl rfl) ?_
        refine AL.nil ?_
        refine AWP.ret ?_
        have e20 : imatch_G fu r_imatchAll r_imatch ps pp pt = some ([], false, ps) := swF h2 (swF g16 (swT h19 (rfl)))
        have hz : ([], false, ps) = r := Option.some.inj (e20.symm.trans H)
        subst hz
        exact Ends.mk (ps := [_, _]) (by first | exact .inr rfl | exact .inl rfl) ⟨rfl, rfl, trivial⟩ rfl (StLe.mk' (st' := ⟨[], [⟨225, 4, GBinding.trs (ps), false⟩]⟩) trivial (by first | rfl | simp)) (keeps_all hC (boxes0) (Nat.le_of_ble_eq_true rfl)) (q := (.tup [(bif false then .acc 4 (GBinding.trs ([])) 0 else .t (.row 4 (GBinding.trs ([])))), .t (.leaf (.bool (false)))] : PV)) (by (repeat' (first | exact PV.Le.refl _ | exact LeL.nil | exact PV.Le.nil _ | exact PV.Le.acc _ _ _ | apply LeL.cons | apply PV.Le.agg | apply PV.Le.tup))) rfl ⟨rfl, rfl⟩
      · skip
        refine AWP.skip ?_
        refine AWP.seq ?_
        refine AWP.region_lit ?_
        refine AL.cons rfl (AOp.move (.inl rfl) rfl rfl) ?_
        refine AL.cons rfl (AOp.fieldPtr (k := 0) (d := 0) (e := 2) rfl rfl rfl fo47_2) ?_
        refine AL.cons rfl (AOp.loadPtr1 rfl rfl rfl rfl sh45 rfl) ?_
        refine AL.fact (lk_lenN 47 rfl rfl (GType.trs_len _)) (fun hl21 => ?_)
        refine AL.cons rfl (AOp.fieldPtr (k := 1) (d := 0) (e := 2) rfl rfl rfl fo47_2) ?_
        refine AL.cons rfl (AOp.loadPtr1 rfl rfl rfl rfl sh45 rfl) ?_
        refine AL.fact (lk_lenN 49 rfl rfl (GType.trs_len _)) (fun hl22 => ?_)
        rcases hq23 : r_imatchAll ps pp.gArgs pt.gArgs with _ | ⟨x24, x25, x26⟩
        · skip
          have e27 : imatch_G fu r_imatchAll r_imatch ps pp pt = none := swF h2 (swF g16 (swF h19 (bdN hq23)))
          exact none_some H e27
        · skip
          cases x25
          · skip
            refine AL.cons rfl (AOp.callPE (pre := ⟨[], [⟨225, 4, GBinding.trs (ps), false⟩]⟩) (st' := ⟨[], [⟨225, 4, GBinding.trs (x26), false⟩]⟩) (ps := [_, _, _]) (qs := [.acc 4 (GBinding.trs (ps)) 0, .t (.row 3 (GType.trs (pp.gArgs))), .t (.row 3 (GType.trs (pt.gArgs)))]) [] [0] rfl rfl Tryz.func159 (by kernel_rfl) rfl rfl rfl (Part0.of trivial ⟨rfl, trivial⟩ (by decide) (by decide)) (by (repeat' (first | exact PV.Le.refl _ | exact LeL.nil | exact PV.Le.nil _ | exact PV.Le.acc _ _ _ | apply LeL.cons | apply PV.Le.agg | apply PV.Le.tup))) rfl rfl rfl (h_imatchAll ps pp.gArgs pt.gArgs _ hq23)) ?_
            refine AL.cons rfl (AOp.extract rfl rfl rfl rfl) ?_
            refine AL.cons rfl (AOp.extract rfl rfl rfl rfl) ?_
            refine AL.cons rfl (AOp.move (.inr rfl) rfl rfl) ?_
            refine AL.cons rfl (AOp.move (.inr rfl) rfl rfl) ?_
            refine AL.nil ?_
            refine AWP.ret ?_
            have e28 : imatch_G fu r_imatchAll r_imatch ps pp pt = some (x24, false, x26) := swF h2 (swF g16 (swF h19 (bdS hq23 (swF rfl (rfl)))))
            have hz : (x24, false, x26) = r := Option.some.inj (e28.symm.trans H)
            subst hz
            exact Ends.mk (ps := [_, _]) (by first | exact .inr rfl | exact .inl rfl) ⟨rfl, rfl, trivial⟩ rfl (StLe.mk' (st' := ⟨[], [⟨225, 4, GBinding.trs (x26), false⟩]⟩) trivial (by first | rfl | simp)) (keeps_all hC (boxes0) (Nat.le_of_ble_eq_true rfl)) (q := (.tup [(bif false then .acc 4 (GBinding.trs (x24)) 0 else .t (.row 4 (GBinding.trs (x24)))), .t (.leaf (.bool (false)))] : PV)) (by (repeat' (first | exact PV.Le.refl _ | exact LeL.nil | exact PV.Le.nil _ | exact PV.Le.acc _ _ _ | apply LeL.cons | apply PV.Le.agg | apply PV.Le.tup))) rfl ⟨rfl, rfl⟩
          · skip
            rcases Classical.em (x24 = x26) with hg29 | hg29
            · skip
              have hg29c := hg29
              subst hg29
              refine AL.cons rfl (AOp.callPE (pre := ⟨[], [⟨225, 4, GBinding.trs (ps), false⟩]⟩) (st' := ⟨[], [⟨225, 4, GBinding.trs (x24), false⟩]⟩) (ps := [_, _, _]) (qs := [.acc 4 (GBinding.trs (ps)) 0, .t (.row 3 (GType.trs (pp.gArgs))), .t (.row 3 (GType.trs (pt.gArgs)))]) [] [0] rfl rfl Tryz.func159 (by kernel_rfl) rfl rfl rfl (Part0.of trivial ⟨rfl, trivial⟩ (by decide) (by decide)) (by (repeat' (first | exact PV.Le.refl _ | exact LeL.nil | exact PV.Le.nil _ | exact PV.Le.acc _ _ _ | apply LeL.cons | apply PV.Le.agg | apply PV.Le.tup))) rfl rfl rfl (h_imatchAll ps pp.gArgs pt.gArgs _ hq23)) ?_
              refine AL.cons rfl (AOp.extract rfl rfl rfl rfl) ?_
              refine AL.cons rfl (AOp.extract rfl rfl rfl rfl) ?_
              refine AL.cons rfl (AOp.move (.inr rfl) rfl rfl) ?_
              refine AL.cons rfl (AOp.move (.inr rfl) rfl rfl) ?_
              refine AL.nil ?_
              refine AWP.ret ?_
              have e30 : imatch_G fu r_imatchAll r_imatch ps pp pt = some (x24, true, x24) := swF h2 (swF g16 (swF h19 (bdS hq23 (swT rfl (gdT hg29c (rfl))))))
              have hz : (x24, true, x24) = r := Option.some.inj (e30.symm.trans H)
              subst hz
              exact Ends.mk (ps := [_, _]) (by first | exact .inr rfl | exact .inl rfl) ⟨rfl, rfl, trivial⟩ rfl (StLe.mk' (st' := ⟨[], [⟨225, 4, GBinding.trs (x24), false⟩]⟩) trivial (by first | rfl | simp)) (keeps_all hC (boxes0) (Nat.le_of_ble_eq_true rfl)) (q := (.tup [(bif true then .acc 4 (GBinding.trs (x24)) 0 else .t (.row 4 (GBinding.trs (x24)))), .t (.leaf (.bool (true)))] : PV)) (by (repeat' (first | exact PV.Le.refl _ | exact LeL.nil | exact PV.Le.nil _ | exact PV.Le.acc _ _ _ | apply LeL.cons | apply PV.Le.agg | apply PV.Le.tup))) rfl ⟨rfl, rfl⟩
            · skip
              have e31 : imatch_G fu r_imatchAll r_imatch ps pp pt = none := swF h2 (swF g16 (swF h19 (bdS hq23 (swT rfl (gdF hg29)))))
              exact none_some H e31
mutual
noncomputable def imatchAll_M : Nat → (List GBinding) → (List GType) → (List GType) → Option ((List GBinding) × Bool × (List GBinding))
  | 0, _, _, _ => none
  | fu + 1, ps, pp, pall => imatchAll_G fu (imatchAll_M fu) (imatch_M fu) ps pp pall
noncomputable def imatch_M : Nat → (List GBinding) → GType → GType → Option ((List GBinding) × Bool × (List GBinding))
  | 0, _, _, _ => none
  | fu + 1, ps, pp, pt => imatch_G fu (imatchAll_M fu) (imatch_M fu) ps pp pt
end
theorem imatchAll_all (fu : Nat) : (∀ (ps : List GBinding) (pp : List GType) (pall : List GType) (r : (List GBinding) × Bool × (List GBinding)), imatchAll_M fu ps pp pall = some r → ACalls Tryz.prog 159 [.acc 4 (GBinding.trs (ps)) 0, .t (.row 3 (GType.trs (pp))), .t (.row 3 (GType.trs (pall)))] ⟨[], [⟨225, 4, GBinding.trs (ps), false⟩]⟩ (fun q t => q = (.tup [(bif r.2.1 then .acc 4 (GBinding.trs (r.1)) 0 else .t (.row 4 (GBinding.trs (r.1)))), .t (.leaf (.bool (r.2.1)))] : PV) ∧ t = ⟨[], [⟨225, 4, GBinding.trs (r.2.2), false⟩]⟩)) ∧ (∀ (ps : List GBinding) (pp : GType) (pt : GType) (r : (List GBinding) × Bool × (List GBinding)), imatch_M fu ps pp pt = some r → ACalls Tryz.prog 200 [.acc 4 (GBinding.trs (ps)) 0, (GType.pv pp), (GType.pv pt)] ⟨[], [⟨225, 4, GBinding.trs (ps), false⟩]⟩ (fun q t => q = (.tup [(bif r.2.1 then .acc 4 (GBinding.trs (r.1)) 0 else .t (.row 4 (GBinding.trs (r.1)))), .t (.leaf (.bool (r.2.1)))] : PV) ∧ t = ⟨[], [⟨225, 4, GBinding.trs (r.2.2), false⟩]⟩)) := by
  induction fu with
  | zero => exact ⟨(fun ps pp pall r H => by simp only [imatchAll_M] at H; cases H), (fun ps pp pt r H => by simp only [imatch_M] at H; cases H)⟩
  | succ fu ih => exact ⟨(fun ps pp pall r H => by simp only [imatchAll_M] at H; exact imatchAll_step (imatchAll_M fu) (imatch_M fu) fu ih.1 ih.2 ps pp pall r H), (fun ps pp pt r H => by simp only [imatch_M] at H; exact imatch_step (imatchAll_M fu) (imatch_M fu) fu ih.1 ih.2 ps pp pt r H)⟩
theorem imatchAll_ok (fu : Nat) (ps : List GBinding) (pp : List GType) (pall : List GType) (r : (List GBinding) × Bool × (List GBinding)) (H : imatchAll_M fu ps pp pall = some r) : ACalls Tryz.prog 159 [.acc 4 (GBinding.trs (ps)) 0, .t (.row 3 (GType.trs (pp))), .t (.row 3 (GType.trs (pall)))] ⟨[], [⟨225, 4, GBinding.trs (ps), false⟩]⟩ (fun q t => q = (.tup [(bif r.2.1 then .acc 4 (GBinding.trs (r.1)) 0 else .t (.row 4 (GBinding.trs (r.1)))), .t (.leaf (.bool (r.2.1)))] : PV) ∧ t = ⟨[], [⟨225, 4, GBinding.trs (r.2.2), false⟩]⟩) := (imatchAll_all fu).1 ps pp pall r H
noncomputable def iMatch_M (fu : Nat)  (pp : GType) (pt : GType) : Option ((List GBinding) × Bool) :=
 bd (imatchAll_M fu ([]) ([pp] : List GType) ([pt] : List GType)) (fun (x2, x3, x4) =>
 sw (x3)
 (gd (x2 = x4)
 (some (x2, true)))
 (some (x2, false)))
set_option maxRecDepth 100000 in
set_option maxHeartbeats 4000000 in
theorem iMatch_ok  (fu : Nat)  (pp : GType) (pt : GType) (r : (List GBinding) × Bool) (H : iMatch_M fu pp pt = some r) : AFun Tryz.prog 105 [(GType.pv pp), (GType.pv pt)] (.tup [.t (.row 4 (GBinding.trs (r.1))), .t (.leaf (.bool (r.2)))] : PV) := by
  refine ACalls.intro Tryz.func105 rfl (by first | decide | (simp; done) | (simp; decide)) ?_
  intro C hC
  refine AWP.seq ?_
  refine AWP.region_lit ?_
  refine AL.cons rfl (AOp.box (cs := [.t (.leaf (.int .i64 (pp.gKind))), .t (.leaf (.string (pp.gName))), .t (.row 3 (GType.trs (pp.gArgs)))]) rfl rfl rfl rfl rfl) ?_
  refine AL.cons rfl (AOp.box (cs := [.t (.leaf (.int .i64 (pt.gKind))), .t (.leaf (.string (pt.gName))), .t (.row 3 (GType.trs (pt.gArgs)))]) rfl rfl rfl rfl rfl) ?_
  refine AL.cons rfl (AOp.move (.inr rfl) rfl rfl) ?_
  refine AL.cons rfl (AOp.move (.inr rfl) rfl rfl) ?_
  refine AL.nil ?_
  refine AWP.seq ?_
  refine AWP.region_lit ?_
  refine AL.cons rfl (AOp.loadPtr (cs := [.t (.leaf (.int .i64 (pp.gKind))), .t (.leaf (.string (pp.gName))), .t (.row 3 (GType.trs (pp.gArgs)))]) rfl rfl rfl rfl sh47 rfl rfl) ?_
  refine AL.cons rfl (AOp.buildSliceE (es := [GType.cs pp]) (es' := GType.trs (([pp] : List GType))) (cs := [.t (.leaf (.int .i64 (pp.gKind))), .t (.leaf (.string (pp.gName))), .t (.row 3 (GType.trs (pp.gArgs)))]) rfl rfl el45 zr47 rfl rfl (by (repeat' (first | exact PV.Le.refl _ | exact LeL.nil | exact PV.Le.nil _ | exact PV.Le.acc _ _ _ | apply LeL.cons | apply PV.Le.agg | apply PV.Le.tup))) rfl (by simp [GType.cs]) (by decide) rfl (by decide) (by simp [GType.trs_map, GType.tr_cs])) ?_
  refine AL.cons rfl (AOp.loadPtr (cs := [.t (.leaf (.int .i64 (pt.gKind))), .t (.leaf (.string (pt.gName))), .t (.row 3 (GType.trs (pt.gArgs)))]) rfl rfl rfl rfl sh47 rfl rfl) ?_
  refine AL.cons rfl (AOp.buildSliceE (es := [GType.cs pt]) (es' := GType.trs (([pt] : List GType))) (cs := [.t (.leaf (.int .i64 (pt.gKind))), .t (.leaf (.string (pt.gName))), .t (.row 3 (GType.trs (pt.gArgs)))]) rfl rfl el45 zr47 rfl rfl (by (repeat' (first | exact PV.Le.refl _ | exact LeL.nil | exact PV.Le.nil _ | exact PV.Le.acc _ _ _ | apply LeL.cons | apply PV.Le.agg | apply PV.Le.tup))) rfl (by simp [GType.cs]) (by decide) rfl (by decide) (by simp [GType.trs_map, GType.tr_cs])) ?_
  rcases hq1 : imatchAll_M fu ([]) ([pp] : List GType) ([pt] : List GType) with _ | ⟨x2, x3, x4⟩
  · skip
    have e5 : iMatch_M fu pp pt = none := bdN hq1
    exact none_some H e5
  · skip
    cases x3
    · skip
      refine AL.cons rfl (AOp.callF (res := .tup [.t (.row 4 (GBinding.trs (x2))), .t (.leaf (.bool (false)))]) (ps := [_, _, _]) (qs := [.nil, .t (.row 3 (GType.trs (([pp] : List GType)))), .t (.row 3 (GType.trs (([pt] : List GType))))]) rfl rfl Tryz.func159 (by kernel_rfl) rfl rfl (by (repeat' (first | exact PV.Le.refl _ | exact LeL.nil | exact PV.Le.nil _ | exact PV.Le.acc _ _ _ | apply LeL.cons | apply PV.Le.agg | apply PV.Le.tup))) rfl rfl (ACalls.regNil (l1 := []) (l2 := [.t (.row 3 (GType.trs (([pp] : List GType)))), .t (.row 3 (GType.trs (([pt] : List GType))))]) (E := 225) (sz := 4) (q := .tup [.t (.row 4 (GBinding.trs (x2))), .t (.leaf (.bool (false)))]) (by decide) (imatchAll_ok fu ([]) ([pp] : List GType) ([pt] : List GType) _ hq1) (by (repeat' (first | exact PV.Le.refl _ | exact LeL.nil | exact PV.Le.nil _ | exact PV.Le.acc _ _ _ | apply LeL.cons | apply PV.Le.agg | apply PV.Le.tup))) rfl)) ?_
      refine AL.cons rfl (AOp.extract rfl rfl rfl rfl) ?_
      refine AL.cons rfl (AOp.extract rfl rfl rfl rfl) ?_
      refine AL.cons rfl (AOp.move (.inr rfl) rfl rfl) ?_
      refine AL.cons rfl (AOp.move (.inr rfl) rfl rfl) ?_
      refine AL.nil ?_
      refine AWP.ret ?_
      have e6 : iMatch_M fu pp pt = some (x2, false) := bdS hq1 (swF rfl (rfl))
      have hz : (x2, false) = r := Option.some.inj (e6.symm.trans H)
      subst hz
      exact Ends.mk (ps := [_, _]) (by first | exact .inr rfl | exact .inl rfl) ⟨rfl, rfl, trivial⟩ rfl (StLe.mk' (st' := ⟨[], []⟩) trivial rfl) (keeps_nil hC) (q := (.tup [.t (.row 4 (GBinding.trs (x2))), .t (.leaf (.bool (false)))] : PV)) (by (repeat' (first | exact PV.Le.refl _ | exact LeL.nil | exact PV.Le.nil _ | exact PV.Le.acc _ _ _ | apply LeL.cons | apply PV.Le.agg | apply PV.Le.tup))) rfl ⟨rfl, rfl⟩
    · skip
      rcases Classical.em (x2 = x4) with hg7 | hg7
      · skip
        have hg7c := hg7
        subst hg7
        refine AL.cons rfl (AOp.callF (res := .tup [.t (.row 4 (GBinding.trs (x2))), .t (.leaf (.bool (true)))]) (ps := [_, _, _]) (qs := [.nil, .t (.row 3 (GType.trs (([pp] : List GType)))), .t (.row 3 (GType.trs (([pt] : List GType))))]) rfl rfl Tryz.func159 (by kernel_rfl) rfl rfl (by (repeat' (first | exact PV.Le.refl _ | exact LeL.nil | exact PV.Le.nil _ | exact PV.Le.acc _ _ _ | apply LeL.cons | apply PV.Le.agg | apply PV.Le.tup))) rfl rfl (ACalls.regNil (l1 := []) (l2 := [.t (.row 3 (GType.trs (([pp] : List GType)))), .t (.row 3 (GType.trs (([pt] : List GType))))]) (E := 225) (sz := 4) (q := .tup [.t (.row 4 (GBinding.trs (x2))), .t (.leaf (.bool (true)))]) (by decide) (imatchAll_ok fu ([]) ([pp] : List GType) ([pt] : List GType) _ hq1) (by (repeat' (first | exact PV.Le.refl _ | exact LeL.nil | exact PV.Le.nil _ | exact PV.Le.acc _ _ _ | apply LeL.cons | apply PV.Le.agg | apply PV.Le.tup))) rfl)) ?_
        refine AL.cons rfl (AOp.extract rfl rfl rfl rfl) ?_
        refine AL.cons rfl (AOp.extract rfl rfl rfl rfl) ?_
        refine AL.cons rfl (AOp.move (.inr rfl) rfl rfl) ?_
        refine AL.cons rfl (AOp.move (.inr rfl) rfl rfl) ?_
        refine AL.nil ?_
        refine AWP.ret ?_
        have e8 : iMatch_M fu pp pt = some (x2, true) := bdS hq1 (swT rfl (gdT hg7c (rfl)))
        have hz : (x2, true) = r := Option.some.inj (e8.symm.trans H)
        subst hz
        exact Ends.mk (ps := [_, _]) (by first | exact .inr rfl | exact .inl rfl) ⟨rfl, rfl, trivial⟩ rfl (StLe.mk' (st' := ⟨[], []⟩) trivial rfl) (keeps_nil hC) (q := (.tup [.t (.row 4 (GBinding.trs (x2))), .t (.leaf (.bool (true)))] : PV)) (by (repeat' (first | exact PV.Le.refl _ | exact LeL.nil | exact PV.Le.nil _ | exact PV.Le.acc _ _ _ | apply LeL.cons | apply PV.Le.agg | apply PV.Le.tup))) rfl ⟨rfl, rfl⟩
      · skip
        have e9 : iMatch_M fu pp pt = none := bdS hq1 (swT rfl (gdF hg7))
        exact none_some H e9

noncomputable def iMatches_M (fu : Nat)  (pp : GType) (pt : GType) : Option Bool :=
 bd (iMatch_M fu pp pt) (fun (x2, x3) =>
 some x3)
set_option maxRecDepth 100000 in
set_option maxHeartbeats 4000000 in
theorem iMatches_ok  (fu : Nat)  (pp : GType) (pt : GType) (r : Bool) (H : iMatches_M fu pp pt = some r) : AFun Tryz.prog 115 [(GType.pv pp), (GType.pv pt)] (.t (.leaf (.bool (r))) : PV) := by
  refine ACalls.intro Tryz.func115 rfl (by first | decide | (simp; done) | (simp; decide)) ?_
  intro C hC
  refine AWP.seq ?_
  refine AWP.region_lit ?_
  refine AL.cons rfl (AOp.box (cs := [.t (.leaf (.int .i64 (pp.gKind))), .t (.leaf (.string (pp.gName))), .t (.row 3 (GType.trs (pp.gArgs)))]) rfl rfl rfl rfl rfl) ?_
  refine AL.cons rfl (AOp.box (cs := [.t (.leaf (.int .i64 (pt.gKind))), .t (.leaf (.string (pt.gName))), .t (.row 3 (GType.trs (pt.gArgs)))]) rfl rfl rfl rfl rfl) ?_
  refine AL.cons rfl (AOp.move (.inr rfl) rfl rfl) ?_
  refine AL.nil ?_
  refine AWP.seq ?_
  refine AWP.region_lit ?_
  refine AL.cons rfl (AOp.loadPtr (cs := [.t (.leaf (.int .i64 (pp.gKind))), .t (.leaf (.string (pp.gName))), .t (.row 3 (GType.trs (pp.gArgs)))]) rfl rfl rfl rfl sh47 rfl rfl) ?_
  refine AL.cons rfl (AOp.loadPtr (cs := [.t (.leaf (.int .i64 (pt.gKind))), .t (.leaf (.string (pt.gName))), .t (.row 3 (GType.trs (pt.gArgs)))]) rfl rfl rfl rfl sh47 rfl rfl) ?_
  rcases hq1 : iMatch_M fu pp pt with _ | ⟨x2, x3⟩
  · skip
    have e4 : iMatches_M fu pp pt = none := bdN hq1
    exact none_some H e4
  · skip
    refine AL.cons rfl (AOp.callF (res := .tup [.t (.row 4 (GBinding.trs (x2))), .t (.leaf (.bool (x3)))]) (ps := [_, _]) rfl rfl Tryz.func105 (by kernel_rfl) rfl rfl (by (repeat' (first | exact PV.Le.refl _ | exact LeL.nil | exact PV.Le.nil _ | exact PV.Le.acc _ _ _ | apply LeL.cons | apply PV.Le.agg | apply PV.Le.tup))) rfl rfl (iMatch_ok fu pp pt _ hq1)) ?_
    refine AL.cons rfl (AOp.move (.inl rfl) rfl rfl) ?_
    refine AL.cons rfl (AOp.extract rfl rfl rfl rfl) ?_
    refine AL.cons rfl (AOp.extract rfl rfl rfl rfl) ?_
    refine AL.cons rfl (AOp.move (.inr rfl) rfl rfl) ?_
    refine AL.cons rfl (AOp.move (.inr rfl) rfl rfl) ?_
    refine AL.nil ?_
    refine AWP.seq ?_
    refine AWP.region_lit ?_
    refine AL.cons rfl (AOp.move (.inl rfl) rfl rfl) ?_
    refine AL.cons rfl (AOp.move (.inr rfl) rfl rfl) ?_
    refine AL.nil ?_
    refine AWP.ret ?_
    have e5 : iMatches_M fu pp pt = some x3 := bdS hq1 (rfl)
    have hz : x3 = r := Option.some.inj (e5.symm.trans H)
    subst hz
    exact Ends.mk (ps := [_]) (by first | exact .inr rfl | exact .inl rfl) ⟨rfl, trivial⟩ rfl (StLe.mk' (st' := ⟨[], []⟩) trivial rfl) (keeps_nil hC) (q := (.t (.leaf (.bool (x3))) : PV)) (by (repeat' (first | exact PV.Le.refl _ | exact LeL.nil | exact PV.Le.nil _ | exact PV.Le.acc _ _ _ | apply LeL.cons | apply PV.Le.agg | apply PV.Le.tup))) rfl ⟨rfl, rfl⟩

end Go.Proofs.YtnakkelglbcecaaGreat

namespace Go.Proofs.YtnakkelglbcecaaGreat
set_option linter.unusedSimpArgs false
set_option linter.unusedVariables false
open Go.RowKit Go.WalkArith

def bFind (l : List GBinding) (v : ByteArray) : Option GBinding := l.find? (fun b => decide (b.gVar = v))
mutual
def matchT : GType → GType → List GBinding → Option (List GBinding)
  | .mk k n ps, t, s =>
    if k = 1 then (match bFind s n with
      | some b => if GType.eq b.gType t = true then some s else none
      | none => some (s ++ [GBinding.mk n t]))
    else if k = t.gKind then (if n = t.gName then (if ps.length = t.gArgs.length then matchL ps t.gArgs s else none) else none) else none
def matchL : List GType → List GType → List GBinding → Option (List GBinding)
  | [], _, s => some s
  | p :: ps, ts, s => match ts with
    | [] => none
    | t :: ts => match matchT p t s with
      | none => none
      | some s' => matchL ps ts s'
end
theorem nd {p : Prop} [Decidable p] (h : ¬ p) : (!decide p) = true := by simp [h]
def wt (l : List GType) : Nat := l.length + Tr.bulkAll (GType.trs l)
theorem wt_cons (x : GType) (l : List GType) : wt (x :: l) = 1 + Tr.bulkL x.tr + wt l := by simp only [wt, GType.trs, Tr.bulkAll, List.length_cons]; omega
theorem wt_args (k : Int) (n : ByteArray) (ps : List GType) : wt ps ≤ Tr.bulkL (GType.mk k n ps).tr := bulk_args k n ps
def BOk (s : List GBinding) : Prop := ∀ b ∈ s, Tr.bulkL b.gType.tr ≤ 68719476735
theorem bulk_arg {t x : GType} (h : x ∈ t.gArgs) (ht : Tr.bulkL t.tr ≤ 68719476735) : Tr.bulkL x.tr ≤ 68719476735 := by
  obtain ⟨k, n, ps⟩ := t
  have h1 := bulk_mem (show x ∈ ps from h)
  have h2 := bulk_args k n ps
  omega
theorem matchL_okOf : ∀ (ps : List GType), (∀ x ∈ ps, ∀ t s s', matchT x t s = some s' → BOk s → Tr.bulkL t.tr ≤ 68719476735 → BOk s' ∧ s'.length ≤ s.length + 1 + Tr.bulkL x.tr) →
    ∀ ts s s', matchL ps ts s = some s' → BOk s → (∀ t ∈ ts, Tr.bulkL t.tr ≤ 68719476735) → BOk s' ∧ s'.length ≤ s.length + wt ps
  | [], _, ts, s, s', h, hb, _ => by
    rw [matchL] at h
    obtain rfl := Option.some.inj h
    exact ⟨hb, by omega⟩
  | p :: ps, hp, ts, s, s', h, hb, ht => by
    cases ts with
    | nil => simp [matchL] at h
    | cons t ts =>
      rw [matchL] at h
      cases hq : matchT p t s with
      | none => rw [hq] at h; cases h
      | some s1 =>
        rw [hq] at h
        have h1 := hp p (by simp) t s s1 hq hb (ht t (by simp))
        have h2 := matchL_okOf ps (fun x hx => hp x (List.mem_cons_of_mem _ hx)) ts s1 s' h h1.1 (fun x hx => ht x (List.mem_cons_of_mem _ hx))
        have h3 := wt_cons p ps
        exact ⟨h2.1, by omega⟩
theorem matchT_ok : ∀ (p t : GType) (s s' : List GBinding), matchT p t s = some s' → BOk s → Tr.bulkL t.tr ≤ 68719476735 → BOk s' ∧ s'.length ≤ s.length + 1 + Tr.bulkL p.tr := by
  refine GType.ind fun k n ps ih t s s' h hb ht => ?_
  have hw := wt_args k n ps
  rw [matchT] at h
  split at h
  · split at h
    · split at h
      · obtain rfl := Option.some.inj h
        exact ⟨hb, by omega⟩
      · cases h
    · obtain rfl := Option.some.inj h
      refine ⟨fun b hb' => ?_, by simp only [List.length_append, List.length_singleton]; omega⟩
      rcases List.mem_append.1 hb' with h1 | h1
      · exact hb b h1
      · obtain rfl := List.mem_singleton.1 h1
        exact ht
  · split at h
    · split at h
      · split at h
        · have h1 := matchL_okOf ps ih _ _ _ h hb (fun x hx => bulk_arg hx ht)
          exact ⟨h1.1, by omega⟩
        · cases h
      · cases h
    · cases h
def Res (o : Option (List GBinding)) (m : Option (List GBinding × Bool × List GBinding)) : Prop := match o with
  | some s' => m = some (s', true, s')
  | none => ∃ a b, m = some (a, false, b)
def LRes (o : Option (List GBinding)) (m : Option ((List GBinding × Bool × List GBinding) ⊕ List GBinding)) : Prop := match o with
  | some s' => m = some (.inr s')
  | none => ∃ a b, m = some (.inl (a, false, b))
def FRes (o : Option (List GBinding)) (m : Option (LR (List GBinding) (List GBinding × Bool × List GBinding))) : Prop := match o with
  | some s' => m = some (.next s')
  | none => ∃ a b, m = some (.ret (a, false, b))
theorem matchLoop {F : Nat → List GBinding → Option (LR (List GBinding) (List GBinding × Bool × List GBinding))} {ps ts : List GType} (hlen : ps.length = ts.length) (ht : ∀ t ∈ ts, Tr.bulkL t.tr ≤ 68719476735)
    (hs : ∀ i s, i < ps.length → BOk s → s.length + 1 + Tr.bulkL (atD ps i).tr ≤ 68719476736 → FRes (matchT (atD ps i) (atD ts i) s) (F i s)) :
    ∀ (k i : Nat) (s : List GBinding), ps.length - i = k → BOk s → s.length + wt (ps.drop i) ≤ 68719476736 → LRes (matchL (ps.drop i) (ts.drop i) s) (loopN F (ps.length - i) i s)
  | 0, i, s, hk, _, _ => by
    rw [List.drop_of_length_le (show ps.length ≤ i by omega), matchL]
    exact loopN_all (by omega)
  | k + 1, i, s, hk, hb, hw => by
    have hi : i < ps.length := by omega
    have hi2 : i < ts.length := by omega
    rw [drop_atD hi, wt_cons] at hw
    have h1 := hs i s hi hb (by omega)
    rw [drop_atD hi, drop_atD hi2, matchL]
    cases hq : matchT (atD ps i) (atD ts i) s with
    | none =>
      rw [hq] at h1
      obtain ⟨a, b, h1⟩ := h1
      exact ⟨a, b, loopN_out hi h1⟩
    | some s' =>
      rw [hq] at h1
      have h2 := matchT_ok _ _ _ _ hq hb (ht _ (atD_mem hi2))
      have h3 := matchLoop hlen ht hs k (i + 1) s' (by omega) h2.1 (by omega)
      rw [loopN_step hi h1]
      exact h3
theorem matchLoop0 {F : Nat → List GBinding → Option (LR (List GBinding) (List GBinding × Bool × List GBinding))} {ps ts : List GType} (hlen : ps.length = ts.length) (ht : ∀ t ∈ ts, Tr.bulkL t.tr ≤ 68719476735)
    (hs : ∀ i s, i < ps.length → BOk s → s.length + 1 + Tr.bulkL (atD ps i).tr ≤ 68719476736 → FRes (matchT (atD ps i) (atD ts i) s) (F i s)) {s : List GBinding} (hb : BOk s) (hw : s.length + wt ps ≤ 68719476736) : LRes (matchL ps ts s) (loopN F (ps.length - 0) 0 s) := by
  have := matchLoop hlen ht hs ps.length 0 s (by omega) hb (by rwa [List.drop_zero])
  rwa [List.drop_zero, List.drop_zero] at this

theorem sLookup_fn (fu : Nat) (l : List GBinding) (v : ByteArray) (hb : BOk l) : sLookup_M fu l v = some (match bFind l v with
    | some b => (b.gType, true)
    | none => (GType.mk 0 (⟨#[]⟩) [], false)) := by
  unfold sLookup_M sLookup_R1
  rw [loopN_find0 (p := fun b => decide (b.gVar = v)) (r := fun b => (b.gType, true)) (fun i hi => by
    unfold sLookup_F1
    cases h : decide ((atD l i).gVar = v)
    · simp [sw, h]
    · simp only [sw, h]
      rw [gdT (hb _ (atD_mem hi)) rfl]
      simp)]
  unfold bFind
  cases l.find? (fun b => decide (b.gVar = v)) <;> rfl
def SMS (fu : Nat) (p : GType) : Prop := ∀ (t : GType) (s : List GBinding), Tr.bulkL t.tr ≤ 68719476735 → BOk s → s.length + 1 + Tr.bulkL p.tr ≤ 68719476736 → Res (matchT p t s) (sl7Match_M fu p t s)
theorem sAll_of {fu : Nat} {ps : List GType} (hf : ∀ x ∈ ps, SMS fu x) {ts : List GType} {s : List GBinding} (hlen : ps.length = ts.length) (ht : ∀ t ∈ ts, Tr.bulkL t.tr ≤ 68719476735) (hb : BOk s) (hw : s.length + wt ps ≤ 68719476736) : Res (matchL ps ts s) (sl7All_M (fu + 1) ps ts s) := by
  have hl := matchLoop0 (F := sl7All_F1 fu (sl7All_M fu) (sl7Match_M fu) ps ts s) hlen ht (fun i s hi hb hw => by
    have h1 := hf (atD ps i) (atD_mem hi) (atD ts i) s (ht _ (atD_mem (by omega))) hb hw
    unfold sl7All_F1
    cases hq : matchT (atD ps i) (atD ts i) s with
    | none =>
      rw [hq] at h1
      obtain ⟨a, b, h1⟩ := h1
      exact ⟨_, b, gdT (by omega) (bdS h1 rfl)⟩
    | some s' =>
      rw [hq] at h1
      exact gdT (by omega) (bdS h1 (swT rfl (gdT rfl rfl)))) hb hw
  rw [sl7All_M, sl7All_G]
  unfold sl7All_R1
  cases hq : matchL ps ts s with
  | none =>
    rw [hq] at hl
    obtain ⟨a, b, hl⟩ := hl
    exact ⟨a, b, soL hl⟩
  | some s' =>
    rw [hq] at hl
    exact soR hl rfl
theorem sMatch_ev : ∀ p : GType, Evt fun fu => SMS fu p := by
  refine GType.ind fun k n ps ih => ?_
  refine Evt.succ (Evt.succ ((Evt.list ih).imp fun fu hf t s ht hb hw => ?_))
  have hwa := wt_args k n ps
  rw [sl7Match_M, sl7Match_G, matchT]
  simp only [GType.gKind_mk, GType.gName_mk, GType.gArgs_mk]
  by_cases hk : k = 1
  · rw [if_pos hk, sLookup_fn _ s n hb]
    cases hq : bFind s n with
    | some b =>
      cases he : GType.eq b.gType t with
      | true =>
        show Res (if GType.eq b.gType t = true then some s else none) _
        rw [if_pos he]
        show _ = some (s, true, s)
        refine swT (decide_eq_true hk) (bdS rfl (swT rfl (swT he ?_)))
        simp only [he]
      | false =>
        show Res (if GType.eq b.gType t = true then some s else none) _
        rw [if_neg (by simp [he])]
        refine ⟨s, s, ?_⟩
        refine swT (decide_eq_true hk) (bdS rfl (swT rfl (swF he ?_)))
        simp only [he]
    | none =>
      show _ = some (s ++ [GBinding.mk n t], true, s ++ [GBinding.mk n t])
      exact swT (decide_eq_true hk) (bdS rfl (swF rfl (gdT ht (gdT (by simp only [List.length_singleton]; omega) rfl))))
  · rw [if_neg hk]
    by_cases h1 : k = t.gKind
    · rw [if_pos h1]
      by_cases h2 : n = t.gName
      · rw [if_pos h2]
        by_cases h3 : ps.length = t.gArgs.length
        · rw [if_pos h3]
          have ha := sAll_of hf (s := s) h3 (fun x hx => bulk_arg hx ht) hb (by omega)
          cases hq : matchL ps t.gArgs s with
          | none =>
            rw [hq] at ha
            obtain ⟨a, b, ha⟩ := ha
            exact ⟨_, _, swF (by simp [hk]) (swF (by simp [h1]) (swF (by simp [h2]) (swF (by simp [h3]) <| bdS ha (swF rfl rfl))))⟩
          | some s' =>
            rw [hq] at ha
            exact swF (by simp [hk]) (swF (by simp [h1]) (swF (by simp [h2]) (swF (by simp [h3]) <| bdS ha (swT rfl (gdT rfl rfl)))))
        · rw [if_neg h3]
          exact ⟨_, _, swF (by simp [hk]) (swF (by simp [h1]) (swF (by simp [h2]) (swT (nd (fun h => h3 (Int.ofNat_inj.1 h))) rfl)))⟩
      · rw [if_neg h2]
        exact ⟨_, _, swF (by simp [hk]) (swF (by simp [h1]) (swT (by simp [h2]) rfl))⟩
    · rw [if_neg h1]
      exact ⟨_, _, swF (by simp [hk]) (swT (by simp [h1]) rfl)⟩

theorem iLookup_fn (fu : Nat) (l : List GBinding) (v : ByteArray) (hb : BOk l) : iLookup_M fu l v = some (match bFind l v with
    | some b => (b.gType, true)
    | none => (GType.mk 0 (⟨#[]⟩) [], false)) := by
  unfold iLookup_M iLookup_R1
  rw [loopN_find0 (p := fun b => decide (b.gVar = v)) (r := fun b => (b.gType, true)) (fun i hi => by
    unfold iLookup_F1
    cases h : decide ((atD l i).gVar = v)
    · simp [sw, h]
    · simp only [sw, h]
      rw [gdT (hb _ (atD_mem hi)) rfl]
      simp)]
  unfold bFind
  cases l.find? (fun b => decide (b.gVar = v)) <;> rfl
def IMS (fu : Nat) (p : GType) : Prop := ∀ (t : GType) (s : List GBinding), Tr.bulkL t.tr ≤ 68719476735 → BOk s → s.length + 1 + Tr.bulkL p.tr ≤ 68719476736 → Res (matchT p t s) (imatch_M fu s p t)
theorem iAll_of {fu : Nat} {ps : List GType} (hf : ∀ x ∈ ps, IMS fu x) {ts : List GType} {s : List GBinding} (hlen : ps.length = ts.length) (ht : ∀ t ∈ ts, Tr.bulkL t.tr ≤ 68719476735) (hb : BOk s) (hw : s.length + wt ps ≤ 68719476736) : Res (matchL ps ts s) (imatchAll_M (fu + 1) s ps ts) := by
  have hl := matchLoop0 (F := imatchAll_F1 fu (imatchAll_M fu) (imatch_M fu) s ps ts) hlen ht (fun i s hi hb hw => by
    have h1 := hf (atD ps i) (atD_mem hi) (atD ts i) s (ht _ (atD_mem (by omega))) hb hw
    unfold imatchAll_F1
    cases hq : matchT (atD ps i) (atD ts i) s with
    | none =>
      rw [hq] at h1
      obtain ⟨a, b, h1⟩ := h1
      exact ⟨_, b, gdT (by omega) (bdS h1 rfl)⟩
    | some s' =>
      rw [hq] at h1
      exact gdT (by omega) (bdS h1 (swT rfl (gdT rfl rfl)))) hb hw
  rw [imatchAll_M, imatchAll_G]
  rw [show sw (!decide (((ps.length : Nat) : Int) = ((ts.length : Nat) : Int))) = fun (x y : Option (List GBinding × Bool × List GBinding)) => y by funext x y; exact swF (by simp [hlen]) rfl]
  unfold imatchAll_R1
  cases hq : matchL ps ts s with
  | none =>
    rw [hq] at hl
    obtain ⟨a, b, hl⟩ := hl
    exact ⟨a, b, soL hl⟩
  | some s' =>
    rw [hq] at hl
    exact soR hl rfl
theorem iMatch_ev : ∀ p : GType, Evt fun fu => IMS fu p := by
  refine GType.ind fun k n ps ih => ?_
  refine Evt.succ (Evt.succ ((Evt.list ih).imp fun fu hf t s ht hb hw => ?_))
  have hwa := wt_args k n ps
  rw [imatch_M, imatch_G, matchT]
  simp only [GType.gKind_mk, GType.gName_mk, GType.gArgs_mk]
  by_cases hk : k = 1
  · rw [if_pos hk, iLookup_fn _ s n hb]
    cases hq : bFind s n with
    | some b =>
      cases he : GType.eq b.gType t with
      | true =>
        show Res (if GType.eq b.gType t = true then some s else none) _
        rw [if_pos he]
        show _ = some (s, true, s)
        refine swT (decide_eq_true hk) (bdS rfl (swT rfl (swT he ?_)))
        simp only [he]
      | false =>
        show Res (if GType.eq b.gType t = true then some s else none) _
        rw [if_neg (by simp [he])]
        refine ⟨s, s, ?_⟩
        refine swT (decide_eq_true hk) (bdS rfl (swT rfl (swF he ?_)))
        simp only [he]
    | none =>
      show _ = some (s ++ [GBinding.mk n t], true, s ++ [GBinding.mk n t])
      exact swT (decide_eq_true hk) (bdS rfl (swF rfl (gdT ht (gdT (by simp only [List.length_singleton]; omega) rfl))))
  · rw [if_neg hk]
    by_cases h1 : k = t.gKind
    · rw [if_pos h1]
      by_cases h2 : n = t.gName
      · rw [if_pos h2]
        by_cases h3 : ps.length = t.gArgs.length
        · rw [if_pos h3]
          have ha := iAll_of hf (s := s) h3 (fun x hx => bulk_arg hx ht) hb (by omega)
          cases hq : matchL ps t.gArgs s with
          | none =>
            rw [hq] at ha
            obtain ⟨a, b, ha⟩ := ha
            exact ⟨_, _, swF (by simp [hk]) (swF (by simp [h1]) (swF (by simp [h2]) (bdS ha (swF rfl rfl))))⟩
          | some s' =>
            rw [hq] at ha
            exact swF (by simp [hk]) (swF (by simp [h1]) (swF (by simp [h2]) (bdS ha (swT rfl (gdT rfl rfl)))))
        · rw [if_neg h3]
          have ha : imatchAll_M (fu + 1) s ps t.gArgs = some ([], false, s) := by
            rw [imatchAll_M, imatchAll_G]
            exact swT (nd (fun h => h3 (Int.ofNat_inj.1 h))) rfl
          exact ⟨_, _, swF (by simp [hk]) (swF (by simp [h1]) (swF (by simp [h2]) (bdS ha (swF rfl rfl))))⟩
      · rw [if_neg h2]
        exact ⟨_, _, swF (by simp [hk]) (swF (by simp [h1]) (swT (by simp [h2]) rfl))⟩
    · rw [if_neg h1]
      exact ⟨_, _, swF (by simp [hk]) (swT (by simp [h1]) rfl)⟩

def matchB (p t : GType) : Bool := (matchT p t []).isSome
theorem BOk.nil : BOk [] := fun b hb => by simp at hb
theorem matchL_one (p t : GType) : matchL [p] [t] [] = matchT p t [] := by
  rw [matchL]
  cases hq : matchT p t [] with
  | none => simp [hq]
  | some s => simp [hq, matchL]
theorem wt_one (p : GType) : wt [p] = 1 + Tr.bulkL p.tr := by rw [wt_cons]; simp [wt, GType.trs, Tr.bulkAll]
theorem sMatches_fn (p t : GType) (hp : Tr.bulkL p.tr ≤ 68719476735) (ht : Tr.bulkL t.tr ≤ 68719476735) : AFun Tryz.prog 113 [(GType.pv p), (GType.pv t)] (.t (.leaf (.bool (matchB p t)))) := by
  obtain ⟨fu, hf⟩ := (sMatch_ev p).get
  refine sMatches_ok (fu + 1) p t _ ?_
  have h1 := sAll_of (fu := fu) (ps := [p]) (by simpa using hf) (ts := [t]) (s := []) rfl (by simpa using ht) BOk.nil (by rw [wt_one]; simp only [List.length_nil]; omega)
  rw [matchL_one] at h1
  unfold sMatches_M sMatch_M sMatchAll_M matchB
  cases hq : matchT p t [] with
  | none =>
    rw [hq] at h1
    obtain ⟨a, b, h1⟩ := h1
    exact bdS (bdS (swF rfl (bdS h1 (swF rfl rfl))) rfl) rfl
  | some s =>
    rw [hq] at h1
    exact bdS (bdS (swF rfl (bdS h1 (swT rfl (gdT rfl rfl)))) rfl) rfl
theorem iMatches_fn (p t : GType) (hp : Tr.bulkL p.tr ≤ 68719476735) (ht : Tr.bulkL t.tr ≤ 68719476735) : AFun Tryz.prog 115 [(GType.pv p), (GType.pv t)] (.t (.leaf (.bool (matchB p t)))) := by
  obtain ⟨fu, hf⟩ := (iMatch_ev p).get
  refine iMatches_ok (fu + 1) p t _ ?_
  have h1 := iAll_of (fu := fu) (ps := [p]) (by simpa using hf) (ts := [t]) (s := []) rfl (by simpa using ht) BOk.nil (by rw [wt_one]; simp only [List.length_nil]; omega)
  rw [matchL_one] at h1
  unfold iMatches_M iMatch_M matchB
  cases hq : matchT p t [] with
  | none =>
    rw [hq] at h1
    obtain ⟨a, b, h1⟩ := h1
    exact bdS (bdS h1 (swF rfl rfl)) rfl
  | some s =>
    rw [hq] at h1
    exact bdS (bdS h1 (swT rfl (gdT rfl rfl))) rfl
end Go.Proofs.YtnakkelglbcecaaGreat
