/- Words, rules and walks of several kinds, laid together: MaGround, PlGround, MaSel. No conditions but those that each theorem states. -/
import Derived.Test.YtnakkelglbcecaaGreatQh6fafd6f3
import Derived.Test.YtnakkelglbcecaaGreatQha75bd9d9
import Derived.Test.YtnakkelglbcecaaGreatQhf8b74715
import Derived.Test.YtnakkelglbcecaaGreatQh3520efe5
import Derived.Test.YtnakkelglbcecaaGreatQhdb41f3a6
set_option linter.unusedSimpArgs false
set_option linter.unusedVariables false
namespace Go.Proofs.YtnakkelglbcecaaGreat
open Go.RowKit Go.Proofs
set_option linter.unusedSimpArgs false
set_option linter.unusedVariables false

attribute [local irreducible] lt

noncomputable def sl1Has_F1 (fu : Nat) (plist : List ByteArray) (ps : ByteArray) : Nat → Unit → Option (LR Unit Bool) :=
 fun i2 _ => sw (decide (atD plist i2 = ps))
 (some (.ret true))
 (some (.next ()))
noncomputable def sl1Has_R1 (fu : Nat) (plist : List ByteArray) (ps : ByteArray) : Option (Bool ⊕ Unit) :=
 loopN (sl1Has_F1 fu plist ps) (plist.length - 0) 0 ()
noncomputable def sl1Has_M (fu : Nat)  (plist : List ByteArray) (ps : ByteArray) : Option Bool :=
 so (sl1Has_R1 fu plist ps) (fun _ =>
 some false)
set_option maxRecDepth 100000 in
set_option maxHeartbeats 4000000 in
theorem sl1Has_ok  (fu : Nat)  (plist : List ByteArray) (ps : ByteArray) (r : Bool) (H : sl1Has_M fu plist ps = some r) : AFun Tryz.prog 150 [.t (.row 1 (strTrs (plist))), .t (.leaf (.string (ps)))] (.t (.leaf (.bool (r))) : PV) := by
  refine ACalls.intro Tryz.func150 rfl (by first | decide | (simp; done) | (simp; decide)) ?_
  intro C hC
  refine AWP.fact (lk_lenN 0 rfl rfl (strTrs_len _)) (fun hl1 => ?_)
  refine AWP.seq ?_
  refine AWP.region_lit ?_
  refine AL.cons rfl (AOp.move (.inr rfl) rfl rfl) ?_
  refine AL.nil ?_
  refine AWP.seq ?_
  refine AWP.seq ?_
  refine AWP.region_lit ?_
  refine AL.cons rfl (AOp.move (.inr rfl) rfl rfl) ?_
  refine AL.nil ?_
  refine AWP.cut (ι := Unit) (fun _ => sl1Has_R1 fu plist ps = some (.inr ())) (fun _ => ⟨[(4, .t (.leaf (.bool (false))))], ⟨[], []⟩⟩) (by repeat' (first | exact qcEnds | exact ncAWP | exact ncRound | exact ncEx | apply qcThen | apply qcBlock | apply qcCut)) ?_ ?_
  · skip
    refine AWP.block ?_
    refine AWP.loopR (ι := Nat × Unit) (fun (i2, _) => sl1Has_R1 fu plist ps = loopN (sl1Has_F1 fu plist ps) (plist.length - i2) i2 ()) (fun (i2, _) => ⟨[(0, .t (.row 1 (strTrs (plist)))), (1, .t (.leaf (.string (ps)))), (4, .t (.leaf (.bool (false)))), (5, .t (.leaf (.int .i64 (((i2 : Nat) : Int)))))], ⟨[], []⟩⟩) (fun (i2, _) => plist.length - i2) (0, ()) ?_ ?_ ?_
    · exact rfl
    · skip
      exact Wk.mk (StLe.mk' trivial rfl) (keeps_nil hC) ⟨⟨_, rfl, .refl _, rfl⟩, ⟨⟨_, rfl, .refl _, rfl⟩, ⟨⟨_, rfl, .refl _, rfl⟩, ⟨⟨_, rfl, leA, rfl⟩, trivial⟩⟩⟩⟩
    · rintro ⟨i2, ⟨⟩⟩ hJ3
      refine AWP.seq ?_
      refine AWP.seq ?_
      refine AWP.region_lit ?_
      refine AL.cons rfl (AOp.move (.inl rfl) rfl rfl) ?_
      refine AL.cons rfl (AOp.move (.inl rfl) rfl rfl) ?_
      refine AL.cons rfl (AOp.lenN rfl rfl rfl rfl el54 (strTrs_len _)) ?_
      refine AL.cons rfl (AOp.lss rfl rfl rfl rfl) ?_
      refine AL.nil ?_
      refine AWP.cond rfl (fun h4 => ?_) (fun h4 => ?_)
      · skip
        have h4l : i2 < plist.length := nat_lt_of2 h4
        have h4n := nat_lt_of h4
        refine AWP.skip ?_
        refine AWP.seq ?_
        refine AWP.block ?_
        refine AWP.seq ?_
        refine AWP.region_lit ?_
        refine AL.cons rfl (AOp.move (.inl rfl) rfl rfl) ?_
        refine AL.cons rfl (AOp.move (.inl rfl) rfl rfl) ?_
        refine AL.cons rfl (AOp.index (k := i2) rfl rfl rfl rfl rfl (strTrs_at h4n) el54) ?_
        refine AL.cons rfl (AOp.loadEptr1 (d := .leaf (.string (atD plist i2))) rfl rfl rfl sh9 rfl) ?_
        refine AL.cons rfl (AOp.move (.inl rfl) rfl rfl) ?_
        refine AL.cons rfl (AOp.eqlS rfl rfl rfl rfl) ?_
        refine AL.nil ?_
        refine AWP.cond rfl (fun h5 => ?_) (fun h5 => ?_)
        · skip
          refine AWP.seq ?_
          refine AWP.region_lit ?_
          refine AL.cons rfl (AOp.move (.inr rfl) rfl rfl) ?_
          refine AL.nil ?_
          refine AWP.ret ?_
          have e6 : (sl1Has_F1 fu plist ps) i2 () = some (.ret true) := swT h5 (rfl)
          have e7 : sl1Has_R1 fu plist ps = some (.inl true) := loopN_ret h4l hJ3 e6
          have e8 : sl1Has_M fu plist ps = some true := soL e7
          have hz : true = r := Option.some.inj (e8.symm.trans H)
          subst hz
          exact Ends.mk (ps := [_]) (by first | exact .inr rfl | exact .inl rfl) ⟨rfl, trivial⟩ rfl (StLe.mk' (st' := ⟨[], []⟩) trivial rfl) (keeps_nil hC) (q := (.t (.leaf (.bool (true))) : PV)) leA rfl ⟨rfl, rfl⟩
        · skip
          refine AWP.skip ?_
          refine AWP.region_lit ?_
          refine AL.cons rfl (AOp.move (.inl rfl) rfl rfl) ?_
          refine AL.cons rfl (AOp.addI rfl rfl rfl rfl (c := ((i2 + 1 : Nat) : Int)) (by omega) (by omega)) ?_
          refine AL.cons rfl (AOp.move (.inr rfl) rfl rfl) ?_
          refine AL.nil ?_
          have e9 : (sl1Has_F1 fu plist ps) i2 () = some (.next ()) := swF h5 (rfl)
          refine ⟨(i2 + 1, ()), loopN_next h4l hJ3 e9, ?_, ?_⟩
          · skip
            exact Wk.mk (StLe.mk' trivial rfl) (keeps_nil hC) ⟨⟨_, rfl, .refl _, rfl⟩, ⟨⟨_, rfl, .refl _, rfl⟩, ⟨⟨_, rfl, .refl _, rfl⟩, ⟨⟨_, rfl, leA, rfl⟩, trivial⟩⟩⟩⟩
          · dsimp only; omega
      · skip
        have h4l : plist.length ≤ i2 := nat_ge_of2 h4
        refine AWP.exit ?_
        refine ⟨(), loopN_end h4l hJ3, ?_⟩
        exact Wk.mk (StLe.mk' trivial rfl) (keeps_nil hC) ⟨⟨_, rfl, .refl _, rfl⟩, trivial⟩
  · rintro ⟨⟩ hR10
    refine AWP.seq ?_
    refine AWP.region_lit ?_
    refine AL.cons rfl (AOp.move (.inr rfl) rfl rfl) ?_
    refine AL.nil ?_
    refine AWP.ret ?_
    have e11 : sl1Has_M fu plist ps = some false := soR hR10 (rfl)
    have hz : false = r := Option.some.inj (e11.symm.trans H)
    subst hz
    exact Ends.mk (ps := [_]) (by first | exact .inr rfl | exact .inl rfl) ⟨rfl, trivial⟩ rfl (StLe.mk' (st' := ⟨[], []⟩) trivial rfl) (keeps_nil hC) (q := (.t (.leaf (.bool (false))) : PV)) leA rfl ⟨rfl, rfl⟩

noncomputable def sl4Vars_C1 (fu : Nat) (r_sl4Vars : GType → (List ByteArray) → Option ((List ByteArray))) (pt : GType) (pout : List ByteArray) : Option (((List ByteArray)) ⊕ ((List ByteArray))) :=
 sw (decide ((pt.gKind : Int) = 1))
 (bd (sl1Has_M fu pout pt.gName) (fun x6 =>
 sw (!(x6))
 (gd ((pout).length + (([pt.gName] : List ByteArray)).length ≤ 68719476736)
 (some (.inr (pout ++ ([pt.gName] : List ByteArray)))))
 (some (.inr pout))))
 (some (.inr pout))
noncomputable def sl4Vars_F2 (fu : Nat) (r_sl4Vars : GType → (List ByteArray) → Option ((List ByteArray))) (pt : GType) (pout : List ByteArray) (v3 : List ByteArray) : Nat → ((List ByteArray)) → Option (LR ((List ByteArray)) ((List ByteArray))) :=
 fun i18 v20 => bd (r_sl4Vars (atD pt.gArgs i18) v20) (fun x26 =>
 some (.next x26))
noncomputable def sl4Vars_R2 (fu : Nat) (r_sl4Vars : GType → (List ByteArray) → Option ((List ByteArray))) (pt : GType) (pout : List ByteArray) (v3 : List ByteArray) : Option (((List ByteArray)) ⊕ ((List ByteArray))) :=
 loopN (sl4Vars_F2 fu r_sl4Vars pt pout v3) (pt.gArgs.length - 0) 0 v3
noncomputable def sl4Vars_G (fu : Nat) (r_sl4Vars : GType → (List ByteArray) → Option ((List ByteArray))) (pt : GType) (pout : List ByteArray) : Option ((List ByteArray)) :=
 so (sl4Vars_C1 fu r_sl4Vars pt pout) (fun v3 =>
 so (sl4Vars_R2 fu r_sl4Vars pt pout v3) (fun v20 =>
 some v20))
set_option maxRecDepth 100000 in
set_option maxHeartbeats 4000000 in
theorem sl4Vars_step (r_sl4Vars : GType → (List ByteArray) → Option ((List ByteArray))) (fu : Nat) (h_sl4Vars : ∀ (pt : GType) (pout : List ByteArray) (r : (List ByteArray)), r_sl4Vars pt pout = some r → ACalls Tryz.prog 192 [(GType.pv pt), .acc 1 (strTrs (pout)) 0] ⟨[], [⟨9, 1, strTrs (pout), false⟩]⟩ (fun q t => q = (.acc 1 (strTrs (r)) 0 : PV) ∧ t = ⟨[], [⟨9, 1, strTrs (r), false⟩]⟩)) (pt : GType) (pout : List ByteArray) (r : (List ByteArray)) (H : sl4Vars_G fu r_sl4Vars pt pout = some r) : ACalls Tryz.prog 192 [(GType.pv pt), .acc 1 (strTrs (pout)) 0] ⟨[], [⟨9, 1, strTrs (pout), false⟩]⟩ (fun q t => q = (.acc 1 (strTrs (r)) 0 : PV) ∧ t = ⟨[], [⟨9, 1, strTrs (r), false⟩]⟩) := by
  refine ACalls.intro Tryz.func192 rfl (by first | decide | (simp; done) | (simp; decide)) ?_
  intro C hC
  refine AWP.fact (lk_lenN 1 rfl rfl (strTrs_len _)) (fun hl1 => ?_)
  refine AWP.seq ?_
  refine AWP.region_lit ?_
  refine AL.cons rfl (AOp.box (cs := [.t (.leaf (.int .i64 (pt.gKind))), .t (.leaf (.string (pt.gName))), .t (.row 3 (GType.trs (pt.gArgs)))]) rfl rfl rfl rfl rfl) ?_
  refine AL.cons rfl (AOp.move (.inr rfl) rfl rfl) ?_
  refine AL.nil ?_
  refine AWP.seq ?_
  refine AWP.cut (ι := (List ByteArray)) (fun v3 => sl4Vars_C1 fu r_sl4Vars pt pout = some (.inr v3)) (fun v3 => ⟨[(1, .acc 1 (strTrs (v3)) 0), (2, .ptr 0 0), (4, .nil)], ⟨[some ⟨47, [.t (.leaf (.int .i64 (pt.gKind))), .t (.leaf (.string (pt.gName))), .t (.row 3 (GType.trs (pt.gArgs)))]⟩], [⟨9, 1, strTrs (v3), false⟩]⟩⟩) (by repeat' (first | exact qcEnds | exact ncAWP | exact ncRound | exact ncEx | apply qcThen | apply qcBlock | apply qcCut)) ?_ ?_
  · skip
    refine AWP.seq ?_
    refine AWP.region_lit ?_
    refine AL.cons rfl (AOp.fieldPtr (k := 0) (d := 0) (e := 0) rfl rfl rfl fo47_0) ?_
    refine AL.cons rfl (AOp.loadPtr1 rfl rfl rfl rfl sh3 rfl) ?_
    refine AL.cons rfl (AOp.eqlI rfl rfl rfl rfl) ?_
    refine AL.cons rfl (AOp.move (.inl rfl) rfl rfl) ?_
    refine AL.splitB 9 rfl (fun g4 => ?_) (fun g4 => ?_)
    · skip
      refine AL.cons_gv rfl rfl rfl g4 (AOp.move (.inl rfl) rfl rfl) ?_
      refine AL.cons_gv rfl rfl rfl g4 (AOp.fieldPtr (k := 0) (d := 0) (e := 1) rfl rfl rfl fo47_1) ?_
      refine AL.cons_gv rfl rfl rfl g4 (AOp.loadPtr1 rfl rfl rfl rfl sh9 rfl) ?_
      rcases hq5 : sl1Has_M fu pout pt.gName with _ | x6
      · skip
        have e7 : sl4Vars_C1 fu r_sl4Vars pt pout = none := swT g4 (bdN hq5)
        have e8 : sl4Vars_G fu r_sl4Vars pt pout = none := soN e7
        exact none_some H e8
      · skip
        refine AL.cons_gv rfl rfl rfl g4 (AOp.callF (res := .t (.leaf (.bool (x6)))) (ps := [_, _]) rfl rfl Tryz.func150 (by kernel_rfl) rfl rfl leA rfl rfl (sl1Has_ok fu pout pt.gName _ hq5)) ?_
        refine AL.cons_gv rfl rfl rfl g4 (AOp.notB rfl rfl rfl) ?_
        refine AL.cons rfl (AOp.pickT rfl rfl rfl g4 rfl) ?_
        refine AL.nil ?_
        refine AWP.cond rfl (fun h9 => ?_) (fun h9 => ?_)
        · skip
          refine AWP.region_lit ?_
          refine AL.cons rfl (AOp.move (.inl rfl) rfl rfl) ?_
          refine AL.cons rfl (AOp.fieldPtr (k := 0) (d := 0) (e := 1) rfl rfl rfl fo47_1) ?_
          refine AL.cons rfl (AOp.loadPtr1 rfl rfl rfl rfl sh9 rfl) ?_
          refine AL.cons rfl (AOp.buildSliceE (es := [[.leaf (.string pt.gName)]]) (es' := strTrs (([pt.gName] : List ByteArray))) (cs := [.t (.leaf (.string (pt.gName)))]) rfl rfl el54 zr9 rfl rfl leA rfl (by simp) (by decide) rfl (by decide) rfl) ?_
          rcases Classical.em ((pout).length + (([pt.gName] : List ByteArray)).length ≤ 68719476736) with hg10 | hg10
          · skip
            refine AL.cons rfl (AOp.appendE (es3 := strTrs (pout ++ ([pt.gName] : List ByteArray))) rfl rfl rfl rfl rfl rfl rfl rfl rfl (strTrs_all _) el54 ze54 (by decide) (by rw [strTrs_len, strTrs_len]; exact room_le hg10 (by decide)) (strTrs_append _ _)) ?_
            refine AL.cons rfl (AOp.move (.inr rfl) rfl rfl) ?_
            refine AL.nil ?_
            have e11 : sl4Vars_C1 fu r_sl4Vars pt pout = some (.inr (pout ++ ([pt.gName] : List ByteArray))) := swT g4 (bdS hq5 (swT h9 (gdT hg10 (rfl))))
            refine ⟨(pout ++ ([pt.gName] : List ByteArray)), e11, ?_⟩
            exact Wk.mk (StLe.mk' ⟨⟨rfl, leA, rfl⟩, trivial⟩ (by first | rfl | simp)) (keeps_all hC (boxes0) (Nat.le_of_ble_eq_true rfl)) ⟨⟨_, rfl, leA, rfl⟩, ⟨⟨_, rfl, .refl _, rfl⟩, ⟨⟨_, rfl, .refl _, rfl⟩, trivial⟩⟩⟩
          · skip
            have e12 : sl4Vars_C1 fu r_sl4Vars pt pout = none := swT g4 (bdS hq5 (swT h9 (gdF hg10)))
            have e13 : sl4Vars_G fu r_sl4Vars pt pout = none := soN e12
            exact none_some H e13
        · skip
          refine AWP.skip ?_
          have e14 : sl4Vars_C1 fu r_sl4Vars pt pout = some (.inr pout) := swT g4 (bdS hq5 (swF h9 (rfl)))
          refine ⟨pout, e14, ?_⟩
          exact Wk.mk (StLe.mk' ⟨⟨rfl, leA, rfl⟩, trivial⟩ (by first | rfl | simp)) (keeps_all hC (boxes0) (Nat.le_of_ble_eq_true rfl)) ⟨⟨_, rfl, leA, rfl⟩, ⟨⟨_, rfl, .refl _, rfl⟩, ⟨⟨_, rfl, .refl _, rfl⟩, trivial⟩⟩⟩
    · skip
      refine AL.skipP rfl rfl rfl g4 rfl rfl ?_
      refine AL.skipP rfl rfl rfl g4 rfl rfl ?_
      refine AL.skipP rfl rfl rfl g4 rfl rfl ?_
      refine AL.skipP rfl rfl rfl g4 rfl rfl ?_
      refine AL.skipP rfl rfl rfl g4 rfl rfl ?_
      refine AL.cons rfl (AOp.pickF rfl rfl rfl g4 rfl) ?_
      refine AL.nil ?_
      refine AWP.cond rfl (fun h15 => ?_) (fun h15 => ?_)
      · skip
        exact absurd (h15.symm.trans rfl) (by decide)
      · skip
        refine AWP.skip ?_
        have e16 : sl4Vars_C1 fu r_sl4Vars pt pout = some (.inr pout) := swF g4 (rfl)
        refine ⟨pout, e16, ?_⟩
        exact Wk.mk (StLe.mk' ⟨⟨rfl, leA, rfl⟩, trivial⟩ (by first | rfl | simp)) (keeps_all hC (boxes0) (Nat.le_of_ble_eq_true rfl)) ⟨⟨_, rfl, leA, rfl⟩, ⟨⟨_, rfl, .refl _, rfl⟩, ⟨⟨_, rfl, .refl _, rfl⟩, trivial⟩⟩⟩
  · rintro v3 hR17
    refine AWP.seq ?_
    refine AWP.seq ?_
    refine AWP.region_lit ?_
    refine AL.cons rfl (AOp.move (.inr rfl) rfl rfl) ?_
    refine AL.nil ?_
    refine AWP.fact (lk_lenN 1 rfl rfl (strTrs_len _)) (fun hl21 => ?_)
    refine AWP.cut (ι := (List ByteArray)) (fun v20 => sl4Vars_R2 fu r_sl4Vars pt pout v3 = some (.inr v20)) (fun v20 => ⟨[(1, .acc 1 (strTrs (v20)) 0), (4, .nil)], ⟨[some ⟨47, [.t (.leaf (.int .i64 (pt.gKind))), .t (.leaf (.string (pt.gName))), .t (.row 3 (GType.trs (pt.gArgs)))]⟩], [⟨9, 1, strTrs (v20), false⟩]⟩⟩) (by repeat' (first | exact qcEnds | exact ncAWP | exact ncRound | exact ncEx | apply qcThen | apply qcBlock | apply qcCut)) ?_ ?_
    · skip
      refine AWP.block ?_
      refine AWP.loopR (ι := Nat × ((List ByteArray))) (fun (i18, v20) => sl4Vars_R2 fu r_sl4Vars pt pout v3 = loopN (sl4Vars_F2 fu r_sl4Vars pt pout v3) (pt.gArgs.length - i18) i18 v20) (fun (i18, v20) => ⟨[(1, .acc 1 (strTrs (v20)) 0), (2, .ptr 0 0), (4, .nil), (5, .t (.leaf (.int .i64 (((i18 : Nat) : Int)))))], ⟨[some ⟨47, [.t (.leaf (.int .i64 (pt.gKind))), .t (.leaf (.string (pt.gName))), .t (.row 3 (GType.trs (pt.gArgs)))]⟩], [⟨9, 1, strTrs (v20), false⟩]⟩⟩) (fun (i18, v20) => pt.gArgs.length - i18) (0, v3) ?_ ?_ ?_
      · exact rfl
      · skip
        exact Wk.mk (StLe.mk' ⟨⟨rfl, leA, rfl⟩, trivial⟩ (by first | rfl | simp)) (keeps_all hC (boxes0) (Nat.le_of_ble_eq_true rfl)) ⟨⟨_, rfl, leA, rfl⟩, ⟨⟨_, rfl, .refl _, rfl⟩, ⟨⟨_, rfl, .refl _, rfl⟩, ⟨⟨_, rfl, leA, rfl⟩, trivial⟩⟩⟩⟩
      · rintro ⟨i18, v20⟩ hJ22
        refine AWP.seq ?_
        refine AWP.seq ?_
        refine AWP.region_lit ?_
        refine AL.cons rfl (AOp.move (.inl rfl) rfl rfl) ?_
        refine AL.cons rfl (AOp.fieldPtr (k := 0) (d := 0) (e := 2) rfl rfl rfl fo47_2) ?_
        refine AL.cons rfl (AOp.loadPtr1 rfl rfl rfl rfl sh45 rfl) ?_
        refine AL.fact (lk_lenN 23 rfl rfl (GType.trs_len _)) (fun hl23 => ?_)
        refine AL.cons rfl (AOp.lenN rfl rfl rfl rfl el45 (GType.trs_len _)) ?_
        refine AL.cons rfl (AOp.lss rfl rfl rfl rfl) ?_
        refine AL.nil ?_
        refine AWP.cond rfl (fun h24 => ?_) (fun h24 => ?_)
        · skip
          have h24l : i18 < pt.gArgs.length := nat_lt_of2 h24
          have h24n := nat_lt_of h24
          refine AWP.skip ?_
          refine AWP.seq ?_
          refine AWP.block ?_
          refine AWP.region_lit ?_
          refine AL.cons rfl (AOp.fieldPtr (k := 0) (d := 0) (e := 2) rfl rfl rfl fo47_2) ?_
          refine AL.cons rfl (AOp.loadPtr1 rfl rfl rfl rfl sh45 rfl) ?_
          refine AL.cons rfl (AOp.move (.inl rfl) rfl rfl) ?_
          refine AL.cons rfl (AOp.index (k := i18) rfl rfl rfl rfl rfl (GType.trs_at h24n) el45) ?_
          refine AL.cons rfl (AOp.loadEptr (ds := [.leaf (.int .i64 ((atD pt.gArgs i18).gKind)), .leaf (.string ((atD pt.gArgs i18).gName)), .row 3 (GType.trs ((atD pt.gArgs i18).gArgs))]) rfl rfl rfl sh47 rfl rfl) ?_
          refine AL.cons rfl (AOp.move (.inl rfl) rfl rfl) ?_
          rcases hq25 : r_sl4Vars (atD pt.gArgs i18) v20 with _ | x26
          · skip
            have e27 : (sl4Vars_F2 fu r_sl4Vars pt pout v3) i18 v20 = none := bdN hq25
            have e28 : sl4Vars_R2 fu r_sl4Vars pt pout v3 = none := loopN_non h24l hJ22 e27
            have e29 : sl4Vars_G fu r_sl4Vars pt pout = none := soR hR17 (soN e28)
            exact none_some H e29
          · skip
            refine AL.cons rfl (AOp.callPE (pre := ⟨[], [⟨9, 1, strTrs (v20), false⟩]⟩) (st' := ⟨[], [⟨9, 1, strTrs (x26), false⟩]⟩) (ps := [_, _]) (qs := [(GType.pv (atD pt.gArgs i18)), .acc 1 (strTrs (v20)) 0]) [] [0] rfl rfl Tryz.func192 (by kernel_rfl) rfl rfl rfl (Part0.of trivial ⟨rfl, trivial⟩ (by decide) (by decide)) leA rfl rfl rfl (h_sl4Vars (atD pt.gArgs i18) v20 _ hq25)) ?_
            refine AL.cons rfl (AOp.move (.inr rfl) rfl rfl) ?_
            refine AL.nil ?_
            refine AWP.region_lit ?_
            refine AL.cons rfl (AOp.move (.inl rfl) rfl rfl) ?_
            refine AL.cons rfl (AOp.addI rfl rfl rfl rfl (c := ((i18 + 1 : Nat) : Int)) (by omega) (by omega)) ?_
            refine AL.cons rfl (AOp.move (.inr rfl) rfl rfl) ?_
            refine AL.nil ?_
            have e30 : (sl4Vars_F2 fu r_sl4Vars pt pout v3) i18 v20 = some (.next x26) := bdS hq25 (rfl)
            refine ⟨(i18 + 1, x26), loopN_next h24l hJ22 e30, ?_, ?_⟩
            · skip
              exact Wk.mk (StLe.mk' ⟨⟨rfl, leA, rfl⟩, trivial⟩ (by first | rfl | simp)) (keeps_all hC (boxes0) (Nat.le_of_ble_eq_true rfl)) ⟨⟨_, rfl, leA, rfl⟩, ⟨⟨_, rfl, .refl _, rfl⟩, ⟨⟨_, rfl, .refl _, rfl⟩, ⟨⟨_, rfl, leA, rfl⟩, trivial⟩⟩⟩⟩
            · dsimp only; omega
        · skip
          have h24l : pt.gArgs.length ≤ i18 := nat_ge_of2 h24
          refine AWP.exit ?_
          refine ⟨v20, loopN_end h24l hJ22, ?_⟩
          exact Wk.mk (StLe.mk' ⟨⟨rfl, leA, rfl⟩, trivial⟩ (by first | rfl | simp)) (keeps_all hC (boxes0) (Nat.le_of_ble_eq_true rfl)) ⟨⟨_, rfl, .refl _, rfl⟩, ⟨⟨_, rfl, .refl _, rfl⟩, trivial⟩⟩
    · rintro v20 hR31
      refine AWP.seq ?_
      refine AWP.region_lit ?_
      refine AL.cons rfl (AOp.move (.inl rfl) rfl rfl) ?_
      refine AL.cons rfl (AOp.move (.inr rfl) rfl rfl) ?_
      refine AL.nil ?_
      refine AWP.ret ?_
      have e32 : sl4Vars_G fu r_sl4Vars pt pout = some v20 := soR hR17 (soR hR31 (rfl))
      have hz : v20 = r := Option.some.inj (e32.symm.trans H)
      subst hz
      exact Ends.mk (ps := [_]) (by first | exact .inr rfl | exact .inl rfl) ⟨rfl, trivial⟩ rfl (StLe.mk' (st' := ⟨[], [⟨9, 1, strTrs (v20), false⟩]⟩) trivial (by first | rfl | simp)) (keeps_all hC (boxes0) (Nat.le_of_ble_eq_true rfl)) (q := (.acc 1 (strTrs (v20)) 0 : PV)) leA rfl ⟨rfl, rfl⟩
noncomputable def sl4Vars_M : Nat → GType → (List ByteArray) → Option ((List ByteArray))
  | 0, _, _ => none
  | fu + 1, pt, pout => sl4Vars_G fu (sl4Vars_M fu) pt pout
theorem sl4Vars_all (fu : Nat) : (∀ (pt : GType) (pout : List ByteArray) (r : (List ByteArray)), sl4Vars_M fu pt pout = some r → ACalls Tryz.prog 192 [(GType.pv pt), .acc 1 (strTrs (pout)) 0] ⟨[], [⟨9, 1, strTrs (pout), false⟩]⟩ (fun q t => q = (.acc 1 (strTrs (r)) 0 : PV) ∧ t = ⟨[], [⟨9, 1, strTrs (r), false⟩]⟩)) := by
  induction fu with
  | zero => exact (fun pt pout r H => by simp only [sl4Vars_M] at H; cases H)
  | succ fu ih => exact (fun pt pout r H => by simp only [sl4Vars_M] at H; exact sl4Vars_step (sl4Vars_M fu) fu ih pt pout r H)
theorem sl4Vars_ok (fu : Nat) (pt : GType) (pout : List ByteArray) (r : (List ByteArray)) (H : sl4Vars_M fu pt pout = some r) : ACalls Tryz.prog 192 [(GType.pv pt), .acc 1 (strTrs (pout)) 0] ⟨[], [⟨9, 1, strTrs (pout), false⟩]⟩ (fun q t => q = (.acc 1 (strTrs (r)) 0 : PV) ∧ t = ⟨[], [⟨9, 1, strTrs (r), false⟩]⟩) := (sl4Vars_all fu) pt pout r H

noncomputable def sTypeVariables_M (fu : Nat)  (pt : GType) : Option ((List ByteArray)) :=
 bd (sl4Vars_M fu pt ([])) (fun x2 =>
 some x2)
set_option maxRecDepth 100000 in
set_option maxHeartbeats 4000000 in
theorem sTypeVariables_ok  (fu : Nat)  (pt : GType) (r : (List ByteArray)) (H : sTypeVariables_M fu pt = some r) : AFun Tryz.prog 145 [(GType.pv pt)] (.t (.row 1 (strTrs (r))) : PV) := by
  refine ACalls.intro Tryz.func145 rfl (by first | decide | (simp; done) | (simp; decide)) ?_
  intro C hC
  refine AWP.seq ?_
  refine AWP.region_lit ?_
  refine AL.cons rfl (AOp.box (cs := [.t (.leaf (.int .i64 (pt.gKind))), .t (.leaf (.string (pt.gName))), .t (.row 3 (GType.trs (pt.gArgs)))]) rfl rfl rfl rfl rfl) ?_
  refine AL.cons rfl (AOp.move (.inr rfl) rfl rfl) ?_
  refine AL.nil ?_
  refine AWP.seq ?_
  refine AWP.region_lit ?_
  refine AL.cons rfl (AOp.loadPtr (cs := [.t (.leaf (.int .i64 (pt.gKind))), .t (.leaf (.string (pt.gName))), .t (.row 3 (GType.trs (pt.gArgs)))]) rfl rfl rfl rfl sh47 rfl rfl) ?_
  refine AL.cons rfl (AOp.buildSliceA (es := []) (es' := strTrs ([])) (cs := []) rfl rfl el54 zr9 rfl rfl leA rfl (by simp) (by decide) rfl (by decide) rfl) ?_
  rcases hq1 : sl4Vars_M fu pt ([]) with _ | x2
  · skip
    have e3 : sTypeVariables_M fu pt = none := bdN hq1
    exact none_some H e3
  · skip
    refine AL.cons rfl (AOp.callPE (pre := ⟨[], [⟨9, 1, strTrs ([]), false⟩]⟩) (st' := ⟨[], [⟨9, 1, strTrs (x2), false⟩]⟩) (ps := [_, _]) (qs := [(GType.pv pt), .acc 1 (strTrs ([])) 0]) [] [0] rfl rfl Tryz.func192 (by kernel_rfl) rfl rfl rfl (Part0.of trivial ⟨rfl, trivial⟩ (by decide) (by decide)) leA rfl rfl rfl (sl4Vars_ok fu pt ([]) _ hq1)) ?_
    refine AL.cons rfl (AOp.move (.inr rfl) rfl rfl) ?_
    refine AL.nil ?_
    refine AWP.ret ?_
    have e4 : sTypeVariables_M fu pt = some x2 := bdS hq1 (rfl)
    have hz : x2 = r := Option.some.inj (e4.symm.trans H)
    subst hz
    exact Ends.mk (ps := [_]) (by first | exact .inr rfl | exact .inl rfl) ⟨rfl, trivial⟩ rfl (StLe.mk' (st' := ⟨[], []⟩) trivial rfl) (keeps_nil hC) (q := (.t (.row 1 (strTrs (x2))) : PV)) leA rfl ⟨rfl, rfl⟩

noncomputable def sHasProjection_F1 (fu : Nat) (r_sHasProjection : GType → Option Bool) (pt : GType) : Nat → Unit → Option (LR Unit Bool) :=
 fun i1 _ => bd (r_sHasProjection (atD pt.gArgs i1)) (fun x6 =>
 sw (x6)
 (some (.ret true))
 (some (.next ())))
noncomputable def sHasProjection_R1 (fu : Nat) (r_sHasProjection : GType → Option Bool) (pt : GType) : Option (Bool ⊕ Unit) :=
 loopN (sHasProjection_F1 fu r_sHasProjection pt) (pt.gArgs.length - 0) 0 ()
noncomputable def sHasProjection_G (fu : Nat) (r_sHasProjection : GType → Option Bool) (pt : GType) : Option Bool :=
 so (sHasProjection_R1 fu r_sHasProjection pt) (fun _ =>
 some (decide ((pt.gKind : Int) = 3)))
set_option maxRecDepth 100000 in
set_option maxHeartbeats 4000000 in
theorem sHasProjection_step (r_sHasProjection : GType → Option Bool) (fu : Nat) (h_sHasProjection : ∀ (pt : GType) (r : Bool), r_sHasProjection pt = some r → AFun Tryz.prog 146 [(GType.pv pt)] (.t (.leaf (.bool (r))) : PV)) (pt : GType) (r : Bool) (H : sHasProjection_G fu r_sHasProjection pt = some r) : AFun Tryz.prog 146 [(GType.pv pt)] (.t (.leaf (.bool (r))) : PV) := by
  refine ACalls.intro Tryz.func146 rfl (by first | decide | (simp; done) | (simp; decide)) ?_
  intro C hC
  refine AWP.seq ?_
  refine AWP.region_lit ?_
  refine AL.cons rfl (AOp.box (cs := [.t (.leaf (.int .i64 (pt.gKind))), .t (.leaf (.string (pt.gName))), .t (.row 3 (GType.trs (pt.gArgs)))]) rfl rfl rfl rfl rfl) ?_
  refine AL.cons rfl (AOp.move (.inr rfl) rfl rfl) ?_
  refine AL.nil ?_
  refine AWP.seq ?_
  refine AWP.seq ?_
  refine AWP.region_lit ?_
  refine AL.cons rfl (AOp.move (.inr rfl) rfl rfl) ?_
  refine AL.nil ?_
  refine AWP.cut (ι := Unit) (fun _ => sHasProjection_R1 fu r_sHasProjection pt = some (.inr ())) (fun _ => ⟨[(1, .ptr 0 0), (2, .t (.leaf (.bool (false))))], ⟨[some ⟨47, [.t (.leaf (.int .i64 (pt.gKind))), .t (.leaf (.string (pt.gName))), .t (.row 3 (GType.trs (pt.gArgs)))]⟩], []⟩⟩) (by repeat' (first | exact qcEnds | exact ncAWP | exact ncRound | exact ncEx | apply qcThen | apply qcBlock | apply qcCut)) ?_ ?_
  · skip
    refine AWP.block ?_
    refine AWP.loopR (ι := Nat × Unit) (fun (i1, _) => sHasProjection_R1 fu r_sHasProjection pt = loopN (sHasProjection_F1 fu r_sHasProjection pt) (pt.gArgs.length - i1) i1 ()) (fun (i1, _) => ⟨[(1, .ptr 0 0), (2, .t (.leaf (.bool (false)))), (3, .t (.leaf (.int .i64 (((i1 : Nat) : Int)))))], ⟨[some ⟨47, [.t (.leaf (.int .i64 (pt.gKind))), .t (.leaf (.string (pt.gName))), .t (.row 3 (GType.trs (pt.gArgs)))]⟩], []⟩⟩) (fun (i1, _) => pt.gArgs.length - i1) (0, ()) ?_ ?_ ?_
    · exact rfl
    · skip
      exact Wk.mk (StLe.mk' ⟨⟨rfl, leA, rfl⟩, trivial⟩ rfl) (keeps_nil hC) ⟨⟨_, rfl, .refl _, rfl⟩, ⟨⟨_, rfl, .refl _, rfl⟩, ⟨⟨_, rfl, leA, rfl⟩, trivial⟩⟩⟩
    · rintro ⟨i1, ⟨⟩⟩ hJ2
      refine AWP.seq ?_
      refine AWP.seq ?_
      refine AWP.region_lit ?_
      refine AL.cons rfl (AOp.move (.inl rfl) rfl rfl) ?_
      refine AL.cons rfl (AOp.fieldPtr (k := 0) (d := 0) (e := 2) rfl rfl rfl fo47_2) ?_
      refine AL.cons rfl (AOp.loadPtr1 rfl rfl rfl rfl sh45 rfl) ?_
      refine AL.fact (lk_lenN 6 rfl rfl (GType.trs_len _)) (fun hl3 => ?_)
      refine AL.cons rfl (AOp.lenN rfl rfl rfl rfl el45 (GType.trs_len _)) ?_
      refine AL.cons rfl (AOp.lss rfl rfl rfl rfl) ?_
      refine AL.nil ?_
      refine AWP.cond rfl (fun h4 => ?_) (fun h4 => ?_)
      · skip
        have h4l : i1 < pt.gArgs.length := nat_lt_of2 h4
        have h4n := nat_lt_of h4
        refine AWP.skip ?_
        refine AWP.seq ?_
        refine AWP.block ?_
        refine AWP.seq ?_
        refine AWP.region_lit ?_
        refine AL.cons rfl (AOp.fieldPtr (k := 0) (d := 0) (e := 2) rfl rfl rfl fo47_2) ?_
        refine AL.cons rfl (AOp.loadPtr1 rfl rfl rfl rfl sh45 rfl) ?_
        refine AL.cons rfl (AOp.move (.inl rfl) rfl rfl) ?_
        refine AL.cons rfl (AOp.index (k := i1) rfl rfl rfl rfl rfl (GType.trs_at h4n) el45) ?_
        refine AL.cons rfl (AOp.loadEptr (ds := [.leaf (.int .i64 ((atD pt.gArgs i1).gKind)), .leaf (.string ((atD pt.gArgs i1).gName)), .row 3 (GType.trs ((atD pt.gArgs i1).gArgs))]) rfl rfl rfl sh47 rfl rfl) ?_
        rcases hq5 : r_sHasProjection (atD pt.gArgs i1) with _ | x6
        · skip
          have e7 : (sHasProjection_F1 fu r_sHasProjection pt) i1 () = none := bdN hq5
          have e8 : sHasProjection_R1 fu r_sHasProjection pt = none := loopN_non h4l hJ2 e7
          have e9 : sHasProjection_G fu r_sHasProjection pt = none := soN e8
          exact none_some H e9
        · skip
          refine AL.cons rfl (AOp.callF (res := .t (.leaf (.bool (x6)))) (ps := [_]) rfl rfl Tryz.func146 (by kernel_rfl) rfl rfl leA rfl rfl (h_sHasProjection (atD pt.gArgs i1) _ hq5)) ?_
          refine AL.nil ?_
          refine AWP.cond rfl (fun h10 => ?_) (fun h10 => ?_)
          · skip
            refine AWP.seq ?_
            refine AWP.region_lit ?_
            refine AL.cons rfl (AOp.move (.inr rfl) rfl rfl) ?_
            refine AL.nil ?_
            refine AWP.ret ?_
            have e11 : (sHasProjection_F1 fu r_sHasProjection pt) i1 () = some (.ret true) := bdS hq5 (swT h10 (rfl))
            have e12 : sHasProjection_R1 fu r_sHasProjection pt = some (.inl true) := loopN_ret h4l hJ2 e11
            have e13 : sHasProjection_G fu r_sHasProjection pt = some true := soL e12
            have hz : true = r := Option.some.inj (e13.symm.trans H)
            subst hz
            exact Ends.mk (ps := [_]) (by first | exact .inr rfl | exact .inl rfl) ⟨rfl, trivial⟩ rfl (StLe.mk' (st' := ⟨[], []⟩) trivial rfl) (keeps_nil hC) (q := (.t (.leaf (.bool (true))) : PV)) leA rfl ⟨rfl, rfl⟩
          · skip
            refine AWP.skip ?_
            refine AWP.region_lit ?_
            refine AL.cons rfl (AOp.move (.inl rfl) rfl rfl) ?_
            refine AL.cons rfl (AOp.addI rfl rfl rfl rfl (c := ((i1 + 1 : Nat) : Int)) (by omega) (by omega)) ?_
            refine AL.cons rfl (AOp.move (.inr rfl) rfl rfl) ?_
            refine AL.nil ?_
            have e14 : (sHasProjection_F1 fu r_sHasProjection pt) i1 () = some (.next ()) := bdS hq5 (swF h10 (rfl))
            refine ⟨(i1 + 1, ()), loopN_next h4l hJ2 e14, ?_, ?_⟩
            · skip
              exact Wk.mk (StLe.mk' ⟨⟨rfl, leA, rfl⟩, trivial⟩ rfl) (keeps_nil hC) ⟨⟨_, rfl, .refl _, rfl⟩, ⟨⟨_, rfl, .refl _, rfl⟩, ⟨⟨_, rfl, leA, rfl⟩, trivial⟩⟩⟩
            · dsimp only; omega
      · skip
        have h4l : pt.gArgs.length ≤ i1 := nat_ge_of2 h4
        refine AWP.exit ?_
        refine ⟨(), loopN_end h4l hJ2, ?_⟩
        exact Wk.mk (StLe.mk' ⟨⟨rfl, leA, rfl⟩, trivial⟩ rfl) (keeps_nil hC) ⟨⟨_, rfl, .refl _, rfl⟩, ⟨⟨_, rfl, .refl _, rfl⟩, trivial⟩⟩
  · rintro ⟨⟩ hR15
    refine AWP.seq ?_
    refine AWP.region_lit ?_
    refine AL.cons rfl (AOp.fieldPtr (k := 0) (d := 0) (e := 0) rfl rfl rfl fo47_0) ?_
    refine AL.cons rfl (AOp.loadPtr1 rfl rfl rfl rfl sh3 rfl) ?_
    refine AL.cons rfl (AOp.eqlI rfl rfl rfl rfl) ?_
    refine AL.cons rfl (AOp.move (.inr rfl) rfl rfl) ?_
    refine AL.nil ?_
    refine AWP.ret ?_
    have e16 : sHasProjection_G fu r_sHasProjection pt = some (decide ((pt.gKind : Int) = 3)) := soR hR15 (rfl)
    have hz : (decide ((pt.gKind : Int) = 3)) = r := Option.some.inj (e16.symm.trans H)
    subst hz
    exact Ends.mk (ps := [_]) (by first | exact .inr rfl | exact .inl rfl) ⟨rfl, trivial⟩ rfl (StLe.mk' (st' := ⟨[], []⟩) trivial rfl) (keeps_nil hC) (q := (.t (.leaf (.bool ((decide ((pt.gKind : Int) = 3))))) : PV)) leA rfl ⟨rfl, rfl⟩
noncomputable def sHasProjection_M : Nat → GType → Option Bool
  | 0, _ => none
  | fu + 1, pt => sHasProjection_G fu (sHasProjection_M fu) pt
theorem sHasProjection_all (fu : Nat) : (∀ (pt : GType) (r : Bool), sHasProjection_M fu pt = some r → AFun Tryz.prog 146 [(GType.pv pt)] (.t (.leaf (.bool (r))) : PV)) := by
  induction fu with
  | zero => exact (fun pt r H => by simp only [sHasProjection_M] at H; cases H)
  | succ fu ih => exact (fun pt r H => by simp only [sHasProjection_M] at H; exact sHasProjection_step (sHasProjection_M fu) fu ih pt r H)
theorem sHasProjection_ok (fu : Nat) (pt : GType) (r : Bool) (H : sHasProjection_M fu pt = some r) : AFun Tryz.prog 146 [(GType.pv pt)] (.t (.leaf (.bool (r))) : PV) := (sHasProjection_all fu) pt r H

noncomputable def sIsGround_M (fu : Nat)  (pt : GType) : Option Bool :=
 bd (sTypeVariables_M fu pt) (fun x2 =>
 sw (decide ((((x2.length : Nat) : Int) : Int) = 0))
 (bd (sHasProjection_M fu pt) (fun x6 =>
 some (!(x6))))
 (some false))
set_option maxRecDepth 100000 in
set_option maxHeartbeats 4000000 in
theorem sIsGround_ok  (fu : Nat)  (pt : GType) (r : Bool) (H : sIsGround_M fu pt = some r) : AFun Tryz.prog 86 [(GType.pv pt)] (.t (.leaf (.bool (r))) : PV) := by
  refine ACalls.intro Tryz.func86 rfl (by first | decide | (simp; done) | (simp; decide)) ?_
  intro C hC
  refine AWP.seq ?_
  refine AWP.region_lit ?_
  refine AL.cons rfl (AOp.box (cs := [.t (.leaf (.int .i64 (pt.gKind))), .t (.leaf (.string (pt.gName))), .t (.row 3 (GType.trs (pt.gArgs)))]) rfl rfl rfl rfl rfl) ?_
  refine AL.cons rfl (AOp.move (.inr rfl) rfl rfl) ?_
  refine AL.nil ?_
  refine AWP.seq ?_
  refine AWP.region_lit ?_
  refine AL.cons rfl (AOp.loadPtr (cs := [.t (.leaf (.int .i64 (pt.gKind))), .t (.leaf (.string (pt.gName))), .t (.row 3 (GType.trs (pt.gArgs)))]) rfl rfl rfl rfl sh47 rfl rfl) ?_
  rcases hq1 : sTypeVariables_M fu pt with _ | x2
  · skip
    have e3 : sIsGround_M fu pt = none := bdN hq1
    exact none_some H e3
  · skip
    refine AL.cons rfl (AOp.callF (res := .t (.row 1 (strTrs (x2)))) (ps := [_]) rfl rfl Tryz.func145 (by kernel_rfl) rfl rfl leA rfl rfl (sTypeVariables_ok fu pt _ hq1)) ?_
    refine AL.cons rfl (AOp.lenN rfl rfl rfl rfl el54 (strTrs_len _)) ?_
    refine AL.cons rfl (AOp.eqlI rfl rfl rfl rfl) ?_
    refine AL.cons rfl (AOp.move (.inl rfl) rfl rfl) ?_
    refine AL.splitB 7 rfl (fun g4 => ?_) (fun g4 => ?_)
    · skip
      refine AL.cons_gv rfl rfl rfl g4 (AOp.loadPtr (cs := [.t (.leaf (.int .i64 (pt.gKind))), .t (.leaf (.string (pt.gName))), .t (.row 3 (GType.trs (pt.gArgs)))]) rfl rfl rfl rfl sh47 rfl rfl) ?_
      rcases hq5 : sHasProjection_M fu pt with _ | x6
      · skip
        have e7 : sIsGround_M fu pt = none := bdS hq1 (swT g4 (bdN hq5))
        exact none_some H e7
      · skip
        refine AL.cons_gv rfl rfl rfl g4 (AOp.callF (res := .t (.leaf (.bool (x6)))) (ps := [_]) rfl rfl Tryz.func146 (by kernel_rfl) rfl rfl leA rfl rfl (sHasProjection_ok fu pt _ hq5)) ?_
        refine AL.cons_gv rfl rfl rfl g4 (AOp.notB rfl rfl rfl) ?_
        refine AL.cons rfl (AOp.pickT rfl rfl rfl g4 rfl) ?_
        refine AL.cons rfl (AOp.move (.inr rfl) rfl rfl) ?_
        refine AL.nil ?_
        refine AWP.ret ?_
        have e8 : sIsGround_M fu pt = some (!(x6)) := bdS hq1 (swT g4 (bdS hq5 (rfl)))
        have hz : (!(x6)) = r := Option.some.inj (e8.symm.trans H)
        subst hz
        exact Ends.mk (ps := [_]) (by first | exact .inr rfl | exact .inl rfl) ⟨rfl, trivial⟩ rfl (StLe.mk' (st' := ⟨[], []⟩) trivial rfl) (keeps_nil hC) (q := (.t (.leaf (.bool ((!(x6))))) : PV)) leA rfl ⟨rfl, rfl⟩
    · skip
      refine AL.skipP rfl rfl rfl g4 rfl rfl ?_
      refine AL.skipP rfl rfl rfl g4 rfl rfl ?_
      refine AL.skipP rfl rfl rfl g4 rfl rfl ?_
      refine AL.cons rfl (AOp.pickF rfl rfl rfl g4 rfl) ?_
      refine AL.cons rfl (AOp.move (.inr rfl) rfl rfl) ?_
      refine AL.nil ?_
      refine AWP.ret ?_
      have e9 : sIsGround_M fu pt = some false := bdS hq1 (swF g4 (rfl))
      have hz : false = r := Option.some.inj (e9.symm.trans H)
      subst hz
      exact Ends.mk (ps := [_]) (by first | exact .inr rfl | exact .inl rfl) ⟨rfl, trivial⟩ rfl (StLe.mk' (st' := ⟨[], []⟩) trivial rfl) (keeps_nil hC) (q := (.t (.leaf (.bool (false))) : PV)) leA rfl ⟨rfl, rfl⟩

noncomputable def gIndex_string_F1 (fu : Nat) (ps : List ByteArray) (pv : ByteArray) : Nat → Unit → Option (LR Unit Int) :=
 fun i2 _ => sw (decide (pv = atD ps i2))
 (some (.ret ((i2 : Nat) : Int)))
 (some (.next ()))
noncomputable def gIndex_string_R1 (fu : Nat) (ps : List ByteArray) (pv : ByteArray) : Option (Int ⊕ Unit) :=
 loopN (gIndex_string_F1 fu ps pv) (ps.length - 0) 0 ()
noncomputable def gIndex_string_M (fu : Nat)  (ps : List ByteArray) (pv : ByteArray) : Option Int :=
 so (gIndex_string_R1 fu ps pv) (fun _ =>
 some (-1))
set_option maxRecDepth 100000 in
set_option maxHeartbeats 4000000 in
theorem gIndex_string_ok  (fu : Nat)  (ps : List ByteArray) (pv : ByteArray) (r : Int) (H : gIndex_string_M fu ps pv = some r) : AFun Tryz.prog 196 [.t (.row 1 (strTrs (ps))), .t (.leaf (.string (pv)))] (.t (.leaf (.int .i64 (r))) : PV) := by
  refine ACalls.intro Tryz.func196 rfl (by first | decide | (simp; done) | (simp; decide)) ?_
  intro C hC
  refine AWP.fact (lk_lenN 0 rfl rfl (strTrs_len _)) (fun hl1 => ?_)
  refine AWP.seq ?_
  refine AWP.region_lit ?_
  refine AL.cons rfl (AOp.move (.inr rfl) rfl rfl) ?_
  refine AL.nil ?_
  refine AWP.seq ?_
  refine AWP.seq ?_
  refine AWP.region_lit ?_
  refine AL.cons rfl (AOp.move (.inl rfl) rfl rfl) ?_
  refine AL.cons rfl (AOp.lenN rfl rfl rfl rfl el54 (strTrs_len _)) ?_
  refine AL.cons rfl (AOp.move (.inl rfl) rfl rfl) ?_
  refine AL.nil ?_
  refine AWP.cut (ι := Unit) (fun _ => gIndex_string_R1 fu ps pv = some (.inr ())) (fun _ => ⟨[(4, .t (.leaf (.int .i64 (0))))], ⟨[], []⟩⟩) (by repeat' (first | exact qcEnds | exact ncAWP | exact ncRound | exact ncEx | apply qcThen | apply qcBlock | apply qcCut)) ?_ ?_
  · skip
    refine AWP.block ?_
    refine AWP.loopR (ι := Nat × Unit) (fun (i2, _) => gIndex_string_R1 fu ps pv = loopN (gIndex_string_F1 fu ps pv) (ps.length - i2) i2 ()) (fun (i2, _) => ⟨[(0, .t (.row 1 (strTrs (ps)))), (1, .t (.leaf (.string (pv)))), (4, .t (.leaf (.int .i64 (0)))), (7, .t (.leaf (.int .i64 (((ps.length : Nat) : Int))))), (8, .t (.leaf (.int .i64 (((i2 : Nat) : Int)))))], ⟨[], []⟩⟩) (fun (i2, _) => ps.length - i2) (0, ()) ?_ ?_ ?_
    · exact rfl
    · skip
      exact Wk.mk (StLe.mk' trivial rfl) (keeps_nil hC) ⟨⟨_, rfl, .refl _, rfl⟩, ⟨⟨_, rfl, .refl _, rfl⟩, ⟨⟨_, rfl, .refl _, rfl⟩, ⟨⟨_, rfl, .refl _, rfl⟩, ⟨⟨_, rfl, leA, rfl⟩, trivial⟩⟩⟩⟩⟩
    · rintro ⟨i2, ⟨⟩⟩ hJ3
      refine AWP.seq ?_
      refine AWP.region_lit ?_
      refine AL.cons rfl (AOp.lss rfl rfl rfl rfl) ?_
      refine AL.nil ?_
      refine AWP.seq ?_
      refine AWP.cond rfl (fun h4 => ?_) (fun h4 => ?_)
      · skip
        have h4l : i2 < ps.length := nat_lt_of2 h4
        have h4n := nat_lt_of h4
        refine AWP.skip ?_
        refine AWP.seq ?_
        refine AWP.block ?_
        refine AWP.seq ?_
        refine AWP.region_lit ?_
        refine AL.cons rfl (AOp.move (.inl rfl) rfl rfl) ?_
        refine AL.cons rfl (AOp.move (.inr rfl) rfl rfl) ?_
        refine AL.nil ?_
        refine AWP.seq ?_
        refine AWP.region_lit ?_
        refine AL.cons rfl (AOp.move (.inl rfl) rfl rfl) ?_
        refine AL.cons rfl (AOp.move (.inl rfl) rfl rfl) ?_
        refine AL.cons rfl (AOp.move (.inl rfl) rfl rfl) ?_
        refine AL.cons rfl (AOp.index (k := i2) rfl rfl rfl rfl rfl (strTrs_at h4n) el54) ?_
        refine AL.cons rfl (AOp.loadEptr1 (d := .leaf (.string (atD ps i2))) rfl rfl rfl sh9 rfl) ?_
        refine AL.cons rfl (AOp.eqlS rfl rfl rfl rfl) ?_
        refine AL.nil ?_
        refine AWP.cond rfl (fun h5 => ?_) (fun h5 => ?_)
        · skip
          refine AWP.seq ?_
          refine AWP.region_lit ?_
          refine AL.cons rfl (AOp.move (.inl rfl) rfl rfl) ?_
          refine AL.cons rfl (AOp.move (.inr rfl) rfl rfl) ?_
          refine AL.nil ?_
          refine AWP.ret ?_
          have e6 : (gIndex_string_F1 fu ps pv) i2 () = some (.ret ((i2 : Nat) : Int)) := swT h5 (rfl)
          have e7 : gIndex_string_R1 fu ps pv = some (.inl ((i2 : Nat) : Int)) := loopN_ret h4l hJ3 e6
          have e8 : gIndex_string_M fu ps pv = some ((i2 : Nat) : Int) := soL e7
          have hz : ((i2 : Nat) : Int) = r := Option.some.inj (e8.symm.trans H)
          subst hz
          exact Ends.mk (ps := [_]) (by first | exact .inr rfl | exact .inl rfl) ⟨rfl, trivial⟩ rfl (StLe.mk' (st' := ⟨[], []⟩) trivial rfl) (keeps_nil hC) (q := (.t (.leaf (.int .i64 (((i2 : Nat) : Int)))) : PV)) leA rfl ⟨rfl, rfl⟩
        · skip
          refine AWP.skip ?_
          refine AWP.region_lit ?_
          refine AL.cons rfl (AOp.addI rfl rfl rfl rfl (c := ((i2 + 1 : Nat) : Int)) (by omega) (by omega)) ?_
          refine AL.cons rfl (AOp.move (.inl rfl) rfl rfl) ?_
          refine AL.nil ?_
          have e9 : (gIndex_string_F1 fu ps pv) i2 () = some (.next ()) := swF h5 (rfl)
          refine ⟨(i2 + 1, ()), loopN_next h4l hJ3 e9, ?_, ?_⟩
          · skip
            exact Wk.mk (StLe.mk' trivial rfl) (keeps_nil hC) ⟨⟨_, rfl, .refl _, rfl⟩, ⟨⟨_, rfl, .refl _, rfl⟩, ⟨⟨_, rfl, .refl _, rfl⟩, ⟨⟨_, rfl, .refl _, rfl⟩, ⟨⟨_, rfl, leA, rfl⟩, trivial⟩⟩⟩⟩⟩
          · dsimp only; omega
      · skip
        have h4l : ps.length ≤ i2 := nat_ge_of2 h4
        refine AWP.exit ?_
        refine ⟨(), loopN_end h4l hJ3, ?_⟩
        exact Wk.mk (StLe.mk' trivial rfl) (keeps_nil hC) ⟨⟨_, rfl, .refl _, rfl⟩, trivial⟩
  · rintro ⟨⟩ hR10
    refine AWP.seq ?_
    refine AWP.region_lit ?_
    refine AL.cons rfl (AOp.move (.inr rfl) rfl rfl) ?_
    refine AL.nil ?_
    refine AWP.ret ?_
    have e11 : gIndex_string_M fu ps pv = some (-1) := soR hR10 (rfl)
    have hz : (-1) = r := Option.some.inj (e11.symm.trans H)
    subst hz
    exact Ends.mk (ps := [_]) (by first | exact .inr rfl | exact .inl rfl) ⟨rfl, trivial⟩ rfl (StLe.mk' (st' := ⟨[], []⟩) trivial rfl) (keeps_nil hC) (q := (.t (.leaf (.int .i64 ((-1)))) : PV)) leA rfl ⟨rfl, rfl⟩

noncomputable def gContains_string_M (fu : Nat)  (ps : List ByteArray) (pv : ByteArray) : Option Bool :=
 bd (gIndex_string_M fu ps pv) (fun x3 =>
 some (decide ((x3 : Int) ≥ 0)))
set_option maxRecDepth 100000 in
set_option maxHeartbeats 4000000 in
theorem gContains_string_ok  (fu : Nat)  (ps : List ByteArray) (pv : ByteArray) (r : Bool) (H : gContains_string_M fu ps pv = some r) : AFun Tryz.prog 151 [.t (.row 1 (strTrs (ps))), .t (.leaf (.string (pv)))] (.t (.leaf (.bool (r))) : PV) := by
  refine ACalls.intro Tryz.func151 rfl (by first | decide | (simp; done) | (simp; decide)) ?_
  intro C hC
  refine AWP.fact (lk_lenN 0 rfl rfl (strTrs_len _)) (fun hl1 => ?_)
  refine AWP.seq ?_
  refine AWP.region_lit ?_
  refine AL.cons rfl (AOp.move (.inr rfl) rfl rfl) ?_
  refine AL.nil ?_
  refine AWP.seq ?_
  refine AWP.region_lit ?_
  refine AL.cons rfl (AOp.move (.inl rfl) rfl rfl) ?_
  refine AL.cons rfl (AOp.move (.inl rfl) rfl rfl) ?_
  rcases hq2 : gIndex_string_M fu ps pv with _ | x3
  · skip
    have e4 : gContains_string_M fu ps pv = none := bdN hq2
    exact none_some H e4
  · skip
    refine AL.cons rfl (AOp.callF (res := .t (.leaf (.int .i64 (x3)))) (ps := [_, _]) rfl rfl Tryz.func196 (by kernel_rfl) rfl rfl leA rfl rfl (gIndex_string_ok fu ps pv _ hq2)) ?_
    refine AL.cons rfl (AOp.geq rfl rfl rfl rfl) ?_
    refine AL.cons rfl (AOp.move (.inr rfl) rfl rfl) ?_
    refine AL.nil ?_
    refine AWP.ret ?_
    have e5 : gContains_string_M fu ps pv = some (decide ((x3 : Int) ≥ 0)) := bdS hq2 (rfl)
    have hz : (decide ((x3 : Int) ≥ 0)) = r := Option.some.inj (e5.symm.trans H)
    subst hz
    exact Ends.mk (ps := [_]) (by first | exact .inr rfl | exact .inl rfl) ⟨rfl, trivial⟩ rfl (StLe.mk' (st' := ⟨[], []⟩) trivial rfl) (keeps_nil hC) (q := (.t (.leaf (.bool ((decide ((x3 : Int) ≥ 0))))) : PV)) leA rfl ⟨rfl, rfl⟩

noncomputable def ivariablesOf_1_M (fu : Nat)  (pu : GType) (c1 : List ByteArray) : Option ((List ByteArray)) :=
 sw (decide ((pu.gKind : Int) = 1))
 (bd (gContains_string_M fu c1 pu.gName) (fun x4 =>
 sw (!(x4))
 (gd ((c1).length + (([pu.gName] : List ByteArray)).length ≤ 68719476736)
 (some (c1 ++ ([pu.gName] : List ByteArray))))
 (some c1)))
 (some c1)
set_option maxRecDepth 100000 in
set_option maxHeartbeats 4000000 in
theorem ivariablesOf_1_ok  (fu : Nat)  (pu : GType) (c1 : List ByteArray) (r : (List ByteArray)) (H : ivariablesOf_1_M fu pu c1 = some r) : ACalls Tryz.prog 213 [(GType.pv pu), .ptr 0 0] ⟨[some ⟨54, [.acc 1 (strTrs (c1)) 0]⟩], [⟨9, 1, strTrs (c1), false⟩]⟩ (fun q t => q = (.tup [] : PV) ∧ t = ⟨[some ⟨54, [.acc 1 (strTrs (r)) 0]⟩], [⟨9, 1, strTrs (r), false⟩]⟩) := by
  refine ACalls.intro Tryz.func213 rfl (by first | decide | (simp; done) | (simp; decide)) ?_
  intro C hC
  refine AWP.fact (box_lenN 0 0 rfl rfl rfl (strTrs_len _)) (fun hl1 => ?_)
  refine AWP.seq ?_
  refine AWP.region_lit ?_
  refine AL.cons rfl (AOp.box (cs := [.t (.leaf (.int .i64 (pu.gKind))), .t (.leaf (.string (pu.gName))), .t (.row 3 (GType.trs (pu.gArgs)))]) rfl rfl rfl rfl rfl) ?_
  refine AL.nil ?_
  refine AWP.seq ?_
  refine AWP.region_lit ?_
  refine AL.cons rfl (AOp.fieldPtr (k := 1) (d := 0) (e := 0) rfl rfl rfl fo47_0) ?_
  refine AL.cons rfl (AOp.loadPtr1 rfl rfl rfl rfl sh3 rfl) ?_
  refine AL.cons rfl (AOp.eqlI rfl rfl rfl rfl) ?_
  refine AL.cons rfl (AOp.move (.inl rfl) rfl rfl) ?_
  refine AL.splitB 6 rfl (fun g2 => ?_) (fun g2 => ?_)
  · skip
    refine AL.cons_gv rfl rfl rfl g2 (AOp.loadPtr1 rfl rfl rfl rfl sh54 rfl) ?_
    refine AL.cons_gv rfl rfl rfl g2 (AOp.fieldPtr (k := 1) (d := 0) (e := 1) rfl rfl rfl fo47_1) ?_
    refine AL.cons_gv rfl rfl rfl g2 (AOp.loadPtr1 rfl rfl rfl rfl sh9 rfl) ?_
    rcases hq3 : gContains_string_M fu c1 pu.gName with _ | x4
    · skip
      have e5 : ivariablesOf_1_M fu pu c1 = none := swT g2 (bdN hq3)
      exact none_some H e5
    · skip
      refine AL.cons_gv rfl rfl rfl g2 (AOp.callF (res := .t (.leaf (.bool (x4)))) (ps := [_, _]) rfl rfl Tryz.func151 (by kernel_rfl) rfl rfl leA rfl rfl (gContains_string_ok fu c1 pu.gName _ hq3)) ?_
      refine AL.cons_gv rfl rfl rfl g2 (AOp.notB rfl rfl rfl) ?_
      refine AL.cons rfl (AOp.pickT rfl rfl rfl g2 rfl) ?_
      refine AL.nil ?_
      refine AWP.cond rfl (fun h6 => ?_) (fun h6 => ?_)
      · skip
        refine AWP.region_lit ?_
        refine AL.cons rfl (AOp.loadPtr1 rfl rfl rfl rfl sh54 rfl) ?_
        refine AL.cons rfl (AOp.fieldPtr (k := 1) (d := 0) (e := 1) rfl rfl rfl fo47_1) ?_
        refine AL.cons rfl (AOp.loadPtr1 rfl rfl rfl rfl sh9 rfl) ?_
        refine AL.cons rfl (AOp.buildSliceE (es := [[.leaf (.string pu.gName)]]) (es' := strTrs (([pu.gName] : List ByteArray))) (cs := [.t (.leaf (.string (pu.gName)))]) rfl rfl el54 zr9 rfl rfl leA rfl (by simp) (by decide) rfl (by decide) rfl) ?_
        rcases Classical.em ((c1).length + (([pu.gName] : List ByteArray)).length ≤ 68719476736) with hg7 | hg7
        · skip
          refine AL.cons rfl (AOp.appendE (es3 := strTrs (c1 ++ ([pu.gName] : List ByteArray))) rfl rfl rfl rfl rfl rfl rfl rfl rfl (strTrs_all _) el54 ze54 (by decide) (by rw [strTrs_len, strTrs_len]; exact room_le hg7 (by decide)) (strTrs_append _ _)) ?_
          refine AL.cons rfl (AOp.storePtr (cs := [.acc 1 (strTrs (c1 ++ ([pu.gName] : List ByteArray))) 0]) (ds := [.acc 1 (strTrs (c1 ++ ([pu.gName] : List ByteArray))) 0]) rfl rfl rfl rfl rfl rfl rfl sz54 (Nat.le_of_ble_eq_true rfl) rfl) ?_
          refine AL.nil ?_
          have e8 : ivariablesOf_1_M fu pu c1 = some (c1 ++ ([pu.gName] : List ByteArray)) := swT g2 (bdS hq3 (swT h6 (gdT hg7 (rfl))))
          have hz : (c1 ++ ([pu.gName] : List ByteArray)) = r := Option.some.inj (e8.symm.trans H)
          subst hz
          exact Ends.mk (ps := []) (by first | exact .inr rfl | exact .inl rfl) trivial rfl (StLe.mk' (st' := ⟨[some ⟨54, [.acc 1 (strTrs ((c1 ++ ([pu.gName] : List ByteArray)))) 0]⟩], [⟨9, 1, strTrs ((c1 ++ ([pu.gName] : List ByteArray))), false⟩]⟩) ⟨⟨rfl, leA, rfl⟩, trivial⟩ (by first | rfl | simp)) (keeps_all hC (boxes1 rfl) (Nat.le_of_ble_eq_true rfl)) (q := (.tup [] : PV)) leA rfl ⟨rfl, rfl⟩
        · skip
          have e9 : ivariablesOf_1_M fu pu c1 = none := swT g2 (bdS hq3 (swT h6 (gdF hg7)))
          exact none_some H e9
      · skip
        refine AWP.skip ?_
        have e10 : ivariablesOf_1_M fu pu c1 = some c1 := swT g2 (bdS hq3 (swF h6 (rfl)))
        have hz : c1 = r := Option.some.inj (e10.symm.trans H)
        subst hz
        exact Ends.mk (ps := []) (by first | exact .inr rfl | exact .inl rfl) trivial rfl (StLe.mk' (st' := ⟨[some ⟨54, [.acc 1 (strTrs (c1)) 0]⟩], [⟨9, 1, strTrs (c1), false⟩]⟩) ⟨⟨rfl, leA, rfl⟩, trivial⟩ (by first | rfl | simp)) (keeps_all hC (boxes1 rfl) (Nat.le_of_ble_eq_true rfl)) (q := (.tup [] : PV)) leA rfl ⟨rfl, rfl⟩
  · skip
    refine AL.skipP rfl rfl rfl g2 rfl rfl ?_
    refine AL.skipP rfl rfl rfl g2 rfl rfl ?_
    refine AL.skipP rfl rfl rfl g2 rfl rfl ?_
    refine AL.skipP rfl rfl rfl g2 rfl rfl ?_
    refine AL.skipP rfl rfl rfl g2 rfl rfl ?_
    refine AL.cons rfl (AOp.pickF rfl rfl rfl g2 rfl) ?_
    refine AL.nil ?_
    refine AWP.cond rfl (fun h11 => ?_) (fun h11 => ?_)
    · skip
      exact absurd (h11.symm.trans rfl) (by decide)
    · skip
      refine AWP.skip ?_
      have e12 : ivariablesOf_1_M fu pu c1 = some c1 := swF g2 (rfl)
      have hz : c1 = r := Option.some.inj (e12.symm.trans H)
      subst hz
      exact Ends.mk (ps := []) (by first | exact .inr rfl | exact .inl rfl) trivial rfl (StLe.mk' (st' := ⟨[some ⟨54, [.acc 1 (strTrs (c1)) 0]⟩], [⟨9, 1, strTrs (c1), false⟩]⟩) ⟨⟨rfl, leA, rfl⟩, trivial⟩ (by first | rfl | simp)) (keeps_all hC (boxes1 rfl) (Nat.le_of_ble_eq_true rfl)) (q := (.tup [] : PV)) leA rfl ⟨rfl, rfl⟩

noncomputable def ieachType__ivariablesOf_1_F1 (fu : Nat) (r_ieachType__ivariablesOf_1 : GType → (List ByteArray) → Option ((List ByteArray))) (pt : GType) (c1_0 : List ByteArray) (x3 : List ByteArray) : Nat → ((List ByteArray)) → Option (LR ((List ByteArray)) ((List ByteArray))) :=
 fun i6 v8 => bd (r_ieachType__ivariablesOf_1 (atD pt.gArgs i6) v8) (fun x12 =>
 some (.next x12))
noncomputable def ieachType__ivariablesOf_1_R1 (fu : Nat) (r_ieachType__ivariablesOf_1 : GType → (List ByteArray) → Option ((List ByteArray))) (pt : GType) (c1_0 : List ByteArray) (x3 : List ByteArray) : Option (((List ByteArray)) ⊕ ((List ByteArray))) :=
 loopN (ieachType__ivariablesOf_1_F1 fu r_ieachType__ivariablesOf_1 pt c1_0 x3) (pt.gArgs.length - 0) 0 x3
noncomputable def ieachType__ivariablesOf_1_G (fu : Nat) (r_ieachType__ivariablesOf_1 : GType → (List ByteArray) → Option ((List ByteArray))) (pt : GType) (c1_0 : List ByteArray) : Option ((List ByteArray)) :=
 bd (ivariablesOf_1_M fu pt c1_0) (fun x3 =>
 so (ieachType__ivariablesOf_1_R1 fu r_ieachType__ivariablesOf_1 pt c1_0 x3) (fun v8 =>
 some v8))
set_option maxRecDepth 100000 in
set_option maxHeartbeats 4000000 in
theorem ieachType__ivariablesOf_1_step (r_ieachType__ivariablesOf_1 : GType → (List ByteArray) → Option ((List ByteArray))) (fu : Nat) (h_ieachType__ivariablesOf_1 : ∀ (pt : GType) (c1_0 : List ByteArray) (r : (List ByteArray)), r_ieachType__ivariablesOf_1 pt c1_0 = some r → ACalls Tryz.prog 194 [(GType.pv pt), .fn 213 [.ptr 0 0]] ⟨[some ⟨54, [.acc 1 (strTrs (c1_0)) 0]⟩], [⟨9, 1, strTrs (c1_0), false⟩]⟩ (fun q t => q = (.tup [] : PV) ∧ t = ⟨[some ⟨54, [.acc 1 (strTrs (r)) 0]⟩], [⟨9, 1, strTrs (r), false⟩]⟩)) (pt : GType) (c1_0 : List ByteArray) (r : (List ByteArray)) (H : ieachType__ivariablesOf_1_G fu r_ieachType__ivariablesOf_1 pt c1_0 = some r) : ACalls Tryz.prog 194 [(GType.pv pt), .fn 213 [.ptr 0 0]] ⟨[some ⟨54, [.acc 1 (strTrs (c1_0)) 0]⟩], [⟨9, 1, strTrs (c1_0), false⟩]⟩ (fun q t => q = (.tup [] : PV) ∧ t = ⟨[some ⟨54, [.acc 1 (strTrs (r)) 0]⟩], [⟨9, 1, strTrs (r), false⟩]⟩) := by
  refine ACalls.intro Tryz.func194 rfl (by first | decide | (simp; done) | (simp; decide)) ?_
  intro C hC
  refine AWP.fact (box_lenN 0 0 rfl rfl rfl (strTrs_len _)) (fun hl1 => ?_)
  refine AWP.seq ?_
  refine AWP.region_lit ?_
  refine AL.cons rfl (AOp.box (cs := [.t (.leaf (.int .i64 (pt.gKind))), .t (.leaf (.string (pt.gName))), .t (.row 3 (GType.trs (pt.gArgs)))]) rfl rfl rfl rfl rfl) ?_
  refine AL.nil ?_
  refine AWP.seq ?_
  refine AWP.region_lit ?_
  refine AL.cons rfl (AOp.move (.inl rfl) rfl rfl) ?_
  refine AL.cons rfl (AOp.loadPtr (cs := [.t (.leaf (.int .i64 (pt.gKind))), .t (.leaf (.string (pt.gName))), .t (.row 3 (GType.trs (pt.gArgs)))]) rfl rfl rfl rfl sh47 rfl rfl) ?_
  rcases hq2 : ivariablesOf_1_M fu pt c1_0 with _ | x3
  · skip
    have e4 : ieachType__ivariablesOf_1_G fu r_ieachType__ivariablesOf_1 pt c1_0 = none := bdN hq2
    exact none_some H e4
  · skip
    refine AL.cons rfl (AOp.callVPE (pre := ⟨[some ⟨54, [.acc 1 (strTrs (c1_0)) 0]⟩], [⟨9, 1, strTrs (c1_0), false⟩]⟩) (st' := ⟨[some ⟨54, [.acc 1 (strTrs (x3)) 0]⟩], [⟨9, 1, strTrs (x3), false⟩]⟩) (ps := [_]) (cs := [.ptr 0 0]) (qs := [(GType.pv pt), .ptr 0 0]) [0] [0] rfl rfl rfl Tryz.func213 (by kernel_rfl) rfl rfl rfl (Part0.of ⟨⟨_, rfl, rfl, leA, rfl⟩, trivial⟩ ⟨rfl, trivial⟩ (by decide) (by decide)) leA rfl rfl rfl (ivariablesOf_1_ok fu pt c1_0 _ hq2)) ?_
    refine AL.nil ?_
    refine AWP.seq ?_
    refine AWP.region_lit ?_
    refine AL.cons rfl (AOp.fieldPtr (k := 1) (d := 0) (e := 2) rfl rfl rfl fo47_2) ?_
    refine AL.cons rfl (AOp.loadPtr1 rfl rfl rfl rfl sh45 rfl) ?_
    refine AL.fact (lk_lenN 10 rfl rfl (GType.trs_len _)) (fun hl5 => ?_)
    refine AL.cons rfl (AOp.lenN rfl rfl rfl rfl el45 (GType.trs_len _)) ?_
    refine AL.cons rfl (AOp.move (.inl rfl) rfl rfl) ?_
    refine AL.nil ?_
    refine AWP.cut (ι := (List ByteArray)) (fun v8 => ieachType__ivariablesOf_1_R1 fu r_ieachType__ivariablesOf_1 pt c1_0 x3 = some (.inr v8)) (fun v8 => ⟨[], ⟨[some ⟨54, [.acc 1 (strTrs (v8)) 0]⟩, some ⟨47, [.t (.leaf (.int .i64 (pt.gKind))), .t (.leaf (.string (pt.gName))), .t (.row 3 (GType.trs (pt.gArgs)))]⟩], [⟨9, 1, strTrs (v8), false⟩]⟩⟩) (by repeat' (first | exact qcEnds | exact ncAWP | exact ncRound | exact ncEx | apply qcThen | apply qcBlock | apply qcCut)) ?_ ?_
    · skip
      refine AWP.block ?_
      refine AWP.loopR (ι := Nat × ((List ByteArray))) (fun (i6, v8) => ieachType__ivariablesOf_1_R1 fu r_ieachType__ivariablesOf_1 pt c1_0 x3 = loopN (ieachType__ivariablesOf_1_F1 fu r_ieachType__ivariablesOf_1 pt c1_0 x3) (pt.gArgs.length - i6) i6 v8) (fun (i6, v8) => ⟨[(1, .fn 213 [.ptr 0 0]), (10, .t (.row 3 (GType.trs (pt.gArgs)))), (11, .t (.leaf (.int .i64 (((pt.gArgs.length : Nat) : Int))))), (12, .t (.leaf (.int .i64 (((i6 : Nat) : Int)))))], ⟨[some ⟨54, [.acc 1 (strTrs (v8)) 0]⟩, some ⟨47, [.t (.leaf (.int .i64 (pt.gKind))), .t (.leaf (.string (pt.gName))), .t (.row 3 (GType.trs (pt.gArgs)))]⟩], [⟨9, 1, strTrs (v8), false⟩]⟩⟩) (fun (i6, v8) => pt.gArgs.length - i6) (0, x3) ?_ ?_ ?_
      · exact rfl
      · skip
        exact Wk.mk (StLe.mk' ⟨⟨rfl, leA, rfl⟩, ⟨⟨rfl, leA, rfl⟩, trivial⟩⟩ (by first | rfl | simp)) (keeps_all hC (boxes1 rfl) (Nat.le_of_ble_eq_true rfl)) ⟨⟨_, rfl, .refl _, rfl⟩, ⟨⟨_, rfl, .refl _, rfl⟩, ⟨⟨_, rfl, .refl _, rfl⟩, ⟨⟨_, rfl, leA, rfl⟩, trivial⟩⟩⟩⟩
      · rintro ⟨i6, v8⟩ hJ9
        refine AWP.seq ?_
        refine AWP.region_lit ?_
        refine AL.cons rfl (AOp.lss rfl rfl rfl rfl) ?_
        refine AL.nil ?_
        refine AWP.seq ?_
        refine AWP.cond rfl (fun h10 => ?_) (fun h10 => ?_)
        · skip
          have h10l : i6 < pt.gArgs.length := nat_lt_of2 h10
          have h10n := nat_lt_of h10
          refine AWP.skip ?_
          refine AWP.seq ?_
          refine AWP.block ?_
          refine AWP.seq ?_
          refine AWP.region_lit ?_
          refine AL.cons rfl (AOp.index (k := i6) rfl rfl rfl rfl rfl (GType.trs_at h10n) el45) ?_
          refine AL.cons rfl (AOp.loadEptr (ds := [.leaf (.int .i64 ((atD pt.gArgs i6).gKind)), .leaf (.string ((atD pt.gArgs i6).gName)), .row 3 (GType.trs ((atD pt.gArgs i6).gArgs))]) rfl rfl rfl sh47 rfl rfl) ?_
          refine AL.cons rfl (AOp.alloc rfl rfl zr47) ?_
          refine AL.cons rfl (AOp.storePtr (cs := [.t (.leaf (.int .i64 ((atD pt.gArgs i6).gKind))), .t (.leaf (.string ((atD pt.gArgs i6).gName))), .t (.row 3 (GType.trs ((atD pt.gArgs i6).gArgs)))]) (ds := [.t (.leaf (.int .i64 ((atD pt.gArgs i6).gKind))), .t (.leaf (.string ((atD pt.gArgs i6).gName))), .t (.row 3 (GType.trs ((atD pt.gArgs i6).gArgs)))]) rfl rfl rfl rfl rfl rfl rfl sz47 (Nat.le_of_ble_eq_true rfl) rfl) ?_
          refine AL.nil ?_
          refine AWP.region_lit ?_
          refine AL.cons rfl (AOp.loadPtr (cs := [.t (.leaf (.int .i64 ((atD pt.gArgs i6).gKind))), .t (.leaf (.string ((atD pt.gArgs i6).gName))), .t (.row 3 (GType.trs ((atD pt.gArgs i6).gArgs)))]) rfl rfl rfl rfl sh47 rfl rfl) ?_
          refine AL.cons rfl (AOp.move (.inl rfl) rfl rfl) ?_
          rcases hq11 : r_ieachType__ivariablesOf_1 (atD pt.gArgs i6) v8 with _ | x12
          · skip
            have e13 : (ieachType__ivariablesOf_1_F1 fu r_ieachType__ivariablesOf_1 pt c1_0 x3) i6 v8 = none := bdN hq11
            have e14 : ieachType__ivariablesOf_1_R1 fu r_ieachType__ivariablesOf_1 pt c1_0 x3 = none := loopN_non h10l hJ9 e13
            have e15 : ieachType__ivariablesOf_1_G fu r_ieachType__ivariablesOf_1 pt c1_0 = none := bdS hq2 (soN e14)
            exact none_some H e15
          · skip
            refine AL.cons rfl (AOp.callPE (pre := ⟨[some ⟨54, [.acc 1 (strTrs (v8)) 0]⟩], [⟨9, 1, strTrs (v8), false⟩]⟩) (st' := ⟨[some ⟨54, [.acc 1 (strTrs (x12)) 0]⟩], [⟨9, 1, strTrs (x12), false⟩]⟩) (ps := [_, _]) (qs := [(GType.pv (atD pt.gArgs i6)), .fn 213 [.ptr 0 0]]) [0] [0] rfl rfl Tryz.func194 (by kernel_rfl) rfl rfl rfl (Part0.of ⟨⟨_, rfl, rfl, leA, rfl⟩, trivial⟩ ⟨rfl, trivial⟩ (by decide) (by decide)) leA rfl rfl rfl (h_ieachType__ivariablesOf_1 (atD pt.gArgs i6) v8 _ hq11)) ?_
            refine AL.nil ?_
            refine AWP.region_lit ?_
            refine AL.cons rfl (AOp.addI rfl rfl rfl rfl (c := ((i6 + 1 : Nat) : Int)) (by omega) (by omega)) ?_
            refine AL.cons rfl (AOp.move (.inl rfl) rfl rfl) ?_
            refine AL.nil ?_
            have e16 : (ieachType__ivariablesOf_1_F1 fu r_ieachType__ivariablesOf_1 pt c1_0 x3) i6 v8 = some (.next x12) := bdS hq11 (rfl)
            refine ⟨(i6 + 1, x12), loopN_next h10l hJ9 e16, ?_, ?_⟩
            · skip
              exact Wk.mk (StLe.mk' ⟨⟨rfl, leA, rfl⟩, ⟨⟨rfl, leA, rfl⟩, trivial⟩⟩ (by first | rfl | simp)) (keeps_all hC (boxes1 rfl) (Nat.le_of_ble_eq_true rfl)) ⟨⟨_, rfl, .refl _, rfl⟩, ⟨⟨_, rfl, .refl _, rfl⟩, ⟨⟨_, rfl, .refl _, rfl⟩, ⟨⟨_, rfl, leA, rfl⟩, trivial⟩⟩⟩⟩
            · dsimp only; omega
        · skip
          have h10l : pt.gArgs.length ≤ i6 := nat_ge_of2 h10
          refine AWP.exit ?_
          refine ⟨v8, loopN_end h10l hJ9, ?_⟩
          exact Wk.mk (StLe.mk' ⟨⟨rfl, leA, rfl⟩, ⟨⟨rfl, leA, rfl⟩, trivial⟩⟩ (by first | rfl | simp)) (keeps_all hC (boxes1 rfl) (Nat.le_of_ble_eq_true rfl)) trivial
    · rintro v8 hR17
      have e18 : ieachType__ivariablesOf_1_G fu r_ieachType__ivariablesOf_1 pt c1_0 = some v8 := bdS hq2 (soR hR17 (rfl))
      have hz : v8 = r := Option.some.inj (e18.symm.trans H)
      subst hz
      exact Ends.mk (ps := []) (by first | exact .inr rfl | exact .inl rfl) trivial rfl (StLe.mk' (st' := ⟨[some ⟨54, [.acc 1 (strTrs (v8)) 0]⟩], [⟨9, 1, strTrs (v8), false⟩]⟩) ⟨⟨rfl, leA, rfl⟩, trivial⟩ (by first | rfl | simp)) (keeps_all hC (boxes1 rfl) (Nat.le_of_ble_eq_true rfl)) (q := (.tup [] : PV)) leA rfl ⟨rfl, rfl⟩
noncomputable def ieachType__ivariablesOf_1_M : Nat → GType → (List ByteArray) → Option ((List ByteArray))
  | 0, _, _ => none
  | fu + 1, pt, c1_0 => ieachType__ivariablesOf_1_G fu (ieachType__ivariablesOf_1_M fu) pt c1_0
theorem ieachType__ivariablesOf_1_all (fu : Nat) : (∀ (pt : GType) (c1_0 : List ByteArray) (r : (List ByteArray)), ieachType__ivariablesOf_1_M fu pt c1_0 = some r → ACalls Tryz.prog 194 [(GType.pv pt), .fn 213 [.ptr 0 0]] ⟨[some ⟨54, [.acc 1 (strTrs (c1_0)) 0]⟩], [⟨9, 1, strTrs (c1_0), false⟩]⟩ (fun q t => q = (.tup [] : PV) ∧ t = ⟨[some ⟨54, [.acc 1 (strTrs (r)) 0]⟩], [⟨9, 1, strTrs (r), false⟩]⟩)) := by
  induction fu with
  | zero => exact (fun pt c1_0 r H => by simp only [ieachType__ivariablesOf_1_M] at H; cases H)
  | succ fu ih => exact (fun pt c1_0 r H => by simp only [ieachType__ivariablesOf_1_M] at H; exact ieachType__ivariablesOf_1_step (ieachType__ivariablesOf_1_M fu) fu ih pt c1_0 r H)
theorem ieachType__ivariablesOf_1_ok (fu : Nat) (pt : GType) (c1_0 : List ByteArray) (r : (List ByteArray)) (H : ieachType__ivariablesOf_1_M fu pt c1_0 = some r) : ACalls Tryz.prog 194 [(GType.pv pt), .fn 213 [.ptr 0 0]] ⟨[some ⟨54, [.acc 1 (strTrs (c1_0)) 0]⟩], [⟨9, 1, strTrs (c1_0), false⟩]⟩ (fun q t => q = (.tup [] : PV) ∧ t = ⟨[some ⟨54, [.acc 1 (strTrs (r)) 0]⟩], [⟨9, 1, strTrs (r), false⟩]⟩) := (ieachType__ivariablesOf_1_all fu) pt c1_0 r H

noncomputable def ivariablesOf_F1 (fu : Nat) (pall : List GType) : Nat → ((List ByteArray)) → Option (LR ((List ByteArray)) ((List ByteArray))) :=
 fun i2 v4 => bd (ieachType__ivariablesOf_1_M fu (atD pall i2) v4) (fun x8 =>
 some (.next x8))
noncomputable def ivariablesOf_R1 (fu : Nat) (pall : List GType) : Option (((List ByteArray)) ⊕ ((List ByteArray))) :=
 loopN (ivariablesOf_F1 fu pall) (pall.length - 0) 0 ([])
noncomputable def ivariablesOf_M (fu : Nat)  (pall : List GType) : Option ((List ByteArray)) :=
 so (ivariablesOf_R1 fu pall) (fun v4 =>
 some v4)
set_option maxRecDepth 100000 in
set_option maxHeartbeats 4000000 in
theorem ivariablesOf_ok  (fu : Nat)  (pall : List GType) (r : (List ByteArray)) (H : ivariablesOf_M fu pall = some r) : AFun Tryz.prog 193 [.t (.row 3 (GType.trs (pall)))] (.t (.row 1 (strTrs (r))) : PV) := by
  refine ACalls.intro Tryz.func193 rfl (by first | decide | (simp; done) | (simp; decide)) ?_
  intro C hC
  refine AWP.fact (lk_lenN 0 rfl rfl (GType.trs_len _)) (fun hl1 => ?_)
  refine AWP.seq ?_
  refine AWP.region_lit ?_
  refine AL.cons rfl (AOp.move (.inr rfl) rfl rfl) ?_
  refine AL.nil ?_
  refine AWP.seq ?_
  refine AWP.region_lit ?_
  refine AL.cons rfl (AOp.buildSliceA (es := []) (es' := strTrs ([])) (cs := []) rfl rfl el54 zr9 rfl rfl leA rfl (by simp) (by decide) rfl (by decide) rfl) ?_
  refine AL.cons rfl (AOp.alloc rfl rfl zr54) ?_
  refine AL.cons rfl (AOp.storePtr (cs := [.acc 1 (strTrs ([])) 0]) (ds := [.acc 1 (strTrs ([])) 0]) rfl rfl rfl rfl rfl rfl rfl sz54 (Nat.le_of_ble_eq_true rfl) rfl) ?_
  refine AL.nil ?_
  refine AWP.seq ?_
  refine AWP.seq ?_
  refine AWP.region_lit ?_
  refine AL.cons rfl (AOp.move (.inl rfl) rfl rfl) ?_
  refine AL.cons rfl (AOp.lenN rfl rfl rfl rfl el45 (GType.trs_len _)) ?_
  refine AL.cons rfl (AOp.move (.inl rfl) rfl rfl) ?_
  refine AL.nil ?_
  refine AWP.cut (ι := (List ByteArray)) (fun v4 => ivariablesOf_R1 fu pall = some (.inr v4)) (fun v4 => ⟨[(2, .nil), (3, .ptr 0 0)], ⟨[some ⟨54, [.acc 1 (strTrs (v4)) 0]⟩], [⟨9, 1, strTrs (v4), false⟩]⟩⟩) (by repeat' (first | exact qcEnds | exact ncAWP | exact ncRound | exact ncEx | apply qcThen | apply qcBlock | apply qcCut)) ?_ ?_
  · skip
    refine AWP.block ?_
    refine AWP.loopR (ι := Nat × ((List ByteArray))) (fun (i2, v4) => ivariablesOf_R1 fu pall = loopN (ivariablesOf_F1 fu pall) (pall.length - i2) i2 v4) (fun (i2, v4) => ⟨[(2, .nil), (3, .ptr 0 0), (7, .t (.row 3 (GType.trs (pall)))), (8, .t (.leaf (.int .i64 (((pall.length : Nat) : Int))))), (9, .t (.leaf (.int .i64 (((i2 : Nat) : Int)))))], ⟨[some ⟨54, [.acc 1 (strTrs (v4)) 0]⟩], [⟨9, 1, strTrs (v4), false⟩]⟩⟩) (fun (i2, v4) => pall.length - i2) (0, ([])) ?_ ?_ ?_
    · exact rfl
    · skip
      exact Wk.mk (StLe.mk' ⟨⟨rfl, leA, rfl⟩, trivial⟩ (by first | rfl | simp)) (keeps_nil hC) ⟨⟨_, rfl, .refl _, rfl⟩, ⟨⟨_, rfl, .refl _, rfl⟩, ⟨⟨_, rfl, .refl _, rfl⟩, ⟨⟨_, rfl, .refl _, rfl⟩, ⟨⟨_, rfl, leA, rfl⟩, trivial⟩⟩⟩⟩⟩
    · rintro ⟨i2, v4⟩ hJ5
      refine AWP.seq ?_
      refine AWP.region_lit ?_
      refine AL.cons rfl (AOp.lss rfl rfl rfl rfl) ?_
      refine AL.nil ?_
      refine AWP.seq ?_
      refine AWP.cond rfl (fun h6 => ?_) (fun h6 => ?_)
      · skip
        have h6l : i2 < pall.length := nat_lt_of2 h6
        have h6n := nat_lt_of h6
        refine AWP.skip ?_
        refine AWP.seq ?_
        refine AWP.block ?_
        refine AWP.seq ?_
        refine AWP.region_lit ?_
        refine AL.cons rfl (AOp.index (k := i2) rfl rfl rfl rfl rfl (GType.trs_at h6n) el45) ?_
        refine AL.cons rfl (AOp.loadEptr (ds := [.leaf (.int .i64 ((atD pall i2).gKind)), .leaf (.string ((atD pall i2).gName)), .row 3 (GType.trs ((atD pall i2).gArgs))]) rfl rfl rfl sh47 rfl rfl) ?_
        refine AL.cons rfl (AOp.alloc rfl rfl zr47) ?_
        refine AL.cons rfl (AOp.storePtr (cs := [.t (.leaf (.int .i64 ((atD pall i2).gKind))), .t (.leaf (.string ((atD pall i2).gName))), .t (.row 3 (GType.trs ((atD pall i2).gArgs)))]) (ds := [.t (.leaf (.int .i64 ((atD pall i2).gKind))), .t (.leaf (.string ((atD pall i2).gName))), .t (.row 3 (GType.trs ((atD pall i2).gArgs)))]) rfl rfl rfl rfl rfl rfl rfl sz47 (Nat.le_of_ble_eq_true rfl) rfl) ?_
        refine AL.nil ?_
        refine AWP.region_lit ?_
        refine AL.cons rfl (AOp.loadPtr (cs := [.t (.leaf (.int .i64 ((atD pall i2).gKind))), .t (.leaf (.string ((atD pall i2).gName))), .t (.row 3 (GType.trs ((atD pall i2).gArgs)))]) rfl rfl rfl rfl sh47 rfl rfl) ?_
        refine AL.cons rfl (AOp.makeFunc (ps := [.ptr 0 0]) rfl rfl rfl) ?_
        rcases hq7 : ieachType__ivariablesOf_1_M fu (atD pall i2) v4 with _ | x8
        · skip
          have e9 : (ivariablesOf_F1 fu pall) i2 v4 = none := bdN hq7
          have e10 : ivariablesOf_R1 fu pall = none := loopN_non h6l hJ5 e9
          have e11 : ivariablesOf_M fu pall = none := soN e10
          exact none_some H e11
        · skip
          refine AL.cons rfl (AOp.callPE (pre := ⟨[some ⟨54, [.acc 1 (strTrs (v4)) 0]⟩], [⟨9, 1, strTrs (v4), false⟩]⟩) (st' := ⟨[some ⟨54, [.acc 1 (strTrs (x8)) 0]⟩], [⟨9, 1, strTrs (x8), false⟩]⟩) (ps := [_, _]) (qs := [(GType.pv (atD pall i2)), .fn 213 [.ptr 0 0]]) [0] [0] rfl rfl Tryz.func194 (by kernel_rfl) rfl rfl rfl (Part0.of ⟨⟨_, rfl, rfl, leA, rfl⟩, trivial⟩ ⟨rfl, trivial⟩ (by decide) (by decide)) leA rfl rfl rfl (ieachType__ivariablesOf_1_ok fu (atD pall i2) v4 _ hq7)) ?_
          refine AL.nil ?_
          refine AWP.region_lit ?_
          refine AL.cons rfl (AOp.addI rfl rfl rfl rfl (c := ((i2 + 1 : Nat) : Int)) (by omega) (by omega)) ?_
          refine AL.cons rfl (AOp.move (.inl rfl) rfl rfl) ?_
          refine AL.nil ?_
          have e12 : (ivariablesOf_F1 fu pall) i2 v4 = some (.next x8) := bdS hq7 (rfl)
          refine ⟨(i2 + 1, x8), loopN_next h6l hJ5 e12, ?_, ?_⟩
          · skip
            exact Wk.mk (StLe.mk' ⟨⟨rfl, leA, rfl⟩, trivial⟩ (by first | rfl | simp)) (keeps_nil hC) ⟨⟨_, rfl, .refl _, rfl⟩, ⟨⟨_, rfl, .refl _, rfl⟩, ⟨⟨_, rfl, .refl _, rfl⟩, ⟨⟨_, rfl, .refl _, rfl⟩, ⟨⟨_, rfl, leA, rfl⟩, trivial⟩⟩⟩⟩⟩
          · dsimp only; omega
      · skip
        have h6l : pall.length ≤ i2 := nat_ge_of2 h6
        refine AWP.exit ?_
        refine ⟨v4, loopN_end h6l hJ5, ?_⟩
        exact Wk.mk (StLe.mk' ⟨⟨rfl, leA, rfl⟩, trivial⟩ (by first | rfl | simp)) (keeps_nil hC) ⟨⟨_, rfl, .refl _, rfl⟩, ⟨⟨_, rfl, .refl _, rfl⟩, trivial⟩⟩
  · rintro v4 hR13
    refine AWP.seq ?_
    refine AWP.region_lit ?_
    refine AL.cons rfl (AOp.loadPtr1 rfl rfl rfl rfl sh54 rfl) ?_
    refine AL.cons rfl (AOp.move (.inr rfl) rfl rfl) ?_
    refine AL.nil ?_
    refine AWP.ret ?_
    have e14 : ivariablesOf_M fu pall = some v4 := soR hR13 (rfl)
    have hz : v4 = r := Option.some.inj (e14.symm.trans H)
    subst hz
    exact Ends.mk (ps := [_]) (by first | exact .inr rfl | exact .inl rfl) ⟨rfl, trivial⟩ rfl (StLe.mk' (st' := ⟨[], []⟩) trivial rfl) (keeps_nil hC) (q := (.t (.row 1 (strTrs (v4))) : PV)) leA rfl ⟨rfl, rfl⟩

noncomputable def iTypeVariables_M (fu : Nat)  (pt : GType) : Option ((List ByteArray)) :=
 bd (ivariablesOf_M fu ([pt] : List GType)) (fun x2 =>
 some x2)
set_option maxRecDepth 100000 in
set_option maxHeartbeats 4000000 in
theorem iTypeVariables_ok  (fu : Nat)  (pt : GType) (r : (List ByteArray)) (H : iTypeVariables_M fu pt = some r) : AFun Tryz.prog 148 [(GType.pv pt)] (.t (.row 1 (strTrs (r))) : PV) := by
  refine ACalls.intro Tryz.func148 rfl (by first | decide | (simp; done) | (simp; decide)) ?_
  intro C hC
  refine AWP.seq ?_
  refine AWP.region_lit ?_
  refine AL.cons rfl (AOp.box (cs := [.t (.leaf (.int .i64 (pt.gKind))), .t (.leaf (.string (pt.gName))), .t (.row 3 (GType.trs (pt.gArgs)))]) rfl rfl rfl rfl rfl) ?_
  refine AL.cons rfl (AOp.move (.inr rfl) rfl rfl) ?_
  refine AL.nil ?_
  refine AWP.seq ?_
  refine AWP.region_lit ?_
  refine AL.cons rfl (AOp.loadPtr (cs := [.t (.leaf (.int .i64 (pt.gKind))), .t (.leaf (.string (pt.gName))), .t (.row 3 (GType.trs (pt.gArgs)))]) rfl rfl rfl rfl sh47 rfl rfl) ?_
  refine AL.cons rfl (AOp.buildSliceE (es := [GType.cs pt]) (es' := GType.trs (([pt] : List GType))) (cs := [.t (.leaf (.int .i64 (pt.gKind))), .t (.leaf (.string (pt.gName))), .t (.row 3 (GType.trs (pt.gArgs)))]) rfl rfl el45 zr47 rfl rfl leA rfl (by simp [GType.cs]) (by decide) rfl (by decide) (by simp [GType.trs_map, GType.tr_cs])) ?_
  rcases hq1 : ivariablesOf_M fu ([pt] : List GType) with _ | x2
  · skip
    have e3 : iTypeVariables_M fu pt = none := bdN hq1
    exact none_some H e3
  · skip
    refine AL.cons rfl (AOp.callF (res := .t (.row 1 (strTrs (x2)))) (ps := [_]) rfl rfl Tryz.func193 (by kernel_rfl) rfl rfl leA rfl rfl (ivariablesOf_ok fu ([pt] : List GType) _ hq1)) ?_
    refine AL.cons rfl (AOp.move (.inr rfl) rfl rfl) ?_
    refine AL.nil ?_
    refine AWP.ret ?_
    have e4 : iTypeVariables_M fu pt = some x2 := bdS hq1 (rfl)
    have hz : x2 = r := Option.some.inj (e4.symm.trans H)
    subst hz
    exact Ends.mk (ps := [_]) (by first | exact .inr rfl | exact .inl rfl) ⟨rfl, trivial⟩ rfl (StLe.mk' (st' := ⟨[], []⟩) trivial rfl) (keeps_nil hC) (q := (.t (.row 1 (strTrs (x2))) : PV)) leA rfl ⟨rfl, rfl⟩

noncomputable def iHasProjection_1_M (fu : Nat)  (pu : GType) (c1 : Bool) : Option Bool :=
 sw (c1)
 (some true)
 (some (decide ((pu.gKind : Int) = 3)))
set_option maxRecDepth 100000 in
set_option maxHeartbeats 4000000 in
theorem iHasProjection_1_ok  (fu : Nat)  (pu : GType) (c1 : Bool) (r : Bool) (H : iHasProjection_1_M fu pu c1 = some r) : ACalls Tryz.prog 195 [(GType.pv pu), .ptr 0 0] ⟨[some ⟨4, [.t (.leaf (.bool (c1)))]⟩], []⟩ (fun q t => q = (.tup [] : PV) ∧ t = ⟨[some ⟨4, [.t (.leaf (.bool (r)))]⟩], []⟩) := by
  refine ACalls.intro Tryz.func195 rfl (by first | decide | (simp; done) | (simp; decide)) ?_
  intro C hC
  refine AWP.seq ?_
  refine AWP.region_lit ?_
  refine AL.cons rfl (AOp.box (cs := [.t (.leaf (.int .i64 (pu.gKind))), .t (.leaf (.string (pu.gName))), .t (.row 3 (GType.trs (pu.gArgs)))]) rfl rfl rfl rfl rfl) ?_
  refine AL.nil ?_
  refine AWP.region_lit ?_
  refine AL.cons rfl (AOp.loadPtr1 rfl rfl rfl rfl sh4 rfl) ?_
  refine AL.cons rfl (AOp.move (.inl rfl) rfl rfl) ?_
  refine AL.splitB 4 rfl (fun g1 => ?_) (fun g1 => ?_)
  · skip
    refine AL.skipP rfl rfl rfl g1 rfl rfl ?_
    refine AL.skipP rfl rfl rfl g1 rfl rfl ?_
    refine AL.skipP rfl rfl rfl g1 rfl rfl ?_
    refine AL.cons rfl (AOp.pickT rfl rfl rfl g1 rfl) ?_
    refine AL.cons rfl (AOp.storePtr (cs := [.t (.leaf (.bool (true)))]) (ds := [.t (.leaf (.bool (true)))]) rfl rfl rfl rfl rfl rfl rfl sz4 (Nat.le_of_ble_eq_true rfl) rfl) ?_
    refine AL.nil ?_
    have e2 : iHasProjection_1_M fu pu c1 = some true := swT g1 (rfl)
    have hz : true = r := Option.some.inj (e2.symm.trans H)
    subst hz
    exact Ends.mk (ps := []) (by first | exact .inr rfl | exact .inl rfl) trivial rfl (StLe.mk' (st' := ⟨[some ⟨4, [.t (.leaf (.bool (true)))]⟩], []⟩) ⟨⟨rfl, leA, rfl⟩, trivial⟩ rfl) (keeps_all hC (boxes1 rfl) (Nat.le_of_ble_eq_true rfl)) (q := (.tup [] : PV)) leA rfl ⟨rfl, rfl⟩
  · skip
    refine AL.cons_gv rfl rfl rfl g1 (AOp.fieldPtr (k := 1) (d := 0) (e := 0) rfl rfl rfl fo47_0) ?_
    refine AL.cons_gv rfl rfl rfl g1 (AOp.loadPtr1 rfl rfl rfl rfl sh3 rfl) ?_
    refine AL.cons_gv rfl rfl rfl g1 (AOp.eqlI rfl rfl rfl rfl) ?_
    refine AL.cons rfl (AOp.pickF rfl rfl rfl g1 rfl) ?_
    refine AL.cons rfl (AOp.storePtr (cs := [.t (.leaf (.bool (decide ((pu.gKind : Int) = 3))))]) (ds := [.t (.leaf (.bool (decide ((pu.gKind : Int) = 3))))]) rfl rfl rfl rfl rfl rfl rfl sz4 (Nat.le_of_ble_eq_true rfl) rfl) ?_
    refine AL.nil ?_
    have e3 : iHasProjection_1_M fu pu c1 = some (decide ((pu.gKind : Int) = 3)) := swF g1 (rfl)
    have hz : (decide ((pu.gKind : Int) = 3)) = r := Option.some.inj (e3.symm.trans H)
    subst hz
    exact Ends.mk (ps := []) (by first | exact .inr rfl | exact .inl rfl) trivial rfl (StLe.mk' (st' := ⟨[some ⟨4, [.t (.leaf (.bool ((decide ((pu.gKind : Int) = 3)))))]⟩], []⟩) ⟨⟨rfl, leA, rfl⟩, trivial⟩ rfl) (keeps_all hC (boxes1 rfl) (Nat.le_of_ble_eq_true rfl)) (q := (.tup [] : PV)) leA rfl ⟨rfl, rfl⟩

noncomputable def ieachType__iHasProjection_1_F1 (fu : Nat) (r_ieachType__iHasProjection_1 : GType → Bool → Option Bool) (pt : GType) (c1_0 : Bool) (x2 : Bool) : Nat → Bool → Option (LR Bool Bool) :=
 fun i5 v6 => bd (r_ieachType__iHasProjection_1 (atD pt.gArgs i5) v6) (fun x10 =>
 some (.next x10))
noncomputable def ieachType__iHasProjection_1_R1 (fu : Nat) (r_ieachType__iHasProjection_1 : GType → Bool → Option Bool) (pt : GType) (c1_0 : Bool) (x2 : Bool) : Option (Bool ⊕ Bool) :=
 loopN (ieachType__iHasProjection_1_F1 fu r_ieachType__iHasProjection_1 pt c1_0 x2) (pt.gArgs.length - 0) 0 x2
noncomputable def ieachType__iHasProjection_1_G (fu : Nat) (r_ieachType__iHasProjection_1 : GType → Bool → Option Bool) (pt : GType) (c1_0 : Bool) : Option Bool :=
 bd (iHasProjection_1_M fu pt c1_0) (fun x2 =>
 so (ieachType__iHasProjection_1_R1 fu r_ieachType__iHasProjection_1 pt c1_0 x2) (fun v6 =>
 some v6))
set_option maxRecDepth 100000 in
set_option maxHeartbeats 4000000 in
theorem ieachType__iHasProjection_1_step (r_ieachType__iHasProjection_1 : GType → Bool → Option Bool) (fu : Nat) (h_ieachType__iHasProjection_1 : ∀ (pt : GType) (c1_0 : Bool) (r : Bool), r_ieachType__iHasProjection_1 pt c1_0 = some r → ACalls Tryz.prog 194 [(GType.pv pt), .fn 195 [.ptr 0 0]] ⟨[some ⟨4, [.t (.leaf (.bool (c1_0)))]⟩], []⟩ (fun q t => q = (.tup [] : PV) ∧ t = ⟨[some ⟨4, [.t (.leaf (.bool (r)))]⟩], []⟩)) (pt : GType) (c1_0 : Bool) (r : Bool) (H : ieachType__iHasProjection_1_G fu r_ieachType__iHasProjection_1 pt c1_0 = some r) : ACalls Tryz.prog 194 [(GType.pv pt), .fn 195 [.ptr 0 0]] ⟨[some ⟨4, [.t (.leaf (.bool (c1_0)))]⟩], []⟩ (fun q t => q = (.tup [] : PV) ∧ t = ⟨[some ⟨4, [.t (.leaf (.bool (r)))]⟩], []⟩) := by
  refine ACalls.intro Tryz.func194 rfl (by first | decide | (simp; done) | (simp; decide)) ?_
  intro C hC
  refine AWP.seq ?_
  refine AWP.region_lit ?_
  refine AL.cons rfl (AOp.box (cs := [.t (.leaf (.int .i64 (pt.gKind))), .t (.leaf (.string (pt.gName))), .t (.row 3 (GType.trs (pt.gArgs)))]) rfl rfl rfl rfl rfl) ?_
  refine AL.nil ?_
  refine AWP.seq ?_
  refine AWP.region_lit ?_
  refine AL.cons rfl (AOp.move (.inl rfl) rfl rfl) ?_
  refine AL.cons rfl (AOp.loadPtr (cs := [.t (.leaf (.int .i64 (pt.gKind))), .t (.leaf (.string (pt.gName))), .t (.row 3 (GType.trs (pt.gArgs)))]) rfl rfl rfl rfl sh47 rfl rfl) ?_
  rcases hq1 : iHasProjection_1_M fu pt c1_0 with _ | x2
  · skip
    have e3 : ieachType__iHasProjection_1_G fu r_ieachType__iHasProjection_1 pt c1_0 = none := bdN hq1
    exact none_some H e3
  · skip
    refine AL.cons rfl (AOp.callVPE (pre := ⟨[some ⟨4, [.t (.leaf (.bool (c1_0)))]⟩], []⟩) (st' := ⟨[some ⟨4, [.t (.leaf (.bool (x2)))]⟩], []⟩) (ps := [_]) (cs := [.ptr 0 0]) (qs := [(GType.pv pt), .ptr 0 0]) [0] [] rfl rfl rfl Tryz.func195 (by kernel_rfl) rfl rfl rfl (Part0.of ⟨⟨_, rfl, rfl, leA, rfl⟩, trivial⟩ trivial (by decide) (by decide)) leA rfl rfl rfl (iHasProjection_1_ok fu pt c1_0 _ hq1)) ?_
    refine AL.nil ?_
    refine AWP.seq ?_
    refine AWP.region_lit ?_
    refine AL.cons rfl (AOp.fieldPtr (k := 1) (d := 0) (e := 2) rfl rfl rfl fo47_2) ?_
    refine AL.cons rfl (AOp.loadPtr1 rfl rfl rfl rfl sh45 rfl) ?_
    refine AL.fact (lk_lenN 10 rfl rfl (GType.trs_len _)) (fun hl4 => ?_)
    refine AL.cons rfl (AOp.lenN rfl rfl rfl rfl el45 (GType.trs_len _)) ?_
    refine AL.cons rfl (AOp.move (.inl rfl) rfl rfl) ?_
    refine AL.nil ?_
    refine AWP.cut (ι := Bool) (fun v6 => ieachType__iHasProjection_1_R1 fu r_ieachType__iHasProjection_1 pt c1_0 x2 = some (.inr v6)) (fun v6 => ⟨[], ⟨[some ⟨4, [.t (.leaf (.bool (v6)))]⟩, some ⟨47, [.t (.leaf (.int .i64 (pt.gKind))), .t (.leaf (.string (pt.gName))), .t (.row 3 (GType.trs (pt.gArgs)))]⟩], []⟩⟩) (by repeat' (first | exact qcEnds | exact ncAWP | exact ncRound | exact ncEx | apply qcThen | apply qcBlock | apply qcCut)) ?_ ?_
    · skip
      refine AWP.block ?_
      refine AWP.loopR (ι := Nat × Bool) (fun (i5, v6) => ieachType__iHasProjection_1_R1 fu r_ieachType__iHasProjection_1 pt c1_0 x2 = loopN (ieachType__iHasProjection_1_F1 fu r_ieachType__iHasProjection_1 pt c1_0 x2) (pt.gArgs.length - i5) i5 v6) (fun (i5, v6) => ⟨[(1, .fn 195 [.ptr 0 0]), (10, .t (.row 3 (GType.trs (pt.gArgs)))), (11, .t (.leaf (.int .i64 (((pt.gArgs.length : Nat) : Int))))), (12, .t (.leaf (.int .i64 (((i5 : Nat) : Int)))))], ⟨[some ⟨4, [.t (.leaf (.bool (v6)))]⟩, some ⟨47, [.t (.leaf (.int .i64 (pt.gKind))), .t (.leaf (.string (pt.gName))), .t (.row 3 (GType.trs (pt.gArgs)))]⟩], []⟩⟩) (fun (i5, v6) => pt.gArgs.length - i5) (0, x2) ?_ ?_ ?_
      · exact rfl
      · skip
        exact Wk.mk (StLe.mk' ⟨⟨rfl, leA, rfl⟩, ⟨⟨rfl, leA, rfl⟩, trivial⟩⟩ rfl) (keeps_all hC (boxes1 rfl) (Nat.le_of_ble_eq_true rfl)) ⟨⟨_, rfl, .refl _, rfl⟩, ⟨⟨_, rfl, .refl _, rfl⟩, ⟨⟨_, rfl, .refl _, rfl⟩, ⟨⟨_, rfl, leA, rfl⟩, trivial⟩⟩⟩⟩
      · rintro ⟨i5, v6⟩ hJ7
        refine AWP.seq ?_
        refine AWP.region_lit ?_
        refine AL.cons rfl (AOp.lss rfl rfl rfl rfl) ?_
        refine AL.nil ?_
        refine AWP.seq ?_
        refine AWP.cond rfl (fun h8 => ?_) (fun h8 => ?_)
        · skip
          have h8l : i5 < pt.gArgs.length := nat_lt_of2 h8
          have h8n := nat_lt_of h8
          refine AWP.skip ?_
          refine AWP.seq ?_
          refine AWP.block ?_
          refine AWP.seq ?_
          refine AWP.region_lit ?_
          refine AL.cons rfl (AOp.index (k := i5) rfl rfl rfl rfl rfl (GType.trs_at h8n) el45) ?_
          refine AL.cons rfl (AOp.loadEptr (ds := [.leaf (.int .i64 ((atD pt.gArgs i5).gKind)), .leaf (.string ((atD pt.gArgs i5).gName)), .row 3 (GType.trs ((atD pt.gArgs i5).gArgs))]) rfl rfl rfl sh47 rfl rfl) ?_
          refine AL.cons rfl (AOp.alloc rfl rfl zr47) ?_
          refine AL.cons rfl (AOp.storePtr (cs := [.t (.leaf (.int .i64 ((atD pt.gArgs i5).gKind))), .t (.leaf (.string ((atD pt.gArgs i5).gName))), .t (.row 3 (GType.trs ((atD pt.gArgs i5).gArgs)))]) (ds := [.t (.leaf (.int .i64 ((atD pt.gArgs i5).gKind))), .t (.leaf (.string ((atD pt.gArgs i5).gName))), .t (.row 3 (GType.trs ((atD pt.gArgs i5).gArgs)))]) rfl rfl rfl rfl rfl rfl rfl sz47 (Nat.le_of_ble_eq_true rfl) rfl) ?_
          refine AL.nil ?_
          refine AWP.region_lit ?_
          refine AL.cons rfl (AOp.loadPtr (cs := [.t (.leaf (.int .i64 ((atD pt.gArgs i5).gKind))), .t (.leaf (.string ((atD pt.gArgs i5).gName))), .t (.row 3 (GType.trs ((atD pt.gArgs i5).gArgs)))]) rfl rfl rfl rfl sh47 rfl rfl) ?_
          refine AL.cons rfl (AOp.move (.inl rfl) rfl rfl) ?_
          rcases hq9 : r_ieachType__iHasProjection_1 (atD pt.gArgs i5) v6 with _ | x10
          · skip
            have e11 : (ieachType__iHasProjection_1_F1 fu r_ieachType__iHasProjection_1 pt c1_0 x2) i5 v6 = none := bdN hq9
            have e12 : ieachType__iHasProjection_1_R1 fu r_ieachType__iHasProjection_1 pt c1_0 x2 = none := loopN_non h8l hJ7 e11
            have e13 : ieachType__iHasProjection_1_G fu r_ieachType__iHasProjection_1 pt c1_0 = none := bdS hq1 (soN e12)
            exact none_some H e13
          · skip
            refine AL.cons rfl (AOp.callPE (pre := ⟨[some ⟨4, [.t (.leaf (.bool (v6)))]⟩], []⟩) (st' := ⟨[some ⟨4, [.t (.leaf (.bool (x10)))]⟩], []⟩) (ps := [_, _]) (qs := [(GType.pv (atD pt.gArgs i5)), .fn 195 [.ptr 0 0]]) [0] [] rfl rfl Tryz.func194 (by kernel_rfl) rfl rfl rfl (Part0.of ⟨⟨_, rfl, rfl, leA, rfl⟩, trivial⟩ trivial (by decide) (by decide)) leA rfl rfl rfl (h_ieachType__iHasProjection_1 (atD pt.gArgs i5) v6 _ hq9)) ?_
            refine AL.nil ?_
            refine AWP.region_lit ?_
            refine AL.cons rfl (AOp.addI rfl rfl rfl rfl (c := ((i5 + 1 : Nat) : Int)) (by omega) (by omega)) ?_
            refine AL.cons rfl (AOp.move (.inl rfl) rfl rfl) ?_
            refine AL.nil ?_
            have e14 : (ieachType__iHasProjection_1_F1 fu r_ieachType__iHasProjection_1 pt c1_0 x2) i5 v6 = some (.next x10) := bdS hq9 (rfl)
            refine ⟨(i5 + 1, x10), loopN_next h8l hJ7 e14, ?_, ?_⟩
            · skip
              exact Wk.mk (StLe.mk' ⟨⟨rfl, leA, rfl⟩, ⟨⟨rfl, leA, rfl⟩, trivial⟩⟩ rfl) (keeps_all hC (boxes1 rfl) (Nat.le_of_ble_eq_true rfl)) ⟨⟨_, rfl, .refl _, rfl⟩, ⟨⟨_, rfl, .refl _, rfl⟩, ⟨⟨_, rfl, .refl _, rfl⟩, ⟨⟨_, rfl, leA, rfl⟩, trivial⟩⟩⟩⟩
            · dsimp only; omega
        · skip
          have h8l : pt.gArgs.length ≤ i5 := nat_ge_of2 h8
          refine AWP.exit ?_
          refine ⟨v6, loopN_end h8l hJ7, ?_⟩
          exact Wk.mk (StLe.mk' ⟨⟨rfl, leA, rfl⟩, ⟨⟨rfl, leA, rfl⟩, trivial⟩⟩ rfl) (keeps_all hC (boxes1 rfl) (Nat.le_of_ble_eq_true rfl)) trivial
    · rintro v6 hR15
      have e16 : ieachType__iHasProjection_1_G fu r_ieachType__iHasProjection_1 pt c1_0 = some v6 := bdS hq1 (soR hR15 (rfl))
      have hz : v6 = r := Option.some.inj (e16.symm.trans H)
      subst hz
      exact Ends.mk (ps := []) (by first | exact .inr rfl | exact .inl rfl) trivial rfl (StLe.mk' (st' := ⟨[some ⟨4, [.t (.leaf (.bool (v6)))]⟩], []⟩) ⟨⟨rfl, leA, rfl⟩, trivial⟩ rfl) (keeps_all hC (boxes1 rfl) (Nat.le_of_ble_eq_true rfl)) (q := (.tup [] : PV)) leA rfl ⟨rfl, rfl⟩
noncomputable def ieachType__iHasProjection_1_M : Nat → GType → Bool → Option Bool
  | 0, _, _ => none
  | fu + 1, pt, c1_0 => ieachType__iHasProjection_1_G fu (ieachType__iHasProjection_1_M fu) pt c1_0
theorem ieachType__iHasProjection_1_all (fu : Nat) : (∀ (pt : GType) (c1_0 : Bool) (r : Bool), ieachType__iHasProjection_1_M fu pt c1_0 = some r → ACalls Tryz.prog 194 [(GType.pv pt), .fn 195 [.ptr 0 0]] ⟨[some ⟨4, [.t (.leaf (.bool (c1_0)))]⟩], []⟩ (fun q t => q = (.tup [] : PV) ∧ t = ⟨[some ⟨4, [.t (.leaf (.bool (r)))]⟩], []⟩)) := by
  induction fu with
  | zero => exact (fun pt c1_0 r H => by simp only [ieachType__iHasProjection_1_M] at H; cases H)
  | succ fu ih => exact (fun pt c1_0 r H => by simp only [ieachType__iHasProjection_1_M] at H; exact ieachType__iHasProjection_1_step (ieachType__iHasProjection_1_M fu) fu ih pt c1_0 r H)
theorem ieachType__iHasProjection_1_ok (fu : Nat) (pt : GType) (c1_0 : Bool) (r : Bool) (H : ieachType__iHasProjection_1_M fu pt c1_0 = some r) : ACalls Tryz.prog 194 [(GType.pv pt), .fn 195 [.ptr 0 0]] ⟨[some ⟨4, [.t (.leaf (.bool (c1_0)))]⟩], []⟩ (fun q t => q = (.tup [] : PV) ∧ t = ⟨[some ⟨4, [.t (.leaf (.bool (r)))]⟩], []⟩) := (ieachType__iHasProjection_1_all fu) pt c1_0 r H

noncomputable def iHasProjection_M (fu : Nat)  (pt : GType) : Option Bool :=
 bd (ieachType__iHasProjection_1_M fu pt false) (fun x2 =>
 some x2)
set_option maxRecDepth 100000 in
set_option maxHeartbeats 4000000 in
theorem iHasProjection_ok  (fu : Nat)  (pt : GType) (r : Bool) (H : iHasProjection_M fu pt = some r) : AFun Tryz.prog 149 [(GType.pv pt)] (.t (.leaf (.bool (r))) : PV) := by
  refine ACalls.intro Tryz.func149 rfl (by first | decide | (simp; done) | (simp; decide)) ?_
  intro C hC
  refine AWP.seq ?_
  refine AWP.region_lit ?_
  refine AL.cons rfl (AOp.box (cs := [.t (.leaf (.int .i64 (pt.gKind))), .t (.leaf (.string (pt.gName))), .t (.row 3 (GType.trs (pt.gArgs)))]) rfl rfl rfl rfl rfl) ?_
  refine AL.cons rfl (AOp.move (.inr rfl) rfl rfl) ?_
  refine AL.nil ?_
  refine AWP.seq ?_
  refine AWP.region_lit ?_
  refine AL.cons rfl (AOp.alloc rfl rfl zr4) ?_
  refine AL.cons rfl (AOp.storePtr (cs := [.t (.leaf (.bool (false)))]) (ds := [.t (.leaf (.bool (false)))]) rfl rfl rfl rfl rfl rfl rfl sz4 (Nat.le_of_ble_eq_true rfl) rfl) ?_
  refine AL.nil ?_
  refine AWP.seq ?_
  refine AWP.region_lit ?_
  refine AL.cons rfl (AOp.loadPtr (cs := [.t (.leaf (.int .i64 (pt.gKind))), .t (.leaf (.string (pt.gName))), .t (.row 3 (GType.trs (pt.gArgs)))]) rfl rfl rfl rfl sh47 rfl rfl) ?_
  refine AL.cons rfl (AOp.makeFunc (ps := [.ptr 1 0]) rfl rfl rfl) ?_
  rcases hq1 : ieachType__iHasProjection_1_M fu pt false with _ | x2
  · skip
    have e3 : iHasProjection_M fu pt = none := bdN hq1
    exact none_some H e3
  · skip
    refine AL.cons rfl (AOp.callPE (pre := ⟨[some ⟨4, [.t (.leaf (.bool (false)))]⟩], []⟩) (st' := ⟨[some ⟨4, [.t (.leaf (.bool (x2)))]⟩], []⟩) (ps := [_, _]) (qs := [(GType.pv pt), .fn 195 [.ptr 0 0]]) [1] [] rfl rfl Tryz.func194 (by kernel_rfl) rfl rfl rfl (Part0.of ⟨⟨_, rfl, rfl, leA, rfl⟩, trivial⟩ trivial (by decide) (by decide)) leA rfl rfl rfl (ieachType__iHasProjection_1_ok fu pt false _ hq1)) ?_
    refine AL.nil ?_
    refine AWP.seq ?_
    refine AWP.region_lit ?_
    refine AL.cons rfl (AOp.loadPtr1 rfl rfl rfl rfl sh4 rfl) ?_
    refine AL.cons rfl (AOp.move (.inr rfl) rfl rfl) ?_
    refine AL.nil ?_
    refine AWP.ret ?_
    have e4 : iHasProjection_M fu pt = some x2 := bdS hq1 (rfl)
    have hz : x2 = r := Option.some.inj (e4.symm.trans H)
    subst hz
    exact Ends.mk (ps := [_]) (by first | exact .inr rfl | exact .inl rfl) ⟨rfl, trivial⟩ rfl (StLe.mk' (st' := ⟨[], []⟩) trivial rfl) (keeps_nil hC) (q := (.t (.leaf (.bool (x2))) : PV)) leA rfl ⟨rfl, rfl⟩

noncomputable def iIsGround_M (fu : Nat)  (pt : GType) : Option Bool :=
 bd (iTypeVariables_M fu pt) (fun x2 =>
 sw (decide ((((x2.length : Nat) : Int) : Int) = 0))
 (bd (iHasProjection_M fu pt) (fun x6 =>
 some (!(x6))))
 (some false))
set_option maxRecDepth 100000 in
set_option maxHeartbeats 4000000 in
theorem iIsGround_ok  (fu : Nat)  (pt : GType) (r : Bool) (H : iIsGround_M fu pt = some r) : AFun Tryz.prog 90 [(GType.pv pt)] (.t (.leaf (.bool (r))) : PV) := by
  refine ACalls.intro Tryz.func90 rfl (by first | decide | (simp; done) | (simp; decide)) ?_
  intro C hC
  refine AWP.seq ?_
  refine AWP.region_lit ?_
  refine AL.cons rfl (AOp.box (cs := [.t (.leaf (.int .i64 (pt.gKind))), .t (.leaf (.string (pt.gName))), .t (.row 3 (GType.trs (pt.gArgs)))]) rfl rfl rfl rfl rfl) ?_
  refine AL.cons rfl (AOp.move (.inr rfl) rfl rfl) ?_
  refine AL.nil ?_
  refine AWP.seq ?_
  refine AWP.region_lit ?_
  refine AL.cons rfl (AOp.loadPtr (cs := [.t (.leaf (.int .i64 (pt.gKind))), .t (.leaf (.string (pt.gName))), .t (.row 3 (GType.trs (pt.gArgs)))]) rfl rfl rfl rfl sh47 rfl rfl) ?_
  rcases hq1 : iTypeVariables_M fu pt with _ | x2
  · skip
    have e3 : iIsGround_M fu pt = none := bdN hq1
    exact none_some H e3
  · skip
    refine AL.cons rfl (AOp.callF (res := .t (.row 1 (strTrs (x2)))) (ps := [_]) rfl rfl Tryz.func148 (by kernel_rfl) rfl rfl leA rfl rfl (iTypeVariables_ok fu pt _ hq1)) ?_
    refine AL.cons rfl (AOp.lenN rfl rfl rfl rfl el54 (strTrs_len _)) ?_
    refine AL.cons rfl (AOp.eqlI rfl rfl rfl rfl) ?_
    refine AL.cons rfl (AOp.move (.inl rfl) rfl rfl) ?_
    refine AL.splitB 7 rfl (fun g4 => ?_) (fun g4 => ?_)
    · skip
      refine AL.cons_gv rfl rfl rfl g4 (AOp.loadPtr (cs := [.t (.leaf (.int .i64 (pt.gKind))), .t (.leaf (.string (pt.gName))), .t (.row 3 (GType.trs (pt.gArgs)))]) rfl rfl rfl rfl sh47 rfl rfl) ?_
      rcases hq5 : iHasProjection_M fu pt with _ | x6
      · skip
        have e7 : iIsGround_M fu pt = none := bdS hq1 (swT g4 (bdN hq5))
        exact none_some H e7
      · skip
        refine AL.cons_gv rfl rfl rfl g4 (AOp.callF (res := .t (.leaf (.bool (x6)))) (ps := [_]) rfl rfl Tryz.func149 (by kernel_rfl) rfl rfl leA rfl rfl (iHasProjection_ok fu pt _ hq5)) ?_
        refine AL.cons_gv rfl rfl rfl g4 (AOp.notB rfl rfl rfl) ?_
        refine AL.cons rfl (AOp.pickT rfl rfl rfl g4 rfl) ?_
        refine AL.cons rfl (AOp.move (.inr rfl) rfl rfl) ?_
        refine AL.nil ?_
        refine AWP.ret ?_
        have e8 : iIsGround_M fu pt = some (!(x6)) := bdS hq1 (swT g4 (bdS hq5 (rfl)))
        have hz : (!(x6)) = r := Option.some.inj (e8.symm.trans H)
        subst hz
        exact Ends.mk (ps := [_]) (by first | exact .inr rfl | exact .inl rfl) ⟨rfl, trivial⟩ rfl (StLe.mk' (st' := ⟨[], []⟩) trivial rfl) (keeps_nil hC) (q := (.t (.leaf (.bool ((!(x6))))) : PV)) leA rfl ⟨rfl, rfl⟩
    · skip
      refine AL.skipP rfl rfl rfl g4 rfl rfl ?_
      refine AL.skipP rfl rfl rfl g4 rfl rfl ?_
      refine AL.skipP rfl rfl rfl g4 rfl rfl ?_
      refine AL.cons rfl (AOp.pickF rfl rfl rfl g4 rfl) ?_
      refine AL.cons rfl (AOp.move (.inr rfl) rfl rfl) ?_
      refine AL.nil ?_
      refine AWP.ret ?_
      have e9 : iIsGround_M fu pt = some false := bdS hq1 (swF g4 (rfl))
      have hz : false = r := Option.some.inj (e9.symm.trans H)
      subst hz
      exact Ends.mk (ps := [_]) (by first | exact .inr rfl | exact .inl rfl) ⟨rfl, trivial⟩ rfl (StLe.mk' (st' := ⟨[], []⟩) trivial rfl) (keeps_nil hC) (q := (.t (.leaf (.bool (false))) : PV)) leA rfl ⟨rfl, rfl⟩

noncomputable def sAtLeastAsSpecific_M (fu : Nat)  (pa : GType) (pb : GType) : Option Bool :=
 gd (Tr.bulkL (GType.tr pb) ≤ 68719476735)
 (gd (Tr.bulkL (GType.tr pa) ≤ 68719476735)
 (some (matchB pb pa)))
set_option maxRecDepth 100000 in
set_option maxHeartbeats 4000000 in
theorem sAtLeastAsSpecific_ok  (fu : Nat)  (pa : GType) (pb : GType) (r : Bool) (H : sAtLeastAsSpecific_M fu pa pb = some r) : AFun Tryz.prog 144 [(GType.pv pa), (GType.pv pb)] (.t (.leaf (.bool (r))) : PV) := by
  refine ACalls.intro Tryz.func144 rfl (by first | decide | (simp; done) | (simp; decide)) ?_
  intro C hC
  refine AWP.seq ?_
  refine AWP.region_lit ?_
  refine AL.cons rfl (AOp.box (cs := [.t (.leaf (.int .i64 (pa.gKind))), .t (.leaf (.string (pa.gName))), .t (.row 3 (GType.trs (pa.gArgs)))]) rfl rfl rfl rfl rfl) ?_
  refine AL.cons rfl (AOp.box (cs := [.t (.leaf (.int .i64 (pb.gKind))), .t (.leaf (.string (pb.gName))), .t (.row 3 (GType.trs (pb.gArgs)))]) rfl rfl rfl rfl rfl) ?_
  refine AL.cons rfl (AOp.move (.inr rfl) rfl rfl) ?_
  refine AL.nil ?_
  refine AWP.seq ?_
  refine AWP.region_lit ?_
  refine AL.cons rfl (AOp.loadPtr (cs := [.t (.leaf (.int .i64 (pb.gKind))), .t (.leaf (.string (pb.gName))), .t (.row 3 (GType.trs (pb.gArgs)))]) rfl rfl rfl rfl sh47 rfl rfl) ?_
  refine AL.cons rfl (AOp.loadPtr (cs := [.t (.leaf (.int .i64 (pa.gKind))), .t (.leaf (.string (pa.gName))), .t (.row 3 (GType.trs (pa.gArgs)))]) rfl rfl rfl rfl sh47 rfl rfl) ?_
  rcases Classical.em (Tr.bulkL (GType.tr pb) ≤ 68719476735) with hg1 | hg1
  · skip
    rcases Classical.em (Tr.bulkL (GType.tr pa) ≤ 68719476735) with hg2 | hg2
    · skip
      refine AL.cons rfl (AOp.callF (res := .t (.leaf (.bool (matchB pb pa)))) (ps := [_, _]) rfl rfl Tryz.func113 (by kernel_rfl) rfl rfl leA rfl rfl (sMatches_fn pb pa hg1 hg2)) ?_
      refine AL.cons rfl (AOp.move (.inr rfl) rfl rfl) ?_
      refine AL.nil ?_
      refine AWP.ret ?_
      have e3 : sAtLeastAsSpecific_M fu pa pb = some (matchB pb pa) := gdT hg1 (gdT hg2 (rfl))
      have hz : (matchB pb pa) = r := Option.some.inj (e3.symm.trans H)
      subst hz
      exact Ends.mk (ps := [_]) (by first | exact .inr rfl | exact .inl rfl) ⟨rfl, trivial⟩ rfl (StLe.mk' (st' := ⟨[], []⟩) trivial rfl) (keeps_nil hC) (q := (.t (.leaf (.bool ((matchB pb pa)))) : PV)) leA rfl ⟨rfl, rfl⟩
    · skip
      have e4 : sAtLeastAsSpecific_M fu pa pb = none := gdT hg1 (gdF hg2)
      exact none_some H e4
  · skip
    have e5 : sAtLeastAsSpecific_M fu pa pb = none := gdF hg1
    exact none_some H e5

noncomputable def sMoreSpecific_M (fu : Nat)  (pa : GType) (pb : GType) : Option Bool :=
 bd (sAtLeastAsSpecific_M fu pa pb) (fun x2 =>
 sw (x2)
 (bd (sAtLeastAsSpecific_M fu pb pa) (fun x6 =>
 some (!(x6))))
 (some false))
set_option maxRecDepth 100000 in
set_option maxHeartbeats 4000000 in
theorem sMoreSpecific_ok  (fu : Nat)  (pa : GType) (pb : GType) (r : Bool) (H : sMoreSpecific_M fu pa pb = some r) : AFun Tryz.prog 85 [(GType.pv pa), (GType.pv pb)] (.t (.leaf (.bool (r))) : PV) := by
  refine ACalls.intro Tryz.func85 rfl (by first | decide | (simp; done) | (simp; decide)) ?_
  intro C hC
  refine AWP.seq ?_
  refine AWP.region_lit ?_
  refine AL.cons rfl (AOp.box (cs := [.t (.leaf (.int .i64 (pa.gKind))), .t (.leaf (.string (pa.gName))), .t (.row 3 (GType.trs (pa.gArgs)))]) rfl rfl rfl rfl rfl) ?_
  refine AL.cons rfl (AOp.box (cs := [.t (.leaf (.int .i64 (pb.gKind))), .t (.leaf (.string (pb.gName))), .t (.row 3 (GType.trs (pb.gArgs)))]) rfl rfl rfl rfl rfl) ?_
  refine AL.cons rfl (AOp.move (.inr rfl) rfl rfl) ?_
  refine AL.nil ?_
  refine AWP.seq ?_
  refine AWP.region_lit ?_
  refine AL.cons rfl (AOp.loadPtr (cs := [.t (.leaf (.int .i64 (pa.gKind))), .t (.leaf (.string (pa.gName))), .t (.row 3 (GType.trs (pa.gArgs)))]) rfl rfl rfl rfl sh47 rfl rfl) ?_
  refine AL.cons rfl (AOp.loadPtr (cs := [.t (.leaf (.int .i64 (pb.gKind))), .t (.leaf (.string (pb.gName))), .t (.row 3 (GType.trs (pb.gArgs)))]) rfl rfl rfl rfl sh47 rfl rfl) ?_
  rcases hq1 : sAtLeastAsSpecific_M fu pa pb with _ | x2
  · skip
    have e3 : sMoreSpecific_M fu pa pb = none := bdN hq1
    exact none_some H e3
  · skip
    refine AL.cons rfl (AOp.callF (res := .t (.leaf (.bool (x2)))) (ps := [_, _]) rfl rfl Tryz.func144 (by kernel_rfl) rfl rfl leA rfl rfl (sAtLeastAsSpecific_ok fu pa pb _ hq1)) ?_
    refine AL.cons rfl (AOp.move (.inl rfl) rfl rfl) ?_
    refine AL.splitB 8 rfl (fun g4 => ?_) (fun g4 => ?_)
    · skip
      refine AL.cons_gv rfl rfl rfl g4 (AOp.loadPtr (cs := [.t (.leaf (.int .i64 (pb.gKind))), .t (.leaf (.string (pb.gName))), .t (.row 3 (GType.trs (pb.gArgs)))]) rfl rfl rfl rfl sh47 rfl rfl) ?_
      refine AL.cons_gv rfl rfl rfl g4 (AOp.loadPtr (cs := [.t (.leaf (.int .i64 (pa.gKind))), .t (.leaf (.string (pa.gName))), .t (.row 3 (GType.trs (pa.gArgs)))]) rfl rfl rfl rfl sh47 rfl rfl) ?_
      rcases hq5 : sAtLeastAsSpecific_M fu pb pa with _ | x6
      · skip
        have e7 : sMoreSpecific_M fu pa pb = none := bdS hq1 (swT g4 (bdN hq5))
        exact none_some H e7
      · skip
        refine AL.cons_gv rfl rfl rfl g4 (AOp.callF (res := .t (.leaf (.bool (x6)))) (ps := [_, _]) rfl rfl Tryz.func144 (by kernel_rfl) rfl rfl leA rfl rfl (sAtLeastAsSpecific_ok fu pb pa _ hq5)) ?_
        refine AL.cons_gv rfl rfl rfl g4 (AOp.notB rfl rfl rfl) ?_
        refine AL.cons rfl (AOp.pickT rfl rfl rfl g4 rfl) ?_
        refine AL.cons rfl (AOp.move (.inr rfl) rfl rfl) ?_
        refine AL.nil ?_
        refine AWP.ret ?_
        have e8 : sMoreSpecific_M fu pa pb = some (!(x6)) := bdS hq1 (swT g4 (bdS hq5 (rfl)))
        have hz : (!(x6)) = r := Option.some.inj (e8.symm.trans H)
        subst hz
        exact Ends.mk (ps := [_]) (by first | exact .inr rfl | exact .inl rfl) ⟨rfl, trivial⟩ rfl (StLe.mk' (st' := ⟨[], []⟩) trivial rfl) (keeps_nil hC) (q := (.t (.leaf (.bool ((!(x6))))) : PV)) leA rfl ⟨rfl, rfl⟩
    · skip
      refine AL.skipP rfl rfl rfl g4 rfl rfl ?_
      refine AL.skipP rfl rfl rfl g4 rfl rfl ?_
      refine AL.skipP rfl rfl rfl g4 rfl rfl ?_
      refine AL.skipP rfl rfl rfl g4 rfl rfl ?_
      refine AL.cons rfl (AOp.pickF rfl rfl rfl g4 rfl) ?_
      refine AL.cons rfl (AOp.move (.inr rfl) rfl rfl) ?_
      refine AL.nil ?_
      refine AWP.ret ?_
      have e9 : sMoreSpecific_M fu pa pb = some false := bdS hq1 (swF g4 (rfl))
      have hz : false = r := Option.some.inj (e9.symm.trans H)
      subst hz
      exact Ends.mk (ps := [_]) (by first | exact .inr rfl | exact .inl rfl) ⟨rfl, trivial⟩ rfl (StLe.mk' (st' := ⟨[], []⟩) trivial rfl) (keeps_nil hC) (q := (.t (.leaf (.bool (false))) : PV)) leA rfl ⟨rfl, rfl⟩

noncomputable def iMoreSpecific_M (fu : Nat)  (pa : GType) (pb : GType) : Option Bool :=
 gd (Tr.bulkL (GType.tr pb) ≤ 68719476735)
 (gd (Tr.bulkL (GType.tr pa) ≤ 68719476735)
 (sw (matchB pb pa)
 (some (!(matchB pa pb)))
 (some false)))
set_option maxRecDepth 100000 in
set_option maxHeartbeats 4000000 in
theorem iMoreSpecific_ok  (fu : Nat)  (pa : GType) (pb : GType) (r : Bool) (H : iMoreSpecific_M fu pa pb = some r) : AFun Tryz.prog 89 [(GType.pv pa), (GType.pv pb)] (.t (.leaf (.bool (r))) : PV) := by
  refine ACalls.intro Tryz.func89 rfl (by first | decide | (simp; done) | (simp; decide)) ?_
  intro C hC
  refine AWP.seq ?_
  refine AWP.region_lit ?_
  refine AL.cons rfl (AOp.box (cs := [.t (.leaf (.int .i64 (pa.gKind))), .t (.leaf (.string (pa.gName))), .t (.row 3 (GType.trs (pa.gArgs)))]) rfl rfl rfl rfl rfl) ?_
  refine AL.cons rfl (AOp.box (cs := [.t (.leaf (.int .i64 (pb.gKind))), .t (.leaf (.string (pb.gName))), .t (.row 3 (GType.trs (pb.gArgs)))]) rfl rfl rfl rfl rfl) ?_
  refine AL.cons rfl (AOp.move (.inr rfl) rfl rfl) ?_
  refine AL.nil ?_
  refine AWP.seq ?_
  refine AWP.region_lit ?_
  refine AL.cons rfl (AOp.loadPtr (cs := [.t (.leaf (.int .i64 (pb.gKind))), .t (.leaf (.string (pb.gName))), .t (.row 3 (GType.trs (pb.gArgs)))]) rfl rfl rfl rfl sh47 rfl rfl) ?_
  refine AL.cons rfl (AOp.loadPtr (cs := [.t (.leaf (.int .i64 (pa.gKind))), .t (.leaf (.string (pa.gName))), .t (.row 3 (GType.trs (pa.gArgs)))]) rfl rfl rfl rfl sh47 rfl rfl) ?_
  rcases Classical.em (Tr.bulkL (GType.tr pb) ≤ 68719476735) with hg1 | hg1
  · skip
    rcases Classical.em (Tr.bulkL (GType.tr pa) ≤ 68719476735) with hg2 | hg2
    · skip
      refine AL.cons rfl (AOp.callF (res := .t (.leaf (.bool (matchB pb pa)))) (ps := [_, _]) rfl rfl Tryz.func115 (by kernel_rfl) rfl rfl leA rfl rfl (iMatches_fn pb pa hg1 hg2)) ?_
      refine AL.cons rfl (AOp.move (.inl rfl) rfl rfl) ?_
      refine AL.splitB 8 rfl (fun g3 => ?_) (fun g3 => ?_)
      · skip
        refine AL.cons_gv rfl rfl rfl g3 (AOp.loadPtr (cs := [.t (.leaf (.int .i64 (pa.gKind))), .t (.leaf (.string (pa.gName))), .t (.row 3 (GType.trs (pa.gArgs)))]) rfl rfl rfl rfl sh47 rfl rfl) ?_
        refine AL.cons_gv rfl rfl rfl g3 (AOp.loadPtr (cs := [.t (.leaf (.int .i64 (pb.gKind))), .t (.leaf (.string (pb.gName))), .t (.row 3 (GType.trs (pb.gArgs)))]) rfl rfl rfl rfl sh47 rfl rfl) ?_
        refine AL.cons_gv rfl rfl rfl g3 (AOp.callF (res := .t (.leaf (.bool (matchB pa pb)))) (ps := [_, _]) rfl rfl Tryz.func115 (by kernel_rfl) rfl rfl leA rfl rfl (iMatches_fn pa pb hg2 hg1)) ?_
        refine AL.cons_gv rfl rfl rfl g3 (AOp.notB rfl rfl rfl) ?_
        refine AL.cons rfl (AOp.pickT rfl rfl rfl g3 rfl) ?_
        refine AL.cons rfl (AOp.move (.inr rfl) rfl rfl) ?_
        refine AL.nil ?_
        refine AWP.ret ?_
        have e4 : iMoreSpecific_M fu pa pb = some (!(matchB pa pb)) := gdT hg1 (gdT hg2 (swT g3 (rfl)))
        have hz : (!(matchB pa pb)) = r := Option.some.inj (e4.symm.trans H)
        subst hz
        exact Ends.mk (ps := [_]) (by first | exact .inr rfl | exact .inl rfl) ⟨rfl, trivial⟩ rfl (StLe.mk' (st' := ⟨[], []⟩) trivial rfl) (keeps_nil hC) (q := (.t (.leaf (.bool ((!(matchB pa pb))))) : PV)) leA rfl ⟨rfl, rfl⟩
      · skip
        refine AL.skipP rfl rfl rfl g3 rfl rfl ?_
        refine AL.skipP rfl rfl rfl g3 rfl rfl ?_
        refine AL.skipP rfl rfl rfl g3 rfl rfl ?_
        refine AL.skipP rfl rfl rfl g3 rfl rfl ?_
        refine AL.cons rfl (AOp.pickF rfl rfl rfl g3 rfl) ?_
        refine AL.cons rfl (AOp.move (.inr rfl) rfl rfl) ?_
        refine AL.nil ?_
        refine AWP.ret ?_
        have e5 : iMoreSpecific_M fu pa pb = some false := gdT hg1 (gdT hg2 (swF g3 (rfl)))
        have hz : false = r := Option.some.inj (e5.symm.trans H)
        subst hz
        exact Ends.mk (ps := [_]) (by first | exact .inr rfl | exact .inl rfl) ⟨rfl, trivial⟩ rfl (StLe.mk' (st' := ⟨[], []⟩) trivial rfl) (keeps_nil hC) (q := (.t (.leaf (.bool (false))) : PV)) leA rfl ⟨rfl, rfl⟩
    · skip
      have e6 : iMoreSpecific_M fu pa pb = none := gdT hg1 (gdF hg2)
      exact none_some H e6
  · skip
    have e7 : iMoreSpecific_M fu pa pb = none := gdF hg1
    exact none_some H e7

end Go.Proofs.YtnakkelglbcecaaGreat

namespace Go.Proofs.YtnakkelglbcecaaGreat
set_option linter.unusedSimpArgs false
set_option linter.unusedVariables false
attribute [local irreducible] lt
open Go.RowKit Go.WalkArith

theorem find_any {α : Type} {p : α → Bool} : ∀ l : List α, (l.find? p).isSome = l.any p
  | [] => rfl
  | a :: l => by
    rw [List.find?_cons, List.any_cons]
    cases p a with
    | true => rfl
    | false => exact find_any l
/-- A search that only says whether there is one. -/
theorem so_find {α : Type} {p : α → Bool} {l : List α} {m : Option (Bool ⊕ Unit)} {f : Unit → Option Bool} (hm : m = some (match l.find? p with | some _ => .inl true | none => .inr ())) {b : Bool} (hf : f () = some b) : so m f = some (l.any p || b) := by
  have h := find_any (p := p) l
  cases hq : l.find? p with
  | none =>
    rw [hq] at hm h
    rw [← h]
    exact soR hm hf
  | some x =>
    rw [hq] at hm h
    rw [← h]
    exact soL hm
def hasS (l : List ByteArray) (s : ByteArray) : Bool := l.any fun x => decide (x = s)
theorem sl1Has_eq (fu : Nat) (l : List ByteArray) (s : ByteArray) : sl1Has_M fu l s = some (hasS l s) := by
  unfold sl1Has_M
  rw [so_find (l := l) (p := fun x => decide (x = s)) (b := false) ?_ rfl, Bool.or_false]
  · rfl
  · unfold sl1Has_R1
    exact loopN_find0 (p := fun x => decide (x = s)) (r := fun _ => true) (fun i hi => by unfold sl1Has_F1; cases decide (atD l i = s) <;> rfl)
theorem gContains_eq (fu : Nat) (l : List ByteArray) (s : ByteArray) : gContains_string_M fu l s = some (hasS l s) := by
  have h1 : gIndex_string_M fu l s = some (match l.findIdx? (fun x => decide (s = x)) with | some i => ((i : Nat) : Int) | none => -1) := by
    unfold gIndex_string_M gIndex_string_R1
    rw [loopN_index (l := l) (p := fun x => decide (s = x)) fun i hi => by
      unfold gIndex_string_F1
      cases decide (s = atD l i) <;> rfl]
    cases l.findIdx? fun x => decide (s = x) <;> rfl
  have h2 : (fun x => decide (s = x)) = fun x => decide (x = s) := funext fun x => decide_eq_decide.2 ⟨Eq.symm, Eq.symm⟩
  unfold gContains_string_M
  refine bdS h1 (congrArg some ?_)
  refine index_any.trans ?_
  rw [h2]
  rfl

def varStep (k : Int) (n : ByteArray) (o : List ByteArray) : List ByteArray := if k = 1 then (bif hasS o n then o else o ++ [n]) else o
mutual
def GType.vsO : GType → List ByteArray → List ByteArray
  | .mk k n xs, o => GType.vsOs xs (varStep k n o)
def GType.vsOs : List GType → List ByteArray → List ByteArray
  | [], o => o
  | x :: r, o => GType.vsOs r (GType.vsO x o)
end
theorem GType.vsOs_fold : ∀ (xs : List GType) (o : List ByteArray), GType.vsOs xs o = xs.foldl (fun s x => x.vsO s) o
  | [], o => rfl
  | x :: r, o => by rw [GType.vsOs, List.foldl_cons, GType.vsOs_fold r]
theorem varStep_len (k : Int) (n : ByteArray) (o : List ByteArray) : (varStep k n o).length ≤ o.length + 1 := by
  unfold varStep
  split
  · cases hasS o n <;> simp
  · omega
theorem vsOs_lenOf : ∀ (xs : List GType), (∀ x ∈ xs, ∀ o, (x.vsO o).length ≤ o.length + 1 + Tr.bulkL x.tr) → ∀ o, (GType.vsOs xs o).length ≤ o.length + wt xs
  | [], _, o => by rw [GType.vsOs]; omega
  | x :: r, h, o => by
    rw [GType.vsOs, wt_cons]
    have h1 := h x (by simp) o
    have h2 := vsOs_lenOf r (fun y hy => h y (List.mem_cons_of_mem _ hy)) (x.vsO o)
    omega
theorem vsO_len : ∀ (t : GType) (o : List ByteArray), (t.vsO o).length ≤ o.length + 1 + Tr.bulkL t.tr := by
  refine GType.ind fun k n xs ih o => ?_
  have h1 := vsOs_lenOf xs ih (varStep k n o)
  have h2 := varStep_len k n o
  have h3 := wt_args k n xs
  rw [GType.vsO]
  omega
theorem sl4Vars_ev : ∀ t : GType, Evt fun fu => ∀ o : List ByteArray, o.length + 1 + Tr.bulkL t.tr ≤ 68719476736 → sl4Vars_M fu t o = some (t.vsO o) := by
  refine GType.ind fun k n xs ih => ?_
  have hw := wt_args k n xs
  refine Evt.succ ((Evt.list ih).imp fun fu hf o ho => ?_)
  simp only [sl4Vars_M, sl4Vars_G]
  have hC : sl4Vars_C1 fu (sl4Vars_M fu) (.mk k n xs) o = some (.inr (varStep k n o)) := by
    unfold sl4Vars_C1 varStep
    simp only [GType.gKind_mk, GType.gName_mk]
    by_cases hk : k = 1
    · rw [if_pos hk]
      refine swT (by simp [hk]) (bdS (sl1Has_eq fu o n) ?_)
      cases hasS o n with
      | true => exact swF rfl rfl
      | false => exact swT rfl (gdT (by simp only [List.length_cons, List.length_nil]; omega) rfl)
    · rw [if_neg hk]
      exact swF (by simp [hk]) rfl
  have hl := varStep_len k n o
  refine soR hC (soR (s := GType.vsOs xs (varStep k n o)) ?_ rfl)
  unfold sl4Vars_R2
  simp only [GType.gArgs_mk]
  rw [loopN_fold0 (l := xs) (g := fun s x => x.vsO s) (fun i s => s.length + wt (xs.drop i) ≤ 68719476736) (fun i s hi hp => ?_) (by rw [List.drop_zero]; omega), GType.vsOs_fold]
  rw [drop_atD hi, wt_cons] at hp
  refine ⟨?_, ?_⟩
  · unfold sl4Vars_F2
    simp only [GType.gArgs_mk]
    exact bdS (hf _ (atD_mem hi) s (by omega)) rfl
  · have := vsO_len (atD xs i) s
    omega
theorem ieachVars_ev : ∀ t : GType, Evt fun fu => ∀ o : List ByteArray, o.length + 1 + Tr.bulkL t.tr ≤ 68719476736 → ieachType__ivariablesOf_1_M fu t o = some (t.vsO o) := by
  refine GType.ind fun k n xs ih => ?_
  have hw := wt_args k n xs
  refine Evt.succ ((Evt.list ih).imp fun fu hf o ho => ?_)
  simp only [ieachType__ivariablesOf_1_M, ieachType__ivariablesOf_1_G]
  have hC : ivariablesOf_1_M fu (.mk k n xs) o = some (varStep k n o) := by
    unfold ivariablesOf_1_M varStep
    simp only [GType.gKind_mk, GType.gName_mk]
    by_cases hk : k = 1
    · rw [if_pos hk]
      refine swT (by simp [hk]) (bdS (gContains_eq fu o n) ?_)
      cases hasS o n with
      | true => exact swF rfl rfl
      | false => exact swT rfl (gdT (by simp only [List.length_cons, List.length_nil]; omega) rfl)
    · rw [if_neg hk]
      exact swF (by simp [hk]) rfl
  have hl := varStep_len k n o
  refine bdS hC (soR (s := GType.vsOs xs (varStep k n o)) ?_ rfl)
  unfold ieachType__ivariablesOf_1_R1
  simp only [GType.gArgs_mk]
  rw [loopN_fold0 (l := xs) (g := fun s x => x.vsO s) (fun i s => s.length + wt (xs.drop i) ≤ 68719476736) (fun i s hi hp => ?_) (by rw [List.drop_zero]; omega), GType.vsOs_fold]
  rw [drop_atD hi, wt_cons] at hp
  refine ⟨?_, ?_⟩
  · unfold ieachType__ivariablesOf_1_F1
    simp only [GType.gArgs_mk]
    exact bdS (hf _ (atD_mem hi) s (by omega)) rfl
  · have := vsO_len (atD xs i) s
    omega

mutual
def GType.hp : GType → Bool
  | .mk k _ xs => GType.hps xs || decide (k = 3)
def GType.hps : List GType → Bool
  | [] => false
  | x :: r => GType.hp x || GType.hps r
end
theorem GType.hps_any : ∀ xs : List GType, GType.hps xs = xs.any GType.hp
  | [] => rfl
  | x :: r => by rw [GType.hps, GType.hps_any r, List.any_cons]
theorem sHasProj_ev : ∀ t : GType, Evt fun fu => sHasProjection_M fu t = some t.hp := by
  refine GType.ind fun k n xs ih => ?_
  refine Evt.succ ((Evt.list ih).imp fun fu hf => ?_)
  simp only [sHasProjection_M, sHasProjection_G]
  rw [so_find (l := xs) (p := GType.hp) (b := decide (k = 3)) ?_ rfl, ← GType.hps_any]
  · rfl
  · unfold sHasProjection_R1
    simp only [GType.gArgs_mk]
    exact loopN_find0 (p := GType.hp) (r := fun _ => true) (fun i hi => by
      unfold sHasProjection_F1
      simp only [GType.gArgs_mk]
      refine bdS (hf _ (atD_mem hi)) ?_
      cases (atD xs i).hp <;> rfl)
theorem orfold2 {α : Type} (p : α → Bool) : ∀ (l : List α) (b : Bool), l.foldl (fun b x => b || p x) b = (b || l.any p)
  | [], b => by simp
  | a :: l, b => by rw [List.foldl_cons, orfold2 p l, List.any_cons, Bool.or_assoc]
theorem ieachProj_ev2 : ∀ t : GType, Evt fun fu => ∀ c : Bool, ieachType__iHasProjection_1_M fu t c = some (c || t.hp) := by
  refine GType.ind fun k n xs ih => ?_
  refine Evt.succ ((Evt.list ih).imp fun fu hf c => ?_)
  simp only [ieachType__iHasProjection_1_M, ieachType__iHasProjection_1_G]
  have hC : iHasProjection_1_M fu (.mk k n xs) c = some (c || decide (k = 3)) := by
    unfold iHasProjection_1_M
    simp only [GType.gKind_mk]
    cases c <;> rfl
  refine bdS hC (soR (s := ((c || decide (k = 3)) || xs.any GType.hp)) ?_ ?_)
  · unfold ieachType__iHasProjection_1_R1
    simp only [GType.gArgs_mk]
    rw [loopN_fold0 (l := xs) (g := fun s x => s || x.hp) (fun _ _ => True) (fun i s hi _ => ⟨?_, trivial⟩) trivial, orfold2]
    unfold ieachType__iHasProjection_1_F1
    simp only [GType.gArgs_mk]
    exact bdS (hf _ (atD_mem hi) s) rfl
  · rw [GType.hp, GType.hps_any]
    cases c <;> cases decide (k = 3) <;> simp
def GType.ground (t : GType) : Bool := decide ((((t.vsO []).length : Nat) : Int) = 0) && !t.hp
theorem sIsGround_fn (t : GType) (hb : Tr.bulkL (GType.tr t) ≤ 68719476735) : AFun Tryz.prog 86 [(GType.pv t)] (.t (.leaf (.bool (GType.ground t)))) := by
  obtain ⟨fu, h1, h2⟩ := ((sl4Vars_ev t).and (sHasProj_ev t)).get
  refine sIsGround_ok fu t _ ?_
  unfold sIsGround_M sTypeVariables_M GType.ground
  refine bdS (bdS (h1 [] (by simp only [List.length_nil]; omega)) rfl) ?_
  cases hd : decide ((((t.vsO []).length : Nat) : Int) = 0) with
  | true => exact swT rfl (bdS h2 rfl)
  | false => exact swF rfl rfl
theorem iIsGround_fn (t : GType) (hb : Tr.bulkL (GType.tr t) ≤ 68719476735) : AFun Tryz.prog 90 [(GType.pv t)] (.t (.leaf (.bool (GType.ground t)))) := by
  obtain ⟨fu, h1, h2⟩ := ((ieachVars_ev t).and (ieachProj_ev2 t)).get
  refine iIsGround_ok fu t _ ?_
  have hv : iTypeVariables_M fu t = some (t.vsO []) := by
    unfold iTypeVariables_M ivariablesOf_M
    refine bdS (soR (s := t.vsO []) ?_ rfl) rfl
    unfold ivariablesOf_R1
    rw [loopN_fold0 (l := [t]) (g := fun s x => x.vsO s) (fun i s => i = 0 → s = []) (fun i s hi hp => ?_) (fun _ => rfl)]
    · rfl
    · obtain rfl : i = 0 := by simp only [List.length_cons, List.length_nil] at hi; omega
      obtain rfl := hp rfl
      refine ⟨?_, fun h => by omega⟩
      unfold ivariablesOf_F1
      exact bdS (h1 [] (by simp only [List.length_nil]; omega)) rfl
  unfold iIsGround_M GType.ground iHasProjection_M
  refine bdS hv ?_
  cases hd : decide ((((t.vsO []).length : Nat) : Int) = 0) with
  | true => exact swT rfl (bdS (bdS (h2 false) rfl) (by simp))
  | false => exact swF rfl rfl
def moreB (a b : GType) : Bool := matchB b a && !matchB a b
theorem sMoreSpecific_fn (a b : GType) (ha : Tr.bulkL (GType.tr a) ≤ 68719476735) (hb : Tr.bulkL (GType.tr b) ≤ 68719476735) : AFun Tryz.prog 85 [(GType.pv a), (GType.pv b)] (.t (.leaf (.bool (moreB a b)))) := by
  refine sMoreSpecific_ok 0 a b _ ?_
  unfold sMoreSpecific_M sAtLeastAsSpecific_M moreB
  refine bdS (gdT hb (gdT ha rfl)) ?_
  cases hd : matchB b a with
  | true => exact swT rfl (bdS (gdT ha (gdT hb rfl)) rfl)
  | false => exact swF rfl rfl
theorem iMoreSpecific_fn (a b : GType) (ha : Tr.bulkL (GType.tr a) ≤ 68719476735) (hb : Tr.bulkL (GType.tr b) ≤ 68719476735) : AFun Tryz.prog 89 [(GType.pv a), (GType.pv b)] (.t (.leaf (.bool (moreB a b)))) := by
  refine iMoreSpecific_ok 0 a b _ ?_
  unfold iMoreSpecific_M moreB
  refine gdT hb (gdT ha ?_)
  cases hd : matchB b a with
  | true => exact swT rfl rfl
  | false => exact swF rfl rfl
end Go.Proofs.YtnakkelglbcecaaGreat

namespace Go.Proofs.YtnakkelglbcecaaGreat
open Go.RowKit Go.Proofs
set_option linter.unusedSimpArgs false
set_option linter.unusedVariables false

attribute [local irreducible] lt

noncomputable def sSelectInstance_F2 (fu : Nat) (pa0 : GProgram) (pa1 : GBound) (i3 : Nat) (y7 : GInstanceRef) (y10 : GPackage) (y13 : GInstance) : Nat → Bool → Option (LR Bool (LR Unit (GInstanceRef × Int))) :=
 fun i15 v16 => lt (atD (List.filter (GProgram.cand pa0 pa1) (GProgram.allRefs pa0)) i15) (fun y21 =>
 gd (0 ≤ y21.gPackage ∧ (y21.gPackage).toNat < (pa0.gPackages).length)
 (lt (atD pa0.gPackages ((y21.gPackage).toNat)) (fun y24 =>
 gd (0 ≤ y21.gAt ∧ (y21.gAt).toNat < (y24.gInstances).length)
 (lt (atD y24.gInstances ((y21.gAt).toNat)) (fun y27 =>
 sw (v16)
 (gd (Tr.bulkL (GType.tr y27.gHead) ≤ 68719476735)
 (gd (Tr.bulkL (GType.tr y13.gHead) ≤ 68719476735)
 (some (.next (!(moreB y27.gHead y13.gHead))))))
 (some (.next false)))))))
noncomputable def sSelectInstance_R2 (fu : Nat) (pa0 : GProgram) (pa1 : GBound) (i3 : Nat) (y7 : GInstanceRef) (y10 : GPackage) (y13 : GInstance) : Option ((LR Unit (GInstanceRef × Int)) ⊕ Bool) :=
 loopN (sSelectInstance_F2 fu pa0 pa1 i3 y7 y10 y13) ((List.filter (GProgram.cand pa0 pa1) (GProgram.allRefs pa0)).length - 0) 0 true
noncomputable def sSelectInstance_C3 (fu : Nat) (pa0 : GProgram) (pa1 : GBound) (i3 : Nat) (y7 : GInstanceRef) (y10 : GPackage) (y13 : GInstance) (v16 : Bool) : Option ((LR Unit (GInstanceRef × Int)) ⊕ (Bool × Bool × Bool)) :=
 sw (v16)
 (sw (y13.gDefault)
 (gd (Tr.bulkL (GType.tr pa1.gType) ≤ 68719476735)
 (sw (!(GType.ground pa1.gType))
 (some (.inl (.ret ((GInstanceRef.mk 0 0), 2))))
 (some (.inr (y13.gDefault, y13.gDefault, (!(GType.ground pa1.gType)))))))
 (some (.inr (y13.gDefault, y13.gDefault, false))))
 (some (.inr (false, false, false)))
noncomputable def sSelectInstance_F1 (fu : Nat) (pa0 : GProgram) (pa1 : GBound) : Nat → Unit → Option (LR Unit (GInstanceRef × Int)) :=
 fun i3 _ => lt (atD (List.filter (GProgram.cand pa0 pa1) (GProgram.allRefs pa0)) i3) (fun y7 =>
 gd (0 ≤ y7.gPackage ∧ (y7.gPackage).toNat < (pa0.gPackages).length)
 (lt (atD pa0.gPackages ((y7.gPackage).toNat)) (fun y10 =>
 gd (0 ≤ y7.gAt ∧ (y7.gAt).toNat < (y10.gInstances).length)
 (lt (atD y10.gInstances ((y7.gAt).toNat)) (fun y13 =>
 so (sSelectInstance_R2 fu pa0 pa1 i3 y7 y10 y13) (fun v16 =>
 so (sSelectInstance_C3 fu pa0 pa1 i3 y7 y10 y13 v16) (fun (v55, v56, v57) =>
 sw (v16)
 (some (.ret (y7, 0)))
 (some (.next ())))))))))
noncomputable def sSelectInstance_R1 (fu : Nat) (pa0 : GProgram) (pa1 : GBound) : Option ((GInstanceRef × Int) ⊕ Unit) :=
 loopN (sSelectInstance_F1 fu pa0 pa1) ((List.filter (GProgram.cand pa0 pa1) (GProgram.allRefs pa0)).length - 0) 0 ()
noncomputable def sSelectInstance_M (fu : Nat)  (pa0 : GProgram) (pa1 : GBound) : Option (GInstanceRef × Int) :=
 gd (Tr.bulkL (GProgram.tr pa0) ≤ 68719476735)
 (gd (Tr.bulkL (GBound.tr pa1) ≤ 68719476735)
 (so (sSelectInstance_R1 fu pa0 pa1) (fun _ =>
 some ((GInstanceRef.mk 0 0), 1))))
set_option maxRecDepth 100000 in
set_option maxHeartbeats 4000000 in
theorem sSelectInstance_ok  (fu : Nat)  (pa0 : GProgram) (pa1 : GBound) (r : GInstanceRef × Int) (H : sSelectInstance_M fu pa0 pa1 = some r) : AFun Tryz.prog 22 [(GProgram.pv pa0), (GBound.pv pa1)] (.tup [(GInstanceRef.pv r.1), .t (.leaf (.int .i64 (r.2)))] : PV) := by
  refine ACalls.intro Tryz.func22 rfl (by first | decide | (simp; done) | (simp; decide)) ?_
  intro C hC
  refine AWP.seq ?_
  refine AWP.region_lit ?_
  refine AL.cons rfl (AOp.box (cs := [.t (.row 6 (GPackage.trs (pa0.gPackages)))]) rfl rfl rfl rfl rfl) ?_
  refine AL.cons rfl (AOp.box (cs := [.t (.leaf (.string (pa1.gTrait))), .t (.leaf (.int .i64 (pa1.gType.gKind))), .t (.leaf (.string (pa1.gType.gName))), .t (.row 3 (GType.trs (pa1.gType.gArgs)))]) rfl rfl rfl rfl rfl) ?_
  refine AL.cons rfl (AOp.alloc rfl rfl zr33) ?_
  refine AL.cons rfl (AOp.move (.inr rfl) rfl rfl) ?_
  refine AL.nil ?_
  refine AWP.seq ?_
  refine AWP.region_lit ?_
  refine AL.cons rfl (AOp.loadPtr (cs := [.t (.row 6 (GPackage.trs (pa0.gPackages)))]) rfl rfl rfl rfl sh31 rfl rfl) ?_
  refine AL.cons rfl (AOp.loadPtr (cs := [.t (.leaf (.string (pa1.gTrait))), .t (.leaf (.int .i64 (pa1.gType.gKind))), .t (.leaf (.string (pa1.gType.gName))), .t (.row 3 (GType.trs (pa1.gType.gArgs)))]) rfl rfl rfl rfl sh49 rfl rfl) ?_
  rcases Classical.em (Tr.bulkL (GProgram.tr pa0) ≤ 68719476735) with hg1 | hg1
  · skip
    rcases Classical.em (Tr.bulkL (GBound.tr pa1) ≤ 68719476735) with hg2 | hg2
    · skip
      refine AL.cons rfl (AOp.callF (res := .t (.row 2 (GInstanceRef.trs ((List.filter (GProgram.cand pa0 pa1) (GProgram.allRefs pa0)))))) (ps := [_, _]) rfl rfl Tryz.func59 (by kernel_rfl) rfl rfl leA rfl rfl (sCands_ok pa0 pa1 hg1 hg2)) ?_
      refine AL.cons rfl (AOp.move (.inr rfl) rfl rfl) ?_
      refine AL.nil ?_
      refine AWP.seq ?_
      refine AWP.seq ?_
      refine AWP.region_lit ?_
      refine AL.cons rfl (AOp.move (.inr rfl) rfl rfl) ?_
      refine AL.nil ?_
      refine AWP.fact (lk_lenN 6 rfl rfl (GInstanceRef.trs_len _)) (fun hl4 => ?_)
      refine AWP.cut (ι := Unit) (fun _ => sSelectInstance_R1 fu pa0 pa1 = some (.inr ())) (fun _ => ⟨[(4, .ptr 2 0), (5, .t (.leaf (.int .i64 (0))))], ⟨[some ⟨31, [.t (.row 6 (GPackage.trs (pa0.gPackages)))]⟩, some ⟨49, [.t (.leaf (.string (pa1.gTrait))), .t (.leaf (.int .i64 (pa1.gType.gKind))), .t (.leaf (.string (pa1.gType.gName))), .t (.row 3 (GType.trs (pa1.gType.gArgs)))]⟩, some ⟨33, [.t (.leaf (.int .i64 (0))), .t (.leaf (.int .i64 (0)))]⟩], []⟩⟩) (by repeat' (first | exact qcEnds | exact ncAWP | exact ncRound | exact ncEx | apply qcThen | apply qcBlock | apply qcCut)) ?_ ?_
      · skip
        refine AWP.block ?_
        refine AWP.loopR (ι := Nat × Unit) (fun (i3, _) => sSelectInstance_R1 fu pa0 pa1 = loopN (sSelectInstance_F1 fu pa0 pa1) ((List.filter (GProgram.cand pa0 pa1) (GProgram.allRefs pa0)).length - i3) i3 ()) (fun (i3, _) => ⟨[(2, .ptr 0 0), (3, .ptr 1 0), (4, .ptr 2 0), (5, .t (.leaf (.int .i64 (0)))), (6, .t (.row 2 (GInstanceRef.trs ((List.filter (GProgram.cand pa0 pa1) (GProgram.allRefs pa0)))))), (7, .t (.leaf (.int .i64 (((i3 : Nat) : Int)))))], ⟨[some ⟨31, [.t (.row 6 (GPackage.trs (pa0.gPackages)))]⟩, some ⟨49, [.t (.leaf (.string (pa1.gTrait))), .t (.leaf (.int .i64 (pa1.gType.gKind))), .t (.leaf (.string (pa1.gType.gName))), .t (.row 3 (GType.trs (pa1.gType.gArgs)))]⟩, some ⟨33, [.t (.leaf (.int .i64 (0))), .t (.leaf (.int .i64 (0)))]⟩], []⟩⟩) (fun (i3, _) => (List.filter (GProgram.cand pa0 pa1) (GProgram.allRefs pa0)).length - i3) (0, ()) ?_ ?_ ?_
        · exact rfl
        · skip
          exact Wk.mk (StLe.mk' ⟨⟨rfl, leA, rfl⟩, ⟨⟨rfl, leA, rfl⟩, ⟨⟨rfl, leA, rfl⟩, trivial⟩⟩⟩ rfl) (keeps_nil hC) ⟨⟨_, rfl, .refl _, rfl⟩, ⟨⟨_, rfl, .refl _, rfl⟩, ⟨⟨_, rfl, .refl _, rfl⟩, ⟨⟨_, rfl, .refl _, rfl⟩, ⟨⟨_, rfl, .refl _, rfl⟩, ⟨⟨_, rfl, leA, rfl⟩, trivial⟩⟩⟩⟩⟩⟩
        · rintro ⟨i3, ⟨⟩⟩ hJ5
          refine AWP.seq ?_
          refine AWP.seq ?_
          refine AWP.region_lit ?_
          refine AL.cons rfl (AOp.move (.inl rfl) rfl rfl) ?_
          refine AL.cons rfl (AOp.move (.inl rfl) rfl rfl) ?_
          refine AL.cons rfl (AOp.lenN rfl rfl rfl rfl el66 (GInstanceRef.trs_len _)) ?_
          refine AL.cons rfl (AOp.lss rfl rfl rfl rfl) ?_
          refine AL.nil ?_
          refine AWP.cond rfl (fun h6 => ?_) (fun h6 => ?_)
          · skip
            have h6l : i3 < (List.filter (GProgram.cand pa0 pa1) (GProgram.allRefs pa0)).length := nat_lt_of2 h6
            have h6n := nat_lt_of h6
            refine AWP.skip ?_
            refine AWP.seq ?_
            refine AWP.block ?_
            refine AWP.seq ?_
            obtain ⟨y7, hy8⟩ : ∃ y : GInstanceRef, y = atD (List.filter (GProgram.cand pa0 pa1) (GProgram.allRefs pa0)) i3 := ⟨_, rfl⟩
            rcases Classical.em (0 ≤ y7.gPackage ∧ (y7.gPackage).toNat < (pa0.gPackages).length) with hg9 | hg9
            · skip
              obtain ⟨y10, hy11⟩ : ∃ y : GPackage, y = atD pa0.gPackages ((y7.gPackage).toNat) := ⟨_, rfl⟩
              rcases Classical.em (0 ≤ y7.gAt ∧ (y7.gAt).toNat < (y10.gInstances).length) with hg12 | hg12
              · skip
                obtain ⟨y13, hy14⟩ : ∃ y : GInstance, y = atD y10.gInstances ((y7.gAt).toNat) := ⟨_, rfl⟩
                refine AWP.drawnL ⟨_, _, fun j' _ => ([(⟨[some ⟨31, [.t (.row 6 (GPackage.trs (pa0.gPackages)))]⟩, some ⟨49, [.t (.leaf (.string (pa1.gTrait))), .t (.leaf (.int .i64 (pa1.gType.gKind))), .t (.leaf (.string (pa1.gType.gName))), .t (.row 3 (GType.trs (pa1.gType.gArgs)))]⟩, some ⟨33, [.t (.leaf (.int .i64 (0))), .t (.leaf (.int .i64 (0)))]⟩], []⟩ : Sto), (⟨[some ⟨31, [.t (.row 6 (GPackage.trs (pa0.gPackages)))]⟩, some ⟨49, [.t (.leaf (.string (pa1.gTrait))), .t (.leaf (.int .i64 (pa1.gType.gKind))), .t (.leaf (.string (pa1.gType.gName))), .t (.row 3 (GType.trs (pa1.gType.gArgs)))]⟩, some ⟨33, [.t (.leaf (.int .i64 (0))), .t (.leaf (.int .i64 (0)))]⟩, some ⟨113, [.t (.leaf (.string (⟨#[]⟩))), .nil, .t (.leaf (.int .i64 (0))), .t (.leaf (.string (⟨#[]⟩))), .nil, .nil, .t (.leaf (.bool (false))), .t (.leaf (.bool (false))), .t (.leaf (.int .i64 (0))), .t (.leaf (.string (⟨#[]⟩))), .nil, .nil]⟩], []⟩ : Sto), (⟨[some ⟨31, [.t (.row 6 (GPackage.trs (pa0.gPackages)))]⟩, some ⟨49, [.t (.leaf (.string (pa1.gTrait))), .t (.leaf (.int .i64 (pa1.gType.gKind))), .t (.leaf (.string (pa1.gType.gName))), .t (.row 3 (GType.trs (pa1.gType.gArgs)))]⟩, some ⟨33, [.t (.leaf (.int .i64 (0))), .t (.leaf (.int .i64 (0)))]⟩, some ⟨113, [.t (.leaf (.string (y13.gTrait))), .t (.row 1 (strTrs (y13.gVars))), .t (.leaf (.int .i64 (y13.gHead.gKind))), .t (.leaf (.string (y13.gHead.gName))), .t (.row 3 (GType.trs (y13.gHead.gArgs))), .t (.row 4 (GBound.trs (y13.gWhere))), .t (.leaf (.bool (y13.gDefault))), .t (.leaf (.bool (y13.gHasAssoc))), .t (.leaf (.int .i64 (y13.gAssoc.gKind))), .t (.leaf (.string (y13.gAssoc.gName))), .t (.row 3 (GType.trs (y13.gAssoc.gArgs))), .t (.row 11 (GMethod.trs (y13.gMethods)))]⟩], []⟩ : Sto)] : List Sto).getD j' (⟨[some ⟨31, [.t (.row 6 (GPackage.trs (pa0.gPackages)))]⟩, some ⟨49, [.t (.leaf (.string (pa1.gTrait))), .t (.leaf (.int .i64 (pa1.gType.gKind))), .t (.leaf (.string (pa1.gType.gName))), .t (.row 3 (GType.trs (pa1.gType.gArgs)))]⟩, some ⟨33, [.t (.leaf (.int .i64 (0))), .t (.leaf (.int .i64 (0)))]⟩, some ⟨113, [.t (.leaf (.string (y13.gTrait))), .t (.row 1 (strTrs (y13.gVars))), .t (.leaf (.int .i64 (y13.gHead.gKind))), .t (.leaf (.string (y13.gHead.gName))), .t (.row 3 (GType.trs (y13.gHead.gArgs))), .t (.row 4 (GBound.trs (y13.gWhere))), .t (.leaf (.bool (y13.gDefault))), .t (.leaf (.bool (y13.gHasAssoc))), .t (.leaf (.int .i64 (y13.gAssoc.gKind))), .t (.leaf (.string (y13.gAssoc.gName))), .t (.row 3 (GType.trs (y13.gAssoc.gArgs))), .t (.row 11 (GMethod.trs (y13.gMethods)))]⟩], []⟩ : Sto), fun q' => ([some (.ptr 0 0), some (.t (.row 6 (GPackage.trs (pa0.gPackages)))), some (.t (.row 2 (GInstanceRef.trs ((List.filter (GProgram.cand pa0 pa1) (GProgram.allRefs pa0)))))), some (.t (.leaf (.int .i64 (((i3 : Nat) : Int))))), some (.eptr (GInstanceRef.cs y7)), some (.eptr (GInstanceRef.cs y7)), some (.t (.leaf (.int .i64 (y7.gPackage)))), some (.eptr (GPackage.cs y10)), some (.eptr ((GPackage.cs y10).drop 4)), some (.t (.row 12 (GInstance.trs (y10.gInstances)))), some (.t (.row 2 (GInstanceRef.trs ((List.filter (GProgram.cand pa0 pa1) (GProgram.allRefs pa0)))))), some (.t (.leaf (.int .i64 (((i3 : Nat) : Int))))), some (.eptr (GInstanceRef.cs y7)), some (.eptr ((GInstanceRef.cs y7).drop 1)), some (.t (.leaf (.int .i64 (y7.gAt)))), some (.eptr (GInstance.cs y13)), some ((GInstance.pv y13)), some (.ptr 3 0), none] : List (Option PV)).getD q' none, fun q' => ([.q 0 1, .q 0 1, .q 0 1, .q 0 1, .q 0 1, .q 0 1, .q 0 1, .q 0 1, .q 0 1, .q 0 1, .q 0 1, .q 0 1, .q 0 1, .q 0 1, .q 0 1, .q 0 1, .q 0 1, .ef 0, .ef 1] : List DK).getD q' (.q 0 0), [17, 18], none, fun q' => ([[(2, none)], [(21, some 0)], [(6, none)], [(7, none)], [(23, some 2), (24, some 3)], [(25, some 4)], [(26, some 5)], [(22, some 1), (27, some 6)], [(28, some 7)], [(29, some 8)], [(6, none)], [(7, none)], [(31, some 10), (32, some 11)], [(33, some 12)], [(34, some 13)], [(30, some 9), (35, some 14)], [(36, some 15)], [], [(8, some 17), (37, some 16)]] : List (List (Nat × Option Nat))).getD q' []⟩ rfl mixed (by kernel_rfl) rfl rfl ⟨?_, ?_, ?_, ?_, ?_, ?_, ?_, ?_, ?_, ?_, ?_, ?_, ?_, ?_, ?_, ?_, ?_, ?_, ?_, trivial⟩ rfl ?_
                · refine .inl ⟨rfl, fun s' jj bb (h1 : 0 ≤ jj) (h2 : jj ≤ 1) hs hl => ?_⟩
                  rcases (by omega : jj = 0 ∨ jj = 1) with rfl | rfl <;> exact ⟨_, rfl, AOp.fieldPtr (k := 0) (d := 0) (e := 0) rfl rfl (hl 2 none _ (.head _) rfl) fo31_0⟩
                · refine .inl ⟨rfl, fun s' jj bb (h1 : 0 ≤ jj) (h2 : jj ≤ 1) hs hl => ?_⟩
                  rcases (by omega : jj = 0 ∨ jj = 1) with rfl | rfl <;> exact ⟨_, rfl, AOp.loadPtr1 rfl rfl (hl 21 (some 0) _ (.head _) rfl) (by rw [hs]; rfl) sh29 rfl⟩
                · refine .inl ⟨rfl, fun s' jj bb (h1 : 0 ≤ jj) (h2 : jj ≤ 1) hs hl => ?_⟩
                  rcases (by omega : jj = 0 ∨ jj = 1) with rfl | rfl <;> exact ⟨_, rfl, AOp.move (.inl rfl) rfl (hl 6 none _ (.head _) rfl)⟩
                · refine .inl ⟨rfl, fun s' jj bb (h1 : 0 ≤ jj) (h2 : jj ≤ 1) hs hl => ?_⟩
                  rcases (by omega : jj = 0 ∨ jj = 1) with rfl | rfl <;> exact ⟨_, rfl, AOp.move (.inl rfl) rfl (hl 7 none _ (.head _) rfl)⟩
                · refine .inl ⟨rfl, fun s' jj bb (h1 : 0 ≤ jj) (h2 : jj ≤ 1) hs hl => ?_⟩
                  rcases (by omega : jj = 0 ∨ jj = 1) with rfl | rfl <;> exact ⟨_, rfl, AOp.index (e := GInstanceRef.cs y7) (k := i3) rfl rfl (hl 23 (some 2) _ (.head _) rfl) rfl (hl 24 (some 3) _ (.tail _ (.head _)) rfl) (by rw [hy8]; exact GInstanceRef.trs_at h6n) el66⟩
                · refine .inl ⟨rfl, fun s' jj bb (h1 : 0 ≤ jj) (h2 : jj ≤ 1) hs hl => ?_⟩
                  rcases (by omega : jj = 0 ∨ jj = 1) with rfl | rfl <;> exact ⟨_, rfl, AOp.fieldEptr (cs := (GInstanceRef.cs y7)) (e := 0) rfl rfl (hl 25 (some 4) _ (.head _) rfl) fo33_0⟩
                · refine .inl ⟨rfl, fun s' jj bb (h1 : 0 ≤ jj) (h2 : jj ≤ 1) hs hl => ?_⟩
                  rcases (by omega : jj = 0 ∨ jj = 1) with rfl | rfl <;> exact ⟨_, rfl, AOp.loadEptr1 (d := .leaf (.int .i64 (y7.gPackage))) rfl rfl (hl 26 (some 5) _ (.head _) rfl) sh3 rfl⟩
                · refine .inl ⟨rfl, fun s' jj bb (h1 : 0 ≤ jj) (h2 : jj ≤ 1) hs hl => ?_⟩
                  rcases (by omega : jj = 0 ∨ jj = 1) with rfl | rfl <;> exact ⟨_, rfl, AOp.indexI (e := GPackage.cs y10) (y := y7.gPackage) rfl rfl (hl 22 (some 1) _ (.head _) rfl) rfl (hl 27 (some 6) _ (.tail _ (.head _)) rfl) (hg9).1 (by rw [hy11]; exact GPackage.trs_at (hg9).2) el29⟩
                · refine .inl ⟨rfl, fun s' jj bb (h1 : 0 ≤ jj) (h2 : jj ≤ 1) hs hl => ?_⟩
                  rcases (by omega : jj = 0 ∨ jj = 1) with rfl | rfl <;> exact ⟨_, rfl, AOp.fieldEptr (cs := (GPackage.cs y10)) (e := 4) rfl rfl (hl 28 (some 7) _ (.head _) rfl) fo126_4⟩
                · refine .inl ⟨rfl, fun s' jj bb (h1 : 0 ≤ jj) (h2 : jj ≤ 1) hs hl => ?_⟩
                  rcases (by omega : jj = 0 ∨ jj = 1) with rfl | rfl <;> exact ⟨_, rfl, AOp.loadEptr1 (d := .row 12 (GInstance.trs (y10.gInstances))) rfl rfl (hl 29 (some 8) _ (.head _) rfl) sh123 rfl⟩
                · refine .inl ⟨rfl, fun s' jj bb (h1 : 0 ≤ jj) (h2 : jj ≤ 1) hs hl => ?_⟩
                  rcases (by omega : jj = 0 ∨ jj = 1) with rfl | rfl <;> exact ⟨_, rfl, AOp.move (.inl rfl) rfl (hl 6 none _ (.head _) rfl)⟩
                · refine .inl ⟨rfl, fun s' jj bb (h1 : 0 ≤ jj) (h2 : jj ≤ 1) hs hl => ?_⟩
                  rcases (by omega : jj = 0 ∨ jj = 1) with rfl | rfl <;> exact ⟨_, rfl, AOp.move (.inl rfl) rfl (hl 7 none _ (.head _) rfl)⟩
                · refine .inl ⟨rfl, fun s' jj bb (h1 : 0 ≤ jj) (h2 : jj ≤ 1) hs hl => ?_⟩
                  rcases (by omega : jj = 0 ∨ jj = 1) with rfl | rfl <;> exact ⟨_, rfl, AOp.index (e := GInstanceRef.cs y7) (k := i3) rfl rfl (hl 31 (some 10) _ (.head _) rfl) rfl (hl 32 (some 11) _ (.tail _ (.head _)) rfl) (by rw [hy8]; exact GInstanceRef.trs_at h6n) el66⟩
                · refine .inl ⟨rfl, fun s' jj bb (h1 : 0 ≤ jj) (h2 : jj ≤ 1) hs hl => ?_⟩
                  rcases (by omega : jj = 0 ∨ jj = 1) with rfl | rfl <;> exact ⟨_, rfl, AOp.fieldEptr (cs := (GInstanceRef.cs y7)) (e := 1) rfl rfl (hl 33 (some 12) _ (.head _) rfl) fo33_1⟩
                · refine .inl ⟨rfl, fun s' jj bb (h1 : 0 ≤ jj) (h2 : jj ≤ 1) hs hl => ?_⟩
                  rcases (by omega : jj = 0 ∨ jj = 1) with rfl | rfl <;> exact ⟨_, rfl, AOp.loadEptr1 (d := .leaf (.int .i64 (y7.gAt))) rfl rfl (hl 34 (some 13) _ (.head _) rfl) sh3 rfl⟩
                · refine .inl ⟨rfl, fun s' jj bb (h1 : 0 ≤ jj) (h2 : jj ≤ 1) hs hl => ?_⟩
                  rcases (by omega : jj = 0 ∨ jj = 1) with rfl | rfl <;> exact ⟨_, rfl, AOp.indexI (e := GInstance.cs y13) (y := y7.gAt) rfl rfl (hl 30 (some 9) _ (.head _) rfl) rfl (hl 35 (some 14) _ (.tail _ (.head _)) rfl) (hg12).1 (by rw [hy14]; exact GInstance.trs_at (hg12).2) el123⟩
                · refine .inl ⟨rfl, fun s' jj bb (h1 : 0 ≤ jj) (h2 : jj ≤ 1) hs hl => ?_⟩
                  rcases (by omega : jj = 0 ∨ jj = 1) with rfl | rfl <;> exact ⟨_, rfl, AOp.loadEptr (ds := [.leaf (.string (y13.gTrait)), .row 1 (strTrs (y13.gVars)), .leaf (.int .i64 (y13.gHead.gKind)), .leaf (.string (y13.gHead.gName)), .row 3 (GType.trs (y13.gHead.gArgs)), .row 4 (GBound.trs (y13.gWhere)), .leaf (.bool (y13.gDefault)), .leaf (.bool (y13.gHasAssoc)), .leaf (.int .i64 (y13.gAssoc.gKind)), .leaf (.string (y13.gAssoc.gName)), .row 3 (GType.trs (y13.gAssoc.gArgs)), .row 11 (GMethod.trs (y13.gMethods))]) rfl rfl (hl 36 (some 15) _ (.head _) rfl) sh113 rfl rfl⟩
                · refine .inl ⟨rfl, fun s' bb hs hl => ?_⟩
                  refine .inl ⟨_, rfl, AOp.congr (AOp.alloc rfl rfl zr113) ?_⟩
                  first | (rw [hs]; rfl) | rfl
                · refine .inl ⟨rfl, fun s' bb hs hl => ?_⟩
                  refine .inr ⟨rfl, AOp.congr (AOp.storePtr (cs := [.t (.leaf (.string (y13.gTrait))), .t (.row 1 (strTrs (y13.gVars))), .t (.leaf (.int .i64 (y13.gHead.gKind))), .t (.leaf (.string (y13.gHead.gName))), .t (.row 3 (GType.trs (y13.gHead.gArgs))), .t (.row 4 (GBound.trs (y13.gWhere))), .t (.leaf (.bool (y13.gDefault))), .t (.leaf (.bool (y13.gHasAssoc))), .t (.leaf (.int .i64 (y13.gAssoc.gKind))), .t (.leaf (.string (y13.gAssoc.gName))), .t (.row 3 (GType.trs (y13.gAssoc.gArgs))), .t (.row 11 (GMethod.trs (y13.gMethods)))]) (ds := [.t (.leaf (.string (y13.gTrait))), .t (.row 1 (strTrs (y13.gVars))), .t (.leaf (.int .i64 (y13.gHead.gKind))), .t (.leaf (.string (y13.gHead.gName))), .t (.row 3 (GType.trs (y13.gHead.gArgs))), .t (.row 4 (GBound.trs (y13.gWhere))), .t (.leaf (.bool (y13.gDefault))), .t (.leaf (.bool (y13.gHasAssoc))), .t (.leaf (.int .i64 (y13.gAssoc.gKind))), .t (.leaf (.string (y13.gAssoc.gName))), .t (.row 3 (GType.trs (y13.gAssoc.gArgs))), .t (.row 11 (GMethod.trs (y13.gMethods)))]) rfl (hl 8 (some 17) _ (.head _) rfl) (by rw [hs]; rfl) (hl 37 (some 16) _ (.tail _ (.head _)) rfl) rfl rfl rfl sz113 (Nat.le_of_ble_eq_true rfl) rfl) ?_⟩
                  first | (rw [hs]; rfl) | rfl
                refine AWP.seq ?_
                refine AWP.region_lit ?_
                refine AL.cons rfl (AOp.move (.inr rfl) rfl rfl) ?_
                refine AL.nil ?_
                refine AWP.seq ?_
                refine AWP.seq ?_
                refine AWP.region_lit ?_
                refine AL.cons rfl (AOp.move (.inr rfl) rfl rfl) ?_
                refine AL.nil ?_
                refine AWP.fact (lk_lenN 22 rfl rfl (GPackage.trs_len _)) (fun hl17 => ?_)
                refine AWP.fact (lk_lenN 30 rfl rfl (GInstance.trs_len _)) (fun hl18 => ?_)
                refine AWP.cut (ι := Bool) (fun v16 => sSelectInstance_R2 fu pa0 pa1 i3 y7 y10 y13 = some (.inr v16)) (fun v16 => ⟨[(2, .ptr 0 0), (3, .ptr 1 0), (4, .ptr 2 0), (5, .t (.leaf (.int .i64 (0)))), (6, .t (.row 2 (GInstanceRef.trs ((List.filter (GProgram.cand pa0 pa1) (GProgram.allRefs pa0)))))), (7, .t (.leaf (.int .i64 (((i3 : Nat) : Int))))), (8, .ptr 3 0), (9, .t (.leaf (.bool (v16)))), (15, .t (.leaf (.int .i64 (((i3 : Nat) : Int))))), (16, .t (.row 2 (GInstanceRef.trs ((List.filter (GProgram.cand pa0 pa1) (GProgram.allRefs pa0)))))), (17, .t (.leaf (.int .i64 ((((List.filter (GProgram.cand pa0 pa1) (GProgram.allRefs pa0)).length : Nat) : Int))))), (18, .t (.leaf (.bool (decide ((((i3 : Nat) : Int) : Int) < (((List.filter (GProgram.cand pa0 pa1) (GProgram.allRefs pa0)).length : Nat) : Int)))))), (21, .ptr 0 0), (22, .t (.row 6 (GPackage.trs (pa0.gPackages)))), (23, .t (.row 2 (GInstanceRef.trs ((List.filter (GProgram.cand pa0 pa1) (GProgram.allRefs pa0)))))), (24, .t (.leaf (.int .i64 (((i3 : Nat) : Int))))), (25, .eptr (GInstanceRef.cs y7)), (26, .eptr (GInstanceRef.cs y7)), (27, .t (.leaf (.int .i64 (y7.gPackage)))), (28, .eptr (GPackage.cs y10)), (29, .eptr ((GPackage.cs y10).drop 4)), (30, .t (.row 12 (GInstance.trs (y10.gInstances)))), (31, .t (.row 2 (GInstanceRef.trs ((List.filter (GProgram.cand pa0 pa1) (GProgram.allRefs pa0)))))), (32, .t (.leaf (.int .i64 (((i3 : Nat) : Int))))), (33, .eptr (GInstanceRef.cs y7)), (34, .eptr ((GInstanceRef.cs y7).drop 1)), (35, .t (.leaf (.int .i64 (y7.gAt)))), (36, .eptr (GInstance.cs y13)), (37, (GInstance.pv y13))], ⟨[some ⟨31, [.t (.row 6 (GPackage.trs (pa0.gPackages)))]⟩, some ⟨49, [.t (.leaf (.string (pa1.gTrait))), .t (.leaf (.int .i64 (pa1.gType.gKind))), .t (.leaf (.string (pa1.gType.gName))), .t (.row 3 (GType.trs (pa1.gType.gArgs)))]⟩, some ⟨33, [.t (.leaf (.int .i64 (0))), .t (.leaf (.int .i64 (0)))]⟩, some ⟨113, [.t (.leaf (.string (y13.gTrait))), .t (.row 1 (strTrs (y13.gVars))), .t (.leaf (.int .i64 (y13.gHead.gKind))), .t (.leaf (.string (y13.gHead.gName))), .t (.row 3 (GType.trs (y13.gHead.gArgs))), .t (.row 4 (GBound.trs (y13.gWhere))), .t (.leaf (.bool (y13.gDefault))), .t (.leaf (.bool (y13.gHasAssoc))), .t (.leaf (.int .i64 (y13.gAssoc.gKind))), .t (.leaf (.string (y13.gAssoc.gName))), .t (.row 3 (GType.trs (y13.gAssoc.gArgs))), .t (.row 11 (GMethod.trs (y13.gMethods)))]⟩], []⟩⟩) (by repeat' (first | exact qcEnds | exact ncAWP | exact ncRound | exact ncEx | apply qcThen | apply qcBlock | apply qcCut)) ?_ ?_
                · skip
                  refine AWP.block ?_
                  refine AWP.loopR (ι := Nat × Bool) (fun (i15, v16) => sSelectInstance_R2 fu pa0 pa1 i3 y7 y10 y13 = loopN (sSelectInstance_F2 fu pa0 pa1 i3 y7 y10 y13) ((List.filter (GProgram.cand pa0 pa1) (GProgram.allRefs pa0)).length - i15) i15 v16) (fun (i15, v16) => ⟨[(2, .ptr 0 0), (3, .ptr 1 0), (4, .ptr 2 0), (5, .t (.leaf (.int .i64 (0)))), (6, .t (.row 2 (GInstanceRef.trs ((List.filter (GProgram.cand pa0 pa1) (GProgram.allRefs pa0)))))), (7, .t (.leaf (.int .i64 (((i3 : Nat) : Int))))), (8, .ptr 3 0), (9, .t (.leaf (.bool (v16)))), (10, .t (.leaf (.int .i64 (((i15 : Nat) : Int))))), (15, .t (.leaf (.int .i64 (((i3 : Nat) : Int))))), (16, .t (.row 2 (GInstanceRef.trs ((List.filter (GProgram.cand pa0 pa1) (GProgram.allRefs pa0)))))), (17, .t (.leaf (.int .i64 ((((List.filter (GProgram.cand pa0 pa1) (GProgram.allRefs pa0)).length : Nat) : Int))))), (18, .t (.leaf (.bool (decide ((((i3 : Nat) : Int) : Int) < (((List.filter (GProgram.cand pa0 pa1) (GProgram.allRefs pa0)).length : Nat) : Int)))))), (21, .ptr 0 0), (22, .t (.row 6 (GPackage.trs (pa0.gPackages)))), (23, .t (.row 2 (GInstanceRef.trs ((List.filter (GProgram.cand pa0 pa1) (GProgram.allRefs pa0)))))), (24, .t (.leaf (.int .i64 (((i3 : Nat) : Int))))), (25, .eptr (GInstanceRef.cs y7)), (26, .eptr (GInstanceRef.cs y7)), (27, .t (.leaf (.int .i64 (y7.gPackage)))), (28, .eptr (GPackage.cs y10)), (29, .eptr ((GPackage.cs y10).drop 4)), (30, .t (.row 12 (GInstance.trs (y10.gInstances)))), (31, .t (.row 2 (GInstanceRef.trs ((List.filter (GProgram.cand pa0 pa1) (GProgram.allRefs pa0)))))), (32, .t (.leaf (.int .i64 (((i3 : Nat) : Int))))), (33, .eptr (GInstanceRef.cs y7)), (34, .eptr ((GInstanceRef.cs y7).drop 1)), (35, .t (.leaf (.int .i64 (y7.gAt)))), (36, .eptr (GInstance.cs y13)), (37, (GInstance.pv y13))], ⟨[some ⟨31, [.t (.row 6 (GPackage.trs (pa0.gPackages)))]⟩, some ⟨49, [.t (.leaf (.string (pa1.gTrait))), .t (.leaf (.int .i64 (pa1.gType.gKind))), .t (.leaf (.string (pa1.gType.gName))), .t (.row 3 (GType.trs (pa1.gType.gArgs)))]⟩, some ⟨33, [.t (.leaf (.int .i64 (0))), .t (.leaf (.int .i64 (0)))]⟩, some ⟨113, [.t (.leaf (.string (y13.gTrait))), .t (.row 1 (strTrs (y13.gVars))), .t (.leaf (.int .i64 (y13.gHead.gKind))), .t (.leaf (.string (y13.gHead.gName))), .t (.row 3 (GType.trs (y13.gHead.gArgs))), .t (.row 4 (GBound.trs (y13.gWhere))), .t (.leaf (.bool (y13.gDefault))), .t (.leaf (.bool (y13.gHasAssoc))), .t (.leaf (.int .i64 (y13.gAssoc.gKind))), .t (.leaf (.string (y13.gAssoc.gName))), .t (.row 3 (GType.trs (y13.gAssoc.gArgs))), .t (.row 11 (GMethod.trs (y13.gMethods)))]⟩], []⟩⟩) (fun (i15, v16) => (List.filter (GProgram.cand pa0 pa1) (GProgram.allRefs pa0)).length - i15) (0, true) ?_ ?_ ?_
                  · exact rfl
                  · skip
                    exact Wk.mk (StLe.mk' ⟨⟨rfl, leA, rfl⟩, ⟨⟨rfl, leA, rfl⟩, ⟨⟨rfl, leA, rfl⟩, ⟨⟨rfl, leA, rfl⟩, trivial⟩⟩⟩⟩ rfl) (keeps_nil hC) ⟨⟨_, rfl, .refl _, rfl⟩, ⟨⟨_, rfl, .refl _, rfl⟩, ⟨⟨_, rfl, .refl _, rfl⟩, ⟨⟨_, rfl, .refl _, rfl⟩, ⟨⟨_, rfl, .refl _, rfl⟩, ⟨⟨_, rfl, .refl _, rfl⟩, ⟨⟨_, rfl, .refl _, rfl⟩, ⟨⟨_, rfl, leA, rfl⟩, ⟨⟨_, rfl, leA, rfl⟩, ⟨⟨_, rfl, .refl _, rfl⟩, ⟨⟨_, rfl, .refl _, rfl⟩, ⟨⟨_, rfl, .refl _, rfl⟩, ⟨⟨_, rfl, .refl _, rfl⟩, ⟨⟨_, rfl, .refl _, rfl⟩, ⟨⟨_, rfl, .refl _, rfl⟩, ⟨⟨_, rfl, .refl _, rfl⟩, ⟨⟨_, rfl, .refl _, rfl⟩, ⟨⟨_, rfl, .refl _, rfl⟩, ⟨⟨_, rfl, .refl _, rfl⟩, ⟨⟨_, rfl, .refl _, rfl⟩, ⟨⟨_, rfl, .refl _, rfl⟩, ⟨⟨_, rfl, .refl _, rfl⟩, ⟨⟨_, rfl, .refl _, rfl⟩, ⟨⟨_, rfl, .refl _, rfl⟩, ⟨⟨_, rfl, .refl _, rfl⟩, ⟨⟨_, rfl, .refl _, rfl⟩, ⟨⟨_, rfl, .refl _, rfl⟩, ⟨⟨_, rfl, .refl _, rfl⟩, ⟨⟨_, rfl, .refl _, rfl⟩, ⟨⟨_, rfl, .refl _, rfl⟩, trivial⟩⟩⟩⟩⟩⟩⟩⟩⟩⟩⟩⟩⟩⟩⟩⟩⟩⟩⟩⟩⟩⟩⟩⟩⟩⟩⟩⟩⟩⟩
                  · rintro ⟨i15, v16⟩ hJ19
                    refine AWP.seq ?_
                    refine AWP.seq ?_
                    refine AWP.region_lit ?_
                    refine AL.cons rfl (AOp.move (.inl rfl) rfl rfl) ?_
                    refine AL.cons rfl (AOp.move (.inl rfl) rfl rfl) ?_
                    refine AL.cons rfl (AOp.lenN rfl rfl rfl rfl el66 (GInstanceRef.trs_len _)) ?_
                    refine AL.cons rfl (AOp.lss rfl rfl rfl rfl) ?_
                    refine AL.nil ?_
                    refine AWP.cond rfl (fun h20 => ?_) (fun h20 => ?_)
                    · skip
                      have h20l : i15 < (List.filter (GProgram.cand pa0 pa1) (GProgram.allRefs pa0)).length := nat_lt_of2 h20
                      have h20n := nat_lt_of h20
                      refine AWP.skip ?_
                      refine AWP.seq ?_
                      refine AWP.block ?_
                      refine AWP.seq ?_
                      obtain ⟨y21, hy22⟩ : ∃ y : GInstanceRef, y = atD (List.filter (GProgram.cand pa0 pa1) (GProgram.allRefs pa0)) i15 := ⟨_, rfl⟩
                      rcases Classical.em (0 ≤ y21.gPackage ∧ (y21.gPackage).toNat < (pa0.gPackages).length) with hg23 | hg23
                      · skip
                        obtain ⟨y24, hy25⟩ : ∃ y : GPackage, y = atD pa0.gPackages ((y21.gPackage).toNat) := ⟨_, rfl⟩
                        rcases Classical.em (0 ≤ y21.gAt ∧ (y21.gAt).toNat < (y24.gInstances).length) with hg26 | hg26
                        · skip
                          obtain ⟨y27, hy28⟩ : ∃ y : GInstance, y = atD y24.gInstances ((y21.gAt).toNat) := ⟨_, rfl⟩
                          refine AWP.drawnL ⟨_, _, fun j' _ => ([(⟨[some ⟨31, [.t (.row 6 (GPackage.trs (pa0.gPackages)))]⟩, some ⟨49, [.t (.leaf (.string (pa1.gTrait))), .t (.leaf (.int .i64 (pa1.gType.gKind))), .t (.leaf (.string (pa1.gType.gName))), .t (.row 3 (GType.trs (pa1.gType.gArgs)))]⟩, some ⟨33, [.t (.leaf (.int .i64 (0))), .t (.leaf (.int .i64 (0)))]⟩, some ⟨113, [.t (.leaf (.string (y13.gTrait))), .t (.row 1 (strTrs (y13.gVars))), .t (.leaf (.int .i64 (y13.gHead.gKind))), .t (.leaf (.string (y13.gHead.gName))), .t (.row 3 (GType.trs (y13.gHead.gArgs))), .t (.row 4 (GBound.trs (y13.gWhere))), .t (.leaf (.bool (y13.gDefault))), .t (.leaf (.bool (y13.gHasAssoc))), .t (.leaf (.int .i64 (y13.gAssoc.gKind))), .t (.leaf (.string (y13.gAssoc.gName))), .t (.row 3 (GType.trs (y13.gAssoc.gArgs))), .t (.row 11 (GMethod.trs (y13.gMethods)))]⟩], []⟩ : Sto), (⟨[some ⟨31, [.t (.row 6 (GPackage.trs (pa0.gPackages)))]⟩, some ⟨49, [.t (.leaf (.string (pa1.gTrait))), .t (.leaf (.int .i64 (pa1.gType.gKind))), .t (.leaf (.string (pa1.gType.gName))), .t (.row 3 (GType.trs (pa1.gType.gArgs)))]⟩, some ⟨33, [.t (.leaf (.int .i64 (0))), .t (.leaf (.int .i64 (0)))]⟩, some ⟨113, [.t (.leaf (.string (y13.gTrait))), .t (.row 1 (strTrs (y13.gVars))), .t (.leaf (.int .i64 (y13.gHead.gKind))), .t (.leaf (.string (y13.gHead.gName))), .t (.row 3 (GType.trs (y13.gHead.gArgs))), .t (.row 4 (GBound.trs (y13.gWhere))), .t (.leaf (.bool (y13.gDefault))), .t (.leaf (.bool (y13.gHasAssoc))), .t (.leaf (.int .i64 (y13.gAssoc.gKind))), .t (.leaf (.string (y13.gAssoc.gName))), .t (.row 3 (GType.trs (y13.gAssoc.gArgs))), .t (.row 11 (GMethod.trs (y13.gMethods)))]⟩, some ⟨113, [.t (.leaf (.string (⟨#[]⟩))), .nil, .t (.leaf (.int .i64 (0))), .t (.leaf (.string (⟨#[]⟩))), .nil, .nil, .t (.leaf (.bool (false))), .t (.leaf (.bool (false))), .t (.leaf (.int .i64 (0))), .t (.leaf (.string (⟨#[]⟩))), .nil, .nil]⟩], []⟩ : Sto), (⟨[some ⟨31, [.t (.row 6 (GPackage.trs (pa0.gPackages)))]⟩, some ⟨49, [.t (.leaf (.string (pa1.gTrait))), .t (.leaf (.int .i64 (pa1.gType.gKind))), .t (.leaf (.string (pa1.gType.gName))), .t (.row 3 (GType.trs (pa1.gType.gArgs)))]⟩, some ⟨33, [.t (.leaf (.int .i64 (0))), .t (.leaf (.int .i64 (0)))]⟩, some ⟨113, [.t (.leaf (.string (y13.gTrait))), .t (.row 1 (strTrs (y13.gVars))), .t (.leaf (.int .i64 (y13.gHead.gKind))), .t (.leaf (.string (y13.gHead.gName))), .t (.row 3 (GType.trs (y13.gHead.gArgs))), .t (.row 4 (GBound.trs (y13.gWhere))), .t (.leaf (.bool (y13.gDefault))), .t (.leaf (.bool (y13.gHasAssoc))), .t (.leaf (.int .i64 (y13.gAssoc.gKind))), .t (.leaf (.string (y13.gAssoc.gName))), .t (.row 3 (GType.trs (y13.gAssoc.gArgs))), .t (.row 11 (GMethod.trs (y13.gMethods)))]⟩, some ⟨113, [.t (.leaf (.string (y27.gTrait))), .t (.row 1 (strTrs (y27.gVars))), .t (.leaf (.int .i64 (y27.gHead.gKind))), .t (.leaf (.string (y27.gHead.gName))), .t (.row 3 (GType.trs (y27.gHead.gArgs))), .t (.row 4 (GBound.trs (y27.gWhere))), .t (.leaf (.bool (y27.gDefault))), .t (.leaf (.bool (y27.gHasAssoc))), .t (.leaf (.int .i64 (y27.gAssoc.gKind))), .t (.leaf (.string (y27.gAssoc.gName))), .t (.row 3 (GType.trs (y27.gAssoc.gArgs))), .t (.row 11 (GMethod.trs (y27.gMethods)))]⟩], []⟩ : Sto)] : List Sto).getD j' (⟨[some ⟨31, [.t (.row 6 (GPackage.trs (pa0.gPackages)))]⟩, some ⟨49, [.t (.leaf (.string (pa1.gTrait))), .t (.leaf (.int .i64 (pa1.gType.gKind))), .t (.leaf (.string (pa1.gType.gName))), .t (.row 3 (GType.trs (pa1.gType.gArgs)))]⟩, some ⟨33, [.t (.leaf (.int .i64 (0))), .t (.leaf (.int .i64 (0)))]⟩, some ⟨113, [.t (.leaf (.string (y13.gTrait))), .t (.row 1 (strTrs (y13.gVars))), .t (.leaf (.int .i64 (y13.gHead.gKind))), .t (.leaf (.string (y13.gHead.gName))), .t (.row 3 (GType.trs (y13.gHead.gArgs))), .t (.row 4 (GBound.trs (y13.gWhere))), .t (.leaf (.bool (y13.gDefault))), .t (.leaf (.bool (y13.gHasAssoc))), .t (.leaf (.int .i64 (y13.gAssoc.gKind))), .t (.leaf (.string (y13.gAssoc.gName))), .t (.row 3 (GType.trs (y13.gAssoc.gArgs))), .t (.row 11 (GMethod.trs (y13.gMethods)))]⟩, some ⟨113, [.t (.leaf (.string (y27.gTrait))), .t (.row 1 (strTrs (y27.gVars))), .t (.leaf (.int .i64 (y27.gHead.gKind))), .t (.leaf (.string (y27.gHead.gName))), .t (.row 3 (GType.trs (y27.gHead.gArgs))), .t (.row 4 (GBound.trs (y27.gWhere))), .t (.leaf (.bool (y27.gDefault))), .t (.leaf (.bool (y27.gHasAssoc))), .t (.leaf (.int .i64 (y27.gAssoc.gKind))), .t (.leaf (.string (y27.gAssoc.gName))), .t (.row 3 (GType.trs (y27.gAssoc.gArgs))), .t (.row 11 (GMethod.trs (y27.gMethods)))]⟩], []⟩ : Sto), fun q' => ([some (.ptr 0 0), some (.t (.row 6 (GPackage.trs (pa0.gPackages)))), some (.t (.row 2 (GInstanceRef.trs ((List.filter (GProgram.cand pa0 pa1) (GProgram.allRefs pa0)))))), some (.t (.leaf (.int .i64 (((i15 : Nat) : Int))))), some (.eptr (GInstanceRef.cs y21)), some (.eptr (GInstanceRef.cs y21)), some (.t (.leaf (.int .i64 (y21.gPackage)))), some (.eptr (GPackage.cs y24)), some (.eptr ((GPackage.cs y24).drop 4)), some (.t (.row 12 (GInstance.trs (y24.gInstances)))), some (.t (.row 2 (GInstanceRef.trs ((List.filter (GProgram.cand pa0 pa1) (GProgram.allRefs pa0)))))), some (.t (.leaf (.int .i64 (((i15 : Nat) : Int))))), some (.eptr (GInstanceRef.cs y21)), some (.eptr ((GInstanceRef.cs y21).drop 1)), some (.t (.leaf (.int .i64 (y21.gAt)))), some (.eptr (GInstance.cs y27)), some ((GInstance.pv y27)), some (.ptr 4 0), none] : List (Option PV)).getD q' none, fun q' => ([.q 0 1, .q 0 1, .q 0 1, .q 0 1, .q 0 1, .q 0 1, .q 0 1, .q 0 1, .q 0 1, .q 0 1, .q 0 1, .q 0 1, .q 0 1, .q 0 1, .q 0 1, .q 0 1, .q 0 1, .ef 0, .ef 1] : List DK).getD q' (.q 0 0), [17, 18], none, fun q' => ([[(2, none)], [(44, some 0)], [(6, none)], [(10, none)], [(46, some 2), (47, some 3)], [(48, some 4)], [(49, some 5)], [(45, some 1), (50, some 6)], [(51, some 7)], [(52, some 8)], [(6, none)], [(10, none)], [(54, some 10), (55, some 11)], [(56, some 12)], [(57, some 13)], [(53, some 9), (58, some 14)], [(59, some 15)], [], [(11, some 17), (60, some 16)]] : List (List (Nat × Option Nat))).getD q' []⟩ rfl mixed (by kernel_rfl) rfl rfl ⟨?_, ?_, ?_, ?_, ?_, ?_, ?_, ?_, ?_, ?_, ?_, ?_, ?_, ?_, ?_, ?_, ?_, ?_, ?_, trivial⟩ rfl ?_
                          · refine .inl ⟨rfl, fun s' jj bb (h1 : 0 ≤ jj) (h2 : jj ≤ 1) hs hl => ?_⟩
                            rcases (by omega : jj = 0 ∨ jj = 1) with rfl | rfl <;> exact ⟨_, rfl, AOp.fieldPtr (k := 0) (d := 0) (e := 0) rfl rfl (hl 2 none _ (.head _) rfl) fo31_0⟩
                          · refine .inl ⟨rfl, fun s' jj bb (h1 : 0 ≤ jj) (h2 : jj ≤ 1) hs hl => ?_⟩
                            rcases (by omega : jj = 0 ∨ jj = 1) with rfl | rfl <;> exact ⟨_, rfl, AOp.loadPtr1 rfl rfl (hl 44 (some 0) _ (.head _) rfl) (by rw [hs]; rfl) sh29 rfl⟩
                          · refine .inl ⟨rfl, fun s' jj bb (h1 : 0 ≤ jj) (h2 : jj ≤ 1) hs hl => ?_⟩
                            rcases (by omega : jj = 0 ∨ jj = 1) with rfl | rfl <;> exact ⟨_, rfl, AOp.move (.inl rfl) rfl (hl 6 none _ (.head _) rfl)⟩
                          · refine .inl ⟨rfl, fun s' jj bb (h1 : 0 ≤ jj) (h2 : jj ≤ 1) hs hl => ?_⟩
                            rcases (by omega : jj = 0 ∨ jj = 1) with rfl | rfl <;> exact ⟨_, rfl, AOp.move (.inl rfl) rfl (hl 10 none _ (.head _) rfl)⟩
                          · refine .inl ⟨rfl, fun s' jj bb (h1 : 0 ≤ jj) (h2 : jj ≤ 1) hs hl => ?_⟩
                            rcases (by omega : jj = 0 ∨ jj = 1) with rfl | rfl <;> exact ⟨_, rfl, AOp.index (e := GInstanceRef.cs y21) (k := i15) rfl rfl (hl 46 (some 2) _ (.head _) rfl) rfl (hl 47 (some 3) _ (.tail _ (.head _)) rfl) (by rw [hy22]; exact GInstanceRef.trs_at h20n) el66⟩
                          · refine .inl ⟨rfl, fun s' jj bb (h1 : 0 ≤ jj) (h2 : jj ≤ 1) hs hl => ?_⟩
                            rcases (by omega : jj = 0 ∨ jj = 1) with rfl | rfl <;> exact ⟨_, rfl, AOp.fieldEptr (cs := (GInstanceRef.cs y21)) (e := 0) rfl rfl (hl 48 (some 4) _ (.head _) rfl) fo33_0⟩
                          · refine .inl ⟨rfl, fun s' jj bb (h1 : 0 ≤ jj) (h2 : jj ≤ 1) hs hl => ?_⟩
                            rcases (by omega : jj = 0 ∨ jj = 1) with rfl | rfl <;> exact ⟨_, rfl, AOp.loadEptr1 (d := .leaf (.int .i64 (y21.gPackage))) rfl rfl (hl 49 (some 5) _ (.head _) rfl) sh3 rfl⟩
                          · refine .inl ⟨rfl, fun s' jj bb (h1 : 0 ≤ jj) (h2 : jj ≤ 1) hs hl => ?_⟩
                            rcases (by omega : jj = 0 ∨ jj = 1) with rfl | rfl <;> exact ⟨_, rfl, AOp.indexI (e := GPackage.cs y24) (y := y21.gPackage) rfl rfl (hl 45 (some 1) _ (.head _) rfl) rfl (hl 50 (some 6) _ (.tail _ (.head _)) rfl) (hg23).1 (by rw [hy25]; exact GPackage.trs_at (hg23).2) el29⟩
                          · refine .inl ⟨rfl, fun s' jj bb (h1 : 0 ≤ jj) (h2 : jj ≤ 1) hs hl => ?_⟩
                            rcases (by omega : jj = 0 ∨ jj = 1) with rfl | rfl <;> exact ⟨_, rfl, AOp.fieldEptr (cs := (GPackage.cs y24)) (e := 4) rfl rfl (hl 51 (some 7) _ (.head _) rfl) fo126_4⟩
                          · refine .inl ⟨rfl, fun s' jj bb (h1 : 0 ≤ jj) (h2 : jj ≤ 1) hs hl => ?_⟩
                            rcases (by omega : jj = 0 ∨ jj = 1) with rfl | rfl <;> exact ⟨_, rfl, AOp.loadEptr1 (d := .row 12 (GInstance.trs (y24.gInstances))) rfl rfl (hl 52 (some 8) _ (.head _) rfl) sh123 rfl⟩
                          · refine .inl ⟨rfl, fun s' jj bb (h1 : 0 ≤ jj) (h2 : jj ≤ 1) hs hl => ?_⟩
                            rcases (by omega : jj = 0 ∨ jj = 1) with rfl | rfl <;> exact ⟨_, rfl, AOp.move (.inl rfl) rfl (hl 6 none _ (.head _) rfl)⟩
                          · refine .inl ⟨rfl, fun s' jj bb (h1 : 0 ≤ jj) (h2 : jj ≤ 1) hs hl => ?_⟩
                            rcases (by omega : jj = 0 ∨ jj = 1) with rfl | rfl <;> exact ⟨_, rfl, AOp.move (.inl rfl) rfl (hl 10 none _ (.head _) rfl)⟩
                          · refine .inl ⟨rfl, fun s' jj bb (h1 : 0 ≤ jj) (h2 : jj ≤ 1) hs hl => ?_⟩
                            rcases (by omega : jj = 0 ∨ jj = 1) with rfl | rfl <;> exact ⟨_, rfl, AOp.index (e := GInstanceRef.cs y21) (k := i15) rfl rfl (hl 54 (some 10) _ (.head _) rfl) rfl (hl 55 (some 11) _ (.tail _ (.head _)) rfl) (by rw [hy22]; exact GInstanceRef.trs_at h20n) el66⟩
                          · refine .inl ⟨rfl, fun s' jj bb (h1 : 0 ≤ jj) (h2 : jj ≤ 1) hs hl => ?_⟩
                            rcases (by omega : jj = 0 ∨ jj = 1) with rfl | rfl <;> exact ⟨_, rfl, AOp.fieldEptr (cs := (GInstanceRef.cs y21)) (e := 1) rfl rfl (hl 56 (some 12) _ (.head _) rfl) fo33_1⟩
                          · refine .inl ⟨rfl, fun s' jj bb (h1 : 0 ≤ jj) (h2 : jj ≤ 1) hs hl => ?_⟩
                            rcases (by omega : jj = 0 ∨ jj = 1) with rfl | rfl <;> exact ⟨_, rfl, AOp.loadEptr1 (d := .leaf (.int .i64 (y21.gAt))) rfl rfl (hl 57 (some 13) _ (.head _) rfl) sh3 rfl⟩
                          · refine .inl ⟨rfl, fun s' jj bb (h1 : 0 ≤ jj) (h2 : jj ≤ 1) hs hl => ?_⟩
                            rcases (by omega : jj = 0 ∨ jj = 1) with rfl | rfl <;> exact ⟨_, rfl, AOp.indexI (e := GInstance.cs y27) (y := y21.gAt) rfl rfl (hl 53 (some 9) _ (.head _) rfl) rfl (hl 58 (some 14) _ (.tail _ (.head _)) rfl) (hg26).1 (by rw [hy28]; exact GInstance.trs_at (hg26).2) el123⟩
                          · refine .inl ⟨rfl, fun s' jj bb (h1 : 0 ≤ jj) (h2 : jj ≤ 1) hs hl => ?_⟩
                            rcases (by omega : jj = 0 ∨ jj = 1) with rfl | rfl <;> exact ⟨_, rfl, AOp.loadEptr (ds := [.leaf (.string (y27.gTrait)), .row 1 (strTrs (y27.gVars)), .leaf (.int .i64 (y27.gHead.gKind)), .leaf (.string (y27.gHead.gName)), .row 3 (GType.trs (y27.gHead.gArgs)), .row 4 (GBound.trs (y27.gWhere)), .leaf (.bool (y27.gDefault)), .leaf (.bool (y27.gHasAssoc)), .leaf (.int .i64 (y27.gAssoc.gKind)), .leaf (.string (y27.gAssoc.gName)), .row 3 (GType.trs (y27.gAssoc.gArgs)), .row 11 (GMethod.trs (y27.gMethods))]) rfl rfl (hl 59 (some 15) _ (.head _) rfl) sh113 rfl rfl⟩
                          · refine .inl ⟨rfl, fun s' bb hs hl => ?_⟩
                            refine .inl ⟨_, rfl, AOp.congr (AOp.alloc rfl rfl zr113) ?_⟩
                            first | (rw [hs]; rfl) | rfl
                          · refine .inl ⟨rfl, fun s' bb hs hl => ?_⟩
                            refine .inr ⟨rfl, AOp.congr (AOp.storePtr (cs := [.t (.leaf (.string (y27.gTrait))), .t (.row 1 (strTrs (y27.gVars))), .t (.leaf (.int .i64 (y27.gHead.gKind))), .t (.leaf (.string (y27.gHead.gName))), .t (.row 3 (GType.trs (y27.gHead.gArgs))), .t (.row 4 (GBound.trs (y27.gWhere))), .t (.leaf (.bool (y27.gDefault))), .t (.leaf (.bool (y27.gHasAssoc))), .t (.leaf (.int .i64 (y27.gAssoc.gKind))), .t (.leaf (.string (y27.gAssoc.gName))), .t (.row 3 (GType.trs (y27.gAssoc.gArgs))), .t (.row 11 (GMethod.trs (y27.gMethods)))]) (ds := [.t (.leaf (.string (y27.gTrait))), .t (.row 1 (strTrs (y27.gVars))), .t (.leaf (.int .i64 (y27.gHead.gKind))), .t (.leaf (.string (y27.gHead.gName))), .t (.row 3 (GType.trs (y27.gHead.gArgs))), .t (.row 4 (GBound.trs (y27.gWhere))), .t (.leaf (.bool (y27.gDefault))), .t (.leaf (.bool (y27.gHasAssoc))), .t (.leaf (.int .i64 (y27.gAssoc.gKind))), .t (.leaf (.string (y27.gAssoc.gName))), .t (.row 3 (GType.trs (y27.gAssoc.gArgs))), .t (.row 11 (GMethod.trs (y27.gMethods)))]) rfl (hl 11 (some 17) _ (.head _) rfl) (by rw [hs]; rfl) (hl 60 (some 16) _ (.tail _ (.head _)) rfl) rfl rfl rfl sz113 (Nat.le_of_ble_eq_true rfl) rfl) ?_⟩
                            first | (rw [hs]; rfl) | rfl
                          refine AWP.region_lit ?_
                          refine AL.cons rfl (AOp.move (.inl rfl) rfl rfl) ?_
                          refine AL.cons rfl (AOp.move (.inl rfl) rfl rfl) ?_
                          refine AL.splitB 62 rfl (fun g29 => ?_) (fun g29 => ?_)
                          · skip
                            refine AL.cons_gv rfl rfl rfl g29 (AOp.fieldPtr (k := 4) (d := 0) (e := 2) rfl rfl rfl fo113_2) ?_
                            refine AL.cons_gv rfl rfl rfl g29 (AOp.loadPtr (cs := [.t (.leaf (.int .i64 (y27.gHead.gKind))), .t (.leaf (.string (y27.gHead.gName))), .t (.row 3 (GType.trs (y27.gHead.gArgs)))]) rfl rfl rfl rfl sh47 rfl rfl) ?_
                            refine AL.cons_gv rfl rfl rfl g29 (AOp.fieldPtr (k := 3) (d := 0) (e := 2) rfl rfl rfl fo113_2) ?_
                            refine AL.cons_gv rfl rfl rfl g29 (AOp.loadPtr (cs := [.t (.leaf (.int .i64 (y13.gHead.gKind))), .t (.leaf (.string (y13.gHead.gName))), .t (.row 3 (GType.trs (y13.gHead.gArgs)))]) rfl rfl rfl rfl sh47 rfl rfl) ?_
                            rcases Classical.em (Tr.bulkL (GType.tr y27.gHead) ≤ 68719476735) with hg30 | hg30
                            · skip
                              rcases Classical.em (Tr.bulkL (GType.tr y13.gHead) ≤ 68719476735) with hg31 | hg31
                              · skip
                                refine AL.cons_gv rfl rfl rfl g29 (AOp.callF (res := .t (.leaf (.bool (moreB y27.gHead y13.gHead)))) (ps := [_, _]) rfl rfl Tryz.func85 (by kernel_rfl) rfl rfl leA rfl rfl (sMoreSpecific_fn y27.gHead y13.gHead hg30 hg31)) ?_
                                refine AL.cons_gv rfl rfl rfl g29 (AOp.notB rfl rfl rfl) ?_
                                refine AL.cons rfl (AOp.pickT rfl rfl rfl g29 rfl) ?_
                                refine AL.cons rfl (AOp.move (.inr rfl) rfl rfl) ?_
                                refine AL.nil ?_
                                refine AWP.region_lit ?_
                                refine AL.cons rfl (AOp.move (.inl rfl) rfl rfl) ?_
                                refine AL.cons rfl (AOp.addI rfl rfl rfl rfl (c := ((i15 + 1 : Nat) : Int)) (by omega) (by omega)) ?_
                                refine AL.cons rfl (AOp.move (.inr rfl) rfl rfl) ?_
                                refine AL.nil ?_
                                have e32 : (sSelectInstance_F2 fu pa0 pa1 i3 y7 y10 y13) i15 v16 = some (.next (!(moreB y27.gHead y13.gHead))) := ltE hy22 (gdT hg23 (ltE hy25 (gdT hg26 (ltE hy28 (swT g29 (gdT hg30 (gdT hg31 (rfl))))))))
                                refine ⟨(i15 + 1, (!(moreB y27.gHead y13.gHead))), loopN_next h20l hJ19 e32, ?_, ?_⟩
                                · skip
                                  exact Wk.mk (StLe.mk' ⟨⟨rfl, leA, rfl⟩, ⟨⟨rfl, leA, rfl⟩, ⟨⟨rfl, leA, rfl⟩, ⟨⟨rfl, leA, rfl⟩, trivial⟩⟩⟩⟩ rfl) (keeps_nil hC) ⟨⟨_, rfl, .refl _, rfl⟩, ⟨⟨_, rfl, .refl _, rfl⟩, ⟨⟨_, rfl, .refl _, rfl⟩, ⟨⟨_, rfl, .refl _, rfl⟩, ⟨⟨_, rfl, .refl _, rfl⟩, ⟨⟨_, rfl, .refl _, rfl⟩, ⟨⟨_, rfl, .refl _, rfl⟩, ⟨⟨_, rfl, leA, rfl⟩, ⟨⟨_, rfl, leA, rfl⟩, ⟨⟨_, rfl, .refl _, rfl⟩, ⟨⟨_, rfl, .refl _, rfl⟩, ⟨⟨_, rfl, .refl _, rfl⟩, ⟨⟨_, rfl, .refl _, rfl⟩, ⟨⟨_, rfl, .refl _, rfl⟩, ⟨⟨_, rfl, .refl _, rfl⟩, ⟨⟨_, rfl, .refl _, rfl⟩, ⟨⟨_, rfl, .refl _, rfl⟩, ⟨⟨_, rfl, .refl _, rfl⟩, ⟨⟨_, rfl, .refl _, rfl⟩, ⟨⟨_, rfl, .refl _, rfl⟩, ⟨⟨_, rfl, .refl _, rfl⟩, ⟨⟨_, rfl, .refl _, rfl⟩, ⟨⟨_, rfl, .refl _, rfl⟩, ⟨⟨_, rfl, .refl _, rfl⟩, ⟨⟨_, rfl, .refl _, rfl⟩, ⟨⟨_, rfl, .refl _, rfl⟩, ⟨⟨_, rfl, .refl _, rfl⟩, ⟨⟨_, rfl, .refl _, rfl⟩, ⟨⟨_, rfl, .refl _, rfl⟩, ⟨⟨_, rfl, .refl _, rfl⟩, trivial⟩⟩⟩⟩⟩⟩⟩⟩⟩⟩⟩⟩⟩⟩⟩⟩⟩⟩⟩⟩⟩⟩⟩⟩⟩⟩⟩⟩⟩⟩
                                · dsimp only; omega
                              · skip
                                have e33 : (sSelectInstance_F2 fu pa0 pa1 i3 y7 y10 y13) i15 v16 = none := ltE hy22 (gdT hg23 (ltE hy25 (gdT hg26 (ltE hy28 (swT g29 (gdT hg30 (gdF hg31)))))))
                                have e34 : sSelectInstance_R2 fu pa0 pa1 i3 y7 y10 y13 = none := loopN_non h20l hJ19 e33
                                have e35 : (sSelectInstance_F1 fu pa0 pa1) i3 () = none := ltE hy8 (gdT hg9 (ltE hy11 (gdT hg12 (ltE hy14 (soN e34)))))
                                have e36 : sSelectInstance_R1 fu pa0 pa1 = none := loopN_non h6l hJ5 e35
                                have e37 : sSelectInstance_M fu pa0 pa1 = none := gdT hg1 (gdT hg2 (soN e36))
                                exact none_some H e37
                            · skip
                              have e38 : (sSelectInstance_F2 fu pa0 pa1 i3 y7 y10 y13) i15 v16 = none := ltE hy22 (gdT hg23 (ltE hy25 (gdT hg26 (ltE hy28 (swT g29 (gdF hg30))))))
                              have e39 : sSelectInstance_R2 fu pa0 pa1 i3 y7 y10 y13 = none := loopN_non h20l hJ19 e38
                              have e40 : (sSelectInstance_F1 fu pa0 pa1) i3 () = none := ltE hy8 (gdT hg9 (ltE hy11 (gdT hg12 (ltE hy14 (soN e39)))))
                              have e41 : sSelectInstance_R1 fu pa0 pa1 = none := loopN_non h6l hJ5 e40
                              have e42 : sSelectInstance_M fu pa0 pa1 = none := gdT hg1 (gdT hg2 (soN e41))
                              exact none_some H e42
                          · skip
                            refine AL.skipP rfl rfl rfl g29 rfl rfl ?_
                            refine AL.skipP rfl rfl rfl g29 rfl rfl ?_
                            refine AL.skipP rfl rfl rfl g29 rfl rfl ?_
                            refine AL.skipP rfl rfl rfl g29 rfl rfl ?_
                            refine AL.skipP rfl rfl rfl g29 rfl rfl ?_
                            refine AL.skipP rfl rfl rfl g29 rfl rfl ?_
                            refine AL.cons rfl (AOp.pickF rfl rfl rfl g29 rfl) ?_
                            refine AL.cons rfl (AOp.move (.inr rfl) rfl rfl) ?_
                            refine AL.nil ?_
                            refine AWP.region_lit ?_
                            refine AL.cons rfl (AOp.move (.inl rfl) rfl rfl) ?_
                            refine AL.cons rfl (AOp.addI rfl rfl rfl rfl (c := ((i15 + 1 : Nat) : Int)) (by omega) (by omega)) ?_
                            refine AL.cons rfl (AOp.move (.inr rfl) rfl rfl) ?_
                            refine AL.nil ?_
                            have e43 : (sSelectInstance_F2 fu pa0 pa1 i3 y7 y10 y13) i15 v16 = some (.next false) := ltE hy22 (gdT hg23 (ltE hy25 (gdT hg26 (ltE hy28 (swF g29 (rfl))))))
                            refine ⟨(i15 + 1, false), loopN_next h20l hJ19 e43, ?_, ?_⟩
                            · skip
                              exact Wk.mk (StLe.mk' ⟨⟨rfl, leA, rfl⟩, ⟨⟨rfl, leA, rfl⟩, ⟨⟨rfl, leA, rfl⟩, ⟨⟨rfl, leA, rfl⟩, trivial⟩⟩⟩⟩ rfl) (keeps_nil hC) ⟨⟨_, rfl, .refl _, rfl⟩, ⟨⟨_, rfl, .refl _, rfl⟩, ⟨⟨_, rfl, .refl _, rfl⟩, ⟨⟨_, rfl, .refl _, rfl⟩, ⟨⟨_, rfl, .refl _, rfl⟩, ⟨⟨_, rfl, .refl _, rfl⟩, ⟨⟨_, rfl, .refl _, rfl⟩, ⟨⟨_, rfl, leA, rfl⟩, ⟨⟨_, rfl, leA, rfl⟩, ⟨⟨_, rfl, .refl _, rfl⟩, ⟨⟨_, rfl, .refl _, rfl⟩, ⟨⟨_, rfl, .refl _, rfl⟩, ⟨⟨_, rfl, .refl _, rfl⟩, ⟨⟨_, rfl, .refl _, rfl⟩, ⟨⟨_, rfl, .refl _, rfl⟩, ⟨⟨_, rfl, .refl _, rfl⟩, ⟨⟨_, rfl, .refl _, rfl⟩, ⟨⟨_, rfl, .refl _, rfl⟩, ⟨⟨_, rfl, .refl _, rfl⟩, ⟨⟨_, rfl, .refl _, rfl⟩, ⟨⟨_, rfl, .refl _, rfl⟩, ⟨⟨_, rfl, .refl _, rfl⟩, ⟨⟨_, rfl, .refl _, rfl⟩, ⟨⟨_, rfl, .refl _, rfl⟩, ⟨⟨_, rfl, .refl _, rfl⟩, ⟨⟨_, rfl, .refl _, rfl⟩, ⟨⟨_, rfl, .refl _, rfl⟩, ⟨⟨_, rfl, .refl _, rfl⟩, ⟨⟨_, rfl, .refl _, rfl⟩, ⟨⟨_, rfl, .refl _, rfl⟩, trivial⟩⟩⟩⟩⟩⟩⟩⟩⟩⟩⟩⟩⟩⟩⟩⟩⟩⟩⟩⟩⟩⟩⟩⟩⟩⟩⟩⟩⟩⟩
                            · dsimp only; omega
                        · skip
                          have e44 : (sSelectInstance_F2 fu pa0 pa1 i3 y7 y10 y13) i15 v16 = none := ltE hy22 (gdT hg23 (ltE hy25 (gdF hg26)))
                          have e45 : sSelectInstance_R2 fu pa0 pa1 i3 y7 y10 y13 = none := loopN_non h20l hJ19 e44
                          have e46 : (sSelectInstance_F1 fu pa0 pa1) i3 () = none := ltE hy8 (gdT hg9 (ltE hy11 (gdT hg12 (ltE hy14 (soN e45)))))
                          have e47 : sSelectInstance_R1 fu pa0 pa1 = none := loopN_non h6l hJ5 e46
                          have e48 : sSelectInstance_M fu pa0 pa1 = none := gdT hg1 (gdT hg2 (soN e47))
                          exact none_some H e48
                      · skip
                        have e49 : (sSelectInstance_F2 fu pa0 pa1 i3 y7 y10 y13) i15 v16 = none := ltE hy22 (gdF hg23)
                        have e50 : sSelectInstance_R2 fu pa0 pa1 i3 y7 y10 y13 = none := loopN_non h20l hJ19 e49
                        have e51 : (sSelectInstance_F1 fu pa0 pa1) i3 () = none := ltE hy8 (gdT hg9 (ltE hy11 (gdT hg12 (ltE hy14 (soN e50)))))
                        have e52 : sSelectInstance_R1 fu pa0 pa1 = none := loopN_non h6l hJ5 e51
                        have e53 : sSelectInstance_M fu pa0 pa1 = none := gdT hg1 (gdT hg2 (soN e52))
                        exact none_some H e53
                    · skip
                      have h20l : (List.filter (GProgram.cand pa0 pa1) (GProgram.allRefs pa0)).length ≤ i15 := nat_ge_of2 h20
                      refine AWP.exit ?_
                      refine ⟨v16, loopN_end h20l hJ19, ?_⟩
                      exact Wk.mk (StLe.mk' ⟨⟨rfl, leA, rfl⟩, ⟨⟨rfl, leA, rfl⟩, ⟨⟨rfl, leA, rfl⟩, ⟨⟨rfl, leA, rfl⟩, trivial⟩⟩⟩⟩ rfl) (keeps_nil hC) ⟨⟨_, rfl, .refl _, rfl⟩, ⟨⟨_, rfl, .refl _, rfl⟩, ⟨⟨_, rfl, .refl _, rfl⟩, ⟨⟨_, rfl, .refl _, rfl⟩, ⟨⟨_, rfl, .refl _, rfl⟩, ⟨⟨_, rfl, .refl _, rfl⟩, ⟨⟨_, rfl, .refl _, rfl⟩, ⟨⟨_, rfl, .refl _, rfl⟩, ⟨⟨_, rfl, .refl _, rfl⟩, ⟨⟨_, rfl, .refl _, rfl⟩, ⟨⟨_, rfl, .refl _, rfl⟩, ⟨⟨_, rfl, .refl _, rfl⟩, ⟨⟨_, rfl, .refl _, rfl⟩, ⟨⟨_, rfl, .refl _, rfl⟩, ⟨⟨_, rfl, .refl _, rfl⟩, ⟨⟨_, rfl, .refl _, rfl⟩, ⟨⟨_, rfl, .refl _, rfl⟩, ⟨⟨_, rfl, .refl _, rfl⟩, ⟨⟨_, rfl, .refl _, rfl⟩, ⟨⟨_, rfl, .refl _, rfl⟩, ⟨⟨_, rfl, .refl _, rfl⟩, ⟨⟨_, rfl, .refl _, rfl⟩, ⟨⟨_, rfl, .refl _, rfl⟩, ⟨⟨_, rfl, .refl _, rfl⟩, ⟨⟨_, rfl, .refl _, rfl⟩, ⟨⟨_, rfl, .refl _, rfl⟩, ⟨⟨_, rfl, .refl _, rfl⟩, ⟨⟨_, rfl, .refl _, rfl⟩, ⟨⟨_, rfl, .refl _, rfl⟩, trivial⟩⟩⟩⟩⟩⟩⟩⟩⟩⟩⟩⟩⟩⟩⟩⟩⟩⟩⟩⟩⟩⟩⟩⟩⟩⟩⟩⟩⟩
                · rintro v16 hR54
                  refine AWP.seq ?_
                  refine AWP.cut (ι := Bool × Bool × Bool) (fun (v55, v56, v57) => sSelectInstance_C3 fu pa0 pa1 i3 y7 y10 y13 v16 = some (.inr (v55, v56, v57))) (fun (v55, v56, v57) => ⟨[(2, .ptr 0 0), (3, .ptr 1 0), (4, .ptr 2 0), (5, .t (.leaf (.int .i64 (0)))), (6, .t (.row 2 (GInstanceRef.trs ((List.filter (GProgram.cand pa0 pa1) (GProgram.allRefs pa0)))))), (7, .t (.leaf (.int .i64 (((i3 : Nat) : Int))))), (8, .ptr 3 0), (9, .t (.leaf (.bool (v16)))), (15, .t (.leaf (.int .i64 (((i3 : Nat) : Int))))), (16, .t (.row 2 (GInstanceRef.trs ((List.filter (GProgram.cand pa0 pa1) (GProgram.allRefs pa0)))))), (17, .t (.leaf (.int .i64 ((((List.filter (GProgram.cand pa0 pa1) (GProgram.allRefs pa0)).length : Nat) : Int))))), (18, .t (.leaf (.bool (decide ((((i3 : Nat) : Int) : Int) < (((List.filter (GProgram.cand pa0 pa1) (GProgram.allRefs pa0)).length : Nat) : Int)))))), (21, .ptr 0 0), (22, .t (.row 6 (GPackage.trs (pa0.gPackages)))), (23, .t (.row 2 (GInstanceRef.trs ((List.filter (GProgram.cand pa0 pa1) (GProgram.allRefs pa0)))))), (24, .t (.leaf (.int .i64 (((i3 : Nat) : Int))))), (25, .eptr (GInstanceRef.cs y7)), (26, .eptr (GInstanceRef.cs y7)), (27, .t (.leaf (.int .i64 (y7.gPackage)))), (28, .eptr (GPackage.cs y10)), (29, .eptr ((GPackage.cs y10).drop 4)), (30, .t (.row 12 (GInstance.trs (y10.gInstances)))), (31, .t (.row 2 (GInstanceRef.trs ((List.filter (GProgram.cand pa0 pa1) (GProgram.allRefs pa0)))))), (32, .t (.leaf (.int .i64 (((i3 : Nat) : Int))))), (33, .eptr (GInstanceRef.cs y7)), (34, .eptr ((GInstanceRef.cs y7).drop 1)), (35, .t (.leaf (.int .i64 (y7.gAt)))), (36, .eptr (GInstance.cs y13)), (37, (GInstance.pv y13)), (70, .t (.leaf (.bool (v16)))), (71, .t (.leaf (.bool (v16)))), (74, .t (.leaf (.bool (v55)))), (75, .t (.leaf (.bool (v56)))), (80, .t (.leaf (.bool (v57))))], ⟨[some ⟨31, [.t (.row 6 (GPackage.trs (pa0.gPackages)))]⟩, some ⟨49, [.t (.leaf (.string (pa1.gTrait))), .t (.leaf (.int .i64 (pa1.gType.gKind))), .t (.leaf (.string (pa1.gType.gName))), .t (.row 3 (GType.trs (pa1.gType.gArgs)))]⟩, some ⟨33, [.t (.leaf (.int .i64 (0))), .t (.leaf (.int .i64 (0)))]⟩, some ⟨113, [.t (.leaf (.string (y13.gTrait))), .t (.row 1 (strTrs (y13.gVars))), .t (.leaf (.int .i64 (y13.gHead.gKind))), .t (.leaf (.string (y13.gHead.gName))), .t (.row 3 (GType.trs (y13.gHead.gArgs))), .t (.row 4 (GBound.trs (y13.gWhere))), .t (.leaf (.bool (y13.gDefault))), .t (.leaf (.bool (y13.gHasAssoc))), .t (.leaf (.int .i64 (y13.gAssoc.gKind))), .t (.leaf (.string (y13.gAssoc.gName))), .t (.row 3 (GType.trs (y13.gAssoc.gArgs))), .t (.row 11 (GMethod.trs (y13.gMethods)))]⟩], []⟩⟩) (by repeat' (first | exact qcEnds | exact ncAWP | exact ncRound | exact ncEx | apply qcThen | apply qcBlock | apply qcCut)) ?_ ?_
                  · skip
                    refine AWP.seq ?_
                    refine AWP.region_lit ?_
                    refine AL.cons rfl (AOp.move (.inl rfl) rfl rfl) ?_
                    refine AL.cons rfl (AOp.move (.inl rfl) rfl rfl) ?_
                    refine AL.splitB 71 rfl (fun g58 => ?_) (fun g58 => ?_)
                    · skip
                      refine AL.cons_gv rfl rfl rfl g58 (AOp.fieldPtr (k := 3) (d := 0) (e := 6) rfl rfl rfl fo113_4) ?_
                      refine AL.cons_gv rfl rfl rfl g58 (AOp.loadPtr1 rfl rfl rfl rfl sh4 rfl) ?_
                      refine AL.cons rfl (AOp.pickT rfl rfl rfl g58 rfl) ?_
                      refine AL.cons rfl (AOp.move (.inl rfl) rfl rfl) ?_
                      refine AL.splitB 75 rfl (fun g59 => ?_) (fun g59 => ?_)
                      · skip
                        refine AL.cons_gv rfl rfl rfl g59 (AOp.fieldPtr (k := 1) (d := 0) (e := 1) rfl rfl rfl fo49_1) ?_
                        refine AL.cons_gv rfl rfl rfl g59 (AOp.loadPtr (cs := [.t (.leaf (.int .i64 (pa1.gType.gKind))), .t (.leaf (.string (pa1.gType.gName))), .t (.row 3 (GType.trs (pa1.gType.gArgs)))]) rfl rfl rfl rfl sh47 rfl rfl) ?_
                        rcases Classical.em (Tr.bulkL (GType.tr pa1.gType) ≤ 68719476735) with hg60 | hg60
                        · skip
                          refine AL.cons_gv rfl rfl rfl g59 (AOp.callF (res := .t (.leaf (.bool (GType.ground pa1.gType)))) (ps := [_]) rfl rfl Tryz.func86 (by kernel_rfl) rfl rfl leA rfl rfl (sIsGround_fn pa1.gType hg60)) ?_
                          refine AL.cons_gv rfl rfl rfl g59 (AOp.notB rfl rfl rfl) ?_
                          refine AL.cons rfl (AOp.pickT rfl rfl rfl g59 rfl) ?_
                          refine AL.nil ?_
                          refine AWP.cond rfl (fun h61 => ?_) (fun h61 => ?_)
                          · skip
                            refine AWP.seq ?_
                            refine AWP.region_lit ?_
                            refine AL.cons rfl (AOp.build rfl rfl zr33 pl33 rfl rfl) ?_
                            refine AL.cons rfl (AOp.storePtr (cs := [.t (.leaf (.int .i64 (0))), .t (.leaf (.int .i64 (0)))]) (ds := [.t (.leaf (.int .i64 (0))), .t (.leaf (.int .i64 (0)))]) rfl rfl rfl rfl rfl rfl rfl sz33 (Nat.le_of_ble_eq_true rfl) rfl) ?_
                            refine AL.cons rfl (AOp.move (.inr rfl) rfl rfl) ?_
                            refine AL.nil ?_
                            refine AWP.ret ?_
                            have e62 : sSelectInstance_C3 fu pa0 pa1 i3 y7 y10 y13 v16 = some (.inl (.ret ((GInstanceRef.mk 0 0), 2))) := swT g58 (swT g59 (gdT hg60 (swT h61 (rfl))))
                            have e63 : (sSelectInstance_F1 fu pa0 pa1) i3 () = some (.ret ((GInstanceRef.mk 0 0), 2)) := ltE hy8 (gdT hg9 (ltE hy11 (gdT hg12 (ltE hy14 (soR hR54 (soL e62))))))
                            have e64 : sSelectInstance_R1 fu pa0 pa1 = some (.inl ((GInstanceRef.mk 0 0), 2)) := loopN_ret h6l hJ5 e63
                            have e65 : sSelectInstance_M fu pa0 pa1 = some ((GInstanceRef.mk 0 0), 2) := gdT hg1 (gdT hg2 (soL e64))
                            have hz : ((GInstanceRef.mk 0 0), 2) = r := Option.some.inj (e65.symm.trans H)
                            subst hz
                            exact Ends.mk (ps := [_, _]) (by first | exact .inr rfl | exact .inl rfl) ⟨⟨_, _, _, rfl, rfl, sh33, rfl, rfl⟩, rfl, trivial⟩ rfl (StLe.mk' (st' := ⟨[], []⟩) trivial rfl) (keeps_nil hC) (q := (.tup [(GInstanceRef.pv (GInstanceRef.mk 0 0)), .t (.leaf (.int .i64 (2)))] : PV)) leA rfl ⟨rfl, rfl⟩
                          · skip
                            refine AWP.skip ?_
                            have e66 : sSelectInstance_C3 fu pa0 pa1 i3 y7 y10 y13 v16 = some (.inr (y13.gDefault, y13.gDefault, (!(GType.ground pa1.gType)))) := swT g58 (swT g59 (gdT hg60 (swF h61 (rfl))))
                            refine ⟨(y13.gDefault, y13.gDefault, (!(GType.ground pa1.gType))), e66, ?_⟩
                            exact Wk.mk (StLe.mk' ⟨⟨rfl, leA, rfl⟩, ⟨⟨rfl, leA, rfl⟩, ⟨⟨rfl, leA, rfl⟩, ⟨⟨rfl, leA, rfl⟩, trivial⟩⟩⟩⟩ rfl) (keeps_nil hC) ⟨⟨_, rfl, .refl _, rfl⟩, ⟨⟨_, rfl, .refl _, rfl⟩, ⟨⟨_, rfl, .refl _, rfl⟩, ⟨⟨_, rfl, .refl _, rfl⟩, ⟨⟨_, rfl, .refl _, rfl⟩, ⟨⟨_, rfl, .refl _, rfl⟩, ⟨⟨_, rfl, .refl _, rfl⟩, ⟨⟨_, rfl, .refl _, rfl⟩, ⟨⟨_, rfl, .refl _, rfl⟩, ⟨⟨_, rfl, .refl _, rfl⟩, ⟨⟨_, rfl, .refl _, rfl⟩, ⟨⟨_, rfl, .refl _, rfl⟩, ⟨⟨_, rfl, .refl _, rfl⟩, ⟨⟨_, rfl, .refl _, rfl⟩, ⟨⟨_, rfl, .refl _, rfl⟩, ⟨⟨_, rfl, .refl _, rfl⟩, ⟨⟨_, rfl, .refl _, rfl⟩, ⟨⟨_, rfl, .refl _, rfl⟩, ⟨⟨_, rfl, .refl _, rfl⟩, ⟨⟨_, rfl, .refl _, rfl⟩, ⟨⟨_, rfl, .refl _, rfl⟩, ⟨⟨_, rfl, .refl _, rfl⟩, ⟨⟨_, rfl, .refl _, rfl⟩, ⟨⟨_, rfl, .refl _, rfl⟩, ⟨⟨_, rfl, .refl _, rfl⟩, ⟨⟨_, rfl, .refl _, rfl⟩, ⟨⟨_, rfl, .refl _, rfl⟩, ⟨⟨_, rfl, .refl _, rfl⟩, ⟨⟨_, rfl, .refl _, rfl⟩, ⟨⟨_, rfl, .refl _, rfl⟩, ⟨⟨_, rfl, .refl _, rfl⟩, ⟨⟨_, rfl, leA, rfl⟩, ⟨⟨_, rfl, leA, rfl⟩, ⟨⟨_, rfl, leA, rfl⟩, trivial⟩⟩⟩⟩⟩⟩⟩⟩⟩⟩⟩⟩⟩⟩⟩⟩⟩⟩⟩⟩⟩⟩⟩⟩⟩⟩⟩⟩⟩⟩⟩⟩⟩⟩
                        · skip
                          have e67 : sSelectInstance_C3 fu pa0 pa1 i3 y7 y10 y13 v16 = none := swT g58 (swT g59 (gdF hg60))
                          have e68 : (sSelectInstance_F1 fu pa0 pa1) i3 () = none := ltE hy8 (gdT hg9 (ltE hy11 (gdT hg12 (ltE hy14 (soR hR54 (soN e67))))))
                          have e69 : sSelectInstance_R1 fu pa0 pa1 = none := loopN_non h6l hJ5 e68
                          have e70 : sSelectInstance_M fu pa0 pa1 = none := gdT hg1 (gdT hg2 (soN e69))
                          exact none_some H e70
                      · skip
                        refine AL.skipP rfl rfl rfl g59 rfl rfl ?_
                        refine AL.skipP rfl rfl rfl g59 rfl rfl ?_
                        refine AL.skipP rfl rfl rfl g59 rfl rfl ?_
                        refine AL.skipP rfl rfl rfl g59 rfl rfl ?_
                        refine AL.cons rfl (AOp.pickF rfl rfl rfl g59 rfl) ?_
                        refine AL.nil ?_
                        refine AWP.cond rfl (fun h71 => ?_) (fun h71 => ?_)
                        · skip
                          exact absurd (h71.symm.trans rfl) (by decide)
                        · skip
                          refine AWP.skip ?_
                          have e72 : sSelectInstance_C3 fu pa0 pa1 i3 y7 y10 y13 v16 = some (.inr (y13.gDefault, y13.gDefault, false)) := swT g58 (swF g59 (rfl))
                          refine ⟨(y13.gDefault, y13.gDefault, false), e72, ?_⟩
                          exact Wk.mk (StLe.mk' ⟨⟨rfl, leA, rfl⟩, ⟨⟨rfl, leA, rfl⟩, ⟨⟨rfl, leA, rfl⟩, ⟨⟨rfl, leA, rfl⟩, trivial⟩⟩⟩⟩ rfl) (keeps_nil hC) ⟨⟨_, rfl, .refl _, rfl⟩, ⟨⟨_, rfl, .refl _, rfl⟩, ⟨⟨_, rfl, .refl _, rfl⟩, ⟨⟨_, rfl, .refl _, rfl⟩, ⟨⟨_, rfl, .refl _, rfl⟩, ⟨⟨_, rfl, .refl _, rfl⟩, ⟨⟨_, rfl, .refl _, rfl⟩, ⟨⟨_, rfl, .refl _, rfl⟩, ⟨⟨_, rfl, .refl _, rfl⟩, ⟨⟨_, rfl, .refl _, rfl⟩, ⟨⟨_, rfl, .refl _, rfl⟩, ⟨⟨_, rfl, .refl _, rfl⟩, ⟨⟨_, rfl, .refl _, rfl⟩, ⟨⟨_, rfl, .refl _, rfl⟩, ⟨⟨_, rfl, .refl _, rfl⟩, ⟨⟨_, rfl, .refl _, rfl⟩, ⟨⟨_, rfl, .refl _, rfl⟩, ⟨⟨_, rfl, .refl _, rfl⟩, ⟨⟨_, rfl, .refl _, rfl⟩, ⟨⟨_, rfl, .refl _, rfl⟩, ⟨⟨_, rfl, .refl _, rfl⟩, ⟨⟨_, rfl, .refl _, rfl⟩, ⟨⟨_, rfl, .refl _, rfl⟩, ⟨⟨_, rfl, .refl _, rfl⟩, ⟨⟨_, rfl, .refl _, rfl⟩, ⟨⟨_, rfl, .refl _, rfl⟩, ⟨⟨_, rfl, .refl _, rfl⟩, ⟨⟨_, rfl, .refl _, rfl⟩, ⟨⟨_, rfl, .refl _, rfl⟩, ⟨⟨_, rfl, .refl _, rfl⟩, ⟨⟨_, rfl, .refl _, rfl⟩, ⟨⟨_, rfl, leA, rfl⟩, ⟨⟨_, rfl, leA, rfl⟩, ⟨⟨_, rfl, leA, rfl⟩, trivial⟩⟩⟩⟩⟩⟩⟩⟩⟩⟩⟩⟩⟩⟩⟩⟩⟩⟩⟩⟩⟩⟩⟩⟩⟩⟩⟩⟩⟩⟩⟩⟩⟩⟩
                    · skip
                      refine AL.skipP rfl rfl rfl g58 rfl rfl ?_
                      refine AL.skipP rfl rfl rfl g58 rfl rfl ?_
                      refine AL.cons rfl (AOp.pickF rfl rfl rfl g58 rfl) ?_
                      refine AL.cons rfl (AOp.move (.inl rfl) rfl rfl) ?_
                      refine AL.skipP rfl rfl rfl rfl rfl rfl ?_
                      refine AL.skipP rfl rfl rfl rfl rfl rfl ?_
                      refine AL.skipP rfl rfl rfl rfl rfl rfl ?_
                      refine AL.skipP rfl rfl rfl rfl rfl rfl ?_
                      refine AL.cons rfl (AOp.pickF rfl rfl rfl rfl rfl) ?_
                      refine AL.nil ?_
                      refine AWP.cond rfl (fun h73 => ?_) (fun h73 => ?_)
                      · skip
                        exact absurd (h73.symm.trans rfl) (by decide)
                      · skip
                        refine AWP.skip ?_
                        have e74 : sSelectInstance_C3 fu pa0 pa1 i3 y7 y10 y13 v16 = some (.inr (false, false, false)) := swF g58 (rfl)
                        refine ⟨(false, false, false), e74, ?_⟩
                        exact Wk.mk (StLe.mk' ⟨⟨rfl, leA, rfl⟩, ⟨⟨rfl, leA, rfl⟩, ⟨⟨rfl, leA, rfl⟩, ⟨⟨rfl, leA, rfl⟩, trivial⟩⟩⟩⟩ rfl) (keeps_nil hC) ⟨⟨_, rfl, .refl _, rfl⟩, ⟨⟨_, rfl, .refl _, rfl⟩, ⟨⟨_, rfl, .refl _, rfl⟩, ⟨⟨_, rfl, .refl _, rfl⟩, ⟨⟨_, rfl, .refl _, rfl⟩, ⟨⟨_, rfl, .refl _, rfl⟩, ⟨⟨_, rfl, .refl _, rfl⟩, ⟨⟨_, rfl, .refl _, rfl⟩, ⟨⟨_, rfl, .refl _, rfl⟩, ⟨⟨_, rfl, .refl _, rfl⟩, ⟨⟨_, rfl, .refl _, rfl⟩, ⟨⟨_, rfl, .refl _, rfl⟩, ⟨⟨_, rfl, .refl _, rfl⟩, ⟨⟨_, rfl, .refl _, rfl⟩, ⟨⟨_, rfl, .refl _, rfl⟩, ⟨⟨_, rfl, .refl _, rfl⟩, ⟨⟨_, rfl, .refl _, rfl⟩, ⟨⟨_, rfl, .refl _, rfl⟩, ⟨⟨_, rfl, .refl _, rfl⟩, ⟨⟨_, rfl, .refl _, rfl⟩, ⟨⟨_, rfl, .refl _, rfl⟩, ⟨⟨_, rfl, .refl _, rfl⟩, ⟨⟨_, rfl, .refl _, rfl⟩, ⟨⟨_, rfl, .refl _, rfl⟩, ⟨⟨_, rfl, .refl _, rfl⟩, ⟨⟨_, rfl, .refl _, rfl⟩, ⟨⟨_, rfl, .refl _, rfl⟩, ⟨⟨_, rfl, .refl _, rfl⟩, ⟨⟨_, rfl, .refl _, rfl⟩, ⟨⟨_, rfl, .refl _, rfl⟩, ⟨⟨_, rfl, .refl _, rfl⟩, ⟨⟨_, rfl, leA, rfl⟩, ⟨⟨_, rfl, leA, rfl⟩, ⟨⟨_, rfl, leA, rfl⟩, trivial⟩⟩⟩⟩⟩⟩⟩⟩⟩⟩⟩⟩⟩⟩⟩⟩⟩⟩⟩⟩⟩⟩⟩⟩⟩⟩⟩⟩⟩⟩⟩⟩⟩⟩
                  · rintro ⟨v55, v56, v57⟩ hR75
                    refine AWP.seq ?_
                    refine AWP.region_lit ?_
                    refine AL.cons rfl (AOp.move (.inl rfl) rfl rfl) ?_
                    refine AL.nil ?_
                    refine AWP.cond rfl (fun h76 => ?_) (fun h76 => ?_)
                    · skip
                      refine AWP.seq ?_
                      refine AWP.region_lit ?_
                      refine AL.cons rfl (AOp.move (.inl rfl) rfl rfl) ?_
                      refine AL.cons rfl (AOp.move (.inl rfl) rfl rfl) ?_
                      refine AL.cons rfl (AOp.index (e := GInstanceRef.cs y7) (k := i3) rfl rfl rfl rfl rfl (by rw [hy8]; exact GInstanceRef.trs_at h6n) el66) ?_
                      refine AL.cons rfl (AOp.loadEptr (ds := [.leaf (.int .i64 (y7.gPackage)), .leaf (.int .i64 (y7.gAt))]) rfl rfl rfl sh33 rfl rfl) ?_
                      refine AL.cons rfl (AOp.storePtr (cs := [.t (.leaf (.int .i64 (y7.gPackage))), .t (.leaf (.int .i64 (y7.gAt)))]) (ds := [.t (.leaf (.int .i64 (y7.gPackage))), .t (.leaf (.int .i64 (y7.gAt)))]) rfl rfl rfl rfl rfl rfl rfl sz33 (Nat.le_of_ble_eq_true rfl) rfl) ?_
                      refine AL.cons rfl (AOp.move (.inr rfl) rfl rfl) ?_
                      refine AL.nil ?_
                      refine AWP.ret ?_
                      have e77 : (sSelectInstance_F1 fu pa0 pa1) i3 () = some (.ret (y7, 0)) := ltE hy8 (gdT hg9 (ltE hy11 (gdT hg12 (ltE hy14 (soR hR54 (soR hR75 (swT h76 (rfl))))))))
                      have e78 : sSelectInstance_R1 fu pa0 pa1 = some (.inl (y7, 0)) := loopN_ret h6l hJ5 e77
                      have e79 : sSelectInstance_M fu pa0 pa1 = some (y7, 0) := gdT hg1 (gdT hg2 (soL e78))
                      have hz : (y7, 0) = r := Option.some.inj (e79.symm.trans H)
                      subst hz
                      exact Ends.mk (ps := [_, _]) (by first | exact .inr rfl | exact .inl rfl) ⟨⟨_, _, _, rfl, rfl, sh33, rfl, rfl⟩, rfl, trivial⟩ rfl (StLe.mk' (st' := ⟨[], []⟩) trivial rfl) (keeps_nil hC) (q := (.tup [(GInstanceRef.pv y7), .t (.leaf (.int .i64 (0)))] : PV)) leA rfl ⟨rfl, rfl⟩
                    · skip
                      refine AWP.skip ?_
                      refine AWP.region_lit ?_
                      refine AL.cons rfl (AOp.move (.inl rfl) rfl rfl) ?_
                      refine AL.cons rfl (AOp.addI rfl rfl rfl rfl (c := ((i3 + 1 : Nat) : Int)) (by omega) (by omega)) ?_
                      refine AL.cons rfl (AOp.move (.inr rfl) rfl rfl) ?_
                      refine AL.nil ?_
                      have e80 : (sSelectInstance_F1 fu pa0 pa1) i3 () = some (.next ()) := ltE hy8 (gdT hg9 (ltE hy11 (gdT hg12 (ltE hy14 (soR hR54 (soR hR75 (swF h76 (rfl))))))))
                      refine ⟨(i3 + 1, ()), loopN_next h6l hJ5 e80, ?_, ?_⟩
                      · skip
                        exact Wk.mk (StLe.mk' ⟨⟨rfl, leA, rfl⟩, ⟨⟨rfl, leA, rfl⟩, ⟨⟨rfl, leA, rfl⟩, trivial⟩⟩⟩ rfl) (keeps_nil hC) ⟨⟨_, rfl, .refl _, rfl⟩, ⟨⟨_, rfl, .refl _, rfl⟩, ⟨⟨_, rfl, .refl _, rfl⟩, ⟨⟨_, rfl, .refl _, rfl⟩, ⟨⟨_, rfl, .refl _, rfl⟩, ⟨⟨_, rfl, leA, rfl⟩, trivial⟩⟩⟩⟩⟩⟩
                      · dsimp only; omega
              · skip
                have e81 : (sSelectInstance_F1 fu pa0 pa1) i3 () = none := ltE hy8 (gdT hg9 (ltE hy11 (gdF hg12)))
                have e82 : sSelectInstance_R1 fu pa0 pa1 = none := loopN_non h6l hJ5 e81
                have e83 : sSelectInstance_M fu pa0 pa1 = none := gdT hg1 (gdT hg2 (soN e82))
                exact none_some H e83
            · skip
              have e84 : (sSelectInstance_F1 fu pa0 pa1) i3 () = none := ltE hy8 (gdF hg9)
              have e85 : sSelectInstance_R1 fu pa0 pa1 = none := loopN_non h6l hJ5 e84
              have e86 : sSelectInstance_M fu pa0 pa1 = none := gdT hg1 (gdT hg2 (soN e85))
              exact none_some H e86
          · skip
            have h6l : (List.filter (GProgram.cand pa0 pa1) (GProgram.allRefs pa0)).length ≤ i3 := nat_ge_of2 h6
            refine AWP.exit ?_
            refine ⟨(), loopN_end h6l hJ5, ?_⟩
            exact Wk.mk (StLe.mk' ⟨⟨rfl, leA, rfl⟩, ⟨⟨rfl, leA, rfl⟩, ⟨⟨rfl, leA, rfl⟩, trivial⟩⟩⟩ rfl) (keeps_nil hC) ⟨⟨_, rfl, .refl _, rfl⟩, ⟨⟨_, rfl, .refl _, rfl⟩, trivial⟩⟩
      · rintro ⟨⟩ hR87
        refine AWP.seq ?_
        refine AWP.region_lit ?_
        refine AL.cons rfl (AOp.build rfl rfl zr33 pl33 rfl rfl) ?_
        refine AL.cons rfl (AOp.storePtr (cs := [.t (.leaf (.int .i64 (0))), .t (.leaf (.int .i64 (0)))]) (ds := [.t (.leaf (.int .i64 (0))), .t (.leaf (.int .i64 (0)))]) rfl rfl rfl rfl rfl rfl rfl sz33 (Nat.le_of_ble_eq_true rfl) rfl) ?_
        refine AL.cons rfl (AOp.move (.inr rfl) rfl rfl) ?_
        refine AL.nil ?_
        refine AWP.ret ?_
        have e88 : sSelectInstance_M fu pa0 pa1 = some ((GInstanceRef.mk 0 0), 1) := gdT hg1 (gdT hg2 (soR hR87 (rfl)))
        have hz : ((GInstanceRef.mk 0 0), 1) = r := Option.some.inj (e88.symm.trans H)
        subst hz
        exact Ends.mk (ps := [_, _]) (by first | exact .inr rfl | exact .inl rfl) ⟨⟨_, _, _, rfl, rfl, sh33, rfl, rfl⟩, rfl, trivial⟩ rfl (StLe.mk' (st' := ⟨[], []⟩) trivial rfl) (keeps_nil hC) (q := (.tup [(GInstanceRef.pv (GInstanceRef.mk 0 0)), .t (.leaf (.int .i64 (1)))] : PV)) leA rfl ⟨rfl, rfl⟩
    · skip
      have e89 : sSelectInstance_M fu pa0 pa1 = none := gdT hg1 (gdF hg2)
      exact none_some H e89
  · skip
    have e90 : sSelectInstance_M fu pa0 pa1 = none := gdF hg1
    exact none_some H e90

noncomputable def iSelectInstance_1_M (fu : Nat)  (pother : GInstanceRef) (c1 : GProgram) (c2 : GInstance) : Option Bool :=
 gd (Tr.bulkL (GType.tr ((oInst (GProgram.instAt c1 pother)).gHead)) ≤ 68719476735)
 (gd (Tr.bulkL (GType.tr c2.gHead) ≤ 68719476735)
 (some (moreB ((oInst (GProgram.instAt c1 pother)).gHead) c2.gHead)))
set_option maxRecDepth 100000 in
set_option maxHeartbeats 4000000 in
theorem iSelectInstance_1_ok  (fu : Nat)  (pother : GInstanceRef) (c1 : GProgram) (c2 : GInstance) (r : Bool) (H : iSelectInstance_1_M fu pother c1 c2 = some r) : ACalls Tryz.prog 88 [(GInstanceRef.pv pother), .ptr 0 0, .ptr 1 0] ⟨[some ⟨31, [.t (.row 6 (GPackage.trs (c1.gPackages)))]⟩, some ⟨113, [.t (.leaf (.string (c2.gTrait))), .t (.row 1 (strTrs (c2.gVars))), .t (.leaf (.int .i64 (c2.gHead.gKind))), .t (.leaf (.string (c2.gHead.gName))), .t (.row 3 (GType.trs (c2.gHead.gArgs))), .t (.row 4 (GBound.trs (c2.gWhere))), .t (.leaf (.bool (c2.gDefault))), .t (.leaf (.bool (c2.gHasAssoc))), .t (.leaf (.int .i64 (c2.gAssoc.gKind))), .t (.leaf (.string (c2.gAssoc.gName))), .t (.row 3 (GType.trs (c2.gAssoc.gArgs))), .t (.row 11 (GMethod.trs (c2.gMethods)))]⟩], []⟩ (fun q t => q = (.t (.leaf (.bool (r))) : PV) ∧ t = ⟨[some ⟨31, [.t (.row 6 (GPackage.trs (c1.gPackages)))]⟩, some ⟨113, [.t (.leaf (.string (c2.gTrait))), .t (.row 1 (strTrs (c2.gVars))), .t (.leaf (.int .i64 (c2.gHead.gKind))), .t (.leaf (.string (c2.gHead.gName))), .t (.row 3 (GType.trs (c2.gHead.gArgs))), .t (.row 4 (GBound.trs (c2.gWhere))), .t (.leaf (.bool (c2.gDefault))), .t (.leaf (.bool (c2.gHasAssoc))), .t (.leaf (.int .i64 (c2.gAssoc.gKind))), .t (.leaf (.string (c2.gAssoc.gName))), .t (.row 3 (GType.trs (c2.gAssoc.gArgs))), .t (.row 11 (GMethod.trs (c2.gMethods)))]⟩], []⟩) := by
  refine ACalls.intro Tryz.func88 rfl (by first | decide | (simp; done) | (simp; decide)) ?_
  intro C hC
  refine AWP.fact (box_lenN 0 0 rfl rfl rfl (GPackage.trs_len _)) (fun hl1 => ?_)
  refine AWP.fact (box_lenN 1 1 rfl rfl rfl (strTrs_len _)) (fun hl2 => ?_)
  refine AWP.fact (box_lenN 1 4 rfl rfl rfl (GType.trs_len _)) (fun hl3 => ?_)
  refine AWP.fact (box_lenN 1 5 rfl rfl rfl (GBound.trs_len _)) (fun hl4 => ?_)
  refine AWP.fact (box_lenN 1 10 rfl rfl rfl (GType.trs_len _)) (fun hl5 => ?_)
  refine AWP.fact (box_lenN 1 11 rfl rfl rfl (GMethod.trs_len _)) (fun hl6 => ?_)
  refine AWP.seq ?_
  refine AWP.region_lit ?_
  refine AL.cons rfl (AOp.box (cs := [.t (.leaf (.int .i64 (pother.gPackage))), .t (.leaf (.int .i64 (pother.gAt)))]) rfl rfl rfl rfl rfl) ?_
  refine AL.cons rfl (AOp.move (.inr rfl) rfl rfl) ?_
  refine AL.nil ?_
  refine AWP.seq ?_
  refine AWP.region_lit ?_
  refine AL.cons rfl (AOp.loadPtr (cs := [.t (.row 6 (GPackage.trs (c1.gPackages)))]) rfl rfl rfl rfl sh31 rfl rfl) ?_
  refine AL.cons rfl (AOp.loadPtr (cs := [.t (.leaf (.int .i64 (pother.gPackage))), .t (.leaf (.int .i64 (pother.gAt)))]) rfl rfl rfl rfl sh33 rfl rfl) ?_
  refine AL.cons rfl (AOp.callF (res := .tup [(GInstance.pv (oInst (GProgram.instAt c1 pother))), .t (.leaf (.bool (Option.isSome (GProgram.instAt c1 pother))))]) (ps := [_, _]) rfl rfl Tryz.func81 (by kernel_rfl) rfl rfl leA rfl rfl (inst_impl c1 pother)) ?_
  refine AL.cons rfl (AOp.move (.inl rfl) rfl rfl) ?_
  refine AL.cons rfl (AOp.extract rfl rfl rfl rfl) ?_
  refine AL.cons rfl (AOp.extract rfl rfl rfl rfl) ?_
  refine AL.cons rfl (AOp.alloc rfl rfl zr113) ?_
  refine AL.cons rfl (AOp.storePtr (cs := [.t (.leaf (.string ((oInst (GProgram.instAt c1 pother)).gTrait))), .t (.row 1 (strTrs ((oInst (GProgram.instAt c1 pother)).gVars))), .t (.leaf (.int .i64 ((oInst (GProgram.instAt c1 pother)).gHead.gKind))), .t (.leaf (.string ((oInst (GProgram.instAt c1 pother)).gHead.gName))), .t (.row 3 (GType.trs ((oInst (GProgram.instAt c1 pother)).gHead.gArgs))), .t (.row 4 (GBound.trs ((oInst (GProgram.instAt c1 pother)).gWhere))), .t (.leaf (.bool ((oInst (GProgram.instAt c1 pother)).gDefault))), .t (.leaf (.bool ((oInst (GProgram.instAt c1 pother)).gHasAssoc))), .t (.leaf (.int .i64 ((oInst (GProgram.instAt c1 pother)).gAssoc.gKind))), .t (.leaf (.string ((oInst (GProgram.instAt c1 pother)).gAssoc.gName))), .t (.row 3 (GType.trs ((oInst (GProgram.instAt c1 pother)).gAssoc.gArgs))), .t (.row 11 (GMethod.trs ((oInst (GProgram.instAt c1 pother)).gMethods)))]) (ds := [.t (.leaf (.string ((oInst (GProgram.instAt c1 pother)).gTrait))), .t (.row 1 (strTrs ((oInst (GProgram.instAt c1 pother)).gVars))), .t (.leaf (.int .i64 ((oInst (GProgram.instAt c1 pother)).gHead.gKind))), .t (.leaf (.string ((oInst (GProgram.instAt c1 pother)).gHead.gName))), .t (.row 3 (GType.trs ((oInst (GProgram.instAt c1 pother)).gHead.gArgs))), .t (.row 4 (GBound.trs ((oInst (GProgram.instAt c1 pother)).gWhere))), .t (.leaf (.bool ((oInst (GProgram.instAt c1 pother)).gDefault))), .t (.leaf (.bool ((oInst (GProgram.instAt c1 pother)).gHasAssoc))), .t (.leaf (.int .i64 ((oInst (GProgram.instAt c1 pother)).gAssoc.gKind))), .t (.leaf (.string ((oInst (GProgram.instAt c1 pother)).gAssoc.gName))), .t (.row 3 (GType.trs ((oInst (GProgram.instAt c1 pother)).gAssoc.gArgs))), .t (.row 11 (GMethod.trs ((oInst (GProgram.instAt c1 pother)).gMethods)))]) rfl rfl rfl rfl rfl rfl rfl sz113 (Nat.le_of_ble_eq_true rfl) rfl) ?_
  refine AL.cons rfl (AOp.move (.inr rfl) rfl rfl) ?_
  refine AL.nil ?_
  refine AWP.seq ?_
  refine AWP.region_lit ?_
  refine AL.cons rfl (AOp.fieldPtr (k := 3) (d := 0) (e := 2) rfl rfl rfl fo113_2) ?_
  refine AL.cons rfl (AOp.loadPtr (cs := [.t (.leaf (.int .i64 (((oInst (GProgram.instAt c1 pother)).gHead).gKind))), .t (.leaf (.string (((oInst (GProgram.instAt c1 pother)).gHead).gName))), .t (.row 3 (GType.trs (((oInst (GProgram.instAt c1 pother)).gHead).gArgs)))]) rfl rfl rfl rfl sh47 rfl rfl) ?_
  refine AL.cons rfl (AOp.fieldPtr (k := 1) (d := 0) (e := 2) rfl rfl rfl fo113_2) ?_
  refine AL.cons rfl (AOp.loadPtr (cs := [.t (.leaf (.int .i64 (c2.gHead.gKind))), .t (.leaf (.string (c2.gHead.gName))), .t (.row 3 (GType.trs (c2.gHead.gArgs)))]) rfl rfl rfl rfl sh47 rfl rfl) ?_
  rcases Classical.em (Tr.bulkL (GType.tr ((oInst (GProgram.instAt c1 pother)).gHead)) ≤ 68719476735) with hg7 | hg7
  · skip
    rcases Classical.em (Tr.bulkL (GType.tr c2.gHead) ≤ 68719476735) with hg8 | hg8
    · skip
      refine AL.cons rfl (AOp.callF (res := .t (.leaf (.bool (moreB ((oInst (GProgram.instAt c1 pother)).gHead) c2.gHead)))) (ps := [_, _]) rfl rfl Tryz.func89 (by kernel_rfl) rfl rfl leA rfl rfl (iMoreSpecific_fn ((oInst (GProgram.instAt c1 pother)).gHead) c2.gHead hg7 hg8)) ?_
      refine AL.cons rfl (AOp.move (.inr rfl) rfl rfl) ?_
      refine AL.nil ?_
      refine AWP.ret ?_
      have e9 : iSelectInstance_1_M fu pother c1 c2 = some (moreB ((oInst (GProgram.instAt c1 pother)).gHead) c2.gHead) := gdT hg7 (gdT hg8 (rfl))
      have hz : (moreB ((oInst (GProgram.instAt c1 pother)).gHead) c2.gHead) = r := Option.some.inj (e9.symm.trans H)
      subst hz
      exact Ends.mk (ps := [_]) (by first | exact .inr rfl | exact .inl rfl) ⟨rfl, trivial⟩ rfl (StLe.mk' (st' := ⟨[some ⟨31, [.t (.row 6 (GPackage.trs (c1.gPackages)))]⟩, some ⟨113, [.t (.leaf (.string (c2.gTrait))), .t (.row 1 (strTrs (c2.gVars))), .t (.leaf (.int .i64 (c2.gHead.gKind))), .t (.leaf (.string (c2.gHead.gName))), .t (.row 3 (GType.trs (c2.gHead.gArgs))), .t (.row 4 (GBound.trs (c2.gWhere))), .t (.leaf (.bool (c2.gDefault))), .t (.leaf (.bool (c2.gHasAssoc))), .t (.leaf (.int .i64 (c2.gAssoc.gKind))), .t (.leaf (.string (c2.gAssoc.gName))), .t (.row 3 (GType.trs (c2.gAssoc.gArgs))), .t (.row 11 (GMethod.trs (c2.gMethods)))]⟩], []⟩) ⟨⟨rfl, leA, rfl⟩, ⟨⟨rfl, leA, rfl⟩, trivial⟩⟩ rfl) (keeps_all hC (boxes2 rfl) (Nat.le_of_ble_eq_true rfl)) (q := (.t (.leaf (.bool ((moreB ((oInst (GProgram.instAt c1 pother)).gHead) c2.gHead)))) : PV)) leA rfl ⟨rfl, rfl⟩
    · skip
      have e10 : iSelectInstance_1_M fu pother c1 c2 = none := gdT hg7 (gdF hg8)
      exact none_some H e10
  · skip
    have e11 : iSelectInstance_1_M fu pother c1 c2 = none := gdF hg7
    exact none_some H e11

noncomputable def gIndexFunc_InstanceRef__iSelectInstance_1_F1 (fu : Nat) (ps : List GInstanceRef) (c1_0 : GProgram) (c1_1 : GInstance) : Nat → Unit → Option (LR Unit Int) :=
 fun i8 _ => bd (iSelectInstance_1_M fu (atD ps i8) c1_0 c1_1) (fun x12 =>
 sw (x12)
 (some (.ret ((i8 : Nat) : Int)))
 (some (.next ())))
noncomputable def gIndexFunc_InstanceRef__iSelectInstance_1_R1 (fu : Nat) (ps : List GInstanceRef) (c1_0 : GProgram) (c1_1 : GInstance) : Option (Int ⊕ Unit) :=
 loopN (gIndexFunc_InstanceRef__iSelectInstance_1_F1 fu ps c1_0 c1_1) (ps.length - 0) 0 ()
noncomputable def gIndexFunc_InstanceRef__iSelectInstance_1_M (fu : Nat)  (ps : List GInstanceRef) (c1_0 : GProgram) (c1_1 : GInstance) : Option Int :=
 so (gIndexFunc_InstanceRef__iSelectInstance_1_R1 fu ps c1_0 c1_1) (fun _ =>
 some (-1))
set_option maxRecDepth 100000 in
set_option maxHeartbeats 4000000 in
theorem gIndexFunc_InstanceRef__iSelectInstance_1_ok  (fu : Nat)  (ps : List GInstanceRef) (c1_0 : GProgram) (c1_1 : GInstance) (r : Int) (H : gIndexFunc_InstanceRef__iSelectInstance_1_M fu ps c1_0 c1_1 = some r) : ACalls Tryz.prog 147 [.t (.row 2 (GInstanceRef.trs (ps))), .fn 88 [.ptr 0 0, .ptr 1 0]] ⟨[some ⟨31, [.t (.row 6 (GPackage.trs (c1_0.gPackages)))]⟩, some ⟨113, [.t (.leaf (.string (c1_1.gTrait))), .t (.row 1 (strTrs (c1_1.gVars))), .t (.leaf (.int .i64 (c1_1.gHead.gKind))), .t (.leaf (.string (c1_1.gHead.gName))), .t (.row 3 (GType.trs (c1_1.gHead.gArgs))), .t (.row 4 (GBound.trs (c1_1.gWhere))), .t (.leaf (.bool (c1_1.gDefault))), .t (.leaf (.bool (c1_1.gHasAssoc))), .t (.leaf (.int .i64 (c1_1.gAssoc.gKind))), .t (.leaf (.string (c1_1.gAssoc.gName))), .t (.row 3 (GType.trs (c1_1.gAssoc.gArgs))), .t (.row 11 (GMethod.trs (c1_1.gMethods)))]⟩], []⟩ (fun q t => q = (.t (.leaf (.int .i64 (r))) : PV) ∧ t = ⟨[some ⟨31, [.t (.row 6 (GPackage.trs (c1_0.gPackages)))]⟩, some ⟨113, [.t (.leaf (.string (c1_1.gTrait))), .t (.row 1 (strTrs (c1_1.gVars))), .t (.leaf (.int .i64 (c1_1.gHead.gKind))), .t (.leaf (.string (c1_1.gHead.gName))), .t (.row 3 (GType.trs (c1_1.gHead.gArgs))), .t (.row 4 (GBound.trs (c1_1.gWhere))), .t (.leaf (.bool (c1_1.gDefault))), .t (.leaf (.bool (c1_1.gHasAssoc))), .t (.leaf (.int .i64 (c1_1.gAssoc.gKind))), .t (.leaf (.string (c1_1.gAssoc.gName))), .t (.row 3 (GType.trs (c1_1.gAssoc.gArgs))), .t (.row 11 (GMethod.trs (c1_1.gMethods)))]⟩], []⟩) := by
  refine ACalls.intro Tryz.func147 rfl (by first | decide | (simp; done) | (simp; decide)) ?_
  intro C hC
  refine AWP.fact (lk_lenN 0 rfl rfl (GInstanceRef.trs_len _)) (fun hl1 => ?_)
  refine AWP.fact (box_lenN 0 0 rfl rfl rfl (GPackage.trs_len _)) (fun hl2 => ?_)
  refine AWP.fact (box_lenN 1 1 rfl rfl rfl (strTrs_len _)) (fun hl3 => ?_)
  refine AWP.fact (box_lenN 1 4 rfl rfl rfl (GType.trs_len _)) (fun hl4 => ?_)
  refine AWP.fact (box_lenN 1 5 rfl rfl rfl (GBound.trs_len _)) (fun hl5 => ?_)
  refine AWP.fact (box_lenN 1 10 rfl rfl rfl (GType.trs_len _)) (fun hl6 => ?_)
  refine AWP.fact (box_lenN 1 11 rfl rfl rfl (GMethod.trs_len _)) (fun hl7 => ?_)
  refine AWP.seq ?_
  refine AWP.region_lit ?_
  refine AL.cons rfl (AOp.move (.inr rfl) rfl rfl) ?_
  refine AL.nil ?_
  refine AWP.seq ?_
  refine AWP.seq ?_
  refine AWP.region_lit ?_
  refine AL.cons rfl (AOp.move (.inl rfl) rfl rfl) ?_
  refine AL.cons rfl (AOp.lenN rfl rfl rfl rfl el66 (GInstanceRef.trs_len _)) ?_
  refine AL.cons rfl (AOp.move (.inl rfl) rfl rfl) ?_
  refine AL.nil ?_
  refine AWP.cut (ι := Unit) (fun _ => gIndexFunc_InstanceRef__iSelectInstance_1_R1 fu ps c1_0 c1_1 = some (.inr ())) (fun _ => ⟨[(4, .t (.leaf (.int .i64 (0))))], ⟨[some ⟨31, [.t (.row 6 (GPackage.trs (c1_0.gPackages)))]⟩, some ⟨113, [.t (.leaf (.string (c1_1.gTrait))), .t (.row 1 (strTrs (c1_1.gVars))), .t (.leaf (.int .i64 (c1_1.gHead.gKind))), .t (.leaf (.string (c1_1.gHead.gName))), .t (.row 3 (GType.trs (c1_1.gHead.gArgs))), .t (.row 4 (GBound.trs (c1_1.gWhere))), .t (.leaf (.bool (c1_1.gDefault))), .t (.leaf (.bool (c1_1.gHasAssoc))), .t (.leaf (.int .i64 (c1_1.gAssoc.gKind))), .t (.leaf (.string (c1_1.gAssoc.gName))), .t (.row 3 (GType.trs (c1_1.gAssoc.gArgs))), .t (.row 11 (GMethod.trs (c1_1.gMethods)))]⟩], []⟩⟩) (by repeat' (first | exact qcEnds | exact ncAWP | exact ncRound | exact ncEx | apply qcThen | apply qcBlock | apply qcCut)) ?_ ?_
  · skip
    refine AWP.block ?_
    refine AWP.loopR (ι := Nat × Unit) (fun (i8, _) => gIndexFunc_InstanceRef__iSelectInstance_1_R1 fu ps c1_0 c1_1 = loopN (gIndexFunc_InstanceRef__iSelectInstance_1_F1 fu ps c1_0 c1_1) (ps.length - i8) i8 ()) (fun (i8, _) => ⟨[(0, .t (.row 2 (GInstanceRef.trs (ps)))), (1, .fn 88 [.ptr 0 0, .ptr 1 0]), (4, .t (.leaf (.int .i64 (0)))), (7, .t (.leaf (.int .i64 (((ps.length : Nat) : Int))))), (8, .t (.leaf (.int .i64 (((i8 : Nat) : Int)))))], ⟨[some ⟨31, [.t (.row 6 (GPackage.trs (c1_0.gPackages)))]⟩, some ⟨113, [.t (.leaf (.string (c1_1.gTrait))), .t (.row 1 (strTrs (c1_1.gVars))), .t (.leaf (.int .i64 (c1_1.gHead.gKind))), .t (.leaf (.string (c1_1.gHead.gName))), .t (.row 3 (GType.trs (c1_1.gHead.gArgs))), .t (.row 4 (GBound.trs (c1_1.gWhere))), .t (.leaf (.bool (c1_1.gDefault))), .t (.leaf (.bool (c1_1.gHasAssoc))), .t (.leaf (.int .i64 (c1_1.gAssoc.gKind))), .t (.leaf (.string (c1_1.gAssoc.gName))), .t (.row 3 (GType.trs (c1_1.gAssoc.gArgs))), .t (.row 11 (GMethod.trs (c1_1.gMethods)))]⟩], []⟩⟩) (fun (i8, _) => ps.length - i8) (0, ()) ?_ ?_ ?_
    · exact rfl
    · skip
      exact Wk.mk (StLe.mk' ⟨⟨rfl, leA, rfl⟩, ⟨⟨rfl, leA, rfl⟩, trivial⟩⟩ rfl) (keeps_all hC (boxes2 rfl) (Nat.le_of_ble_eq_true rfl)) ⟨⟨_, rfl, .refl _, rfl⟩, ⟨⟨_, rfl, .refl _, rfl⟩, ⟨⟨_, rfl, .refl _, rfl⟩, ⟨⟨_, rfl, .refl _, rfl⟩, ⟨⟨_, rfl, leA, rfl⟩, trivial⟩⟩⟩⟩⟩
    · rintro ⟨i8, ⟨⟩⟩ hJ9
      refine AWP.seq ?_
      refine AWP.region_lit ?_
      refine AL.cons rfl (AOp.lss rfl rfl rfl rfl) ?_
      refine AL.nil ?_
      refine AWP.seq ?_
      refine AWP.cond rfl (fun h10 => ?_) (fun h10 => ?_)
      · skip
        have h10l : i8 < ps.length := nat_lt_of2 h10
        have h10n := nat_lt_of h10
        refine AWP.skip ?_
        refine AWP.seq ?_
        refine AWP.block ?_
        refine AWP.seq ?_
        refine AWP.region_lit ?_
        refine AL.cons rfl (AOp.move (.inl rfl) rfl rfl) ?_
        refine AL.cons rfl (AOp.move (.inr rfl) rfl rfl) ?_
        refine AL.nil ?_
        refine AWP.seq ?_
        refine AWP.region_lit ?_
        refine AL.cons rfl (AOp.move (.inl rfl) rfl rfl) ?_
        refine AL.cons rfl (AOp.move (.inl rfl) rfl rfl) ?_
        refine AL.cons rfl (AOp.move (.inl rfl) rfl rfl) ?_
        refine AL.cons rfl (AOp.index (k := i8) rfl rfl rfl rfl rfl (GInstanceRef.trs_at h10n) el66) ?_
        refine AL.cons rfl (AOp.loadEptr (ds := [.leaf (.int .i64 ((atD ps i8).gPackage)), .leaf (.int .i64 ((atD ps i8).gAt))]) rfl rfl rfl sh33 rfl rfl) ?_
        rcases hq11 : iSelectInstance_1_M fu (atD ps i8) c1_0 c1_1 with _ | x12
        · skip
          have e13 : (gIndexFunc_InstanceRef__iSelectInstance_1_F1 fu ps c1_0 c1_1) i8 () = none := bdN hq11
          have e14 : gIndexFunc_InstanceRef__iSelectInstance_1_R1 fu ps c1_0 c1_1 = none := loopN_non h10l hJ9 e13
          have e15 : gIndexFunc_InstanceRef__iSelectInstance_1_M fu ps c1_0 c1_1 = none := soN e14
          exact none_some H e15
        · skip
          refine AL.cons rfl (AOp.callVPE (pre := ⟨[some ⟨31, [.t (.row 6 (GPackage.trs (c1_0.gPackages)))]⟩, some ⟨113, [.t (.leaf (.string (c1_1.gTrait))), .t (.row 1 (strTrs (c1_1.gVars))), .t (.leaf (.int .i64 (c1_1.gHead.gKind))), .t (.leaf (.string (c1_1.gHead.gName))), .t (.row 3 (GType.trs (c1_1.gHead.gArgs))), .t (.row 4 (GBound.trs (c1_1.gWhere))), .t (.leaf (.bool (c1_1.gDefault))), .t (.leaf (.bool (c1_1.gHasAssoc))), .t (.leaf (.int .i64 (c1_1.gAssoc.gKind))), .t (.leaf (.string (c1_1.gAssoc.gName))), .t (.row 3 (GType.trs (c1_1.gAssoc.gArgs))), .t (.row 11 (GMethod.trs (c1_1.gMethods)))]⟩], []⟩) (st' := ⟨[some ⟨31, [.t (.row 6 (GPackage.trs (c1_0.gPackages)))]⟩, some ⟨113, [.t (.leaf (.string (c1_1.gTrait))), .t (.row 1 (strTrs (c1_1.gVars))), .t (.leaf (.int .i64 (c1_1.gHead.gKind))), .t (.leaf (.string (c1_1.gHead.gName))), .t (.row 3 (GType.trs (c1_1.gHead.gArgs))), .t (.row 4 (GBound.trs (c1_1.gWhere))), .t (.leaf (.bool (c1_1.gDefault))), .t (.leaf (.bool (c1_1.gHasAssoc))), .t (.leaf (.int .i64 (c1_1.gAssoc.gKind))), .t (.leaf (.string (c1_1.gAssoc.gName))), .t (.row 3 (GType.trs (c1_1.gAssoc.gArgs))), .t (.row 11 (GMethod.trs (c1_1.gMethods)))]⟩], []⟩) (ps := [_]) (cs := [.ptr 0 0, .ptr 1 0]) (qs := [(GInstanceRef.pv (atD ps i8)), .ptr 0 0, .ptr 1 0]) [0, 1] [] rfl rfl rfl Tryz.func88 (by kernel_rfl) rfl rfl rfl (Part0.of ⟨⟨_, rfl, rfl, leA, rfl⟩, ⟨⟨_, rfl, rfl, leA, rfl⟩, trivial⟩⟩ trivial (by decide) (by decide)) leA rfl rfl rfl (iSelectInstance_1_ok fu (atD ps i8) c1_0 c1_1 _ hq11)) ?_
          refine AL.nil ?_
          refine AWP.cond rfl (fun h16 => ?_) (fun h16 => ?_)
          · skip
            refine AWP.seq ?_
            refine AWP.region_lit ?_
            refine AL.cons rfl (AOp.move (.inl rfl) rfl rfl) ?_
            refine AL.cons rfl (AOp.move (.inr rfl) rfl rfl) ?_
            refine AL.nil ?_
            refine AWP.ret ?_
            have e17 : (gIndexFunc_InstanceRef__iSelectInstance_1_F1 fu ps c1_0 c1_1) i8 () = some (.ret ((i8 : Nat) : Int)) := bdS hq11 (swT h16 (rfl))
            have e18 : gIndexFunc_InstanceRef__iSelectInstance_1_R1 fu ps c1_0 c1_1 = some (.inl ((i8 : Nat) : Int)) := loopN_ret h10l hJ9 e17
            have e19 : gIndexFunc_InstanceRef__iSelectInstance_1_M fu ps c1_0 c1_1 = some ((i8 : Nat) : Int) := soL e18
            have hz : ((i8 : Nat) : Int) = r := Option.some.inj (e19.symm.trans H)
            subst hz
            exact Ends.mk (ps := [_]) (by first | exact .inr rfl | exact .inl rfl) ⟨rfl, trivial⟩ rfl (StLe.mk' (st' := ⟨[some ⟨31, [.t (.row 6 (GPackage.trs (c1_0.gPackages)))]⟩, some ⟨113, [.t (.leaf (.string (c1_1.gTrait))), .t (.row 1 (strTrs (c1_1.gVars))), .t (.leaf (.int .i64 (c1_1.gHead.gKind))), .t (.leaf (.string (c1_1.gHead.gName))), .t (.row 3 (GType.trs (c1_1.gHead.gArgs))), .t (.row 4 (GBound.trs (c1_1.gWhere))), .t (.leaf (.bool (c1_1.gDefault))), .t (.leaf (.bool (c1_1.gHasAssoc))), .t (.leaf (.int .i64 (c1_1.gAssoc.gKind))), .t (.leaf (.string (c1_1.gAssoc.gName))), .t (.row 3 (GType.trs (c1_1.gAssoc.gArgs))), .t (.row 11 (GMethod.trs (c1_1.gMethods)))]⟩], []⟩) ⟨⟨rfl, leA, rfl⟩, ⟨⟨rfl, leA, rfl⟩, trivial⟩⟩ rfl) (keeps_all hC (boxes2 rfl) (Nat.le_of_ble_eq_true rfl)) (q := (.t (.leaf (.int .i64 (((i8 : Nat) : Int)))) : PV)) leA rfl ⟨rfl, rfl⟩
          · skip
            refine AWP.skip ?_
            refine AWP.region_lit ?_
            refine AL.cons rfl (AOp.addI rfl rfl rfl rfl (c := ((i8 + 1 : Nat) : Int)) (by omega) (by omega)) ?_
            refine AL.cons rfl (AOp.move (.inl rfl) rfl rfl) ?_
            refine AL.nil ?_
            have e20 : (gIndexFunc_InstanceRef__iSelectInstance_1_F1 fu ps c1_0 c1_1) i8 () = some (.next ()) := bdS hq11 (swF h16 (rfl))
            refine ⟨(i8 + 1, ()), loopN_next h10l hJ9 e20, ?_, ?_⟩
            · skip
              exact Wk.mk (StLe.mk' ⟨⟨rfl, leA, rfl⟩, ⟨⟨rfl, leA, rfl⟩, trivial⟩⟩ rfl) (keeps_all hC (boxes2 rfl) (Nat.le_of_ble_eq_true rfl)) ⟨⟨_, rfl, .refl _, rfl⟩, ⟨⟨_, rfl, .refl _, rfl⟩, ⟨⟨_, rfl, .refl _, rfl⟩, ⟨⟨_, rfl, .refl _, rfl⟩, ⟨⟨_, rfl, leA, rfl⟩, trivial⟩⟩⟩⟩⟩
            · dsimp only; omega
      · skip
        have h10l : ps.length ≤ i8 := nat_ge_of2 h10
        refine AWP.exit ?_
        refine ⟨(), loopN_end h10l hJ9, ?_⟩
        exact Wk.mk (StLe.mk' ⟨⟨rfl, leA, rfl⟩, ⟨⟨rfl, leA, rfl⟩, trivial⟩⟩ rfl) (keeps_all hC (boxes2 rfl) (Nat.le_of_ble_eq_true rfl)) ⟨⟨_, rfl, .refl _, rfl⟩, trivial⟩
  · rintro ⟨⟩ hR21
    refine AWP.seq ?_
    refine AWP.region_lit ?_
    refine AL.cons rfl (AOp.move (.inr rfl) rfl rfl) ?_
    refine AL.nil ?_
    refine AWP.ret ?_
    have e22 : gIndexFunc_InstanceRef__iSelectInstance_1_M fu ps c1_0 c1_1 = some (-1) := soR hR21 (rfl)
    have hz : (-1) = r := Option.some.inj (e22.symm.trans H)
    subst hz
    exact Ends.mk (ps := [_]) (by first | exact .inr rfl | exact .inl rfl) ⟨rfl, trivial⟩ rfl (StLe.mk' (st' := ⟨[some ⟨31, [.t (.row 6 (GPackage.trs (c1_0.gPackages)))]⟩, some ⟨113, [.t (.leaf (.string (c1_1.gTrait))), .t (.row 1 (strTrs (c1_1.gVars))), .t (.leaf (.int .i64 (c1_1.gHead.gKind))), .t (.leaf (.string (c1_1.gHead.gName))), .t (.row 3 (GType.trs (c1_1.gHead.gArgs))), .t (.row 4 (GBound.trs (c1_1.gWhere))), .t (.leaf (.bool (c1_1.gDefault))), .t (.leaf (.bool (c1_1.gHasAssoc))), .t (.leaf (.int .i64 (c1_1.gAssoc.gKind))), .t (.leaf (.string (c1_1.gAssoc.gName))), .t (.row 3 (GType.trs (c1_1.gAssoc.gArgs))), .t (.row 11 (GMethod.trs (c1_1.gMethods)))]⟩], []⟩) ⟨⟨rfl, leA, rfl⟩, ⟨⟨rfl, leA, rfl⟩, trivial⟩⟩ rfl) (keeps_all hC (boxes2 rfl) (Nat.le_of_ble_eq_true rfl)) (q := (.t (.leaf (.int .i64 ((-1)))) : PV)) leA rfl ⟨rfl, rfl⟩

noncomputable def gContainsFunc_InstanceRef__iSelectInstance_1_M (fu : Nat)  (ps : List GInstanceRef) (c1_0 : GProgram) (c1_1 : GInstance) : Option Bool :=
 bd (gIndexFunc_InstanceRef__iSelectInstance_1_M fu ps c1_0 c1_1) (fun x9 =>
 some (decide ((x9 : Int) ≥ 0)))
set_option maxRecDepth 100000 in
set_option maxHeartbeats 4000000 in
theorem gContainsFunc_InstanceRef__iSelectInstance_1_ok  (fu : Nat)  (ps : List GInstanceRef) (c1_0 : GProgram) (c1_1 : GInstance) (r : Bool) (H : gContainsFunc_InstanceRef__iSelectInstance_1_M fu ps c1_0 c1_1 = some r) : ACalls Tryz.prog 87 [.t (.row 2 (GInstanceRef.trs (ps))), .fn 88 [.ptr 0 0, .ptr 1 0]] ⟨[some ⟨31, [.t (.row 6 (GPackage.trs (c1_0.gPackages)))]⟩, some ⟨113, [.t (.leaf (.string (c1_1.gTrait))), .t (.row 1 (strTrs (c1_1.gVars))), .t (.leaf (.int .i64 (c1_1.gHead.gKind))), .t (.leaf (.string (c1_1.gHead.gName))), .t (.row 3 (GType.trs (c1_1.gHead.gArgs))), .t (.row 4 (GBound.trs (c1_1.gWhere))), .t (.leaf (.bool (c1_1.gDefault))), .t (.leaf (.bool (c1_1.gHasAssoc))), .t (.leaf (.int .i64 (c1_1.gAssoc.gKind))), .t (.leaf (.string (c1_1.gAssoc.gName))), .t (.row 3 (GType.trs (c1_1.gAssoc.gArgs))), .t (.row 11 (GMethod.trs (c1_1.gMethods)))]⟩], []⟩ (fun q t => q = (.t (.leaf (.bool (r))) : PV) ∧ t = ⟨[some ⟨31, [.t (.row 6 (GPackage.trs (c1_0.gPackages)))]⟩, some ⟨113, [.t (.leaf (.string (c1_1.gTrait))), .t (.row 1 (strTrs (c1_1.gVars))), .t (.leaf (.int .i64 (c1_1.gHead.gKind))), .t (.leaf (.string (c1_1.gHead.gName))), .t (.row 3 (GType.trs (c1_1.gHead.gArgs))), .t (.row 4 (GBound.trs (c1_1.gWhere))), .t (.leaf (.bool (c1_1.gDefault))), .t (.leaf (.bool (c1_1.gHasAssoc))), .t (.leaf (.int .i64 (c1_1.gAssoc.gKind))), .t (.leaf (.string (c1_1.gAssoc.gName))), .t (.row 3 (GType.trs (c1_1.gAssoc.gArgs))), .t (.row 11 (GMethod.trs (c1_1.gMethods)))]⟩], []⟩) := by
  refine ACalls.intro Tryz.func87 rfl (by first | decide | (simp; done) | (simp; decide)) ?_
  intro C hC
  refine AWP.fact (lk_lenN 0 rfl rfl (GInstanceRef.trs_len _)) (fun hl1 => ?_)
  refine AWP.fact (box_lenN 0 0 rfl rfl rfl (GPackage.trs_len _)) (fun hl2 => ?_)
  refine AWP.fact (box_lenN 1 1 rfl rfl rfl (strTrs_len _)) (fun hl3 => ?_)
  refine AWP.fact (box_lenN 1 4 rfl rfl rfl (GType.trs_len _)) (fun hl4 => ?_)
  refine AWP.fact (box_lenN 1 5 rfl rfl rfl (GBound.trs_len _)) (fun hl5 => ?_)
  refine AWP.fact (box_lenN 1 10 rfl rfl rfl (GType.trs_len _)) (fun hl6 => ?_)
  refine AWP.fact (box_lenN 1 11 rfl rfl rfl (GMethod.trs_len _)) (fun hl7 => ?_)
  refine AWP.seq ?_
  refine AWP.region_lit ?_
  refine AL.cons rfl (AOp.move (.inr rfl) rfl rfl) ?_
  refine AL.nil ?_
  refine AWP.seq ?_
  refine AWP.region_lit ?_
  refine AL.cons rfl (AOp.move (.inl rfl) rfl rfl) ?_
  refine AL.cons rfl (AOp.move (.inl rfl) rfl rfl) ?_
  rcases hq8 : gIndexFunc_InstanceRef__iSelectInstance_1_M fu ps c1_0 c1_1 with _ | x9
  · skip
    have e10 : gContainsFunc_InstanceRef__iSelectInstance_1_M fu ps c1_0 c1_1 = none := bdN hq8
    exact none_some H e10
  · skip
    refine AL.cons rfl (AOp.callPE (pre := ⟨[some ⟨31, [.t (.row 6 (GPackage.trs (c1_0.gPackages)))]⟩, some ⟨113, [.t (.leaf (.string (c1_1.gTrait))), .t (.row 1 (strTrs (c1_1.gVars))), .t (.leaf (.int .i64 (c1_1.gHead.gKind))), .t (.leaf (.string (c1_1.gHead.gName))), .t (.row 3 (GType.trs (c1_1.gHead.gArgs))), .t (.row 4 (GBound.trs (c1_1.gWhere))), .t (.leaf (.bool (c1_1.gDefault))), .t (.leaf (.bool (c1_1.gHasAssoc))), .t (.leaf (.int .i64 (c1_1.gAssoc.gKind))), .t (.leaf (.string (c1_1.gAssoc.gName))), .t (.row 3 (GType.trs (c1_1.gAssoc.gArgs))), .t (.row 11 (GMethod.trs (c1_1.gMethods)))]⟩], []⟩) (st' := ⟨[some ⟨31, [.t (.row 6 (GPackage.trs (c1_0.gPackages)))]⟩, some ⟨113, [.t (.leaf (.string (c1_1.gTrait))), .t (.row 1 (strTrs (c1_1.gVars))), .t (.leaf (.int .i64 (c1_1.gHead.gKind))), .t (.leaf (.string (c1_1.gHead.gName))), .t (.row 3 (GType.trs (c1_1.gHead.gArgs))), .t (.row 4 (GBound.trs (c1_1.gWhere))), .t (.leaf (.bool (c1_1.gDefault))), .t (.leaf (.bool (c1_1.gHasAssoc))), .t (.leaf (.int .i64 (c1_1.gAssoc.gKind))), .t (.leaf (.string (c1_1.gAssoc.gName))), .t (.row 3 (GType.trs (c1_1.gAssoc.gArgs))), .t (.row 11 (GMethod.trs (c1_1.gMethods)))]⟩], []⟩) (ps := [_, _]) (qs := [.t (.row 2 (GInstanceRef.trs (ps))), .fn 88 [.ptr 0 0, .ptr 1 0]]) [0, 1] [] rfl rfl Tryz.func147 (by kernel_rfl) rfl rfl rfl (Part0.of ⟨⟨_, rfl, rfl, leA, rfl⟩, ⟨⟨_, rfl, rfl, leA, rfl⟩, trivial⟩⟩ trivial (by decide) (by decide)) leA rfl rfl rfl (gIndexFunc_InstanceRef__iSelectInstance_1_ok fu ps c1_0 c1_1 _ hq8)) ?_
    refine AL.cons rfl (AOp.geq rfl rfl rfl rfl) ?_
    refine AL.cons rfl (AOp.move (.inr rfl) rfl rfl) ?_
    refine AL.nil ?_
    refine AWP.ret ?_
    have e11 : gContainsFunc_InstanceRef__iSelectInstance_1_M fu ps c1_0 c1_1 = some (decide ((x9 : Int) ≥ 0)) := bdS hq8 (rfl)
    have hz : (decide ((x9 : Int) ≥ 0)) = r := Option.some.inj (e11.symm.trans H)
    subst hz
    exact Ends.mk (ps := [_]) (by first | exact .inr rfl | exact .inl rfl) ⟨rfl, trivial⟩ rfl (StLe.mk' (st' := ⟨[some ⟨31, [.t (.row 6 (GPackage.trs (c1_0.gPackages)))]⟩, some ⟨113, [.t (.leaf (.string (c1_1.gTrait))), .t (.row 1 (strTrs (c1_1.gVars))), .t (.leaf (.int .i64 (c1_1.gHead.gKind))), .t (.leaf (.string (c1_1.gHead.gName))), .t (.row 3 (GType.trs (c1_1.gHead.gArgs))), .t (.row 4 (GBound.trs (c1_1.gWhere))), .t (.leaf (.bool (c1_1.gDefault))), .t (.leaf (.bool (c1_1.gHasAssoc))), .t (.leaf (.int .i64 (c1_1.gAssoc.gKind))), .t (.leaf (.string (c1_1.gAssoc.gName))), .t (.row 3 (GType.trs (c1_1.gAssoc.gArgs))), .t (.row 11 (GMethod.trs (c1_1.gMethods)))]⟩], []⟩) ⟨⟨rfl, leA, rfl⟩, ⟨⟨rfl, leA, rfl⟩, trivial⟩⟩ rfl) (keeps_all hC (boxes2 rfl) (Nat.le_of_ble_eq_true rfl)) (q := (.t (.leaf (.bool ((decide ((x9 : Int) ≥ 0))))) : PV)) leA rfl ⟨rfl, rfl⟩

noncomputable def iSelectInstance_F1 (fu : Nat) (pw : GProgram) (pg : GBound) : Nat → Unit → Option (LR Unit (GInstanceRef × Int)) :=
 fun i3 _ => lt (atD (List.filter (GProgram.cand pw pg) (GProgram.allRefs pw)) i3) (fun y7 =>
 bd (gContainsFunc_InstanceRef__iSelectInstance_1_M fu (List.filter (GProgram.cand pw pg) (GProgram.allRefs pw)) pw (oInst (GProgram.instAt pw y7))) (fun x10 =>
 sw (x10)
 (some (.next ()))
 (sw ((oInst (GProgram.instAt pw y7)).gDefault)
 (gd (Tr.bulkL (GType.tr pg.gType) ≤ 68719476735)
 (sw (!(GType.ground pg.gType))
 (some (.ret ((GInstanceRef.mk 0 0), 2)))
 (some (.ret (y7, 0)))))
 (some (.ret (y7, 0))))))
noncomputable def iSelectInstance_R1 (fu : Nat) (pw : GProgram) (pg : GBound) : Option ((GInstanceRef × Int) ⊕ Unit) :=
 loopN (iSelectInstance_F1 fu pw pg) ((List.filter (GProgram.cand pw pg) (GProgram.allRefs pw)).length - 0) 0 ()
noncomputable def iSelectInstance_M (fu : Nat)  (pw : GProgram) (pg : GBound) : Option (GInstanceRef × Int) :=
 gd (Tr.bulkL (GProgram.tr pw) ≤ 68719476735)
 (gd (Tr.bulkL (GBound.tr pg) ≤ 68719476735)
 (so (iSelectInstance_R1 fu pw pg) (fun _ =>
 some ((GInstanceRef.mk 0 0), 1))))
set_option maxRecDepth 100000 in
set_option maxHeartbeats 4000000 in
theorem iSelectInstance_ok  (fu : Nat)  (pw : GProgram) (pg : GBound) (r : GInstanceRef × Int) (H : iSelectInstance_M fu pw pg = some r) : AFun Tryz.prog 24 [(GProgram.pv pw), (GBound.pv pg)] (.tup [(GInstanceRef.pv r.1), .t (.leaf (.int .i64 (r.2)))] : PV) := by
  refine ACalls.intro Tryz.func24 rfl (by first | decide | (simp; done) | (simp; decide)) ?_
  intro C hC
  refine AWP.seq ?_
  refine AWP.region_lit ?_
  refine AL.cons rfl (AOp.box (cs := [.t (.row 6 (GPackage.trs (pw.gPackages)))]) rfl rfl rfl rfl rfl) ?_
  refine AL.cons rfl (AOp.box (cs := [.t (.leaf (.string (pg.gTrait))), .t (.leaf (.int .i64 (pg.gType.gKind))), .t (.leaf (.string (pg.gType.gName))), .t (.row 3 (GType.trs (pg.gType.gArgs)))]) rfl rfl rfl rfl rfl) ?_
  refine AL.cons rfl (AOp.alloc rfl rfl zr33) ?_
  refine AL.cons rfl (AOp.move (.inr rfl) rfl rfl) ?_
  refine AL.nil ?_
  refine AWP.seq ?_
  refine AWP.region_lit ?_
  refine AL.cons rfl (AOp.loadPtr (cs := [.t (.row 6 (GPackage.trs (pw.gPackages)))]) rfl rfl rfl rfl sh31 rfl rfl) ?_
  refine AL.cons rfl (AOp.loadPtr (cs := [.t (.leaf (.string (pg.gTrait))), .t (.leaf (.int .i64 (pg.gType.gKind))), .t (.leaf (.string (pg.gType.gName))), .t (.row 3 (GType.trs (pg.gType.gArgs)))]) rfl rfl rfl rfl sh49 rfl rfl) ?_
  rcases Classical.em (Tr.bulkL (GProgram.tr pw) ≤ 68719476735) with hg1 | hg1
  · skip
    rcases Classical.em (Tr.bulkL (GBound.tr pg) ≤ 68719476735) with hg2 | hg2
    · skip
      refine AL.cons rfl (AOp.callF (res := .t (.row 2 (GInstanceRef.trs ((List.filter (GProgram.cand pw pg) (GProgram.allRefs pw)))))) (ps := [_, _]) rfl rfl Tryz.func60 (by kernel_rfl) rfl rfl leA rfl rfl (iCands_ok pw pg hg1 hg2)) ?_
      refine AL.cons rfl (AOp.move (.inr rfl) rfl rfl) ?_
      refine AL.nil ?_
      refine AWP.seq ?_
      refine AWP.seq ?_
      refine AWP.region_lit ?_
      refine AL.cons rfl (AOp.move (.inl rfl) rfl rfl) ?_
      refine AL.cons rfl (AOp.lenN rfl rfl rfl rfl el66 (GInstanceRef.trs_len _)) ?_
      refine AL.cons rfl (AOp.move (.inl rfl) rfl rfl) ?_
      refine AL.nil ?_
      refine AWP.fact (lk_lenN 6 rfl rfl (GInstanceRef.trs_len _)) (fun hl4 => ?_)
      refine AWP.cut (ι := Unit) (fun _ => iSelectInstance_R1 fu pw pg = some (.inr ())) (fun _ => ⟨[(4, .ptr 2 0), (5, .t (.leaf (.int .i64 (0))))], ⟨[some ⟨31, [.t (.row 6 (GPackage.trs (pw.gPackages)))]⟩, some ⟨49, [.t (.leaf (.string (pg.gTrait))), .t (.leaf (.int .i64 (pg.gType.gKind))), .t (.leaf (.string (pg.gType.gName))), .t (.row 3 (GType.trs (pg.gType.gArgs)))]⟩, some ⟨33, [.t (.leaf (.int .i64 (0))), .t (.leaf (.int .i64 (0)))]⟩], []⟩⟩) (by repeat' (first | exact qcEnds | exact ncAWP | exact ncRound | exact ncEx | apply qcThen | apply qcBlock | apply qcCut)) ?_ ?_
      · skip
        refine AWP.block ?_
        refine AWP.loopR (ι := Nat × Unit) (fun (i3, _) => iSelectInstance_R1 fu pw pg = loopN (iSelectInstance_F1 fu pw pg) ((List.filter (GProgram.cand pw pg) (GProgram.allRefs pw)).length - i3) i3 ()) (fun (i3, _) => ⟨[(2, .ptr 0 0), (3, .ptr 1 0), (4, .ptr 2 0), (5, .t (.leaf (.int .i64 (0)))), (6, .t (.row 2 (GInstanceRef.trs ((List.filter (GProgram.cand pw pg) (GProgram.allRefs pw)))))), (15, .t (.row 2 (GInstanceRef.trs ((List.filter (GProgram.cand pw pg) (GProgram.allRefs pw)))))), (16, .t (.leaf (.int .i64 ((((List.filter (GProgram.cand pw pg) (GProgram.allRefs pw)).length : Nat) : Int))))), (17, .t (.leaf (.int .i64 (((i3 : Nat) : Int)))))], ⟨[some ⟨31, [.t (.row 6 (GPackage.trs (pw.gPackages)))]⟩, some ⟨49, [.t (.leaf (.string (pg.gTrait))), .t (.leaf (.int .i64 (pg.gType.gKind))), .t (.leaf (.string (pg.gType.gName))), .t (.row 3 (GType.trs (pg.gType.gArgs)))]⟩, some ⟨33, [.t (.leaf (.int .i64 (0))), .t (.leaf (.int .i64 (0)))]⟩], []⟩⟩) (fun (i3, _) => (List.filter (GProgram.cand pw pg) (GProgram.allRefs pw)).length - i3) (0, ()) ?_ ?_ ?_
        · exact rfl
        · skip
          exact Wk.mk (StLe.mk' ⟨⟨rfl, leA, rfl⟩, ⟨⟨rfl, leA, rfl⟩, ⟨⟨rfl, leA, rfl⟩, trivial⟩⟩⟩ rfl) (keeps_nil hC) ⟨⟨_, rfl, .refl _, rfl⟩, ⟨⟨_, rfl, .refl _, rfl⟩, ⟨⟨_, rfl, .refl _, rfl⟩, ⟨⟨_, rfl, .refl _, rfl⟩, ⟨⟨_, rfl, .refl _, rfl⟩, ⟨⟨_, rfl, .refl _, rfl⟩, ⟨⟨_, rfl, .refl _, rfl⟩, ⟨⟨_, rfl, leA, rfl⟩, trivial⟩⟩⟩⟩⟩⟩⟩⟩
        · rintro ⟨i3, ⟨⟩⟩ hJ5
          refine AWP.seq ?_
          refine AWP.region_lit ?_
          refine AL.cons rfl (AOp.lss rfl rfl rfl rfl) ?_
          refine AL.nil ?_
          refine AWP.seq ?_
          refine AWP.cond rfl (fun h6 => ?_) (fun h6 => ?_)
          · skip
            have h6l : i3 < (List.filter (GProgram.cand pw pg) (GProgram.allRefs pw)).length := nat_lt_of2 h6
            have h6n := nat_lt_of h6
            refine AWP.skip ?_
            refine AWP.seq ?_
            refine AWP.block ?_
            refine AWP.seq ?_
            refine AWP.region_lit ?_
            obtain ⟨y7, hy8⟩ : ∃ y : GInstanceRef, y = atD (List.filter (GProgram.cand pw pg) (GProgram.allRefs pw)) i3 := ⟨_, rfl⟩
            refine AL.cons rfl (AOp.index (e := GInstanceRef.cs y7) (k := i3) rfl rfl rfl rfl rfl (by rw [hy8]; exact GInstanceRef.trs_at h6n) el66) ?_
            refine AL.cons rfl (AOp.loadEptr (ds := [.leaf (.int .i64 (y7.gPackage)), .leaf (.int .i64 (y7.gAt))]) rfl rfl rfl sh33 rfl rfl) ?_
            refine AL.cons rfl (AOp.alloc rfl rfl zr33) ?_
            refine AL.cons rfl (AOp.storePtr (cs := [.t (.leaf (.int .i64 (y7.gPackage))), .t (.leaf (.int .i64 (y7.gAt)))]) (ds := [.t (.leaf (.int .i64 (y7.gPackage))), .t (.leaf (.int .i64 (y7.gAt)))]) rfl rfl rfl rfl rfl rfl rfl sz33 (Nat.le_of_ble_eq_true rfl) rfl) ?_
            refine AL.nil ?_
            refine AWP.seq ?_
            refine AWP.region_lit ?_
            refine AL.cons rfl (AOp.loadPtr (cs := [.t (.row 6 (GPackage.trs (pw.gPackages)))]) rfl rfl rfl rfl sh31 rfl rfl) ?_
            refine AL.cons rfl (AOp.loadPtr (cs := [.t (.leaf (.int .i64 (y7.gPackage))), .t (.leaf (.int .i64 (y7.gAt)))]) rfl rfl rfl rfl sh33 rfl rfl) ?_
            refine AL.cons rfl (AOp.callF (res := .tup [(GInstance.pv (oInst (GProgram.instAt pw y7))), .t (.leaf (.bool (Option.isSome (GProgram.instAt pw y7))))]) (ps := [_, _]) rfl rfl Tryz.func81 (by kernel_rfl) rfl rfl leA rfl rfl (inst_impl pw y7)) ?_
            refine AL.cons rfl (AOp.move (.inl rfl) rfl rfl) ?_
            refine AL.cons rfl (AOp.extract rfl rfl rfl rfl) ?_
            refine AL.cons rfl (AOp.extract rfl rfl rfl rfl) ?_
            refine AL.cons rfl (AOp.alloc rfl rfl zr113) ?_
            refine AL.cons rfl (AOp.storePtr (cs := [.t (.leaf (.string ((oInst (GProgram.instAt pw y7)).gTrait))), .t (.row 1 (strTrs ((oInst (GProgram.instAt pw y7)).gVars))), .t (.leaf (.int .i64 ((oInst (GProgram.instAt pw y7)).gHead.gKind))), .t (.leaf (.string ((oInst (GProgram.instAt pw y7)).gHead.gName))), .t (.row 3 (GType.trs ((oInst (GProgram.instAt pw y7)).gHead.gArgs))), .t (.row 4 (GBound.trs ((oInst (GProgram.instAt pw y7)).gWhere))), .t (.leaf (.bool ((oInst (GProgram.instAt pw y7)).gDefault))), .t (.leaf (.bool ((oInst (GProgram.instAt pw y7)).gHasAssoc))), .t (.leaf (.int .i64 ((oInst (GProgram.instAt pw y7)).gAssoc.gKind))), .t (.leaf (.string ((oInst (GProgram.instAt pw y7)).gAssoc.gName))), .t (.row 3 (GType.trs ((oInst (GProgram.instAt pw y7)).gAssoc.gArgs))), .t (.row 11 (GMethod.trs ((oInst (GProgram.instAt pw y7)).gMethods)))]) (ds := [.t (.leaf (.string ((oInst (GProgram.instAt pw y7)).gTrait))), .t (.row 1 (strTrs ((oInst (GProgram.instAt pw y7)).gVars))), .t (.leaf (.int .i64 ((oInst (GProgram.instAt pw y7)).gHead.gKind))), .t (.leaf (.string ((oInst (GProgram.instAt pw y7)).gHead.gName))), .t (.row 3 (GType.trs ((oInst (GProgram.instAt pw y7)).gHead.gArgs))), .t (.row 4 (GBound.trs ((oInst (GProgram.instAt pw y7)).gWhere))), .t (.leaf (.bool ((oInst (GProgram.instAt pw y7)).gDefault))), .t (.leaf (.bool ((oInst (GProgram.instAt pw y7)).gHasAssoc))), .t (.leaf (.int .i64 ((oInst (GProgram.instAt pw y7)).gAssoc.gKind))), .t (.leaf (.string ((oInst (GProgram.instAt pw y7)).gAssoc.gName))), .t (.row 3 (GType.trs ((oInst (GProgram.instAt pw y7)).gAssoc.gArgs))), .t (.row 11 (GMethod.trs ((oInst (GProgram.instAt pw y7)).gMethods)))]) rfl rfl rfl rfl rfl rfl rfl sz113 (Nat.le_of_ble_eq_true rfl) rfl) ?_
            refine AL.cons rfl (AOp.move (.inr rfl) rfl rfl) ?_
            refine AL.nil ?_
            refine AWP.seq ?_
            refine AWP.region_lit ?_
            refine AL.cons rfl (AOp.move (.inl rfl) rfl rfl) ?_
            refine AL.cons rfl (AOp.makeFunc (ps := [.ptr 0 0, .ptr 4 0]) rfl rfl rfl) ?_
            rcases hq9 : gContainsFunc_InstanceRef__iSelectInstance_1_M fu (List.filter (GProgram.cand pw pg) (GProgram.allRefs pw)) pw (oInst (GProgram.instAt pw y7)) with _ | x10
            · skip
              have e11 : (iSelectInstance_F1 fu pw pg) i3 () = none := ltE hy8 (bdN hq9)
              have e12 : iSelectInstance_R1 fu pw pg = none := loopN_non h6l hJ5 e11
              have e13 : iSelectInstance_M fu pw pg = none := gdT hg1 (gdT hg2 (soN e12))
              exact none_some H e13
            · skip
              refine AL.cons rfl (AOp.callPE (pre := ⟨[some ⟨31, [.t (.row 6 (GPackage.trs (pw.gPackages)))]⟩, some ⟨113, [.t (.leaf (.string ((oInst (GProgram.instAt pw y7)).gTrait))), .t (.row 1 (strTrs ((oInst (GProgram.instAt pw y7)).gVars))), .t (.leaf (.int .i64 ((oInst (GProgram.instAt pw y7)).gHead.gKind))), .t (.leaf (.string ((oInst (GProgram.instAt pw y7)).gHead.gName))), .t (.row 3 (GType.trs ((oInst (GProgram.instAt pw y7)).gHead.gArgs))), .t (.row 4 (GBound.trs ((oInst (GProgram.instAt pw y7)).gWhere))), .t (.leaf (.bool ((oInst (GProgram.instAt pw y7)).gDefault))), .t (.leaf (.bool ((oInst (GProgram.instAt pw y7)).gHasAssoc))), .t (.leaf (.int .i64 ((oInst (GProgram.instAt pw y7)).gAssoc.gKind))), .t (.leaf (.string ((oInst (GProgram.instAt pw y7)).gAssoc.gName))), .t (.row 3 (GType.trs ((oInst (GProgram.instAt pw y7)).gAssoc.gArgs))), .t (.row 11 (GMethod.trs ((oInst (GProgram.instAt pw y7)).gMethods)))]⟩], []⟩) (st' := ⟨[some ⟨31, [.t (.row 6 (GPackage.trs (pw.gPackages)))]⟩, some ⟨113, [.t (.leaf (.string ((oInst (GProgram.instAt pw y7)).gTrait))), .t (.row 1 (strTrs ((oInst (GProgram.instAt pw y7)).gVars))), .t (.leaf (.int .i64 ((oInst (GProgram.instAt pw y7)).gHead.gKind))), .t (.leaf (.string ((oInst (GProgram.instAt pw y7)).gHead.gName))), .t (.row 3 (GType.trs ((oInst (GProgram.instAt pw y7)).gHead.gArgs))), .t (.row 4 (GBound.trs ((oInst (GProgram.instAt pw y7)).gWhere))), .t (.leaf (.bool ((oInst (GProgram.instAt pw y7)).gDefault))), .t (.leaf (.bool ((oInst (GProgram.instAt pw y7)).gHasAssoc))), .t (.leaf (.int .i64 ((oInst (GProgram.instAt pw y7)).gAssoc.gKind))), .t (.leaf (.string ((oInst (GProgram.instAt pw y7)).gAssoc.gName))), .t (.row 3 (GType.trs ((oInst (GProgram.instAt pw y7)).gAssoc.gArgs))), .t (.row 11 (GMethod.trs ((oInst (GProgram.instAt pw y7)).gMethods)))]⟩], []⟩) (ps := [_, _]) (qs := [.t (.row 2 (GInstanceRef.trs ((List.filter (GProgram.cand pw pg) (GProgram.allRefs pw))))), .fn 88 [.ptr 0 0, .ptr 1 0]]) [0, 4] [] rfl rfl Tryz.func87 (by kernel_rfl) rfl rfl rfl (Part0.of ⟨⟨_, rfl, rfl, leA, rfl⟩, ⟨⟨_, rfl, rfl, leA, rfl⟩, trivial⟩⟩ trivial (by decide) (by decide)) leA rfl rfl rfl (gContainsFunc_InstanceRef__iSelectInstance_1_ok fu (List.filter (GProgram.cand pw pg) (GProgram.allRefs pw)) pw (oInst (GProgram.instAt pw y7)) _ hq9)) ?_
              refine AL.cons rfl (AOp.move (.inr rfl) rfl rfl) ?_
              refine AL.nil ?_
              refine AWP.seq ?_
              refine AWP.seq ?_
              refine AWP.region_lit ?_
              refine AL.cons rfl (AOp.move (.inl rfl) rfl rfl) ?_
              refine AL.nil ?_
              refine AWP.cond rfl (fun h14 => ?_) (fun h14 => ?_)
              · skip
                refine AWP.exit ?_
                refine AWP.region_lit ?_
                refine AL.cons rfl (AOp.addI rfl rfl rfl rfl (c := ((i3 + 1 : Nat) : Int)) (by omega) (by omega)) ?_
                refine AL.cons rfl (AOp.move (.inl rfl) rfl rfl) ?_
                refine AL.nil ?_
                have e15 : (iSelectInstance_F1 fu pw pg) i3 () = some (.next ()) := ltE hy8 (bdS hq9 (swT h14 (rfl)))
                refine ⟨(i3 + 1, ()), loopN_next h6l hJ5 e15, ?_, ?_⟩
                · skip
                  exact Wk.mk (StLe.mk' ⟨⟨rfl, leA, rfl⟩, ⟨⟨rfl, leA, rfl⟩, ⟨⟨rfl, leA, rfl⟩, trivial⟩⟩⟩ rfl) (keeps_nil hC) ⟨⟨_, rfl, .refl _, rfl⟩, ⟨⟨_, rfl, .refl _, rfl⟩, ⟨⟨_, rfl, .refl _, rfl⟩, ⟨⟨_, rfl, .refl _, rfl⟩, ⟨⟨_, rfl, .refl _, rfl⟩, ⟨⟨_, rfl, .refl _, rfl⟩, ⟨⟨_, rfl, .refl _, rfl⟩, ⟨⟨_, rfl, leA, rfl⟩, trivial⟩⟩⟩⟩⟩⟩⟩⟩
                · dsimp only; omega
              · skip
                refine AWP.skip ?_
                refine AWP.seq ?_
                refine AWP.seq ?_
                refine AWP.region_lit ?_
                refine AL.cons rfl (AOp.fieldPtr (k := 4) (d := 0) (e := 6) rfl rfl rfl fo113_4) ?_
                refine AL.cons rfl (AOp.loadPtr1 rfl rfl rfl rfl sh4 rfl) ?_
                refine AL.cons rfl (AOp.move (.inl rfl) rfl rfl) ?_
                refine AL.splitB 33 rfl (fun g16 => ?_) (fun g16 => ?_)
                · skip
                  refine AL.cons_gv rfl rfl rfl g16 (AOp.fieldPtr (k := 1) (d := 0) (e := 1) rfl rfl rfl fo49_1) ?_
                  refine AL.cons_gv rfl rfl rfl g16 (AOp.loadPtr (cs := [.t (.leaf (.int .i64 (pg.gType.gKind))), .t (.leaf (.string (pg.gType.gName))), .t (.row 3 (GType.trs (pg.gType.gArgs)))]) rfl rfl rfl rfl sh47 rfl rfl) ?_
                  rcases Classical.em (Tr.bulkL (GType.tr pg.gType) ≤ 68719476735) with hg17 | hg17
                  · skip
                    refine AL.cons_gv rfl rfl rfl g16 (AOp.callF (res := .t (.leaf (.bool (GType.ground pg.gType)))) (ps := [_]) rfl rfl Tryz.func90 (by kernel_rfl) rfl rfl leA rfl rfl (iIsGround_fn pg.gType hg17)) ?_
                    refine AL.cons_gv rfl rfl rfl g16 (AOp.notB rfl rfl rfl) ?_
                    refine AL.cons rfl (AOp.pickT rfl rfl rfl g16 rfl) ?_
                    refine AL.nil ?_
                    refine AWP.cond rfl (fun h18 => ?_) (fun h18 => ?_)
                    · skip
                      refine AWP.seq ?_
                      refine AWP.region_lit ?_
                      refine AL.cons rfl (AOp.build rfl rfl zr33 pl33 rfl rfl) ?_
                      refine AL.cons rfl (AOp.storePtr (cs := [.t (.leaf (.int .i64 (0))), .t (.leaf (.int .i64 (0)))]) (ds := [.t (.leaf (.int .i64 (0))), .t (.leaf (.int .i64 (0)))]) rfl rfl rfl rfl rfl rfl rfl sz33 (Nat.le_of_ble_eq_true rfl) rfl) ?_
                      refine AL.cons rfl (AOp.move (.inr rfl) rfl rfl) ?_
                      refine AL.nil ?_
                      refine AWP.ret ?_
                      have e19 : (iSelectInstance_F1 fu pw pg) i3 () = some (.ret ((GInstanceRef.mk 0 0), 2)) := ltE hy8 (bdS hq9 (swF h14 (swT g16 (gdT hg17 (swT h18 (rfl))))))
                      have e20 : iSelectInstance_R1 fu pw pg = some (.inl ((GInstanceRef.mk 0 0), 2)) := loopN_ret h6l hJ5 e19
                      have e21 : iSelectInstance_M fu pw pg = some ((GInstanceRef.mk 0 0), 2) := gdT hg1 (gdT hg2 (soL e20))
                      have hz : ((GInstanceRef.mk 0 0), 2) = r := Option.some.inj (e21.symm.trans H)
                      subst hz
                      exact Ends.mk (ps := [_, _]) (by first | exact .inr rfl | exact .inl rfl) ⟨⟨_, _, _, rfl, rfl, sh33, rfl, rfl⟩, rfl, trivial⟩ rfl (StLe.mk' (st' := ⟨[], []⟩) trivial rfl) (keeps_nil hC) (q := (.tup [(GInstanceRef.pv (GInstanceRef.mk 0 0)), .t (.leaf (.int .i64 (2)))] : PV)) leA rfl ⟨rfl, rfl⟩
                    · skip
                      refine AWP.skip ?_
                      refine AWP.seq ?_
                      refine AWP.region_lit ?_
                      refine AL.cons rfl (AOp.loadPtr (cs := [.t (.leaf (.int .i64 (y7.gPackage))), .t (.leaf (.int .i64 (y7.gAt)))]) rfl rfl rfl rfl sh33 rfl rfl) ?_
                      refine AL.cons rfl (AOp.storePtr (cs := [.t (.leaf (.int .i64 (y7.gPackage))), .t (.leaf (.int .i64 (y7.gAt)))]) (ds := [.t (.leaf (.int .i64 (y7.gPackage))), .t (.leaf (.int .i64 (y7.gAt)))]) rfl rfl rfl rfl rfl rfl rfl sz33 (Nat.le_of_ble_eq_true rfl) rfl) ?_
                      refine AL.cons rfl (AOp.move (.inr rfl) rfl rfl) ?_
                      refine AL.nil ?_
                      refine AWP.ret ?_
                      have e22 : (iSelectInstance_F1 fu pw pg) i3 () = some (.ret (y7, 0)) := ltE hy8 (bdS hq9 (swF h14 (swT g16 (gdT hg17 (swF h18 (rfl))))))
                      have e23 : iSelectInstance_R1 fu pw pg = some (.inl (y7, 0)) := loopN_ret h6l hJ5 e22
                      have e24 : iSelectInstance_M fu pw pg = some (y7, 0) := gdT hg1 (gdT hg2 (soL e23))
                      have hz : (y7, 0) = r := Option.some.inj (e24.symm.trans H)
                      subst hz
                      exact Ends.mk (ps := [_, _]) (by first | exact .inr rfl | exact .inl rfl) ⟨⟨_, _, _, rfl, rfl, sh33, rfl, rfl⟩, rfl, trivial⟩ rfl (StLe.mk' (st' := ⟨[], []⟩) trivial rfl) (keeps_nil hC) (q := (.tup [(GInstanceRef.pv y7), .t (.leaf (.int .i64 (0)))] : PV)) leA rfl ⟨rfl, rfl⟩
                  · skip
                    have e25 : (iSelectInstance_F1 fu pw pg) i3 () = none := ltE hy8 (bdS hq9 (swF h14 (swT g16 (gdF hg17))))
                    have e26 : iSelectInstance_R1 fu pw pg = none := loopN_non h6l hJ5 e25
                    have e27 : iSelectInstance_M fu pw pg = none := gdT hg1 (gdT hg2 (soN e26))
                    exact none_some H e27
                · skip
                  refine AL.skipP rfl rfl rfl g16 rfl rfl ?_
                  refine AL.skipP rfl rfl rfl g16 rfl rfl ?_
                  refine AL.skipP rfl rfl rfl g16 rfl rfl ?_
                  refine AL.skipP rfl rfl rfl g16 rfl rfl ?_
                  refine AL.cons rfl (AOp.pickF rfl rfl rfl g16 rfl) ?_
                  refine AL.nil ?_
                  refine AWP.cond rfl (fun h28 => ?_) (fun h28 => ?_)
                  · skip
                    exact absurd (h28.symm.trans rfl) (by decide)
                  · skip
                    refine AWP.skip ?_
                    refine AWP.seq ?_
                    refine AWP.region_lit ?_
                    refine AL.cons rfl (AOp.loadPtr (cs := [.t (.leaf (.int .i64 (y7.gPackage))), .t (.leaf (.int .i64 (y7.gAt)))]) rfl rfl rfl rfl sh33 rfl rfl) ?_
                    refine AL.cons rfl (AOp.storePtr (cs := [.t (.leaf (.int .i64 (y7.gPackage))), .t (.leaf (.int .i64 (y7.gAt)))]) (ds := [.t (.leaf (.int .i64 (y7.gPackage))), .t (.leaf (.int .i64 (y7.gAt)))]) rfl rfl rfl rfl rfl rfl rfl sz33 (Nat.le_of_ble_eq_true rfl) rfl) ?_
                    refine AL.cons rfl (AOp.move (.inr rfl) rfl rfl) ?_
                    refine AL.nil ?_
                    refine AWP.ret ?_
                    have e29 : (iSelectInstance_F1 fu pw pg) i3 () = some (.ret (y7, 0)) := ltE hy8 (bdS hq9 (swF h14 (swF g16 (rfl))))
                    have e30 : iSelectInstance_R1 fu pw pg = some (.inl (y7, 0)) := loopN_ret h6l hJ5 e29
                    have e31 : iSelectInstance_M fu pw pg = some (y7, 0) := gdT hg1 (gdT hg2 (soL e30))
                    have hz : (y7, 0) = r := Option.some.inj (e31.symm.trans H)
                    subst hz
                    exact Ends.mk (ps := [_, _]) (by first | exact .inr rfl | exact .inl rfl) ⟨⟨_, _, _, rfl, rfl, sh33, rfl, rfl⟩, rfl, trivial⟩ rfl (StLe.mk' (st' := ⟨[], []⟩) trivial rfl) (keeps_nil hC) (q := (.tup [(GInstanceRef.pv y7), .t (.leaf (.int .i64 (0)))] : PV)) leA rfl ⟨rfl, rfl⟩
          · skip
            have h6l : (List.filter (GProgram.cand pw pg) (GProgram.allRefs pw)).length ≤ i3 := nat_ge_of2 h6
            refine AWP.exit ?_
            refine ⟨(), loopN_end h6l hJ5, ?_⟩
            exact Wk.mk (StLe.mk' ⟨⟨rfl, leA, rfl⟩, ⟨⟨rfl, leA, rfl⟩, ⟨⟨rfl, leA, rfl⟩, trivial⟩⟩⟩ rfl) (keeps_nil hC) ⟨⟨_, rfl, .refl _, rfl⟩, ⟨⟨_, rfl, .refl _, rfl⟩, trivial⟩⟩
      · rintro ⟨⟩ hR32
        refine AWP.seq ?_
        refine AWP.region_lit ?_
        refine AL.cons rfl (AOp.build rfl rfl zr33 pl33 rfl rfl) ?_
        refine AL.cons rfl (AOp.storePtr (cs := [.t (.leaf (.int .i64 (0))), .t (.leaf (.int .i64 (0)))]) (ds := [.t (.leaf (.int .i64 (0))), .t (.leaf (.int .i64 (0)))]) rfl rfl rfl rfl rfl rfl rfl sz33 (Nat.le_of_ble_eq_true rfl) rfl) ?_
        refine AL.cons rfl (AOp.move (.inr rfl) rfl rfl) ?_
        refine AL.nil ?_
        refine AWP.ret ?_
        have e33 : iSelectInstance_M fu pw pg = some ((GInstanceRef.mk 0 0), 1) := gdT hg1 (gdT hg2 (soR hR32 (rfl)))
        have hz : ((GInstanceRef.mk 0 0), 1) = r := Option.some.inj (e33.symm.trans H)
        subst hz
        exact Ends.mk (ps := [_, _]) (by first | exact .inr rfl | exact .inl rfl) ⟨⟨_, _, _, rfl, rfl, sh33, rfl, rfl⟩, rfl, trivial⟩ rfl (StLe.mk' (st' := ⟨[], []⟩) trivial rfl) (keeps_nil hC) (q := (.tup [(GInstanceRef.pv (GInstanceRef.mk 0 0)), .t (.leaf (.int .i64 (1)))] : PV)) leA rfl ⟨rfl, rfl⟩
    · skip
      have e34 : iSelectInstance_M fu pw pg = none := gdT hg1 (gdF hg2)
      exact none_some H e34
  · skip
    have e35 : iSelectInstance_M fu pw pg = none := gdF hg1
    exact none_some H e35

end Go.Proofs.YtnakkelglbcecaaGreat
