/- Words, rules and walks of several kinds, laid together: MaTy, Plain, SL, TyEq0, PlTy, MaMatch, PlMatch, PlZ, PlMat2. No conditions but those that each theorem states. -/
import Derived.Test.YtnakkelglbcecaaGreatQh8608bef2
import Derived.Test.YtnakkelglbcecaaGreatQhf9b1f5bd
import Derived.Test.YtnakkelglbcecaaGreatQhcc049c1e
import Derived.Test.YtnakkelglbcecaaGreatQh103e0d01
set_option linter.unusedSimpArgs false
set_option linter.unusedVariables false
namespace Go.Proofs.YtnakkelglbcecaaGreat
open Go.RowKit Go.Proofs
set_option linter.unusedSimpArgs false
set_option linter.unusedVariables false

attribute [local irreducible] lt

noncomputable def sEqualType_G (fu : Nat) (r_sEqualType : GType → GType → Option Bool) (r_sl4Same : (List GType) → (List GType) → Option Bool) (pa : GType) (pb : GType) : Option Bool :=
 sw (decide ((pa.gKind : Int) = pb.gKind))
 (sw (decide (pa.gName = pb.gName))
 (bd (r_sl4Same pa.gArgs pb.gArgs) (fun x6 =>
 some x6))
 (some false))
 (some false)
set_option maxRecDepth 100000 in
set_option maxHeartbeats 4000000 in
theorem sEqualType_step (r_sEqualType : GType → GType → Option Bool) (r_sl4Same : (List GType) → (List GType) → Option Bool) (fu : Nat) (h_sEqualType : ∀ (pa : GType) (pb : GType) (r : Bool), r_sEqualType pa pb = some r → AFun Tryz.prog 228 [(GType.pv pa), (GType.pv pb)] (.t (.leaf (.bool (r))) : PV)) (h_sl4Same : ∀ (pa : List GType) (pb : List GType) (r : Bool), r_sl4Same pa pb = some r → AFun Tryz.prog 244 [.t (.row 3 (GType.trs (pa))), .t (.row 3 (GType.trs (pb)))] (.t (.leaf (.bool (r))) : PV)) (pa : GType) (pb : GType) (r : Bool) (H : sEqualType_G fu r_sEqualType r_sl4Same pa pb = some r) : AFun Tryz.prog 228 [(GType.pv pa), (GType.pv pb)] (.t (.leaf (.bool (r))) : PV) := by
  refine ACalls.intro Tryz.func228 rfl (by first | decide | (simp; done) | (simp; decide)) ?_; intro C hC
  refine AWP.seq ?_; refine AWP.region_lit ?_; refine AL.cons rfl (AOp.box (cs := [.t (.leaf (.int .i64 (pa.gKind))), .t (.leaf (.string (pa.gName))), .t (.row 3 (GType.trs (pa.gArgs)))]) rfl rfl rfl rfl rfl) ?_; refine AL.cons rfl (AOp.box (cs := [.t (.leaf (.int .i64 (pb.gKind))), .t (.leaf (.string (pb.gName))), .t (.row 3 (GType.trs (pb.gArgs)))]) rfl rfl rfl rfl rfl) ?_; refine AL.cons rfl (AOp.move (.inr rfl) rfl rfl) ?_; refine AL.nil ?_; refine AWP.seq ?_; refine AWP.region_lit ?_; refine AL.cons rfl (AOp.fieldPtr (k := 0) (d := 0) (e := 0) rfl rfl rfl fo47_0) ?_; refine AL.cons rfl (AOp.loadPtr1 rfl rfl rfl rfl sh3 rfl) ?_; refine AL.cons rfl (AOp.fieldPtr (k := 1) (d := 0) (e := 0) rfl rfl rfl fo47_0) ?_; refine AL.cons rfl (AOp.loadPtr1 rfl rfl rfl rfl sh3 rfl) ?_; refine AL.cons rfl (AOp.eqlI rfl rfl rfl rfl) ?_; refine AL.cons rfl (AOp.move (.inl rfl) rfl rfl) ?_; refine AL.splitB 10 rfl (fun g1 => ?_) (fun g1 => ?_)
  · refine AL.cons_gv rfl rfl rfl g1 (AOp.fieldPtr (k := 0) (d := 0) (e := 1) rfl rfl rfl fo47_1) ?_; refine AL.cons_gv rfl rfl rfl g1 (AOp.loadPtr1 rfl rfl rfl rfl sh9 rfl) ?_; refine AL.cons_gv rfl rfl rfl g1 (AOp.fieldPtr (k := 1) (d := 0) (e := 1) rfl rfl rfl fo47_1) ?_; refine AL.cons_gv rfl rfl rfl g1 (AOp.loadPtr1 rfl rfl rfl rfl sh9 rfl) ?_; refine AL.cons_gv rfl rfl rfl g1 (AOp.eqlS rfl rfl rfl rfl) ?_; refine AL.cons rfl (AOp.pickT rfl rfl rfl g1 rfl) ?_; refine AL.cons rfl (AOp.move (.inl rfl) rfl rfl) ?_; refine AL.splitB 17 rfl (fun g2 => ?_) (fun g2 => ?_)
    · refine AL.cons_gv rfl rfl rfl g2 (AOp.fieldPtr (k := 0) (d := 0) (e := 2) rfl rfl rfl fo47_2) ?_; refine AL.cons_gv rfl rfl rfl g2 (AOp.loadPtr1 rfl rfl rfl rfl sh45 rfl) ?_; refine AL.fact (lk_lenN 19 rfl rfl (GType.trs_len _)) (fun hl3 => ?_)
      refine AL.cons_gv rfl rfl rfl g2 (AOp.fieldPtr (k := 1) (d := 0) (e := 2) rfl rfl rfl fo47_2) ?_; refine AL.cons_gv rfl rfl rfl g2 (AOp.loadPtr1 rfl rfl rfl rfl sh45 rfl) ?_; refine AL.fact (lk_lenN 21 rfl rfl (GType.trs_len _)) (fun hl4 => ?_)
      rcases hq5 : r_sl4Same pa.gArgs pb.gArgs with _ | x6
      · have e7 : sEqualType_G fu r_sEqualType r_sl4Same pa pb = none := swT g1 (swT g2 (bdN hq5))
        exact none_some H e7
      · refine AL.cons_gv rfl rfl rfl g2 (AOp.callF (res := .t (.leaf (.bool (x6)))) (ps := [_, _]) rfl rfl Tryz.func244 (by kernel_rfl) rfl rfl leA rfl rfl (h_sl4Same pa.gArgs pb.gArgs _ hq5)) ?_; refine AL.cons rfl (AOp.pickT rfl rfl rfl g2 rfl) ?_; refine AL.cons rfl (AOp.move (.inr rfl) rfl rfl) ?_; refine AL.nil ?_; refine AWP.ret ?_
        have e8 : sEqualType_G fu r_sEqualType r_sl4Same pa pb = some x6 := swT g1 (swT g2 (bdS hq5 (rfl)))
        have hz : x6 = r := Option.some.inj (e8.symm.trans H)
        subst hz
        exact Ends.mk (ps := [_]) (by first | exact .inr rfl | exact .inl rfl) ⟨rfl, trivial⟩ rfl (StLe.mk' (st' := ⟨[], []⟩) trivial rfl) (keeps_nil hC) (q := (.t (.leaf (.bool (x6))) : PV)) leA rfl ⟨rfl, rfl⟩
    · refine AL.skipP rfl rfl rfl g2 rfl rfl ?_; refine AL.skipP rfl rfl rfl g2 rfl rfl ?_; refine AL.skipP rfl rfl rfl g2 rfl rfl ?_; refine AL.skipP rfl rfl rfl g2 rfl rfl ?_; refine AL.skipP rfl rfl rfl g2 rfl rfl ?_; refine AL.cons rfl (AOp.pickF rfl rfl rfl g2 rfl) ?_; refine AL.cons rfl (AOp.move (.inr rfl) rfl rfl) ?_; refine AL.nil ?_; refine AWP.ret ?_
      have e9 : sEqualType_G fu r_sEqualType r_sl4Same pa pb = some false := swT g1 (swF g2 (rfl))
      have hz : false = r := Option.some.inj (e9.symm.trans H)
      subst hz
      exact Ends.mk (ps := [_]) (by first | exact .inr rfl | exact .inl rfl) ⟨rfl, trivial⟩ rfl (StLe.mk' (st' := ⟨[], []⟩) trivial rfl) (keeps_nil hC) (q := (.t (.leaf (.bool (false))) : PV)) leA rfl ⟨rfl, rfl⟩
  · refine AL.skipP rfl rfl rfl g1 rfl rfl ?_; refine AL.skipP rfl rfl rfl g1 rfl rfl ?_; refine AL.skipP rfl rfl rfl g1 rfl rfl ?_; refine AL.skipP rfl rfl rfl g1 rfl rfl ?_; refine AL.skipP rfl rfl rfl g1 rfl rfl ?_; refine AL.cons rfl (AOp.pickF rfl rfl rfl g1 rfl) ?_; refine AL.cons rfl (AOp.move (.inl rfl) rfl rfl) ?_; refine AL.skipP rfl rfl rfl rfl rfl rfl ?_; refine AL.skipP rfl rfl rfl rfl rfl rfl ?_; refine AL.skipP rfl rfl rfl rfl rfl rfl ?_; refine AL.skipP rfl rfl rfl rfl rfl rfl ?_; refine AL.skipP rfl rfl rfl rfl rfl rfl ?_; refine AL.cons rfl (AOp.pickF rfl rfl rfl rfl rfl) ?_; refine AL.cons rfl (AOp.move (.inr rfl) rfl rfl) ?_; refine AL.nil ?_; refine AWP.ret ?_
    have e10 : sEqualType_G fu r_sEqualType r_sl4Same pa pb = some false := swF g1 (rfl)
    have hz : false = r := Option.some.inj (e10.symm.trans H)
    subst hz
    exact Ends.mk (ps := [_]) (by first | exact .inr rfl | exact .inl rfl) ⟨rfl, trivial⟩ rfl (StLe.mk' (st' := ⟨[], []⟩) trivial rfl) (keeps_nil hC) (q := (.t (.leaf (.bool (false))) : PV)) leA rfl ⟨rfl, rfl⟩
noncomputable def sl4Same_F1 (fu : Nat) (r_sEqualType : GType → GType → Option Bool) (r_sl4Same : (List GType) → (List GType) → Option Bool) (pa : List GType) (pb : List GType) : Nat → Unit → Option (LR Unit Bool) :=
 fun i5 _ => gd (i5 < (pb).length)
 (bd (r_sEqualType (atD pa i5) (atD pb i5)) (fun x10 =>
 sw (!(x10))
 (some (.ret false))
 (some (.next ()))))
noncomputable def sl4Same_R1 (fu : Nat) (r_sEqualType : GType → GType → Option Bool) (r_sl4Same : (List GType) → (List GType) → Option Bool) (pa : List GType) (pb : List GType) : Option (Bool ⊕ Unit) :=
 loopN (sl4Same_F1 fu r_sEqualType r_sl4Same pa pb) (pa.length - 0) 0 ()
noncomputable def sl4Same_G (fu : Nat) (r_sEqualType : GType → GType → Option Bool) (r_sl4Same : (List GType) → (List GType) → Option Bool) (pa : List GType) (pb : List GType) : Option Bool :=
 sw (!decide ((((pa.length : Nat) : Int) : Int) = ((pb.length : Nat) : Int)))
 (some false)
 (so (sl4Same_R1 fu r_sEqualType r_sl4Same pa pb) (fun _ =>
 some true))
set_option maxRecDepth 100000 in
set_option maxHeartbeats 4000000 in
theorem sl4Same_step (r_sEqualType : GType → GType → Option Bool) (r_sl4Same : (List GType) → (List GType) → Option Bool) (fu : Nat) (h_sEqualType : ∀ (pa : GType) (pb : GType) (r : Bool), r_sEqualType pa pb = some r → AFun Tryz.prog 228 [(GType.pv pa), (GType.pv pb)] (.t (.leaf (.bool (r))) : PV)) (h_sl4Same : ∀ (pa : List GType) (pb : List GType) (r : Bool), r_sl4Same pa pb = some r → AFun Tryz.prog 244 [.t (.row 3 (GType.trs (pa))), .t (.row 3 (GType.trs (pb)))] (.t (.leaf (.bool (r))) : PV)) (pa : List GType) (pb : List GType) (r : Bool) (H : sl4Same_G fu r_sEqualType r_sl4Same pa pb = some r) : AFun Tryz.prog 244 [.t (.row 3 (GType.trs (pa))), .t (.row 3 (GType.trs (pb)))] (.t (.leaf (.bool (r))) : PV) := by
  refine ACalls.intro Tryz.func244 rfl (by first | decide | (simp; done) | (simp; decide)) ?_; intro C hC
  refine AWP.fact (lk_lenN 0 rfl rfl (GType.trs_len _)) (fun hl1 => ?_)
  refine AWP.fact (lk_lenN 1 rfl rfl (GType.trs_len _)) (fun hl2 => ?_)
  refine AWP.seq ?_; refine AWP.region_lit ?_; refine AL.cons rfl (AOp.move (.inr rfl) rfl rfl) ?_; refine AL.nil ?_; refine AWP.seq ?_; refine AWP.seq ?_; refine AWP.region_lit ?_; refine AL.cons rfl (AOp.move (.inl rfl) rfl rfl) ?_; refine AL.cons rfl (AOp.lenN rfl rfl rfl rfl el45 (GType.trs_len _)) ?_; refine AL.cons rfl (AOp.move (.inl rfl) rfl rfl) ?_; refine AL.cons rfl (AOp.lenN rfl rfl rfl rfl el45 (GType.trs_len _)) ?_; refine AL.cons rfl (AOp.neqI rfl rfl rfl rfl) ?_; refine AL.nil ?_; refine AWP.cond rfl (fun h3 => ?_) (fun h3 => ?_)
  · refine AWP.seq ?_; refine AWP.region_lit ?_; refine AL.cons rfl (AOp.move (.inr rfl) rfl rfl) ?_; refine AL.nil ?_; refine AWP.ret ?_
    have e4 : sl4Same_G fu r_sEqualType r_sl4Same pa pb = some false := swT h3 (rfl)
    have hz : false = r := Option.some.inj (e4.symm.trans H)
    subst hz
    exact Ends.mk (ps := [_]) (by first | exact .inr rfl | exact .inl rfl) ⟨rfl, trivial⟩ rfl (StLe.mk' (st' := ⟨[], []⟩) trivial rfl) (keeps_nil hC) (q := (.t (.leaf (.bool (false))) : PV)) leA rfl ⟨rfl, rfl⟩
  · refine AWP.skip ?_; refine AWP.seq ?_; refine AWP.seq ?_; refine AWP.region_lit ?_; refine AL.cons rfl (AOp.move (.inr rfl) rfl rfl) ?_; refine AL.nil ?_; refine AWP.cut (ι := Unit) (fun _ => sl4Same_R1 fu r_sEqualType r_sl4Same pa pb = some (.inr ())) (fun _ => ⟨[(4, .t (.leaf (.bool (false))))], ⟨[], []⟩⟩) (by repeat' (first | exact qcEnds | exact ncAWP | exact ncRound | exact ncEx | apply qcThen | apply qcBlock | apply qcCut)) ?_ ?_
    · refine AWP.block ?_; refine AWP.loopR (ι := Nat × Unit) (fun (i5, _) => sl4Same_R1 fu r_sEqualType r_sl4Same pa pb = loopN (sl4Same_F1 fu r_sEqualType r_sl4Same pa pb) (pa.length - i5) i5 ()) (fun (i5, _) => ⟨[(0, .t (.row 3 (GType.trs (pa)))), (1, .t (.row 3 (GType.trs (pb)))), (4, .t (.leaf (.bool (false)))), (5, .t (.leaf (.int .i64 (((i5 : Nat) : Int)))))], ⟨[], []⟩⟩) (fun (i5, _) => pa.length - i5) (0, ()) ?_ ?_ ?_
      · exact rfl
      · exact Wk.mk (StLe.mk' trivial rfl) (keeps_nil hC) ⟨⟨_, rfl, .refl _, rfl⟩, ⟨⟨_, rfl, .refl _, rfl⟩, ⟨⟨_, rfl, .refl _, rfl⟩, ⟨⟨_, rfl, leA, rfl⟩, trivial⟩⟩⟩⟩
      · rintro ⟨i5, ⟨⟩⟩ hJ6
        refine AWP.seq ?_; refine AWP.seq ?_; refine AWP.region_lit ?_; refine AL.cons rfl (AOp.move (.inl rfl) rfl rfl) ?_; refine AL.cons rfl (AOp.move (.inl rfl) rfl rfl) ?_; refine AL.cons rfl (AOp.lenN rfl rfl rfl rfl el45 (GType.trs_len _)) ?_; refine AL.cons rfl (AOp.lss rfl rfl rfl rfl) ?_; refine AL.nil ?_; refine AWP.cond rfl (fun h7 => ?_) (fun h7 => ?_)
        · have h7l : i5 < pa.length := nat_lt_of2 h7
          have h7n := nat_lt_of h7
          refine AWP.skip ?_; refine AWP.seq ?_; refine AWP.block ?_; refine AWP.seq ?_
          rcases Classical.em (i5 < (pb).length) with hg8 | hg8
          · rcases hq9 : r_sEqualType (atD pa i5) (atD pb i5) with _ | x10
            · have e11 : (sl4Same_F1 fu r_sEqualType r_sl4Same pa pb) i5 () = none := gdT hg8 (bdN hq9)
              have e12 : sl4Same_R1 fu r_sEqualType r_sl4Same pa pb = none := loopN_non h7l hJ6 e11
              have e13 : sl4Same_G fu r_sEqualType r_sl4Same pa pb = none := swF h3 (soN e12)
              exact none_some H e13
            · refine AWP.drawnL ⟨_, _, fun _ _ => (⟨[], []⟩ : Sto), fun q' => ([some (.t (.row 3 (GType.trs (pa)))), some (.t (.leaf (.int .i64 (((i5 : Nat) : Int))))), some (.eptr (GType.cs (atD pa i5))), some ((GType.pv (atD pa i5))), some (.t (.row 3 (GType.trs (pb)))), some (.t (.leaf (.int .i64 (((i5 : Nat) : Int))))), some (.eptr (GType.cs (atD pb i5))), some ((GType.pv (atD pb i5))), some (.t (.leaf (.bool (x10)))), some (.t (.leaf (.bool (!(x10)))))] : List (Option PV)).getD q' none, fun q' => ([.q 0 0, .q 0 0, .q 0 0, .q 0 0, .q 0 0, .q 0 0, .q 0 0, .q 0 0, .q 0 0, .q 0 0] : List DK).getD q' (.q 0 0), [], none, fun q' => ([[(0, none)], [(5, none)], [(17, some 0), (18, some 1)], [(19, some 2)], [(1, none)], [(5, none)], [(21, some 4), (22, some 5)], [(23, some 6)], [(24, some 7), (20, some 3)], [(25, some 8)]] : List (List (Nat × Option Nat))).getD q' []⟩ rfl mixed (by kernel_rfl) rfl rfl ⟨?_, ?_, ?_, ?_, ?_, ?_, ?_, ?_, ?_, ?_, trivial⟩ rfl ?_
              · exact Draw.step.q1 0 rfl rfl fun s' bb hs hl => ⟨_, rfl, AOp.move (.inl rfl) rfl (hl 0 none _ (.head _) rfl)⟩
              · exact Draw.step.q1 0 rfl rfl fun s' bb hs hl => ⟨_, rfl, AOp.move (.inl rfl) rfl (hl 5 none _ (.head _) rfl)⟩
              · exact Draw.step.q1 0 rfl rfl fun s' bb hs hl => ⟨_, rfl, AOp.index (k := i5) rfl rfl (hl 17 (some 0) _ (.head _) rfl) rfl (hl 18 (some 1) _ (.tail _ (.head _)) rfl) (GType.trs_at h7n) el45⟩
              · exact Draw.step.q1 0 rfl rfl fun s' bb hs hl => ⟨_, rfl, AOp.loadEptr (ds := [.leaf (.int .i64 ((atD pa i5).gKind)), .leaf (.string ((atD pa i5).gName)), .row 3 (GType.trs ((atD pa i5).gArgs))]) rfl rfl (hl 19 (some 2) _ (.head _) rfl) sh47 rfl rfl⟩
              · exact Draw.step.q1 0 rfl rfl fun s' bb hs hl => ⟨_, rfl, AOp.move (.inl rfl) rfl (hl 1 none _ (.head _) rfl)⟩
              · exact Draw.step.q1 0 rfl rfl fun s' bb hs hl => ⟨_, rfl, AOp.move (.inl rfl) rfl (hl 5 none _ (.head _) rfl)⟩
              · exact Draw.step.q1 0 rfl rfl fun s' bb hs hl => ⟨_, rfl, AOp.index (k := i5) rfl rfl (hl 21 (some 4) _ (.head _) rfl) rfl (hl 22 (some 5) _ (.tail _ (.head _)) rfl) (GType.trs_at hg8) el45⟩
              · exact Draw.step.q1 0 rfl rfl fun s' bb hs hl => ⟨_, rfl, AOp.loadEptr (ds := [.leaf (.int .i64 ((atD pb i5).gKind)), .leaf (.string ((atD pb i5).gName)), .row 3 (GType.trs ((atD pb i5).gArgs))]) rfl rfl (hl 23 (some 6) _ (.head _) rfl) sh47 rfl rfl⟩
              · exact Draw.step.q1 0 rfl rfl fun s' bb hs hl => ⟨_, rfl, AOp.callF (res := .t (.leaf (.bool (x10)))) (ps := [_, _]) rfl rfl Tryz.func228 (by kernel_rfl) rfl (evs_cons (hl 20 (some 3) _ (.tail _ (.head _)) rfl) (evs_cons (hl 24 (some 7) _ (.head _) rfl) rfl)) leA rfl rfl (h_sEqualType (atD pa i5) (atD pb i5) _ hq9)⟩
              · exact Draw.step.q1 0 rfl rfl fun s' bb hs hl => ⟨_, rfl, AOp.notB rfl rfl (hl 25 (some 8) _ (.head _) rfl)⟩
              refine AWP.cond rfl (fun h14 => ?_) (fun h14 => ?_)
              · refine AWP.seq ?_; refine AWP.region_lit ?_; refine AL.cons rfl (AOp.move (.inr rfl) rfl rfl) ?_; refine AL.nil ?_; refine AWP.ret ?_
                have e15 : (sl4Same_F1 fu r_sEqualType r_sl4Same pa pb) i5 () = some (.ret false) := gdT hg8 (bdS hq9 (swT h14 (rfl)))
                have e16 : sl4Same_R1 fu r_sEqualType r_sl4Same pa pb = some (.inl false) := loopN_ret h7l hJ6 e15
                have e17 : sl4Same_G fu r_sEqualType r_sl4Same pa pb = some false := swF h3 (soL e16)
                have hz : false = r := Option.some.inj (e17.symm.trans H)
                subst hz
                exact Ends.mk (ps := [_]) (by first | exact .inr rfl | exact .inl rfl) ⟨rfl, trivial⟩ rfl (StLe.mk' (st' := ⟨[], []⟩) trivial rfl) (keeps_nil hC) (q := (.t (.leaf (.bool (false))) : PV)) leA rfl ⟨rfl, rfl⟩
              · refine AWP.skip ?_; refine AWP.region_lit ?_; refine AL.cons rfl (AOp.move (.inl rfl) rfl rfl) ?_; refine AL.cons rfl (AOp.addI rfl rfl rfl rfl (c := ((i5 + 1 : Nat) : Int)) (by omega) (by omega)) ?_; refine AL.cons rfl (AOp.move (.inr rfl) rfl rfl) ?_; refine AL.nil ?_
                have e18 : (sl4Same_F1 fu r_sEqualType r_sl4Same pa pb) i5 () = some (.next ()) := gdT hg8 (bdS hq9 (swF h14 (rfl)))
                refine ⟨(i5 + 1, ()), loopN_next h7l hJ6 e18, ?_, ?_⟩
                · exact Wk.mk (StLe.mk' trivial rfl) (keeps_nil hC) ⟨⟨_, rfl, .refl _, rfl⟩, ⟨⟨_, rfl, .refl _, rfl⟩, ⟨⟨_, rfl, .refl _, rfl⟩, ⟨⟨_, rfl, leA, rfl⟩, trivial⟩⟩⟩⟩
                · dsimp only; omega
          · have e19 : (sl4Same_F1 fu r_sEqualType r_sl4Same pa pb) i5 () = none := gdF hg8
            have e20 : sl4Same_R1 fu r_sEqualType r_sl4Same pa pb = none := loopN_non h7l hJ6 e19
            have e21 : sl4Same_G fu r_sEqualType r_sl4Same pa pb = none := swF h3 (soN e20)
            exact none_some H e21
        · have h7l : pa.length ≤ i5 := nat_ge_of2 h7
          refine AWP.exit ?_; refine ⟨(), loopN_end h7l hJ6, ?_⟩
          exact Wk.mk (StLe.mk' trivial rfl) (keeps_nil hC) ⟨⟨_, rfl, .refl _, rfl⟩, trivial⟩
    · rintro ⟨⟩ hR22
      refine AWP.seq ?_; refine AWP.region_lit ?_; refine AL.cons rfl (AOp.move (.inr rfl) rfl rfl) ?_; refine AL.nil ?_; refine AWP.ret ?_
      have e23 : sl4Same_G fu r_sEqualType r_sl4Same pa pb = some true := swF h3 (soR hR22 (rfl))
      have hz : true = r := Option.some.inj (e23.symm.trans H)
      subst hz
      exact Ends.mk (ps := [_]) (by first | exact .inr rfl | exact .inl rfl) ⟨rfl, trivial⟩ rfl (StLe.mk' (st' := ⟨[], []⟩) trivial rfl) (keeps_nil hC) (q := (.t (.leaf (.bool (true))) : PV)) leA rfl ⟨rfl, rfl⟩
mutual
noncomputable def sEqualType_M : Nat → GType → GType → Option Bool
  | 0, _, _ => none
  | fu + 1, pa, pb => sEqualType_G fu (sEqualType_M fu) (sl4Same_M fu) pa pb
noncomputable def sl4Same_M : Nat → (List GType) → (List GType) → Option Bool
  | 0, _, _ => none
  | fu + 1, pa, pb => sl4Same_G fu (sEqualType_M fu) (sl4Same_M fu) pa pb
end
theorem sEqualType_all (fu : Nat) : (∀ (pa : GType) (pb : GType) (r : Bool), sEqualType_M fu pa pb = some r → AFun Tryz.prog 228 [(GType.pv pa), (GType.pv pb)] (.t (.leaf (.bool (r))) : PV)) ∧ (∀ (pa : List GType) (pb : List GType) (r : Bool), sl4Same_M fu pa pb = some r → AFun Tryz.prog 244 [.t (.row 3 (GType.trs (pa))), .t (.row 3 (GType.trs (pb)))] (.t (.leaf (.bool (r))) : PV)) := by
  induction fu with
  | zero => exact ⟨(fun pa pb r H => by simp only [sEqualType_M] at H; cases H), (fun pa pb r H => by simp only [sl4Same_M] at H; cases H)⟩
  | succ fu ih => exact ⟨(fun pa pb r H => by simp only [sEqualType_M] at H; exact sEqualType_step (sEqualType_M fu) (sl4Same_M fu) fu ih.1 ih.2 pa pb r H), (fun pa pb r H => by simp only [sl4Same_M] at H; exact sl4Same_step (sEqualType_M fu) (sl4Same_M fu) fu ih.1 ih.2 pa pb r H)⟩
theorem sEqualType_ok (fu : Nat) (pa : GType) (pb : GType) (r : Bool) (H : sEqualType_M fu pa pb = some r) : AFun Tryz.prog 228 [(GType.pv pa), (GType.pv pb)] (.t (.leaf (.bool (r))) : PV) := (sEqualType_all fu).1 pa pb r H
noncomputable def sl4Copy_G (fu : Nat) (r_sl4Copy : GType → Option GType) (r_sl4Copies : (List GType) → Option ((List GType))) (pt : GType) : Option GType :=
 bd (r_sl4Copies pt.gArgs) (fun x2 =>
 some (GType.mk pt.gKind pt.gName x2))
set_option maxRecDepth 100000 in
set_option maxHeartbeats 4000000 in
theorem sl4Copy_step (r_sl4Copy : GType → Option GType) (r_sl4Copies : (List GType) → Option ((List GType))) (fu : Nat) (h_sl4Copy : ∀ (pt : GType) (r : GType), r_sl4Copy pt = some r → AFun Tryz.prog 110 [(GType.pv pt)] ((GType.pv r) : PV)) (h_sl4Copies : ∀ (plist : List GType) (r : (List GType)), r_sl4Copies plist = some r → AFun Tryz.prog 162 [.t (.row 3 (GType.trs (plist)))] (.t (.row 3 (GType.trs (r))) : PV)) (pt : GType) (r : GType) (H : sl4Copy_G fu r_sl4Copy r_sl4Copies pt = some r) : AFun Tryz.prog 110 [(GType.pv pt)] ((GType.pv r) : PV) := by
  refine ACalls.intro Tryz.func110 rfl (by first | decide | (simp; done) | (simp; decide)) ?_; intro C hC
  refine AWP.seq ?_; refine AWP.region_lit ?_; refine AL.cons rfl (AOp.box (cs := [.t (.leaf (.int .i64 (pt.gKind))), .t (.leaf (.string (pt.gName))), .t (.row 3 (GType.trs (pt.gArgs)))]) rfl rfl rfl rfl rfl) ?_; refine AL.cons rfl (AOp.alloc rfl rfl zr47) ?_; refine AL.nil ?_; refine AWP.seq ?_
  rcases hq1 : r_sl4Copies pt.gArgs with _ | x2
  · have e3 : sl4Copy_G fu r_sl4Copy r_sl4Copies pt = none := bdN hq1
    exact none_some H e3
  · refine AWP.drawnL ⟨_, _, fun j' _ => ([(⟨[some ⟨47, [.t (.leaf (.int .i64 (pt.gKind))), .t (.leaf (.string (pt.gName))), .t (.row 3 (GType.trs (pt.gArgs)))]⟩, some ⟨47, [.t (.leaf (.int .i64 (0))), .t (.leaf (.string (⟨#[]⟩))), .nil]⟩], []⟩ : Sto), (⟨[some ⟨47, [.t (.leaf (.int .i64 (pt.gKind))), .t (.leaf (.string (pt.gName))), .t (.row 3 (GType.trs (pt.gArgs)))]⟩, some ⟨47, [.t (.leaf (.int .i64 (pt.gKind))), .t (.leaf (.string (pt.gName))), .t (.row 3 (GType.trs (x2)))]⟩], []⟩ : Sto)] : List Sto).getD j' (⟨[some ⟨47, [.t (.leaf (.int .i64 (pt.gKind))), .t (.leaf (.string (pt.gName))), .t (.row 3 (GType.trs (pt.gArgs)))]⟩, some ⟨47, [.t (.leaf (.int .i64 (pt.gKind))), .t (.leaf (.string (pt.gName))), .t (.row 3 (GType.trs (x2)))]⟩], []⟩ : Sto), fun q' => ([some (.ptr 0 0), some (.t (.leaf (.int .i64 (pt.gKind)))), some (.ptr 0 1), some (.t (.leaf (.string (pt.gName)))), some (.ptr 0 2), some (.t (.row 3 (GType.trs (pt.gArgs)))), some (.t (.row 3 (GType.trs (x2)))), some (.agg [.t (.leaf (.int .i64 (pt.gKind))), .t (.leaf (.string (pt.gName))), .t (.row 3 (GType.trs (x2)))]), none] : List (Option PV)).getD q' none, fun q' => ([.q 0 0, .q 0 0, .q 0 0, .q 0 0, .q 0 0, .q 0 0, .q 0 0, .q 0 0, .ef 0] : List DK).getD q' (.q 0 0), [8], none, fun q' => ([[(1, none)], [(3, some 0)], [(1, none)], [(5, some 2)], [(1, none)], [(7, some 4)], [(8, some 5)], [(9, some 6), (6, some 3), (4, some 1)], [(2, none), (10, some 7)]] : List (List (Nat × Option Nat))).getD q' []⟩ rfl mixed (by kernel_rfl) rfl rfl ⟨?_, ?_, ?_, ?_, ?_, ?_, ?_, ?_, ?_, trivial⟩ rfl ?_
    · exact Draw.step.q1 0 rfl rfl fun s' bb hs hl => ⟨_, rfl, AOp.fieldPtr (k := 0) (d := 0) (e := 0) rfl rfl (hl 1 none _ (.head _) rfl) fo47_0⟩
    · exact Draw.step.q1 0 rfl rfl fun s' bb hs hl => ⟨_, rfl, AOp.loadPtr1 rfl rfl (hl 3 (some 0) _ (.head _) rfl) (by rw [hs]; rfl) sh3 rfl⟩
    · exact Draw.step.q1 0 rfl rfl fun s' bb hs hl => ⟨_, rfl, AOp.fieldPtr (k := 0) (d := 0) (e := 1) rfl rfl (hl 1 none _ (.head _) rfl) fo47_1⟩
    · exact Draw.step.q1 0 rfl rfl fun s' bb hs hl => ⟨_, rfl, AOp.loadPtr1 rfl rfl (hl 5 (some 2) _ (.head _) rfl) (by rw [hs]; rfl) sh9 rfl⟩
    · exact Draw.step.q1 0 rfl rfl fun s' bb hs hl => ⟨_, rfl, AOp.fieldPtr (k := 0) (d := 0) (e := 2) rfl rfl (hl 1 none _ (.head _) rfl) fo47_2⟩
    · exact Draw.step.q1 0 rfl rfl fun s' bb hs hl => ⟨_, rfl, AOp.loadPtr1 rfl rfl (hl 7 (some 4) _ (.head _) rfl) (by rw [hs]; rfl) sh45 rfl⟩
    · exact Draw.step.q1 0 rfl rfl fun s' bb hs hl => ⟨_, rfl, AOp.callF (res := .t (.row 3 (GType.trs (x2)))) (ps := [_]) rfl rfl Tryz.func162 (by kernel_rfl) rfl (evs_cons (hl 8 (some 5) _ (.head _) rfl) rfl) leA rfl rfl (h_sl4Copies pt.gArgs _ hq1)⟩
    · exact Draw.step.q1 0 rfl rfl fun s' bb hs hl => ⟨_, rfl, AOp.build rfl rfl zr47 pl47 (parts_cons (hl 4 (some 1) _ (.tail _ (.tail _ (.head _))) rfl) rfl rfl (parts_cons (hl 6 (some 3) _ (.tail _ (.head _)) rfl) rfl rfl (parts_cons (hl 9 (some 6) _ (.head _) rfl) rfl rfl rfl))) rfl⟩
    · refine .inl ⟨rfl, fun s' bb hs hl => ?_⟩
      refine .inr ⟨rfl, AOp.congr (AOp.storePtr (cs := [.t (.leaf (.int .i64 (pt.gKind))), .t (.leaf (.string (pt.gName))), .t (.row 3 (GType.trs (x2)))]) (ds := [.t (.leaf (.int .i64 (pt.gKind))), .t (.leaf (.string (pt.gName))), .t (.row 3 (GType.trs (x2)))]) rfl (hl 2 none _ (.head _) rfl) (by rw [hs]; rfl) (hl 10 (some 7) _ (.tail _ (.head _)) rfl) rfl rfl rfl sz47 (Nat.le_of_ble_eq_true rfl) rfl) ?_⟩
      first | (rw [hs]; rfl) | rfl
    refine AWP.ret ?_
    have e4 : sl4Copy_G fu r_sl4Copy r_sl4Copies pt = some (GType.mk pt.gKind pt.gName x2) := bdS hq1 (rfl)
    have hz : (GType.mk pt.gKind pt.gName x2) = r := Option.some.inj (e4.symm.trans H)
    subst hz
    exact Ends.mk (ps := [_]) (by first | exact .inr rfl | exact .inl rfl) ⟨⟨_, _, _, rfl, rfl, sh47, rfl, rfl⟩, trivial⟩ rfl (StLe.mk' (st' := ⟨[], []⟩) trivial rfl) (keeps_nil hC) (q := ((GType.pv (GType.mk pt.gKind pt.gName x2)) : PV)) leA rfl ⟨rfl, rfl⟩
noncomputable def sl4Copies_F1 (fu : Nat) (r_sl4Copy : GType → Option GType) (r_sl4Copies : (List GType) → Option ((List GType))) (plist : List GType) : Nat → ((List GType)) → Option (LR ((List GType)) ((List GType))) :=
 fun i2 v4 => bd (r_sl4Copy (atD plist i2)) (fun x9 =>
 gd ((v4).length + (([x9] : List GType)).length ≤ 68719476736)
 (some (.next (v4 ++ ([x9] : List GType)))))
noncomputable def sl4Copies_R1 (fu : Nat) (r_sl4Copy : GType → Option GType) (r_sl4Copies : (List GType) → Option ((List GType))) (plist : List GType) : Option (((List GType)) ⊕ ((List GType))) :=
 loopN (sl4Copies_F1 fu r_sl4Copy r_sl4Copies plist) (plist.length - 0) 0 ([])
noncomputable def sl4Copies_G (fu : Nat) (r_sl4Copy : GType → Option GType) (r_sl4Copies : (List GType) → Option ((List GType))) (plist : List GType) : Option ((List GType)) :=
 so (sl4Copies_R1 fu r_sl4Copy r_sl4Copies plist) (fun v4 =>
 some v4)
set_option maxRecDepth 100000 in
set_option maxHeartbeats 4000000 in
theorem sl4Copies_step (r_sl4Copy : GType → Option GType) (r_sl4Copies : (List GType) → Option ((List GType))) (fu : Nat) (h_sl4Copy : ∀ (pt : GType) (r : GType), r_sl4Copy pt = some r → AFun Tryz.prog 110 [(GType.pv pt)] ((GType.pv r) : PV)) (h_sl4Copies : ∀ (plist : List GType) (r : (List GType)), r_sl4Copies plist = some r → AFun Tryz.prog 162 [.t (.row 3 (GType.trs (plist)))] (.t (.row 3 (GType.trs (r))) : PV)) (plist : List GType) (r : (List GType)) (H : sl4Copies_G fu r_sl4Copy r_sl4Copies plist = some r) : AFun Tryz.prog 162 [.t (.row 3 (GType.trs (plist)))] (.t (.row 3 (GType.trs (r))) : PV) := by
  refine ACalls.intro Tryz.func162 rfl (by first | decide | (simp; done) | (simp; decide)) ?_; intro C hC
  refine AWP.fact (lk_lenN 0 rfl rfl (GType.trs_len _)) (fun hl1 => ?_)
  refine AWP.seq ?_; refine AWP.region_lit ?_; refine AL.cons rfl (AOp.move (.inr rfl) rfl rfl) ?_; refine AL.nil ?_; refine AWP.seq ?_; refine AWP.region_lit ?_; refine AL.cons rfl (AOp.buildSliceA (es := []) (es' := GType.trs ([])) (cs := []) rfl rfl el45 zr47 rfl rfl leA rfl (by simp [GType.cs]) (by decide) rfl (by decide) (by simp [GType.trs_map, GType.tr_cs])) ?_; refine AL.cons rfl (AOp.move (.inr rfl) rfl rfl) ?_; refine AL.nil ?_; refine AWP.seq ?_; refine AWP.seq ?_; refine AWP.region_lit ?_; refine AL.cons rfl (AOp.move (.inr rfl) rfl rfl) ?_; refine AL.nil ?_; refine AWP.fact (lk_lenN 3 rfl rfl (GType.trs_len _)) (fun hl5 => ?_)
  refine AWP.cut (ι := (List GType)) (fun v4 => sl4Copies_R1 fu r_sl4Copy r_sl4Copies plist = some (.inr v4)) (fun v4 => ⟨[(2, .nil), (3, .acc 3 (GType.trs (v4)) 0)], ⟨[], [⟨47, 3, GType.trs (v4), false⟩]⟩⟩) (by repeat' (first | exact qcEnds | exact ncAWP | exact ncRound | exact ncEx | apply qcThen | apply qcBlock | apply qcCut)) ?_ ?_
  · refine AWP.block ?_; refine AWP.loopR (ι := Nat × ((List GType))) (fun (i2, v4) => sl4Copies_R1 fu r_sl4Copy r_sl4Copies plist = loopN (sl4Copies_F1 fu r_sl4Copy r_sl4Copies plist) (plist.length - i2) i2 v4) (fun (i2, v4) => ⟨[(0, .t (.row 3 (GType.trs (plist)))), (2, .nil), (3, .acc 3 (GType.trs (v4)) 0), (4, .t (.leaf (.int .i64 (((i2 : Nat) : Int)))))], ⟨[], [⟨47, 3, GType.trs (v4), false⟩]⟩⟩) (fun (i2, v4) => plist.length - i2) (0, ([])) ?_ ?_ ?_
    · exact rfl
    · exact Wk.mk (StLe.mk' trivial (by first | rfl | simp)) (keeps_nil hC) ⟨⟨_, rfl, .refl _, rfl⟩, ⟨⟨_, rfl, .refl _, rfl⟩, ⟨⟨_, rfl, leA, rfl⟩, ⟨⟨_, rfl, leA, rfl⟩, trivial⟩⟩⟩⟩
    · rintro ⟨i2, v4⟩ hJ6
      refine AWP.seq ?_; refine AWP.seq ?_; refine AWP.region_lit ?_; refine AL.cons rfl (AOp.move (.inl rfl) rfl rfl) ?_; refine AL.cons rfl (AOp.move (.inl rfl) rfl rfl) ?_; refine AL.cons rfl (AOp.lenN rfl rfl rfl rfl el45 (GType.trs_len _)) ?_; refine AL.cons rfl (AOp.lss rfl rfl rfl rfl) ?_; refine AL.nil ?_; refine AWP.cond rfl (fun h7 => ?_) (fun h7 => ?_)
      · have h7l : i2 < plist.length := nat_lt_of2 h7
        have h7n := nat_lt_of h7
        refine AWP.skip ?_; refine AWP.seq ?_; refine AWP.block ?_; refine AWP.region_lit ?_; refine AL.cons rfl (AOp.move (.inl rfl) rfl rfl) ?_; refine AL.cons rfl (AOp.move (.inl rfl) rfl rfl) ?_; refine AL.cons rfl (AOp.move (.inl rfl) rfl rfl) ?_; refine AL.cons rfl (AOp.index (k := i2) rfl rfl rfl rfl rfl (GType.trs_at h7n) el45) ?_; refine AL.cons rfl (AOp.loadEptr (ds := [.leaf (.int .i64 ((atD plist i2).gKind)), .leaf (.string ((atD plist i2).gName)), .row 3 (GType.trs ((atD plist i2).gArgs))]) rfl rfl rfl sh47 rfl rfl) ?_
        rcases hq8 : r_sl4Copy (atD plist i2) with _ | x9
        · have e10 : (sl4Copies_F1 fu r_sl4Copy r_sl4Copies plist) i2 v4 = none := bdN hq8
          have e11 : sl4Copies_R1 fu r_sl4Copy r_sl4Copies plist = none := loopN_non h7l hJ6 e10
          have e12 : sl4Copies_G fu r_sl4Copy r_sl4Copies plist = none := soN e11
          exact none_some H e12
        · refine AL.cons rfl (AOp.callF (res := (GType.pv x9)) (ps := [_]) rfl rfl Tryz.func110 (by kernel_rfl) rfl rfl leA rfl rfl (h_sl4Copy (atD plist i2) _ hq8)) ?_; refine AL.cons rfl (AOp.buildSliceE (es := [GType.cs x9]) (es' := GType.trs (([x9] : List GType))) (cs := [.t (.leaf (.int .i64 (x9.gKind))), .t (.leaf (.string (x9.gName))), .t (.row 3 (GType.trs (x9.gArgs)))]) rfl rfl el45 zr47 rfl rfl leA rfl (by simp [GType.cs]) (by decide) rfl (by decide) (by simp [GType.trs_map, GType.tr_cs])) ?_
          rcases Classical.em ((v4).length + (([x9] : List GType)).length ≤ 68719476736) with hg13 | hg13
          · refine AL.cons rfl (AOp.appendE (es3 := GType.trs (v4 ++ ([x9] : List GType))) rfl rfl rfl rfl rfl rfl rfl rfl rfl (fun e he => by rw [GType.trs_map] at he; obtain ⟨x, _, rfl⟩ := List.mem_map.1 he; rw [GType.tr_cs]; rfl) el45 ze45 (by decide) (by rw [GType.trs_len, GType.trs_len]; exact room_le hg13 (by decide)) (by rw [GType.trs_map, GType.trs_map, GType.trs_map, List.map_append])) ?_; refine AL.cons rfl (AOp.move (.inr rfl) rfl rfl) ?_; refine AL.nil ?_; refine AWP.region_lit ?_; refine AL.cons rfl (AOp.move (.inl rfl) rfl rfl) ?_; refine AL.cons rfl (AOp.addI rfl rfl rfl rfl (c := ((i2 + 1 : Nat) : Int)) (by omega) (by omega)) ?_; refine AL.cons rfl (AOp.move (.inr rfl) rfl rfl) ?_; refine AL.nil ?_
            have e14 : (sl4Copies_F1 fu r_sl4Copy r_sl4Copies plist) i2 v4 = some (.next (v4 ++ ([x9] : List GType))) := bdS hq8 (gdT hg13 (rfl))
            refine ⟨(i2 + 1, (v4 ++ ([x9] : List GType))), loopN_next h7l hJ6 e14, ?_, ?_⟩
            · exact Wk.mk (StLe.mk' trivial (by first | rfl | simp)) (keeps_nil hC) ⟨⟨_, rfl, .refl _, rfl⟩, ⟨⟨_, rfl, .refl _, rfl⟩, ⟨⟨_, rfl, leA, rfl⟩, ⟨⟨_, rfl, leA, rfl⟩, trivial⟩⟩⟩⟩
            · dsimp only; omega
          · have e15 : (sl4Copies_F1 fu r_sl4Copy r_sl4Copies plist) i2 v4 = none := bdS hq8 (gdF hg13)
            have e16 : sl4Copies_R1 fu r_sl4Copy r_sl4Copies plist = none := loopN_non h7l hJ6 e15
            have e17 : sl4Copies_G fu r_sl4Copy r_sl4Copies plist = none := soN e16
            exact none_some H e17
      · have h7l : plist.length ≤ i2 := nat_ge_of2 h7
        refine AWP.exit ?_; refine ⟨v4, loopN_end h7l hJ6, ?_⟩
        exact Wk.mk (StLe.mk' trivial (by first | rfl | simp)) (keeps_nil hC) ⟨⟨_, rfl, .refl _, rfl⟩, ⟨⟨_, rfl, .refl _, rfl⟩, trivial⟩⟩
  · rintro v4 hR18
    refine AWP.seq ?_; refine AWP.region_lit ?_; refine AL.cons rfl (AOp.move (.inl rfl) rfl rfl) ?_; refine AL.cons rfl (AOp.move (.inr rfl) rfl rfl) ?_; refine AL.nil ?_; refine AWP.ret ?_
    have e19 : sl4Copies_G fu r_sl4Copy r_sl4Copies plist = some v4 := soR hR18 (rfl)
    have hz : v4 = r := Option.some.inj (e19.symm.trans H)
    subst hz
    exact Ends.mk (ps := [_]) (by first | exact .inr rfl | exact .inl rfl) ⟨rfl, trivial⟩ rfl (StLe.mk' (st' := ⟨[], []⟩) trivial rfl) (keeps_nil hC) (q := (.t (.row 3 (GType.trs (v4))) : PV)) leA rfl ⟨rfl, rfl⟩
mutual
noncomputable def sl4Copy_M : Nat → GType → Option GType
  | 0, _ => none
  | fu + 1, pt => sl4Copy_G fu (sl4Copy_M fu) (sl4Copies_M fu) pt
noncomputable def sl4Copies_M : Nat → (List GType) → Option ((List GType))
  | 0, _ => none
  | fu + 1, plist => sl4Copies_G fu (sl4Copy_M fu) (sl4Copies_M fu) plist
end
theorem sl4Copy_all (fu : Nat) : (∀ (pt : GType) (r : GType), sl4Copy_M fu pt = some r → AFun Tryz.prog 110 [(GType.pv pt)] ((GType.pv r) : PV)) ∧ (∀ (plist : List GType) (r : (List GType)), sl4Copies_M fu plist = some r → AFun Tryz.prog 162 [.t (.row 3 (GType.trs (plist)))] (.t (.row 3 (GType.trs (r))) : PV)) := by
  induction fu with
  | zero => exact ⟨(fun pt r H => by simp only [sl4Copy_M] at H; cases H), (fun plist r H => by simp only [sl4Copies_M] at H; cases H)⟩
  | succ fu ih => exact ⟨(fun pt r H => by simp only [sl4Copy_M] at H; exact sl4Copy_step (sl4Copy_M fu) (sl4Copies_M fu) fu ih.1 ih.2 pt r H), (fun plist r H => by simp only [sl4Copies_M] at H; exact sl4Copies_step (sl4Copy_M fu) (sl4Copies_M fu) fu ih.1 ih.2 plist r H)⟩
theorem sl4Copy_ok (fu : Nat) (pt : GType) (r : GType) (H : sl4Copy_M fu pt = some r) : AFun Tryz.prog 110 [(GType.pv pt)] ((GType.pv r) : PV) := (sl4Copy_all fu).1 pt r H
noncomputable def iEqualType_G (fu : Nat) (r_iEqualType : GType → GType → Option Bool) (r_gEqualFunc_Type__iEqualType : (List GType) → (List GType) → Option Bool) (pa : GType) (pb : GType) : Option Bool :=
 sw (decide ((pa.gKind : Int) = pb.gKind))
 (sw (decide (pa.gName = pb.gName))
 (bd (r_gEqualFunc_Type__iEqualType pa.gArgs pb.gArgs) (fun x6 =>
 some x6))
 (some false))
 (some false)
set_option maxRecDepth 100000 in
set_option maxHeartbeats 4000000 in
theorem iEqualType_step (r_iEqualType : GType → GType → Option Bool) (r_gEqualFunc_Type__iEqualType : (List GType) → (List GType) → Option Bool) (fu : Nat) (h_iEqualType : ∀ (pa : GType) (pb : GType) (r : Bool), r_iEqualType pa pb = some r → AFun Tryz.prog 215 [(GType.pv pa), (GType.pv pb)] (.t (.leaf (.bool (r))) : PV)) (h_gEqualFunc_Type__iEqualType : ∀ (ps1 : List GType) (ps2 : List GType) (r : Bool), r_gEqualFunc_Type__iEqualType ps1 ps2 = some r → AFun Tryz.prog 229 [.t (.row 3 (GType.trs (ps1))), .t (.row 3 (GType.trs (ps2))), .fn 215 []] (.t (.leaf (.bool (r))) : PV)) (pa : GType) (pb : GType) (r : Bool) (H : iEqualType_G fu r_iEqualType r_gEqualFunc_Type__iEqualType pa pb = some r) : AFun Tryz.prog 215 [(GType.pv pa), (GType.pv pb)] (.t (.leaf (.bool (r))) : PV) := by
  refine ACalls.intro Tryz.func215 rfl (by first | decide | (simp; done) | (simp; decide)) ?_; intro C hC
  refine AWP.seq ?_; refine AWP.region_lit ?_; refine AL.cons rfl (AOp.box (cs := [.t (.leaf (.int .i64 (pa.gKind))), .t (.leaf (.string (pa.gName))), .t (.row 3 (GType.trs (pa.gArgs)))]) rfl rfl rfl rfl rfl) ?_; refine AL.cons rfl (AOp.box (cs := [.t (.leaf (.int .i64 (pb.gKind))), .t (.leaf (.string (pb.gName))), .t (.row 3 (GType.trs (pb.gArgs)))]) rfl rfl rfl rfl rfl) ?_; refine AL.cons rfl (AOp.move (.inr rfl) rfl rfl) ?_; refine AL.nil ?_; refine AWP.seq ?_; refine AWP.region_lit ?_; refine AL.cons rfl (AOp.fieldPtr (k := 0) (d := 0) (e := 0) rfl rfl rfl fo47_0) ?_; refine AL.cons rfl (AOp.loadPtr1 rfl rfl rfl rfl sh3 rfl) ?_; refine AL.cons rfl (AOp.fieldPtr (k := 1) (d := 0) (e := 0) rfl rfl rfl fo47_0) ?_; refine AL.cons rfl (AOp.loadPtr1 rfl rfl rfl rfl sh3 rfl) ?_; refine AL.cons rfl (AOp.eqlI rfl rfl rfl rfl) ?_; refine AL.cons rfl (AOp.move (.inl rfl) rfl rfl) ?_; refine AL.splitB 10 rfl (fun g1 => ?_) (fun g1 => ?_)
  · refine AL.cons_gv rfl rfl rfl g1 (AOp.fieldPtr (k := 0) (d := 0) (e := 1) rfl rfl rfl fo47_1) ?_; refine AL.cons_gv rfl rfl rfl g1 (AOp.loadPtr1 rfl rfl rfl rfl sh9 rfl) ?_; refine AL.cons_gv rfl rfl rfl g1 (AOp.fieldPtr (k := 1) (d := 0) (e := 1) rfl rfl rfl fo47_1) ?_; refine AL.cons_gv rfl rfl rfl g1 (AOp.loadPtr1 rfl rfl rfl rfl sh9 rfl) ?_; refine AL.cons_gv rfl rfl rfl g1 (AOp.eqlS rfl rfl rfl rfl) ?_; refine AL.cons rfl (AOp.pickT rfl rfl rfl g1 rfl) ?_; refine AL.cons rfl (AOp.move (.inl rfl) rfl rfl) ?_; refine AL.splitB 17 rfl (fun g2 => ?_) (fun g2 => ?_)
    · refine AL.cons_gv rfl rfl rfl g2 (AOp.fieldPtr (k := 0) (d := 0) (e := 2) rfl rfl rfl fo47_2) ?_; refine AL.cons_gv rfl rfl rfl g2 (AOp.loadPtr1 rfl rfl rfl rfl sh45 rfl) ?_; refine AL.fact (lk_lenN 19 rfl rfl (GType.trs_len _)) (fun hl3 => ?_)
      refine AL.cons_gv rfl rfl rfl g2 (AOp.fieldPtr (k := 1) (d := 0) (e := 2) rfl rfl rfl fo47_2) ?_; refine AL.cons_gv rfl rfl rfl g2 (AOp.loadPtr1 rfl rfl rfl rfl sh45 rfl) ?_; refine AL.fact (lk_lenN 21 rfl rfl (GType.trs_len _)) (fun hl4 => ?_)
      rcases hq5 : r_gEqualFunc_Type__iEqualType pa.gArgs pb.gArgs with _ | x6
      · have e7 : iEqualType_G fu r_iEqualType r_gEqualFunc_Type__iEqualType pa pb = none := swT g1 (swT g2 (bdN hq5))
        exact none_some H e7
      · refine AL.cons_gv rfl rfl rfl g2 (AOp.callF (res := .t (.leaf (.bool (x6)))) (ps := [_, _, _]) rfl rfl Tryz.func229 (by kernel_rfl) rfl rfl leA rfl rfl (h_gEqualFunc_Type__iEqualType pa.gArgs pb.gArgs _ hq5)) ?_; refine AL.cons rfl (AOp.pickT rfl rfl rfl g2 rfl) ?_; refine AL.cons rfl (AOp.move (.inr rfl) rfl rfl) ?_; refine AL.nil ?_; refine AWP.ret ?_
        have e8 : iEqualType_G fu r_iEqualType r_gEqualFunc_Type__iEqualType pa pb = some x6 := swT g1 (swT g2 (bdS hq5 (rfl)))
        have hz : x6 = r := Option.some.inj (e8.symm.trans H)
        subst hz
        exact Ends.mk (ps := [_]) (by first | exact .inr rfl | exact .inl rfl) ⟨rfl, trivial⟩ rfl (StLe.mk' (st' := ⟨[], []⟩) trivial rfl) (keeps_nil hC) (q := (.t (.leaf (.bool (x6))) : PV)) leA rfl ⟨rfl, rfl⟩
    · refine AL.skipP rfl rfl rfl g2 rfl rfl ?_; refine AL.skipP rfl rfl rfl g2 rfl rfl ?_; refine AL.skipP rfl rfl rfl g2 rfl rfl ?_; refine AL.skipP rfl rfl rfl g2 rfl rfl ?_; refine AL.skipP rfl rfl rfl g2 rfl rfl ?_; refine AL.cons rfl (AOp.pickF rfl rfl rfl g2 rfl) ?_; refine AL.cons rfl (AOp.move (.inr rfl) rfl rfl) ?_; refine AL.nil ?_; refine AWP.ret ?_
      have e9 : iEqualType_G fu r_iEqualType r_gEqualFunc_Type__iEqualType pa pb = some false := swT g1 (swF g2 (rfl))
      have hz : false = r := Option.some.inj (e9.symm.trans H)
      subst hz
      exact Ends.mk (ps := [_]) (by first | exact .inr rfl | exact .inl rfl) ⟨rfl, trivial⟩ rfl (StLe.mk' (st' := ⟨[], []⟩) trivial rfl) (keeps_nil hC) (q := (.t (.leaf (.bool (false))) : PV)) leA rfl ⟨rfl, rfl⟩
  · refine AL.skipP rfl rfl rfl g1 rfl rfl ?_; refine AL.skipP rfl rfl rfl g1 rfl rfl ?_; refine AL.skipP rfl rfl rfl g1 rfl rfl ?_; refine AL.skipP rfl rfl rfl g1 rfl rfl ?_; refine AL.skipP rfl rfl rfl g1 rfl rfl ?_; refine AL.cons rfl (AOp.pickF rfl rfl rfl g1 rfl) ?_; refine AL.cons rfl (AOp.move (.inl rfl) rfl rfl) ?_; refine AL.skipP rfl rfl rfl rfl rfl rfl ?_; refine AL.skipP rfl rfl rfl rfl rfl rfl ?_; refine AL.skipP rfl rfl rfl rfl rfl rfl ?_; refine AL.skipP rfl rfl rfl rfl rfl rfl ?_; refine AL.skipP rfl rfl rfl rfl rfl rfl ?_; refine AL.cons rfl (AOp.pickF rfl rfl rfl rfl rfl) ?_; refine AL.cons rfl (AOp.move (.inr rfl) rfl rfl) ?_; refine AL.nil ?_; refine AWP.ret ?_
    have e10 : iEqualType_G fu r_iEqualType r_gEqualFunc_Type__iEqualType pa pb = some false := swF g1 (rfl)
    have hz : false = r := Option.some.inj (e10.symm.trans H)
    subst hz
    exact Ends.mk (ps := [_]) (by first | exact .inr rfl | exact .inl rfl) ⟨rfl, trivial⟩ rfl (StLe.mk' (st' := ⟨[], []⟩) trivial rfl) (keeps_nil hC) (q := (.t (.leaf (.bool (false))) : PV)) leA rfl ⟨rfl, rfl⟩
noncomputable def gEqualFunc_Type__iEqualType_F1 (fu : Nat) (r_iEqualType : GType → GType → Option Bool) (r_gEqualFunc_Type__iEqualType : (List GType) → (List GType) → Option Bool) (ps1 : List GType) (ps2 : List GType) : Nat → Unit → Option (LR Unit Bool) :=
 fun i5 _ => gd (i5 < (ps2).length)
 (bd (r_iEqualType (atD ps1 i5) (atD ps2 i5)) (fun x10 =>
 sw (!(x10))
 (some (.ret false))
 (some (.next ()))))
noncomputable def gEqualFunc_Type__iEqualType_R1 (fu : Nat) (r_iEqualType : GType → GType → Option Bool) (r_gEqualFunc_Type__iEqualType : (List GType) → (List GType) → Option Bool) (ps1 : List GType) (ps2 : List GType) : Option (Bool ⊕ Unit) :=
 loopN (gEqualFunc_Type__iEqualType_F1 fu r_iEqualType r_gEqualFunc_Type__iEqualType ps1 ps2) (ps1.length - 0) 0 ()
noncomputable def gEqualFunc_Type__iEqualType_G (fu : Nat) (r_iEqualType : GType → GType → Option Bool) (r_gEqualFunc_Type__iEqualType : (List GType) → (List GType) → Option Bool) (ps1 : List GType) (ps2 : List GType) : Option Bool :=
 sw (!decide ((((ps1.length : Nat) : Int) : Int) = ((ps2.length : Nat) : Int)))
 (some false)
 (so (gEqualFunc_Type__iEqualType_R1 fu r_iEqualType r_gEqualFunc_Type__iEqualType ps1 ps2) (fun _ =>
 some true))
set_option maxRecDepth 100000 in
set_option maxHeartbeats 4000000 in
theorem gEqualFunc_Type__iEqualType_step (r_iEqualType : GType → GType → Option Bool) (r_gEqualFunc_Type__iEqualType : (List GType) → (List GType) → Option Bool) (fu : Nat) (h_iEqualType : ∀ (pa : GType) (pb : GType) (r : Bool), r_iEqualType pa pb = some r → AFun Tryz.prog 215 [(GType.pv pa), (GType.pv pb)] (.t (.leaf (.bool (r))) : PV)) (h_gEqualFunc_Type__iEqualType : ∀ (ps1 : List GType) (ps2 : List GType) (r : Bool), r_gEqualFunc_Type__iEqualType ps1 ps2 = some r → AFun Tryz.prog 229 [.t (.row 3 (GType.trs (ps1))), .t (.row 3 (GType.trs (ps2))), .fn 215 []] (.t (.leaf (.bool (r))) : PV)) (ps1 : List GType) (ps2 : List GType) (r : Bool) (H : gEqualFunc_Type__iEqualType_G fu r_iEqualType r_gEqualFunc_Type__iEqualType ps1 ps2 = some r) : AFun Tryz.prog 229 [.t (.row 3 (GType.trs (ps1))), .t (.row 3 (GType.trs (ps2))), .fn 215 []] (.t (.leaf (.bool (r))) : PV) := by
  refine ACalls.intro Tryz.func229 rfl (by first | decide | (simp; done) | (simp; decide)) ?_; intro C hC
  refine AWP.fact (lk_lenN 0 rfl rfl (GType.trs_len _)) (fun hl1 => ?_)
  refine AWP.fact (lk_lenN 1 rfl rfl (GType.trs_len _)) (fun hl2 => ?_)
  refine AWP.seq ?_; refine AWP.region_lit ?_; refine AL.cons rfl (AOp.move (.inr rfl) rfl rfl) ?_; refine AL.nil ?_; refine AWP.seq ?_; refine AWP.seq ?_; refine AWP.region_lit ?_; refine AL.cons rfl (AOp.move (.inl rfl) rfl rfl) ?_; refine AL.cons rfl (AOp.lenN rfl rfl rfl rfl el45 (GType.trs_len _)) ?_; refine AL.cons rfl (AOp.move (.inl rfl) rfl rfl) ?_; refine AL.cons rfl (AOp.lenN rfl rfl rfl rfl el45 (GType.trs_len _)) ?_; refine AL.cons rfl (AOp.neqI rfl rfl rfl rfl) ?_; refine AL.nil ?_; refine AWP.cond rfl (fun h3 => ?_) (fun h3 => ?_)
  · refine AWP.seq ?_; refine AWP.region_lit ?_; refine AL.cons rfl (AOp.move (.inr rfl) rfl rfl) ?_; refine AL.nil ?_; refine AWP.ret ?_
    have e4 : gEqualFunc_Type__iEqualType_G fu r_iEqualType r_gEqualFunc_Type__iEqualType ps1 ps2 = some false := swT h3 (rfl)
    have hz : false = r := Option.some.inj (e4.symm.trans H)
    subst hz
    exact Ends.mk (ps := [_]) (by first | exact .inr rfl | exact .inl rfl) ⟨rfl, trivial⟩ rfl (StLe.mk' (st' := ⟨[], []⟩) trivial rfl) (keeps_nil hC) (q := (.t (.leaf (.bool (false))) : PV)) leA rfl ⟨rfl, rfl⟩
  · refine AWP.skip ?_; refine AWP.seq ?_; refine AWP.seq ?_; refine AWP.region_lit ?_; refine AL.cons rfl (AOp.move (.inl rfl) rfl rfl) ?_; refine AL.cons rfl (AOp.lenN rfl rfl rfl rfl el45 (GType.trs_len _)) ?_; refine AL.cons rfl (AOp.move (.inl rfl) rfl rfl) ?_; refine AL.nil ?_; refine AWP.cut (ι := Unit) (fun _ => gEqualFunc_Type__iEqualType_R1 fu r_iEqualType r_gEqualFunc_Type__iEqualType ps1 ps2 = some (.inr ())) (fun _ => ⟨[(6, .t (.leaf (.bool (false))))], ⟨[], []⟩⟩) (by repeat' (first | exact qcEnds | exact ncAWP | exact ncRound | exact ncEx | apply qcThen | apply qcBlock | apply qcCut)) ?_ ?_
    · refine AWP.block ?_; refine AWP.loopR (ι := Nat × Unit) (fun (i5, _) => gEqualFunc_Type__iEqualType_R1 fu r_iEqualType r_gEqualFunc_Type__iEqualType ps1 ps2 = loopN (gEqualFunc_Type__iEqualType_F1 fu r_iEqualType r_gEqualFunc_Type__iEqualType ps1 ps2) (ps1.length - i5) i5 ()) (fun (i5, _) => ⟨[(1, .t (.row 3 (GType.trs (ps2)))), (2, .fn 215 []), (6, .t (.leaf (.bool (false)))), (15, .t (.row 3 (GType.trs (ps1)))), (16, .t (.leaf (.int .i64 (((ps1.length : Nat) : Int))))), (17, .t (.leaf (.int .i64 (((i5 : Nat) : Int)))))], ⟨[], []⟩⟩) (fun (i5, _) => ps1.length - i5) (0, ()) ?_ ?_ ?_
      · exact rfl
      · exact Wk.mk (StLe.mk' trivial rfl) (keeps_nil hC) ⟨⟨_, rfl, .refl _, rfl⟩, ⟨⟨_, rfl, .refl _, rfl⟩, ⟨⟨_, rfl, .refl _, rfl⟩, ⟨⟨_, rfl, .refl _, rfl⟩, ⟨⟨_, rfl, .refl _, rfl⟩, ⟨⟨_, rfl, leA, rfl⟩, trivial⟩⟩⟩⟩⟩⟩
      · rintro ⟨i5, ⟨⟩⟩ hJ6
        refine AWP.seq ?_; refine AWP.region_lit ?_; refine AL.cons rfl (AOp.lss rfl rfl rfl rfl) ?_; refine AL.nil ?_; refine AWP.seq ?_; refine AWP.cond rfl (fun h7 => ?_) (fun h7 => ?_)
        · have h7l : i5 < ps1.length := nat_lt_of2 h7
          have h7n := nat_lt_of h7
          refine AWP.skip ?_; refine AWP.seq ?_; refine AWP.block ?_; refine AWP.seq ?_; refine AWP.region_lit ?_; refine AL.cons rfl (AOp.move (.inl rfl) rfl rfl) ?_; refine AL.cons rfl (AOp.index (k := i5) rfl rfl rfl rfl rfl (GType.trs_at h7n) el45) ?_; refine AL.cons rfl (AOp.loadEptr (ds := [.leaf (.int .i64 ((atD ps1 i5).gKind)), .leaf (.string ((atD ps1 i5).gName)), .row 3 (GType.trs ((atD ps1 i5).gArgs))]) rfl rfl rfl sh47 rfl rfl) ?_; refine AL.cons rfl (AOp.alloc rfl rfl zr47) ?_; refine AL.cons rfl (AOp.move (.inr rfl) rfl rfl) ?_; refine AL.cons rfl (AOp.storePtr (cs := [.t (.leaf (.int .i64 ((atD ps1 i5).gKind))), .t (.leaf (.string ((atD ps1 i5).gName))), .t (.row 3 (GType.trs ((atD ps1 i5).gArgs)))]) (ds := [.t (.leaf (.int .i64 ((atD ps1 i5).gKind))), .t (.leaf (.string ((atD ps1 i5).gName))), .t (.row 3 (GType.trs ((atD ps1 i5).gArgs)))]) rfl rfl rfl rfl rfl rfl rfl sz47 (Nat.le_of_ble_eq_true rfl) rfl) ?_; refine AL.nil ?_; refine AWP.seq ?_; refine AWP.region_lit ?_; refine AL.cons rfl (AOp.move (.inl rfl) rfl rfl) ?_; refine AL.cons rfl (AOp.move (.inl rfl) rfl rfl) ?_
          rcases Classical.em (i5 < (ps2).length) with hg8 | hg8
          · refine AL.cons rfl (AOp.index (k := i5) rfl rfl rfl rfl rfl (GType.trs_at hg8) el45) ?_; refine AL.cons rfl (AOp.loadEptr (ds := [.leaf (.int .i64 ((atD ps2 i5).gKind)), .leaf (.string ((atD ps2 i5).gName)), .row 3 (GType.trs ((atD ps2 i5).gArgs))]) rfl rfl rfl sh47 rfl rfl) ?_; refine AL.cons rfl (AOp.alloc rfl rfl zr47) ?_; refine AL.cons rfl (AOp.storePtr (cs := [.t (.leaf (.int .i64 ((atD ps2 i5).gKind))), .t (.leaf (.string ((atD ps2 i5).gName))), .t (.row 3 (GType.trs ((atD ps2 i5).gArgs)))]) (ds := [.t (.leaf (.int .i64 ((atD ps2 i5).gKind))), .t (.leaf (.string ((atD ps2 i5).gName))), .t (.row 3 (GType.trs ((atD ps2 i5).gArgs)))]) rfl rfl rfl rfl rfl rfl rfl sz47 (Nat.le_of_ble_eq_true rfl) rfl) ?_; refine AL.nil ?_; refine AWP.seq ?_; refine AWP.region_lit ?_; refine AL.cons rfl (AOp.move (.inl rfl) rfl rfl) ?_; refine AL.cons rfl (AOp.loadPtr (cs := [.t (.leaf (.int .i64 ((atD ps1 i5).gKind))), .t (.leaf (.string ((atD ps1 i5).gName))), .t (.row 3 (GType.trs ((atD ps1 i5).gArgs)))]) rfl rfl rfl rfl sh47 rfl rfl) ?_; refine AL.cons rfl (AOp.loadPtr (cs := [.t (.leaf (.int .i64 ((atD ps2 i5).gKind))), .t (.leaf (.string ((atD ps2 i5).gName))), .t (.row 3 (GType.trs ((atD ps2 i5).gArgs)))]) rfl rfl rfl rfl sh47 rfl rfl) ?_
            rcases hq9 : r_iEqualType (atD ps1 i5) (atD ps2 i5) with _ | x10
            · have e11 : (gEqualFunc_Type__iEqualType_F1 fu r_iEqualType r_gEqualFunc_Type__iEqualType ps1 ps2) i5 () = none := gdT hg8 (bdN hq9)
              have e12 : gEqualFunc_Type__iEqualType_R1 fu r_iEqualType r_gEqualFunc_Type__iEqualType ps1 ps2 = none := loopN_non h7l hJ6 e11
              have e13 : gEqualFunc_Type__iEqualType_G fu r_iEqualType r_gEqualFunc_Type__iEqualType ps1 ps2 = none := swF h3 (soN e12)
              exact none_some H e13
            · refine AL.cons rfl (AOp.callV (res := .t (.leaf (.bool (x10)))) (ps := [_, _]) (cs := []) rfl rfl rfl Tryz.func215 (by kernel_rfl) rfl rfl leA rfl rfl (h_iEqualType (atD ps1 i5) (atD ps2 i5) _ hq9)) ?_; refine AL.cons rfl (AOp.notB rfl rfl rfl) ?_; refine AL.nil ?_; refine AWP.cond rfl (fun h14 => ?_) (fun h14 => ?_)
              · refine AWP.seq ?_; refine AWP.region_lit ?_; refine AL.cons rfl (AOp.move (.inr rfl) rfl rfl) ?_; refine AL.nil ?_; refine AWP.ret ?_
                have e15 : (gEqualFunc_Type__iEqualType_F1 fu r_iEqualType r_gEqualFunc_Type__iEqualType ps1 ps2) i5 () = some (.ret false) := gdT hg8 (bdS hq9 (swT h14 (rfl)))
                have e16 : gEqualFunc_Type__iEqualType_R1 fu r_iEqualType r_gEqualFunc_Type__iEqualType ps1 ps2 = some (.inl false) := loopN_ret h7l hJ6 e15
                have e17 : gEqualFunc_Type__iEqualType_G fu r_iEqualType r_gEqualFunc_Type__iEqualType ps1 ps2 = some false := swF h3 (soL e16)
                have hz : false = r := Option.some.inj (e17.symm.trans H)
                subst hz
                exact Ends.mk (ps := [_]) (by first | exact .inr rfl | exact .inl rfl) ⟨rfl, trivial⟩ rfl (StLe.mk' (st' := ⟨[], []⟩) trivial rfl) (keeps_nil hC) (q := (.t (.leaf (.bool (false))) : PV)) leA rfl ⟨rfl, rfl⟩
              · refine AWP.skip ?_; refine AWP.region_lit ?_; refine AL.cons rfl (AOp.addI rfl rfl rfl rfl (c := ((i5 + 1 : Nat) : Int)) (by omega) (by omega)) ?_; refine AL.cons rfl (AOp.move (.inl rfl) rfl rfl) ?_; refine AL.nil ?_
                have e18 : (gEqualFunc_Type__iEqualType_F1 fu r_iEqualType r_gEqualFunc_Type__iEqualType ps1 ps2) i5 () = some (.next ()) := gdT hg8 (bdS hq9 (swF h14 (rfl)))
                refine ⟨(i5 + 1, ()), loopN_next h7l hJ6 e18, ?_, ?_⟩
                · exact Wk.mk (StLe.mk' trivial rfl) (keeps_nil hC) ⟨⟨_, rfl, .refl _, rfl⟩, ⟨⟨_, rfl, .refl _, rfl⟩, ⟨⟨_, rfl, .refl _, rfl⟩, ⟨⟨_, rfl, .refl _, rfl⟩, ⟨⟨_, rfl, .refl _, rfl⟩, ⟨⟨_, rfl, leA, rfl⟩, trivial⟩⟩⟩⟩⟩⟩
                · dsimp only; omega
          · have e19 : (gEqualFunc_Type__iEqualType_F1 fu r_iEqualType r_gEqualFunc_Type__iEqualType ps1 ps2) i5 () = none := gdF hg8
            have e20 : gEqualFunc_Type__iEqualType_R1 fu r_iEqualType r_gEqualFunc_Type__iEqualType ps1 ps2 = none := loopN_non h7l hJ6 e19
            have e21 : gEqualFunc_Type__iEqualType_G fu r_iEqualType r_gEqualFunc_Type__iEqualType ps1 ps2 = none := swF h3 (soN e20)
            exact none_some H e21
        · have h7l : ps1.length ≤ i5 := nat_ge_of2 h7
          refine AWP.exit ?_; refine ⟨(), loopN_end h7l hJ6, ?_⟩
          exact Wk.mk (StLe.mk' trivial rfl) (keeps_nil hC) ⟨⟨_, rfl, .refl _, rfl⟩, trivial⟩
    · rintro ⟨⟩ hR22
      refine AWP.seq ?_; refine AWP.region_lit ?_; refine AL.cons rfl (AOp.move (.inr rfl) rfl rfl) ?_; refine AL.nil ?_; refine AWP.ret ?_
      have e23 : gEqualFunc_Type__iEqualType_G fu r_iEqualType r_gEqualFunc_Type__iEqualType ps1 ps2 = some true := swF h3 (soR hR22 (rfl))
      have hz : true = r := Option.some.inj (e23.symm.trans H)
      subst hz
      exact Ends.mk (ps := [_]) (by first | exact .inr rfl | exact .inl rfl) ⟨rfl, trivial⟩ rfl (StLe.mk' (st' := ⟨[], []⟩) trivial rfl) (keeps_nil hC) (q := (.t (.leaf (.bool (true))) : PV)) leA rfl ⟨rfl, rfl⟩
mutual
noncomputable def iEqualType_M : Nat → GType → GType → Option Bool
  | 0, _, _ => none
  | fu + 1, pa, pb => iEqualType_G fu (iEqualType_M fu) (gEqualFunc_Type__iEqualType_M fu) pa pb
noncomputable def gEqualFunc_Type__iEqualType_M : Nat → (List GType) → (List GType) → Option Bool
  | 0, _, _ => none
  | fu + 1, ps1, ps2 => gEqualFunc_Type__iEqualType_G fu (iEqualType_M fu) (gEqualFunc_Type__iEqualType_M fu) ps1 ps2
end
theorem iEqualType_all (fu : Nat) : (∀ (pa : GType) (pb : GType) (r : Bool), iEqualType_M fu pa pb = some r → AFun Tryz.prog 215 [(GType.pv pa), (GType.pv pb)] (.t (.leaf (.bool (r))) : PV)) ∧ (∀ (ps1 : List GType) (ps2 : List GType) (r : Bool), gEqualFunc_Type__iEqualType_M fu ps1 ps2 = some r → AFun Tryz.prog 229 [.t (.row 3 (GType.trs (ps1))), .t (.row 3 (GType.trs (ps2))), .fn 215 []] (.t (.leaf (.bool (r))) : PV)) := by
  induction fu with
  | zero => exact ⟨(fun pa pb r H => by simp only [iEqualType_M] at H; cases H), (fun ps1 ps2 r H => by simp only [gEqualFunc_Type__iEqualType_M] at H; cases H)⟩
  | succ fu ih => exact ⟨(fun pa pb r H => by simp only [iEqualType_M] at H; exact iEqualType_step (iEqualType_M fu) (gEqualFunc_Type__iEqualType_M fu) fu ih.1 ih.2 pa pb r H), (fun ps1 ps2 r H => by simp only [gEqualFunc_Type__iEqualType_M] at H; exact gEqualFunc_Type__iEqualType_step (iEqualType_M fu) (gEqualFunc_Type__iEqualType_M fu) fu ih.1 ih.2 ps1 ps2 r H)⟩
theorem iEqualType_ok (fu : Nat) (pa : GType) (pb : GType) (r : Bool) (H : iEqualType_M fu pa pb = some r) : AFun Tryz.prog 215 [(GType.pv pa), (GType.pv pb)] (.t (.leaf (.bool (r))) : PV) := (iEqualType_all fu).1 pa pb r H
noncomputable def icopyType_G (fu : Nat) (r_icopyType : GType → Option GType) (r_icopyTypes : (List GType) → Option ((List GType))) (pt : GType) : Option GType :=
 bd (r_icopyTypes pt.gArgs) (fun x3 =>
 some (GType.mk pt.gKind pt.gName x3))
set_option maxRecDepth 100000 in
set_option maxHeartbeats 4000000 in
theorem icopyType_step (r_icopyType : GType → Option GType) (r_icopyTypes : (List GType) → Option ((List GType))) (fu : Nat) (h_icopyType : ∀ (pt : GType) (r : GType), r_icopyType pt = some r → AFun Tryz.prog 111 [(GType.pv pt)] ((GType.pv r) : PV)) (h_icopyTypes : ∀ (pl : List GType) (r : (List GType)), r_icopyTypes pl = some r → AFun Tryz.prog 163 [.t (.row 3 (GType.trs (pl)))] (.t (.row 3 (GType.trs (r))) : PV)) (pt : GType) (r : GType) (H : icopyType_G fu r_icopyType r_icopyTypes pt = some r) : AFun Tryz.prog 111 [(GType.pv pt)] ((GType.pv r) : PV) := by
  refine ACalls.intro Tryz.func111 rfl (by first | decide | (simp; done) | (simp; decide)) ?_; intro C hC
  refine AWP.seq ?_; refine AWP.region_lit ?_; refine AL.cons rfl (AOp.box (cs := [.t (.leaf (.int .i64 (pt.gKind))), .t (.leaf (.string (pt.gName))), .t (.row 3 (GType.trs (pt.gArgs)))]) rfl rfl rfl rfl rfl) ?_; refine AL.cons rfl (AOp.alloc rfl rfl zr47) ?_; refine AL.nil ?_; refine AWP.seq ?_; refine AWP.region_lit ?_; refine AL.cons rfl (AOp.fieldPtr (k := 0) (d := 0) (e := 2) rfl rfl rfl fo47_2) ?_; refine AL.cons rfl (AOp.loadPtr1 rfl rfl rfl rfl sh45 rfl) ?_; refine AL.fact (lk_lenN 4 rfl rfl (GType.trs_len _)) (fun hl1 => ?_)
  rcases hq2 : r_icopyTypes pt.gArgs with _ | x3
  · have e4 : icopyType_G fu r_icopyType r_icopyTypes pt = none := bdN hq2
    exact none_some H e4
  · refine AL.cons rfl (AOp.callF (res := .t (.row 3 (GType.trs (x3)))) (ps := [_]) rfl rfl Tryz.func163 (by kernel_rfl) rfl rfl leA rfl rfl (h_icopyTypes pt.gArgs _ hq2)) ?_; refine AL.cons rfl (AOp.fieldPtr (k := 0) (d := 0) (e := 2) rfl rfl rfl fo47_2) ?_; refine AL.cons rfl (AOp.storePtr (cs := [.t (.row 3 (GType.trs (x3)))]) (ds := [.t (.leaf (.int .i64 (pt.gKind))), .t (.leaf (.string (pt.gName))), .t (.row 3 (GType.trs (x3)))]) rfl rfl rfl rfl rfl rfl rfl sz45 (Nat.le_of_ble_eq_true rfl) rfl) ?_; refine AL.nil ?_; refine AWP.seq ?_; refine AWP.region_lit ?_; refine AL.cons rfl (AOp.loadPtr (cs := [.t (.leaf (.int .i64 (pt.gKind))), .t (.leaf (.string (pt.gName))), .t (.row 3 (GType.trs (x3)))]) rfl rfl rfl rfl sh47 rfl rfl) ?_; refine AL.cons rfl (AOp.storePtr (cs := [.t (.leaf (.int .i64 (pt.gKind))), .t (.leaf (.string (pt.gName))), .t (.row 3 (GType.trs (x3)))]) (ds := [.t (.leaf (.int .i64 (pt.gKind))), .t (.leaf (.string (pt.gName))), .t (.row 3 (GType.trs (x3)))]) rfl rfl rfl rfl rfl rfl rfl sz47 (Nat.le_of_ble_eq_true rfl) rfl) ?_; refine AL.nil ?_; refine AWP.ret ?_
    have e5 : icopyType_G fu r_icopyType r_icopyTypes pt = some (GType.mk pt.gKind pt.gName x3) := bdS hq2 (rfl)
    have hz : (GType.mk pt.gKind pt.gName x3) = r := Option.some.inj (e5.symm.trans H)
    subst hz
    exact Ends.mk (ps := [_]) (by first | exact .inr rfl | exact .inl rfl) ⟨⟨_, _, _, rfl, rfl, sh47, rfl, rfl⟩, trivial⟩ rfl (StLe.mk' (st' := ⟨[], []⟩) trivial rfl) (keeps_nil hC) (q := ((GType.pv (GType.mk pt.gKind pt.gName x3)) : PV)) leA rfl ⟨rfl, rfl⟩
noncomputable def icopyTypes_F1 (fu : Nat) (r_icopyType : GType → Option GType) (r_icopyTypes : (List GType) → Option ((List GType))) (pl : List GType) : Nat → ((List GType)) → Option (LR ((List GType)) ((List GType))) :=
 fun i3 v4 => bd (r_icopyType (atD pl i3)) (fun x8 =>
 gd (i3 = (v4).length)
 (some (.next (v4 ++ ([x8] : List GType)))))
noncomputable def icopyTypes_R1 (fu : Nat) (r_icopyType : GType → Option GType) (r_icopyTypes : (List GType) → Option ((List GType))) (pl : List GType) : Option (((List GType)) ⊕ ((List GType))) :=
 loopN (icopyTypes_F1 fu r_icopyType r_icopyTypes pl) (pl.length - 0) 0 ([])
noncomputable def icopyTypes_G (fu : Nat) (r_icopyType : GType → Option GType) (r_icopyTypes : (List GType) → Option ((List GType))) (pl : List GType) : Option ((List GType)) :=
 gd (pl.length ≤ 68719476736)
 (so (icopyTypes_R1 fu r_icopyType r_icopyTypes pl) (fun v4 =>
 gd ((v4).length = pl.length)
 (some v4)))
set_option maxRecDepth 100000 in
set_option maxHeartbeats 4000000 in
theorem icopyTypes_step (r_icopyType : GType → Option GType) (r_icopyTypes : (List GType) → Option ((List GType))) (fu : Nat) (h_icopyType : ∀ (pt : GType) (r : GType), r_icopyType pt = some r → AFun Tryz.prog 111 [(GType.pv pt)] ((GType.pv r) : PV)) (h_icopyTypes : ∀ (pl : List GType) (r : (List GType)), r_icopyTypes pl = some r → AFun Tryz.prog 163 [.t (.row 3 (GType.trs (pl)))] (.t (.row 3 (GType.trs (r))) : PV)) (pl : List GType) (r : (List GType)) (H : icopyTypes_G fu r_icopyType r_icopyTypes pl = some r) : AFun Tryz.prog 163 [.t (.row 3 (GType.trs (pl)))] (.t (.row 3 (GType.trs (r))) : PV) := by
  refine ACalls.intro Tryz.func163 rfl (by first | decide | (simp; done) | (simp; decide)) ?_; intro C hC
  refine AWP.fact (lk_lenN 0 rfl rfl (GType.trs_len _)) (fun hl1 => ?_)
  refine AWP.seq ?_; refine AWP.region_lit ?_; refine AL.cons rfl (AOp.move (.inr rfl) rfl rfl) ?_; refine AL.nil ?_; refine AWP.seq ?_; refine AWP.region_lit ?_; refine AL.cons rfl (AOp.move (.inl rfl) rfl rfl) ?_; refine AL.cons rfl (AOp.lenN rfl rfl rfl rfl el45 (GType.trs_len _)) ?_
  rcases Classical.em (pl.length ≤ 68719476736) with hg2 | hg2
  · refine AL.cons rfl (AOp.makeSlice (N := pl.length) rfl rfl rfl rfl el45 ze45 (by decide) (Nat.le_trans (Nat.mul_le_mul_left _ hg2) (by decide)) (Nat.le_trans hg2 (by decide))) ?_; refine AL.cons rfl (AOp.move (.inr rfl) rfl rfl) ?_; refine AL.nil ?_; refine AWP.seq ?_; refine AWP.seq ?_; refine AWP.region_lit ?_; refine AL.cons rfl (AOp.move (.inl rfl) rfl rfl) ?_; refine AL.cons rfl (AOp.lenN rfl rfl rfl rfl el45 (GType.trs_len _)) ?_; refine AL.cons rfl (AOp.move (.inl rfl) rfl rfl) ?_; refine AL.nil ?_; refine AWP.cut (ι := (List GType)) (fun v4 => icopyTypes_R1 fu r_icopyType r_icopyTypes pl = some (.inr v4)) (fun v4 => ⟨[(2, .nil), (3, .full 3 (pl.length) 0)], ⟨[], [⟨47, 3, GType.trs (v4), true⟩]⟩⟩) (by repeat' (first | exact qcEnds | exact ncAWP | exact ncRound | exact ncEx | apply qcThen | apply qcBlock | apply qcCut)) ?_ ?_
    · refine AWP.block ?_; refine AWP.loopR (ι := Nat × ((List GType))) (fun (i3, v4) => icopyTypes_R1 fu r_icopyType r_icopyTypes pl = loopN (icopyTypes_F1 fu r_icopyType r_icopyTypes pl) (pl.length - i3) i3 v4) (fun (i3, v4) => ⟨[(2, .nil), (3, .full 3 (pl.length) 0), (9, .t (.row 3 (GType.trs (pl)))), (10, .t (.leaf (.int .i64 (((pl.length : Nat) : Int))))), (11, .t (.leaf (.int .i64 (((i3 : Nat) : Int)))))], ⟨[], [⟨47, 3, GType.trs (v4), true⟩]⟩⟩) (fun (i3, v4) => pl.length - i3) (0, ([])) ?_ ?_ ?_
      · exact rfl
      · exact Wk.mk (StLe.mk' trivial (by first | rfl | simp)) (keeps_nil hC) ⟨⟨_, rfl, .refl _, rfl⟩, ⟨⟨_, rfl, .refl _, rfl⟩, ⟨⟨_, rfl, .refl _, rfl⟩, ⟨⟨_, rfl, .refl _, rfl⟩, ⟨⟨_, rfl, leA, rfl⟩, trivial⟩⟩⟩⟩⟩
      · rintro ⟨i3, v4⟩ hJ5
        refine AWP.seq ?_; refine AWP.region_lit ?_; refine AL.cons rfl (AOp.lss rfl rfl rfl rfl) ?_; refine AL.nil ?_; refine AWP.seq ?_; refine AWP.cond rfl (fun h6 => ?_) (fun h6 => ?_)
        · have h6l : i3 < pl.length := nat_lt_of2 h6
          have h6n := nat_lt_of h6
          refine AWP.skip ?_; refine AWP.seq ?_; refine AWP.block ?_; refine AWP.seq ?_; refine AWP.region_lit ?_; refine AL.cons rfl (AOp.move (.inl rfl) rfl rfl) ?_; refine AL.cons rfl (AOp.index (k := i3) rfl rfl rfl rfl rfl (GType.trs_at h6n) el45) ?_; refine AL.cons rfl (AOp.loadEptr (ds := [.leaf (.int .i64 ((atD pl i3).gKind)), .leaf (.string ((atD pl i3).gName)), .row 3 (GType.trs ((atD pl i3).gArgs))]) rfl rfl rfl sh47 rfl rfl) ?_; refine AL.cons rfl (AOp.alloc rfl rfl zr47) ?_; refine AL.cons rfl (AOp.move (.inr rfl) rfl rfl) ?_; refine AL.cons rfl (AOp.storePtr (cs := [.t (.leaf (.int .i64 ((atD pl i3).gKind))), .t (.leaf (.string ((atD pl i3).gName))), .t (.row 3 (GType.trs ((atD pl i3).gArgs)))]) (ds := [.t (.leaf (.int .i64 ((atD pl i3).gKind))), .t (.leaf (.string ((atD pl i3).gName))), .t (.row 3 (GType.trs ((atD pl i3).gArgs)))]) rfl rfl rfl rfl rfl rfl rfl sz47 (Nat.le_of_ble_eq_true rfl) rfl) ?_; refine AL.nil ?_; refine AWP.region_lit ?_; refine AL.cons rfl (AOp.move (.inl rfl) rfl rfl) ?_; refine AL.cons rfl (AOp.move (.inl rfl) rfl rfl) ?_; refine AL.cons rfl (AOp.loadPtr (cs := [.t (.leaf (.int .i64 ((atD pl i3).gKind))), .t (.leaf (.string ((atD pl i3).gName))), .t (.row 3 (GType.trs ((atD pl i3).gArgs)))]) rfl rfl rfl rfl sh47 rfl rfl) ?_
          rcases hq7 : r_icopyType (atD pl i3) with _ | x8
          · have e9 : (icopyTypes_F1 fu r_icopyType r_icopyTypes pl) i3 v4 = none := bdN hq7
            have e10 : icopyTypes_R1 fu r_icopyType r_icopyTypes pl = none := loopN_non h6l hJ5 e9
            have e11 : icopyTypes_G fu r_icopyType r_icopyTypes pl = none := gdT hg2 (soN e10)
            exact none_some H e11
          · refine AL.cons rfl (AOp.callF (res := (GType.pv x8)) (ps := [_]) rfl rfl Tryz.func111 (by kernel_rfl) rfl rfl leA rfl rfl (h_icopyType (atD pl i3) _ hq7)) ?_; refine AL.cons rfl (AOp.indexFull (k := i3) rfl rfl rfl rfl h6n el45) ?_
            rcases Classical.em (i3 = (v4).length) with hg12 | hg12
            · refine AL.cons rfl (AOp.storeRptr (e := GType.cs x8) (es2 := GType.trs (v4 ++ ([x8] : List GType))) 16 rfl rfl rfl rfl rfl rfl leA rfl rfl sz47 (by rw [GType.trs_len]; exact hg12) h6n (by rw [GType.trs_map, GType.trs_map, List.map_append]; simp [GType.tr_cs])) ?_; refine AL.nil ?_; refine AWP.region_lit ?_; refine AL.cons rfl (AOp.addI rfl rfl rfl rfl (c := ((i3 + 1 : Nat) : Int)) (by omega) (by omega)) ?_; refine AL.cons rfl (AOp.move (.inl rfl) rfl rfl) ?_; refine AL.nil ?_
              have e13 : (icopyTypes_F1 fu r_icopyType r_icopyTypes pl) i3 v4 = some (.next (v4 ++ ([x8] : List GType))) := bdS hq7 (gdT hg12 (rfl))
              refine ⟨(i3 + 1, (v4 ++ ([x8] : List GType))), loopN_next h6l hJ5 e13, ?_, ?_⟩
              · exact Wk.mk (StLe.mk' trivial (by first | rfl | simp)) (keeps_nil hC) ⟨⟨_, rfl, .refl _, rfl⟩, ⟨⟨_, rfl, .refl _, rfl⟩, ⟨⟨_, rfl, .refl _, rfl⟩, ⟨⟨_, rfl, .refl _, rfl⟩, ⟨⟨_, rfl, leA, rfl⟩, trivial⟩⟩⟩⟩⟩
              · dsimp only; omega
            · have e14 : (icopyTypes_F1 fu r_icopyType r_icopyTypes pl) i3 v4 = none := bdS hq7 (gdF hg12)
              have e15 : icopyTypes_R1 fu r_icopyType r_icopyTypes pl = none := loopN_non h6l hJ5 e14
              have e16 : icopyTypes_G fu r_icopyType r_icopyTypes pl = none := gdT hg2 (soN e15)
              exact none_some H e16
        · have h6l : pl.length ≤ i3 := nat_ge_of2 h6
          refine AWP.exit ?_; refine ⟨v4, loopN_end h6l hJ5, ?_⟩
          exact Wk.mk (StLe.mk' trivial (by first | rfl | simp)) (keeps_nil hC) ⟨⟨_, rfl, .refl _, rfl⟩, ⟨⟨_, rfl, .refl _, rfl⟩, trivial⟩⟩
    · rintro v4 hR17
      refine AWP.seq ?_; refine AWP.region_lit ?_; refine AL.cons rfl (AOp.move (.inl rfl) rfl rfl) ?_
      rcases Classical.em ((v4).length = pl.length) with hg18 | hg18
      · refine AL.weak (Wk.full (i := 22) rfl rfl (by rw [GType.trs_len]; exact hg18)) ?_; refine AL.cons rfl (AOp.move (.inr rfl) rfl rfl) ?_; refine AL.nil ?_; refine AWP.ret ?_
        have e19 : icopyTypes_G fu r_icopyType r_icopyTypes pl = some v4 := gdT hg2 (soR hR17 (gdT hg18 (rfl)))
        have hz : v4 = r := Option.some.inj (e19.symm.trans H)
        subst hz
        exact Ends.mk (ps := [_]) (by first | exact .inr rfl | exact .inl rfl) ⟨rfl, trivial⟩ rfl (StLe.mk' (st' := ⟨[], []⟩) trivial rfl) (keeps_nil hC) (q := (.t (.row 3 (GType.trs (v4))) : PV)) leA rfl ⟨rfl, rfl⟩
      · have e20 : icopyTypes_G fu r_icopyType r_icopyTypes pl = none := gdT hg2 (soR hR17 (gdF hg18))
        exact none_some H e20
  · have e21 : icopyTypes_G fu r_icopyType r_icopyTypes pl = none := gdF hg2
    exact none_some H e21
mutual
noncomputable def icopyType_M : Nat → GType → Option GType
  | 0, _ => none
  | fu + 1, pt => icopyType_G fu (icopyType_M fu) (icopyTypes_M fu) pt
noncomputable def icopyTypes_M : Nat → (List GType) → Option ((List GType))
  | 0, _ => none
  | fu + 1, pl => icopyTypes_G fu (icopyType_M fu) (icopyTypes_M fu) pl
end
theorem icopyType_all (fu : Nat) : (∀ (pt : GType) (r : GType), icopyType_M fu pt = some r → AFun Tryz.prog 111 [(GType.pv pt)] ((GType.pv r) : PV)) ∧ (∀ (pl : List GType) (r : (List GType)), icopyTypes_M fu pl = some r → AFun Tryz.prog 163 [.t (.row 3 (GType.trs (pl)))] (.t (.row 3 (GType.trs (r))) : PV)) := by
  induction fu with
  | zero => exact ⟨(fun pt r H => by simp only [icopyType_M] at H; cases H), (fun pl r H => by simp only [icopyTypes_M] at H; cases H)⟩
  | succ fu ih => exact ⟨(fun pt r H => by simp only [icopyType_M] at H; exact icopyType_step (icopyType_M fu) (icopyTypes_M fu) fu ih.1 ih.2 pt r H), (fun pl r H => by simp only [icopyTypes_M] at H; exact icopyTypes_step (icopyType_M fu) (icopyTypes_M fu) fu ih.1 ih.2 pl r H)⟩
theorem icopyType_ok (fu : Nat) (pt : GType) (r : GType) (H : icopyType_M fu pt = some r) : AFun Tryz.prog 111 [(GType.pv pt)] ((GType.pv r) : PV) := (icopyType_all fu).1 pt r H
end Go.Proofs.YtnakkelglbcecaaGreat

namespace Go.Proofs.YtnakkelglbcecaaGreat

end Go.Proofs.YtnakkelglbcecaaGreat

namespace Go.Proofs.YtnakkelglbcecaaGreat
open Go.RowKit Go.Proofs


end Go.Proofs.YtnakkelglbcecaaGreat

namespace Go.Proofs.YtnakkelglbcecaaGreat
open Go.RowKit Go.Proofs

theorem bytes_beq_self (a : ByteArray) : (a == a) = true := by
  obtain ⟨x⟩ := a
  show (x == x) = true
  simp
theorem bytes_inj {a b : ByteArray} (h : a.toList = b.toList) : a = b := by
  rw [ByteArray.toList_eq, ByteArray.toList_eq] at h
  obtain ⟨⟨x⟩⟩ := a
  obtain ⟨⟨y⟩⟩ := b
  have h : x = y := h
  rw [h]
theorem bytes_beq_ne {a b : ByteArray} (h : ¬ a = b) : (a == b) = false := by
  obtain ⟨x⟩ := a
  obtain ⟨y⟩ := b
  show (x == y) = false
  simp only [beq_eq_false_iff_ne, ne_eq]
  rintro rfl
  exact h rfl

mutual
def GType.eq : GType → GType → Bool
  | .mk k n xs, .mk l m ys => k == l && (n == m && GType.eqs xs ys)
def GType.eqs : List GType → List GType → Bool
  | [], [] => true
  | a :: l, b :: r => GType.eq a b && GType.eqs l r
  | _, _ => false
end
end Go.Proofs.YtnakkelglbcecaaGreat

namespace Go.Proofs.YtnakkelglbcecaaGreat
set_option linter.unusedSimpArgs false
set_option linter.unusedVariables false
open Go.RowKit Go.Proofs

theorem atD_range {n i : Nat} (h : i < n) : atD (List.range n) i = i := by rw [atD_eq (by simpa using h)]; simp
theorem eqs_len : ∀ {l r : List GType}, GType.eqs l r = true → l.length = r.length
  | [], [], _ => rfl
  | [], _ :: _, h => by simp [GType.eqs] at h
  | _ :: _, [], h => by simp [GType.eqs] at h
  | a :: l, b :: r, h => by
    simp only [GType.eqs, Bool.and_eq_true] at h
    simp [eqs_len h.2]
theorem eqs_range : ∀ {l r : List GType}, l.length = r.length → GType.eqs l r = (List.range l.length).all fun i => GType.eq (atD l i) (atD r i)
  | [], [], _ => rfl
  | [], _ :: _, h => by simp at h
  | _ :: _, [], h => by simp at h
  | a :: l, b :: r, h => by
    rw [GType.eqs, List.length_cons, List.range_succ_eq_map, List.all_cons, List.all_map, eqs_range (l := l) (r := r) (by simpa using h)]
    rfl
theorem sl4Same_ev {xs ys : List GType} (h : ∀ i, i < xs.length → i < ys.length → Evt fun fu => sEqualType_M fu (atD xs i) (atD ys i) = some (GType.eq (atD xs i) (atD ys i))) : Evt fun fu => sl4Same_M fu xs ys = some (GType.eqs xs ys) := by
  refine Evt.succ ?_
  by_cases hl : xs.length = ys.length
  · refine (Evt.below (k := xs.length) fun i hi => h i hi (by omega)).imp fun fu hf => ?_
    simp only [sl4Same_M, sl4Same_G]
    have hd : (!decide ((((xs.length : Nat) : Int) : Int) = ((ys.length : Nat) : Int))) = false := by simp [hl]
    rw [hd]
    have hr : ∀ fu', ∀ (r1 : GType → GType → Option Bool), (∀ i, i < xs.length → r1 (atD xs i) (atD ys i) = some (GType.eq (atD xs i) (atD ys i))) → sl4Same_R1 fu' r1 (sl4Same_M fu) xs ys = some (if (List.range xs.length).all (fun i => GType.eq (atD xs i) (atD ys i)) then .inr () else .inl false) := by
      intro fu' r1 h1
      unfold sl4Same_R1
      have := loopN_every (l := List.range xs.length) (f := sl4Same_F1 fu' r1 (sl4Same_M fu) xs ys) (p := fun i => GType.eq (atD xs i) (atD ys i)) (r := false) (s := ()) fun i hi => by
        have hi' : i < xs.length := by simpa using hi
        rw [atD_range hi', sl4Same_F1]
        rw [gdT (by omega) rfl, bdS (h1 i hi') rfl]
        cases GType.eq (atD xs i) (atD ys i) <;> rfl
      rwa [List.length_range] at this
    rw [hr fu _ hf, eqs_range hl]
    cases (List.range xs.length).all fun i => GType.eq (atD xs i) (atD ys i) <;> rfl
  · refine .all fun fu => ?_
    simp only [sl4Same_M, sl4Same_G]
    have hd : (!decide ((((xs.length : Nat) : Int) : Int) = ((ys.length : Nat) : Int))) = true := by simp; omega
    rw [hd]
    cases hq : GType.eqs xs ys
    · rfl
    · exact absurd (eqs_len hq) hl
theorem sEqualType_ev : ∀ a b : GType, Evt fun fu => sEqualType_M fu a b = some (GType.eq a b) := by
  refine GType.ind fun k n xs ih => ?_; rintro ⟨l, m, ys⟩
  refine Evt.succ ((sl4Same_ev (xs := xs) (ys := ys) fun i hi hj => ih _ (atD_mem hi) _).imp fun fu hf => ?_)
  simp only [sEqualType_M, sEqualType_G, GType.gKind_mk, GType.gName_mk, GType.gArgs_mk, hf, GType.eq]
  by_cases h1 : k = l
  · subst h1
    by_cases h2 : n = m
    · subst h2
      simp [sw, bd, bytes_beq_self]
    · simp [sw, h2, bytes_beq_ne]
  · have : (k == l) = false := by simpa using h1
    simp [sw, h1, this]
theorem sEqualType_fn (a b : GType) : AFun Tryz.prog 228 [(GType.pv a), (GType.pv b)] (.t (.leaf (.bool (GType.eq a b)))) := by
  obtain ⟨fu, h⟩ := (sEqualType_ev a b).get
  exact sEqualType_ok fu a b _ h
theorem iEqualFunc_ev {xs ys : List GType} (h : ∀ i, i < xs.length → i < ys.length → Evt fun fu => iEqualType_M fu (atD xs i) (atD ys i) = some (GType.eq (atD xs i) (atD ys i))) : Evt fun fu => gEqualFunc_Type__iEqualType_M fu xs ys = some (GType.eqs xs ys) := by
  refine Evt.succ ?_
  by_cases hl : xs.length = ys.length
  · refine (Evt.below (k := xs.length) fun i hi => h i hi (by omega)).imp fun fu hf => ?_
    simp only [gEqualFunc_Type__iEqualType_M, gEqualFunc_Type__iEqualType_G]
    have hd : (!decide ((((xs.length : Nat) : Int) : Int) = ((ys.length : Nat) : Int))) = false := by simp [hl]
    rw [hd]
    have hr : gEqualFunc_Type__iEqualType_R1 fu (iEqualType_M fu) (gEqualFunc_Type__iEqualType_M fu) xs ys = some (if (List.range xs.length).all (fun i => GType.eq (atD xs i) (atD ys i)) then .inr () else .inl false) := by
      unfold gEqualFunc_Type__iEqualType_R1
      have := loopN_every (l := List.range xs.length) (f := gEqualFunc_Type__iEqualType_F1 fu (iEqualType_M fu) (gEqualFunc_Type__iEqualType_M fu) xs ys) (p := fun i => GType.eq (atD xs i) (atD ys i)) (r := false) (s := ()) fun i hi => by
        have hi' : i < xs.length := by simpa using hi
        rw [atD_range hi', gEqualFunc_Type__iEqualType_F1]
        rw [gdT (by omega) rfl, bdS (hf i hi') rfl]
        cases GType.eq (atD xs i) (atD ys i) <;> rfl
      rwa [List.length_range] at this
    rw [hr, eqs_range hl]
    cases (List.range xs.length).all fun i => GType.eq (atD xs i) (atD ys i) <;> rfl
  · refine .all fun fu => ?_
    simp only [gEqualFunc_Type__iEqualType_M, gEqualFunc_Type__iEqualType_G]
    have hd : (!decide ((((xs.length : Nat) : Int) : Int) = ((ys.length : Nat) : Int))) = true := by simp; omega
    rw [hd]
    cases hq : GType.eqs xs ys
    · rfl
    · exact absurd (eqs_len hq) hl
theorem iEqualType_ev : ∀ a b : GType, Evt fun fu => iEqualType_M fu a b = some (GType.eq a b) := by
  refine GType.ind fun k n xs ih => ?_; rintro ⟨l, m, ys⟩
  refine Evt.succ ((iEqualFunc_ev (xs := xs) (ys := ys) fun i hi hj => ih _ (atD_mem hi) _).imp fun fu hf => ?_)
  simp only [iEqualType_M, iEqualType_G, GType.gKind_mk, GType.gName_mk, GType.gArgs_mk, hf, GType.eq]
  by_cases h1 : k = l
  · subst h1
    by_cases h2 : n = m
    · subst h2
      simp [sw, bd, bytes_beq_self]
    · simp [sw, h2, bytes_beq_ne]
  · have : (k == l) = false := by simpa using h1
    simp [sw, h1, this]
theorem iEqualType_fn (a b : GType) : AFun Tryz.prog 215 [(GType.pv a), (GType.pv b)] (.t (.leaf (.bool (GType.eq a b)))) := by
  obtain ⟨fu, h⟩ := (iEqualType_ev a b).get
  exact iEqualType_ok fu a b _ h
theorem foldl_snoc {α : Type} : ∀ (l a : List α), l.foldl (fun s x => s ++ [x]) a = a ++ l
  | [], a => by simp
  | x :: l, a => by rw [List.foldl_cons, foldl_snoc l]; simp
theorem bulk_mem {xs : List GType} : ∀ {x : GType}, x ∈ xs → Tr.bulkL x.tr ≤ Tr.bulkAll (GType.trs xs) := by
  induction xs with
  | nil => intro x hx; simp at hx
  | cons a l ih =>
    intro x hx
    simp only [GType.trs, Tr.bulkAll]
    rcases List.mem_cons.1 hx with rfl | hx
    · omega
    · have := ih hx; omega
theorem bulk_args (k : Int) (n : ByteArray) (xs : List GType) : xs.length + Tr.bulkAll (GType.trs xs) ≤ Tr.bulkL (GType.mk k n xs).tr := by
  simp only [GType.tr, Tr.bulkL_append, Tr.bulkL, Tr.bulk, GType.trs_len]
  omega
theorem sl4Copies_ev {xs : List GType} (hb : xs.length ≤ 68719476735) (h : ∀ x ∈ xs, Evt fun fu => sl4Copy_M fu x = some x) : Evt fun fu => sl4Copies_M fu xs = some xs := by
  refine Evt.succ ((Evt.list h).imp fun fu hf => ?_)
  simp only [sl4Copies_M, sl4Copies_G, sl4Copies_R1]
  rw [loopN_fold0 (l := xs) (g := fun s x => s ++ [x]) (fun i s => s.length = i) (fun i s hi hp => ⟨?_, by simp [hp]⟩) rfl, foldl_snoc]
  · rfl
  · rw [sl4Copies_F1, bdS (hf _ (atD_mem hi)) rfl, gdT (by simp; omega) rfl]
theorem sl4Copy_ev : ∀ t : GType, Tr.bulkL t.tr ≤ 68719476735 → Evt fun fu => sl4Copy_M fu t = some t := by
  refine GType.ind fun k n xs ih hb => ?_
  have h1 := bulk_args k n xs
  refine Evt.succ ((sl4Copies_ev (xs := xs) (by omega) fun x hx => ih x hx (by have := bulk_mem hx; omega)).imp fun fu hf => ?_)
  simp only [sl4Copy_M, sl4Copy_G, GType.gKind_mk, GType.gName_mk, GType.gArgs_mk, hf, bd]
theorem sl4Copy_fn (t : GType) (hb : Tr.bulkL t.tr ≤ 68719476735) : AFun Tryz.prog 110 [(GType.pv t)] (GType.pv t) := by
  obtain ⟨fu, h⟩ := (sl4Copy_ev t hb).get
  exact sl4Copy_ok fu t _ h
/-- A slice filled in order. -/
theorem loopN_fill {α β : Type} [Inhabited α] {f : Nat → List α → Option (LR (List α) β)} {l : List α} {g : α → α} (hs : ∀ i s, i < l.length → s.length = i → f i s = some (.next (s ++ [g (atD l i)]))) : loopN f (l.length - 0) 0 [] = some (.inr (l.map g)) := by
  rw [loopN_fold0 (l := l) (g := fun s x => s ++ [g x]) (fun i s => s.length = i) (fun i s hi hp => ⟨hs i s hi hp, by simp [hp]⟩) rfl]
  have key : ∀ (l a : List α), l.foldl (fun s x => s ++ [g x]) a = a ++ l.map g := by
    intro l
    induction l with
    | nil => intro a; simp
    | cons x l ih => intro a; rw [List.foldl_cons, ih]; simp
  rw [key, List.nil_append]
theorem icopyTypes_ev {xs : List GType} (hb : xs.length ≤ 68719476735) (h : ∀ x ∈ xs, Evt fun fu => icopyType_M fu x = some x) : Evt fun fu => icopyTypes_M fu xs = some xs := by
  refine Evt.succ ((Evt.list h).imp fun fu hf => ?_)
  simp only [icopyTypes_M, icopyTypes_G]
  rw [gdT (by omega) rfl]
  have hR : icopyTypes_R1 fu (icopyType_M fu) (icopyTypes_M fu) xs = some (.inr xs) := by
    unfold icopyTypes_R1
    rw [loopN_fill (l := xs) (g := id) fun i s hi hp => ?_, List.map_id]
    rw [icopyTypes_F1, bdS (hf _ (atD_mem hi)) rfl, gdT (by omega) rfl]
    rfl
  rw [soR hR rfl, gdT rfl rfl]
theorem icopyType_ev : ∀ t : GType, Tr.bulkL t.tr ≤ 68719476735 → Evt fun fu => icopyType_M fu t = some t := by
  refine GType.ind fun k n xs ih hb => ?_
  have h1 := bulk_args k n xs
  refine Evt.succ ((icopyTypes_ev (xs := xs) (by omega) fun x hx => ih x hx (by have := bulk_mem hx; omega)).imp fun fu hf => ?_)
  simp only [icopyType_M, icopyType_G, GType.gKind_mk, GType.gName_mk, GType.gArgs_mk, hf, bd]
theorem icopyType_fn (t : GType) (hb : Tr.bulkL t.tr ≤ 68719476735) : AFun Tryz.prog 111 [(GType.pv t)] (GType.pv t) := by
  obtain ⟨fu, h⟩ := (icopyType_ev t hb).get
  exact icopyType_ok fu t _ h
end Go.Proofs.YtnakkelglbcecaaGreat

namespace Go.Proofs.YtnakkelglbcecaaGreat
open Go.RowKit Go.Proofs
set_option linter.unusedSimpArgs false
set_option linter.unusedVariables false

attribute [local irreducible] lt

noncomputable def sLookup_F1 (fu : Nat) (plist : List GBinding) (pv : ByteArray) : Nat → Unit → Option (LR Unit (GType × Bool)) :=
 fun i2 _ => sw (decide ((atD plist i2).gVar = pv))
 (gd (Tr.bulkL (GType.tr ((atD plist i2).gType)) ≤ 68719476735)
 (some (.ret (((atD plist i2).gType), true))))
 (some (.next ()))
noncomputable def sLookup_R1 (fu : Nat) (plist : List GBinding) (pv : ByteArray) : Option ((GType × Bool) ⊕ Unit) :=
 loopN (sLookup_F1 fu plist pv) (plist.length - 0) 0 ()
noncomputable def sLookup_M (fu : Nat)  (plist : List GBinding) (pv : ByteArray) : Option (GType × Bool) :=
 so (sLookup_R1 fu plist pv) (fun _ =>
 some ((GType.mk 0 (⟨#[]⟩) []), false))
set_option maxRecDepth 100000 in
set_option maxHeartbeats 4000000 in
theorem sLookup_ok  (fu : Nat)  (plist : List GBinding) (pv : ByteArray) (r : GType × Bool) (H : sLookup_M fu plist pv = some r) : AFun Tryz.prog 157 [.t (.row 4 (GBinding.trs (plist))), .t (.leaf (.string (pv)))] (.tup [(GType.pv r.1), .t (.leaf (.bool (r.2)))] : PV) := by
  refine ACalls.intro Tryz.func157 rfl (by first | decide | (simp; done) | (simp; decide)) ?_; intro C hC
  refine AWP.fact (lk_lenN 0 rfl rfl (GBinding.trs_len _)) (fun hl1 => ?_)
  refine AWP.seq ?_; refine AWP.region_lit ?_; refine AL.cons rfl (AOp.alloc rfl rfl zr47) ?_; refine AL.cons rfl (AOp.move (.inr rfl) rfl rfl) ?_; refine AL.nil ?_; refine AWP.seq ?_; refine AWP.seq ?_; refine AWP.region_lit ?_; refine AL.cons rfl (AOp.move (.inr rfl) rfl rfl) ?_; refine AL.nil ?_; refine AWP.cut (ι := Unit) (fun _ => sLookup_R1 fu plist pv = some (.inr ())) (fun _ => ⟨[(4, .ptr 0 0), (5, .t (.leaf (.bool (false))))], ⟨[some ⟨47, [.t (.leaf (.int .i64 (0))), .t (.leaf (.string (⟨#[]⟩))), .nil]⟩], []⟩⟩) (by repeat' (first | exact qcEnds | exact ncAWP | exact ncRound | exact ncEx | apply qcThen | apply qcBlock | apply qcCut)) ?_ ?_
  · refine AWP.block ?_; refine AWP.loopR (ι := Nat × Unit) (fun (i2, _) => sLookup_R1 fu plist pv = loopN (sLookup_F1 fu plist pv) (plist.length - i2) i2 ()) (fun (i2, _) => ⟨[(0, .t (.row 4 (GBinding.trs (plist)))), (1, .t (.leaf (.string (pv)))), (4, .ptr 0 0), (5, .t (.leaf (.bool (false)))), (6, .t (.leaf (.int .i64 (((i2 : Nat) : Int)))))], ⟨[some ⟨47, [.t (.leaf (.int .i64 (0))), .t (.leaf (.string (⟨#[]⟩))), .nil]⟩], []⟩⟩) (fun (i2, _) => plist.length - i2) (0, ()) ?_ ?_ ?_
    · exact rfl
    · exact Wk.mk (StLe.mk' ⟨⟨rfl, leA, rfl⟩, trivial⟩ rfl) (keeps_nil hC) ⟨⟨_, rfl, .refl _, rfl⟩, ⟨⟨_, rfl, .refl _, rfl⟩, ⟨⟨_, rfl, .refl _, rfl⟩, ⟨⟨_, rfl, .refl _, rfl⟩, ⟨⟨_, rfl, leA, rfl⟩, trivial⟩⟩⟩⟩⟩
    · rintro ⟨i2, ⟨⟩⟩ hJ3
      refine AWP.seq ?_; refine AWP.seq ?_; refine AWP.region_lit ?_; refine AL.cons rfl (AOp.move (.inl rfl) rfl rfl) ?_; refine AL.cons rfl (AOp.move (.inl rfl) rfl rfl) ?_; refine AL.cons rfl (AOp.lenN rfl rfl rfl rfl el138 (GBinding.trs_len _)) ?_; refine AL.cons rfl (AOp.lss rfl rfl rfl rfl) ?_; refine AL.nil ?_; refine AWP.cond rfl (fun h4 => ?_) (fun h4 => ?_)
      · have h4l : i2 < plist.length := nat_lt_of2 h4
        have h4n := nat_lt_of h4
        refine AWP.skip ?_; refine AWP.seq ?_; refine AWP.block ?_; refine AWP.seq ?_; refine AWP.region_lit ?_; refine AL.cons rfl (AOp.move (.inl rfl) rfl rfl) ?_; refine AL.cons rfl (AOp.move (.inl rfl) rfl rfl) ?_; refine AL.cons rfl (AOp.index (k := i2) rfl rfl rfl rfl rfl (GBinding.trs_at h4n) el138) ?_; refine AL.cons rfl (AOp.fieldEptr (cs := (GBinding.cs (atD plist i2))) (e := 0) rfl rfl rfl fo225_0) ?_; refine AL.cons rfl (AOp.loadEptr1 (d := .leaf (.string ((atD plist i2).gVar))) rfl rfl rfl sh9 rfl) ?_; refine AL.cons rfl (AOp.move (.inl rfl) rfl rfl) ?_; refine AL.cons rfl (AOp.eqlS rfl rfl rfl rfl) ?_; refine AL.nil ?_; refine AWP.cond rfl (fun h5 => ?_) (fun h5 => ?_)
        · refine AWP.seq ?_; refine AWP.region_lit ?_; refine AL.cons rfl (AOp.move (.inl rfl) rfl rfl) ?_; refine AL.cons rfl (AOp.move (.inl rfl) rfl rfl) ?_; refine AL.cons rfl (AOp.index (k := i2) rfl rfl rfl rfl rfl (GBinding.trs_at h4n) el138) ?_; refine AL.cons rfl (AOp.fieldEptr (cs := (GBinding.cs (atD plist i2))) (e := 1) rfl rfl rfl fo225_1) ?_; refine AL.cons rfl (AOp.loadEptr (ds := [.leaf (.int .i64 (((atD plist i2).gType).gKind)), .leaf (.string (((atD plist i2).gType).gName)), .row 3 (GType.trs (((atD plist i2).gType).gArgs))]) rfl rfl rfl sh47 rfl rfl) ?_
          rcases Classical.em (Tr.bulkL (GType.tr ((atD plist i2).gType)) ≤ 68719476735) with hg6 | hg6
          · refine AL.cons rfl (AOp.callF (res := (GType.pv ((atD plist i2).gType))) (ps := [_]) rfl rfl Tryz.func110 (by kernel_rfl) rfl rfl leA rfl rfl (sl4Copy_fn ((atD plist i2).gType) hg6)) ?_; refine AL.cons rfl (AOp.storePtr (cs := [.t (.leaf (.int .i64 (((atD plist i2).gType).gKind))), .t (.leaf (.string (((atD plist i2).gType).gName))), .t (.row 3 (GType.trs (((atD plist i2).gType).gArgs)))]) (ds := [.t (.leaf (.int .i64 (((atD plist i2).gType).gKind))), .t (.leaf (.string (((atD plist i2).gType).gName))), .t (.row 3 (GType.trs (((atD plist i2).gType).gArgs)))]) rfl rfl rfl rfl rfl rfl rfl sz47 (Nat.le_of_ble_eq_true rfl) rfl) ?_; refine AL.cons rfl (AOp.move (.inr rfl) rfl rfl) ?_; refine AL.nil ?_; refine AWP.ret ?_
            have e7 : (sLookup_F1 fu plist pv) i2 () = some (.ret (((atD plist i2).gType), true)) := swT h5 (gdT hg6 (rfl))
            have e8 : sLookup_R1 fu plist pv = some (.inl (((atD plist i2).gType), true)) := loopN_ret h4l hJ3 e7
            have e9 : sLookup_M fu plist pv = some (((atD plist i2).gType), true) := soL e8
            have hz : (((atD plist i2).gType), true) = r := Option.some.inj (e9.symm.trans H)
            subst hz
            exact Ends.mk (ps := [_, _]) (by first | exact .inr rfl | exact .inl rfl) ⟨⟨_, _, _, rfl, rfl, sh47, rfl, rfl⟩, rfl, trivial⟩ rfl (StLe.mk' (st' := ⟨[], []⟩) trivial rfl) (keeps_nil hC) (q := (.tup [(GType.pv ((atD plist i2).gType)), .t (.leaf (.bool (true)))] : PV)) leA rfl ⟨rfl, rfl⟩
          · have e10 : (sLookup_F1 fu plist pv) i2 () = none := swT h5 (gdF hg6)
            have e11 : sLookup_R1 fu plist pv = none := loopN_non h4l hJ3 e10
            have e12 : sLookup_M fu plist pv = none := soN e11
            exact none_some H e12
        · refine AWP.skip ?_; refine AWP.region_lit ?_; refine AL.cons rfl (AOp.move (.inl rfl) rfl rfl) ?_; refine AL.cons rfl (AOp.addI rfl rfl rfl rfl (c := ((i2 + 1 : Nat) : Int)) (by omega) (by omega)) ?_; refine AL.cons rfl (AOp.move (.inr rfl) rfl rfl) ?_; refine AL.nil ?_
          have e13 : (sLookup_F1 fu plist pv) i2 () = some (.next ()) := swF h5 (rfl)
          refine ⟨(i2 + 1, ()), loopN_next h4l hJ3 e13, ?_, ?_⟩
          · exact Wk.mk (StLe.mk' ⟨⟨rfl, leA, rfl⟩, trivial⟩ rfl) (keeps_nil hC) ⟨⟨_, rfl, .refl _, rfl⟩, ⟨⟨_, rfl, .refl _, rfl⟩, ⟨⟨_, rfl, .refl _, rfl⟩, ⟨⟨_, rfl, .refl _, rfl⟩, ⟨⟨_, rfl, leA, rfl⟩, trivial⟩⟩⟩⟩⟩
          · dsimp only; omega
      · have h4l : plist.length ≤ i2 := nat_ge_of2 h4
        refine AWP.exit ?_; refine ⟨(), loopN_end h4l hJ3, ?_⟩
        exact Wk.mk (StLe.mk' ⟨⟨rfl, leA, rfl⟩, trivial⟩ rfl) (keeps_nil hC) ⟨⟨_, rfl, .refl _, rfl⟩, ⟨⟨_, rfl, .refl _, rfl⟩, trivial⟩⟩
  · rintro ⟨⟩ hR14
    refine AWP.seq ?_; refine AWP.region_lit ?_; refine AL.cons rfl (AOp.build rfl rfl zr47 pl47 rfl rfl) ?_; refine AL.cons rfl (AOp.storePtr (cs := [.t (.leaf (.int .i64 (0))), .t (.leaf (.string (⟨#[]⟩))), .nil]) (ds := [.t (.leaf (.int .i64 (0))), .t (.leaf (.string (⟨#[]⟩))), .nil]) rfl rfl rfl rfl rfl rfl rfl sz47 (Nat.le_of_ble_eq_true rfl) rfl) ?_; refine AL.cons rfl (AOp.move (.inr rfl) rfl rfl) ?_; refine AL.nil ?_; refine AWP.ret ?_
    have e15 : sLookup_M fu plist pv = some ((GType.mk 0 (⟨#[]⟩) []), false) := soR hR14 (rfl)
    have hz : ((GType.mk 0 (⟨#[]⟩) []), false) = r := Option.some.inj (e15.symm.trans H)
    subst hz
    exact Ends.mk (ps := [_, _]) (by first | exact .inr rfl | exact .inl rfl) ⟨⟨_, _, _, rfl, rfl, sh47, rfl, rfl⟩, rfl, trivial⟩ rfl (StLe.mk' (st' := ⟨[], []⟩) trivial rfl) (keeps_nil hC) (q := (.tup [(GType.pv (GType.mk 0 (⟨#[]⟩) [])), .t (.leaf (.bool (false)))] : PV)) leA rfl ⟨rfl, rfl⟩

noncomputable def sl7All_F1 (fu : Nat) (r_sl7All : (List GType) → (List GType) → (List GBinding) → Option ((List GBinding) × Bool × (List GBinding))) (r_sl7Match : GType → GType → (List GBinding) → Option ((List GBinding) × Bool × (List GBinding))) (pp : List GType) (pall : List GType) (plist : List GBinding) : Nat → ((List GBinding)) → Option (LR ((List GBinding)) ((List GBinding) × Bool × (List GBinding))) :=
 fun i4 v6 => gd (i4 < (pall).length)
 (bd (r_sl7Match (atD pp i4) (atD pall i4) v6) (fun (x11, x12, x13) =>
 sw (x12)
 (gd (x11 = x13)
 (some (.next x11)))
 (some (.ret (v6, false, x13)))))
noncomputable def sl7All_R1 (fu : Nat) (r_sl7All : (List GType) → (List GType) → (List GBinding) → Option ((List GBinding) × Bool × (List GBinding))) (r_sl7Match : GType → GType → (List GBinding) → Option ((List GBinding) × Bool × (List GBinding))) (pp : List GType) (pall : List GType) (plist : List GBinding) : Option (((List GBinding) × Bool × (List GBinding)) ⊕ ((List GBinding))) :=
 loopN (sl7All_F1 fu r_sl7All r_sl7Match pp pall plist) (pp.length - 0) 0 plist
noncomputable def sl7All_G (fu : Nat) (r_sl7All : (List GType) → (List GType) → (List GBinding) → Option ((List GBinding) × Bool × (List GBinding))) (r_sl7Match : GType → GType → (List GBinding) → Option ((List GBinding) × Bool × (List GBinding))) (pp : List GType) (pall : List GType) (plist : List GBinding) : Option ((List GBinding) × Bool × (List GBinding)) :=
 so (sl7All_R1 fu r_sl7All r_sl7Match pp pall plist) (fun v6 =>
 some (v6, true, v6))
set_option maxRecDepth 100000 in
set_option maxHeartbeats 4000000 in
theorem sl7All_step (r_sl7All : (List GType) → (List GType) → (List GBinding) → Option ((List GBinding) × Bool × (List GBinding))) (r_sl7Match : GType → GType → (List GBinding) → Option ((List GBinding) × Bool × (List GBinding))) (fu : Nat) (h_sl7All : ∀ (pp : List GType) (pall : List GType) (plist : List GBinding) (r : (List GBinding) × Bool × (List GBinding)), r_sl7All pp pall plist = some r → ACalls Tryz.prog 199 [.t (.row 3 (GType.trs (pp))), .t (.row 3 (GType.trs (pall))), .acc 4 (GBinding.trs (plist)) 0] ⟨[], [⟨225, 4, GBinding.trs (plist), false⟩]⟩ (fun q t => q = (.tup [(bif r.2.1 then .acc 4 (GBinding.trs (r.1)) 0 else .t (.row 4 (GBinding.trs (r.1)))), .t (.leaf (.bool (r.2.1)))] : PV) ∧ t = ⟨[], [⟨225, 4, GBinding.trs (r.2.2), false⟩]⟩)) (h_sl7Match : ∀ (pp : GType) (pt : GType) (plist : List GBinding) (r : (List GBinding) × Bool × (List GBinding)), r_sl7Match pp pt plist = some r → ACalls Tryz.prog 214 [(GType.pv pp), (GType.pv pt), .acc 4 (GBinding.trs (plist)) 0] ⟨[], [⟨225, 4, GBinding.trs (plist), false⟩]⟩ (fun q t => q = (.tup [(bif r.2.1 then .acc 4 (GBinding.trs (r.1)) 0 else .t (.row 4 (GBinding.trs (r.1)))), .t (.leaf (.bool (r.2.1)))] : PV) ∧ t = ⟨[], [⟨225, 4, GBinding.trs (r.2.2), false⟩]⟩)) (pp : List GType) (pall : List GType) (plist : List GBinding) (r : (List GBinding) × Bool × (List GBinding)) (H : sl7All_G fu r_sl7All r_sl7Match pp pall plist = some r) : ACalls Tryz.prog 199 [.t (.row 3 (GType.trs (pp))), .t (.row 3 (GType.trs (pall))), .acc 4 (GBinding.trs (plist)) 0] ⟨[], [⟨225, 4, GBinding.trs (plist), false⟩]⟩ (fun q t => q = (.tup [(bif r.2.1 then .acc 4 (GBinding.trs (r.1)) 0 else .t (.row 4 (GBinding.trs (r.1)))), .t (.leaf (.bool (r.2.1)))] : PV) ∧ t = ⟨[], [⟨225, 4, GBinding.trs (r.2.2), false⟩]⟩) := by
  refine ACalls.intro Tryz.func199 rfl (by first | decide | (simp; done) | (simp; decide)) ?_; intro C hC
  refine AWP.fact (lk_lenN 0 rfl rfl (GType.trs_len _)) (fun hl1 => ?_)
  refine AWP.fact (lk_lenN 1 rfl rfl (GType.trs_len _)) (fun hl2 => ?_)
  refine AWP.fact (lk_lenN 2 rfl rfl (GBinding.trs_len _)) (fun hl3 => ?_)
  refine AWP.seq ?_; refine AWP.region_lit ?_; refine AL.cons rfl (AOp.move (.inr rfl) rfl rfl) ?_; refine AL.cons rfl (AOp.move (.inr rfl) rfl rfl) ?_; refine AL.nil ?_; refine AWP.seq ?_; refine AWP.seq ?_; refine AWP.region_lit ?_; refine AL.cons rfl (AOp.move (.inr rfl) rfl rfl) ?_; refine AL.nil ?_; refine AWP.cut (ι := (List GBinding)) (fun v6 => sl7All_R1 fu r_sl7All r_sl7Match pp pall plist = some (.inr v6)) (fun v6 => ⟨[(2, .acc 4 (GBinding.trs (v6)) 0), (6, .nil), (7, .t (.leaf (.bool (false))))], ⟨[], [⟨225, 4, GBinding.trs (v6), false⟩]⟩⟩) (by repeat' (first | exact qcEnds | exact ncAWP | exact ncRound | exact ncEx | apply qcThen | apply qcBlock | apply qcCut)) ?_ ?_
  · refine AWP.block ?_; refine AWP.loopR (ι := Nat × ((List GBinding))) (fun (i4, v6) => sl7All_R1 fu r_sl7All r_sl7Match pp pall plist = loopN (sl7All_F1 fu r_sl7All r_sl7Match pp pall plist) (pp.length - i4) i4 v6) (fun (i4, v6) => ⟨[(0, .t (.row 3 (GType.trs (pp)))), (1, .t (.row 3 (GType.trs (pall)))), (2, .acc 4 (GBinding.trs (v6)) 0), (6, .nil), (7, .t (.leaf (.bool (false)))), (8, .t (.leaf (.int .i64 (((i4 : Nat) : Int)))))], ⟨[], [⟨225, 4, GBinding.trs (v6), false⟩]⟩⟩) (fun (i4, v6) => pp.length - i4) (0, plist) ?_ ?_ ?_
    · exact rfl
    · exact Wk.mk (StLe.mk' trivial (by first | rfl | simp)) (keeps_all hC (boxes0) (Nat.le_of_ble_eq_true rfl)) ⟨⟨_, rfl, .refl _, rfl⟩, ⟨⟨_, rfl, .refl _, rfl⟩, ⟨⟨_, rfl, leA, rfl⟩, ⟨⟨_, rfl, .refl _, rfl⟩, ⟨⟨_, rfl, .refl _, rfl⟩, ⟨⟨_, rfl, leA, rfl⟩, trivial⟩⟩⟩⟩⟩⟩
    · rintro ⟨i4, v6⟩ hJ7
      refine AWP.seq ?_; refine AWP.seq ?_; refine AWP.region_lit ?_; refine AL.cons rfl (AOp.move (.inl rfl) rfl rfl) ?_; refine AL.cons rfl (AOp.move (.inl rfl) rfl rfl) ?_; refine AL.cons rfl (AOp.lenN rfl rfl rfl rfl el45 (GType.trs_len _)) ?_; refine AL.cons rfl (AOp.lss rfl rfl rfl rfl) ?_; refine AL.nil ?_; refine AWP.cond rfl (fun h8 => ?_) (fun h8 => ?_)
      · have h8l : i4 < pp.length := nat_lt_of2 h8
        have h8n := nat_lt_of h8
        refine AWP.skip ?_; refine AWP.seq ?_; refine AWP.block ?_; refine AWP.seq ?_
        rcases Classical.em (i4 < (pall).length) with hg9 | hg9
        · rcases hq10 : r_sl7Match (atD pp i4) (atD pall i4) v6 with _ | ⟨x11, x12, x13⟩
          · have e14 : (sl7All_F1 fu r_sl7All r_sl7Match pp pall plist) i4 v6 = none := gdT hg9 (bdN hq10)
            have e15 : sl7All_R1 fu r_sl7All r_sl7Match pp pall plist = none := loopN_non h8l hJ7 e14
            have e16 : sl7All_G fu r_sl7All r_sl7Match pp pall plist = none := soN e15
            exact none_some H e16
          · cases x12
            · refine AWP.drawnL ⟨_, _, fun j' _ => ([(⟨[], [⟨225, 4, GBinding.trs (v6), false⟩]⟩ : Sto), (⟨[], [⟨225, 4, GBinding.trs (x13), false⟩]⟩ : Sto)] : List Sto).getD j' (⟨[], [⟨225, 4, GBinding.trs (x13), false⟩]⟩ : Sto), fun q' => ([some (.t (.row 3 (GType.trs (pp)))), some (.t (.leaf (.int .i64 (((i4 : Nat) : Int))))), some (.eptr (GType.cs (atD pp i4))), some ((GType.pv (atD pp i4))), some (.t (.row 3 (GType.trs (pall)))), some (.t (.leaf (.int .i64 (((i4 : Nat) : Int))))), some (.eptr (GType.cs (atD pall i4))), some ((GType.pv (atD pall i4))), some (.acc 4 (GBinding.trs (v6)) 0), some (.tup [.t (.row 4 (GBinding.trs (x11))), .t (.leaf (.bool (false)))]), some (.tup [.t (.row 4 (GBinding.trs (x11))), .t (.leaf (.bool (false)))]), some (.t (.row 4 (GBinding.trs (x11)))), some (.t (.leaf (.bool (false)))), some (.t (.row 4 (GBinding.trs (x11)))), some (.t (.leaf (.bool (false))))] : List (Option PV)).getD q' none, fun q' => ([.q 0 0, .q 0 0, .q 0 0, .q 0 0, .q 0 0, .q 0 0, .q 0 0, .q 0 0, .q 0 0, .ef 0, .q 1 1, .q 1 1, .q 1 1, .q 1 1, .q 1 1] : List DK).getD q' (.q 0 0), [9], none, fun q' => ([[(0, none)], [(8, none)], [(18, some 0), (19, some 1)], [(20, some 2)], [(1, none)], [(8, none)], [(22, some 4), (23, some 5)], [(24, some 6)], [(2, none)], [(26, some 8), (25, some 7), (21, some 3)], [(27, some 9)], [(17, some 10)], [(17, some 10)], [(28, some 11)], [(29, some 12)]] : List (List (Nat × Option Nat))).getD q' []⟩ rfl mixed (by kernel_rfl) rfl rfl ⟨?_, ?_, ?_, ?_, ?_, ?_, ?_, ?_, ?_, ?_, ?_, ?_, ?_, ?_, ?_, trivial⟩ rfl ?_
              · exact Draw.step.q1 0 rfl rfl fun s' bb hs hl => ⟨_, rfl, AOp.move (.inl rfl) rfl (hl 0 none _ (.head _) rfl)⟩
              · exact Draw.step.q1 0 rfl rfl fun s' bb hs hl => ⟨_, rfl, AOp.move (.inl rfl) rfl (hl 8 none _ (.head _) rfl)⟩
              · exact Draw.step.q1 0 rfl rfl fun s' bb hs hl => ⟨_, rfl, AOp.index (k := i4) rfl rfl (hl 18 (some 0) _ (.head _) rfl) rfl (hl 19 (some 1) _ (.tail _ (.head _)) rfl) (GType.trs_at h8n) el45⟩
              · exact Draw.step.q1 0 rfl rfl fun s' bb hs hl => ⟨_, rfl, AOp.loadEptr (ds := [.leaf (.int .i64 ((atD pp i4).gKind)), .leaf (.string ((atD pp i4).gName)), .row 3 (GType.trs ((atD pp i4).gArgs))]) rfl rfl (hl 20 (some 2) _ (.head _) rfl) sh47 rfl rfl⟩
              · exact Draw.step.q1 0 rfl rfl fun s' bb hs hl => ⟨_, rfl, AOp.move (.inl rfl) rfl (hl 1 none _ (.head _) rfl)⟩
              · exact Draw.step.q1 0 rfl rfl fun s' bb hs hl => ⟨_, rfl, AOp.move (.inl rfl) rfl (hl 8 none _ (.head _) rfl)⟩
              · exact Draw.step.q1 0 rfl rfl fun s' bb hs hl => ⟨_, rfl, AOp.index (k := i4) rfl rfl (hl 22 (some 4) _ (.head _) rfl) rfl (hl 23 (some 5) _ (.tail _ (.head _)) rfl) (GType.trs_at hg9) el45⟩
              · exact Draw.step.q1 0 rfl rfl fun s' bb hs hl => ⟨_, rfl, AOp.loadEptr (ds := [.leaf (.int .i64 ((atD pall i4).gKind)), .leaf (.string ((atD pall i4).gName)), .row 3 (GType.trs ((atD pall i4).gArgs))]) rfl rfl (hl 24 (some 6) _ (.head _) rfl) sh47 rfl rfl⟩
              · exact Draw.step.q1 0 rfl rfl fun s' bb hs hl => ⟨_, rfl, AOp.move (.inl rfl) rfl (hl 2 none _ (.head _) rfl)⟩
              · refine .inl ⟨rfl, fun s' bb hs hl => ?_⟩
                refine .inl ⟨_, rfl, AOp.congr (AOp.callPE (pre := ⟨[], [⟨225, 4, GBinding.trs (v6), false⟩]⟩) (st' := ⟨[], [⟨225, 4, GBinding.trs (x13), false⟩]⟩) (ps := [_, _, _]) (qs := [(GType.pv (atD pp i4)), (GType.pv (atD pall i4)), .acc 4 (GBinding.trs (v6)) 0]) [] [0] rfl rfl Tryz.func214 (by kernel_rfl) rfl (evs_cons (hl 21 (some 3) _ (.tail _ (.tail _ (.head _))) rfl) (evs_cons (hl 25 (some 7) _ (.tail _ (.head _)) rfl) (evs_cons (hl 26 (some 8) _ (.head _) rfl) rfl))) hs (by (try rw [hs]); exact Part0.of trivial ⟨rfl, trivial⟩ (by decide) (by decide)) leA rfl rfl rfl (h_sl7Match (atD pp i4) (atD pall i4) v6 _ hq10)) ?_⟩
                first | (rw [hs]; rfl) | rfl
              · exact Draw.step.q1 1 rfl rfl fun s' bb hs hl => ⟨_, rfl, AOp.move (.inl rfl) rfl (hl 27 (some 9) _ (.head _) rfl)⟩
              · exact Draw.step.q1 1 rfl rfl fun s' bb hs hl => ⟨_, rfl, AOp.extract rfl rfl (hl 17 (some 10) _ (.head _) rfl) rfl⟩
              · exact Draw.step.q1 1 rfl rfl fun s' bb hs hl => ⟨_, rfl, AOp.extract rfl rfl (hl 17 (some 10) _ (.head _) rfl) rfl⟩
              · exact Draw.step.q1 1 rfl rfl fun s' bb hs hl => ⟨_, rfl, AOp.move (.inr rfl) rfl (hl 28 (some 11) _ (.head _) rfl)⟩
              · exact Draw.step.q1 1 rfl rfl fun s' bb hs hl => ⟨_, rfl, AOp.move (.inr rfl) rfl (hl 29 (some 12) _ (.head _) rfl)⟩
              refine AWP.seq ?_; refine AWP.seq ?_; refine AWP.region_lit ?_; refine AL.cons rfl (AOp.move (.inl rfl) rfl rfl) ?_; refine AL.cons rfl (AOp.notB rfl rfl rfl) ?_; refine AL.nil ?_; refine AWP.cond rfl (fun h17 => ?_) (fun h17 => ?_)
              · refine AWP.seq ?_; refine AWP.region_lit ?_; refine AL.cons rfl (AOp.move (.inl rfl) rfl rfl) ?_; refine AL.cons rfl (AOp.move (.inr rfl) rfl rfl) ?_; refine AL.cons rfl (AOp.move (.inr rfl) rfl rfl) ?_; refine AL.nil ?_; refine AWP.ret ?_
                have e18 : (sl7All_F1 fu r_sl7All r_sl7Match pp pall plist) i4 v6 = some (.ret (v6, false, x13)) := gdT hg9 (bdS hq10 (swF rfl (rfl)))
                have e19 : sl7All_R1 fu r_sl7All r_sl7Match pp pall plist = some (.inl (v6, false, x13)) := loopN_ret h8l hJ7 e18
                have e20 : sl7All_G fu r_sl7All r_sl7Match pp pall plist = some (v6, false, x13) := soL e19
                have hz : (v6, false, x13) = r := Option.some.inj (e20.symm.trans H)
                subst hz
                exact Ends.mk (ps := [_, _]) (by first | exact .inr rfl | exact .inl rfl) ⟨rfl, rfl, trivial⟩ rfl (StLe.mk' (st' := ⟨[], [⟨225, 4, GBinding.trs (x13), false⟩]⟩) trivial (by first | rfl | simp)) (keeps_all hC (boxes0) (Nat.le_of_ble_eq_true rfl)) (q := (.tup [(bif false then .acc 4 (GBinding.trs (v6)) 0 else .t (.row 4 (GBinding.trs (v6)))), .t (.leaf (.bool (false)))] : PV)) leA rfl ⟨rfl, rfl⟩
              · exact absurd (h17.symm.trans (congrArg (fun b => !b) (rfl : false = false))) (by decide)
            · rcases Classical.em (x11 = x13) with hg21 | hg21
              · have hg21c := hg21
                subst hg21
                refine AWP.drawnL ⟨_, _, fun j' _ => ([(⟨[], [⟨225, 4, GBinding.trs (v6), false⟩]⟩ : Sto), (⟨[], [⟨225, 4, GBinding.trs (x11), false⟩]⟩ : Sto)] : List Sto).getD j' (⟨[], [⟨225, 4, GBinding.trs (x11), false⟩]⟩ : Sto), fun q' => ([some (.t (.row 3 (GType.trs (pp)))), some (.t (.leaf (.int .i64 (((i4 : Nat) : Int))))), some (.eptr (GType.cs (atD pp i4))), some ((GType.pv (atD pp i4))), some (.t (.row 3 (GType.trs (pall)))), some (.t (.leaf (.int .i64 (((i4 : Nat) : Int))))), some (.eptr (GType.cs (atD pall i4))), some ((GType.pv (atD pall i4))), some (.acc 4 (GBinding.trs (v6)) 0), some (.tup [.acc 4 (GBinding.trs (x11)) 0, .t (.leaf (.bool (true)))]), some (.tup [.acc 4 (GBinding.trs (x11)) 0, .t (.leaf (.bool (true)))]), some (.acc 4 (GBinding.trs (x11)) 0), some (.t (.leaf (.bool (true)))), some (.acc 4 (GBinding.trs (x11)) 0), some (.t (.leaf (.bool (true))))] : List (Option PV)).getD q' none, fun q' => ([.q 0 0, .q 0 0, .q 0 0, .q 0 0, .q 0 0, .q 0 0, .q 0 0, .q 0 0, .q 0 0, .ef 0, .q 1 1, .q 1 1, .q 1 1, .q 1 1, .q 1 1] : List DK).getD q' (.q 0 0), [9], none, fun q' => ([[(0, none)], [(8, none)], [(18, some 0), (19, some 1)], [(20, some 2)], [(1, none)], [(8, none)], [(22, some 4), (23, some 5)], [(24, some 6)], [(2, none)], [(26, some 8), (25, some 7), (21, some 3)], [(27, some 9)], [(17, some 10)], [(17, some 10)], [(28, some 11)], [(29, some 12)]] : List (List (Nat × Option Nat))).getD q' []⟩ rfl mixed (by kernel_rfl) rfl rfl ⟨?_, ?_, ?_, ?_, ?_, ?_, ?_, ?_, ?_, ?_, ?_, ?_, ?_, ?_, ?_, trivial⟩ rfl ?_
                · exact Draw.step.q1 0 rfl rfl fun s' bb hs hl => ⟨_, rfl, AOp.move (.inl rfl) rfl (hl 0 none _ (.head _) rfl)⟩
                · exact Draw.step.q1 0 rfl rfl fun s' bb hs hl => ⟨_, rfl, AOp.move (.inl rfl) rfl (hl 8 none _ (.head _) rfl)⟩
                · exact Draw.step.q1 0 rfl rfl fun s' bb hs hl => ⟨_, rfl, AOp.index (k := i4) rfl rfl (hl 18 (some 0) _ (.head _) rfl) rfl (hl 19 (some 1) _ (.tail _ (.head _)) rfl) (GType.trs_at h8n) el45⟩
                · exact Draw.step.q1 0 rfl rfl fun s' bb hs hl => ⟨_, rfl, AOp.loadEptr (ds := [.leaf (.int .i64 ((atD pp i4).gKind)), .leaf (.string ((atD pp i4).gName)), .row 3 (GType.trs ((atD pp i4).gArgs))]) rfl rfl (hl 20 (some 2) _ (.head _) rfl) sh47 rfl rfl⟩
                · exact Draw.step.q1 0 rfl rfl fun s' bb hs hl => ⟨_, rfl, AOp.move (.inl rfl) rfl (hl 1 none _ (.head _) rfl)⟩
                · exact Draw.step.q1 0 rfl rfl fun s' bb hs hl => ⟨_, rfl, AOp.move (.inl rfl) rfl (hl 8 none _ (.head _) rfl)⟩
                · exact Draw.step.q1 0 rfl rfl fun s' bb hs hl => ⟨_, rfl, AOp.index (k := i4) rfl rfl (hl 22 (some 4) _ (.head _) rfl) rfl (hl 23 (some 5) _ (.tail _ (.head _)) rfl) (GType.trs_at hg9) el45⟩
                · exact Draw.step.q1 0 rfl rfl fun s' bb hs hl => ⟨_, rfl, AOp.loadEptr (ds := [.leaf (.int .i64 ((atD pall i4).gKind)), .leaf (.string ((atD pall i4).gName)), .row 3 (GType.trs ((atD pall i4).gArgs))]) rfl rfl (hl 24 (some 6) _ (.head _) rfl) sh47 rfl rfl⟩
                · exact Draw.step.q1 0 rfl rfl fun s' bb hs hl => ⟨_, rfl, AOp.move (.inl rfl) rfl (hl 2 none _ (.head _) rfl)⟩
                · refine .inl ⟨rfl, fun s' bb hs hl => ?_⟩
                  refine .inl ⟨_, rfl, AOp.congr (AOp.callPE (pre := ⟨[], [⟨225, 4, GBinding.trs (v6), false⟩]⟩) (st' := ⟨[], [⟨225, 4, GBinding.trs (x11), false⟩]⟩) (ps := [_, _, _]) (qs := [(GType.pv (atD pp i4)), (GType.pv (atD pall i4)), .acc 4 (GBinding.trs (v6)) 0]) [] [0] rfl rfl Tryz.func214 (by kernel_rfl) rfl (evs_cons (hl 21 (some 3) _ (.tail _ (.tail _ (.head _))) rfl) (evs_cons (hl 25 (some 7) _ (.tail _ (.head _)) rfl) (evs_cons (hl 26 (some 8) _ (.head _) rfl) rfl))) hs (by (try rw [hs]); exact Part0.of trivial ⟨rfl, trivial⟩ (by decide) (by decide)) leA rfl rfl rfl (h_sl7Match (atD pp i4) (atD pall i4) v6 _ hq10)) ?_⟩
                  first | (rw [hs]; rfl) | rfl
                · exact Draw.step.q1 1 rfl rfl fun s' bb hs hl => ⟨_, rfl, AOp.move (.inl rfl) rfl (hl 27 (some 9) _ (.head _) rfl)⟩
                · exact Draw.step.q1 1 rfl rfl fun s' bb hs hl => ⟨_, rfl, AOp.extract rfl rfl (hl 17 (some 10) _ (.head _) rfl) rfl⟩
                · exact Draw.step.q1 1 rfl rfl fun s' bb hs hl => ⟨_, rfl, AOp.extract rfl rfl (hl 17 (some 10) _ (.head _) rfl) rfl⟩
                · exact Draw.step.q1 1 rfl rfl fun s' bb hs hl => ⟨_, rfl, AOp.move (.inr rfl) rfl (hl 28 (some 11) _ (.head _) rfl)⟩
                · exact Draw.step.q1 1 rfl rfl fun s' bb hs hl => ⟨_, rfl, AOp.move (.inr rfl) rfl (hl 29 (some 12) _ (.head _) rfl)⟩
                refine AWP.seq ?_; refine AWP.seq ?_; refine AWP.region_lit ?_; refine AL.cons rfl (AOp.move (.inl rfl) rfl rfl) ?_; refine AL.cons rfl (AOp.notB rfl rfl rfl) ?_; refine AL.nil ?_; refine AWP.cond rfl (fun h22 => ?_) (fun h22 => ?_)
                · exact absurd (h22.symm.trans (congrArg (fun b => !b) (rfl : true = true))) (by decide)
                · refine AWP.skip ?_; refine AWP.region_lit ?_; refine AL.cons rfl (AOp.move (.inl rfl) rfl rfl) ?_; refine AL.cons rfl (AOp.move (.inr rfl) rfl rfl) ?_; refine AL.nil ?_; refine AWP.region_lit ?_; refine AL.cons rfl (AOp.move (.inl rfl) rfl rfl) ?_; refine AL.cons rfl (AOp.addI rfl rfl rfl rfl (c := ((i4 + 1 : Nat) : Int)) (by omega) (by omega)) ?_; refine AL.cons rfl (AOp.move (.inr rfl) rfl rfl) ?_; refine AL.nil ?_
                  have e23 : (sl7All_F1 fu r_sl7All r_sl7Match pp pall plist) i4 v6 = some (.next x11) := gdT hg9 (bdS hq10 (swT rfl (gdT hg21c (rfl))))
                  refine ⟨(i4 + 1, x11), loopN_next h8l hJ7 e23, ?_, ?_⟩
                  · exact Wk.mk (StLe.mk' trivial (by first | rfl | simp)) (keeps_all hC (boxes0) (Nat.le_of_ble_eq_true rfl)) ⟨⟨_, rfl, .refl _, rfl⟩, ⟨⟨_, rfl, .refl _, rfl⟩, ⟨⟨_, rfl, leA, rfl⟩, ⟨⟨_, rfl, .refl _, rfl⟩, ⟨⟨_, rfl, .refl _, rfl⟩, ⟨⟨_, rfl, leA, rfl⟩, trivial⟩⟩⟩⟩⟩⟩
                  · dsimp only; omega
              · have e24 : (sl7All_F1 fu r_sl7All r_sl7Match pp pall plist) i4 v6 = none := gdT hg9 (bdS hq10 (swT rfl (gdF hg21)))
                have e25 : sl7All_R1 fu r_sl7All r_sl7Match pp pall plist = none := loopN_non h8l hJ7 e24
                have e26 : sl7All_G fu r_sl7All r_sl7Match pp pall plist = none := soN e25
                exact none_some H e26
        · have e27 : (sl7All_F1 fu r_sl7All r_sl7Match pp pall plist) i4 v6 = none := gdF hg9
          have e28 : sl7All_R1 fu r_sl7All r_sl7Match pp pall plist = none := loopN_non h8l hJ7 e27
          have e29 : sl7All_G fu r_sl7All r_sl7Match pp pall plist = none := soN e28
          exact none_some H e29
      · have h8l : pp.length ≤ i4 := nat_ge_of2 h8
        refine AWP.exit ?_; refine ⟨v6, loopN_end h8l hJ7, ?_⟩
        exact Wk.mk (StLe.mk' trivial (by first | rfl | simp)) (keeps_all hC (boxes0) (Nat.le_of_ble_eq_true rfl)) ⟨⟨_, rfl, .refl _, rfl⟩, ⟨⟨_, rfl, .refl _, rfl⟩, ⟨⟨_, rfl, .refl _, rfl⟩, trivial⟩⟩⟩
  · rintro v6 hR30
    refine AWP.seq ?_; refine AWP.region_lit ?_; refine AL.cons rfl (AOp.move (.inl rfl) rfl rfl) ?_; refine AL.cons rfl (AOp.move (.inr rfl) rfl rfl) ?_; refine AL.cons rfl (AOp.move (.inr rfl) rfl rfl) ?_; refine AL.nil ?_; refine AWP.ret ?_
    have e31 : sl7All_G fu r_sl7All r_sl7Match pp pall plist = some (v6, true, v6) := soR hR30 (rfl)
    have hz : (v6, true, v6) = r := Option.some.inj (e31.symm.trans H)
    subst hz
    exact Ends.mk (ps := [_, _]) (by first | exact .inr rfl | exact .inl rfl) ⟨rfl, rfl, trivial⟩ rfl (StLe.mk' (st' := ⟨[], [⟨225, 4, GBinding.trs (v6), false⟩]⟩) trivial (by first | rfl | simp)) (keeps_all hC (boxes0) (Nat.le_of_ble_eq_true rfl)) (q := (.tup [(bif true then .acc 4 (GBinding.trs (v6)) 0 else .t (.row 4 (GBinding.trs (v6)))), .t (.leaf (.bool (true)))] : PV)) leA rfl ⟨rfl, rfl⟩
noncomputable def sl7Match_G (fu : Nat) (r_sl7All : (List GType) → (List GType) → (List GBinding) → Option ((List GBinding) × Bool × (List GBinding))) (r_sl7Match : GType → GType → (List GBinding) → Option ((List GBinding) × Bool × (List GBinding))) (pp : GType) (pt : GType) (plist : List GBinding) : Option ((List GBinding) × Bool × (List GBinding)) :=
 sw (decide ((pp.gKind : Int) = 1))
 (bd (sLookup_M fu plist pp.gName) (fun (x4, x5) =>
 sw (x5)
 (sw (GType.eq x4 pt)
 (some (plist, (GType.eq x4 pt), plist))
 (some (plist, (GType.eq x4 pt), plist)))
 (gd (Tr.bulkL (GType.tr pt) ≤ 68719476735)
 (gd ((plist).length + (([(GBinding.mk pp.gName pt)] : List GBinding)).length ≤ 68719476736)
 (some ((plist ++ ([(GBinding.mk pp.gName pt)] : List GBinding)), true, (plist ++ ([(GBinding.mk pp.gName pt)] : List GBinding))))))))
 (sw (!decide ((pp.gKind : Int) = pt.gKind))
 (some (plist, false, plist))
 (sw (!decide (pp.gName = pt.gName))
 (some (plist, false, plist))
 (sw (!decide ((((pp.gArgs.length : Nat) : Int) : Int) = ((pt.gArgs.length : Nat) : Int)))
 (some (plist, false, plist))
 (bd (r_sl7All pp.gArgs pt.gArgs plist) (fun (x27, x28, x29) =>
 sw (x28)
 (gd (x27 = x29)
 (some (x27, true, x27)))
 (some (x27, false, x29)))))))
set_option maxRecDepth 100000 in
set_option maxHeartbeats 4000000 in
theorem sl7Match_step (r_sl7All : (List GType) → (List GType) → (List GBinding) → Option ((List GBinding) × Bool × (List GBinding))) (r_sl7Match : GType → GType → (List GBinding) → Option ((List GBinding) × Bool × (List GBinding))) (fu : Nat) (h_sl7All : ∀ (pp : List GType) (pall : List GType) (plist : List GBinding) (r : (List GBinding) × Bool × (List GBinding)), r_sl7All pp pall plist = some r → ACalls Tryz.prog 199 [.t (.row 3 (GType.trs (pp))), .t (.row 3 (GType.trs (pall))), .acc 4 (GBinding.trs (plist)) 0] ⟨[], [⟨225, 4, GBinding.trs (plist), false⟩]⟩ (fun q t => q = (.tup [(bif r.2.1 then .acc 4 (GBinding.trs (r.1)) 0 else .t (.row 4 (GBinding.trs (r.1)))), .t (.leaf (.bool (r.2.1)))] : PV) ∧ t = ⟨[], [⟨225, 4, GBinding.trs (r.2.2), false⟩]⟩)) (h_sl7Match : ∀ (pp : GType) (pt : GType) (plist : List GBinding) (r : (List GBinding) × Bool × (List GBinding)), r_sl7Match pp pt plist = some r → ACalls Tryz.prog 214 [(GType.pv pp), (GType.pv pt), .acc 4 (GBinding.trs (plist)) 0] ⟨[], [⟨225, 4, GBinding.trs (plist), false⟩]⟩ (fun q t => q = (.tup [(bif r.2.1 then .acc 4 (GBinding.trs (r.1)) 0 else .t (.row 4 (GBinding.trs (r.1)))), .t (.leaf (.bool (r.2.1)))] : PV) ∧ t = ⟨[], [⟨225, 4, GBinding.trs (r.2.2), false⟩]⟩)) (pp : GType) (pt : GType) (plist : List GBinding) (r : (List GBinding) × Bool × (List GBinding)) (H : sl7Match_G fu r_sl7All r_sl7Match pp pt plist = some r) : ACalls Tryz.prog 214 [(GType.pv pp), (GType.pv pt), .acc 4 (GBinding.trs (plist)) 0] ⟨[], [⟨225, 4, GBinding.trs (plist), false⟩]⟩ (fun q t => q = (.tup [(bif r.2.1 then .acc 4 (GBinding.trs (r.1)) 0 else .t (.row 4 (GBinding.trs (r.1)))), .t (.leaf (.bool (r.2.1)))] : PV) ∧ t = ⟨[], [⟨225, 4, GBinding.trs (r.2.2), false⟩]⟩) := by
  refine ACalls.intro Tryz.func214 rfl (by first | decide | (simp; done) | (simp; decide)) ?_; intro C hC
  refine AWP.fact (lk_lenN 2 rfl rfl (GBinding.trs_len _)) (fun hl1 => ?_)
  refine AWP.seq ?_; refine AWP.region_lit ?_; refine AL.cons rfl (AOp.box (cs := [.t (.leaf (.int .i64 (pp.gKind))), .t (.leaf (.string (pp.gName))), .t (.row 3 (GType.trs (pp.gArgs)))]) rfl rfl rfl rfl rfl) ?_; refine AL.cons rfl (AOp.box (cs := [.t (.leaf (.int .i64 (pt.gKind))), .t (.leaf (.string (pt.gName))), .t (.row 3 (GType.trs (pt.gArgs)))]) rfl rfl rfl rfl rfl) ?_; refine AL.cons rfl (AOp.move (.inr rfl) rfl rfl) ?_; refine AL.cons rfl (AOp.move (.inr rfl) rfl rfl) ?_; refine AL.nil ?_; refine AWP.seq ?_; refine AWP.seq ?_; refine AWP.region_lit ?_; refine AL.cons rfl (AOp.fieldPtr (k := 0) (d := 0) (e := 0) rfl rfl rfl fo47_0) ?_; refine AL.cons rfl (AOp.loadPtr1 rfl rfl rfl rfl sh3 rfl) ?_; refine AL.cons rfl (AOp.eqlI rfl rfl rfl rfl) ?_; refine AL.nil ?_; refine AWP.cond rfl (fun h2 => ?_) (fun h2 => ?_)
  · refine AWP.seq ?_; refine AWP.region_lit ?_; refine AL.cons rfl (AOp.move (.inl rfl) rfl rfl) ?_; refine AL.cons rfl (AOp.fieldPtr (k := 0) (d := 0) (e := 1) rfl rfl rfl fo47_1) ?_; refine AL.cons rfl (AOp.loadPtr1 rfl rfl rfl rfl sh9 rfl) ?_
    rcases hq3 : sLookup_M fu plist pp.gName with _ | ⟨x4, x5⟩
    · have e6 : sl7Match_G fu r_sl7All r_sl7Match pp pt plist = none := swT h2 (bdN hq3)
      exact none_some H e6
    · refine AL.cons rfl (AOp.callF (res := .tup [(GType.pv x4), .t (.leaf (.bool (x5)))]) (ps := [_, _]) rfl rfl Tryz.func157 (by kernel_rfl) rfl rfl leA rfl rfl (sLookup_ok fu plist pp.gName _ hq3)) ?_; refine AL.cons rfl (AOp.move (.inl rfl) rfl rfl) ?_; refine AL.cons rfl (AOp.extract rfl rfl rfl rfl) ?_; refine AL.cons rfl (AOp.extract rfl rfl rfl rfl) ?_; refine AL.cons rfl (AOp.alloc rfl rfl zr47) ?_; refine AL.cons rfl (AOp.storePtr (cs := [.t (.leaf (.int .i64 (x4.gKind))), .t (.leaf (.string (x4.gName))), .t (.row 3 (GType.trs (x4.gArgs)))]) (ds := [.t (.leaf (.int .i64 (x4.gKind))), .t (.leaf (.string (x4.gName))), .t (.row 3 (GType.trs (x4.gArgs)))]) rfl rfl rfl rfl rfl rfl rfl sz47 (Nat.le_of_ble_eq_true rfl) rfl) ?_; refine AL.cons rfl (AOp.move (.inr rfl) rfl rfl) ?_; refine AL.nil ?_; refine AWP.seq ?_; refine AWP.seq ?_; refine AWP.region_lit ?_; refine AL.cons rfl (AOp.move (.inl rfl) rfl rfl) ?_; refine AL.nil ?_; refine AWP.cond rfl (fun h7 => ?_) (fun h7 => ?_)
      · refine AWP.seq ?_; refine AWP.region_lit ?_; refine AL.cons rfl (AOp.move (.inl rfl) rfl rfl) ?_; refine AL.cons rfl (AOp.loadPtr (cs := [.t (.leaf (.int .i64 (x4.gKind))), .t (.leaf (.string (x4.gName))), .t (.row 3 (GType.trs (x4.gArgs)))]) rfl rfl rfl rfl sh47 rfl rfl) ?_; refine AL.cons rfl (AOp.loadPtr (cs := [.t (.leaf (.int .i64 (pt.gKind))), .t (.leaf (.string (pt.gName))), .t (.row 3 (GType.trs (pt.gArgs)))]) rfl rfl rfl rfl sh47 rfl rfl) ?_; refine AL.cons rfl (AOp.callF (res := .t (.leaf (.bool (GType.eq x4 pt)))) (ps := [_, _]) rfl rfl Tryz.func228 (by kernel_rfl) rfl rfl leA rfl rfl (sEqualType_fn x4 pt)) ?_; refine AL.cons rfl (AOp.move (.inr rfl) rfl rfl) ?_; refine AL.cons rfl (AOp.move (.inr rfl) rfl rfl) ?_; refine AL.nil ?_; refine AWP.ret ?_
        rcases bool2 (GType.eq x4 pt) with g8 | g8
        · have e9 : sl7Match_G fu r_sl7All r_sl7Match pp pt plist = some (plist, (GType.eq x4 pt), plist) := swT h2 (bdS hq3 (swT h7 (swT g8 (rfl))))
          have hz : (plist, (GType.eq x4 pt), plist) = r := Option.some.inj (e9.symm.trans H)
          subst hz
          exact Ends.mk (ps := [_, _]) (by first | exact .inr rfl | exact .inl rfl) ⟨rfl, rfl, trivial⟩ rfl (StLe.mk' (st' := ⟨[], [⟨225, 4, GBinding.trs (plist), false⟩]⟩) trivial (by first | rfl | simp)) (keeps_all hC (boxes0) (Nat.le_of_ble_eq_true rfl)) (q := (.tup [(bif (GType.eq x4 pt) then .acc 4 (GBinding.trs (plist)) 0 else .t (.row 4 (GBinding.trs (plist)))), .t (.leaf (.bool ((GType.eq x4 pt))))] : PV)) (by rw [g8]; exact leA) (by rw [g8]; rfl) ⟨rfl, rfl⟩
        · have e10 : sl7Match_G fu r_sl7All r_sl7Match pp pt plist = some (plist, (GType.eq x4 pt), plist) := swT h2 (bdS hq3 (swT h7 (swF g8 (rfl))))
          have hz : (plist, (GType.eq x4 pt), plist) = r := Option.some.inj (e10.symm.trans H)
          subst hz
          exact Ends.mk (ps := [_, _]) (by first | exact .inr rfl | exact .inl rfl) ⟨rfl, rfl, trivial⟩ rfl (StLe.mk' (st' := ⟨[], [⟨225, 4, GBinding.trs (plist), false⟩]⟩) trivial (by first | rfl | simp)) (keeps_all hC (boxes0) (Nat.le_of_ble_eq_true rfl)) (q := (.tup [(bif (GType.eq x4 pt) then .acc 4 (GBinding.trs (plist)) 0 else .t (.row 4 (GBinding.trs (plist)))), .t (.leaf (.bool ((GType.eq x4 pt))))] : PV)) (by rw [g8]; exact leA) (by rw [g8]; rfl) ⟨rfl, rfl⟩
      · refine AWP.skip ?_; refine AWP.seq ?_
        rcases Classical.em (Tr.bulkL (GType.tr pt) ≤ 68719476735) with hg11 | hg11
        · rcases Classical.em ((plist).length + (([(GBinding.mk pp.gName pt)] : List GBinding)).length ≤ 68719476736) with hg12 | hg12
          · refine AWP.drawnL ⟨_, _, fun j' _ => ([(⟨[some ⟨47, [.t (.leaf (.int .i64 (pp.gKind))), .t (.leaf (.string (pp.gName))), .t (.row 3 (GType.trs (pp.gArgs)))]⟩, some ⟨47, [.t (.leaf (.int .i64 (pt.gKind))), .t (.leaf (.string (pt.gName))), .t (.row 3 (GType.trs (pt.gArgs)))]⟩, some ⟨47, [.t (.leaf (.int .i64 (x4.gKind))), .t (.leaf (.string (x4.gName))), .t (.row 3 (GType.trs (x4.gArgs)))]⟩], [⟨225, 4, GBinding.trs (plist), false⟩]⟩ : Sto), (⟨[some ⟨47, [.t (.leaf (.int .i64 (pp.gKind))), .t (.leaf (.string (pp.gName))), .t (.row 3 (GType.trs (pp.gArgs)))]⟩, some ⟨47, [.t (.leaf (.int .i64 (pt.gKind))), .t (.leaf (.string (pt.gName))), .t (.row 3 (GType.trs (pt.gArgs)))]⟩, some ⟨47, [.t (.leaf (.int .i64 (x4.gKind))), .t (.leaf (.string (x4.gName))), .t (.row 3 (GType.trs (x4.gArgs)))]⟩], [⟨225, 4, GBinding.trs (plist ++ ([(GBinding.mk pp.gName pt)] : List GBinding)), false⟩]⟩ : Sto)] : List Sto).getD j' (⟨[some ⟨47, [.t (.leaf (.int .i64 (pp.gKind))), .t (.leaf (.string (pp.gName))), .t (.row 3 (GType.trs (pp.gArgs)))]⟩, some ⟨47, [.t (.leaf (.int .i64 (pt.gKind))), .t (.leaf (.string (pt.gName))), .t (.row 3 (GType.trs (pt.gArgs)))]⟩, some ⟨47, [.t (.leaf (.int .i64 (x4.gKind))), .t (.leaf (.string (x4.gName))), .t (.row 3 (GType.trs (x4.gArgs)))]⟩], [⟨225, 4, GBinding.trs (plist ++ ([(GBinding.mk pp.gName pt)] : List GBinding)), false⟩]⟩ : Sto), fun q' => ([some (.acc 4 (GBinding.trs (plist)) 0), some (.ptr 0 1), some (.t (.leaf (.string (pp.gName)))), some ((GType.pv pt)), some ((GType.pv pt)), some (.agg [.t (.leaf (.string (pp.gName))), .t (.leaf (.int .i64 (pt.gKind))), .t (.leaf (.string (pt.gName))), .t (.row 3 (GType.trs (pt.gArgs)))]), some (.t (.row 4 (GBinding.trs (([(GBinding.mk pp.gName pt)] : List GBinding))))), some (.acc 4 (GBinding.trs (plist ++ ([(GBinding.mk pp.gName pt)] : List GBinding))) 0), some (.acc 4 (GBinding.trs (plist ++ ([(GBinding.mk pp.gName pt)] : List GBinding))) 0), some (.t (.leaf (.bool (true))))] : List (Option PV)).getD q' none, fun q' => ([.q 0 0, .q 0 0, .q 0 0, .q 0 0, .q 0 0, .q 0 0, .q 0 0, .ef 0, .q 1 1, .q 1 1] : List DK).getD q' (.q 0 0), [7], none, fun q' => ([[(2, none)], [(3, none)], [(26, some 1)], [(4, none)], [(28, some 3)], [(29, some 4), (27, some 2)], [(30, some 5)], [(25, some 0), (31, some 6)], [(32, some 7)], []] : List (List (Nat × Option Nat))).getD q' []⟩ rfl mixed (by kernel_rfl) rfl rfl ⟨?_, ?_, ?_, ?_, ?_, ?_, ?_, ?_, ?_, ?_, trivial⟩ rfl ?_
            · exact Draw.step.q1 0 rfl rfl fun s' bb hs hl => ⟨_, rfl, AOp.move (.inl rfl) rfl (hl 2 none _ (.head _) rfl)⟩
            · exact Draw.step.q1 0 rfl rfl fun s' bb hs hl => ⟨_, rfl, AOp.fieldPtr (k := 0) (d := 0) (e := 1) rfl rfl (hl 3 none _ (.head _) rfl) fo47_1⟩
            · exact Draw.step.q1 0 rfl rfl fun s' bb hs hl => ⟨_, rfl, AOp.loadPtr1 rfl rfl (hl 26 (some 1) _ (.head _) rfl) (by rw [hs]; rfl) sh9 rfl⟩
            · exact Draw.step.q1 0 rfl rfl fun s' bb hs hl => ⟨_, rfl, AOp.loadPtr (cs := [.t (.leaf (.int .i64 (pt.gKind))), .t (.leaf (.string (pt.gName))), .t (.row 3 (GType.trs (pt.gArgs)))]) rfl rfl (hl 4 none _ (.head _) rfl) (by rw [hs]; rfl) sh47 rfl rfl⟩
            · exact Draw.step.q1 0 rfl rfl fun s' bb hs hl => ⟨_, rfl, AOp.callF (res := (GType.pv pt)) (ps := [_]) rfl rfl Tryz.func110 (by kernel_rfl) rfl (evs_cons (hl 28 (some 3) _ (.head _) rfl) rfl) leA rfl rfl (sl4Copy_fn pt hg11)⟩
            · exact Draw.step.q1 0 rfl rfl fun s' bb hs hl => ⟨_, rfl, AOp.build rfl rfl zr225 pl225 (parts_cons (hl 27 (some 2) _ (.tail _ (.head _)) rfl) rfl rfl (parts_cons (hl 29 (some 4) _ (.head _) rfl) rfl rfl rfl)) rfl⟩
            · exact Draw.step.q1 0 rfl rfl fun s' bb hs hl => ⟨_, rfl, AOp.buildSliceE (es := [GBinding.cs (GBinding.mk pp.gName pt)]) (es' := GBinding.trs (([(GBinding.mk pp.gName pt)] : List GBinding))) (cs := [.t (.leaf (.string (pp.gName))), .t (.leaf (.int .i64 (pt.gKind))), .t (.leaf (.string (pt.gName))), .t (.row 3 (GType.trs (pt.gArgs)))]) rfl rfl el138 zr225 (parts_cons (hl 30 (some 5) _ (.head _) rfl) rfl rfl rfl) rfl leA rfl (by simp [GBinding.cs]) (by decide) rfl (by decide) (by simp [GBinding.trs_map, GBinding.tr_cs])⟩
            · refine .inl ⟨rfl, fun s' bb hs hl => ?_⟩
              refine .inl ⟨_, rfl, AOp.congr (AOp.appendE (es3 := GBinding.trs (plist ++ ([(GBinding.mk pp.gName pt)] : List GBinding))) rfl rfl (hl 25 (some 0) _ (.head _) rfl) (by rw [hs]; rfl) rfl rfl rfl (hl 31 (some 6) _ (.tail _ (.head _)) rfl) rfl (fun e he => by rw [GBinding.trs_map] at he; obtain ⟨x, _, rfl⟩ := List.mem_map.1 he; rw [GBinding.tr_cs]; rfl) el138 ze138 (by decide) (by rw [GBinding.trs_len, GBinding.trs_len]; exact room_le hg12 (by decide)) (by rw [GBinding.trs_map, GBinding.trs_map, GBinding.trs_map, List.map_append])) ?_⟩
              first | (rw [hs]; rfl) | rfl
            · exact Draw.step.q1 1 rfl rfl fun s' bb hs hl => ⟨_, rfl, AOp.move (.inr rfl) rfl (hl 32 (some 7) _ (.head _) rfl)⟩
            · exact Draw.step.q1 1 rfl rfl fun s' bb hs hl => ⟨_, rfl, AOp.move (.inr rfl) rfl rfl⟩
            refine AWP.ret ?_
            have e13 : sl7Match_G fu r_sl7All r_sl7Match pp pt plist = some ((plist ++ ([(GBinding.mk pp.gName pt)] : List GBinding)), true, (plist ++ ([(GBinding.mk pp.gName pt)] : List GBinding))) := swT h2 (bdS hq3 (swF h7 (gdT hg11 (gdT hg12 (rfl)))))
            have hz : ((plist ++ ([(GBinding.mk pp.gName pt)] : List GBinding)), true, (plist ++ ([(GBinding.mk pp.gName pt)] : List GBinding))) = r := Option.some.inj (e13.symm.trans H)
            subst hz
            exact Ends.mk (ps := [_, _]) (by first | exact .inr rfl | exact .inl rfl) ⟨rfl, rfl, trivial⟩ rfl (StLe.mk' (st' := ⟨[], [⟨225, 4, GBinding.trs ((plist ++ ([(GBinding.mk pp.gName pt)] : List GBinding))), false⟩]⟩) trivial (by first | rfl | simp)) (keeps_all hC (boxes0) (Nat.le_of_ble_eq_true rfl)) (q := (.tup [(bif true then .acc 4 (GBinding.trs (plist ++ ([(GBinding.mk pp.gName pt)] : List GBinding))) 0 else .t (.row 4 (GBinding.trs (plist ++ ([(GBinding.mk pp.gName pt)] : List GBinding))))), .t (.leaf (.bool (true)))] : PV)) leA rfl ⟨rfl, rfl⟩
          · have e14 : sl7Match_G fu r_sl7All r_sl7Match pp pt plist = none := swT h2 (bdS hq3 (swF h7 (gdT hg11 (gdF hg12))))
            exact none_some H e14
        · have e15 : sl7Match_G fu r_sl7All r_sl7Match pp pt plist = none := swT h2 (bdS hq3 (swF h7 (gdF hg11)))
          exact none_some H e15
  · refine AWP.skip ?_; refine AWP.seq ?_; refine AWP.seq ?_; refine AWP.region_lit ?_; refine AL.cons rfl (AOp.fieldPtr (k := 0) (d := 0) (e := 0) rfl rfl rfl fo47_0) ?_; refine AL.cons rfl (AOp.loadPtr1 rfl rfl rfl rfl sh3 rfl) ?_; refine AL.cons rfl (AOp.fieldPtr (k := 1) (d := 0) (e := 0) rfl rfl rfl fo47_0) ?_; refine AL.cons rfl (AOp.loadPtr1 rfl rfl rfl rfl sh3 rfl) ?_; refine AL.cons rfl (AOp.neqI rfl rfl rfl rfl) ?_; refine AL.cons rfl (AOp.move (.inl rfl) rfl rfl) ?_; refine AL.splitB 38 rfl (fun g16 => ?_) (fun g16 => ?_)
    · refine AL.skipP rfl rfl rfl g16 rfl rfl ?_; refine AL.skipP rfl rfl rfl g16 rfl rfl ?_; refine AL.skipP rfl rfl rfl g16 rfl rfl ?_; refine AL.skipP rfl rfl rfl g16 rfl rfl ?_; refine AL.skipP rfl rfl rfl g16 rfl rfl ?_; refine AL.cons rfl (AOp.pickT rfl rfl rfl g16 rfl) ?_; refine AL.cons rfl (AOp.move (.inl rfl) rfl rfl) ?_; refine AL.skipP rfl rfl rfl rfl rfl rfl ?_; refine AL.skipP rfl rfl rfl rfl rfl rfl ?_; refine AL.skipP rfl rfl rfl rfl rfl rfl ?_; refine AL.skipP rfl rfl rfl rfl rfl rfl ?_; refine AL.skipP rfl rfl rfl rfl rfl rfl ?_; refine AL.skipP rfl rfl rfl rfl rfl rfl ?_; refine AL.skipP rfl rfl rfl rfl rfl rfl ?_; refine AL.cons rfl (AOp.pickT rfl rfl rfl rfl rfl) ?_; refine AL.nil ?_; refine AWP.cond rfl (fun h17 => ?_) (fun h17 => ?_)
      · refine AWP.seq ?_; refine AWP.region_lit ?_; refine AL.cons rfl (AOp.move (.inl rfl) rfl rfl) ?_; refine AL.cons rfl (AOp.move (.inr rfl) rfl rfl) ?_; refine AL.cons rfl (AOp.move (.inr rfl) rfl rfl) ?_; refine AL.nil ?_; refine AWP.ret ?_
        have e18 : sl7Match_G fu r_sl7All r_sl7Match pp pt plist = some (plist, false, plist) := swF h2 (swT g16 (rfl))
        have hz : (plist, false, plist) = r := Option.some.inj (e18.symm.trans H)
        subst hz
        exact Ends.mk (ps := [_, _]) (by first | exact .inr rfl | exact .inl rfl) ⟨rfl, rfl, trivial⟩ rfl (StLe.mk' (st' := ⟨[], [⟨225, 4, GBinding.trs (plist), false⟩]⟩) trivial (by first | rfl | simp)) (keeps_all hC (boxes0) (Nat.le_of_ble_eq_true rfl)) (q := (.tup [(bif false then .acc 4 (GBinding.trs (plist)) 0 else .t (.row 4 (GBinding.trs (plist)))), .t (.leaf (.bool (false)))] : PV)) leA rfl ⟨rfl, rfl⟩
      · exact absurd (h17.symm.trans rfl) (by decide)
    · refine AL.cons_gv rfl rfl rfl g16 (AOp.fieldPtr (k := 0) (d := 0) (e := 1) rfl rfl rfl fo47_1) ?_; refine AL.cons_gv rfl rfl rfl g16 (AOp.loadPtr1 rfl rfl rfl rfl sh9 rfl) ?_; refine AL.cons_gv rfl rfl rfl g16 (AOp.fieldPtr (k := 1) (d := 0) (e := 1) rfl rfl rfl fo47_1) ?_; refine AL.cons_gv rfl rfl rfl g16 (AOp.loadPtr1 rfl rfl rfl rfl sh9 rfl) ?_; refine AL.cons_gv rfl rfl rfl g16 (AOp.neqS rfl rfl rfl rfl) ?_; refine AL.cons rfl (AOp.pickF rfl rfl rfl g16 rfl) ?_; refine AL.cons rfl (AOp.move (.inl rfl) rfl rfl) ?_; refine AL.splitB 45 rfl (fun g19 => ?_) (fun g19 => ?_)
      · refine AL.skipP rfl rfl rfl g19 rfl rfl ?_; refine AL.skipP rfl rfl rfl g19 rfl rfl ?_; refine AL.skipP rfl rfl rfl g19 rfl rfl ?_; refine AL.skipP rfl rfl rfl g19 rfl rfl ?_; refine AL.skipP rfl rfl rfl g19 rfl rfl ?_; refine AL.skipP rfl rfl rfl g19 rfl rfl ?_; refine AL.skipP rfl rfl rfl g19 rfl rfl ?_; refine AL.cons rfl (AOp.pickT rfl rfl rfl g19 rfl) ?_; refine AL.nil ?_; refine AWP.cond rfl (fun h20 => ?_) (fun h20 => ?_)
        · refine AWP.seq ?_; refine AWP.region_lit ?_; refine AL.cons rfl (AOp.move (.inl rfl) rfl rfl) ?_; refine AL.cons rfl (AOp.move (.inr rfl) rfl rfl) ?_; refine AL.cons rfl (AOp.move (.inr rfl) rfl rfl) ?_; refine AL.nil ?_; refine AWP.ret ?_
          have e21 : sl7Match_G fu r_sl7All r_sl7Match pp pt plist = some (plist, false, plist) := swF h2 (swF g16 (swT g19 (rfl)))
          have hz : (plist, false, plist) = r := Option.some.inj (e21.symm.trans H)
          subst hz
          exact Ends.mk (ps := [_, _]) (by first | exact .inr rfl | exact .inl rfl) ⟨rfl, rfl, trivial⟩ rfl (StLe.mk' (st' := ⟨[], [⟨225, 4, GBinding.trs (plist), false⟩]⟩) trivial (by first | rfl | simp)) (keeps_all hC (boxes0) (Nat.le_of_ble_eq_true rfl)) (q := (.tup [(bif false then .acc 4 (GBinding.trs (plist)) 0 else .t (.row 4 (GBinding.trs (plist)))), .t (.leaf (.bool (false)))] : PV)) leA rfl ⟨rfl, rfl⟩
        · exact absurd (h20.symm.trans rfl) (by decide)
      · refine AL.cons_gv rfl rfl rfl g19 (AOp.fieldPtr (k := 0) (d := 0) (e := 2) rfl rfl rfl fo47_2) ?_; refine AL.cons_gv rfl rfl rfl g19 (AOp.loadPtr1 rfl rfl rfl rfl sh45 rfl) ?_; refine AL.fact (lk_lenN 47 rfl rfl (GType.trs_len _)) (fun hl22 => ?_)
        refine AL.cons_gv rfl rfl rfl g19 (AOp.lenN rfl rfl rfl rfl el45 (GType.trs_len _)) ?_; refine AL.cons_gv rfl rfl rfl g19 (AOp.fieldPtr (k := 1) (d := 0) (e := 2) rfl rfl rfl fo47_2) ?_; refine AL.cons_gv rfl rfl rfl g19 (AOp.loadPtr1 rfl rfl rfl rfl sh45 rfl) ?_; refine AL.fact (lk_lenN 50 rfl rfl (GType.trs_len _)) (fun hl23 => ?_)
        refine AL.cons_gv rfl rfl rfl g19 (AOp.lenN rfl rfl rfl rfl el45 (GType.trs_len _)) ?_; refine AL.cons_gv rfl rfl rfl g19 (AOp.neqI rfl rfl rfl rfl) ?_; refine AL.cons rfl (AOp.pickF rfl rfl rfl g19 rfl) ?_; refine AL.nil ?_; refine AWP.cond rfl (fun h24 => ?_) (fun h24 => ?_)
        · refine AWP.seq ?_; refine AWP.region_lit ?_; refine AL.cons rfl (AOp.move (.inl rfl) rfl rfl) ?_; refine AL.cons rfl (AOp.move (.inr rfl) rfl rfl) ?_; refine AL.cons rfl (AOp.move (.inr rfl) rfl rfl) ?_; refine AL.nil ?_; refine AWP.ret ?_
          have e25 : sl7Match_G fu r_sl7All r_sl7Match pp pt plist = some (plist, false, plist) := swF h2 (swF g16 (swF g19 (swT h24 (rfl))))
          have hz : (plist, false, plist) = r := Option.some.inj (e25.symm.trans H)
          subst hz
          exact Ends.mk (ps := [_, _]) (by first | exact .inr rfl | exact .inl rfl) ⟨rfl, rfl, trivial⟩ rfl (StLe.mk' (st' := ⟨[], [⟨225, 4, GBinding.trs (plist), false⟩]⟩) trivial (by first | rfl | simp)) (keeps_all hC (boxes0) (Nat.le_of_ble_eq_true rfl)) (q := (.tup [(bif false then .acc 4 (GBinding.trs (plist)) 0 else .t (.row 4 (GBinding.trs (plist)))), .t (.leaf (.bool (false)))] : PV)) leA rfl ⟨rfl, rfl⟩
        · refine AWP.skip ?_; refine AWP.seq ?_; refine AWP.region_lit ?_; refine AL.cons rfl (AOp.fieldPtr (k := 0) (d := 0) (e := 2) rfl rfl rfl fo47_2) ?_; refine AL.cons rfl (AOp.loadPtr1 rfl rfl rfl rfl sh45 rfl) ?_; refine AL.cons rfl (AOp.fieldPtr (k := 1) (d := 0) (e := 2) rfl rfl rfl fo47_2) ?_; refine AL.cons rfl (AOp.loadPtr1 rfl rfl rfl rfl sh45 rfl) ?_; refine AL.cons rfl (AOp.move (.inl rfl) rfl rfl) ?_
          rcases hq26 : r_sl7All pp.gArgs pt.gArgs plist with _ | ⟨x27, x28, x29⟩
          · have e30 : sl7Match_G fu r_sl7All r_sl7Match pp pt plist = none := swF h2 (swF g16 (swF g19 (swF h24 (bdN hq26))))
            exact none_some H e30
          · cases x28
            · refine AL.cons rfl (AOp.callPE (pre := ⟨[], [⟨225, 4, GBinding.trs (plist), false⟩]⟩) (st' := ⟨[], [⟨225, 4, GBinding.trs (x29), false⟩]⟩) (ps := [_, _, _]) (qs := [.t (.row 3 (GType.trs (pp.gArgs))), .t (.row 3 (GType.trs (pt.gArgs))), .acc 4 (GBinding.trs (plist)) 0]) [] [0] rfl rfl Tryz.func199 (by kernel_rfl) rfl rfl rfl (Part0.of trivial ⟨rfl, trivial⟩ (by decide) (by decide)) leA rfl rfl rfl (h_sl7All pp.gArgs pt.gArgs plist _ hq26)) ?_; refine AL.cons rfl (AOp.extract rfl rfl rfl rfl) ?_; refine AL.cons rfl (AOp.extract rfl rfl rfl rfl) ?_; refine AL.cons rfl (AOp.move (.inr rfl) rfl rfl) ?_; refine AL.cons rfl (AOp.move (.inr rfl) rfl rfl) ?_; refine AL.nil ?_; refine AWP.ret ?_
              have e31 : sl7Match_G fu r_sl7All r_sl7Match pp pt plist = some (x27, false, x29) := swF h2 (swF g16 (swF g19 (swF h24 (bdS hq26 (swF rfl (rfl))))))
              have hz : (x27, false, x29) = r := Option.some.inj (e31.symm.trans H)
              subst hz
              exact Ends.mk (ps := [_, _]) (by first | exact .inr rfl | exact .inl rfl) ⟨rfl, rfl, trivial⟩ rfl (StLe.mk' (st' := ⟨[], [⟨225, 4, GBinding.trs (x29), false⟩]⟩) trivial (by first | rfl | simp)) (keeps_all hC (boxes0) (Nat.le_of_ble_eq_true rfl)) (q := (.tup [(bif false then .acc 4 (GBinding.trs (x27)) 0 else .t (.row 4 (GBinding.trs (x27)))), .t (.leaf (.bool (false)))] : PV)) leA rfl ⟨rfl, rfl⟩
            · rcases Classical.em (x27 = x29) with hg32 | hg32
              · have hg32c := hg32
                subst hg32
                refine AL.cons rfl (AOp.callPE (pre := ⟨[], [⟨225, 4, GBinding.trs (plist), false⟩]⟩) (st' := ⟨[], [⟨225, 4, GBinding.trs (x27), false⟩]⟩) (ps := [_, _, _]) (qs := [.t (.row 3 (GType.trs (pp.gArgs))), .t (.row 3 (GType.trs (pt.gArgs))), .acc 4 (GBinding.trs (plist)) 0]) [] [0] rfl rfl Tryz.func199 (by kernel_rfl) rfl rfl rfl (Part0.of trivial ⟨rfl, trivial⟩ (by decide) (by decide)) leA rfl rfl rfl (h_sl7All pp.gArgs pt.gArgs plist _ hq26)) ?_; refine AL.cons rfl (AOp.extract rfl rfl rfl rfl) ?_; refine AL.cons rfl (AOp.extract rfl rfl rfl rfl) ?_; refine AL.cons rfl (AOp.move (.inr rfl) rfl rfl) ?_; refine AL.cons rfl (AOp.move (.inr rfl) rfl rfl) ?_; refine AL.nil ?_; refine AWP.ret ?_
                have e33 : sl7Match_G fu r_sl7All r_sl7Match pp pt plist = some (x27, true, x27) := swF h2 (swF g16 (swF g19 (swF h24 (bdS hq26 (swT rfl (gdT hg32c (rfl)))))))
                have hz : (x27, true, x27) = r := Option.some.inj (e33.symm.trans H)
                subst hz
                exact Ends.mk (ps := [_, _]) (by first | exact .inr rfl | exact .inl rfl) ⟨rfl, rfl, trivial⟩ rfl (StLe.mk' (st' := ⟨[], [⟨225, 4, GBinding.trs (x27), false⟩]⟩) trivial (by first | rfl | simp)) (keeps_all hC (boxes0) (Nat.le_of_ble_eq_true rfl)) (q := (.tup [(bif true then .acc 4 (GBinding.trs (x27)) 0 else .t (.row 4 (GBinding.trs (x27)))), .t (.leaf (.bool (true)))] : PV)) leA rfl ⟨rfl, rfl⟩
              · have e34 : sl7Match_G fu r_sl7All r_sl7Match pp pt plist = none := swF h2 (swF g16 (swF g19 (swF h24 (bdS hq26 (swT rfl (gdF hg32))))))
                exact none_some H e34
mutual
noncomputable def sl7All_M : Nat → (List GType) → (List GType) → (List GBinding) → Option ((List GBinding) × Bool × (List GBinding))
  | 0, _, _, _ => none
  | fu + 1, pp, pall, plist => sl7All_G fu (sl7All_M fu) (sl7Match_M fu) pp pall plist
noncomputable def sl7Match_M : Nat → GType → GType → (List GBinding) → Option ((List GBinding) × Bool × (List GBinding))
  | 0, _, _, _ => none
  | fu + 1, pp, pt, plist => sl7Match_G fu (sl7All_M fu) (sl7Match_M fu) pp pt plist
end
theorem sl7All_all (fu : Nat) : (∀ (pp : List GType) (pall : List GType) (plist : List GBinding) (r : (List GBinding) × Bool × (List GBinding)), sl7All_M fu pp pall plist = some r → ACalls Tryz.prog 199 [.t (.row 3 (GType.trs (pp))), .t (.row 3 (GType.trs (pall))), .acc 4 (GBinding.trs (plist)) 0] ⟨[], [⟨225, 4, GBinding.trs (plist), false⟩]⟩ (fun q t => q = (.tup [(bif r.2.1 then .acc 4 (GBinding.trs (r.1)) 0 else .t (.row 4 (GBinding.trs (r.1)))), .t (.leaf (.bool (r.2.1)))] : PV) ∧ t = ⟨[], [⟨225, 4, GBinding.trs (r.2.2), false⟩]⟩)) ∧ (∀ (pp : GType) (pt : GType) (plist : List GBinding) (r : (List GBinding) × Bool × (List GBinding)), sl7Match_M fu pp pt plist = some r → ACalls Tryz.prog 214 [(GType.pv pp), (GType.pv pt), .acc 4 (GBinding.trs (plist)) 0] ⟨[], [⟨225, 4, GBinding.trs (plist), false⟩]⟩ (fun q t => q = (.tup [(bif r.2.1 then .acc 4 (GBinding.trs (r.1)) 0 else .t (.row 4 (GBinding.trs (r.1)))), .t (.leaf (.bool (r.2.1)))] : PV) ∧ t = ⟨[], [⟨225, 4, GBinding.trs (r.2.2), false⟩]⟩)) := by
  induction fu with
  | zero => exact ⟨(fun pp pall plist r H => by simp only [sl7All_M] at H; cases H), (fun pp pt plist r H => by simp only [sl7Match_M] at H; cases H)⟩
  | succ fu ih => exact ⟨(fun pp pall plist r H => by simp only [sl7All_M] at H; exact sl7All_step (sl7All_M fu) (sl7Match_M fu) fu ih.1 ih.2 pp pall plist r H), (fun pp pt plist r H => by simp only [sl7Match_M] at H; exact sl7Match_step (sl7All_M fu) (sl7Match_M fu) fu ih.1 ih.2 pp pt plist r H)⟩
theorem sl7All_ok (fu : Nat) (pp : List GType) (pall : List GType) (plist : List GBinding) (r : (List GBinding) × Bool × (List GBinding)) (H : sl7All_M fu pp pall plist = some r) : ACalls Tryz.prog 199 [.t (.row 3 (GType.trs (pp))), .t (.row 3 (GType.trs (pall))), .acc 4 (GBinding.trs (plist)) 0] ⟨[], [⟨225, 4, GBinding.trs (plist), false⟩]⟩ (fun q t => q = (.tup [(bif r.2.1 then .acc 4 (GBinding.trs (r.1)) 0 else .t (.row 4 (GBinding.trs (r.1)))), .t (.leaf (.bool (r.2.1)))] : PV) ∧ t = ⟨[], [⟨225, 4, GBinding.trs (r.2.2), false⟩]⟩) := (sl7All_all fu).1 pp pall plist r H
noncomputable def sMatchAll_M (fu : Nat)  (pp : List GType) (pall : List GType) : Option ((List GBinding) × Bool) :=
 sw (!decide ((((pp.length : Nat) : Int) : Int) = ((pall.length : Nat) : Int)))
 (some (([]), false))
 (bd (sl7All_M fu pp pall ([])) (fun (x6, x7, x8) =>
 sw (x7)
 (gd (x6 = x8)
 (some (x6, true)))
 (some (([]), false))))
set_option maxRecDepth 100000 in
set_option maxHeartbeats 4000000 in
theorem sMatchAll_ok  (fu : Nat)  (pp : List GType) (pall : List GType) (r : (List GBinding) × Bool) (H : sMatchAll_M fu pp pall = some r) : AFun Tryz.prog 156 [.t (.row 3 (GType.trs (pp))), .t (.row 3 (GType.trs (pall)))] (.tup [.t (.row 4 (GBinding.trs (r.1))), .t (.leaf (.bool (r.2)))] : PV) := by
  refine ACalls.intro Tryz.func156 rfl (by first | decide | (simp; done) | (simp; decide)) ?_; intro C hC
  refine AWP.fact (lk_lenN 0 rfl rfl (GType.trs_len _)) (fun hl1 => ?_)
  refine AWP.fact (lk_lenN 1 rfl rfl (GType.trs_len _)) (fun hl2 => ?_)
  refine AWP.seq ?_; refine AWP.region_lit ?_; refine AL.cons rfl (AOp.move (.inr rfl) rfl rfl) ?_; refine AL.cons rfl (AOp.move (.inr rfl) rfl rfl) ?_; refine AL.nil ?_; refine AWP.seq ?_; refine AWP.seq ?_; refine AWP.region_lit ?_; refine AL.cons rfl (AOp.move (.inl rfl) rfl rfl) ?_; refine AL.cons rfl (AOp.lenN rfl rfl rfl rfl el45 (GType.trs_len _)) ?_; refine AL.cons rfl (AOp.move (.inl rfl) rfl rfl) ?_; refine AL.cons rfl (AOp.lenN rfl rfl rfl rfl el45 (GType.trs_len _)) ?_; refine AL.cons rfl (AOp.neqI rfl rfl rfl rfl) ?_; refine AL.nil ?_; refine AWP.cond rfl (fun h3 => ?_) (fun h3 => ?_)
  · refine AWP.seq ?_; refine AWP.region_lit ?_; refine AL.cons rfl (AOp.buildSliceA (es := []) (es' := GBinding.trs ([])) (cs := []) rfl rfl el138 zr225 rfl rfl leA rfl (by simp [GBinding.cs]) (by decide) rfl (by decide) (by simp [GBinding.trs_map, GBinding.tr_cs])) ?_; refine AL.cons rfl (AOp.move (.inr rfl) rfl rfl) ?_; refine AL.cons rfl (AOp.move (.inr rfl) rfl rfl) ?_; refine AL.nil ?_; refine AWP.ret ?_
    have e4 : sMatchAll_M fu pp pall = some (([]), false) := swT h3 (rfl)
    have hz : (([]), false) = r := Option.some.inj (e4.symm.trans H)
    subst hz
    exact Ends.mk (ps := [_, _]) (by first | exact .inr rfl | exact .inl rfl) ⟨rfl, rfl, trivial⟩ rfl (StLe.mk' (st' := ⟨[], []⟩) trivial rfl) (keeps_nil hC) (q := (.tup [.t (.row 4 (GBinding.trs (([])))), .t (.leaf (.bool (false)))] : PV)) leA rfl ⟨rfl, rfl⟩
  · refine AWP.skip ?_; refine AWP.seq ?_; refine AWP.region_lit ?_; refine AL.cons rfl (AOp.move (.inl rfl) rfl rfl) ?_; refine AL.cons rfl (AOp.move (.inl rfl) rfl rfl) ?_; refine AL.cons rfl (AOp.buildSliceA (es := []) (es' := GBinding.trs ([])) (cs := []) rfl rfl el138 zr225 rfl rfl leA rfl (by simp [GBinding.cs]) (by decide) rfl (by decide) (by simp [GBinding.trs_map, GBinding.tr_cs])) ?_
    rcases hq5 : sl7All_M fu pp pall ([]) with _ | ⟨x6, x7, x8⟩
    · have e9 : sMatchAll_M fu pp pall = none := swF h3 (bdN hq5)
      exact none_some H e9
    · cases x7
      · refine AL.cons rfl (AOp.callPE (pre := ⟨[], [⟨225, 4, GBinding.trs ([]), false⟩]⟩) (st' := ⟨[], [⟨225, 4, GBinding.trs (x8), false⟩]⟩) (ps := [_, _, _]) (qs := [.t (.row 3 (GType.trs (pp))), .t (.row 3 (GType.trs (pall))), .acc 4 (GBinding.trs ([])) 0]) [] [0] rfl rfl Tryz.func199 (by kernel_rfl) rfl rfl rfl (Part0.of trivial ⟨rfl, trivial⟩ (by decide) (by decide)) leA rfl rfl rfl (sl7All_ok fu pp pall ([]) _ hq5)) ?_; refine AL.cons rfl (AOp.move (.inl rfl) rfl rfl) ?_; refine AL.cons rfl (AOp.extract rfl rfl rfl rfl) ?_; refine AL.cons rfl (AOp.extract rfl rfl rfl rfl) ?_; refine AL.cons rfl (AOp.move (.inr rfl) rfl rfl) ?_; refine AL.cons rfl (AOp.move (.inr rfl) rfl rfl) ?_; refine AL.nil ?_; refine AWP.seq ?_; refine AWP.seq ?_; refine AWP.region_lit ?_; refine AL.cons rfl (AOp.move (.inl rfl) rfl rfl) ?_; refine AL.cons rfl (AOp.notB rfl rfl rfl) ?_; refine AL.nil ?_; refine AWP.cond rfl (fun h10 => ?_) (fun h10 => ?_)
        · refine AWP.seq ?_; refine AWP.region_lit ?_; refine AL.cons rfl (AOp.buildSliceA (es := []) (es' := GBinding.trs ([])) (cs := []) rfl rfl el138 zr225 rfl rfl leA rfl (by simp [GBinding.cs]) (by decide) rfl (by decide) (by simp [GBinding.trs_map, GBinding.tr_cs])) ?_; refine AL.cons rfl (AOp.move (.inr rfl) rfl rfl) ?_; refine AL.cons rfl (AOp.move (.inr rfl) rfl rfl) ?_; refine AL.nil ?_; refine AWP.ret ?_
          have e11 : sMatchAll_M fu pp pall = some (([]), false) := swF h3 (bdS hq5 (swF rfl (rfl)))
          have hz : (([]), false) = r := Option.some.inj (e11.symm.trans H)
          subst hz
          exact Ends.mk (ps := [_, _]) (by first | exact .inr rfl | exact .inl rfl) ⟨rfl, rfl, trivial⟩ rfl (StLe.mk' (st' := ⟨[], []⟩) trivial rfl) (keeps_nil hC) (q := (.tup [.t (.row 4 (GBinding.trs (([])))), .t (.leaf (.bool (false)))] : PV)) leA rfl ⟨rfl, rfl⟩
        · exact absurd (h10.symm.trans (congrArg (fun b => !b) (rfl : false = false))) (by decide)
      · rcases Classical.em (x6 = x8) with hg12 | hg12
        · have hg12c := hg12
          subst hg12
          refine AL.cons rfl (AOp.callPE (pre := ⟨[], [⟨225, 4, GBinding.trs ([]), false⟩]⟩) (st' := ⟨[], [⟨225, 4, GBinding.trs (x6), false⟩]⟩) (ps := [_, _, _]) (qs := [.t (.row 3 (GType.trs (pp))), .t (.row 3 (GType.trs (pall))), .acc 4 (GBinding.trs ([])) 0]) [] [0] rfl rfl Tryz.func199 (by kernel_rfl) rfl rfl rfl (Part0.of trivial ⟨rfl, trivial⟩ (by decide) (by decide)) leA rfl rfl rfl (sl7All_ok fu pp pall ([]) _ hq5)) ?_; refine AL.cons rfl (AOp.move (.inl rfl) rfl rfl) ?_; refine AL.cons rfl (AOp.extract rfl rfl rfl rfl) ?_; refine AL.cons rfl (AOp.extract rfl rfl rfl rfl) ?_; refine AL.cons rfl (AOp.move (.inr rfl) rfl rfl) ?_; refine AL.cons rfl (AOp.move (.inr rfl) rfl rfl) ?_; refine AL.nil ?_; refine AWP.seq ?_; refine AWP.seq ?_; refine AWP.region_lit ?_; refine AL.cons rfl (AOp.move (.inl rfl) rfl rfl) ?_; refine AL.cons rfl (AOp.notB rfl rfl rfl) ?_; refine AL.nil ?_; refine AWP.cond rfl (fun h13 => ?_) (fun h13 => ?_)
          · exact absurd (h13.symm.trans (congrArg (fun b => !b) (rfl : true = true))) (by decide)
          · refine AWP.skip ?_; refine AWP.seq ?_; refine AWP.region_lit ?_; refine AL.cons rfl (AOp.move (.inl rfl) rfl rfl) ?_; refine AL.cons rfl (AOp.move (.inr rfl) rfl rfl) ?_; refine AL.cons rfl (AOp.move (.inr rfl) rfl rfl) ?_; refine AL.nil ?_; refine AWP.ret ?_
            have e14 : sMatchAll_M fu pp pall = some (x6, true) := swF h3 (bdS hq5 (swT rfl (gdT hg12c (rfl))))
            have hz : (x6, true) = r := Option.some.inj (e14.symm.trans H)
            subst hz
            exact Ends.mk (ps := [_, _]) (by first | exact .inr rfl | exact .inl rfl) ⟨rfl, rfl, trivial⟩ rfl (StLe.mk' (st' := ⟨[], []⟩) trivial rfl) (keeps_nil hC) (q := (.tup [.t (.row 4 (GBinding.trs (x6))), .t (.leaf (.bool (true)))] : PV)) leA rfl ⟨rfl, rfl⟩
        · have e15 : sMatchAll_M fu pp pall = none := swF h3 (bdS hq5 (swT rfl (gdF hg12)))
          exact none_some H e15

noncomputable def sMatch_M (fu : Nat)  (pp : GType) (pt : GType) : Option ((List GBinding) × Bool) :=
 bd (sMatchAll_M fu ([pp] : List GType) ([pt] : List GType)) (fun (x2, x3) =>
 some (x2, x3))
set_option maxRecDepth 100000 in
set_option maxHeartbeats 4000000 in
theorem sMatch_ok  (fu : Nat)  (pp : GType) (pt : GType) (r : (List GBinding) × Bool) (H : sMatch_M fu pp pt = some r) : AFun Tryz.prog 102 [(GType.pv pp), (GType.pv pt)] (.tup [.t (.row 4 (GBinding.trs (r.1))), .t (.leaf (.bool (r.2)))] : PV) := by
  refine ACalls.intro Tryz.func102 rfl (by first | decide | (simp; done) | (simp; decide)) ?_; intro C hC
  refine AWP.seq ?_; refine AWP.region_lit ?_; refine AL.cons rfl (AOp.box (cs := [.t (.leaf (.int .i64 (pp.gKind))), .t (.leaf (.string (pp.gName))), .t (.row 3 (GType.trs (pp.gArgs)))]) rfl rfl rfl rfl rfl) ?_; refine AL.cons rfl (AOp.box (cs := [.t (.leaf (.int .i64 (pt.gKind))), .t (.leaf (.string (pt.gName))), .t (.row 3 (GType.trs (pt.gArgs)))]) rfl rfl rfl rfl rfl) ?_; refine AL.cons rfl (AOp.move (.inr rfl) rfl rfl) ?_; refine AL.cons rfl (AOp.move (.inr rfl) rfl rfl) ?_; refine AL.nil ?_; refine AWP.seq ?_; refine AWP.region_lit ?_; refine AL.cons rfl (AOp.loadPtr (cs := [.t (.leaf (.int .i64 (pp.gKind))), .t (.leaf (.string (pp.gName))), .t (.row 3 (GType.trs (pp.gArgs)))]) rfl rfl rfl rfl sh47 rfl rfl) ?_; refine AL.cons rfl (AOp.buildSliceE (es := [GType.cs pp]) (es' := GType.trs (([pp] : List GType))) (cs := [.t (.leaf (.int .i64 (pp.gKind))), .t (.leaf (.string (pp.gName))), .t (.row 3 (GType.trs (pp.gArgs)))]) rfl rfl el45 zr47 rfl rfl leA rfl (by simp [GType.cs]) (by decide) rfl (by decide) (by simp [GType.trs_map, GType.tr_cs])) ?_; refine AL.cons rfl (AOp.loadPtr (cs := [.t (.leaf (.int .i64 (pt.gKind))), .t (.leaf (.string (pt.gName))), .t (.row 3 (GType.trs (pt.gArgs)))]) rfl rfl rfl rfl sh47 rfl rfl) ?_; refine AL.cons rfl (AOp.buildSliceE (es := [GType.cs pt]) (es' := GType.trs (([pt] : List GType))) (cs := [.t (.leaf (.int .i64 (pt.gKind))), .t (.leaf (.string (pt.gName))), .t (.row 3 (GType.trs (pt.gArgs)))]) rfl rfl el45 zr47 rfl rfl leA rfl (by simp [GType.cs]) (by decide) rfl (by decide) (by simp [GType.trs_map, GType.tr_cs])) ?_
  rcases hq1 : sMatchAll_M fu ([pp] : List GType) ([pt] : List GType) with _ | ⟨x2, x3⟩
  · have e4 : sMatch_M fu pp pt = none := bdN hq1
    exact none_some H e4
  · refine AL.cons rfl (AOp.callF (res := .tup [.t (.row 4 (GBinding.trs (x2))), .t (.leaf (.bool (x3)))]) (ps := [_, _]) rfl rfl Tryz.func156 (by kernel_rfl) rfl rfl leA rfl rfl (sMatchAll_ok fu ([pp] : List GType) ([pt] : List GType) _ hq1)) ?_; refine AL.cons rfl (AOp.extract rfl rfl rfl rfl) ?_; refine AL.cons rfl (AOp.extract rfl rfl rfl rfl) ?_; refine AL.cons rfl (AOp.move (.inr rfl) rfl rfl) ?_; refine AL.cons rfl (AOp.move (.inr rfl) rfl rfl) ?_; refine AL.nil ?_; refine AWP.ret ?_
    have e5 : sMatch_M fu pp pt = some (x2, x3) := bdS hq1 (rfl)
    have hz : (x2, x3) = r := Option.some.inj (e5.symm.trans H)
    subst hz
    exact Ends.mk (ps := [_, _]) (by first | exact .inr rfl | exact .inl rfl) ⟨rfl, rfl, trivial⟩ rfl (StLe.mk' (st' := ⟨[], []⟩) trivial rfl) (keeps_nil hC) (q := (.tup [.t (.row 4 (GBinding.trs (x2))), .t (.leaf (.bool (x3)))] : PV)) leA rfl ⟨rfl, rfl⟩

noncomputable def iLookup_F1 (fu : Nat) (plist : List GBinding) (pv : ByteArray) : Nat → Unit → Option (LR Unit (GType × Bool)) :=
 fun i2 _ => sw (decide ((atD plist i2).gVar = pv))
 (gd (Tr.bulkL (GType.tr ((atD plist i2).gType)) ≤ 68719476735)
 (some (.ret (((atD plist i2).gType), true))))
 (some (.next ()))
noncomputable def iLookup_R1 (fu : Nat) (plist : List GBinding) (pv : ByteArray) : Option ((GType × Bool) ⊕ Unit) :=
 loopN (iLookup_F1 fu plist pv) (plist.length - 0) 0 ()
noncomputable def iLookup_M (fu : Nat)  (plist : List GBinding) (pv : ByteArray) : Option (GType × Bool) :=
 so (iLookup_R1 fu plist pv) (fun _ =>
 some ((GType.mk 0 (⟨#[]⟩) []), false))
set_option maxRecDepth 100000 in
set_option maxHeartbeats 4000000 in
theorem iLookup_ok  (fu : Nat)  (plist : List GBinding) (pv : ByteArray) (r : GType × Bool) (H : iLookup_M fu plist pv = some r) : AFun Tryz.prog 160 [.t (.row 4 (GBinding.trs (plist))), .t (.leaf (.string (pv)))] (.tup [(GType.pv r.1), .t (.leaf (.bool (r.2)))] : PV) := by
  refine ACalls.intro Tryz.func160 rfl (by first | decide | (simp; done) | (simp; decide)) ?_; intro C hC
  refine AWP.fact (lk_lenN 0 rfl rfl (GBinding.trs_len _)) (fun hl1 => ?_)
  refine AWP.seq ?_; refine AWP.region_lit ?_; refine AL.cons rfl (AOp.alloc rfl rfl zr47) ?_; refine AL.cons rfl (AOp.move (.inr rfl) rfl rfl) ?_; refine AL.nil ?_; refine AWP.seq ?_; refine AWP.seq ?_; refine AWP.region_lit ?_; refine AL.cons rfl (AOp.move (.inl rfl) rfl rfl) ?_; refine AL.cons rfl (AOp.lenN rfl rfl rfl rfl el138 (GBinding.trs_len _)) ?_; refine AL.cons rfl (AOp.move (.inl rfl) rfl rfl) ?_; refine AL.nil ?_; refine AWP.cut (ι := Unit) (fun _ => iLookup_R1 fu plist pv = some (.inr ())) (fun _ => ⟨[(4, .ptr 0 0), (5, .t (.leaf (.bool (false))))], ⟨[some ⟨47, [.t (.leaf (.int .i64 (0))), .t (.leaf (.string (⟨#[]⟩))), .nil]⟩], []⟩⟩) (by repeat' (first | exact qcEnds | exact ncAWP | exact ncRound | exact ncEx | apply qcThen | apply qcBlock | apply qcCut)) ?_ ?_
  · refine AWP.block ?_; refine AWP.loopR (ι := Nat × Unit) (fun (i2, _) => iLookup_R1 fu plist pv = loopN (iLookup_F1 fu plist pv) (plist.length - i2) i2 ()) (fun (i2, _) => ⟨[(1, .t (.leaf (.string (pv)))), (4, .ptr 0 0), (5, .t (.leaf (.bool (false)))), (8, .t (.row 4 (GBinding.trs (plist)))), (9, .t (.leaf (.int .i64 (((plist.length : Nat) : Int))))), (10, .t (.leaf (.int .i64 (((i2 : Nat) : Int)))))], ⟨[some ⟨47, [.t (.leaf (.int .i64 (0))), .t (.leaf (.string (⟨#[]⟩))), .nil]⟩], []⟩⟩) (fun (i2, _) => plist.length - i2) (0, ()) ?_ ?_ ?_
    · exact rfl
    · exact Wk.mk (StLe.mk' ⟨⟨rfl, leA, rfl⟩, trivial⟩ rfl) (keeps_nil hC) ⟨⟨_, rfl, .refl _, rfl⟩, ⟨⟨_, rfl, .refl _, rfl⟩, ⟨⟨_, rfl, .refl _, rfl⟩, ⟨⟨_, rfl, .refl _, rfl⟩, ⟨⟨_, rfl, .refl _, rfl⟩, ⟨⟨_, rfl, leA, rfl⟩, trivial⟩⟩⟩⟩⟩⟩
    · rintro ⟨i2, ⟨⟩⟩ hJ3
      refine AWP.seq ?_; refine AWP.region_lit ?_; refine AL.cons rfl (AOp.lss rfl rfl rfl rfl) ?_; refine AL.nil ?_; refine AWP.seq ?_; refine AWP.cond rfl (fun h4 => ?_) (fun h4 => ?_)
      · have h4l : i2 < plist.length := nat_lt_of2 h4
        have h4n := nat_lt_of h4
        refine AWP.skip ?_; refine AWP.seq ?_; refine AWP.block ?_; refine AWP.seq ?_; refine AWP.region_lit ?_; refine AL.cons rfl (AOp.index (k := i2) rfl rfl rfl rfl rfl (GBinding.trs_at h4n) el138) ?_; refine AL.cons rfl (AOp.loadEptr (ds := [.leaf (.string ((atD plist i2).gVar)), .leaf (.int .i64 ((atD plist i2).gType.gKind)), .leaf (.string ((atD plist i2).gType.gName)), .row 3 (GType.trs ((atD plist i2).gType.gArgs))]) rfl rfl rfl sh225 rfl rfl) ?_; refine AL.cons rfl (AOp.alloc rfl rfl zr225) ?_; refine AL.cons rfl (AOp.storePtr (cs := [.t (.leaf (.string ((atD plist i2).gVar))), .t (.leaf (.int .i64 ((atD plist i2).gType.gKind))), .t (.leaf (.string ((atD plist i2).gType.gName))), .t (.row 3 (GType.trs ((atD plist i2).gType.gArgs)))]) (ds := [.t (.leaf (.string ((atD plist i2).gVar))), .t (.leaf (.int .i64 ((atD plist i2).gType.gKind))), .t (.leaf (.string ((atD plist i2).gType.gName))), .t (.row 3 (GType.trs ((atD plist i2).gType.gArgs)))]) rfl rfl rfl rfl rfl rfl rfl sz225 (Nat.le_of_ble_eq_true rfl) rfl) ?_; refine AL.nil ?_; refine AWP.seq ?_; refine AWP.region_lit ?_; refine AL.cons rfl (AOp.fieldPtr (k := 1) (d := 0) (e := 0) rfl rfl rfl fo225_0) ?_; refine AL.cons rfl (AOp.loadPtr1 rfl rfl rfl rfl sh9 rfl) ?_; refine AL.cons rfl (AOp.move (.inl rfl) rfl rfl) ?_; refine AL.cons rfl (AOp.eqlS rfl rfl rfl rfl) ?_; refine AL.nil ?_; refine AWP.cond rfl (fun h5 => ?_) (fun h5 => ?_)
        · refine AWP.seq ?_; refine AWP.region_lit ?_; refine AL.cons rfl (AOp.fieldPtr (k := 1) (d := 0) (e := 1) rfl rfl rfl fo225_1) ?_; refine AL.cons rfl (AOp.loadPtr (cs := [.t (.leaf (.int .i64 (((atD plist i2).gType).gKind))), .t (.leaf (.string (((atD plist i2).gType).gName))), .t (.row 3 (GType.trs (((atD plist i2).gType).gArgs)))]) rfl rfl rfl rfl sh47 rfl rfl) ?_
          rcases Classical.em (Tr.bulkL (GType.tr ((atD plist i2).gType)) ≤ 68719476735) with hg6 | hg6
          · refine AL.cons rfl (AOp.callF (res := (GType.pv ((atD plist i2).gType))) (ps := [_]) rfl rfl Tryz.func111 (by kernel_rfl) rfl rfl leA rfl rfl (icopyType_fn ((atD plist i2).gType) hg6)) ?_; refine AL.cons rfl (AOp.storePtr (cs := [.t (.leaf (.int .i64 (((atD plist i2).gType).gKind))), .t (.leaf (.string (((atD plist i2).gType).gName))), .t (.row 3 (GType.trs (((atD plist i2).gType).gArgs)))]) (ds := [.t (.leaf (.int .i64 (((atD plist i2).gType).gKind))), .t (.leaf (.string (((atD plist i2).gType).gName))), .t (.row 3 (GType.trs (((atD plist i2).gType).gArgs)))]) rfl rfl rfl rfl rfl rfl rfl sz47 (Nat.le_of_ble_eq_true rfl) rfl) ?_; refine AL.cons rfl (AOp.move (.inr rfl) rfl rfl) ?_; refine AL.nil ?_; refine AWP.ret ?_
            have e7 : (iLookup_F1 fu plist pv) i2 () = some (.ret (((atD plist i2).gType), true)) := swT h5 (gdT hg6 (rfl))
            have e8 : iLookup_R1 fu plist pv = some (.inl (((atD plist i2).gType), true)) := loopN_ret h4l hJ3 e7
            have e9 : iLookup_M fu plist pv = some (((atD plist i2).gType), true) := soL e8
            have hz : (((atD plist i2).gType), true) = r := Option.some.inj (e9.symm.trans H)
            subst hz
            exact Ends.mk (ps := [_, _]) (by first | exact .inr rfl | exact .inl rfl) ⟨⟨_, _, _, rfl, rfl, sh47, rfl, rfl⟩, rfl, trivial⟩ rfl (StLe.mk' (st' := ⟨[], []⟩) trivial rfl) (keeps_nil hC) (q := (.tup [(GType.pv ((atD plist i2).gType)), .t (.leaf (.bool (true)))] : PV)) leA rfl ⟨rfl, rfl⟩
          · have e10 : (iLookup_F1 fu plist pv) i2 () = none := swT h5 (gdF hg6)
            have e11 : iLookup_R1 fu plist pv = none := loopN_non h4l hJ3 e10
            have e12 : iLookup_M fu plist pv = none := soN e11
            exact none_some H e12
        · refine AWP.skip ?_; refine AWP.region_lit ?_; refine AL.cons rfl (AOp.addI rfl rfl rfl rfl (c := ((i2 + 1 : Nat) : Int)) (by omega) (by omega)) ?_; refine AL.cons rfl (AOp.move (.inl rfl) rfl rfl) ?_; refine AL.nil ?_
          have e13 : (iLookup_F1 fu plist pv) i2 () = some (.next ()) := swF h5 (rfl)
          refine ⟨(i2 + 1, ()), loopN_next h4l hJ3 e13, ?_, ?_⟩
          · exact Wk.mk (StLe.mk' ⟨⟨rfl, leA, rfl⟩, trivial⟩ rfl) (keeps_nil hC) ⟨⟨_, rfl, .refl _, rfl⟩, ⟨⟨_, rfl, .refl _, rfl⟩, ⟨⟨_, rfl, .refl _, rfl⟩, ⟨⟨_, rfl, .refl _, rfl⟩, ⟨⟨_, rfl, .refl _, rfl⟩, ⟨⟨_, rfl, leA, rfl⟩, trivial⟩⟩⟩⟩⟩⟩
          · dsimp only; omega
      · have h4l : plist.length ≤ i2 := nat_ge_of2 h4
        refine AWP.exit ?_; refine ⟨(), loopN_end h4l hJ3, ?_⟩
        exact Wk.mk (StLe.mk' ⟨⟨rfl, leA, rfl⟩, trivial⟩ rfl) (keeps_nil hC) ⟨⟨_, rfl, .refl _, rfl⟩, ⟨⟨_, rfl, .refl _, rfl⟩, trivial⟩⟩
  · rintro ⟨⟩ hR14
    refine AWP.seq ?_; refine AWP.region_lit ?_; refine AL.cons rfl (AOp.build rfl rfl zr47 pl47 rfl rfl) ?_; refine AL.cons rfl (AOp.storePtr (cs := [.t (.leaf (.int .i64 (0))), .t (.leaf (.string (⟨#[]⟩))), .nil]) (ds := [.t (.leaf (.int .i64 (0))), .t (.leaf (.string (⟨#[]⟩))), .nil]) rfl rfl rfl rfl rfl rfl rfl sz47 (Nat.le_of_ble_eq_true rfl) rfl) ?_; refine AL.cons rfl (AOp.move (.inr rfl) rfl rfl) ?_; refine AL.nil ?_; refine AWP.ret ?_
    have e15 : iLookup_M fu plist pv = some ((GType.mk 0 (⟨#[]⟩) []), false) := soR hR14 (rfl)
    have hz : ((GType.mk 0 (⟨#[]⟩) []), false) = r := Option.some.inj (e15.symm.trans H)
    subst hz
    exact Ends.mk (ps := [_, _]) (by first | exact .inr rfl | exact .inl rfl) ⟨⟨_, _, _, rfl, rfl, sh47, rfl, rfl⟩, rfl, trivial⟩ rfl (StLe.mk' (st' := ⟨[], []⟩) trivial rfl) (keeps_nil hC) (q := (.tup [(GType.pv (GType.mk 0 (⟨#[]⟩) [])), .t (.leaf (.bool (false)))] : PV)) leA rfl ⟨rfl, rfl⟩

noncomputable def imatchAll_F1 (fu : Nat) (r_imatchAll : (List GBinding) → (List GType) → (List GType) → Option ((List GBinding) × Bool × (List GBinding))) (r_imatch : (List GBinding) → GType → GType → Option ((List GBinding) × Bool × (List GBinding))) (ps : List GBinding) (pp : List GType) (pall : List GType) : Nat → ((List GBinding)) → Option (LR ((List GBinding)) ((List GBinding) × Bool × (List GBinding))) :=
 fun i6 v8 => gd (i6 < (pall).length)
 (bd (r_imatch v8 (atD pp i6) (atD pall i6)) (fun (x13, x14, x15) =>
 sw (x14)
 (gd (x13 = x15)
 (some (.next x13)))
 (some (.ret ([], false, x15)))))
noncomputable def imatchAll_R1 (fu : Nat) (r_imatchAll : (List GBinding) → (List GType) → (List GType) → Option ((List GBinding) × Bool × (List GBinding))) (r_imatch : (List GBinding) → GType → GType → Option ((List GBinding) × Bool × (List GBinding))) (ps : List GBinding) (pp : List GType) (pall : List GType) : Option (((List GBinding) × Bool × (List GBinding)) ⊕ ((List GBinding))) :=
 loopN (imatchAll_F1 fu r_imatchAll r_imatch ps pp pall) (pp.length - 0) 0 ps
noncomputable def imatchAll_G (fu : Nat) (r_imatchAll : (List GBinding) → (List GType) → (List GType) → Option ((List GBinding) × Bool × (List GBinding))) (r_imatch : (List GBinding) → GType → GType → Option ((List GBinding) × Bool × (List GBinding))) (ps : List GBinding) (pp : List GType) (pall : List GType) : Option ((List GBinding) × Bool × (List GBinding)) :=
 sw (!decide ((((pp.length : Nat) : Int) : Int) = ((pall.length : Nat) : Int)))
 (some ([], false, ps))
 (so (imatchAll_R1 fu r_imatchAll r_imatch ps pp pall) (fun v8 =>
 some (v8, true, v8)))
set_option maxRecDepth 100000 in
set_option maxHeartbeats 4000000 in
theorem imatchAll_step (r_imatchAll : (List GBinding) → (List GType) → (List GType) → Option ((List GBinding) × Bool × (List GBinding))) (r_imatch : (List GBinding) → GType → GType → Option ((List GBinding) × Bool × (List GBinding))) (fu : Nat) (h_imatchAll : ∀ (ps : List GBinding) (pp : List GType) (pall : List GType) (r : (List GBinding) × Bool × (List GBinding)), r_imatchAll ps pp pall = some r → ACalls Tryz.prog 159 [.acc 4 (GBinding.trs (ps)) 0, .t (.row 3 (GType.trs (pp))), .t (.row 3 (GType.trs (pall)))] ⟨[], [⟨225, 4, GBinding.trs (ps), false⟩]⟩ (fun q t => q = (.tup [(bif r.2.1 then .acc 4 (GBinding.trs (r.1)) 0 else .t (.row 4 (GBinding.trs (r.1)))), .t (.leaf (.bool (r.2.1)))] : PV) ∧ t = ⟨[], [⟨225, 4, GBinding.trs (r.2.2), false⟩]⟩)) (h_imatch : ∀ (ps : List GBinding) (pp : GType) (pt : GType) (r : (List GBinding) × Bool × (List GBinding)), r_imatch ps pp pt = some r → ACalls Tryz.prog 200 [.acc 4 (GBinding.trs (ps)) 0, (GType.pv pp), (GType.pv pt)] ⟨[], [⟨225, 4, GBinding.trs (ps), false⟩]⟩ (fun q t => q = (.tup [(bif r.2.1 then .acc 4 (GBinding.trs (r.1)) 0 else .t (.row 4 (GBinding.trs (r.1)))), .t (.leaf (.bool (r.2.1)))] : PV) ∧ t = ⟨[], [⟨225, 4, GBinding.trs (r.2.2), false⟩]⟩)) (ps : List GBinding) (pp : List GType) (pall : List GType) (r : (List GBinding) × Bool × (List GBinding)) (H : imatchAll_G fu r_imatchAll r_imatch ps pp pall = some r) : ACalls Tryz.prog 159 [.acc 4 (GBinding.trs (ps)) 0, .t (.row 3 (GType.trs (pp))), .t (.row 3 (GType.trs (pall)))] ⟨[], [⟨225, 4, GBinding.trs (ps), false⟩]⟩ (fun q t => q = (.tup [(bif r.2.1 then .acc 4 (GBinding.trs (r.1)) 0 else .t (.row 4 (GBinding.trs (r.1)))), .t (.leaf (.bool (r.2.1)))] : PV) ∧ t = ⟨[], [⟨225, 4, GBinding.trs (r.2.2), false⟩]⟩) := by
  refine ACalls.intro Tryz.func159 rfl (by first | decide | (simp; done) | (simp; decide)) ?_; intro C hC
  refine AWP.fact (lk_lenN 0 rfl rfl (GBinding.trs_len _)) (fun hl1 => ?_)
  refine AWP.fact (lk_lenN 1 rfl rfl (GType.trs_len _)) (fun hl2 => ?_)
  refine AWP.fact (lk_lenN 2 rfl rfl (GType.trs_len _)) (fun hl3 => ?_)
  refine AWP.seq ?_; refine AWP.region_lit ?_; refine AL.cons rfl (AOp.move (.inr rfl) rfl rfl) ?_; refine AL.cons rfl (AOp.move (.inr rfl) rfl rfl) ?_; refine AL.nil ?_; refine AWP.seq ?_; refine AWP.seq ?_; refine AWP.region_lit ?_; refine AL.cons rfl (AOp.move (.inl rfl) rfl rfl) ?_; refine AL.cons rfl (AOp.lenN rfl rfl rfl rfl el45 (GType.trs_len _)) ?_; refine AL.cons rfl (AOp.move (.inl rfl) rfl rfl) ?_; refine AL.cons rfl (AOp.lenN rfl rfl rfl rfl el45 (GType.trs_len _)) ?_; refine AL.cons rfl (AOp.neqI rfl rfl rfl rfl) ?_; refine AL.nil ?_; refine AWP.cond rfl (fun h4 => ?_) (fun h4 => ?_)
  · refine AWP.seq ?_; refine AWP.region_lit ?_; refine AL.cons rfl (AOp.move (.inr rfl) rfl rfl) ?_; refine AL.cons rfl (AOp.move (.inr rfl) rfl rfl) ?_; refine AL.nil ?_; refine AWP.ret ?_
    have e5 : imatchAll_G fu r_imatchAll r_imatch ps pp pall = some ([], false, ps) := swT h4 (rfl)
    have hz : ([], false, ps) = r := Option.some.inj (e5.symm.trans H)
    subst hz
    exact Ends.mk (ps := [_, _]) (by first | exact .inr rfl | exact .inl rfl) ⟨rfl, rfl, trivial⟩ rfl (StLe.mk' (st' := ⟨[], [⟨225, 4, GBinding.trs (ps), false⟩]⟩) trivial (by first | rfl | simp)) (keeps_all hC (boxes0) (Nat.le_of_ble_eq_true rfl)) (q := (.tup [(bif false then .acc 4 (GBinding.trs ([])) 0 else .t (.row 4 (GBinding.trs ([])))), .t (.leaf (.bool (false)))] : PV)) leA rfl ⟨rfl, rfl⟩
  · refine AWP.skip ?_; refine AWP.seq ?_; refine AWP.seq ?_; refine AWP.region_lit ?_; refine AL.cons rfl (AOp.move (.inl rfl) rfl rfl) ?_; refine AL.cons rfl (AOp.lenN rfl rfl rfl rfl el45 (GType.trs_len _)) ?_; refine AL.cons rfl (AOp.move (.inl rfl) rfl rfl) ?_; refine AL.nil ?_; refine AWP.cut (ι := (List GBinding)) (fun v8 => imatchAll_R1 fu r_imatchAll r_imatch ps pp pall = some (.inr v8)) (fun v8 => ⟨[(0, .acc 4 (GBinding.trs (v8)) 0), (6, .nil), (7, .t (.leaf (.bool (false))))], ⟨[], [⟨225, 4, GBinding.trs (v8), false⟩]⟩⟩) (by repeat' (first | exact qcEnds | exact ncAWP | exact ncRound | exact ncEx | apply qcThen | apply qcBlock | apply qcCut)) ?_ ?_
    · refine AWP.block ?_; refine AWP.loopR (ι := Nat × ((List GBinding))) (fun (i6, v8) => imatchAll_R1 fu r_imatchAll r_imatch ps pp pall = loopN (imatchAll_F1 fu r_imatchAll r_imatch ps pp pall) (pp.length - i6) i6 v8) (fun (i6, v8) => ⟨[(0, .acc 4 (GBinding.trs (v8)) 0), (1, .t (.row 3 (GType.trs (pp)))), (2, .t (.row 3 (GType.trs (pall)))), (6, .nil), (7, .t (.leaf (.bool (false)))), (17, .t (.leaf (.int .i64 (((pp.length : Nat) : Int))))), (18, .t (.leaf (.int .i64 (((i6 : Nat) : Int)))))], ⟨[], [⟨225, 4, GBinding.trs (v8), false⟩]⟩⟩) (fun (i6, v8) => pp.length - i6) (0, ps) ?_ ?_ ?_
      · exact rfl
      · exact Wk.mk (StLe.mk' trivial (by first | rfl | simp)) (keeps_all hC (boxes0) (Nat.le_of_ble_eq_true rfl)) ⟨⟨_, rfl, leA, rfl⟩, ⟨⟨_, rfl, .refl _, rfl⟩, ⟨⟨_, rfl, .refl _, rfl⟩, ⟨⟨_, rfl, .refl _, rfl⟩, ⟨⟨_, rfl, .refl _, rfl⟩, ⟨⟨_, rfl, .refl _, rfl⟩, ⟨⟨_, rfl, leA, rfl⟩, trivial⟩⟩⟩⟩⟩⟩⟩
      · rintro ⟨i6, v8⟩ hJ9
        refine AWP.seq ?_; refine AWP.region_lit ?_; refine AL.cons rfl (AOp.lss rfl rfl rfl rfl) ?_; refine AL.nil ?_; refine AWP.seq ?_; refine AWP.cond rfl (fun h10 => ?_) (fun h10 => ?_)
        · have h10l : i6 < pp.length := nat_lt_of2 h10
          have h10n := nat_lt_of h10
          refine AWP.skip ?_; refine AWP.seq ?_; refine AWP.block ?_; refine AWP.seq ?_; refine AWP.region_lit ?_; refine AL.cons rfl (AOp.move (.inl rfl) rfl rfl) ?_; refine AL.cons rfl (AOp.move (.inr rfl) rfl rfl) ?_; refine AL.nil ?_; refine AWP.seq ?_
          rcases Classical.em (i6 < (pall).length) with hg11 | hg11
          · rcases hq12 : r_imatch v8 (atD pp i6) (atD pall i6) with _ | ⟨x13, x14, x15⟩
            · have e16 : (imatchAll_F1 fu r_imatchAll r_imatch ps pp pall) i6 v8 = none := gdT hg11 (bdN hq12)
              have e17 : imatchAll_R1 fu r_imatchAll r_imatch ps pp pall = none := loopN_non h10l hJ9 e16
              have e18 : imatchAll_G fu r_imatchAll r_imatch ps pp pall = none := swF h4 (soN e17)
              exact none_some H e18
            · cases x14
              · refine AWP.drawnL ⟨_, _, fun j' _ => ([(⟨[], [⟨225, 4, GBinding.trs (v8), false⟩]⟩ : Sto), (⟨[], [⟨225, 4, GBinding.trs (x15), false⟩]⟩ : Sto)] : List Sto).getD j' (⟨[], [⟨225, 4, GBinding.trs (x15), false⟩]⟩ : Sto), fun q' => ([some (.acc 4 (GBinding.trs (v8)) 0), some (.t (.row 3 (GType.trs (pp)))), some (.t (.leaf (.int .i64 (((i6 : Nat) : Int))))), some (.eptr (GType.cs (atD pp i6))), some ((GType.pv (atD pp i6))), some (.t (.row 3 (GType.trs (pall)))), some (.t (.leaf (.int .i64 (((i6 : Nat) : Int))))), some (.eptr (GType.cs (atD pall i6))), some ((GType.pv (atD pall i6))), some (.tup [.t (.row 4 (GBinding.trs (x13))), .t (.leaf (.bool (false)))]), some (.tup [.t (.row 4 (GBinding.trs (x13))), .t (.leaf (.bool (false)))]), some (.t (.row 4 (GBinding.trs (x13)))), some (.t (.leaf (.bool (false)))), some (.t (.row 4 (GBinding.trs (x13)))), some (.t (.leaf (.bool (false))))] : List (Option PV)).getD q' none, fun q' => ([.q 0 0, .q 0 0, .q 0 0, .q 0 0, .q 0 0, .q 0 0, .q 0 0, .q 0 0, .q 0 0, .ef 0, .q 1 1, .q 1 1, .q 1 1, .q 1 1, .q 1 1] : List DK).getD q' (.q 0 0), [9], none, fun q' => ([[(0, none)], [(1, none)], [(8, none)], [(23, some 1), (24, some 2)], [(25, some 3)], [(2, none)], [(8, none)], [(27, some 5), (28, some 6)], [(29, some 7)], [(30, some 8), (26, some 4), (22, some 0)], [(31, some 9)], [(21, some 10)], [(21, some 10)], [(32, some 11)], [(33, some 12)]] : List (List (Nat × Option Nat))).getD q' []⟩ rfl mixed (by kernel_rfl) rfl rfl ⟨?_, ?_, ?_, ?_, ?_, ?_, ?_, ?_, ?_, ?_, ?_, ?_, ?_, ?_, ?_, trivial⟩ rfl ?_
                · exact Draw.step.q1 0 rfl rfl fun s' bb hs hl => ⟨_, rfl, AOp.move (.inl rfl) rfl (hl 0 none _ (.head _) rfl)⟩
                · exact Draw.step.q1 0 rfl rfl fun s' bb hs hl => ⟨_, rfl, AOp.move (.inl rfl) rfl (hl 1 none _ (.head _) rfl)⟩
                · exact Draw.step.q1 0 rfl rfl fun s' bb hs hl => ⟨_, rfl, AOp.move (.inl rfl) rfl (hl 8 none _ (.head _) rfl)⟩
                · exact Draw.step.q1 0 rfl rfl fun s' bb hs hl => ⟨_, rfl, AOp.index (k := i6) rfl rfl (hl 23 (some 1) _ (.head _) rfl) rfl (hl 24 (some 2) _ (.tail _ (.head _)) rfl) (GType.trs_at h10n) el45⟩
                · exact Draw.step.q1 0 rfl rfl fun s' bb hs hl => ⟨_, rfl, AOp.loadEptr (ds := [.leaf (.int .i64 ((atD pp i6).gKind)), .leaf (.string ((atD pp i6).gName)), .row 3 (GType.trs ((atD pp i6).gArgs))]) rfl rfl (hl 25 (some 3) _ (.head _) rfl) sh47 rfl rfl⟩
                · exact Draw.step.q1 0 rfl rfl fun s' bb hs hl => ⟨_, rfl, AOp.move (.inl rfl) rfl (hl 2 none _ (.head _) rfl)⟩
                · exact Draw.step.q1 0 rfl rfl fun s' bb hs hl => ⟨_, rfl, AOp.move (.inl rfl) rfl (hl 8 none _ (.head _) rfl)⟩
                · exact Draw.step.q1 0 rfl rfl fun s' bb hs hl => ⟨_, rfl, AOp.index (k := i6) rfl rfl (hl 27 (some 5) _ (.head _) rfl) rfl (hl 28 (some 6) _ (.tail _ (.head _)) rfl) (GType.trs_at hg11) el45⟩
                · exact Draw.step.q1 0 rfl rfl fun s' bb hs hl => ⟨_, rfl, AOp.loadEptr (ds := [.leaf (.int .i64 ((atD pall i6).gKind)), .leaf (.string ((atD pall i6).gName)), .row 3 (GType.trs ((atD pall i6).gArgs))]) rfl rfl (hl 29 (some 7) _ (.head _) rfl) sh47 rfl rfl⟩
                · refine .inl ⟨rfl, fun s' bb hs hl => ?_⟩
                  refine .inl ⟨_, rfl, AOp.congr (AOp.callPE (pre := ⟨[], [⟨225, 4, GBinding.trs (v8), false⟩]⟩) (st' := ⟨[], [⟨225, 4, GBinding.trs (x15), false⟩]⟩) (ps := [_, _, _]) (qs := [.acc 4 (GBinding.trs (v8)) 0, (GType.pv (atD pp i6)), (GType.pv (atD pall i6))]) [] [0] rfl rfl Tryz.func200 (by kernel_rfl) rfl (evs_cons (hl 22 (some 0) _ (.tail _ (.tail _ (.head _))) rfl) (evs_cons (hl 26 (some 4) _ (.tail _ (.head _)) rfl) (evs_cons (hl 30 (some 8) _ (.head _) rfl) rfl))) hs (by (try rw [hs]); exact Part0.of trivial ⟨rfl, trivial⟩ (by decide) (by decide)) leA rfl rfl rfl (h_imatch v8 (atD pp i6) (atD pall i6) _ hq12)) ?_⟩
                  first | (rw [hs]; rfl) | rfl
                · exact Draw.step.q1 1 rfl rfl fun s' bb hs hl => ⟨_, rfl, AOp.move (.inl rfl) rfl (hl 31 (some 9) _ (.head _) rfl)⟩
                · exact Draw.step.q1 1 rfl rfl fun s' bb hs hl => ⟨_, rfl, AOp.extract rfl rfl (hl 21 (some 10) _ (.head _) rfl) rfl⟩
                · exact Draw.step.q1 1 rfl rfl fun s' bb hs hl => ⟨_, rfl, AOp.extract rfl rfl (hl 21 (some 10) _ (.head _) rfl) rfl⟩
                · exact Draw.step.q1 1 rfl rfl fun s' bb hs hl => ⟨_, rfl, AOp.move (.inr rfl) rfl (hl 32 (some 11) _ (.head _) rfl)⟩
                · exact Draw.step.q1 1 rfl rfl fun s' bb hs hl => ⟨_, rfl, AOp.move (.inr rfl) rfl (hl 33 (some 12) _ (.head _) rfl)⟩
                refine AWP.seq ?_; refine AWP.seq ?_; refine AWP.region_lit ?_; refine AL.cons rfl (AOp.move (.inl rfl) rfl rfl) ?_; refine AL.cons rfl (AOp.notB rfl rfl rfl) ?_; refine AL.nil ?_; refine AWP.cond rfl (fun h19 => ?_) (fun h19 => ?_)
                · refine AWP.seq ?_; refine AWP.region_lit ?_; refine AL.cons rfl (AOp.move (.inr rfl) rfl rfl) ?_; refine AL.cons rfl (AOp.move (.inr rfl) rfl rfl) ?_; refine AL.nil ?_; refine AWP.ret ?_
                  have e20 : (imatchAll_F1 fu r_imatchAll r_imatch ps pp pall) i6 v8 = some (.ret ([], false, x15)) := gdT hg11 (bdS hq12 (swF rfl (rfl)))
                  have e21 : imatchAll_R1 fu r_imatchAll r_imatch ps pp pall = some (.inl ([], false, x15)) := loopN_ret h10l hJ9 e20
                  have e22 : imatchAll_G fu r_imatchAll r_imatch ps pp pall = some ([], false, x15) := swF h4 (soL e21)
                  have hz : ([], false, x15) = r := Option.some.inj (e22.symm.trans H)
                  subst hz
                  exact Ends.mk (ps := [_, _]) (by first | exact .inr rfl | exact .inl rfl) ⟨rfl, rfl, trivial⟩ rfl (StLe.mk' (st' := ⟨[], [⟨225, 4, GBinding.trs (x15), false⟩]⟩) trivial (by first | rfl | simp)) (keeps_all hC (boxes0) (Nat.le_of_ble_eq_true rfl)) (q := (.tup [(bif false then .acc 4 (GBinding.trs ([])) 0 else .t (.row 4 (GBinding.trs ([])))), .t (.leaf (.bool (false)))] : PV)) leA rfl ⟨rfl, rfl⟩
                · exact absurd (h19.symm.trans (congrArg (fun b => !b) (rfl : false = false))) (by decide)
              · rcases Classical.em (x13 = x15) with hg23 | hg23
                · have hg23c := hg23
                  subst hg23
                  refine AWP.drawnL ⟨_, _, fun j' _ => ([(⟨[], [⟨225, 4, GBinding.trs (v8), false⟩]⟩ : Sto), (⟨[], [⟨225, 4, GBinding.trs (x13), false⟩]⟩ : Sto)] : List Sto).getD j' (⟨[], [⟨225, 4, GBinding.trs (x13), false⟩]⟩ : Sto), fun q' => ([some (.acc 4 (GBinding.trs (v8)) 0), some (.t (.row 3 (GType.trs (pp)))), some (.t (.leaf (.int .i64 (((i6 : Nat) : Int))))), some (.eptr (GType.cs (atD pp i6))), some ((GType.pv (atD pp i6))), some (.t (.row 3 (GType.trs (pall)))), some (.t (.leaf (.int .i64 (((i6 : Nat) : Int))))), some (.eptr (GType.cs (atD pall i6))), some ((GType.pv (atD pall i6))), some (.tup [.acc 4 (GBinding.trs (x13)) 0, .t (.leaf (.bool (true)))]), some (.tup [.acc 4 (GBinding.trs (x13)) 0, .t (.leaf (.bool (true)))]), some (.acc 4 (GBinding.trs (x13)) 0), some (.t (.leaf (.bool (true)))), some (.acc 4 (GBinding.trs (x13)) 0), some (.t (.leaf (.bool (true))))] : List (Option PV)).getD q' none, fun q' => ([.q 0 0, .q 0 0, .q 0 0, .q 0 0, .q 0 0, .q 0 0, .q 0 0, .q 0 0, .q 0 0, .ef 0, .q 1 1, .q 1 1, .q 1 1, .q 1 1, .q 1 1] : List DK).getD q' (.q 0 0), [9], none, fun q' => ([[(0, none)], [(1, none)], [(8, none)], [(23, some 1), (24, some 2)], [(25, some 3)], [(2, none)], [(8, none)], [(27, some 5), (28, some 6)], [(29, some 7)], [(30, some 8), (26, some 4), (22, some 0)], [(31, some 9)], [(21, some 10)], [(21, some 10)], [(32, some 11)], [(33, some 12)]] : List (List (Nat × Option Nat))).getD q' []⟩ rfl mixed (by kernel_rfl) rfl rfl ⟨?_, ?_, ?_, ?_, ?_, ?_, ?_, ?_, ?_, ?_, ?_, ?_, ?_, ?_, ?_, trivial⟩ rfl ?_
                  · exact Draw.step.q1 0 rfl rfl fun s' bb hs hl => ⟨_, rfl, AOp.move (.inl rfl) rfl (hl 0 none _ (.head _) rfl)⟩
                  · exact Draw.step.q1 0 rfl rfl fun s' bb hs hl => ⟨_, rfl, AOp.move (.inl rfl) rfl (hl 1 none _ (.head _) rfl)⟩
                  · exact Draw.step.q1 0 rfl rfl fun s' bb hs hl => ⟨_, rfl, AOp.move (.inl rfl) rfl (hl 8 none _ (.head _) rfl)⟩
                  · exact Draw.step.q1 0 rfl rfl fun s' bb hs hl => ⟨_, rfl, AOp.index (k := i6) rfl rfl (hl 23 (some 1) _ (.head _) rfl) rfl (hl 24 (some 2) _ (.tail _ (.head _)) rfl) (GType.trs_at h10n) el45⟩
                  · exact Draw.step.q1 0 rfl rfl fun s' bb hs hl => ⟨_, rfl, AOp.loadEptr (ds := [.leaf (.int .i64 ((atD pp i6).gKind)), .leaf (.string ((atD pp i6).gName)), .row 3 (GType.trs ((atD pp i6).gArgs))]) rfl rfl (hl 25 (some 3) _ (.head _) rfl) sh47 rfl rfl⟩
                  · exact Draw.step.q1 0 rfl rfl fun s' bb hs hl => ⟨_, rfl, AOp.move (.inl rfl) rfl (hl 2 none _ (.head _) rfl)⟩
                  · exact Draw.step.q1 0 rfl rfl fun s' bb hs hl => ⟨_, rfl, AOp.move (.inl rfl) rfl (hl 8 none _ (.head _) rfl)⟩
                  · exact Draw.step.q1 0 rfl rfl fun s' bb hs hl => ⟨_, rfl, AOp.index (k := i6) rfl rfl (hl 27 (some 5) _ (.head _) rfl) rfl (hl 28 (some 6) _ (.tail _ (.head _)) rfl) (GType.trs_at hg11) el45⟩
                  · exact Draw.step.q1 0 rfl rfl fun s' bb hs hl => ⟨_, rfl, AOp.loadEptr (ds := [.leaf (.int .i64 ((atD pall i6).gKind)), .leaf (.string ((atD pall i6).gName)), .row 3 (GType.trs ((atD pall i6).gArgs))]) rfl rfl (hl 29 (some 7) _ (.head _) rfl) sh47 rfl rfl⟩
                  · refine .inl ⟨rfl, fun s' bb hs hl => ?_⟩
                    refine .inl ⟨_, rfl, AOp.congr (AOp.callPE (pre := ⟨[], [⟨225, 4, GBinding.trs (v8), false⟩]⟩) (st' := ⟨[], [⟨225, 4, GBinding.trs (x13), false⟩]⟩) (ps := [_, _, _]) (qs := [.acc 4 (GBinding.trs (v8)) 0, (GType.pv (atD pp i6)), (GType.pv (atD pall i6))]) [] [0] rfl rfl Tryz.func200 (by kernel_rfl) rfl (evs_cons (hl 22 (some 0) _ (.tail _ (.tail _ (.head _))) rfl) (evs_cons (hl 26 (some 4) _ (.tail _ (.head _)) rfl) (evs_cons (hl 30 (some 8) _ (.head _) rfl) rfl))) hs (by (try rw [hs]); exact Part0.of trivial ⟨rfl, trivial⟩ (by decide) (by decide)) leA rfl rfl rfl (h_imatch v8 (atD pp i6) (atD pall i6) _ hq12)) ?_⟩
                    first | (rw [hs]; rfl) | rfl
                  · exact Draw.step.q1 1 rfl rfl fun s' bb hs hl => ⟨_, rfl, AOp.move (.inl rfl) rfl (hl 31 (some 9) _ (.head _) rfl)⟩
                  · exact Draw.step.q1 1 rfl rfl fun s' bb hs hl => ⟨_, rfl, AOp.extract rfl rfl (hl 21 (some 10) _ (.head _) rfl) rfl⟩
                  · exact Draw.step.q1 1 rfl rfl fun s' bb hs hl => ⟨_, rfl, AOp.extract rfl rfl (hl 21 (some 10) _ (.head _) rfl) rfl⟩
                  · exact Draw.step.q1 1 rfl rfl fun s' bb hs hl => ⟨_, rfl, AOp.move (.inr rfl) rfl (hl 32 (some 11) _ (.head _) rfl)⟩
                  · exact Draw.step.q1 1 rfl rfl fun s' bb hs hl => ⟨_, rfl, AOp.move (.inr rfl) rfl (hl 33 (some 12) _ (.head _) rfl)⟩
                  refine AWP.seq ?_; refine AWP.seq ?_; refine AWP.region_lit ?_; refine AL.cons rfl (AOp.move (.inl rfl) rfl rfl) ?_; refine AL.cons rfl (AOp.notB rfl rfl rfl) ?_; refine AL.nil ?_; refine AWP.cond rfl (fun h24 => ?_) (fun h24 => ?_)
                  · exact absurd (h24.symm.trans (congrArg (fun b => !b) (rfl : true = true))) (by decide)
                  · refine AWP.skip ?_; refine AWP.region_lit ?_; refine AL.cons rfl (AOp.move (.inl rfl) rfl rfl) ?_; refine AL.cons rfl (AOp.move (.inr rfl) rfl rfl) ?_; refine AL.nil ?_; refine AWP.region_lit ?_; refine AL.cons rfl (AOp.addI rfl rfl rfl rfl (c := ((i6 + 1 : Nat) : Int)) (by omega) (by omega)) ?_; refine AL.cons rfl (AOp.move (.inl rfl) rfl rfl) ?_; refine AL.nil ?_
                    have e25 : (imatchAll_F1 fu r_imatchAll r_imatch ps pp pall) i6 v8 = some (.next x13) := gdT hg11 (bdS hq12 (swT rfl (gdT hg23c (rfl))))
                    refine ⟨(i6 + 1, x13), loopN_next h10l hJ9 e25, ?_, ?_⟩
                    · exact Wk.mk (StLe.mk' trivial (by first | rfl | simp)) (keeps_all hC (boxes0) (Nat.le_of_ble_eq_true rfl)) ⟨⟨_, rfl, leA, rfl⟩, ⟨⟨_, rfl, .refl _, rfl⟩, ⟨⟨_, rfl, .refl _, rfl⟩, ⟨⟨_, rfl, .refl _, rfl⟩, ⟨⟨_, rfl, .refl _, rfl⟩, ⟨⟨_, rfl, .refl _, rfl⟩, ⟨⟨_, rfl, leA, rfl⟩, trivial⟩⟩⟩⟩⟩⟩⟩
                    · dsimp only; omega
                · have e26 : (imatchAll_F1 fu r_imatchAll r_imatch ps pp pall) i6 v8 = none := gdT hg11 (bdS hq12 (swT rfl (gdF hg23)))
                  have e27 : imatchAll_R1 fu r_imatchAll r_imatch ps pp pall = none := loopN_non h10l hJ9 e26
                  have e28 : imatchAll_G fu r_imatchAll r_imatch ps pp pall = none := swF h4 (soN e27)
                  exact none_some H e28
          · have e29 : (imatchAll_F1 fu r_imatchAll r_imatch ps pp pall) i6 v8 = none := gdF hg11
            have e30 : imatchAll_R1 fu r_imatchAll r_imatch ps pp pall = none := loopN_non h10l hJ9 e29
            have e31 : imatchAll_G fu r_imatchAll r_imatch ps pp pall = none := swF h4 (soN e30)
            exact none_some H e31
        · have h10l : pp.length ≤ i6 := nat_ge_of2 h10
          refine AWP.exit ?_; refine ⟨v8, loopN_end h10l hJ9, ?_⟩
          exact Wk.mk (StLe.mk' trivial (by first | rfl | simp)) (keeps_all hC (boxes0) (Nat.le_of_ble_eq_true rfl)) ⟨⟨_, rfl, .refl _, rfl⟩, ⟨⟨_, rfl, .refl _, rfl⟩, ⟨⟨_, rfl, .refl _, rfl⟩, trivial⟩⟩⟩
    · rintro v8 hR32
      refine AWP.seq ?_; refine AWP.region_lit ?_; refine AL.cons rfl (AOp.move (.inl rfl) rfl rfl) ?_; refine AL.cons rfl (AOp.move (.inr rfl) rfl rfl) ?_; refine AL.cons rfl (AOp.move (.inr rfl) rfl rfl) ?_; refine AL.nil ?_; refine AWP.ret ?_
      have e33 : imatchAll_G fu r_imatchAll r_imatch ps pp pall = some (v8, true, v8) := swF h4 (soR hR32 (rfl))
      have hz : (v8, true, v8) = r := Option.some.inj (e33.symm.trans H)
      subst hz
      exact Ends.mk (ps := [_, _]) (by first | exact .inr rfl | exact .inl rfl) ⟨rfl, rfl, trivial⟩ rfl (StLe.mk' (st' := ⟨[], [⟨225, 4, GBinding.trs (v8), false⟩]⟩) trivial (by first | rfl | simp)) (keeps_all hC (boxes0) (Nat.le_of_ble_eq_true rfl)) (q := (.tup [(bif true then .acc 4 (GBinding.trs (v8)) 0 else .t (.row 4 (GBinding.trs (v8)))), .t (.leaf (.bool (true)))] : PV)) leA rfl ⟨rfl, rfl⟩
noncomputable def imatch_G (fu : Nat) (r_imatchAll : (List GBinding) → (List GType) → (List GType) → Option ((List GBinding) × Bool × (List GBinding))) (r_imatch : (List GBinding) → GType → GType → Option ((List GBinding) × Bool × (List GBinding))) (ps : List GBinding) (pp : GType) (pt : GType) : Option ((List GBinding) × Bool × (List GBinding)) :=
 sw (decide ((pp.gKind : Int) = 1))
 (bd (iLookup_M fu ps pp.gName) (fun (x4, x5) =>
 sw (x5)
 (sw (GType.eq x4 pt)
 (some (ps, (GType.eq x4 pt), ps))
 (some (ps, (GType.eq x4 pt), ps)))
 (gd (Tr.bulkL (GType.tr pt) ≤ 68719476735)
 (gd ((ps).length + (([(GBinding.mk pp.gName pt)] : List GBinding)).length ≤ 68719476736)
 (some ((ps ++ ([(GBinding.mk pp.gName pt)] : List GBinding)), true, (ps ++ ([(GBinding.mk pp.gName pt)] : List GBinding))))))))
 (sw (!decide ((pp.gKind : Int) = pt.gKind))
 (some ([], false, ps))
 (sw (!decide (pp.gName = pt.gName))
 (some ([], false, ps))
 (bd (r_imatchAll ps pp.gArgs pt.gArgs) (fun (x24, x25, x26) =>
 sw (x25)
 (gd (x24 = x26)
 (some (x24, true, x24)))
 (some (x24, false, x26))))))
set_option maxRecDepth 100000 in
set_option maxHeartbeats 4000000 in
theorem imatch_step (r_imatchAll : (List GBinding) → (List GType) → (List GType) → Option ((List GBinding) × Bool × (List GBinding))) (r_imatch : (List GBinding) → GType → GType → Option ((List GBinding) × Bool × (List GBinding))) (fu : Nat) (h_imatchAll : ∀ (ps : List GBinding) (pp : List GType) (pall : List GType) (r : (List GBinding) × Bool × (List GBinding)), r_imatchAll ps pp pall = some r → ACalls Tryz.prog 159 [.acc 4 (GBinding.trs (ps)) 0, .t (.row 3 (GType.trs (pp))), .t (.row 3 (GType.trs (pall)))] ⟨[], [⟨225, 4, GBinding.trs (ps), false⟩]⟩ (fun q t => q = (.tup [(bif r.2.1 then .acc 4 (GBinding.trs (r.1)) 0 else .t (.row 4 (GBinding.trs (r.1)))), .t (.leaf (.bool (r.2.1)))] : PV) ∧ t = ⟨[], [⟨225, 4, GBinding.trs (r.2.2), false⟩]⟩)) (h_imatch : ∀ (ps : List GBinding) (pp : GType) (pt : GType) (r : (List GBinding) × Bool × (List GBinding)), r_imatch ps pp pt = some r → ACalls Tryz.prog 200 [.acc 4 (GBinding.trs (ps)) 0, (GType.pv pp), (GType.pv pt)] ⟨[], [⟨225, 4, GBinding.trs (ps), false⟩]⟩ (fun q t => q = (.tup [(bif r.2.1 then .acc 4 (GBinding.trs (r.1)) 0 else .t (.row 4 (GBinding.trs (r.1)))), .t (.leaf (.bool (r.2.1)))] : PV) ∧ t = ⟨[], [⟨225, 4, GBinding.trs (r.2.2), false⟩]⟩)) (ps : List GBinding) (pp : GType) (pt : GType) (r : (List GBinding) × Bool × (List GBinding)) (H : imatch_G fu r_imatchAll r_imatch ps pp pt = some r) : ACalls Tryz.prog 200 [.acc 4 (GBinding.trs (ps)) 0, (GType.pv pp), (GType.pv pt)] ⟨[], [⟨225, 4, GBinding.trs (ps), false⟩]⟩ (fun q t => q = (.tup [(bif r.2.1 then .acc 4 (GBinding.trs (r.1)) 0 else .t (.row 4 (GBinding.trs (r.1)))), .t (.leaf (.bool (r.2.1)))] : PV) ∧ t = ⟨[], [⟨225, 4, GBinding.trs (r.2.2), false⟩]⟩) := by
  refine ACalls.intro Tryz.func200 rfl (by first | decide | (simp; done) | (simp; decide)) ?_; intro C hC
  refine AWP.fact (lk_lenN 0 rfl rfl (GBinding.trs_len _)) (fun hl1 => ?_)
  refine AWP.seq ?_; refine AWP.region_lit ?_; refine AL.cons rfl (AOp.box (cs := [.t (.leaf (.int .i64 (pp.gKind))), .t (.leaf (.string (pp.gName))), .t (.row 3 (GType.trs (pp.gArgs)))]) rfl rfl rfl rfl rfl) ?_; refine AL.cons rfl (AOp.box (cs := [.t (.leaf (.int .i64 (pt.gKind))), .t (.leaf (.string (pt.gName))), .t (.row 3 (GType.trs (pt.gArgs)))]) rfl rfl rfl rfl rfl) ?_; refine AL.cons rfl (AOp.move (.inr rfl) rfl rfl) ?_; refine AL.cons rfl (AOp.move (.inr rfl) rfl rfl) ?_; refine AL.nil ?_; refine AWP.seq ?_; refine AWP.seq ?_; refine AWP.region_lit ?_; refine AL.cons rfl (AOp.fieldPtr (k := 0) (d := 0) (e := 0) rfl rfl rfl fo47_0) ?_; refine AL.cons rfl (AOp.loadPtr1 rfl rfl rfl rfl sh3 rfl) ?_; refine AL.cons rfl (AOp.eqlI rfl rfl rfl rfl) ?_; refine AL.nil ?_; refine AWP.cond rfl (fun h2 => ?_) (fun h2 => ?_)
  · refine AWP.seq ?_; refine AWP.seq ?_; refine AWP.region_lit ?_; refine AL.cons rfl (AOp.move (.inl rfl) rfl rfl) ?_; refine AL.cons rfl (AOp.fieldPtr (k := 0) (d := 0) (e := 1) rfl rfl rfl fo47_1) ?_; refine AL.cons rfl (AOp.loadPtr1 rfl rfl rfl rfl sh9 rfl) ?_
    rcases hq3 : iLookup_M fu ps pp.gName with _ | ⟨x4, x5⟩
    · have e6 : imatch_G fu r_imatchAll r_imatch ps pp pt = none := swT h2 (bdN hq3)
      exact none_some H e6
    · refine AL.cons rfl (AOp.callF (res := .tup [(GType.pv x4), .t (.leaf (.bool (x5)))]) (ps := [_, _]) rfl rfl Tryz.func160 (by kernel_rfl) rfl rfl leA rfl rfl (iLookup_ok fu ps pp.gName _ hq3)) ?_; refine AL.cons rfl (AOp.move (.inl rfl) rfl rfl) ?_; refine AL.cons rfl (AOp.extract rfl rfl rfl rfl) ?_; refine AL.cons rfl (AOp.extract rfl rfl rfl rfl) ?_; refine AL.cons rfl (AOp.alloc rfl rfl zr47) ?_; refine AL.cons rfl (AOp.storePtr (cs := [.t (.leaf (.int .i64 (x4.gKind))), .t (.leaf (.string (x4.gName))), .t (.row 3 (GType.trs (x4.gArgs)))]) (ds := [.t (.leaf (.int .i64 (x4.gKind))), .t (.leaf (.string (x4.gName))), .t (.row 3 (GType.trs (x4.gArgs)))]) rfl rfl rfl rfl rfl rfl rfl sz47 (Nat.le_of_ble_eq_true rfl) rfl) ?_; refine AL.cons rfl (AOp.move (.inr rfl) rfl rfl) ?_; refine AL.nil ?_; refine AWP.seq ?_; refine AWP.region_lit ?_; refine AL.cons rfl (AOp.move (.inl rfl) rfl rfl) ?_; refine AL.nil ?_; refine AWP.cond rfl (fun h7 => ?_) (fun h7 => ?_)
      · refine AWP.seq ?_; refine AWP.region_lit ?_; refine AL.cons rfl (AOp.move (.inl rfl) rfl rfl) ?_; refine AL.cons rfl (AOp.loadPtr (cs := [.t (.leaf (.int .i64 (x4.gKind))), .t (.leaf (.string (x4.gName))), .t (.row 3 (GType.trs (x4.gArgs)))]) rfl rfl rfl rfl sh47 rfl rfl) ?_; refine AL.cons rfl (AOp.loadPtr (cs := [.t (.leaf (.int .i64 (pt.gKind))), .t (.leaf (.string (pt.gName))), .t (.row 3 (GType.trs (pt.gArgs)))]) rfl rfl rfl rfl sh47 rfl rfl) ?_; refine AL.cons rfl (AOp.callF (res := .t (.leaf (.bool (GType.eq x4 pt)))) (ps := [_, _]) rfl rfl Tryz.func215 (by kernel_rfl) rfl rfl leA rfl rfl (iEqualType_fn x4 pt)) ?_; refine AL.cons rfl (AOp.move (.inr rfl) rfl rfl) ?_; refine AL.cons rfl (AOp.move (.inr rfl) rfl rfl) ?_; refine AL.nil ?_; refine AWP.ret ?_
        rcases bool2 (GType.eq x4 pt) with g8 | g8
        · have e9 : imatch_G fu r_imatchAll r_imatch ps pp pt = some (ps, (GType.eq x4 pt), ps) := swT h2 (bdS hq3 (swT h7 (swT g8 (rfl))))
          have hz : (ps, (GType.eq x4 pt), ps) = r := Option.some.inj (e9.symm.trans H)
          subst hz
          exact Ends.mk (ps := [_, _]) (by first | exact .inr rfl | exact .inl rfl) ⟨rfl, rfl, trivial⟩ rfl (StLe.mk' (st' := ⟨[], [⟨225, 4, GBinding.trs (ps), false⟩]⟩) trivial (by first | rfl | simp)) (keeps_all hC (boxes0) (Nat.le_of_ble_eq_true rfl)) (q := (.tup [(bif (GType.eq x4 pt) then .acc 4 (GBinding.trs (ps)) 0 else .t (.row 4 (GBinding.trs (ps)))), .t (.leaf (.bool ((GType.eq x4 pt))))] : PV)) (by rw [g8]; exact leA) (by rw [g8]; rfl) ⟨rfl, rfl⟩
        · have e10 : imatch_G fu r_imatchAll r_imatch ps pp pt = some (ps, (GType.eq x4 pt), ps) := swT h2 (bdS hq3 (swT h7 (swF g8 (rfl))))
          have hz : (ps, (GType.eq x4 pt), ps) = r := Option.some.inj (e10.symm.trans H)
          subst hz
          exact Ends.mk (ps := [_, _]) (by first | exact .inr rfl | exact .inl rfl) ⟨rfl, rfl, trivial⟩ rfl (StLe.mk' (st' := ⟨[], [⟨225, 4, GBinding.trs (ps), false⟩]⟩) trivial (by first | rfl | simp)) (keeps_all hC (boxes0) (Nat.le_of_ble_eq_true rfl)) (q := (.tup [(bif (GType.eq x4 pt) then .acc 4 (GBinding.trs (ps)) 0 else .t (.row 4 (GBinding.trs (ps)))), .t (.leaf (.bool ((GType.eq x4 pt))))] : PV)) (by rw [g8]; exact leA) (by rw [g8]; rfl) ⟨rfl, rfl⟩
      · refine AWP.skip ?_; refine AWP.seq ?_
        rcases Classical.em (Tr.bulkL (GType.tr pt) ≤ 68719476735) with hg11 | hg11
        · rcases Classical.em ((ps).length + (([(GBinding.mk pp.gName pt)] : List GBinding)).length ≤ 68719476736) with hg12 | hg12
          · refine AWP.drawnL ⟨_, _, fun j' _ => ([(⟨[some ⟨47, [.t (.leaf (.int .i64 (pp.gKind))), .t (.leaf (.string (pp.gName))), .t (.row 3 (GType.trs (pp.gArgs)))]⟩, some ⟨47, [.t (.leaf (.int .i64 (pt.gKind))), .t (.leaf (.string (pt.gName))), .t (.row 3 (GType.trs (pt.gArgs)))]⟩, some ⟨47, [.t (.leaf (.int .i64 (x4.gKind))), .t (.leaf (.string (x4.gName))), .t (.row 3 (GType.trs (x4.gArgs)))]⟩], [⟨225, 4, GBinding.trs (ps), false⟩]⟩ : Sto), (⟨[some ⟨47, [.t (.leaf (.int .i64 (pp.gKind))), .t (.leaf (.string (pp.gName))), .t (.row 3 (GType.trs (pp.gArgs)))]⟩, some ⟨47, [.t (.leaf (.int .i64 (pt.gKind))), .t (.leaf (.string (pt.gName))), .t (.row 3 (GType.trs (pt.gArgs)))]⟩, some ⟨47, [.t (.leaf (.int .i64 (x4.gKind))), .t (.leaf (.string (x4.gName))), .t (.row 3 (GType.trs (x4.gArgs)))]⟩], [⟨225, 4, GBinding.trs (ps ++ ([(GBinding.mk pp.gName pt)] : List GBinding)), false⟩]⟩ : Sto)] : List Sto).getD j' (⟨[some ⟨47, [.t (.leaf (.int .i64 (pp.gKind))), .t (.leaf (.string (pp.gName))), .t (.row 3 (GType.trs (pp.gArgs)))]⟩, some ⟨47, [.t (.leaf (.int .i64 (pt.gKind))), .t (.leaf (.string (pt.gName))), .t (.row 3 (GType.trs (pt.gArgs)))]⟩, some ⟨47, [.t (.leaf (.int .i64 (x4.gKind))), .t (.leaf (.string (x4.gName))), .t (.row 3 (GType.trs (x4.gArgs)))]⟩], [⟨225, 4, GBinding.trs (ps ++ ([(GBinding.mk pp.gName pt)] : List GBinding)), false⟩]⟩ : Sto), fun q' => ([some (.acc 4 (GBinding.trs (ps)) 0), some (.ptr 0 1), some (.t (.leaf (.string (pp.gName)))), some ((GType.pv pt)), some ((GType.pv pt)), some (.agg [.t (.leaf (.string (pp.gName))), .t (.leaf (.int .i64 (pt.gKind))), .t (.leaf (.string (pt.gName))), .t (.row 3 (GType.trs (pt.gArgs)))]), some (.t (.row 4 (GBinding.trs (([(GBinding.mk pp.gName pt)] : List GBinding))))), some (.acc 4 (GBinding.trs (ps ++ ([(GBinding.mk pp.gName pt)] : List GBinding))) 0), some (.acc 4 (GBinding.trs (ps ++ ([(GBinding.mk pp.gName pt)] : List GBinding))) 0), some (.t (.leaf (.bool (true))))] : List (Option PV)).getD q' none, fun q' => ([.q 0 0, .q 0 0, .q 0 0, .q 0 0, .q 0 0, .q 0 0, .q 0 0, .ef 0, .q 1 1, .q 1 1] : List DK).getD q' (.q 0 0), [7], none, fun q' => ([[(0, none)], [(4, none)], [(26, some 1)], [(5, none)], [(28, some 3)], [(29, some 4), (27, some 2)], [(30, some 5)], [(25, some 0), (31, some 6)], [(32, some 7)], []] : List (List (Nat × Option Nat))).getD q' []⟩ rfl mixed (by kernel_rfl) rfl rfl ⟨?_, ?_, ?_, ?_, ?_, ?_, ?_, ?_, ?_, ?_, trivial⟩ rfl ?_
            · exact Draw.step.q1 0 rfl rfl fun s' bb hs hl => ⟨_, rfl, AOp.move (.inl rfl) rfl (hl 0 none _ (.head _) rfl)⟩
            · exact Draw.step.q1 0 rfl rfl fun s' bb hs hl => ⟨_, rfl, AOp.fieldPtr (k := 0) (d := 0) (e := 1) rfl rfl (hl 4 none _ (.head _) rfl) fo47_1⟩
            · exact Draw.step.q1 0 rfl rfl fun s' bb hs hl => ⟨_, rfl, AOp.loadPtr1 rfl rfl (hl 26 (some 1) _ (.head _) rfl) (by rw [hs]; rfl) sh9 rfl⟩
            · exact Draw.step.q1 0 rfl rfl fun s' bb hs hl => ⟨_, rfl, AOp.loadPtr (cs := [.t (.leaf (.int .i64 (pt.gKind))), .t (.leaf (.string (pt.gName))), .t (.row 3 (GType.trs (pt.gArgs)))]) rfl rfl (hl 5 none _ (.head _) rfl) (by rw [hs]; rfl) sh47 rfl rfl⟩
            · exact Draw.step.q1 0 rfl rfl fun s' bb hs hl => ⟨_, rfl, AOp.callF (res := (GType.pv pt)) (ps := [_]) rfl rfl Tryz.func111 (by kernel_rfl) rfl (evs_cons (hl 28 (some 3) _ (.head _) rfl) rfl) leA rfl rfl (icopyType_fn pt hg11)⟩
            · exact Draw.step.q1 0 rfl rfl fun s' bb hs hl => ⟨_, rfl, AOp.build rfl rfl zr225 pl225 (parts_cons (hl 27 (some 2) _ (.tail _ (.head _)) rfl) rfl rfl (parts_cons (hl 29 (some 4) _ (.head _) rfl) rfl rfl rfl)) rfl⟩
            · exact Draw.step.q1 0 rfl rfl fun s' bb hs hl => ⟨_, rfl, AOp.buildSliceE (es := [GBinding.cs (GBinding.mk pp.gName pt)]) (es' := GBinding.trs (([(GBinding.mk pp.gName pt)] : List GBinding))) (cs := [.t (.leaf (.string (pp.gName))), .t (.leaf (.int .i64 (pt.gKind))), .t (.leaf (.string (pt.gName))), .t (.row 3 (GType.trs (pt.gArgs)))]) rfl rfl el138 zr225 (parts_cons (hl 30 (some 5) _ (.head _) rfl) rfl rfl rfl) rfl leA rfl (by simp [GBinding.cs]) (by decide) rfl (by decide) (by simp [GBinding.trs_map, GBinding.tr_cs])⟩
            · refine .inl ⟨rfl, fun s' bb hs hl => ?_⟩
              refine .inl ⟨_, rfl, AOp.congr (AOp.appendE (es3 := GBinding.trs (ps ++ ([(GBinding.mk pp.gName pt)] : List GBinding))) rfl rfl (hl 25 (some 0) _ (.head _) rfl) (by rw [hs]; rfl) rfl rfl rfl (hl 31 (some 6) _ (.tail _ (.head _)) rfl) rfl (fun e he => by rw [GBinding.trs_map] at he; obtain ⟨x, _, rfl⟩ := List.mem_map.1 he; rw [GBinding.tr_cs]; rfl) el138 ze138 (by decide) (by rw [GBinding.trs_len, GBinding.trs_len]; exact room_le hg12 (by decide)) (by rw [GBinding.trs_map, GBinding.trs_map, GBinding.trs_map, List.map_append])) ?_⟩
              first | (rw [hs]; rfl) | rfl
            · exact Draw.step.q1 1 rfl rfl fun s' bb hs hl => ⟨_, rfl, AOp.move (.inr rfl) rfl (hl 32 (some 7) _ (.head _) rfl)⟩
            · exact Draw.step.q1 1 rfl rfl fun s' bb hs hl => ⟨_, rfl, AOp.move (.inr rfl) rfl rfl⟩
            refine AWP.ret ?_
            have e13 : imatch_G fu r_imatchAll r_imatch ps pp pt = some ((ps ++ ([(GBinding.mk pp.gName pt)] : List GBinding)), true, (ps ++ ([(GBinding.mk pp.gName pt)] : List GBinding))) := swT h2 (bdS hq3 (swF h7 (gdT hg11 (gdT hg12 (rfl)))))
            have hz : ((ps ++ ([(GBinding.mk pp.gName pt)] : List GBinding)), true, (ps ++ ([(GBinding.mk pp.gName pt)] : List GBinding))) = r := Option.some.inj (e13.symm.trans H)
            subst hz
            exact Ends.mk (ps := [_, _]) (by first | exact .inr rfl | exact .inl rfl) ⟨rfl, rfl, trivial⟩ rfl (StLe.mk' (st' := ⟨[], [⟨225, 4, GBinding.trs ((ps ++ ([(GBinding.mk pp.gName pt)] : List GBinding))), false⟩]⟩) trivial (by first | rfl | simp)) (keeps_all hC (boxes0) (Nat.le_of_ble_eq_true rfl)) (q := (.tup [(bif true then .acc 4 (GBinding.trs (ps ++ ([(GBinding.mk pp.gName pt)] : List GBinding))) 0 else .t (.row 4 (GBinding.trs (ps ++ ([(GBinding.mk pp.gName pt)] : List GBinding))))), .t (.leaf (.bool (true)))] : PV)) leA rfl ⟨rfl, rfl⟩
          · have e14 : imatch_G fu r_imatchAll r_imatch ps pp pt = none := swT h2 (bdS hq3 (swF h7 (gdT hg11 (gdF hg12))))
            exact none_some H e14
        · have e15 : imatch_G fu r_imatchAll r_imatch ps pp pt = none := swT h2 (bdS hq3 (swF h7 (gdF hg11)))
          exact none_some H e15
  · refine AWP.skip ?_; refine AWP.seq ?_; refine AWP.seq ?_; refine AWP.region_lit ?_; refine AL.cons rfl (AOp.fieldPtr (k := 0) (d := 0) (e := 0) rfl rfl rfl fo47_0) ?_; refine AL.cons rfl (AOp.loadPtr1 rfl rfl rfl rfl sh3 rfl) ?_; refine AL.cons rfl (AOp.fieldPtr (k := 1) (d := 0) (e := 0) rfl rfl rfl fo47_0) ?_; refine AL.cons rfl (AOp.loadPtr1 rfl rfl rfl rfl sh3 rfl) ?_; refine AL.cons rfl (AOp.neqI rfl rfl rfl rfl) ?_; refine AL.cons rfl (AOp.move (.inl rfl) rfl rfl) ?_; refine AL.splitB 38 rfl (fun g16 => ?_) (fun g16 => ?_)
    · refine AL.skipP rfl rfl rfl g16 rfl rfl ?_; refine AL.skipP rfl rfl rfl g16 rfl rfl ?_; refine AL.skipP rfl rfl rfl g16 rfl rfl ?_; refine AL.skipP rfl rfl rfl g16 rfl rfl ?_; refine AL.skipP rfl rfl rfl g16 rfl rfl ?_; refine AL.cons rfl (AOp.pickT rfl rfl rfl g16 rfl) ?_; refine AL.nil ?_; refine AWP.cond rfl (fun h17 => ?_) (fun h17 => ?_)
      · refine AWP.seq ?_; refine AWP.region_lit ?_; refine AL.cons rfl (AOp.move (.inr rfl) rfl rfl) ?_; refine AL.cons rfl (AOp.move (.inr rfl) rfl rfl) ?_; refine AL.nil ?_; refine AWP.ret ?_
        have e18 : imatch_G fu r_imatchAll r_imatch ps pp pt = some ([], false, ps) := swF h2 (swT g16 (rfl))
        have hz : ([], false, ps) = r := Option.some.inj (e18.symm.trans H)
        subst hz
        exact Ends.mk (ps := [_, _]) (by first | exact .inr rfl | exact .inl rfl) ⟨rfl, rfl, trivial⟩ rfl (StLe.mk' (st' := ⟨[], [⟨225, 4, GBinding.trs (ps), false⟩]⟩) trivial (by first | rfl | simp)) (keeps_all hC (boxes0) (Nat.le_of_ble_eq_true rfl)) (q := (.tup [(bif false then .acc 4 (GBinding.trs ([])) 0 else .t (.row 4 (GBinding.trs ([])))), .t (.leaf (.bool (false)))] : PV)) leA rfl ⟨rfl, rfl⟩
      · exact absurd (h17.symm.trans rfl) (by decide)
    · refine AL.cons_gv rfl rfl rfl g16 (AOp.fieldPtr (k := 0) (d := 0) (e := 1) rfl rfl rfl fo47_1) ?_; refine AL.cons_gv rfl rfl rfl g16 (AOp.loadPtr1 rfl rfl rfl rfl sh9 rfl) ?_; refine AL.cons_gv rfl rfl rfl g16 (AOp.fieldPtr (k := 1) (d := 0) (e := 1) rfl rfl rfl fo47_1) ?_; refine AL.cons_gv rfl rfl rfl g16 (AOp.loadPtr1 rfl rfl rfl rfl sh9 rfl) ?_; refine AL.cons_gv rfl rfl rfl g16 (AOp.neqS rfl rfl rfl rfl) ?_; refine AL.cons rfl (AOp.pickF rfl rfl rfl g16 rfl) ?_; refine AL.nil ?_; refine AWP.cond rfl (fun h19 => ?_) (fun h19 => ?_)
      · refine AWP.seq ?_; refine AWP.region_lit ?_; refine AL.cons rfl (AOp.move (.inr rfl) rfl rfl) ?_; refine AL.cons rfl (AOp.move (.inr rfl) rfl rfl) ?_; refine AL.nil ?_; refine AWP.ret ?_
        have e20 : imatch_G fu r_imatchAll r_imatch ps pp pt = some ([], false, ps) := swF h2 (swF g16 (swT h19 (rfl)))
        have hz : ([], false, ps) = r := Option.some.inj (e20.symm.trans H)
        subst hz
        exact Ends.mk (ps := [_, _]) (by first | exact .inr rfl | exact .inl rfl) ⟨rfl, rfl, trivial⟩ rfl (StLe.mk' (st' := ⟨[], [⟨225, 4, GBinding.trs (ps), false⟩]⟩) trivial (by first | rfl | simp)) (keeps_all hC (boxes0) (Nat.le_of_ble_eq_true rfl)) (q := (.tup [(bif false then .acc 4 (GBinding.trs ([])) 0 else .t (.row 4 (GBinding.trs ([])))), .t (.leaf (.bool (false)))] : PV)) leA rfl ⟨rfl, rfl⟩
      · refine AWP.skip ?_; refine AWP.seq ?_; refine AWP.region_lit ?_; refine AL.cons rfl (AOp.move (.inl rfl) rfl rfl) ?_; refine AL.cons rfl (AOp.fieldPtr (k := 0) (d := 0) (e := 2) rfl rfl rfl fo47_2) ?_; refine AL.cons rfl (AOp.loadPtr1 rfl rfl rfl rfl sh45 rfl) ?_; refine AL.fact (lk_lenN 47 rfl rfl (GType.trs_len _)) (fun hl21 => ?_)
        refine AL.cons rfl (AOp.fieldPtr (k := 1) (d := 0) (e := 2) rfl rfl rfl fo47_2) ?_; refine AL.cons rfl (AOp.loadPtr1 rfl rfl rfl rfl sh45 rfl) ?_; refine AL.fact (lk_lenN 49 rfl rfl (GType.trs_len _)) (fun hl22 => ?_)
        rcases hq23 : r_imatchAll ps pp.gArgs pt.gArgs with _ | ⟨x24, x25, x26⟩
        · have e27 : imatch_G fu r_imatchAll r_imatch ps pp pt = none := swF h2 (swF g16 (swF h19 (bdN hq23)))
          exact none_some H e27
        · cases x25
          · refine AL.cons rfl (AOp.callPE (pre := ⟨[], [⟨225, 4, GBinding.trs (ps), false⟩]⟩) (st' := ⟨[], [⟨225, 4, GBinding.trs (x26), false⟩]⟩) (ps := [_, _, _]) (qs := [.acc 4 (GBinding.trs (ps)) 0, .t (.row 3 (GType.trs (pp.gArgs))), .t (.row 3 (GType.trs (pt.gArgs)))]) [] [0] rfl rfl Tryz.func159 (by kernel_rfl) rfl rfl rfl (Part0.of trivial ⟨rfl, trivial⟩ (by decide) (by decide)) leA rfl rfl rfl (h_imatchAll ps pp.gArgs pt.gArgs _ hq23)) ?_; refine AL.cons rfl (AOp.extract rfl rfl rfl rfl) ?_; refine AL.cons rfl (AOp.extract rfl rfl rfl rfl) ?_; refine AL.cons rfl (AOp.move (.inr rfl) rfl rfl) ?_; refine AL.cons rfl (AOp.move (.inr rfl) rfl rfl) ?_; refine AL.nil ?_; refine AWP.ret ?_
            have e28 : imatch_G fu r_imatchAll r_imatch ps pp pt = some (x24, false, x26) := swF h2 (swF g16 (swF h19 (bdS hq23 (swF rfl (rfl)))))
            have hz : (x24, false, x26) = r := Option.some.inj (e28.symm.trans H)
            subst hz
            exact Ends.mk (ps := [_, _]) (by first | exact .inr rfl | exact .inl rfl) ⟨rfl, rfl, trivial⟩ rfl (StLe.mk' (st' := ⟨[], [⟨225, 4, GBinding.trs (x26), false⟩]⟩) trivial (by first | rfl | simp)) (keeps_all hC (boxes0) (Nat.le_of_ble_eq_true rfl)) (q := (.tup [(bif false then .acc 4 (GBinding.trs (x24)) 0 else .t (.row 4 (GBinding.trs (x24)))), .t (.leaf (.bool (false)))] : PV)) leA rfl ⟨rfl, rfl⟩
          · rcases Classical.em (x24 = x26) with hg29 | hg29
            · have hg29c := hg29
              subst hg29
              refine AL.cons rfl (AOp.callPE (pre := ⟨[], [⟨225, 4, GBinding.trs (ps), false⟩]⟩) (st' := ⟨[], [⟨225, 4, GBinding.trs (x24), false⟩]⟩) (ps := [_, _, _]) (qs := [.acc 4 (GBinding.trs (ps)) 0, .t (.row 3 (GType.trs (pp.gArgs))), .t (.row 3 (GType.trs (pt.gArgs)))]) [] [0] rfl rfl Tryz.func159 (by kernel_rfl) rfl rfl rfl (Part0.of trivial ⟨rfl, trivial⟩ (by decide) (by decide)) leA rfl rfl rfl (h_imatchAll ps pp.gArgs pt.gArgs _ hq23)) ?_; refine AL.cons rfl (AOp.extract rfl rfl rfl rfl) ?_; refine AL.cons rfl (AOp.extract rfl rfl rfl rfl) ?_; refine AL.cons rfl (AOp.move (.inr rfl) rfl rfl) ?_; refine AL.cons rfl (AOp.move (.inr rfl) rfl rfl) ?_; refine AL.nil ?_; refine AWP.ret ?_
              have e30 : imatch_G fu r_imatchAll r_imatch ps pp pt = some (x24, true, x24) := swF h2 (swF g16 (swF h19 (bdS hq23 (swT rfl (gdT hg29c (rfl))))))
              have hz : (x24, true, x24) = r := Option.some.inj (e30.symm.trans H)
              subst hz
              exact Ends.mk (ps := [_, _]) (by first | exact .inr rfl | exact .inl rfl) ⟨rfl, rfl, trivial⟩ rfl (StLe.mk' (st' := ⟨[], [⟨225, 4, GBinding.trs (x24), false⟩]⟩) trivial (by first | rfl | simp)) (keeps_all hC (boxes0) (Nat.le_of_ble_eq_true rfl)) (q := (.tup [(bif true then .acc 4 (GBinding.trs (x24)) 0 else .t (.row 4 (GBinding.trs (x24)))), .t (.leaf (.bool (true)))] : PV)) leA rfl ⟨rfl, rfl⟩
            · have e31 : imatch_G fu r_imatchAll r_imatch ps pp pt = none := swF h2 (swF g16 (swF h19 (bdS hq23 (swT rfl (gdF hg29)))))
              exact none_some H e31
mutual
noncomputable def imatchAll_M : Nat → (List GBinding) → (List GType) → (List GType) → Option ((List GBinding) × Bool × (List GBinding))
  | 0, _, _, _ => none
  | fu + 1, ps, pp, pall => imatchAll_G fu (imatchAll_M fu) (imatch_M fu) ps pp pall
noncomputable def imatch_M : Nat → (List GBinding) → GType → GType → Option ((List GBinding) × Bool × (List GBinding))
  | 0, _, _, _ => none
  | fu + 1, ps, pp, pt => imatch_G fu (imatchAll_M fu) (imatch_M fu) ps pp pt
end
theorem imatchAll_all (fu : Nat) : (∀ (ps : List GBinding) (pp : List GType) (pall : List GType) (r : (List GBinding) × Bool × (List GBinding)), imatchAll_M fu ps pp pall = some r → ACalls Tryz.prog 159 [.acc 4 (GBinding.trs (ps)) 0, .t (.row 3 (GType.trs (pp))), .t (.row 3 (GType.trs (pall)))] ⟨[], [⟨225, 4, GBinding.trs (ps), false⟩]⟩ (fun q t => q = (.tup [(bif r.2.1 then .acc 4 (GBinding.trs (r.1)) 0 else .t (.row 4 (GBinding.trs (r.1)))), .t (.leaf (.bool (r.2.1)))] : PV) ∧ t = ⟨[], [⟨225, 4, GBinding.trs (r.2.2), false⟩]⟩)) ∧ (∀ (ps : List GBinding) (pp : GType) (pt : GType) (r : (List GBinding) × Bool × (List GBinding)), imatch_M fu ps pp pt = some r → ACalls Tryz.prog 200 [.acc 4 (GBinding.trs (ps)) 0, (GType.pv pp), (GType.pv pt)] ⟨[], [⟨225, 4, GBinding.trs (ps), false⟩]⟩ (fun q t => q = (.tup [(bif r.2.1 then .acc 4 (GBinding.trs (r.1)) 0 else .t (.row 4 (GBinding.trs (r.1)))), .t (.leaf (.bool (r.2.1)))] : PV) ∧ t = ⟨[], [⟨225, 4, GBinding.trs (r.2.2), false⟩]⟩)) := by
  induction fu with
  | zero => exact ⟨(fun ps pp pall r H => by simp only [imatchAll_M] at H; cases H), (fun ps pp pt r H => by simp only [imatch_M] at H; cases H)⟩
  | succ fu ih => exact ⟨(fun ps pp pall r H => by simp only [imatchAll_M] at H; exact imatchAll_step (imatchAll_M fu) (imatch_M fu) fu ih.1 ih.2 ps pp pall r H), (fun ps pp pt r H => by simp only [imatch_M] at H; exact imatch_step (imatchAll_M fu) (imatch_M fu) fu ih.1 ih.2 ps pp pt r H)⟩
theorem imatchAll_ok (fu : Nat) (ps : List GBinding) (pp : List GType) (pall : List GType) (r : (List GBinding) × Bool × (List GBinding)) (H : imatchAll_M fu ps pp pall = some r) : ACalls Tryz.prog 159 [.acc 4 (GBinding.trs (ps)) 0, .t (.row 3 (GType.trs (pp))), .t (.row 3 (GType.trs (pall)))] ⟨[], [⟨225, 4, GBinding.trs (ps), false⟩]⟩ (fun q t => q = (.tup [(bif r.2.1 then .acc 4 (GBinding.trs (r.1)) 0 else .t (.row 4 (GBinding.trs (r.1)))), .t (.leaf (.bool (r.2.1)))] : PV) ∧ t = ⟨[], [⟨225, 4, GBinding.trs (r.2.2), false⟩]⟩) := (imatchAll_all fu).1 ps pp pall r H
noncomputable def iMatch_M (fu : Nat)  (pp : GType) (pt : GType) : Option ((List GBinding) × Bool) :=
 bd (imatchAll_M fu ([]) ([pp] : List GType) ([pt] : List GType)) (fun (x2, x3, x4) =>
 sw (x3)
 (gd (x2 = x4)
 (some (x2, true)))
 (some (x2, false)))
set_option maxRecDepth 100000 in
set_option maxHeartbeats 4000000 in
theorem iMatch_ok  (fu : Nat)  (pp : GType) (pt : GType) (r : (List GBinding) × Bool) (H : iMatch_M fu pp pt = some r) : AFun Tryz.prog 105 [(GType.pv pp), (GType.pv pt)] (.tup [.t (.row 4 (GBinding.trs (r.1))), .t (.leaf (.bool (r.2)))] : PV) := by
  refine ACalls.intro Tryz.func105 rfl (by first | decide | (simp; done) | (simp; decide)) ?_; intro C hC
  refine AWP.seq ?_; refine AWP.region_lit ?_; refine AL.cons rfl (AOp.box (cs := [.t (.leaf (.int .i64 (pp.gKind))), .t (.leaf (.string (pp.gName))), .t (.row 3 (GType.trs (pp.gArgs)))]) rfl rfl rfl rfl rfl) ?_; refine AL.cons rfl (AOp.box (cs := [.t (.leaf (.int .i64 (pt.gKind))), .t (.leaf (.string (pt.gName))), .t (.row 3 (GType.trs (pt.gArgs)))]) rfl rfl rfl rfl rfl) ?_; refine AL.cons rfl (AOp.move (.inr rfl) rfl rfl) ?_; refine AL.cons rfl (AOp.move (.inr rfl) rfl rfl) ?_; refine AL.nil ?_; refine AWP.seq ?_; refine AWP.region_lit ?_; refine AL.cons rfl (AOp.loadPtr (cs := [.t (.leaf (.int .i64 (pp.gKind))), .t (.leaf (.string (pp.gName))), .t (.row 3 (GType.trs (pp.gArgs)))]) rfl rfl rfl rfl sh47 rfl rfl) ?_; refine AL.cons rfl (AOp.buildSliceE (es := [GType.cs pp]) (es' := GType.trs (([pp] : List GType))) (cs := [.t (.leaf (.int .i64 (pp.gKind))), .t (.leaf (.string (pp.gName))), .t (.row 3 (GType.trs (pp.gArgs)))]) rfl rfl el45 zr47 rfl rfl leA rfl (by simp [GType.cs]) (by decide) rfl (by decide) (by simp [GType.trs_map, GType.tr_cs])) ?_; refine AL.cons rfl (AOp.loadPtr (cs := [.t (.leaf (.int .i64 (pt.gKind))), .t (.leaf (.string (pt.gName))), .t (.row 3 (GType.trs (pt.gArgs)))]) rfl rfl rfl rfl sh47 rfl rfl) ?_; refine AL.cons rfl (AOp.buildSliceE (es := [GType.cs pt]) (es' := GType.trs (([pt] : List GType))) (cs := [.t (.leaf (.int .i64 (pt.gKind))), .t (.leaf (.string (pt.gName))), .t (.row 3 (GType.trs (pt.gArgs)))]) rfl rfl el45 zr47 rfl rfl leA rfl (by simp [GType.cs]) (by decide) rfl (by decide) (by simp [GType.trs_map, GType.tr_cs])) ?_
  rcases hq1 : imatchAll_M fu ([]) ([pp] : List GType) ([pt] : List GType) with _ | ⟨x2, x3, x4⟩
  · have e5 : iMatch_M fu pp pt = none := bdN hq1
    exact none_some H e5
  · cases x3
    · refine AL.cons rfl (AOp.callF (res := .tup [.t (.row 4 (GBinding.trs (x2))), .t (.leaf (.bool (false)))]) (ps := [_, _, _]) (qs := [.nil, .t (.row 3 (GType.trs (([pp] : List GType)))), .t (.row 3 (GType.trs (([pt] : List GType))))]) rfl rfl Tryz.func159 (by kernel_rfl) rfl rfl leA rfl rfl (ACalls.regNil (l1 := []) (l2 := [.t (.row 3 (GType.trs (([pp] : List GType)))), .t (.row 3 (GType.trs (([pt] : List GType))))]) (E := 225) (sz := 4) (q := .tup [.t (.row 4 (GBinding.trs (x2))), .t (.leaf (.bool (false)))]) (by decide) (imatchAll_ok fu ([]) ([pp] : List GType) ([pt] : List GType) _ hq1) leA rfl)) ?_; refine AL.cons rfl (AOp.extract rfl rfl rfl rfl) ?_; refine AL.cons rfl (AOp.extract rfl rfl rfl rfl) ?_; refine AL.cons rfl (AOp.move (.inr rfl) rfl rfl) ?_; refine AL.cons rfl (AOp.move (.inr rfl) rfl rfl) ?_; refine AL.nil ?_; refine AWP.ret ?_
      have e6 : iMatch_M fu pp pt = some (x2, false) := bdS hq1 (swF rfl (rfl))
      have hz : (x2, false) = r := Option.some.inj (e6.symm.trans H)
      subst hz
      exact Ends.mk (ps := [_, _]) (by first | exact .inr rfl | exact .inl rfl) ⟨rfl, rfl, trivial⟩ rfl (StLe.mk' (st' := ⟨[], []⟩) trivial rfl) (keeps_nil hC) (q := (.tup [.t (.row 4 (GBinding.trs (x2))), .t (.leaf (.bool (false)))] : PV)) leA rfl ⟨rfl, rfl⟩
    · rcases Classical.em (x2 = x4) with hg7 | hg7
      · have hg7c := hg7
        subst hg7
        refine AL.cons rfl (AOp.callF (res := .tup [.t (.row 4 (GBinding.trs (x2))), .t (.leaf (.bool (true)))]) (ps := [_, _, _]) (qs := [.nil, .t (.row 3 (GType.trs (([pp] : List GType)))), .t (.row 3 (GType.trs (([pt] : List GType))))]) rfl rfl Tryz.func159 (by kernel_rfl) rfl rfl leA rfl rfl (ACalls.regNil (l1 := []) (l2 := [.t (.row 3 (GType.trs (([pp] : List GType)))), .t (.row 3 (GType.trs (([pt] : List GType))))]) (E := 225) (sz := 4) (q := .tup [.t (.row 4 (GBinding.trs (x2))), .t (.leaf (.bool (true)))]) (by decide) (imatchAll_ok fu ([]) ([pp] : List GType) ([pt] : List GType) _ hq1) leA rfl)) ?_; refine AL.cons rfl (AOp.extract rfl rfl rfl rfl) ?_; refine AL.cons rfl (AOp.extract rfl rfl rfl rfl) ?_; refine AL.cons rfl (AOp.move (.inr rfl) rfl rfl) ?_; refine AL.cons rfl (AOp.move (.inr rfl) rfl rfl) ?_; refine AL.nil ?_; refine AWP.ret ?_
        have e8 : iMatch_M fu pp pt = some (x2, true) := bdS hq1 (swT rfl (gdT hg7c (rfl)))
        have hz : (x2, true) = r := Option.some.inj (e8.symm.trans H)
        subst hz
        exact Ends.mk (ps := [_, _]) (by first | exact .inr rfl | exact .inl rfl) ⟨rfl, rfl, trivial⟩ rfl (StLe.mk' (st' := ⟨[], []⟩) trivial rfl) (keeps_nil hC) (q := (.tup [.t (.row 4 (GBinding.trs (x2))), .t (.leaf (.bool (true)))] : PV)) leA rfl ⟨rfl, rfl⟩
      · have e9 : iMatch_M fu pp pt = none := bdS hq1 (swT rfl (gdF hg7))
        exact none_some H e9

end Go.Proofs.YtnakkelglbcecaaGreat

namespace Go.Proofs.YtnakkelglbcecaaGreat
set_option linter.unusedSimpArgs false
set_option linter.unusedVariables false
open Go.RowKit Go.WalkArith

def bFind (l : List GBinding) (v : ByteArray) : Option GBinding := l.find? (fun b => decide (b.gVar = v))
mutual
def matchT : GType → GType → List GBinding → Option (List GBinding)
  | .mk k n ps, t, s =>
    if k = 1 then (match bFind s n with
      | some b => if GType.eq b.gType t = true then some s else none
      | none => some (s ++ [GBinding.mk n t]))
    else if k = t.gKind then (if n = t.gName then (if ps.length = t.gArgs.length then matchL ps t.gArgs s else none) else none) else none
def matchL : List GType → List GType → List GBinding → Option (List GBinding)
  | [], _, s => some s
  | p :: ps, ts, s => match ts with
    | [] => none
    | t :: ts => match matchT p t s with
      | none => none
      | some s' => matchL ps ts s'
end
theorem nd {p : Prop} [Decidable p] (h : ¬ p) : (!decide p) = true := by simp [h]
def wt (l : List GType) : Nat := l.length + Tr.bulkAll (GType.trs l)
theorem wt_cons (x : GType) (l : List GType) : wt (x :: l) = 1 + Tr.bulkL x.tr + wt l := by simp only [wt, GType.trs, Tr.bulkAll, List.length_cons]; omega
theorem wt_args (k : Int) (n : ByteArray) (ps : List GType) : wt ps ≤ Tr.bulkL (GType.mk k n ps).tr := bulk_args k n ps
def BOk (s : List GBinding) : Prop := ∀ b ∈ s, Tr.bulkL b.gType.tr ≤ 68719476735
theorem bulk_arg {t x : GType} (h : x ∈ t.gArgs) (ht : Tr.bulkL t.tr ≤ 68719476735) : Tr.bulkL x.tr ≤ 68719476735 := by
  obtain ⟨k, n, ps⟩ := t
  have h1 := bulk_mem (show x ∈ ps from h)
  have h2 := bulk_args k n ps
  omega
theorem matchL_okOf : ∀ (ps : List GType), (∀ x ∈ ps, ∀ t s s', matchT x t s = some s' → BOk s → Tr.bulkL t.tr ≤ 68719476735 → BOk s' ∧ s'.length ≤ s.length + 1 + Tr.bulkL x.tr) →
    ∀ ts s s', matchL ps ts s = some s' → BOk s → (∀ t ∈ ts, Tr.bulkL t.tr ≤ 68719476735) → BOk s' ∧ s'.length ≤ s.length + wt ps
  | [], _, ts, s, s', h, hb, _ => by
    rw [matchL] at h
    obtain rfl := Option.some.inj h
    exact ⟨hb, by omega⟩
  | p :: ps, hp, ts, s, s', h, hb, ht => by
    cases ts with
    | nil => simp [matchL] at h
    | cons t ts =>
      rw [matchL] at h
      cases hq : matchT p t s with
      | none => rw [hq] at h; cases h
      | some s1 =>
        rw [hq] at h
        have h1 := hp p (by simp) t s s1 hq hb (ht t (by simp))
        have h2 := matchL_okOf ps (fun x hx => hp x (List.mem_cons_of_mem _ hx)) ts s1 s' h h1.1 (fun x hx => ht x (List.mem_cons_of_mem _ hx))
        have h3 := wt_cons p ps
        exact ⟨h2.1, by omega⟩
theorem matchT_ok : ∀ (p t : GType) (s s' : List GBinding), matchT p t s = some s' → BOk s → Tr.bulkL t.tr ≤ 68719476735 → BOk s' ∧ s'.length ≤ s.length + 1 + Tr.bulkL p.tr := by
  refine GType.ind fun k n ps ih t s s' h hb ht => ?_
  have hw := wt_args k n ps
  rw [matchT] at h
  split at h
  · split at h
    · split at h
      · obtain rfl := Option.some.inj h
        exact ⟨hb, by omega⟩
      · cases h
    · obtain rfl := Option.some.inj h
      refine ⟨fun b hb' => ?_, by simp only [List.length_append, List.length_singleton]; omega⟩
      rcases List.mem_append.1 hb' with h1 | h1
      · exact hb b h1
      · obtain rfl := List.mem_singleton.1 h1
        exact ht
  · split at h
    · split at h
      · split at h
        · have h1 := matchL_okOf ps ih _ _ _ h hb (fun x hx => bulk_arg hx ht)
          exact ⟨h1.1, by omega⟩
        · cases h
      · cases h
    · cases h
def Res (o : Option (List GBinding)) (m : Option (List GBinding × Bool × List GBinding)) : Prop := match o with
  | some s' => m = some (s', true, s')
  | none => ∃ a b, m = some (a, false, b)
def LRes (o : Option (List GBinding)) (m : Option ((List GBinding × Bool × List GBinding) ⊕ List GBinding)) : Prop := match o with
  | some s' => m = some (.inr s')
  | none => ∃ a b, m = some (.inl (a, false, b))
def FRes (o : Option (List GBinding)) (m : Option (LR (List GBinding) (List GBinding × Bool × List GBinding))) : Prop := match o with
  | some s' => m = some (.next s')
  | none => ∃ a b, m = some (.ret (a, false, b))
theorem matchLoop {F : Nat → List GBinding → Option (LR (List GBinding) (List GBinding × Bool × List GBinding))} {ps ts : List GType} (hlen : ps.length = ts.length) (ht : ∀ t ∈ ts, Tr.bulkL t.tr ≤ 68719476735)
    (hs : ∀ i s, i < ps.length → BOk s → s.length + 1 + Tr.bulkL (atD ps i).tr ≤ 68719476736 → FRes (matchT (atD ps i) (atD ts i) s) (F i s)) :
    ∀ (k i : Nat) (s : List GBinding), ps.length - i = k → BOk s → s.length + wt (ps.drop i) ≤ 68719476736 → LRes (matchL (ps.drop i) (ts.drop i) s) (loopN F (ps.length - i) i s)
  | 0, i, s, hk, _, _ => by
    rw [List.drop_of_length_le (show ps.length ≤ i by omega), matchL]
    exact loopN_all (by omega)
  | k + 1, i, s, hk, hb, hw => by
    have hi : i < ps.length := by omega
    have hi2 : i < ts.length := by omega
    rw [drop_atD hi, wt_cons] at hw
    have h1 := hs i s hi hb (by omega)
    rw [drop_atD hi, drop_atD hi2, matchL]
    cases hq : matchT (atD ps i) (atD ts i) s with
    | none =>
      rw [hq] at h1
      obtain ⟨a, b, h1⟩ := h1
      exact ⟨a, b, loopN_out hi h1⟩
    | some s' =>
      rw [hq] at h1
      have h2 := matchT_ok _ _ _ _ hq hb (ht _ (atD_mem hi2))
      have h3 := matchLoop hlen ht hs k (i + 1) s' (by omega) h2.1 (by omega)
      rw [loopN_step hi h1]
      exact h3
theorem matchLoop0 {F : Nat → List GBinding → Option (LR (List GBinding) (List GBinding × Bool × List GBinding))} {ps ts : List GType} (hlen : ps.length = ts.length) (ht : ∀ t ∈ ts, Tr.bulkL t.tr ≤ 68719476735)
    (hs : ∀ i s, i < ps.length → BOk s → s.length + 1 + Tr.bulkL (atD ps i).tr ≤ 68719476736 → FRes (matchT (atD ps i) (atD ts i) s) (F i s)) {s : List GBinding} (hb : BOk s) (hw : s.length + wt ps ≤ 68719476736) : LRes (matchL ps ts s) (loopN F (ps.length - 0) 0 s) := by
  have := matchLoop hlen ht hs ps.length 0 s (by omega) hb (by rwa [List.drop_zero])
  rwa [List.drop_zero, List.drop_zero] at this

theorem sLookup_fn (fu : Nat) (l : List GBinding) (v : ByteArray) (hb : BOk l) : sLookup_M fu l v = some (match bFind l v with
    | some b => (b.gType, true)
    | none => (GType.mk 0 (⟨#[]⟩) [], false)) := by
  unfold sLookup_M sLookup_R1
  rw [loopN_find0 (p := fun b => decide (b.gVar = v)) (r := fun b => (b.gType, true)) (fun i hi => by
    unfold sLookup_F1
    cases h : decide ((atD l i).gVar = v)
    · simp [sw, h]
    · simp only [sw, h]
      rw [gdT (hb _ (atD_mem hi)) rfl]
      simp)]
  unfold bFind
  cases l.find? (fun b => decide (b.gVar = v)) <;> rfl
def SMS (fu : Nat) (p : GType) : Prop := ∀ (t : GType) (s : List GBinding), Tr.bulkL t.tr ≤ 68719476735 → BOk s → s.length + 1 + Tr.bulkL p.tr ≤ 68719476736 → Res (matchT p t s) (sl7Match_M fu p t s)
theorem sAll_of {fu : Nat} {ps : List GType} (hf : ∀ x ∈ ps, SMS fu x) {ts : List GType} {s : List GBinding} (hlen : ps.length = ts.length) (ht : ∀ t ∈ ts, Tr.bulkL t.tr ≤ 68719476735) (hb : BOk s) (hw : s.length + wt ps ≤ 68719476736) : Res (matchL ps ts s) (sl7All_M (fu + 1) ps ts s) := by
  have hl := matchLoop0 (F := sl7All_F1 fu (sl7All_M fu) (sl7Match_M fu) ps ts s) hlen ht (fun i s hi hb hw => by
    have h1 := hf (atD ps i) (atD_mem hi) (atD ts i) s (ht _ (atD_mem (by omega))) hb hw
    unfold sl7All_F1
    cases hq : matchT (atD ps i) (atD ts i) s with
    | none =>
      rw [hq] at h1
      obtain ⟨a, b, h1⟩ := h1
      exact ⟨_, b, gdT (by omega) (bdS h1 rfl)⟩
    | some s' =>
      rw [hq] at h1
      exact gdT (by omega) (bdS h1 (swT rfl (gdT rfl rfl)))) hb hw
  rw [sl7All_M, sl7All_G]
  unfold sl7All_R1
  cases hq : matchL ps ts s with
  | none =>
    rw [hq] at hl
    obtain ⟨a, b, hl⟩ := hl
    exact ⟨a, b, soL hl⟩
  | some s' =>
    rw [hq] at hl
    exact soR hl rfl
theorem sMatch_ev : ∀ p : GType, Evt fun fu => SMS fu p := by
  refine GType.ind fun k n ps ih => ?_; refine Evt.succ (Evt.succ ((Evt.list ih).imp fun fu hf t s ht hb hw => ?_))
  have hwa := wt_args k n ps
  rw [sl7Match_M, sl7Match_G, matchT]
  simp only [GType.gKind_mk, GType.gName_mk, GType.gArgs_mk]
  by_cases hk : k = 1
  · rw [if_pos hk, sLookup_fn _ s n hb]
    cases hq : bFind s n with
    | some b =>
      cases he : GType.eq b.gType t with
      | true =>
        show Res (if GType.eq b.gType t = true then some s else none) _
        rw [if_pos he]
        show _ = some (s, true, s)
        refine swT (decide_eq_true hk) (bdS rfl (swT rfl (swT he ?_)))
        simp only [he]
      | false =>
        show Res (if GType.eq b.gType t = true then some s else none) _
        rw [if_neg (by simp [he])]
        refine ⟨s, s, ?_⟩
        refine swT (decide_eq_true hk) (bdS rfl (swT rfl (swF he ?_)))
        simp only [he]
    | none =>
      show _ = some (s ++ [GBinding.mk n t], true, s ++ [GBinding.mk n t])
      exact swT (decide_eq_true hk) (bdS rfl (swF rfl (gdT ht (gdT (by simp only [List.length_singleton]; omega) rfl))))
  · rw [if_neg hk]
    by_cases h1 : k = t.gKind
    · rw [if_pos h1]
      by_cases h2 : n = t.gName
      · rw [if_pos h2]
        by_cases h3 : ps.length = t.gArgs.length
        · rw [if_pos h3]
          have ha := sAll_of hf (s := s) h3 (fun x hx => bulk_arg hx ht) hb (by omega)
          cases hq : matchL ps t.gArgs s with
          | none =>
            rw [hq] at ha
            obtain ⟨a, b, ha⟩ := ha
            exact ⟨_, _, swF (by simp [hk]) (swF (by simp [h1]) (swF (by simp [h2]) (swF (by simp [h3]) <| bdS ha (swF rfl rfl))))⟩
          | some s' =>
            rw [hq] at ha
            exact swF (by simp [hk]) (swF (by simp [h1]) (swF (by simp [h2]) (swF (by simp [h3]) <| bdS ha (swT rfl (gdT rfl rfl)))))
        · rw [if_neg h3]
          exact ⟨_, _, swF (by simp [hk]) (swF (by simp [h1]) (swF (by simp [h2]) (swT (nd (fun h => h3 (Int.ofNat_inj.1 h))) rfl)))⟩
      · rw [if_neg h2]
        exact ⟨_, _, swF (by simp [hk]) (swF (by simp [h1]) (swT (by simp [h2]) rfl))⟩
    · rw [if_neg h1]
      exact ⟨_, _, swF (by simp [hk]) (swT (by simp [h1]) rfl)⟩

theorem iLookup_fn (fu : Nat) (l : List GBinding) (v : ByteArray) (hb : BOk l) : iLookup_M fu l v = some (match bFind l v with
    | some b => (b.gType, true)
    | none => (GType.mk 0 (⟨#[]⟩) [], false)) := by
  unfold iLookup_M iLookup_R1
  rw [loopN_find0 (p := fun b => decide (b.gVar = v)) (r := fun b => (b.gType, true)) (fun i hi => by
    unfold iLookup_F1
    cases h : decide ((atD l i).gVar = v)
    · simp [sw, h]
    · simp only [sw, h]
      rw [gdT (hb _ (atD_mem hi)) rfl]
      simp)]
  unfold bFind
  cases l.find? (fun b => decide (b.gVar = v)) <;> rfl
def IMS (fu : Nat) (p : GType) : Prop := ∀ (t : GType) (s : List GBinding), Tr.bulkL t.tr ≤ 68719476735 → BOk s → s.length + 1 + Tr.bulkL p.tr ≤ 68719476736 → Res (matchT p t s) (imatch_M fu s p t)
theorem iAll_of {fu : Nat} {ps : List GType} (hf : ∀ x ∈ ps, IMS fu x) {ts : List GType} {s : List GBinding} (hlen : ps.length = ts.length) (ht : ∀ t ∈ ts, Tr.bulkL t.tr ≤ 68719476735) (hb : BOk s) (hw : s.length + wt ps ≤ 68719476736) : Res (matchL ps ts s) (imatchAll_M (fu + 1) s ps ts) := by
  have hl := matchLoop0 (F := imatchAll_F1 fu (imatchAll_M fu) (imatch_M fu) s ps ts) hlen ht (fun i s hi hb hw => by
    have h1 := hf (atD ps i) (atD_mem hi) (atD ts i) s (ht _ (atD_mem (by omega))) hb hw
    unfold imatchAll_F1
    cases hq : matchT (atD ps i) (atD ts i) s with
    | none =>
      rw [hq] at h1
      obtain ⟨a, b, h1⟩ := h1
      exact ⟨_, b, gdT (by omega) (bdS h1 rfl)⟩
    | some s' =>
      rw [hq] at h1
      exact gdT (by omega) (bdS h1 (swT rfl (gdT rfl rfl)))) hb hw
  rw [imatchAll_M, imatchAll_G]
  rw [show sw (!decide (((ps.length : Nat) : Int) = ((ts.length : Nat) : Int))) = fun (x y : Option (List GBinding × Bool × List GBinding)) => y by funext x y; exact swF (by simp [hlen]) rfl]
  unfold imatchAll_R1
  cases hq : matchL ps ts s with
  | none =>
    rw [hq] at hl
    obtain ⟨a, b, hl⟩ := hl
    exact ⟨a, b, soL hl⟩
  | some s' =>
    rw [hq] at hl
    exact soR hl rfl
theorem iMatch_ev : ∀ p : GType, Evt fun fu => IMS fu p := by
  refine GType.ind fun k n ps ih => ?_; refine Evt.succ (Evt.succ ((Evt.list ih).imp fun fu hf t s ht hb hw => ?_))
  have hwa := wt_args k n ps
  rw [imatch_M, imatch_G, matchT]
  simp only [GType.gKind_mk, GType.gName_mk, GType.gArgs_mk]
  by_cases hk : k = 1
  · rw [if_pos hk, iLookup_fn _ s n hb]
    cases hq : bFind s n with
    | some b =>
      cases he : GType.eq b.gType t with
      | true =>
        show Res (if GType.eq b.gType t = true then some s else none) _
        rw [if_pos he]
        show _ = some (s, true, s)
        refine swT (decide_eq_true hk) (bdS rfl (swT rfl (swT he ?_)))
        simp only [he]
      | false =>
        show Res (if GType.eq b.gType t = true then some s else none) _
        rw [if_neg (by simp [he])]
        refine ⟨s, s, ?_⟩
        refine swT (decide_eq_true hk) (bdS rfl (swT rfl (swF he ?_)))
        simp only [he]
    | none =>
      show _ = some (s ++ [GBinding.mk n t], true, s ++ [GBinding.mk n t])
      exact swT (decide_eq_true hk) (bdS rfl (swF rfl (gdT ht (gdT (by simp only [List.length_singleton]; omega) rfl))))
  · rw [if_neg hk]
    by_cases h1 : k = t.gKind
    · rw [if_pos h1]
      by_cases h2 : n = t.gName
      · rw [if_pos h2]
        by_cases h3 : ps.length = t.gArgs.length
        · rw [if_pos h3]
          have ha := iAll_of hf (s := s) h3 (fun x hx => bulk_arg hx ht) hb (by omega)
          cases hq : matchL ps t.gArgs s with
          | none =>
            rw [hq] at ha
            obtain ⟨a, b, ha⟩ := ha
            exact ⟨_, _, swF (by simp [hk]) (swF (by simp [h1]) (swF (by simp [h2]) (bdS ha (swF rfl rfl))))⟩
          | some s' =>
            rw [hq] at ha
            exact swF (by simp [hk]) (swF (by simp [h1]) (swF (by simp [h2]) (bdS ha (swT rfl (gdT rfl rfl)))))
        · rw [if_neg h3]
          have ha : imatchAll_M (fu + 1) s ps t.gArgs = some ([], false, s) := by
            rw [imatchAll_M, imatchAll_G]
            exact swT (nd (fun h => h3 (Int.ofNat_inj.1 h))) rfl
          exact ⟨_, _, swF (by simp [hk]) (swF (by simp [h1]) (swF (by simp [h2]) (bdS ha (swF rfl rfl))))⟩
      · rw [if_neg h2]
        exact ⟨_, _, swF (by simp [hk]) (swF (by simp [h1]) (swT (by simp [h2]) rfl))⟩
    · rw [if_neg h1]
      exact ⟨_, _, swF (by simp [hk]) (swT (by simp [h1]) rfl)⟩

def matchB (p t : GType) : Bool := (matchT p t []).isSome
theorem BOk.nil : BOk [] := fun b hb => by simp at hb
theorem matchL_one (p t : GType) : matchL [p] [t] [] = matchT p t [] := by
  rw [matchL]
  cases hq : matchT p t [] with
  | none => simp [hq]
  | some s => simp [hq, matchL]
theorem wt_one (p : GType) : wt [p] = 1 + Tr.bulkL p.tr := by rw [wt_cons]; simp [wt, GType.trs, Tr.bulkAll]
end Go.Proofs.YtnakkelglbcecaaGreat

namespace Go.Proofs.YtnakkelglbcecaaGreat
open Go.RowKit
theorem RVL0.nil {w : World} : RVL0 w [] [] := trivial
theorem RVL0.cons {w : World} {p : PV} {ps : List PV} {v : Value} {vs : List Value} (h : RV0 w p v) (k : RVL0 w ps vs) : RVL0 w (p :: ps) (v :: vs) := ⟨h, k⟩
end Go.Proofs.YtnakkelglbcecaaGreat

namespace Go.Proofs.YtnakkelglbcecaaGreat
set_option linter.unusedSimpArgs false
set_option linter.unusedVariables false
open Go.RowKit Go.WalkArith

def lookTy (l : List GBinding) (v : ByteArray) : GType := match bFind l v with
  | some b => b.gType
  | none => .mk 0 ⟨#[]⟩ []
def lookOk (l : List GBinding) (v : ByteArray) : Bool := (bFind l v).isSome
def matchLst (p t : GType) : List GBinding := (matchT p t []).getD []
theorem sLook_fn (l : List GBinding) (v : ByteArray) (hb : BOk l) : AFun Tryz.prog 157 [.t (.row 4 (GBinding.trs l)), .t (.leaf (.string v))] (.tup [(GType.pv (lookTy l v)), .t (.leaf (.bool (lookOk l v)))]) := by
  refine sLookup_ok 0 l v (lookTy l v, lookOk l v) ?_
  rw [sLookup_fn 0 l v hb]
  unfold lookTy lookOk
  cases bFind l v <;> rfl
theorem sMatch_fn (p t : GType) (hp : Tr.bulkL p.tr ≤ 68719476735) (ht : Tr.bulkL t.tr ≤ 68719476735) : AFun Tryz.prog 102 [(GType.pv p), (GType.pv t)] (.tup [.t (.row 4 (GBinding.trs (matchLst p t))), .t (.leaf (.bool (matchB p t)))]) := by
  obtain ⟨fu, hf⟩ := (sMatch_ev p).get
  refine sMatch_ok (fu + 1) p t (matchLst p t, matchB p t) ?_
  have h1 := sAll_of (fu := fu) (ps := [p]) (by simpa using hf) (ts := [t]) (s := []) rfl (by simpa using ht) BOk.nil (by rw [wt_one]; simp only [List.length_nil]; omega)
  rw [matchL_one] at h1
  unfold sMatch_M sMatchAll_M matchB matchLst
  cases hq : matchT p t [] with
  | none =>
    rw [hq] at h1
    obtain ⟨a, b, h1⟩ := h1
    exact bdS (swF rfl (bdS h1 (swF rfl rfl))) rfl
  | some s =>
    rw [hq] at h1
    exact bdS (swF rfl (bdS h1 (swT rfl (gdT rfl rfl)))) rfl
theorem matchLst_ok (p t : GType) (ht : Tr.bulkL t.tr ≤ 68719476735) : BOk (matchLst p t) := by
  unfold matchLst
  cases hq : matchT p t [] with
  | none => exact BOk.nil
  | some s => exact (matchT_ok p t [] s hq BOk.nil ht).1
end Go.Proofs.YtnakkelglbcecaaGreat
