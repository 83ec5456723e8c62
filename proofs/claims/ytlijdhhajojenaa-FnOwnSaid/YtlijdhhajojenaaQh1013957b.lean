/- Words, rules and walks of several kinds, laid together: MaTy, PlTy, PmG, PmK, PmM. No conditions but those that each theorem states. -/
import Derived.Test.YtlijdhhajojenaaQhf3c58876
import Derived.Test.YtlijdhhajojenaaQhba1d4768
set_option linter.unusedSimpArgs false
set_option linter.unusedVariables false
namespace Go.Proofs.Ytlijdhhajojenaa
open Go.RowKit Go.Proofs
set_option linter.unusedSimpArgs false
set_option linter.unusedVariables false

attribute [local irreducible] lt

noncomputable def sEqualType_G (fu : Nat) (r_sEqualType : GType → GType → Option Bool) (r_sl4Same : (List GType) → (List GType) → Option Bool) (pa : GType) (pb : GType) : Option Bool :=
 sw (decide ((pa.gKind : Int) = pb.gKind))
 (sw (decide (pa.gName = pb.gName))
 (bd (r_sl4Same pa.gArgs pb.gArgs) (fun x6 =>
 some x6))
 (some false))
 (some false)
set_option maxRecDepth 100000 in
set_option maxHeartbeats 4000000 in
theorem sEqualType_step (r_sEqualType : GType → GType → Option Bool) (r_sl4Same : (List GType) → (List GType) → Option Bool) (fu : Nat) (h_sEqualType : ∀ (pa : GType) (pb : GType) (r : Bool), r_sEqualType pa pb = some r → AFun Try.prog 80 [(GType.pv pa), (GType.pv pb)] (.t (.leaf (.bool (r))) : PV)) (h_sl4Same : ∀ (pa : List GType) (pb : List GType) (r : Bool), r_sl4Same pa pb = some r → AFun Try.prog 117 [.t (.row 3 (GType.trs (pa))), .t (.row 3 (GType.trs (pb)))] (.t (.leaf (.bool (r))) : PV)) (pa : GType) (pb : GType) (r : Bool) (H : sEqualType_G fu r_sEqualType r_sl4Same pa pb = some r) : AFun Try.prog 80 [(GType.pv pa), (GType.pv pb)] (.t (.leaf (.bool (r))) : PV) := by
  refine ACalls.intro Try.func80 rfl (by first | decide | (simp; done) | (simp; decide)) ?_; intro C hC
  refine AWP.seq ?_; refine AWP.region_lit ?_; refine AL.cons rfl (AOp.box (cs := [.t (.leaf (.int .i64 (pa.gKind))), .t (.leaf (.string (pa.gName))), .t (.row 3 (GType.trs (pa.gArgs)))]) rfl rfl rfl rfl rfl) ?_; refine AL.cons rfl (AOp.box (cs := [.t (.leaf (.int .i64 (pb.gKind))), .t (.leaf (.string (pb.gName))), .t (.row 3 (GType.trs (pb.gArgs)))]) rfl rfl rfl rfl rfl) ?_; refine AL.cons rfl (AOp.move (.inr rfl) rfl rfl) ?_; refine AL.nil ?_; refine AWP.seq ?_; refine AWP.region_lit ?_; refine AL.cons rfl (AOp.fieldPtr (k := 0) (d := 0) (e := 0) rfl rfl rfl fo27_0) ?_; refine AL.cons rfl (AOp.loadPtr1 rfl rfl rfl rfl sh3 rfl) ?_; refine AL.cons rfl (AOp.fieldPtr (k := 1) (d := 0) (e := 0) rfl rfl rfl fo27_0) ?_; refine AL.cons rfl (AOp.loadPtr1 rfl rfl rfl rfl sh3 rfl) ?_; refine AL.cons rfl (AOp.eqlI rfl rfl rfl rfl) ?_; refine AL.cons rfl (AOp.move (.inl rfl) rfl rfl) ?_; refine AL.splitB 10 rfl (fun g1 => ?_) (fun g1 => ?_)
  · refine AL.cons_gv rfl rfl rfl g1 (AOp.fieldPtr (k := 0) (d := 0) (e := 1) rfl rfl rfl fo27_1) ?_; refine AL.cons_gv rfl rfl rfl g1 (AOp.loadPtr1 rfl rfl rfl rfl sh9 rfl) ?_; refine AL.cons_gv rfl rfl rfl g1 (AOp.fieldPtr (k := 1) (d := 0) (e := 1) rfl rfl rfl fo27_1) ?_; refine AL.cons_gv rfl rfl rfl g1 (AOp.loadPtr1 rfl rfl rfl rfl sh9 rfl) ?_; refine AL.cons_gv rfl rfl rfl g1 (AOp.eqlS rfl rfl rfl rfl) ?_; refine AL.cons rfl (AOp.pickT rfl rfl rfl g1 rfl) ?_; refine AL.cons rfl (AOp.move (.inl rfl) rfl rfl) ?_; refine AL.splitB 17 rfl (fun g2 => ?_) (fun g2 => ?_)
    · refine AL.cons_gv rfl rfl rfl g2 (AOp.fieldPtr (k := 0) (d := 0) (e := 2) rfl rfl rfl fo27_2) ?_; refine AL.cons_gv rfl rfl rfl g2 (AOp.loadPtr1 rfl rfl rfl rfl sh25 rfl) ?_; refine AL.fact (lk_lenN 19 rfl rfl (GType.trs_len _)) (fun hl3 => ?_)
      refine AL.cons_gv rfl rfl rfl g2 (AOp.fieldPtr (k := 1) (d := 0) (e := 2) rfl rfl rfl fo27_2) ?_; refine AL.cons_gv rfl rfl rfl g2 (AOp.loadPtr1 rfl rfl rfl rfl sh25 rfl) ?_; refine AL.fact (lk_lenN 21 rfl rfl (GType.trs_len _)) (fun hl4 => ?_)
      rcases hq5 : r_sl4Same pa.gArgs pb.gArgs with _ | x6
      · have e7 : sEqualType_G fu r_sEqualType r_sl4Same pa pb = none := swT g1 (swT g2 (bdN hq5))
        exact none_some H e7
      · refine AL.cons_gv rfl rfl rfl g2 (AOp.callF (res := .t (.leaf (.bool (x6)))) (ps := [_, _]) rfl rfl Try.func117 (by kernel_rfl) rfl rfl leA rfl rfl (h_sl4Same pa.gArgs pb.gArgs _ hq5)) ?_; refine AL.cons rfl (AOp.pickT rfl rfl rfl g2 rfl) ?_; refine AL.cons rfl (AOp.move (.inr rfl) rfl rfl) ?_; refine AL.nil ?_; refine AWP.ret ?_
        have e8 : sEqualType_G fu r_sEqualType r_sl4Same pa pb = some x6 := swT g1 (swT g2 (bdS hq5 (rfl)))
        have hz : x6 = r := Option.some.inj (e8.symm.trans H)
        subst hz
        exact Ends.mk (ps := [_]) (by first | exact .inr rfl | exact .inl rfl) ⟨rfl, trivial⟩ rfl (StLe.mk' (st' := ⟨[], []⟩) trivial rfl) (keeps_nil hC) (q := (.t (.leaf (.bool (x6))) : PV)) leA rfl ⟨rfl, rfl⟩
    · refine AL.skipP rfl rfl rfl g2 rfl rfl ?_; refine AL.skipP rfl rfl rfl g2 rfl rfl ?_; refine AL.skipP rfl rfl rfl g2 rfl rfl ?_; refine AL.skipP rfl rfl rfl g2 rfl rfl ?_; refine AL.skipP rfl rfl rfl g2 rfl rfl ?_; refine AL.cons rfl (AOp.pickF rfl rfl rfl g2 rfl) ?_; refine AL.cons rfl (AOp.move (.inr rfl) rfl rfl) ?_; refine AL.nil ?_; refine AWP.ret ?_
      have e9 : sEqualType_G fu r_sEqualType r_sl4Same pa pb = some false := swT g1 (swF g2 (rfl))
      have hz : false = r := Option.some.inj (e9.symm.trans H)
      subst hz
      exact Ends.mk (ps := [_]) (by first | exact .inr rfl | exact .inl rfl) ⟨rfl, trivial⟩ rfl (StLe.mk' (st' := ⟨[], []⟩) trivial rfl) (keeps_nil hC) (q := (.t (.leaf (.bool (false))) : PV)) leA rfl ⟨rfl, rfl⟩
  · refine AL.skipP rfl rfl rfl g1 rfl rfl ?_; refine AL.skipP rfl rfl rfl g1 rfl rfl ?_; refine AL.skipP rfl rfl rfl g1 rfl rfl ?_; refine AL.skipP rfl rfl rfl g1 rfl rfl ?_; refine AL.skipP rfl rfl rfl g1 rfl rfl ?_; refine AL.cons rfl (AOp.pickF rfl rfl rfl g1 rfl) ?_; refine AL.cons rfl (AOp.move (.inl rfl) rfl rfl) ?_; refine AL.skipP rfl rfl rfl rfl rfl rfl ?_; refine AL.skipP rfl rfl rfl rfl rfl rfl ?_; refine AL.skipP rfl rfl rfl rfl rfl rfl ?_; refine AL.skipP rfl rfl rfl rfl rfl rfl ?_; refine AL.skipP rfl rfl rfl rfl rfl rfl ?_; refine AL.cons rfl (AOp.pickF rfl rfl rfl rfl rfl) ?_; refine AL.cons rfl (AOp.move (.inr rfl) rfl rfl) ?_; refine AL.nil ?_; refine AWP.ret ?_
    have e10 : sEqualType_G fu r_sEqualType r_sl4Same pa pb = some false := swF g1 (rfl)
    have hz : false = r := Option.some.inj (e10.symm.trans H)
    subst hz
    exact Ends.mk (ps := [_]) (by first | exact .inr rfl | exact .inl rfl) ⟨rfl, trivial⟩ rfl (StLe.mk' (st' := ⟨[], []⟩) trivial rfl) (keeps_nil hC) (q := (.t (.leaf (.bool (false))) : PV)) leA rfl ⟨rfl, rfl⟩
noncomputable def sl4Same_F1 (fu : Nat) (r_sEqualType : GType → GType → Option Bool) (r_sl4Same : (List GType) → (List GType) → Option Bool) (pa : List GType) (pb : List GType) : Nat → Unit → Option (LR Unit Bool) :=
 fun i5 _ => gd (i5 < (pb).length)
 (bd (r_sEqualType (atD pa i5) (atD pb i5)) (fun x10 =>
 sw (!(x10))
 (some (.ret false))
 (some (.next ()))))
noncomputable def sl4Same_R1 (fu : Nat) (r_sEqualType : GType → GType → Option Bool) (r_sl4Same : (List GType) → (List GType) → Option Bool) (pa : List GType) (pb : List GType) : Option (Bool ⊕ Unit) :=
 loopN (sl4Same_F1 fu r_sEqualType r_sl4Same pa pb) (pa.length - 0) 0 ()
noncomputable def sl4Same_G (fu : Nat) (r_sEqualType : GType → GType → Option Bool) (r_sl4Same : (List GType) → (List GType) → Option Bool) (pa : List GType) (pb : List GType) : Option Bool :=
 sw (!decide ((((pa.length : Nat) : Int) : Int) = ((pb.length : Nat) : Int)))
 (some false)
 (so (sl4Same_R1 fu r_sEqualType r_sl4Same pa pb) (fun _ =>
 some true))
set_option maxRecDepth 100000 in
set_option maxHeartbeats 4000000 in
theorem sl4Same_step (r_sEqualType : GType → GType → Option Bool) (r_sl4Same : (List GType) → (List GType) → Option Bool) (fu : Nat) (h_sEqualType : ∀ (pa : GType) (pb : GType) (r : Bool), r_sEqualType pa pb = some r → AFun Try.prog 80 [(GType.pv pa), (GType.pv pb)] (.t (.leaf (.bool (r))) : PV)) (h_sl4Same : ∀ (pa : List GType) (pb : List GType) (r : Bool), r_sl4Same pa pb = some r → AFun Try.prog 117 [.t (.row 3 (GType.trs (pa))), .t (.row 3 (GType.trs (pb)))] (.t (.leaf (.bool (r))) : PV)) (pa : List GType) (pb : List GType) (r : Bool) (H : sl4Same_G fu r_sEqualType r_sl4Same pa pb = some r) : AFun Try.prog 117 [.t (.row 3 (GType.trs (pa))), .t (.row 3 (GType.trs (pb)))] (.t (.leaf (.bool (r))) : PV) := by
  refine ACalls.intro Try.func117 rfl (by first | decide | (simp; done) | (simp; decide)) ?_; intro C hC
  refine AWP.fact (lk_lenN 0 rfl rfl (GType.trs_len _)) (fun hl1 => ?_)
  refine AWP.fact (lk_lenN 1 rfl rfl (GType.trs_len _)) (fun hl2 => ?_)
  refine AWP.seq ?_; refine AWP.region_lit ?_; refine AL.cons rfl (AOp.move (.inr rfl) rfl rfl) ?_; refine AL.nil ?_; refine AWP.seq ?_; refine AWP.seq ?_; refine AWP.region_lit ?_; refine AL.cons rfl (AOp.move (.inl rfl) rfl rfl) ?_; refine AL.cons rfl (AOp.lenN rfl rfl rfl rfl el25 (GType.trs_len _)) ?_; refine AL.cons rfl (AOp.move (.inl rfl) rfl rfl) ?_; refine AL.cons rfl (AOp.lenN rfl rfl rfl rfl el25 (GType.trs_len _)) ?_; refine AL.cons rfl (AOp.neqI rfl rfl rfl rfl) ?_; refine AL.nil ?_; refine AWP.cond rfl (fun h3 => ?_) (fun h3 => ?_)
  · refine AWP.seq ?_; refine AWP.region_lit ?_; refine AL.cons rfl (AOp.move (.inr rfl) rfl rfl) ?_; refine AL.nil ?_; refine AWP.ret ?_
    have e4 : sl4Same_G fu r_sEqualType r_sl4Same pa pb = some false := swT h3 (rfl)
    have hz : false = r := Option.some.inj (e4.symm.trans H)
    subst hz
    exact Ends.mk (ps := [_]) (by first | exact .inr rfl | exact .inl rfl) ⟨rfl, trivial⟩ rfl (StLe.mk' (st' := ⟨[], []⟩) trivial rfl) (keeps_nil hC) (q := (.t (.leaf (.bool (false))) : PV)) leA rfl ⟨rfl, rfl⟩
  · refine AWP.skip ?_; refine AWP.seq ?_; refine AWP.seq ?_; refine AWP.region_lit ?_; refine AL.cons rfl (AOp.move (.inr rfl) rfl rfl) ?_; refine AL.nil ?_; refine AWP.cut (ι := Unit) (fun _ => sl4Same_R1 fu r_sEqualType r_sl4Same pa pb = some (.inr ())) (fun _ => ⟨[(4, .t (.leaf (.bool (false))))], ⟨[], []⟩⟩) (by repeat' (first | exact qcEnds | exact ncAWP | exact ncRound | exact ncEx | apply qcThen | apply qcBlock | apply qcCut)) ?_ ?_
    · refine AWP.block ?_; refine AWP.loopR (ι := Nat × Unit) (fun (i5, _) => sl4Same_R1 fu r_sEqualType r_sl4Same pa pb = loopN (sl4Same_F1 fu r_sEqualType r_sl4Same pa pb) (pa.length - i5) i5 ()) (fun (i5, _) => ⟨[(0, .t (.row 3 (GType.trs (pa)))), (1, .t (.row 3 (GType.trs (pb)))), (4, .t (.leaf (.bool (false)))), (5, .t (.leaf (.int .i64 (((i5 : Nat) : Int)))))], ⟨[], []⟩⟩) (fun (i5, _) => pa.length - i5) (0, ()) ?_ ?_ ?_
      · exact rfl
      · exact Wk.mk (StLe.mk' trivial rfl) (keeps_nil hC) ⟨⟨_, rfl, .refl _, rfl⟩, ⟨⟨_, rfl, .refl _, rfl⟩, ⟨⟨_, rfl, .refl _, rfl⟩, ⟨⟨_, rfl, leA, rfl⟩, trivial⟩⟩⟩⟩
      · rintro ⟨i5, ⟨⟩⟩ hJ6
        refine AWP.seq ?_; refine AWP.seq ?_; refine AWP.region_lit ?_; refine AL.cons rfl (AOp.move (.inl rfl) rfl rfl) ?_; refine AL.cons rfl (AOp.move (.inl rfl) rfl rfl) ?_; refine AL.cons rfl (AOp.lenN rfl rfl rfl rfl el25 (GType.trs_len _)) ?_; refine AL.cons rfl (AOp.lss rfl rfl rfl rfl) ?_; refine AL.nil ?_; refine AWP.cond rfl (fun h7 => ?_) (fun h7 => ?_)
        · have h7l : i5 < pa.length := nat_lt_of2 h7
          have h7n := nat_lt_of h7
          refine AWP.skip ?_; refine AWP.seq ?_; refine AWP.block ?_; refine AWP.seq ?_
          rcases Classical.em (i5 < (pb).length) with hg8 | hg8
          · rcases hq9 : r_sEqualType (atD pa i5) (atD pb i5) with _ | x10
            · have e11 : (sl4Same_F1 fu r_sEqualType r_sl4Same pa pb) i5 () = none := gdT hg8 (bdN hq9)
              have e12 : sl4Same_R1 fu r_sEqualType r_sl4Same pa pb = none := loopN_non h7l hJ6 e11
              have e13 : sl4Same_G fu r_sEqualType r_sl4Same pa pb = none := swF h3 (soN e12)
              exact none_some H e13
            · refine AWP.drawnL ⟨_, _, fun _ _ => (⟨[], []⟩ : Sto), fun q' => ([some (.t (.row 3 (GType.trs (pa)))), some (.t (.leaf (.int .i64 (((i5 : Nat) : Int))))), some (.eptr (GType.cs (atD pa i5))), some ((GType.pv (atD pa i5))), some (.t (.row 3 (GType.trs (pb)))), some (.t (.leaf (.int .i64 (((i5 : Nat) : Int))))), some (.eptr (GType.cs (atD pb i5))), some ((GType.pv (atD pb i5))), some (.t (.leaf (.bool (x10)))), some (.t (.leaf (.bool (!(x10)))))] : List (Option PV)).getD q' none, fun q' => ([.q 0 0, .q 0 0, .q 0 0, .q 0 0, .q 0 0, .q 0 0, .q 0 0, .q 0 0, .q 0 0, .q 0 0] : List DK).getD q' (.q 0 0), [], none, fun q' => ([[(0, none)], [(5, none)], [(17, some 0), (18, some 1)], [(19, some 2)], [(1, none)], [(5, none)], [(21, some 4), (22, some 5)], [(23, some 6)], [(24, some 7), (20, some 3)], [(25, some 8)]] : List (List (Nat × Option Nat))).getD q' []⟩ rfl mixed (by kernel_rfl) rfl rfl ⟨?_, ?_, ?_, ?_, ?_, ?_, ?_, ?_, ?_, ?_, trivial⟩ rfl ?_
              · exact Draw.step.q1 0 rfl rfl fun s' bb hs hl => ⟨_, rfl, AOp.move (.inl rfl) rfl (hl 0 none _ (.head _) rfl)⟩
              · exact Draw.step.q1 0 rfl rfl fun s' bb hs hl => ⟨_, rfl, AOp.move (.inl rfl) rfl (hl 5 none _ (.head _) rfl)⟩
              · exact Draw.step.q1 0 rfl rfl fun s' bb hs hl => ⟨_, rfl, AOp.index (k := i5) rfl rfl (hl 17 (some 0) _ (.head _) rfl) rfl (hl 18 (some 1) _ (.tail _ (.head _)) rfl) (GType.trs_at h7n) el25⟩
              · exact Draw.step.q1 0 rfl rfl fun s' bb hs hl => ⟨_, rfl, AOp.loadEptr (ds := [.leaf (.int .i64 ((atD pa i5).gKind)), .leaf (.string ((atD pa i5).gName)), .row 3 (GType.trs ((atD pa i5).gArgs))]) rfl rfl (hl 19 (some 2) _ (.head _) rfl) sh27 rfl rfl⟩
              · exact Draw.step.q1 0 rfl rfl fun s' bb hs hl => ⟨_, rfl, AOp.move (.inl rfl) rfl (hl 1 none _ (.head _) rfl)⟩
              · exact Draw.step.q1 0 rfl rfl fun s' bb hs hl => ⟨_, rfl, AOp.move (.inl rfl) rfl (hl 5 none _ (.head _) rfl)⟩
              · exact Draw.step.q1 0 rfl rfl fun s' bb hs hl => ⟨_, rfl, AOp.index (k := i5) rfl rfl (hl 21 (some 4) _ (.head _) rfl) rfl (hl 22 (some 5) _ (.tail _ (.head _)) rfl) (GType.trs_at hg8) el25⟩
              · exact Draw.step.q1 0 rfl rfl fun s' bb hs hl => ⟨_, rfl, AOp.loadEptr (ds := [.leaf (.int .i64 ((atD pb i5).gKind)), .leaf (.string ((atD pb i5).gName)), .row 3 (GType.trs ((atD pb i5).gArgs))]) rfl rfl (hl 23 (some 6) _ (.head _) rfl) sh27 rfl rfl⟩
              · exact Draw.step.q1 0 rfl rfl fun s' bb hs hl => ⟨_, rfl, AOp.callF (res := .t (.leaf (.bool (x10)))) (ps := [_, _]) rfl rfl Try.func80 (by kernel_rfl) rfl (evs_cons (hl 20 (some 3) _ (.tail _ (.head _)) rfl) (evs_cons (hl 24 (some 7) _ (.head _) rfl) rfl)) leA rfl rfl (h_sEqualType (atD pa i5) (atD pb i5) _ hq9)⟩
              · exact Draw.step.q1 0 rfl rfl fun s' bb hs hl => ⟨_, rfl, AOp.notB rfl rfl (hl 25 (some 8) _ (.head _) rfl)⟩
              refine AWP.cond rfl (fun h14 => ?_) (fun h14 => ?_)
              · refine AWP.seq ?_; refine AWP.region_lit ?_; refine AL.cons rfl (AOp.move (.inr rfl) rfl rfl) ?_; refine AL.nil ?_; refine AWP.ret ?_
                have e15 : (sl4Same_F1 fu r_sEqualType r_sl4Same pa pb) i5 () = some (.ret false) := gdT hg8 (bdS hq9 (swT h14 (rfl)))
                have e16 : sl4Same_R1 fu r_sEqualType r_sl4Same pa pb = some (.inl false) := loopN_ret h7l hJ6 e15
                have e17 : sl4Same_G fu r_sEqualType r_sl4Same pa pb = some false := swF h3 (soL e16)
                have hz : false = r := Option.some.inj (e17.symm.trans H)
                subst hz
                exact Ends.mk (ps := [_]) (by first | exact .inr rfl | exact .inl rfl) ⟨rfl, trivial⟩ rfl (StLe.mk' (st' := ⟨[], []⟩) trivial rfl) (keeps_nil hC) (q := (.t (.leaf (.bool (false))) : PV)) leA rfl ⟨rfl, rfl⟩
              · refine AWP.skip ?_; refine AWP.region_lit ?_; refine AL.cons rfl (AOp.move (.inl rfl) rfl rfl) ?_; refine AL.cons rfl (AOp.addI rfl rfl rfl rfl (c := ((i5 + 1 : Nat) : Int)) (by omega) (by omega)) ?_; refine AL.cons rfl (AOp.move (.inr rfl) rfl rfl) ?_; refine AL.nil ?_
                have e18 : (sl4Same_F1 fu r_sEqualType r_sl4Same pa pb) i5 () = some (.next ()) := gdT hg8 (bdS hq9 (swF h14 (rfl)))
                refine ⟨(i5 + 1, ()), loopN_next h7l hJ6 e18, ?_, ?_⟩
                · exact Wk.mk (StLe.mk' trivial rfl) (keeps_nil hC) ⟨⟨_, rfl, .refl _, rfl⟩, ⟨⟨_, rfl, .refl _, rfl⟩, ⟨⟨_, rfl, .refl _, rfl⟩, ⟨⟨_, rfl, leA, rfl⟩, trivial⟩⟩⟩⟩
                · dsimp only; omega
          · have e19 : (sl4Same_F1 fu r_sEqualType r_sl4Same pa pb) i5 () = none := gdF hg8
            have e20 : sl4Same_R1 fu r_sEqualType r_sl4Same pa pb = none := loopN_non h7l hJ6 e19
            have e21 : sl4Same_G fu r_sEqualType r_sl4Same pa pb = none := swF h3 (soN e20)
            exact none_some H e21
        · have h7l : pa.length ≤ i5 := nat_ge_of2 h7
          refine AWP.exit ?_; refine ⟨(), loopN_end h7l hJ6, ?_⟩
          exact Wk.mk (StLe.mk' trivial rfl) (keeps_nil hC) ⟨⟨_, rfl, .refl _, rfl⟩, trivial⟩
    · rintro ⟨⟩ hR22
      refine AWP.seq ?_; refine AWP.region_lit ?_; refine AL.cons rfl (AOp.move (.inr rfl) rfl rfl) ?_; refine AL.nil ?_; refine AWP.ret ?_
      have e23 : sl4Same_G fu r_sEqualType r_sl4Same pa pb = some true := swF h3 (soR hR22 (rfl))
      have hz : true = r := Option.some.inj (e23.symm.trans H)
      subst hz
      exact Ends.mk (ps := [_]) (by first | exact .inr rfl | exact .inl rfl) ⟨rfl, trivial⟩ rfl (StLe.mk' (st' := ⟨[], []⟩) trivial rfl) (keeps_nil hC) (q := (.t (.leaf (.bool (true))) : PV)) leA rfl ⟨rfl, rfl⟩
mutual
noncomputable def sEqualType_M : Nat → GType → GType → Option Bool
  | 0, _, _ => none
  | fu + 1, pa, pb => sEqualType_G fu (sEqualType_M fu) (sl4Same_M fu) pa pb
noncomputable def sl4Same_M : Nat → (List GType) → (List GType) → Option Bool
  | 0, _, _ => none
  | fu + 1, pa, pb => sl4Same_G fu (sEqualType_M fu) (sl4Same_M fu) pa pb
end
theorem sEqualType_all (fu : Nat) : (∀ (pa : GType) (pb : GType) (r : Bool), sEqualType_M fu pa pb = some r → AFun Try.prog 80 [(GType.pv pa), (GType.pv pb)] (.t (.leaf (.bool (r))) : PV)) ∧ (∀ (pa : List GType) (pb : List GType) (r : Bool), sl4Same_M fu pa pb = some r → AFun Try.prog 117 [.t (.row 3 (GType.trs (pa))), .t (.row 3 (GType.trs (pb)))] (.t (.leaf (.bool (r))) : PV)) := by
  induction fu with
  | zero => exact ⟨(fun pa pb r H => by simp only [sEqualType_M] at H; cases H), (fun pa pb r H => by simp only [sl4Same_M] at H; cases H)⟩
  | succ fu ih => exact ⟨(fun pa pb r H => by simp only [sEqualType_M] at H; exact sEqualType_step (sEqualType_M fu) (sl4Same_M fu) fu ih.1 ih.2 pa pb r H), (fun pa pb r H => by simp only [sl4Same_M] at H; exact sl4Same_step (sEqualType_M fu) (sl4Same_M fu) fu ih.1 ih.2 pa pb r H)⟩
theorem sEqualType_ok (fu : Nat) (pa : GType) (pb : GType) (r : Bool) (H : sEqualType_M fu pa pb = some r) : AFun Try.prog 80 [(GType.pv pa), (GType.pv pb)] (.t (.leaf (.bool (r))) : PV) := (sEqualType_all fu).1 pa pb r H
noncomputable def sl4Copy_G (fu : Nat) (r_sl4Copy : GType → Option GType) (r_sl4Copies : (List GType) → Option ((List GType))) (pt : GType) : Option GType :=
 bd (r_sl4Copies pt.gArgs) (fun x2 =>
 some (GType.mk pt.gKind pt.gName x2))
set_option maxRecDepth 100000 in
set_option maxHeartbeats 4000000 in
theorem sl4Copy_step (r_sl4Copy : GType → Option GType) (r_sl4Copies : (List GType) → Option ((List GType))) (fu : Nat) (h_sl4Copy : ∀ (pt : GType) (r : GType), r_sl4Copy pt = some r → AFun Try.prog 76 [(GType.pv pt)] ((GType.pv r) : PV)) (h_sl4Copies : ∀ (plist : List GType) (r : (List GType)), r_sl4Copies plist = some r → AFun Try.prog 116 [.t (.row 3 (GType.trs (plist)))] (.t (.row 3 (GType.trs (r))) : PV)) (pt : GType) (r : GType) (H : sl4Copy_G fu r_sl4Copy r_sl4Copies pt = some r) : AFun Try.prog 76 [(GType.pv pt)] ((GType.pv r) : PV) := by
  refine ACalls.intro Try.func76 rfl (by first | decide | (simp; done) | (simp; decide)) ?_; intro C hC
  refine AWP.seq ?_; refine AWP.region_lit ?_; refine AL.cons rfl (AOp.box (cs := [.t (.leaf (.int .i64 (pt.gKind))), .t (.leaf (.string (pt.gName))), .t (.row 3 (GType.trs (pt.gArgs)))]) rfl rfl rfl rfl rfl) ?_; refine AL.cons rfl (AOp.alloc rfl rfl zr27) ?_; refine AL.nil ?_; refine AWP.seq ?_
  rcases hq1 : r_sl4Copies pt.gArgs with _ | x2
  · have e3 : sl4Copy_G fu r_sl4Copy r_sl4Copies pt = none := bdN hq1
    exact none_some H e3
  · refine AWP.drawnL ⟨_, _, fun j' _ => ([(⟨[some ⟨27, [.t (.leaf (.int .i64 (pt.gKind))), .t (.leaf (.string (pt.gName))), .t (.row 3 (GType.trs (pt.gArgs)))]⟩, some ⟨27, [.t (.leaf (.int .i64 (0))), .t (.leaf (.string (⟨#[]⟩))), .nil]⟩], []⟩ : Sto), (⟨[some ⟨27, [.t (.leaf (.int .i64 (pt.gKind))), .t (.leaf (.string (pt.gName))), .t (.row 3 (GType.trs (pt.gArgs)))]⟩, some ⟨27, [.t (.leaf (.int .i64 (pt.gKind))), .t (.leaf (.string (pt.gName))), .t (.row 3 (GType.trs (x2)))]⟩], []⟩ : Sto)] : List Sto).getD j' (⟨[some ⟨27, [.t (.leaf (.int .i64 (pt.gKind))), .t (.leaf (.string (pt.gName))), .t (.row 3 (GType.trs (pt.gArgs)))]⟩, some ⟨27, [.t (.leaf (.int .i64 (pt.gKind))), .t (.leaf (.string (pt.gName))), .t (.row 3 (GType.trs (x2)))]⟩], []⟩ : Sto), fun q' => ([some (.ptr 0 0), some (.t (.leaf (.int .i64 (pt.gKind)))), some (.ptr 0 1), some (.t (.leaf (.string (pt.gName)))), some (.ptr 0 2), some (.t (.row 3 (GType.trs (pt.gArgs)))), some (.t (.row 3 (GType.trs (x2)))), some (.agg [.t (.leaf (.int .i64 (pt.gKind))), .t (.leaf (.string (pt.gName))), .t (.row 3 (GType.trs (x2)))]), none] : List (Option PV)).getD q' none, fun q' => ([.q 0 0, .q 0 0, .q 0 0, .q 0 0, .q 0 0, .q 0 0, .q 0 0, .q 0 0, .ef 0] : List DK).getD q' (.q 0 0), [8], none, fun q' => ([[(1, none)], [(3, some 0)], [(1, none)], [(5, some 2)], [(1, none)], [(7, some 4)], [(8, some 5)], [(9, some 6), (6, some 3), (4, some 1)], [(2, none), (10, some 7)]] : List (List (Nat × Option Nat))).getD q' []⟩ rfl mixed (by kernel_rfl) rfl rfl ⟨?_, ?_, ?_, ?_, ?_, ?_, ?_, ?_, ?_, trivial⟩ rfl ?_
    · exact Draw.step.q1 0 rfl rfl fun s' bb hs hl => ⟨_, rfl, AOp.fieldPtr (k := 0) (d := 0) (e := 0) rfl rfl (hl 1 none _ (.head _) rfl) fo27_0⟩
    · exact Draw.step.q1 0 rfl rfl fun s' bb hs hl => ⟨_, rfl, AOp.loadPtr1 rfl rfl (hl 3 (some 0) _ (.head _) rfl) (by rw [hs]; rfl) sh3 rfl⟩
    · exact Draw.step.q1 0 rfl rfl fun s' bb hs hl => ⟨_, rfl, AOp.fieldPtr (k := 0) (d := 0) (e := 1) rfl rfl (hl 1 none _ (.head _) rfl) fo27_1⟩
    · exact Draw.step.q1 0 rfl rfl fun s' bb hs hl => ⟨_, rfl, AOp.loadPtr1 rfl rfl (hl 5 (some 2) _ (.head _) rfl) (by rw [hs]; rfl) sh9 rfl⟩
    · exact Draw.step.q1 0 rfl rfl fun s' bb hs hl => ⟨_, rfl, AOp.fieldPtr (k := 0) (d := 0) (e := 2) rfl rfl (hl 1 none _ (.head _) rfl) fo27_2⟩
    · exact Draw.step.q1 0 rfl rfl fun s' bb hs hl => ⟨_, rfl, AOp.loadPtr1 rfl rfl (hl 7 (some 4) _ (.head _) rfl) (by rw [hs]; rfl) sh25 rfl⟩
    · exact Draw.step.q1 0 rfl rfl fun s' bb hs hl => ⟨_, rfl, AOp.callF (res := .t (.row 3 (GType.trs (x2)))) (ps := [_]) rfl rfl Try.func116 (by kernel_rfl) rfl (evs_cons (hl 8 (some 5) _ (.head _) rfl) rfl) leA rfl rfl (h_sl4Copies pt.gArgs _ hq1)⟩
    · exact Draw.step.q1 0 rfl rfl fun s' bb hs hl => ⟨_, rfl, AOp.build rfl rfl zr27 pl27 (parts_cons (hl 4 (some 1) _ (.tail _ (.tail _ (.head _))) rfl) rfl rfl (parts_cons (hl 6 (some 3) _ (.tail _ (.head _)) rfl) rfl rfl (parts_cons (hl 9 (some 6) _ (.head _) rfl) rfl rfl rfl))) rfl⟩
    · refine .inl ⟨rfl, fun s' bb hs hl => ?_⟩
      refine .inr ⟨rfl, AOp.congr (AOp.storePtr (cs := [.t (.leaf (.int .i64 (pt.gKind))), .t (.leaf (.string (pt.gName))), .t (.row 3 (GType.trs (x2)))]) (ds := [.t (.leaf (.int .i64 (pt.gKind))), .t (.leaf (.string (pt.gName))), .t (.row 3 (GType.trs (x2)))]) rfl (hl 2 none _ (.head _) rfl) (by rw [hs]; rfl) (hl 10 (some 7) _ (.tail _ (.head _)) rfl) rfl rfl rfl sz27 (Nat.le_of_ble_eq_true rfl) rfl) ?_⟩
      first | (rw [hs]; rfl) | rfl
    refine AWP.ret ?_
    have e4 : sl4Copy_G fu r_sl4Copy r_sl4Copies pt = some (GType.mk pt.gKind pt.gName x2) := bdS hq1 (rfl)
    have hz : (GType.mk pt.gKind pt.gName x2) = r := Option.some.inj (e4.symm.trans H)
    subst hz
    exact Ends.mk (ps := [_]) (by first | exact .inr rfl | exact .inl rfl) ⟨⟨_, _, _, rfl, rfl, sh27, rfl, rfl⟩, trivial⟩ rfl (StLe.mk' (st' := ⟨[], []⟩) trivial rfl) (keeps_nil hC) (q := ((GType.pv (GType.mk pt.gKind pt.gName x2)) : PV)) leA rfl ⟨rfl, rfl⟩
noncomputable def sl4Copies_F1 (fu : Nat) (r_sl4Copy : GType → Option GType) (r_sl4Copies : (List GType) → Option ((List GType))) (plist : List GType) : Nat → ((List GType)) → Option (LR ((List GType)) ((List GType))) :=
 fun i2 v4 => bd (r_sl4Copy (atD plist i2)) (fun x9 =>
 gd ((v4).length + (([x9] : List GType)).length ≤ 68719476736)
 (some (.next (v4 ++ ([x9] : List GType)))))
noncomputable def sl4Copies_R1 (fu : Nat) (r_sl4Copy : GType → Option GType) (r_sl4Copies : (List GType) → Option ((List GType))) (plist : List GType) : Option (((List GType)) ⊕ ((List GType))) :=
 loopN (sl4Copies_F1 fu r_sl4Copy r_sl4Copies plist) (plist.length - 0) 0 ([])
noncomputable def sl4Copies_G (fu : Nat) (r_sl4Copy : GType → Option GType) (r_sl4Copies : (List GType) → Option ((List GType))) (plist : List GType) : Option ((List GType)) :=
 so (sl4Copies_R1 fu r_sl4Copy r_sl4Copies plist) (fun v4 =>
 some v4)
set_option maxRecDepth 100000 in
set_option maxHeartbeats 4000000 in
theorem sl4Copies_step (r_sl4Copy : GType → Option GType) (r_sl4Copies : (List GType) → Option ((List GType))) (fu : Nat) (h_sl4Copy : ∀ (pt : GType) (r : GType), r_sl4Copy pt = some r → AFun Try.prog 76 [(GType.pv pt)] ((GType.pv r) : PV)) (h_sl4Copies : ∀ (plist : List GType) (r : (List GType)), r_sl4Copies plist = some r → AFun Try.prog 116 [.t (.row 3 (GType.trs (plist)))] (.t (.row 3 (GType.trs (r))) : PV)) (plist : List GType) (r : (List GType)) (H : sl4Copies_G fu r_sl4Copy r_sl4Copies plist = some r) : AFun Try.prog 116 [.t (.row 3 (GType.trs (plist)))] (.t (.row 3 (GType.trs (r))) : PV) := by
  refine ACalls.intro Try.func116 rfl (by first | decide | (simp; done) | (simp; decide)) ?_; intro C hC
  refine AWP.fact (lk_lenN 0 rfl rfl (GType.trs_len _)) (fun hl1 => ?_)
  refine AWP.seq ?_; refine AWP.region_lit ?_; refine AL.cons rfl (AOp.move (.inr rfl) rfl rfl) ?_; refine AL.nil ?_; refine AWP.seq ?_; refine AWP.region_lit ?_; refine AL.cons rfl (AOp.buildSliceA (es := []) (es' := GType.trs ([])) (cs := []) rfl rfl el25 zr27 rfl rfl leA rfl (by simp [GType.cs]) (by decide) rfl (by decide) (by simp [GType.trs_map, GType.tr_cs])) ?_; refine AL.cons rfl (AOp.move (.inr rfl) rfl rfl) ?_; refine AL.nil ?_; refine AWP.seq ?_; refine AWP.seq ?_; refine AWP.region_lit ?_; refine AL.cons rfl (AOp.move (.inr rfl) rfl rfl) ?_; refine AL.nil ?_; refine AWP.fact (lk_lenN 3 rfl rfl (GType.trs_len _)) (fun hl5 => ?_)
  refine AWP.cut (ι := (List GType)) (fun v4 => sl4Copies_R1 fu r_sl4Copy r_sl4Copies plist = some (.inr v4)) (fun v4 => ⟨[(2, .nil), (3, .acc 3 (GType.trs (v4)) 0)], ⟨[], [⟨27, 3, GType.trs (v4), false⟩]⟩⟩) (by repeat' (first | exact qcEnds | exact ncAWP | exact ncRound | exact ncEx | apply qcThen | apply qcBlock | apply qcCut)) ?_ ?_
  · refine AWP.block ?_; refine AWP.loopR (ι := Nat × ((List GType))) (fun (i2, v4) => sl4Copies_R1 fu r_sl4Copy r_sl4Copies plist = loopN (sl4Copies_F1 fu r_sl4Copy r_sl4Copies plist) (plist.length - i2) i2 v4) (fun (i2, v4) => ⟨[(0, .t (.row 3 (GType.trs (plist)))), (2, .nil), (3, .acc 3 (GType.trs (v4)) 0), (4, .t (.leaf (.int .i64 (((i2 : Nat) : Int)))))], ⟨[], [⟨27, 3, GType.trs (v4), false⟩]⟩⟩) (fun (i2, v4) => plist.length - i2) (0, ([])) ?_ ?_ ?_
    · exact rfl
    · exact Wk.mk (StLe.mk' trivial (by first | rfl | simp)) (keeps_nil hC) ⟨⟨_, rfl, .refl _, rfl⟩, ⟨⟨_, rfl, .refl _, rfl⟩, ⟨⟨_, rfl, leA, rfl⟩, ⟨⟨_, rfl, leA, rfl⟩, trivial⟩⟩⟩⟩
    · rintro ⟨i2, v4⟩ hJ6
      refine AWP.seq ?_; refine AWP.seq ?_; refine AWP.region_lit ?_; refine AL.cons rfl (AOp.move (.inl rfl) rfl rfl) ?_; refine AL.cons rfl (AOp.move (.inl rfl) rfl rfl) ?_; refine AL.cons rfl (AOp.lenN rfl rfl rfl rfl el25 (GType.trs_len _)) ?_; refine AL.cons rfl (AOp.lss rfl rfl rfl rfl) ?_; refine AL.nil ?_; refine AWP.cond rfl (fun h7 => ?_) (fun h7 => ?_)
      · have h7l : i2 < plist.length := nat_lt_of2 h7
        have h7n := nat_lt_of h7
        refine AWP.skip ?_; refine AWP.seq ?_; refine AWP.block ?_; refine AWP.region_lit ?_; refine AL.cons rfl (AOp.move (.inl rfl) rfl rfl) ?_; refine AL.cons rfl (AOp.move (.inl rfl) rfl rfl) ?_; refine AL.cons rfl (AOp.move (.inl rfl) rfl rfl) ?_; refine AL.cons rfl (AOp.index (k := i2) rfl rfl rfl rfl rfl (GType.trs_at h7n) el25) ?_; refine AL.cons rfl (AOp.loadEptr (ds := [.leaf (.int .i64 ((atD plist i2).gKind)), .leaf (.string ((atD plist i2).gName)), .row 3 (GType.trs ((atD plist i2).gArgs))]) rfl rfl rfl sh27 rfl rfl) ?_
        rcases hq8 : r_sl4Copy (atD plist i2) with _ | x9
        · have e10 : (sl4Copies_F1 fu r_sl4Copy r_sl4Copies plist) i2 v4 = none := bdN hq8
          have e11 : sl4Copies_R1 fu r_sl4Copy r_sl4Copies plist = none := loopN_non h7l hJ6 e10
          have e12 : sl4Copies_G fu r_sl4Copy r_sl4Copies plist = none := soN e11
          exact none_some H e12
        · refine AL.cons rfl (AOp.callF (res := (GType.pv x9)) (ps := [_]) rfl rfl Try.func76 (by kernel_rfl) rfl rfl leA rfl rfl (h_sl4Copy (atD plist i2) _ hq8)) ?_; refine AL.cons rfl (AOp.buildSliceE (es := [GType.cs x9]) (es' := GType.trs (([x9] : List GType))) (cs := [.t (.leaf (.int .i64 (x9.gKind))), .t (.leaf (.string (x9.gName))), .t (.row 3 (GType.trs (x9.gArgs)))]) rfl rfl el25 zr27 rfl rfl leA rfl (by simp [GType.cs]) (by decide) rfl (by decide) (by simp [GType.trs_map, GType.tr_cs])) ?_
          rcases Classical.em ((v4).length + (([x9] : List GType)).length ≤ 68719476736) with hg13 | hg13
          · refine AL.cons rfl (AOp.appendE (es3 := GType.trs (v4 ++ ([x9] : List GType))) rfl rfl rfl rfl rfl rfl rfl rfl rfl (fun e he => by rw [GType.trs_map] at he; obtain ⟨x, _, rfl⟩ := List.mem_map.1 he; rw [GType.tr_cs]; rfl) el25 ze25 (by decide) (by rw [GType.trs_len, GType.trs_len]; exact room_le hg13 (by decide)) (by rw [GType.trs_map, GType.trs_map, GType.trs_map, List.map_append])) ?_; refine AL.cons rfl (AOp.move (.inr rfl) rfl rfl) ?_; refine AL.nil ?_; refine AWP.region_lit ?_; refine AL.cons rfl (AOp.move (.inl rfl) rfl rfl) ?_; refine AL.cons rfl (AOp.addI rfl rfl rfl rfl (c := ((i2 + 1 : Nat) : Int)) (by omega) (by omega)) ?_; refine AL.cons rfl (AOp.move (.inr rfl) rfl rfl) ?_; refine AL.nil ?_
            have e14 : (sl4Copies_F1 fu r_sl4Copy r_sl4Copies plist) i2 v4 = some (.next (v4 ++ ([x9] : List GType))) := bdS hq8 (gdT hg13 (rfl))
            refine ⟨(i2 + 1, (v4 ++ ([x9] : List GType))), loopN_next h7l hJ6 e14, ?_, ?_⟩
            · exact Wk.mk (StLe.mk' trivial (by first | rfl | simp)) (keeps_nil hC) ⟨⟨_, rfl, .refl _, rfl⟩, ⟨⟨_, rfl, .refl _, rfl⟩, ⟨⟨_, rfl, leA, rfl⟩, ⟨⟨_, rfl, leA, rfl⟩, trivial⟩⟩⟩⟩
            · dsimp only; omega
          · have e15 : (sl4Copies_F1 fu r_sl4Copy r_sl4Copies plist) i2 v4 = none := bdS hq8 (gdF hg13)
            have e16 : sl4Copies_R1 fu r_sl4Copy r_sl4Copies plist = none := loopN_non h7l hJ6 e15
            have e17 : sl4Copies_G fu r_sl4Copy r_sl4Copies plist = none := soN e16
            exact none_some H e17
      · have h7l : plist.length ≤ i2 := nat_ge_of2 h7
        refine AWP.exit ?_; refine ⟨v4, loopN_end h7l hJ6, ?_⟩
        exact Wk.mk (StLe.mk' trivial (by first | rfl | simp)) (keeps_nil hC) ⟨⟨_, rfl, .refl _, rfl⟩, ⟨⟨_, rfl, .refl _, rfl⟩, trivial⟩⟩
  · rintro v4 hR18
    refine AWP.seq ?_; refine AWP.region_lit ?_; refine AL.cons rfl (AOp.move (.inl rfl) rfl rfl) ?_; refine AL.cons rfl (AOp.move (.inr rfl) rfl rfl) ?_; refine AL.nil ?_; refine AWP.ret ?_
    have e19 : sl4Copies_G fu r_sl4Copy r_sl4Copies plist = some v4 := soR hR18 (rfl)
    have hz : v4 = r := Option.some.inj (e19.symm.trans H)
    subst hz
    exact Ends.mk (ps := [_]) (by first | exact .inr rfl | exact .inl rfl) ⟨rfl, trivial⟩ rfl (StLe.mk' (st' := ⟨[], []⟩) trivial rfl) (keeps_nil hC) (q := (.t (.row 3 (GType.trs (v4))) : PV)) leA rfl ⟨rfl, rfl⟩
mutual
noncomputable def sl4Copy_M : Nat → GType → Option GType
  | 0, _ => none
  | fu + 1, pt => sl4Copy_G fu (sl4Copy_M fu) (sl4Copies_M fu) pt
noncomputable def sl4Copies_M : Nat → (List GType) → Option ((List GType))
  | 0, _ => none
  | fu + 1, plist => sl4Copies_G fu (sl4Copy_M fu) (sl4Copies_M fu) plist
end
theorem sl4Copy_all (fu : Nat) : (∀ (pt : GType) (r : GType), sl4Copy_M fu pt = some r → AFun Try.prog 76 [(GType.pv pt)] ((GType.pv r) : PV)) ∧ (∀ (plist : List GType) (r : (List GType)), sl4Copies_M fu plist = some r → AFun Try.prog 116 [.t (.row 3 (GType.trs (plist)))] (.t (.row 3 (GType.trs (r))) : PV)) := by
  induction fu with
  | zero => exact ⟨(fun pt r H => by simp only [sl4Copy_M] at H; cases H), (fun plist r H => by simp only [sl4Copies_M] at H; cases H)⟩
  | succ fu ih => exact ⟨(fun pt r H => by simp only [sl4Copy_M] at H; exact sl4Copy_step (sl4Copy_M fu) (sl4Copies_M fu) fu ih.1 ih.2 pt r H), (fun plist r H => by simp only [sl4Copies_M] at H; exact sl4Copies_step (sl4Copy_M fu) (sl4Copies_M fu) fu ih.1 ih.2 plist r H)⟩
theorem sl4Copy_ok (fu : Nat) (pt : GType) (r : GType) (H : sl4Copy_M fu pt = some r) : AFun Try.prog 76 [(GType.pv pt)] ((GType.pv r) : PV) := (sl4Copy_all fu).1 pt r H
noncomputable def iEqualType_G (fu : Nat) (r_iEqualType : GType → GType → Option Bool) (r_gEqualFunc_Type__iEqualType : (List GType) → (List GType) → Option Bool) (pa : GType) (pb : GType) : Option Bool :=
 sw (decide ((pa.gKind : Int) = pb.gKind))
 (sw (decide (pa.gName = pb.gName))
 (bd (r_gEqualFunc_Type__iEqualType pa.gArgs pb.gArgs) (fun x6 =>
 some x6))
 (some false))
 (some false)
set_option maxRecDepth 100000 in
set_option maxHeartbeats 4000000 in
theorem iEqualType_step (r_iEqualType : GType → GType → Option Bool) (r_gEqualFunc_Type__iEqualType : (List GType) → (List GType) → Option Bool) (fu : Nat) (h_iEqualType : ∀ (pa : GType) (pb : GType) (r : Bool), r_iEqualType pa pb = some r → AFun Try.prog 45 [(GType.pv pa), (GType.pv pb)] (.t (.leaf (.bool (r))) : PV)) (h_gEqualFunc_Type__iEqualType : ∀ (ps1 : List GType) (ps2 : List GType) (r : Bool), r_gEqualFunc_Type__iEqualType ps1 ps2 = some r → AFun Try.prog 82 [.t (.row 3 (GType.trs (ps1))), .t (.row 3 (GType.trs (ps2))), .fn 45 []] (.t (.leaf (.bool (r))) : PV)) (pa : GType) (pb : GType) (r : Bool) (H : iEqualType_G fu r_iEqualType r_gEqualFunc_Type__iEqualType pa pb = some r) : AFun Try.prog 45 [(GType.pv pa), (GType.pv pb)] (.t (.leaf (.bool (r))) : PV) := by
  refine ACalls.intro Try.func45 rfl (by first | decide | (simp; done) | (simp; decide)) ?_; intro C hC
  refine AWP.seq ?_; refine AWP.region_lit ?_; refine AL.cons rfl (AOp.box (cs := [.t (.leaf (.int .i64 (pa.gKind))), .t (.leaf (.string (pa.gName))), .t (.row 3 (GType.trs (pa.gArgs)))]) rfl rfl rfl rfl rfl) ?_; refine AL.cons rfl (AOp.box (cs := [.t (.leaf (.int .i64 (pb.gKind))), .t (.leaf (.string (pb.gName))), .t (.row 3 (GType.trs (pb.gArgs)))]) rfl rfl rfl rfl rfl) ?_; refine AL.cons rfl (AOp.move (.inr rfl) rfl rfl) ?_; refine AL.nil ?_; refine AWP.seq ?_; refine AWP.region_lit ?_; refine AL.cons rfl (AOp.fieldPtr (k := 0) (d := 0) (e := 0) rfl rfl rfl fo27_0) ?_; refine AL.cons rfl (AOp.loadPtr1 rfl rfl rfl rfl sh3 rfl) ?_; refine AL.cons rfl (AOp.fieldPtr (k := 1) (d := 0) (e := 0) rfl rfl rfl fo27_0) ?_; refine AL.cons rfl (AOp.loadPtr1 rfl rfl rfl rfl sh3 rfl) ?_; refine AL.cons rfl (AOp.eqlI rfl rfl rfl rfl) ?_; refine AL.cons rfl (AOp.move (.inl rfl) rfl rfl) ?_; refine AL.splitB 10 rfl (fun g1 => ?_) (fun g1 => ?_)
  · refine AL.cons_gv rfl rfl rfl g1 (AOp.fieldPtr (k := 0) (d := 0) (e := 1) rfl rfl rfl fo27_1) ?_; refine AL.cons_gv rfl rfl rfl g1 (AOp.loadPtr1 rfl rfl rfl rfl sh9 rfl) ?_; refine AL.cons_gv rfl rfl rfl g1 (AOp.fieldPtr (k := 1) (d := 0) (e := 1) rfl rfl rfl fo27_1) ?_; refine AL.cons_gv rfl rfl rfl g1 (AOp.loadPtr1 rfl rfl rfl rfl sh9 rfl) ?_; refine AL.cons_gv rfl rfl rfl g1 (AOp.eqlS rfl rfl rfl rfl) ?_; refine AL.cons rfl (AOp.pickT rfl rfl rfl g1 rfl) ?_; refine AL.cons rfl (AOp.move (.inl rfl) rfl rfl) ?_; refine AL.splitB 17 rfl (fun g2 => ?_) (fun g2 => ?_)
    · refine AL.cons_gv rfl rfl rfl g2 (AOp.fieldPtr (k := 0) (d := 0) (e := 2) rfl rfl rfl fo27_2) ?_; refine AL.cons_gv rfl rfl rfl g2 (AOp.loadPtr1 rfl rfl rfl rfl sh25 rfl) ?_; refine AL.fact (lk_lenN 19 rfl rfl (GType.trs_len _)) (fun hl3 => ?_)
      refine AL.cons_gv rfl rfl rfl g2 (AOp.fieldPtr (k := 1) (d := 0) (e := 2) rfl rfl rfl fo27_2) ?_; refine AL.cons_gv rfl rfl rfl g2 (AOp.loadPtr1 rfl rfl rfl rfl sh25 rfl) ?_; refine AL.fact (lk_lenN 21 rfl rfl (GType.trs_len _)) (fun hl4 => ?_)
      rcases hq5 : r_gEqualFunc_Type__iEqualType pa.gArgs pb.gArgs with _ | x6
      · have e7 : iEqualType_G fu r_iEqualType r_gEqualFunc_Type__iEqualType pa pb = none := swT g1 (swT g2 (bdN hq5))
        exact none_some H e7
      · refine AL.cons_gv rfl rfl rfl g2 (AOp.callF (res := .t (.leaf (.bool (x6)))) (ps := [_, _, _]) rfl rfl Try.func82 (by kernel_rfl) rfl rfl leA rfl rfl (h_gEqualFunc_Type__iEqualType pa.gArgs pb.gArgs _ hq5)) ?_; refine AL.cons rfl (AOp.pickT rfl rfl rfl g2 rfl) ?_; refine AL.cons rfl (AOp.move (.inr rfl) rfl rfl) ?_; refine AL.nil ?_; refine AWP.ret ?_
        have e8 : iEqualType_G fu r_iEqualType r_gEqualFunc_Type__iEqualType pa pb = some x6 := swT g1 (swT g2 (bdS hq5 (rfl)))
        have hz : x6 = r := Option.some.inj (e8.symm.trans H)
        subst hz
        exact Ends.mk (ps := [_]) (by first | exact .inr rfl | exact .inl rfl) ⟨rfl, trivial⟩ rfl (StLe.mk' (st' := ⟨[], []⟩) trivial rfl) (keeps_nil hC) (q := (.t (.leaf (.bool (x6))) : PV)) leA rfl ⟨rfl, rfl⟩
    · refine AL.skipP rfl rfl rfl g2 rfl rfl ?_; refine AL.skipP rfl rfl rfl g2 rfl rfl ?_; refine AL.skipP rfl rfl rfl g2 rfl rfl ?_; refine AL.skipP rfl rfl rfl g2 rfl rfl ?_; refine AL.skipP rfl rfl rfl g2 rfl rfl ?_; refine AL.cons rfl (AOp.pickF rfl rfl rfl g2 rfl) ?_; refine AL.cons rfl (AOp.move (.inr rfl) rfl rfl) ?_; refine AL.nil ?_; refine AWP.ret ?_
      have e9 : iEqualType_G fu r_iEqualType r_gEqualFunc_Type__iEqualType pa pb = some false := swT g1 (swF g2 (rfl))
      have hz : false = r := Option.some.inj (e9.symm.trans H)
      subst hz
      exact Ends.mk (ps := [_]) (by first | exact .inr rfl | exact .inl rfl) ⟨rfl, trivial⟩ rfl (StLe.mk' (st' := ⟨[], []⟩) trivial rfl) (keeps_nil hC) (q := (.t (.leaf (.bool (false))) : PV)) leA rfl ⟨rfl, rfl⟩
  · refine AL.skipP rfl rfl rfl g1 rfl rfl ?_; refine AL.skipP rfl rfl rfl g1 rfl rfl ?_; refine AL.skipP rfl rfl rfl g1 rfl rfl ?_; refine AL.skipP rfl rfl rfl g1 rfl rfl ?_; refine AL.skipP rfl rfl rfl g1 rfl rfl ?_; refine AL.cons rfl (AOp.pickF rfl rfl rfl g1 rfl) ?_; refine AL.cons rfl (AOp.move (.inl rfl) rfl rfl) ?_; refine AL.skipP rfl rfl rfl rfl rfl rfl ?_; refine AL.skipP rfl rfl rfl rfl rfl rfl ?_; refine AL.skipP rfl rfl rfl rfl rfl rfl ?_; refine AL.skipP rfl rfl rfl rfl rfl rfl ?_; refine AL.skipP rfl rfl rfl rfl rfl rfl ?_; refine AL.cons rfl (AOp.pickF rfl rfl rfl rfl rfl) ?_; refine AL.cons rfl (AOp.move (.inr rfl) rfl rfl) ?_; refine AL.nil ?_; refine AWP.ret ?_
    have e10 : iEqualType_G fu r_iEqualType r_gEqualFunc_Type__iEqualType pa pb = some false := swF g1 (rfl)
    have hz : false = r := Option.some.inj (e10.symm.trans H)
    subst hz
    exact Ends.mk (ps := [_]) (by first | exact .inr rfl | exact .inl rfl) ⟨rfl, trivial⟩ rfl (StLe.mk' (st' := ⟨[], []⟩) trivial rfl) (keeps_nil hC) (q := (.t (.leaf (.bool (false))) : PV)) leA rfl ⟨rfl, rfl⟩
noncomputable def gEqualFunc_Type__iEqualType_F1 (fu : Nat) (r_iEqualType : GType → GType → Option Bool) (r_gEqualFunc_Type__iEqualType : (List GType) → (List GType) → Option Bool) (ps1 : List GType) (ps2 : List GType) : Nat → Unit → Option (LR Unit Bool) :=
 fun i5 _ => gd (i5 < (ps2).length)
 (bd (r_iEqualType (atD ps1 i5) (atD ps2 i5)) (fun x10 =>
 sw (!(x10))
 (some (.ret false))
 (some (.next ()))))
noncomputable def gEqualFunc_Type__iEqualType_R1 (fu : Nat) (r_iEqualType : GType → GType → Option Bool) (r_gEqualFunc_Type__iEqualType : (List GType) → (List GType) → Option Bool) (ps1 : List GType) (ps2 : List GType) : Option (Bool ⊕ Unit) :=
 loopN (gEqualFunc_Type__iEqualType_F1 fu r_iEqualType r_gEqualFunc_Type__iEqualType ps1 ps2) (ps1.length - 0) 0 ()
noncomputable def gEqualFunc_Type__iEqualType_G (fu : Nat) (r_iEqualType : GType → GType → Option Bool) (r_gEqualFunc_Type__iEqualType : (List GType) → (List GType) → Option Bool) (ps1 : List GType) (ps2 : List GType) : Option Bool :=
 sw (!decide ((((ps1.length : Nat) : Int) : Int) = ((ps2.length : Nat) : Int)))
 (some false)
 (so (gEqualFunc_Type__iEqualType_R1 fu r_iEqualType r_gEqualFunc_Type__iEqualType ps1 ps2) (fun _ =>
 some true))
set_option maxRecDepth 100000 in
set_option maxHeartbeats 4000000 in
theorem gEqualFunc_Type__iEqualType_step (r_iEqualType : GType → GType → Option Bool) (r_gEqualFunc_Type__iEqualType : (List GType) → (List GType) → Option Bool) (fu : Nat) (h_iEqualType : ∀ (pa : GType) (pb : GType) (r : Bool), r_iEqualType pa pb = some r → AFun Try.prog 45 [(GType.pv pa), (GType.pv pb)] (.t (.leaf (.bool (r))) : PV)) (h_gEqualFunc_Type__iEqualType : ∀ (ps1 : List GType) (ps2 : List GType) (r : Bool), r_gEqualFunc_Type__iEqualType ps1 ps2 = some r → AFun Try.prog 82 [.t (.row 3 (GType.trs (ps1))), .t (.row 3 (GType.trs (ps2))), .fn 45 []] (.t (.leaf (.bool (r))) : PV)) (ps1 : List GType) (ps2 : List GType) (r : Bool) (H : gEqualFunc_Type__iEqualType_G fu r_iEqualType r_gEqualFunc_Type__iEqualType ps1 ps2 = some r) : AFun Try.prog 82 [.t (.row 3 (GType.trs (ps1))), .t (.row 3 (GType.trs (ps2))), .fn 45 []] (.t (.leaf (.bool (r))) : PV) := by
  refine ACalls.intro Try.func82 rfl (by first | decide | (simp; done) | (simp; decide)) ?_; intro C hC
  refine AWP.fact (lk_lenN 0 rfl rfl (GType.trs_len _)) (fun hl1 => ?_)
  refine AWP.fact (lk_lenN 1 rfl rfl (GType.trs_len _)) (fun hl2 => ?_)
  refine AWP.seq ?_; refine AWP.region_lit ?_; refine AL.cons rfl (AOp.move (.inr rfl) rfl rfl) ?_; refine AL.nil ?_; refine AWP.seq ?_; refine AWP.seq ?_; refine AWP.region_lit ?_; refine AL.cons rfl (AOp.move (.inl rfl) rfl rfl) ?_; refine AL.cons rfl (AOp.lenN rfl rfl rfl rfl el25 (GType.trs_len _)) ?_; refine AL.cons rfl (AOp.move (.inl rfl) rfl rfl) ?_; refine AL.cons rfl (AOp.lenN rfl rfl rfl rfl el25 (GType.trs_len _)) ?_; refine AL.cons rfl (AOp.neqI rfl rfl rfl rfl) ?_; refine AL.nil ?_; refine AWP.cond rfl (fun h3 => ?_) (fun h3 => ?_)
  · refine AWP.seq ?_; refine AWP.region_lit ?_; refine AL.cons rfl (AOp.move (.inr rfl) rfl rfl) ?_; refine AL.nil ?_; refine AWP.ret ?_
    have e4 : gEqualFunc_Type__iEqualType_G fu r_iEqualType r_gEqualFunc_Type__iEqualType ps1 ps2 = some false := swT h3 (rfl)
    have hz : false = r := Option.some.inj (e4.symm.trans H)
    subst hz
    exact Ends.mk (ps := [_]) (by first | exact .inr rfl | exact .inl rfl) ⟨rfl, trivial⟩ rfl (StLe.mk' (st' := ⟨[], []⟩) trivial rfl) (keeps_nil hC) (q := (.t (.leaf (.bool (false))) : PV)) leA rfl ⟨rfl, rfl⟩
  · refine AWP.skip ?_; refine AWP.seq ?_; refine AWP.seq ?_; refine AWP.region_lit ?_; refine AL.cons rfl (AOp.move (.inl rfl) rfl rfl) ?_; refine AL.cons rfl (AOp.lenN rfl rfl rfl rfl el25 (GType.trs_len _)) ?_; refine AL.cons rfl (AOp.move (.inl rfl) rfl rfl) ?_; refine AL.nil ?_; refine AWP.cut (ι := Unit) (fun _ => gEqualFunc_Type__iEqualType_R1 fu r_iEqualType r_gEqualFunc_Type__iEqualType ps1 ps2 = some (.inr ())) (fun _ => ⟨[(6, .t (.leaf (.bool (false))))], ⟨[], []⟩⟩) (by repeat' (first | exact qcEnds | exact ncAWP | exact ncRound | exact ncEx | apply qcThen | apply qcBlock | apply qcCut)) ?_ ?_
    · refine AWP.block ?_; refine AWP.loopR (ι := Nat × Unit) (fun (i5, _) => gEqualFunc_Type__iEqualType_R1 fu r_iEqualType r_gEqualFunc_Type__iEqualType ps1 ps2 = loopN (gEqualFunc_Type__iEqualType_F1 fu r_iEqualType r_gEqualFunc_Type__iEqualType ps1 ps2) (ps1.length - i5) i5 ()) (fun (i5, _) => ⟨[(1, .t (.row 3 (GType.trs (ps2)))), (2, .fn 45 []), (6, .t (.leaf (.bool (false)))), (15, .t (.row 3 (GType.trs (ps1)))), (16, .t (.leaf (.int .i64 (((ps1.length : Nat) : Int))))), (17, .t (.leaf (.int .i64 (((i5 : Nat) : Int)))))], ⟨[], []⟩⟩) (fun (i5, _) => ps1.length - i5) (0, ()) ?_ ?_ ?_
      · exact rfl
      · exact Wk.mk (StLe.mk' trivial rfl) (keeps_nil hC) ⟨⟨_, rfl, .refl _, rfl⟩, ⟨⟨_, rfl, .refl _, rfl⟩, ⟨⟨_, rfl, .refl _, rfl⟩, ⟨⟨_, rfl, .refl _, rfl⟩, ⟨⟨_, rfl, .refl _, rfl⟩, ⟨⟨_, rfl, leA, rfl⟩, trivial⟩⟩⟩⟩⟩⟩
      · rintro ⟨i5, ⟨⟩⟩ hJ6
        refine AWP.seq ?_; refine AWP.region_lit ?_; refine AL.cons rfl (AOp.lss rfl rfl rfl rfl) ?_; refine AL.nil ?_; refine AWP.seq ?_; refine AWP.cond rfl (fun h7 => ?_) (fun h7 => ?_)
        · have h7l : i5 < ps1.length := nat_lt_of2 h7
          have h7n := nat_lt_of h7
          refine AWP.skip ?_; refine AWP.seq ?_; refine AWP.block ?_; refine AWP.seq ?_; refine AWP.region_lit ?_; refine AL.cons rfl (AOp.move (.inl rfl) rfl rfl) ?_; refine AL.cons rfl (AOp.index (k := i5) rfl rfl rfl rfl rfl (GType.trs_at h7n) el25) ?_; refine AL.cons rfl (AOp.loadEptr (ds := [.leaf (.int .i64 ((atD ps1 i5).gKind)), .leaf (.string ((atD ps1 i5).gName)), .row 3 (GType.trs ((atD ps1 i5).gArgs))]) rfl rfl rfl sh27 rfl rfl) ?_; refine AL.cons rfl (AOp.alloc rfl rfl zr27) ?_; refine AL.cons rfl (AOp.move (.inr rfl) rfl rfl) ?_; refine AL.cons rfl (AOp.storePtr (cs := [.t (.leaf (.int .i64 ((atD ps1 i5).gKind))), .t (.leaf (.string ((atD ps1 i5).gName))), .t (.row 3 (GType.trs ((atD ps1 i5).gArgs)))]) (ds := [.t (.leaf (.int .i64 ((atD ps1 i5).gKind))), .t (.leaf (.string ((atD ps1 i5).gName))), .t (.row 3 (GType.trs ((atD ps1 i5).gArgs)))]) rfl rfl rfl rfl rfl rfl rfl sz27 (Nat.le_of_ble_eq_true rfl) rfl) ?_; refine AL.nil ?_; refine AWP.seq ?_; refine AWP.region_lit ?_; refine AL.cons rfl (AOp.move (.inl rfl) rfl rfl) ?_; refine AL.cons rfl (AOp.move (.inl rfl) rfl rfl) ?_
          rcases Classical.em (i5 < (ps2).length) with hg8 | hg8
          · refine AL.cons rfl (AOp.index (k := i5) rfl rfl rfl rfl rfl (GType.trs_at hg8) el25) ?_; refine AL.cons rfl (AOp.loadEptr (ds := [.leaf (.int .i64 ((atD ps2 i5).gKind)), .leaf (.string ((atD ps2 i5).gName)), .row 3 (GType.trs ((atD ps2 i5).gArgs))]) rfl rfl rfl sh27 rfl rfl) ?_; refine AL.cons rfl (AOp.alloc rfl rfl zr27) ?_; refine AL.cons rfl (AOp.storePtr (cs := [.t (.leaf (.int .i64 ((atD ps2 i5).gKind))), .t (.leaf (.string ((atD ps2 i5).gName))), .t (.row 3 (GType.trs ((atD ps2 i5).gArgs)))]) (ds := [.t (.leaf (.int .i64 ((atD ps2 i5).gKind))), .t (.leaf (.string ((atD ps2 i5).gName))), .t (.row 3 (GType.trs ((atD ps2 i5).gArgs)))]) rfl rfl rfl rfl rfl rfl rfl sz27 (Nat.le_of_ble_eq_true rfl) rfl) ?_; refine AL.nil ?_; refine AWP.seq ?_; refine AWP.region_lit ?_; refine AL.cons rfl (AOp.move (.inl rfl) rfl rfl) ?_; refine AL.cons rfl (AOp.loadPtr (cs := [.t (.leaf (.int .i64 ((atD ps1 i5).gKind))), .t (.leaf (.string ((atD ps1 i5).gName))), .t (.row 3 (GType.trs ((atD ps1 i5).gArgs)))]) rfl rfl rfl rfl sh27 rfl rfl) ?_; refine AL.cons rfl (AOp.loadPtr (cs := [.t (.leaf (.int .i64 ((atD ps2 i5).gKind))), .t (.leaf (.string ((atD ps2 i5).gName))), .t (.row 3 (GType.trs ((atD ps2 i5).gArgs)))]) rfl rfl rfl rfl sh27 rfl rfl) ?_
            rcases hq9 : r_iEqualType (atD ps1 i5) (atD ps2 i5) with _ | x10
            · have e11 : (gEqualFunc_Type__iEqualType_F1 fu r_iEqualType r_gEqualFunc_Type__iEqualType ps1 ps2) i5 () = none := gdT hg8 (bdN hq9)
              have e12 : gEqualFunc_Type__iEqualType_R1 fu r_iEqualType r_gEqualFunc_Type__iEqualType ps1 ps2 = none := loopN_non h7l hJ6 e11
              have e13 : gEqualFunc_Type__iEqualType_G fu r_iEqualType r_gEqualFunc_Type__iEqualType ps1 ps2 = none := swF h3 (soN e12)
              exact none_some H e13
            · refine AL.cons rfl (AOp.callV (res := .t (.leaf (.bool (x10)))) (ps := [_, _]) (cs := []) rfl rfl rfl Try.func45 (by kernel_rfl) rfl rfl leA rfl rfl (h_iEqualType (atD ps1 i5) (atD ps2 i5) _ hq9)) ?_; refine AL.cons rfl (AOp.notB rfl rfl rfl) ?_; refine AL.nil ?_; refine AWP.cond rfl (fun h14 => ?_) (fun h14 => ?_)
              · refine AWP.seq ?_; refine AWP.region_lit ?_; refine AL.cons rfl (AOp.move (.inr rfl) rfl rfl) ?_; refine AL.nil ?_; refine AWP.ret ?_
                have e15 : (gEqualFunc_Type__iEqualType_F1 fu r_iEqualType r_gEqualFunc_Type__iEqualType ps1 ps2) i5 () = some (.ret false) := gdT hg8 (bdS hq9 (swT h14 (rfl)))
                have e16 : gEqualFunc_Type__iEqualType_R1 fu r_iEqualType r_gEqualFunc_Type__iEqualType ps1 ps2 = some (.inl false) := loopN_ret h7l hJ6 e15
                have e17 : gEqualFunc_Type__iEqualType_G fu r_iEqualType r_gEqualFunc_Type__iEqualType ps1 ps2 = some false := swF h3 (soL e16)
                have hz : false = r := Option.some.inj (e17.symm.trans H)
                subst hz
                exact Ends.mk (ps := [_]) (by first | exact .inr rfl | exact .inl rfl) ⟨rfl, trivial⟩ rfl (StLe.mk' (st' := ⟨[], []⟩) trivial rfl) (keeps_nil hC) (q := (.t (.leaf (.bool (false))) : PV)) leA rfl ⟨rfl, rfl⟩
              · refine AWP.skip ?_; refine AWP.region_lit ?_; refine AL.cons rfl (AOp.addI rfl rfl rfl rfl (c := ((i5 + 1 : Nat) : Int)) (by omega) (by omega)) ?_; refine AL.cons rfl (AOp.move (.inl rfl) rfl rfl) ?_; refine AL.nil ?_
                have e18 : (gEqualFunc_Type__iEqualType_F1 fu r_iEqualType r_gEqualFunc_Type__iEqualType ps1 ps2) i5 () = some (.next ()) := gdT hg8 (bdS hq9 (swF h14 (rfl)))
                refine ⟨(i5 + 1, ()), loopN_next h7l hJ6 e18, ?_, ?_⟩
                · exact Wk.mk (StLe.mk' trivial rfl) (keeps_nil hC) ⟨⟨_, rfl, .refl _, rfl⟩, ⟨⟨_, rfl, .refl _, rfl⟩, ⟨⟨_, rfl, .refl _, rfl⟩, ⟨⟨_, rfl, .refl _, rfl⟩, ⟨⟨_, rfl, .refl _, rfl⟩, ⟨⟨_, rfl, leA, rfl⟩, trivial⟩⟩⟩⟩⟩⟩
                · dsimp only; omega
          · have e19 : (gEqualFunc_Type__iEqualType_F1 fu r_iEqualType r_gEqualFunc_Type__iEqualType ps1 ps2) i5 () = none := gdF hg8
            have e20 : gEqualFunc_Type__iEqualType_R1 fu r_iEqualType r_gEqualFunc_Type__iEqualType ps1 ps2 = none := loopN_non h7l hJ6 e19
            have e21 : gEqualFunc_Type__iEqualType_G fu r_iEqualType r_gEqualFunc_Type__iEqualType ps1 ps2 = none := swF h3 (soN e20)
            exact none_some H e21
        · have h7l : ps1.length ≤ i5 := nat_ge_of2 h7
          refine AWP.exit ?_; refine ⟨(), loopN_end h7l hJ6, ?_⟩
          exact Wk.mk (StLe.mk' trivial rfl) (keeps_nil hC) ⟨⟨_, rfl, .refl _, rfl⟩, trivial⟩
    · rintro ⟨⟩ hR22
      refine AWP.seq ?_; refine AWP.region_lit ?_; refine AL.cons rfl (AOp.move (.inr rfl) rfl rfl) ?_; refine AL.nil ?_; refine AWP.ret ?_
      have e23 : gEqualFunc_Type__iEqualType_G fu r_iEqualType r_gEqualFunc_Type__iEqualType ps1 ps2 = some true := swF h3 (soR hR22 (rfl))
      have hz : true = r := Option.some.inj (e23.symm.trans H)
      subst hz
      exact Ends.mk (ps := [_]) (by first | exact .inr rfl | exact .inl rfl) ⟨rfl, trivial⟩ rfl (StLe.mk' (st' := ⟨[], []⟩) trivial rfl) (keeps_nil hC) (q := (.t (.leaf (.bool (true))) : PV)) leA rfl ⟨rfl, rfl⟩
mutual
noncomputable def iEqualType_M : Nat → GType → GType → Option Bool
  | 0, _, _ => none
  | fu + 1, pa, pb => iEqualType_G fu (iEqualType_M fu) (gEqualFunc_Type__iEqualType_M fu) pa pb
noncomputable def gEqualFunc_Type__iEqualType_M : Nat → (List GType) → (List GType) → Option Bool
  | 0, _, _ => none
  | fu + 1, ps1, ps2 => gEqualFunc_Type__iEqualType_G fu (iEqualType_M fu) (gEqualFunc_Type__iEqualType_M fu) ps1 ps2
end
theorem iEqualType_all (fu : Nat) : (∀ (pa : GType) (pb : GType) (r : Bool), iEqualType_M fu pa pb = some r → AFun Try.prog 45 [(GType.pv pa), (GType.pv pb)] (.t (.leaf (.bool (r))) : PV)) ∧ (∀ (ps1 : List GType) (ps2 : List GType) (r : Bool), gEqualFunc_Type__iEqualType_M fu ps1 ps2 = some r → AFun Try.prog 82 [.t (.row 3 (GType.trs (ps1))), .t (.row 3 (GType.trs (ps2))), .fn 45 []] (.t (.leaf (.bool (r))) : PV)) := by
  induction fu with
  | zero => exact ⟨(fun pa pb r H => by simp only [iEqualType_M] at H; cases H), (fun ps1 ps2 r H => by simp only [gEqualFunc_Type__iEqualType_M] at H; cases H)⟩
  | succ fu ih => exact ⟨(fun pa pb r H => by simp only [iEqualType_M] at H; exact iEqualType_step (iEqualType_M fu) (gEqualFunc_Type__iEqualType_M fu) fu ih.1 ih.2 pa pb r H), (fun ps1 ps2 r H => by simp only [gEqualFunc_Type__iEqualType_M] at H; exact gEqualFunc_Type__iEqualType_step (iEqualType_M fu) (gEqualFunc_Type__iEqualType_M fu) fu ih.1 ih.2 ps1 ps2 r H)⟩
theorem iEqualType_ok (fu : Nat) (pa : GType) (pb : GType) (r : Bool) (H : iEqualType_M fu pa pb = some r) : AFun Try.prog 45 [(GType.pv pa), (GType.pv pb)] (.t (.leaf (.bool (r))) : PV) := (iEqualType_all fu).1 pa pb r H
noncomputable def icopyType_G (fu : Nat) (r_icopyType : GType → Option GType) (r_icopyTypes : (List GType) → Option ((List GType))) (pt : GType) : Option GType :=
 bd (r_icopyTypes pt.gArgs) (fun x3 =>
 some (GType.mk pt.gKind pt.gName x3))
set_option maxRecDepth 100000 in
set_option maxHeartbeats 4000000 in
theorem icopyType_step (r_icopyType : GType → Option GType) (r_icopyTypes : (List GType) → Option ((List GType))) (fu : Nat) (h_icopyType : ∀ (pt : GType) (r : GType), r_icopyType pt = some r → AFun Try.prog 44 [(GType.pv pt)] ((GType.pv r) : PV)) (h_icopyTypes : ∀ (pl : List GType) (r : (List GType)), r_icopyTypes pl = some r → AFun Try.prog 81 [.t (.row 3 (GType.trs (pl)))] (.t (.row 3 (GType.trs (r))) : PV)) (pt : GType) (r : GType) (H : icopyType_G fu r_icopyType r_icopyTypes pt = some r) : AFun Try.prog 44 [(GType.pv pt)] ((GType.pv r) : PV) := by
  refine ACalls.intro Try.func44 rfl (by first | decide | (simp; done) | (simp; decide)) ?_; intro C hC
  refine AWP.seq ?_; refine AWP.region_lit ?_; refine AL.cons rfl (AOp.box (cs := [.t (.leaf (.int .i64 (pt.gKind))), .t (.leaf (.string (pt.gName))), .t (.row 3 (GType.trs (pt.gArgs)))]) rfl rfl rfl rfl rfl) ?_; refine AL.cons rfl (AOp.alloc rfl rfl zr27) ?_; refine AL.nil ?_; refine AWP.seq ?_; refine AWP.region_lit ?_; refine AL.cons rfl (AOp.fieldPtr (k := 0) (d := 0) (e := 2) rfl rfl rfl fo27_2) ?_; refine AL.cons rfl (AOp.loadPtr1 rfl rfl rfl rfl sh25 rfl) ?_; refine AL.fact (lk_lenN 4 rfl rfl (GType.trs_len _)) (fun hl1 => ?_)
  rcases hq2 : r_icopyTypes pt.gArgs with _ | x3
  · have e4 : icopyType_G fu r_icopyType r_icopyTypes pt = none := bdN hq2
    exact none_some H e4
  · refine AL.cons rfl (AOp.callF (res := .t (.row 3 (GType.trs (x3)))) (ps := [_]) rfl rfl Try.func81 (by kernel_rfl) rfl rfl leA rfl rfl (h_icopyTypes pt.gArgs _ hq2)) ?_; refine AL.cons rfl (AOp.fieldPtr (k := 0) (d := 0) (e := 2) rfl rfl rfl fo27_2) ?_; refine AL.cons rfl (AOp.storePtr (cs := [.t (.row 3 (GType.trs (x3)))]) (ds := [.t (.leaf (.int .i64 (pt.gKind))), .t (.leaf (.string (pt.gName))), .t (.row 3 (GType.trs (x3)))]) rfl rfl rfl rfl rfl rfl rfl sz25 (Nat.le_of_ble_eq_true rfl) rfl) ?_; refine AL.nil ?_; refine AWP.seq ?_; refine AWP.region_lit ?_; refine AL.cons rfl (AOp.loadPtr (cs := [.t (.leaf (.int .i64 (pt.gKind))), .t (.leaf (.string (pt.gName))), .t (.row 3 (GType.trs (x3)))]) rfl rfl rfl rfl sh27 rfl rfl) ?_; refine AL.cons rfl (AOp.storePtr (cs := [.t (.leaf (.int .i64 (pt.gKind))), .t (.leaf (.string (pt.gName))), .t (.row 3 (GType.trs (x3)))]) (ds := [.t (.leaf (.int .i64 (pt.gKind))), .t (.leaf (.string (pt.gName))), .t (.row 3 (GType.trs (x3)))]) rfl rfl rfl rfl rfl rfl rfl sz27 (Nat.le_of_ble_eq_true rfl) rfl) ?_; refine AL.nil ?_; refine AWP.ret ?_
    have e5 : icopyType_G fu r_icopyType r_icopyTypes pt = some (GType.mk pt.gKind pt.gName x3) := bdS hq2 (rfl)
    have hz : (GType.mk pt.gKind pt.gName x3) = r := Option.some.inj (e5.symm.trans H)
    subst hz
    exact Ends.mk (ps := [_]) (by first | exact .inr rfl | exact .inl rfl) ⟨⟨_, _, _, rfl, rfl, sh27, rfl, rfl⟩, trivial⟩ rfl (StLe.mk' (st' := ⟨[], []⟩) trivial rfl) (keeps_nil hC) (q := ((GType.pv (GType.mk pt.gKind pt.gName x3)) : PV)) leA rfl ⟨rfl, rfl⟩
noncomputable def icopyTypes_F1 (fu : Nat) (r_icopyType : GType → Option GType) (r_icopyTypes : (List GType) → Option ((List GType))) (pl : List GType) : Nat → ((List GType)) → Option (LR ((List GType)) ((List GType))) :=
 fun i3 v4 => bd (r_icopyType (atD pl i3)) (fun x8 =>
 gd (i3 = (v4).length)
 (some (.next (v4 ++ ([x8] : List GType)))))
noncomputable def icopyTypes_R1 (fu : Nat) (r_icopyType : GType → Option GType) (r_icopyTypes : (List GType) → Option ((List GType))) (pl : List GType) : Option (((List GType)) ⊕ ((List GType))) :=
 loopN (icopyTypes_F1 fu r_icopyType r_icopyTypes pl) (pl.length - 0) 0 ([])
noncomputable def icopyTypes_G (fu : Nat) (r_icopyType : GType → Option GType) (r_icopyTypes : (List GType) → Option ((List GType))) (pl : List GType) : Option ((List GType)) :=
 gd (pl.length ≤ 68719476736)
 (so (icopyTypes_R1 fu r_icopyType r_icopyTypes pl) (fun v4 =>
 gd ((v4).length = pl.length)
 (some v4)))
set_option maxRecDepth 100000 in
set_option maxHeartbeats 4000000 in
theorem icopyTypes_step (r_icopyType : GType → Option GType) (r_icopyTypes : (List GType) → Option ((List GType))) (fu : Nat) (h_icopyType : ∀ (pt : GType) (r : GType), r_icopyType pt = some r → AFun Try.prog 44 [(GType.pv pt)] ((GType.pv r) : PV)) (h_icopyTypes : ∀ (pl : List GType) (r : (List GType)), r_icopyTypes pl = some r → AFun Try.prog 81 [.t (.row 3 (GType.trs (pl)))] (.t (.row 3 (GType.trs (r))) : PV)) (pl : List GType) (r : (List GType)) (H : icopyTypes_G fu r_icopyType r_icopyTypes pl = some r) : AFun Try.prog 81 [.t (.row 3 (GType.trs (pl)))] (.t (.row 3 (GType.trs (r))) : PV) := by
  refine ACalls.intro Try.func81 rfl (by first | decide | (simp; done) | (simp; decide)) ?_; intro C hC
  refine AWP.fact (lk_lenN 0 rfl rfl (GType.trs_len _)) (fun hl1 => ?_)
  refine AWP.seq ?_; refine AWP.region_lit ?_; refine AL.cons rfl (AOp.move (.inr rfl) rfl rfl) ?_; refine AL.nil ?_; refine AWP.seq ?_; refine AWP.region_lit ?_; refine AL.cons rfl (AOp.move (.inl rfl) rfl rfl) ?_; refine AL.cons rfl (AOp.lenN rfl rfl rfl rfl el25 (GType.trs_len _)) ?_
  rcases Classical.em (pl.length ≤ 68719476736) with hg2 | hg2
  · refine AL.cons rfl (AOp.makeSlice (N := pl.length) rfl rfl rfl rfl el25 ze25 (by decide) (Nat.le_trans (Nat.mul_le_mul_left _ hg2) (by decide)) (Nat.le_trans hg2 (by decide))) ?_; refine AL.cons rfl (AOp.move (.inr rfl) rfl rfl) ?_; refine AL.nil ?_; refine AWP.seq ?_; refine AWP.seq ?_; refine AWP.region_lit ?_; refine AL.cons rfl (AOp.move (.inl rfl) rfl rfl) ?_; refine AL.cons rfl (AOp.lenN rfl rfl rfl rfl el25 (GType.trs_len _)) ?_; refine AL.cons rfl (AOp.move (.inl rfl) rfl rfl) ?_; refine AL.nil ?_; refine AWP.cut (ι := (List GType)) (fun v4 => icopyTypes_R1 fu r_icopyType r_icopyTypes pl = some (.inr v4)) (fun v4 => ⟨[(2, .nil), (3, .full 3 (pl.length) 0)], ⟨[], [⟨27, 3, GType.trs (v4), true⟩]⟩⟩) (by repeat' (first | exact qcEnds | exact ncAWP | exact ncRound | exact ncEx | apply qcThen | apply qcBlock | apply qcCut)) ?_ ?_
    · refine AWP.block ?_; refine AWP.loopR (ι := Nat × ((List GType))) (fun (i3, v4) => icopyTypes_R1 fu r_icopyType r_icopyTypes pl = loopN (icopyTypes_F1 fu r_icopyType r_icopyTypes pl) (pl.length - i3) i3 v4) (fun (i3, v4) => ⟨[(2, .nil), (3, .full 3 (pl.length) 0), (9, .t (.row 3 (GType.trs (pl)))), (10, .t (.leaf (.int .i64 (((pl.length : Nat) : Int))))), (11, .t (.leaf (.int .i64 (((i3 : Nat) : Int)))))], ⟨[], [⟨27, 3, GType.trs (v4), true⟩]⟩⟩) (fun (i3, v4) => pl.length - i3) (0, ([])) ?_ ?_ ?_
      · exact rfl
      · exact Wk.mk (StLe.mk' trivial (by first | rfl | simp)) (keeps_nil hC) ⟨⟨_, rfl, .refl _, rfl⟩, ⟨⟨_, rfl, .refl _, rfl⟩, ⟨⟨_, rfl, .refl _, rfl⟩, ⟨⟨_, rfl, .refl _, rfl⟩, ⟨⟨_, rfl, leA, rfl⟩, trivial⟩⟩⟩⟩⟩
      · rintro ⟨i3, v4⟩ hJ5
        refine AWP.seq ?_; refine AWP.region_lit ?_; refine AL.cons rfl (AOp.lss rfl rfl rfl rfl) ?_; refine AL.nil ?_; refine AWP.seq ?_; refine AWP.cond rfl (fun h6 => ?_) (fun h6 => ?_)
        · have h6l : i3 < pl.length := nat_lt_of2 h6
          have h6n := nat_lt_of h6
          refine AWP.skip ?_; refine AWP.seq ?_; refine AWP.block ?_; refine AWP.seq ?_; refine AWP.region_lit ?_; refine AL.cons rfl (AOp.move (.inl rfl) rfl rfl) ?_; refine AL.cons rfl (AOp.index (k := i3) rfl rfl rfl rfl rfl (GType.trs_at h6n) el25) ?_; refine AL.cons rfl (AOp.loadEptr (ds := [.leaf (.int .i64 ((atD pl i3).gKind)), .leaf (.string ((atD pl i3).gName)), .row 3 (GType.trs ((atD pl i3).gArgs))]) rfl rfl rfl sh27 rfl rfl) ?_; refine AL.cons rfl (AOp.alloc rfl rfl zr27) ?_; refine AL.cons rfl (AOp.move (.inr rfl) rfl rfl) ?_; refine AL.cons rfl (AOp.storePtr (cs := [.t (.leaf (.int .i64 ((atD pl i3).gKind))), .t (.leaf (.string ((atD pl i3).gName))), .t (.row 3 (GType.trs ((atD pl i3).gArgs)))]) (ds := [.t (.leaf (.int .i64 ((atD pl i3).gKind))), .t (.leaf (.string ((atD pl i3).gName))), .t (.row 3 (GType.trs ((atD pl i3).gArgs)))]) rfl rfl rfl rfl rfl rfl rfl sz27 (Nat.le_of_ble_eq_true rfl) rfl) ?_; refine AL.nil ?_; refine AWP.region_lit ?_; refine AL.cons rfl (AOp.move (.inl rfl) rfl rfl) ?_; refine AL.cons rfl (AOp.move (.inl rfl) rfl rfl) ?_; refine AL.cons rfl (AOp.loadPtr (cs := [.t (.leaf (.int .i64 ((atD pl i3).gKind))), .t (.leaf (.string ((atD pl i3).gName))), .t (.row 3 (GType.trs ((atD pl i3).gArgs)))]) rfl rfl rfl rfl sh27 rfl rfl) ?_
          rcases hq7 : r_icopyType (atD pl i3) with _ | x8
          · have e9 : (icopyTypes_F1 fu r_icopyType r_icopyTypes pl) i3 v4 = none := bdN hq7
            have e10 : icopyTypes_R1 fu r_icopyType r_icopyTypes pl = none := loopN_non h6l hJ5 e9
            have e11 : icopyTypes_G fu r_icopyType r_icopyTypes pl = none := gdT hg2 (soN e10)
            exact none_some H e11
          · refine AL.cons rfl (AOp.callF (res := (GType.pv x8)) (ps := [_]) rfl rfl Try.func44 (by kernel_rfl) rfl rfl leA rfl rfl (h_icopyType (atD pl i3) _ hq7)) ?_; refine AL.cons rfl (AOp.indexFull (k := i3) rfl rfl rfl rfl h6n el25) ?_
            rcases Classical.em (i3 = (v4).length) with hg12 | hg12
            · refine AL.cons rfl (AOp.storeRptr (e := GType.cs x8) (es2 := GType.trs (v4 ++ ([x8] : List GType))) 16 rfl rfl rfl rfl rfl rfl leA rfl rfl sz27 (by rw [GType.trs_len]; exact hg12) h6n (by rw [GType.trs_map, GType.trs_map, List.map_append]; simp [GType.tr_cs])) ?_; refine AL.nil ?_; refine AWP.region_lit ?_; refine AL.cons rfl (AOp.addI rfl rfl rfl rfl (c := ((i3 + 1 : Nat) : Int)) (by omega) (by omega)) ?_; refine AL.cons rfl (AOp.move (.inl rfl) rfl rfl) ?_; refine AL.nil ?_
              have e13 : (icopyTypes_F1 fu r_icopyType r_icopyTypes pl) i3 v4 = some (.next (v4 ++ ([x8] : List GType))) := bdS hq7 (gdT hg12 (rfl))
              refine ⟨(i3 + 1, (v4 ++ ([x8] : List GType))), loopN_next h6l hJ5 e13, ?_, ?_⟩
              · exact Wk.mk (StLe.mk' trivial (by first | rfl | simp)) (keeps_nil hC) ⟨⟨_, rfl, .refl _, rfl⟩, ⟨⟨_, rfl, .refl _, rfl⟩, ⟨⟨_, rfl, .refl _, rfl⟩, ⟨⟨_, rfl, .refl _, rfl⟩, ⟨⟨_, rfl, leA, rfl⟩, trivial⟩⟩⟩⟩⟩
              · dsimp only; omega
            · have e14 : (icopyTypes_F1 fu r_icopyType r_icopyTypes pl) i3 v4 = none := bdS hq7 (gdF hg12)
              have e15 : icopyTypes_R1 fu r_icopyType r_icopyTypes pl = none := loopN_non h6l hJ5 e14
              have e16 : icopyTypes_G fu r_icopyType r_icopyTypes pl = none := gdT hg2 (soN e15)
              exact none_some H e16
        · have h6l : pl.length ≤ i3 := nat_ge_of2 h6
          refine AWP.exit ?_; refine ⟨v4, loopN_end h6l hJ5, ?_⟩
          exact Wk.mk (StLe.mk' trivial (by first | rfl | simp)) (keeps_nil hC) ⟨⟨_, rfl, .refl _, rfl⟩, ⟨⟨_, rfl, .refl _, rfl⟩, trivial⟩⟩
    · rintro v4 hR17
      refine AWP.seq ?_; refine AWP.region_lit ?_; refine AL.cons rfl (AOp.move (.inl rfl) rfl rfl) ?_
      rcases Classical.em ((v4).length = pl.length) with hg18 | hg18
      · refine AL.weak (Wk.full (i := 22) rfl rfl (by rw [GType.trs_len]; exact hg18)) ?_; refine AL.cons rfl (AOp.move (.inr rfl) rfl rfl) ?_; refine AL.nil ?_; refine AWP.ret ?_
        have e19 : icopyTypes_G fu r_icopyType r_icopyTypes pl = some v4 := gdT hg2 (soR hR17 (gdT hg18 (rfl)))
        have hz : v4 = r := Option.some.inj (e19.symm.trans H)
        subst hz
        exact Ends.mk (ps := [_]) (by first | exact .inr rfl | exact .inl rfl) ⟨rfl, trivial⟩ rfl (StLe.mk' (st' := ⟨[], []⟩) trivial rfl) (keeps_nil hC) (q := (.t (.row 3 (GType.trs (v4))) : PV)) leA rfl ⟨rfl, rfl⟩
      · have e20 : icopyTypes_G fu r_icopyType r_icopyTypes pl = none := gdT hg2 (soR hR17 (gdF hg18))
        exact none_some H e20
  · have e21 : icopyTypes_G fu r_icopyType r_icopyTypes pl = none := gdF hg2
    exact none_some H e21
mutual
noncomputable def icopyType_M : Nat → GType → Option GType
  | 0, _ => none
  | fu + 1, pt => icopyType_G fu (icopyType_M fu) (icopyTypes_M fu) pt
noncomputable def icopyTypes_M : Nat → (List GType) → Option ((List GType))
  | 0, _ => none
  | fu + 1, pl => icopyTypes_G fu (icopyType_M fu) (icopyTypes_M fu) pl
end
theorem icopyType_all (fu : Nat) : (∀ (pt : GType) (r : GType), icopyType_M fu pt = some r → AFun Try.prog 44 [(GType.pv pt)] ((GType.pv r) : PV)) ∧ (∀ (pl : List GType) (r : (List GType)), icopyTypes_M fu pl = some r → AFun Try.prog 81 [.t (.row 3 (GType.trs (pl)))] (.t (.row 3 (GType.trs (r))) : PV)) := by
  induction fu with
  | zero => exact ⟨(fun pt r H => by simp only [icopyType_M] at H; cases H), (fun pl r H => by simp only [icopyTypes_M] at H; cases H)⟩
  | succ fu ih => exact ⟨(fun pt r H => by simp only [icopyType_M] at H; exact icopyType_step (icopyType_M fu) (icopyTypes_M fu) fu ih.1 ih.2 pt r H), (fun pl r H => by simp only [icopyTypes_M] at H; exact icopyTypes_step (icopyType_M fu) (icopyTypes_M fu) fu ih.1 ih.2 pl r H)⟩
theorem icopyType_ok (fu : Nat) (pt : GType) (r : GType) (H : icopyType_M fu pt = some r) : AFun Try.prog 44 [(GType.pv pt)] ((GType.pv r) : PV) := (icopyType_all fu).1 pt r H
end Go.Proofs.Ytlijdhhajojenaa

namespace Go.Proofs.Ytlijdhhajojenaa
set_option linter.unusedSimpArgs false
set_option linter.unusedVariables false
open Go.RowKit Go.Proofs

theorem atD_range {n i : Nat} (h : i < n) : atD (List.range n) i = i := by rw [atD_eq (by simpa using h)]; simp
theorem eqs_len : ∀ {l r : List GType}, GType.eqs l r = true → l.length = r.length
  | [], [], _ => rfl
  | [], _ :: _, h => by simp [GType.eqs] at h
  | _ :: _, [], h => by simp [GType.eqs] at h
  | a :: l, b :: r, h => by
    simp only [GType.eqs, Bool.and_eq_true] at h
    simp [eqs_len h.2]
theorem eqs_range : ∀ {l r : List GType}, l.length = r.length → GType.eqs l r = (List.range l.length).all fun i => GType.eq (atD l i) (atD r i)
  | [], [], _ => rfl
  | [], _ :: _, h => by simp at h
  | _ :: _, [], h => by simp at h
  | a :: l, b :: r, h => by
    rw [GType.eqs, List.length_cons, List.range_succ_eq_map, List.all_cons, List.all_map, eqs_range (l := l) (r := r) (by simpa using h)]
    rfl
theorem sl4Same_ev {xs ys : List GType} (h : ∀ i, i < xs.length → i < ys.length → Evt fun fu => sEqualType_M fu (atD xs i) (atD ys i) = some (GType.eq (atD xs i) (atD ys i))) : Evt fun fu => sl4Same_M fu xs ys = some (GType.eqs xs ys) := by
  refine Evt.succ ?_
  by_cases hl : xs.length = ys.length
  · refine (Evt.below (k := xs.length) fun i hi => h i hi (by omega)).imp fun fu hf => ?_
    simp only [sl4Same_M, sl4Same_G]
    have hd : (!decide ((((xs.length : Nat) : Int) : Int) = ((ys.length : Nat) : Int))) = false := by simp [hl]
    rw [hd]
    have hr : ∀ fu', ∀ (r1 : GType → GType → Option Bool), (∀ i, i < xs.length → r1 (atD xs i) (atD ys i) = some (GType.eq (atD xs i) (atD ys i))) → sl4Same_R1 fu' r1 (sl4Same_M fu) xs ys = some (if (List.range xs.length).all (fun i => GType.eq (atD xs i) (atD ys i)) then .inr () else .inl false) := by
      intro fu' r1 h1
      unfold sl4Same_R1
      have := loopN_every (l := List.range xs.length) (f := sl4Same_F1 fu' r1 (sl4Same_M fu) xs ys) (p := fun i => GType.eq (atD xs i) (atD ys i)) (r := false) (s := ()) fun i hi => by
        have hi' : i < xs.length := by simpa using hi
        rw [atD_range hi', sl4Same_F1]
        rw [gdT (by omega) rfl, bdS (h1 i hi') rfl]
        cases GType.eq (atD xs i) (atD ys i) <;> rfl
      rwa [List.length_range] at this
    rw [hr fu _ hf, eqs_range hl]
    cases (List.range xs.length).all fun i => GType.eq (atD xs i) (atD ys i) <;> rfl
  · refine .all fun fu => ?_
    simp only [sl4Same_M, sl4Same_G]
    have hd : (!decide ((((xs.length : Nat) : Int) : Int) = ((ys.length : Nat) : Int))) = true := by simp; omega
    rw [hd]
    cases hq : GType.eqs xs ys
    · rfl
    · exact absurd (eqs_len hq) hl
theorem sEqualType_ev : ∀ a b : GType, Evt fun fu => sEqualType_M fu a b = some (GType.eq a b) := by
  refine GType.ind fun k n xs ih => ?_; rintro ⟨l, m, ys⟩
  refine Evt.succ ((sl4Same_ev (xs := xs) (ys := ys) fun i hi hj => ih _ (atD_mem hi) _).imp fun fu hf => ?_)
  simp only [sEqualType_M, sEqualType_G, GType.gKind_mk, GType.gName_mk, GType.gArgs_mk, hf, GType.eq]
  by_cases h1 : k = l
  · subst h1
    by_cases h2 : n = m
    · subst h2
      simp [sw, bd, bytes_beq_self]
    · simp [sw, h2, bytes_beq_ne]
  · have : (k == l) = false := by simpa using h1
    simp [sw, h1, this]
theorem sEqualType_fn (a b : GType) : AFun Try.prog 80 [(GType.pv a), (GType.pv b)] (.t (.leaf (.bool (GType.eq a b)))) := by
  obtain ⟨fu, h⟩ := (sEqualType_ev a b).get
  exact sEqualType_ok fu a b _ h
theorem iEqualFunc_ev {xs ys : List GType} (h : ∀ i, i < xs.length → i < ys.length → Evt fun fu => iEqualType_M fu (atD xs i) (atD ys i) = some (GType.eq (atD xs i) (atD ys i))) : Evt fun fu => gEqualFunc_Type__iEqualType_M fu xs ys = some (GType.eqs xs ys) := by
  refine Evt.succ ?_
  by_cases hl : xs.length = ys.length
  · refine (Evt.below (k := xs.length) fun i hi => h i hi (by omega)).imp fun fu hf => ?_
    simp only [gEqualFunc_Type__iEqualType_M, gEqualFunc_Type__iEqualType_G]
    have hd : (!decide ((((xs.length : Nat) : Int) : Int) = ((ys.length : Nat) : Int))) = false := by simp [hl]
    rw [hd]
    have hr : gEqualFunc_Type__iEqualType_R1 fu (iEqualType_M fu) (gEqualFunc_Type__iEqualType_M fu) xs ys = some (if (List.range xs.length).all (fun i => GType.eq (atD xs i) (atD ys i)) then .inr () else .inl false) := by
      unfold gEqualFunc_Type__iEqualType_R1
      have := loopN_every (l := List.range xs.length) (f := gEqualFunc_Type__iEqualType_F1 fu (iEqualType_M fu) (gEqualFunc_Type__iEqualType_M fu) xs ys) (p := fun i => GType.eq (atD xs i) (atD ys i)) (r := false) (s := ()) fun i hi => by
        have hi' : i < xs.length := by simpa using hi
        rw [atD_range hi', gEqualFunc_Type__iEqualType_F1]
        rw [gdT (by omega) rfl, bdS (hf i hi') rfl]
        cases GType.eq (atD xs i) (atD ys i) <;> rfl
      rwa [List.length_range] at this
    rw [hr, eqs_range hl]
    cases (List.range xs.length).all fun i => GType.eq (atD xs i) (atD ys i) <;> rfl
  · refine .all fun fu => ?_
    simp only [gEqualFunc_Type__iEqualType_M, gEqualFunc_Type__iEqualType_G]
    have hd : (!decide ((((xs.length : Nat) : Int) : Int) = ((ys.length : Nat) : Int))) = true := by simp; omega
    rw [hd]
    cases hq : GType.eqs xs ys
    · rfl
    · exact absurd (eqs_len hq) hl
theorem iEqualType_ev : ∀ a b : GType, Evt fun fu => iEqualType_M fu a b = some (GType.eq a b) := by
  refine GType.ind fun k n xs ih => ?_; rintro ⟨l, m, ys⟩
  refine Evt.succ ((iEqualFunc_ev (xs := xs) (ys := ys) fun i hi hj => ih _ (atD_mem hi) _).imp fun fu hf => ?_)
  simp only [iEqualType_M, iEqualType_G, GType.gKind_mk, GType.gName_mk, GType.gArgs_mk, hf, GType.eq]
  by_cases h1 : k = l
  · subst h1
    by_cases h2 : n = m
    · subst h2
      simp [sw, bd, bytes_beq_self]
    · simp [sw, h2, bytes_beq_ne]
  · have : (k == l) = false := by simpa using h1
    simp [sw, h1, this]
theorem iEqualType_fn (a b : GType) : AFun Try.prog 45 [(GType.pv a), (GType.pv b)] (.t (.leaf (.bool (GType.eq a b)))) := by
  obtain ⟨fu, h⟩ := (iEqualType_ev a b).get
  exact iEqualType_ok fu a b _ h
theorem foldl_snoc {α : Type} : ∀ (l a : List α), l.foldl (fun s x => s ++ [x]) a = a ++ l
  | [], a => by simp
  | x :: l, a => by rw [List.foldl_cons, foldl_snoc l]; simp
theorem bulk_mem {xs : List GType} : ∀ {x : GType}, x ∈ xs → Tr.bulkL x.tr ≤ Tr.bulkAll (GType.trs xs) := by
  induction xs with
  | nil => intro x hx; simp at hx
  | cons a l ih =>
    intro x hx
    simp only [GType.trs, Tr.bulkAll]
    rcases List.mem_cons.1 hx with rfl | hx
    · omega
    · have := ih hx; omega
theorem bulk_args (k : Int) (n : ByteArray) (xs : List GType) : xs.length + Tr.bulkAll (GType.trs xs) ≤ Tr.bulkL (GType.mk k n xs).tr := by
  simp only [GType.tr, Tr.bulkL_append, Tr.bulkL, Tr.bulk, GType.trs_len]
  omega
theorem sl4Copies_ev {xs : List GType} (hb : xs.length ≤ 68719476735) (h : ∀ x ∈ xs, Evt fun fu => sl4Copy_M fu x = some x) : Evt fun fu => sl4Copies_M fu xs = some xs := by
  refine Evt.succ ((Evt.list h).imp fun fu hf => ?_)
  simp only [sl4Copies_M, sl4Copies_G, sl4Copies_R1]
  rw [loopN_fold0 (l := xs) (g := fun s x => s ++ [x]) (fun i s => s.length = i) (fun i s hi hp => ⟨?_, by simp [hp]⟩) rfl, foldl_snoc]
  · rfl
  · rw [sl4Copies_F1, bdS (hf _ (atD_mem hi)) rfl, gdT (by simp; omega) rfl]
theorem sl4Copy_ev : ∀ t : GType, Tr.bulkL t.tr ≤ 68719476735 → Evt fun fu => sl4Copy_M fu t = some t := by
  refine GType.ind fun k n xs ih hb => ?_
  have h1 := bulk_args k n xs
  refine Evt.succ ((sl4Copies_ev (xs := xs) (by omega) fun x hx => ih x hx (by have := bulk_mem hx; omega)).imp fun fu hf => ?_)
  simp only [sl4Copy_M, sl4Copy_G, GType.gKind_mk, GType.gName_mk, GType.gArgs_mk, hf, bd]
theorem sl4Copy_fn (t : GType) (hb : Tr.bulkL t.tr ≤ 68719476735) : AFun Try.prog 76 [(GType.pv t)] (GType.pv t) := by
  obtain ⟨fu, h⟩ := (sl4Copy_ev t hb).get
  exact sl4Copy_ok fu t _ h
/-- A slice filled in order. -/
theorem loopN_fill {α β : Type} [Inhabited α] {f : Nat → List α → Option (LR (List α) β)} {l : List α} {g : α → α} (hs : ∀ i s, i < l.length → s.length = i → f i s = some (.next (s ++ [g (atD l i)]))) : loopN f (l.length - 0) 0 [] = some (.inr (l.map g)) := by
  rw [loopN_fold0 (l := l) (g := fun s x => s ++ [g x]) (fun i s => s.length = i) (fun i s hi hp => ⟨hs i s hi hp, by simp [hp]⟩) rfl]
  have key : ∀ (l a : List α), l.foldl (fun s x => s ++ [g x]) a = a ++ l.map g := by
    intro l
    induction l with
    | nil => intro a; simp
    | cons x l ih => intro a; rw [List.foldl_cons, ih]; simp
  rw [key, List.nil_append]
theorem icopyTypes_ev {xs : List GType} (hb : xs.length ≤ 68719476735) (h : ∀ x ∈ xs, Evt fun fu => icopyType_M fu x = some x) : Evt fun fu => icopyTypes_M fu xs = some xs := by
  refine Evt.succ ((Evt.list h).imp fun fu hf => ?_)
  simp only [icopyTypes_M, icopyTypes_G]
  rw [gdT (by omega) rfl]
  have hR : icopyTypes_R1 fu (icopyType_M fu) (icopyTypes_M fu) xs = some (.inr xs) := by
    unfold icopyTypes_R1
    rw [loopN_fill (l := xs) (g := id) fun i s hi hp => ?_, List.map_id]
    rw [icopyTypes_F1, bdS (hf _ (atD_mem hi)) rfl, gdT (by omega) rfl]
    rfl
  rw [soR hR rfl, gdT rfl rfl]
theorem icopyType_ev : ∀ t : GType, Tr.bulkL t.tr ≤ 68719476735 → Evt fun fu => icopyType_M fu t = some t := by
  refine GType.ind fun k n xs ih hb => ?_
  have h1 := bulk_args k n xs
  refine Evt.succ ((icopyTypes_ev (xs := xs) (by omega) fun x hx => ih x hx (by have := bulk_mem hx; omega)).imp fun fu hf => ?_)
  simp only [icopyType_M, icopyType_G, GType.gKind_mk, GType.gName_mk, GType.gArgs_mk, hf, bd]
theorem icopyType_fn (t : GType) (hb : Tr.bulkL t.tr ≤ 68719476735) : AFun Try.prog 44 [(GType.pv t)] (GType.pv t) := by
  obtain ⟨fu, h⟩ := (icopyType_ev t hb).get
  exact icopyType_ok fu t _ h
end Go.Proofs.Ytlijdhhajojenaa

namespace Go.Proofs.Ytlijdhhajojenaa
set_option linter.unusedSimpArgs false
set_option linter.unusedVariables false
open Go.RowKit Go.WalkArith Go.IntWalk Go.WideShapes

section
variable {P : Program} {C : Ctx} {n : Nat} {s : AS} {o : Oper}
/-- A literal whose elements will be written to: a new box. -/
theorem AOp.buildSliceB {T E sz by_ len : Nat} {parts : Array (Nat × Operand)} {ps : List (Nat × List PV)} {zs cs : List PV} (ho : o.op = .buildSlice T len parts) (hd : dstOk o.dst n = true) (hT : elemOf? P T = some (E, sz, by_)) (hz : zerosOf P E = some zs) (hp : partsP s parts.toList = some ps)
    (hc : fillP (fun i => some (i * sz, sz)) (List.replicate len zs).flatten ps = some cs) (hcl : cs.length = len * sz) (hsz : 0 < sz) (hzl : zs.length = sz) (hsm : len * sz ≤ 16777216) :
    AOp P C n o s ((⟨s.env, s.st.addBox ⟨E, cs⟩⟩ : AS).putO o.dst (.bsl s.st.boxes.length len)) :=
  AOp.run hd (s1 := ⟨s.env, s.st.addBox ⟨E, cs⟩⟩) (fun m a w h => by
    obtain ⟨us, h1, h2, h3⟩ := AOp.buildSlice_run ho hT hz hp hc hcl hsz hzl hsm h
    exact ⟨_, _, _, h1, ev_addBox (x := ⟨E, cs⟩), sto_addBox (x := ⟨E, cs⟩) h.sto h2, ⟨⟨E, cs⟩, by simp [Sto.addBox]⟩, by simp [upd_same]⟩) rfl
theorem AOp.buildSliceLE {T E sz by_ len : Nat} {parts : Array (Nat × Operand)} {ps : List (Nat × List PV)} {zs cs : List PV} {es es' : List (List Tr)} (ho : o.op = .buildSlice T len parts) (hd : dstOk o.dst n = true) (hT : elemOf? P T = some (E, sz, by_)) (hz : zerosOf P E = some zs) (hp : partsP s parts.toList = some ps)
    (hc : fillP (fun i => some (i * sz, sz)) (List.replicate len zs).flatten ps = some cs) (hle : LeL cs (es.flatten.map PV.t)) (hel : es.length = len) (hes : ∀ e ∈ es, e.length = sz) (hsz : 0 < sz) (hzl : zs.length = sz) (hsm : len * sz ≤ 16777216) (he : es = es') :
    AOp P C n o s (s.putO o.dst (.lit sz es')) := he ▸ AOp.buildSliceL ho hd hT hz hp hc hle hel hes hsz hzl hsm
/-- An element of such a slice: a place in its box. -/
theorem AOp.indexB {T E sz by_ k N i : Nat} {x y : Operand} (ho : o.op = .indexAddr T x y) (hd : dstOk o.dst n = true) (hx : s.ev x = some (.bsl k N)) (hy : s.ev y = some (.t (.leaf (.int .i64 (i : Int))))) (hi : i < N) (hT : elemOf? P T = some (E, sz, by_)) :
    AOp P C n o s (s.putO o.dst (.ptr k (i * sz))) :=
  AOp.quiet (dstOk_lt hd) fun m a w h => by
    obtain ⟨hb, hv⟩ := h.eval hx
    have h6 := (RepM.leaf_eq (h.eval hy)).1
    refine ⟨.pointer (some ⟨m.ρ k, 0 + i * sz, none⟩), ?_, hb, by rw [Nat.zero_add]⟩
    unfold execOp
    simp only [ho, hv, h6, Sem.run_bind, run_indexAt' hT hi, Result.andThen_ok]
    rfl
/-- 'append' to a slice that has no room: new memory. -/
theorem AOp.appendLit {T E sz by_ : Nat} {x y : Operand} {es1 es2 es3 : List (List Tr)} {p : PV} (ho : o.op = .call { callee := .builtin .append, args := #[x, y], argTypes := #[T, T] }) (hd : dstOk o.dst n = true)
    (hx : s.ev x = some (.lit sz es1)) (hy : s.ev y = some p) (hp : rowOf p = some (sz, es2)) (h1 : ∀ e ∈ es1, e.length = sz) (h2 : ∀ e ∈ es2, e.length = sz) (hne : es2 ≠ []) (hsz : 0 < sz)
    (hT : elemOf? P T = some (E, sz, by_)) (hz : (P.info? E).bind (fun i => i.zero.map (fun z => z.cells.size)) = some sz) (hb : 0 < by_) (hlen : (es1.length + es2.length) * by_ ≤ 140737488355328) (h3 : es1 ++ es2 = es3) :
    AOp P C n o s (s.putO o.dst (.t (.row sz es3))) := by
  subst h3
  refine AOp.quietX hd fun m a w h => ?_
  obtain ⟨i, hu, hi, hs, hby⟩ := elemOf?.spec hT
  obtain ⟨hr1, ad, hv1⟩ := h.eval hx
  have hr2 := rowOf_rv hp (h.eval hy)
  obtain ⟨b, off, c2, news, hv2, hnl, hnews, hone, hnd⟩ := hr2.news h2 hne hsz
  have hpos2 : 0 < es2.length := List.length_pos_iff.2 hne
  have hlen : (es1.length + es2.length) * i.bytes ≤ 140737488355328 := by rw [hby]; exact hlen
  have h63 : es1.length + es2.length ≤ 140737488355328 := Nat.le_trans (Nat.le_mul_of_pos_right _ (by omega)) hlen
  have hrun : ∀ v w1, (Builtin.append_ #[T, T] o.type #[a.eval x, a.eval y]).run P w = .ok v w1 → (execOp a.eval o).run P w = .ok (.value v) w1 := fun v w1 hr => by
    unfold execOp
    simp only [ho, resolve, invoke, builtin, Sem.run_bind, Sem.run_pure, Result.andThen_ok, List.map_toArray, List.map_cons, List.map_nil, hr]
  cases hzz : i.zero with
  | none => simp [hi, hzz] at hz
  | some z =>
    have fin : ∀ (olds : List Value) (c : Nat) (cur : Array Value) (Z : List Value), cur.toList = olds ++ news ++ Z → olds.length = es1.length * sz → (∀ i e, es1[i]? = some e → ∀ j d, e[j]? = some d → ∃ v, olds[i * sz + j]? = some v ∧ RepM (okA C.av s.st m) w d v) → es1.length + es2.length ≤ c → c ≤ maxLen →
        RepM (okA C.av s.st m) (w.drew.alloc (.cells cur E)) (.row sz (es1 ++ es2)) (.slice (some ⟨w.heap.size, 0, none⟩) (es1.length + es2.length) c) := fun olds c cur Z hcur hol hod hc hm => by
      have hX : Ext w (w.drew.alloc (.cells cur E)) := .alloc (.drew (.refl _)) _
      have hget : ∀ q e, (es1 ++ es2)[q]? = some e → ∀ j d, e[j]? = some d → ∃ v, cur[q * sz + j]? = some v ∧ RepM (okA C.av s.st m) (w.drew.alloc (.cells cur E)) d v := fun q e hq j d hj => by
        rw [← Array.getElem?_toList, hcur, List.append_assoc]
        by_cases hlt : q < es1.length
        · rw [List.getElem?_append_left hlt] at hq
          obtain ⟨v, hv, hr⟩ := hod q e hq j d hj
          exact ⟨v, by rw [List.getElem?_append_left (get_lt hv)]; exact hv, RepM.ext hr hX⟩
        · rw [List.getElem?_append_right (by omega)] at hq
          obtain ⟨v, hv, hr⟩ := hnd _ e hq j d hj
          refine ⟨v, ?_, RepM.ext hr hX⟩
          have e1 : q * sz + j = es1.length * sz + ((q - es1.length) * sz + j) := by
            rw [← Nat.add_assoc, ← Nat.add_mul]
            congr 2
            omega
          rw [e1, ← hol, List.getElem?_append_right (by omega), Nat.add_sub_cancel_left, List.getElem?_append_left (get_lt hv)]
          exact hv
      have := RepM.row (ok := okA C.av s.st m) (w := w.drew.alloc (.cells cur E)) (es := es1 ++ es2) (sz := sz) (a := some ⟨w.heap.size, 0, none⟩) (cap := c) (fun q j => (cur[q * sz + j]?).getD undef) (by rw [List.length_append]; exact hc) hm (fun _ => ⟨w.heap.size, 0, rfl, by simp, fun q e hq j d hd => ⟨okA_new h.sto (Nat.le_refl _) _, ?_⟩⟩) (fun q e hq j d hd => ?_)
      · rw [List.length_append] at this
        exact this
      · obtain ⟨v, hv, -⟩ := hget q e hq j d hd
        rw [Nat.zero_add, (show OB (w.drew.alloc (.cells cur E)) w.heap.size E cur from OB.new w.drew E cur).cell, hv]
        rfl
      · obtain ⟨v, hv, hr⟩ := hget q e hq j d hd
        rw [hv]
        exact hr
    have grow : ∀ (A : Addr) (olds : List Value), ad = some A → olds.length = es1.length * sz → (∀ j v, olds[j]? = some v → w.cell? (A.add j) = some v) → (∀ i e, es1[i]? = some e → ∀ j d, e[j]? = some d → ∃ v, olds[i * sz + j]? = some v ∧ RepM (okA C.av s.st m) w d v) →
        ∃ v w1, (execOp a.eval o).run P w = .ok (.value v) w1 ∧ Ext w w1 ∧ RV (okA C.av s.st m) s.st m w1 (.t (.row sz (es1 ++ es2))) v := fun A olds hA hol hold hod => by
      subst hA
      have happ := run_append_grow (P := P) w T o.type E i z hu hi hzz A es1.length es1.length olds (by rw [hs]; exact hol) hold ⟨b, off, none⟩ es2.length c2 news (by rw [hnl, hs]) hnews (by omega) (by omega) (growslice_fits (by omega) hlen)
      rw [← hv2, ← hv1] at happ
      have hge := grownCap_ge w (es1.length + es2.length) es1.length E
      exact ⟨_, _, hrun _ _ happ, .alloc (.drew (.refl _)) _, fin olds _ _ _ (by simp; rfl) hol hod hge (grownCap_le_maxLen w _ _ _ (by unfold maxLen; omega))⟩
    by_cases he : es1 = []
    · cases ad with
      | none =>
        subst he
        have happ := run_append_nil (P := P) w T o.type E i z hu hi hzz ⟨b, off, none⟩ es2.length c2 news (by rw [hnl, hs]) hnews (by omega) (by omega) (by simp only [List.length_nil, Nat.zero_add] at hlen; omega)
        have hv1' : a.eval x = .slice none 0 0 := hv1
        rw [← hv2, ← hv1'] at happ
        have hge := grownCap_ge w es2.length 0 E
        have hf := fin [] (grownCap w es2.length 0 E) (news.toArray ++ Builtin.zeroCells z.cells (grownCap w es2.length 0 E - es2.length)) (Builtin.zeroCells z.cells (grownCap w es2.length 0 E - es2.length)).toList (by simp) (by simp) (fun i e h => by simp at h) (by simpa using hge) (grownCap_le_maxLen w _ _ _ (by unfold maxLen; omega))
        simp only [List.length_nil, Nat.zero_add, List.nil_append] at hf
        exact ⟨_, _, hrun _ _ happ, .alloc (.drew (.refl _)) _, hf⟩
      | some A =>
        subst he
        exact grow A [] rfl (by simp) (fun j v h => by simp at h) (fun i e h => by simp at h)
    · obtain ⟨b1, off1, c1, olds, hv1', hol, hold, -, hod⟩ := hr1.news h1 he hsz
      have hva := hv1.symm.trans hv1'
      injection hva with e1 e2 e3
      exact grow _ olds e1 hol hold hod

/-! ### A box that is written no more -/
mutual
inductive FLe (k sz : Nat) (es : List (List Tr)) : PV → PV → Prop
  | le {p q : PV} : PV.Le p q → FLe k sz es p q
  | bsl {n : Nat} : es.length = n → FLe k sz es (.bsl k n) (.t (.row sz es))
  | agg {ps qs : List PV} : FLeL k sz es ps qs → FLe k sz es (.agg ps) (.agg qs)
inductive FLeL (k sz : Nat) (es : List (List Tr)) : List PV → List PV → Prop
  | nil : FLeL k sz es [] []
  | cons {p q : PV} {ps qs : List PV} : FLe k sz es p q → FLeL k sz es ps qs → FLeL k sz es (p :: ps) (q :: qs)
end
def FBox (k sz : Nat) (es : List (List Tr)) (st' : Sto) : List (Option PBox) → List (Option PBox) → Prop
  | _, [] => True
  | _ :: xs, none :: ys => FBox k sz es st' xs ys
  | some x :: xs, some y :: ys => (x.ty = y.ty ∧ FLeL k sz es x.cells y.cells ∧ okInL st' y.cells = true) ∧ FBox k sz es st' xs ys
  | _, _ => False
theorem FBox.get {k sz : Nat} {es : List (List Tr)} {st' : Sto} : ∀ {xs ys : List (Option PBox)}, FBox k sz es st' xs ys → ∀ (i : Nat) (y : PBox), ys[i]? = some (some y) → ∃ x : PBox, xs[i]? = some (some x) ∧ x.ty = y.ty ∧ FLeL k sz es x.cells y.cells ∧ okInL st' y.cells = true
  | _, [], _, i, y, h => by simp at h
  | [], none :: ys, hl, i, y, h => hl.elim
  | x :: xs, none :: ys, hl, 0, y, h => by simp at h
  | none :: xs, none :: ys, hl, i + 1, y, h => by simpa using FBox.get (xs := xs) hl i y (by simpa using h)
  | some _ :: xs, none :: ys, hl, i + 1, y, h => by simpa using FBox.get (xs := xs) hl i y (by simpa using h)
  | some x :: xs, some z :: ys, hl, 0, y, h => by
    simp at h
    subst h
    exact ⟨x, rfl, hl.1⟩
  | some x :: xs, some z :: ys, hl, i + 1, y, h => by simpa using FBox.get (xs := xs) hl.2 i y (by simpa using h)
  | [], some _ :: _, hl, _, _, _ => hl.elim
  | none :: _, some _ :: _, hl, _, _, _ => hl.elim
def FEnv (k sz : Nat) (es : List (List Tr)) (s : AS) (st' : Sto) : List (Nat × PV) → Prop
  | [] => True
  | (i, q) :: l => (∃ p, s.lk i = some p ∧ FLe k sz es p q ∧ PV.okIn st' q = true) ∧ FEnv k sz es s st' l
theorem FEnv.get {k sz : Nat} {es : List (List Tr)} {s : AS} {st' : Sto} : ∀ {l : List (Nat × PV)} {i : Nat} {q : PV}, FEnv k sz es s st' l → l.lookup i = some q → ∃ p, s.lk i = some p ∧ FLe k sz es p q ∧ PV.okIn st' q = true
  | [], _, _, _, h => by simp at h
  | (j, p) :: l, i, q, hl, h => by
    rw [List.lookup_cons] at h
    by_cases hik : i = j
    · subst hik
      simp at h
      subst h
      exact hl.1
    · rw [show (i == j) = false by simp [hik]] at h
      exact FEnv.get hl.2 h
mutual
theorem FLe.rv {k sz : Nat} {es : List (List Tr)} {ok ok' : Nat → Nat → Prop} {st st' : Sto} {m : Lay} {w : World} (hle : ∀ p v, PV.okIn st' p = true → RV ok st m w p v → RV ok' st' m w p v) (hb : ∀ v, v = .slice (some ⟨m.ρ k, 0, none⟩) es.length es.length → RepM ok' w (.row sz es) v) :
    ∀ {p q : PV} {v : Value}, FLe k sz es p q → PV.okIn st' q = true → RV ok st m w p v → RV ok' st' m w q v
  | _, _, _, .le h, hk, hr => hle _ _ hk (h.rv hr)
  | _, _, _, .bsl h, _, hr => hb _ (h ▸ hr.2)
  | _, _, _, .agg h, hk, hr => by
    obtain ⟨vs, hv, h1⟩ := hr
    exact ⟨vs, hv, FLeL.rv hle hb h hk h1⟩
theorem FLeL.rv {k sz : Nat} {es : List (List Tr)} {ok ok' : Nat → Nat → Prop} {st st' : Sto} {m : Lay} {w : World} (hle : ∀ p v, PV.okIn st' p = true → RV ok st m w p v → RV ok' st' m w p v) (hb : ∀ v, v = .slice (some ⟨m.ρ k, 0, none⟩) es.length es.length → RepM ok' w (.row sz es) v) :
    ∀ {ps qs : List PV} {vs : List Value}, FLeL k sz es ps qs → okInL st' qs = true → RVL ok st m w ps vs → RVL ok' st' m w qs vs
  | _, _, [], .nil, _, h => trivial
  | _, _, _ :: _, .nil, _, h => h.elim
  | _, _, [], .cons _ _, _, h => h.elim
  | _, _, _ :: _, .cons k1 k2, hk, h => by
    simp only [okInL, Bool.and_eq_true] at hk
    exact ⟨FLe.rv hle hb k1 hk.1 h.1, FLeL.rv hle hb k2 hk.2 h.2⟩
end
/-- The slice over box k is plain data from here on. -/
theorem Wk.freeze {k sz : Nat} {bx : PBox} {es : List (List Tr)} {s' : AS} (hb : s.st.boxes[k]? = some (some bx)) (hc : LeL bx.cells (es.flatten.map PV.t)) (hes : ∀ e ∈ es, e.length = sz) (hm : es.length ≤ 16777216)
    (hbox : FBox k sz es s'.st s.st.boxes s'.st.boxes) (hnone : s'.st.boxes[k]? = some none) (hr : s'.st.rows = s.st.rows) (hp : Keeps0 C.st s'.st) (he : FEnv k sz es s s'.st s'.env) : Wk C n s s' := fun m a w h => by
  have hsub : StSub s.st s'.st := ⟨fun i x hi => by obtain ⟨y, hy, -⟩ := hbox.get i x hi; exact ⟨y, hy⟩, fun r row hrow => by rw [hr] at hrow; exact hrow⟩
  obtain ⟨vs, hob, hvs⟩ := h.sto.box k bx hb
  have hts := LeL.rv hc hvs
  have hokk : ∀ o, okA C.av s'.st m (m.ρ k) o := fun o => ⟨h.sto.avb k bx hb o, fun i x hi => by
    obtain ⟨y, hy, -⟩ := hbox.get i x hi
    by_cases hik : i = k
    · subst hik
      rw [hnone] at hi
      cases hi
    · exact h.sto.binj i k y bx hy hb hik, fun r row g c hrow hg e => absurd e.symm (h.sto.br k bx r row g c hb (hsub.rows r row hrow) hg)⟩
  have hRep : ∀ v, v = .slice (some ⟨m.ρ k, 0, none⟩) es.length es.length → RepM (okA C.av s'.st m) w (.row sz es) v := by
    rintro _ rfl
    have hget : ∀ q e, es[q]? = some e → ∀ j d, e[j]? = some d → ∃ v, vs[q * sz + j]? = some v ∧ RepM (okA C.av s.st m) w d v := fun q e hq j d hj => by
      have hf := flatten_get (sz := sz) hes hq hj
      obtain ⟨v, hv, hrv⟩ := hts.get (j := q * sz + j) (p := .t d) (by rw [List.getElem?_map, hf]; rfl)
      exact ⟨v, hv, hrv⟩
    refine RepM.row (fun q j => (vs[q * sz + j]?).getD undef) (Nat.le_refl _) (by unfold maxLen; omega) (fun _ => ⟨m.ρ k, 0, rfl, hob.lt, fun q e hq j d hd => ⟨hokk _, ?_⟩⟩) (fun q e hq j d hd => ?_)
    · obtain ⟨v, hv, -⟩ := hget q e hq j d hd
      rw [Nat.zero_add, hob.cell, hv]
      simpa using hv
    · obtain ⟨v, hv, hrr⟩ := hget q e hq j d hd
      rw [hv]
      exact RepM.mono hrr (Nat.le_refl _) (fun _ _ _ k => hsub.ok k) (fun _ _ _ _ => rfl)
  have hle : ∀ p v, PV.okIn s'.st p = true → RV (okA C.av s.st m) s.st m w p v → RV (okA C.av s'.st m) s'.st m w p v := fun p v => hsub.rv p v
  refine ⟨m, h.dfr, h.tsz, ?_, fun i q hq => ?_, ?_⟩
  · exact {
      box := fun i x hi => by
        obtain ⟨y, hy, ht, hl, hk⟩ := hbox.get i x hi
        obtain ⟨us, k1, k2⟩ := h.sto.box i y hy
        exact ⟨us, by rw [← ht]; exact k1, FLeL.rv hle hRep hl hk k2⟩
      binj := fun i i' x x' hi hi' => by
        obtain ⟨y, hy, -⟩ := hbox.get i x hi
        obtain ⟨y', hy', -⟩ := hbox.get i' x' hi'
        exact h.sto.binj i i' y y' hy hy'
      row := fun r row hrow => by
        obtain ⟨k1, k2, k3⟩ := h.sto.row r row (hsub.rows r row hrow)
        refine ⟨k1, k2, ?_⟩
        rcases k3 with k3 | ⟨g, c, cur, q1, q2, q3, q4, q5, q6⟩
        · exact .inl k3
        · exact .inr ⟨g, c, cur, q1, q2, q3, q4, q5, RepM.mono q6 (Nat.le_refl _) (fun _ _ _ k => hsub.ok k) (fun _ _ _ _ => rfl)⟩
      rinj := fun r r' row row' g c c' hi hi' => h.sto.rinj r r' row row' g c c' (hsub.rows r row hi) (hsub.rows r' row' hi')
      br := fun i x r row g c hi hrow => by
        obtain ⟨y, hy, -⟩ := hbox.get i x hi
        exact h.sto.br i y r row g c hy (hsub.rows r row hrow)
      avlt := h.sto.avlt
      avr := fun r row g c hrow => h.sto.avr r row g c (hsub.rows r row hrow)
      avb := fun i x hi => by
        obtain ⟨y, hy, -⟩ := hbox.get i x hi
        exact h.sto.avb i y hy }
  · obtain ⟨p, h1, h2, h3⟩ := he.get hq
    obtain ⟨v, hv, hrv⟩ := h.env i p h1
    exact ⟨v, hv, FLe.rv hle hRep h2 h3 hrv⟩
  · exact {
      os := h.ev.os
      tape := h.ev.tape
      output := h.ev.output
      size := h.ev.size
      blk := h.ev.blk
      cell := h.ev.cell
      okk := fun b o hb ho => (hsub.ok (av := fun _ _ => False) ⟨id, h.ev.okk b o hb ho⟩).2
      live := fun i x hi => ⟨hp.1 i x hi, (h.ev.live i x hi).2⟩
      fresh := fun i x' hi => by
        obtain ⟨y, hy, -⟩ := hbox.get i x' hi
        exact h.ev.fresh i y hy
      rowl := fun r row hrow => by
        obtain ⟨row', hr'⟩ := hp.2 r row hrow
        obtain ⟨row2, h1, h2⟩ := h.ev.rowl r row hrow
        have := hsub.rows r row' hr'
        rw [h1] at this
        cases this
        exact ⟨_, hr', h2⟩
      rfresh := fun r row' g c hrow hg => h.ev.rfresh r row' g c (hsub.rows r row' hrow) hg }
end
theorem Wk.freezeE {C : Ctx} {n : Nat} {s : AS} {k sz : Nat} {bx : PBox} {es es' : List (List Tr)} {s' : AS} (heq : es = es') (hb : s.st.boxes[k]? = some (some bx)) (hc : LeL bx.cells (es.flatten.map PV.t)) (hes : ∀ e ∈ es, e.length = sz) (hm : es.length ≤ 16777216)
    (hbox : FBox k sz es' s'.st s.st.boxes s'.st.boxes) (hnone : s'.st.boxes[k]? = some none) (hr : s'.st.rows = s.st.rows) (hp : Keeps0 C.st s'.st) (he : FEnv k sz es' s s'.st s'.env) : Wk C n s s' := by
  subst heq
  exact Wk.freeze hb hc hes hm hbox hnone hr hp he
/-- Compares views where a box is given up. -/
theorem fleA {p : Prop} (h : p := by (repeat' (first | exact FLe.bsl rfl | exact FLeL.nil | apply FLeL.cons | exact FLe.le (PV.Le.refl _) | exact FLe.le (PV.Le.acc _ _ _) | exact FLe.le (PV.Le.nil _) | exact FLe.le (PV.Le.lit _ _) | exact FLe.le (PV.Le.nilLit _) | apply FLe.agg))) : p := h
end Go.Proofs.Ytlijdhhajojenaa

namespace Go.Proofs.Ytlijdhhajojenaa
set_option linter.unusedSimpArgs false
set_option linter.unusedVariables false
open Go.RowKit Go.WalkArith Go.IntWalk Go.WideShapes

section
variable {P : Program} {C : Ctx} {n : Nat} {s : AS} {o : Oper}
end

end Go.Proofs.Ytlijdhhajojenaa

namespace Go.Proofs.Ytlijdhhajojenaa
set_option linter.unusedSimpArgs false
set_option linter.unusedVariables false
open Go.RowKit Go.WalkArith Go.IntWalk Go.WideShapes

mutual
/-- The value, the one slice of ours in it told by another number. -/
inductive Mv (sz : Nat) (es : List (List Tr)) (k k' : Nat) : PV → PV → Prop
  | acc : Mv sz es k k' (.acc sz es k) (.acc sz es k')
  | free (p : PV) : PV.free p = true → Mv sz es k k' p p
  | agg {ps qs : List PV} : MvL sz es k k' ps qs → Mv sz es k k' (.agg ps) (.agg qs)
  | tup {ps qs : List PV} : MvL sz es k k' ps qs → Mv sz es k k' (.tup ps) (.tup qs)
inductive MvL (sz : Nat) (es : List (List Tr)) (k k' : Nat) : List PV → List PV → Prop
  | nil : MvL sz es k k' [] []
  | cons {p q : PV} {ps qs : List PV} : Mv sz es k k' p q → MvL sz es k k' ps qs → MvL sz es k k' (p :: ps) (q :: qs)
end
section
variable {ok ok' : Nat → Nat → Prop} {st st' : Sto} {m m' : Lay} {w : World} {sz k k' : Nat} {es : List (List Tr)}
mutual
theorem Mv.rv (hk : ∀ b o, b < w.heap.size → ok b o → ok' b o) (hrow : ∀ row, st.rows[k]? = some row → st'.rows[k']? = some row ∧ m'.γ k' = m.γ k) : ∀ {p q : PV} {v : Value}, Mv sz es k k' p q → RV ok st m w p v → RV ok' st' m' w q v
  | _, _, _, .acc, h => by
    obtain ⟨row, h1, h2, h3, h4, h5⟩ := h
    obtain ⟨k1, k2⟩ := hrow row h1
    exact ⟨row, k1, h2, h3, RepM.mono h4 (Nat.le_refl _) hk (fun _ _ _ _ => rfl), fun e => by rw [k2]; exact h5 e⟩
  | _, _, _, .free p hf, h => PV.free.rv hk p _ hf h
  | _, _, _, .agg hl, h => by
    obtain ⟨vs, hv, h1⟩ := h
    exact ⟨vs, hv, MvL.rv hk hrow hl h1⟩
  | _, _, _, .tup hl, h => by
    obtain ⟨vs, hv, h1⟩ := h
    exact ⟨vs, hv, MvL.rv hk hrow hl h1⟩
theorem MvL.rv (hk : ∀ b o, b < w.heap.size → ok b o → ok' b o) (hrow : ∀ row, st.rows[k]? = some row → st'.rows[k']? = some row ∧ m'.γ k' = m.γ k) : ∀ {ps qs : List PV} {vs : List Value}, MvL sz es k k' ps qs → RVL ok st m w ps vs → RVL ok' st' m' w qs vs
  | _, _, [], .nil, h => h
  | _, _, _ :: _, .nil, h => h.elim
  | _, _, [], .cons _ _, h => h.elim
  | _, _, _ :: _, .cons h1 h2, h => ⟨Mv.rv hk hrow h1 h.1, MvL.rv hk hrow h2 h.2⟩
end
end
mutual
theorem PV.free.ren {fb fr : List Nat} : ∀ (p : PV), PV.free p = true → PV.ren fb fr p = p
  | .t _, _ => rfl
  | .agg cs, h => by rw [PV.ren, freeL.ren cs h]
  | .tup cs, h => by rw [PV.ren, freeL.ren cs h]
  | .nil, _ => rfl
  | .eptr _, _ => rfl
  | .fn f cs, h => by rw [PV.ren, freeL.ren cs h]
  | .acc _ _ _, h => by cases h
  | .ptr _ _, h => by cases h
  | .full _ _ _, h => by cases h
  | .rptr _ _, h => by cases h
  | .lit _ _, h => by cases h
  | .bsl _ _, h => by cases h
theorem freeL.ren {fb fr : List Nat} : ∀ (ps : List PV), freeL ps = true → renL fb fr ps = ps
  | [], _ => rfl
  | p :: ps, h => by
    simp only [freeL, Bool.and_eq_true] at h
    rw [renL, PV.free.ren p h.1, freeL.ren ps h.2]
end

section
variable {av : Nat → Nat → Prop} {s pre st' : Sto} {m m' : Lay} {fb : List Nat} {w w' : World} {k : Nat} {row : PRow}
end

def freeBoxes : List (Option PBox) → Bool
  | [] => true
  | none :: l => freeBoxes l
  | some x :: l => freeL x.cells && freeBoxes l
theorem freeBoxes.get : ∀ {l : List (Option PBox)} {j : Nat} {x : PBox}, freeBoxes l = true → l[j]? = some (some x) → freeL x.cells = true
  | [], _, _, _, h => by simp at h
  | none :: l, 0, _, _, h => by simp at h
  | none :: l, j + 1, x, hf, h => freeBoxes.get (l := l) (j := j) hf (by simpa using h)
  | some y :: l, 0, x, hf, h => by
    simp at h
    subst h
    simp only [freeBoxes, Bool.and_eq_true] at hf
    exact hf.1
  | some y :: l, j + 1, x, hf, h => by
    simp only [freeBoxes, Bool.and_eq_true] at hf
    exact freeBoxes.get (l := l) (j := j) hf.2 (by simpa using h)
section
variable {P : Program} {C : Ctx} {n : Nat} {s : AS} {o : Oper}
end
end Go.Proofs.Ytlijdhhajojenaa
