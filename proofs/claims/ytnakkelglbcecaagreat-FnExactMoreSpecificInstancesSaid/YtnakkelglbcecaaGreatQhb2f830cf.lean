/- Words, rules and walks of several kinds, laid together: MaTy, Plain, SL, TyEq0, PlTy. No conditions but those that each theorem states. -/
import Derived.Test.YtnakkelglbcecaaGreatQh64859010
import Derived.Test.YtnakkelglbcecaaGreatQh2ecc459e
import Derived.Test.YtnakkelglbcecaaGreatQhacf58ee8
import Derived.Test.YtnakkelglbcecaaGreatQh122dace5
set_option linter.unusedSimpArgs false
set_option linter.unusedVariables false
namespace Go.Proofs.YtnakkelglbcecaaGreat
open Go.RowKit Go.Proofs
set_option linter.unusedSimpArgs false
set_option linter.unusedVariables false

noncomputable def sEqualType_G (fu : Nat) (r_sEqualType : GType → GType → Option Bool) (r_sl4Same : (List GType) → (List GType) → Option Bool) (pa : GType) (pb : GType) : Option Bool :=
 sw (decide ((pa.gKind : Int) = pb.gKind))
 (sw (decide (pa.gName = pb.gName))
 (bd (r_sl4Same pa.gArgs pb.gArgs) (fun x6 =>
 some x6))
 (some false))
 (some false)
set_option maxRecDepth 100000 in
set_option maxHeartbeats 4000000 in
theorem sEqualType_step (r_sEqualType : GType → GType → Option Bool) (r_sl4Same : (List GType) → (List GType) → Option Bool) (fu : Nat) (h_sEqualType : ∀ (pa : GType) (pb : GType) (r : Bool), r_sEqualType pa pb = some r → AFun Tryz.prog 228 [(GType.pv pa), (GType.pv pb)] (.t (.leaf (.bool (r))) : PV)) (h_sl4Same : ∀ (pa : List GType) (pb : List GType) (r : Bool), r_sl4Same pa pb = some r → AFun Tryz.prog 244 [.t (.row 3 (GType.trs (pa))), .t (.row 3 (GType.trs (pb)))] (.t (.leaf (.bool (r))) : PV)) (pa : GType) (pb : GType) (r : Bool) (H : sEqualType_G fu r_sEqualType r_sl4Same pa pb = some r) : AFun Tryz.prog 228 [(GType.pv pa), (GType.pv pb)] (.t (.leaf (.bool (r))) : PV) := by
  refine ACalls.intro Tryz.func228 rfl (by first | decide | (simp; done) | (simp; decide)) ?_
  intro C hC
  refine AWP.seq ?_
  refine AWP.region_lit ?_
  refine AL.cons rfl (AOp.box (cs := [.t (.leaf (.int .i64 (pa.gKind))), .t (.leaf (.string (pa.gName))), .t (.row 3 (GType.trs (pa.gArgs)))]) rfl rfl rfl rfl rfl) ?_
  refine AL.cons rfl (AOp.box (cs := [.t (.leaf (.int .i64 (pb.gKind))), .t (.leaf (.string (pb.gName))), .t (.row 3 (GType.trs (pb.gArgs)))]) rfl rfl rfl rfl rfl) ?_
  refine AL.cons rfl (AOp.move (.inr rfl) rfl rfl) ?_
  refine AL.nil ?_
  refine AWP.seq ?_
  refine AWP.region_lit ?_
  refine AL.cons rfl (AOp.fieldPtr (k := 0) (d := 0) (e := 0) rfl rfl rfl fo47_0) ?_
  refine AL.cons rfl (AOp.loadPtr1 rfl rfl rfl rfl sh3 rfl) ?_
  refine AL.cons rfl (AOp.fieldPtr (k := 1) (d := 0) (e := 0) rfl rfl rfl fo47_0) ?_
  refine AL.cons rfl (AOp.loadPtr1 rfl rfl rfl rfl sh3 rfl) ?_
  refine AL.cons rfl (AOp.eqlI rfl rfl rfl rfl) ?_
  refine AL.cons rfl (AOp.move (.inl rfl) rfl rfl) ?_
  refine AL.splitB 10 rfl (fun g1 => ?_) (fun g1 => ?_)
  · skip
    refine AL.cons_gv rfl rfl rfl g1 (AOp.fieldPtr (k := 0) (d := 0) (e := 1) rfl rfl rfl fo47_1) ?_
    refine AL.cons_gv rfl rfl rfl g1 (AOp.loadPtr1 rfl rfl rfl rfl sh9 rfl) ?_
    refine AL.cons_gv rfl rfl rfl g1 (AOp.fieldPtr (k := 1) (d := 0) (e := 1) rfl rfl rfl fo47_1) ?_
    refine AL.cons_gv rfl rfl rfl g1 (AOp.loadPtr1 rfl rfl rfl rfl sh9 rfl) ?_
    refine AL.cons_gv rfl rfl rfl g1 (AOp.eqlS rfl rfl rfl rfl) ?_
    refine AL.cons rfl (AOp.pickT rfl rfl rfl g1 rfl) ?_
    refine AL.cons rfl (AOp.move (.inl rfl) rfl rfl) ?_
    refine AL.splitB 17 rfl (fun g2 => ?_) (fun g2 => ?_)
    · skip
      refine AL.cons_gv rfl rfl rfl g2 (AOp.fieldPtr (k := 0) (d := 0) (e := 2) rfl rfl rfl fo47_2) ?_
      refine AL.cons_gv rfl rfl rfl g2 (AOp.loadPtr1 rfl rfl rfl rfl sh45 rfl) ?_
      refine AL.fact (lk_lenN 19 rfl rfl (GType.trs_len _)) (fun hl3 => ?_)
      refine AL.cons_gv rfl rfl rfl g2 (AOp.fieldPtr (k := 1) (d := 0) (e := 2) rfl rfl rfl fo47_2) ?_
      refine AL.cons_gv rfl rfl rfl g2 (AOp.loadPtr1 rfl rfl rfl rfl sh45 rfl) ?_
      refine AL.fact (lk_lenN 21 rfl rfl (GType.trs_len _)) (fun hl4 => ?_)
      rcases hq5 : r_sl4Same pa.gArgs pb.gArgs with _ | x6
      · skip
        have e7 : sEqualType_G fu r_sEqualType r_sl4Same pa pb = none := swT g1 (swT g2 (bdN hq5))
        exact none_some H e7
      · skip
        refine AL.cons_gv rfl rfl rfl g2 (AOp.callF (res := .t (.leaf (.bool (x6)))) (ps := [_, _]) rfl rfl Tryz.func244 (by kernel_rfl) rfl rfl (by (repeat' (first | exact PV.Le.refl _ | exact LeL.nil | exact PV.Le.nil _ | exact PV.Le.acc _ _ _ | apply LeL.cons | apply PV.Le.agg | apply PV.Le.tup))) rfl rfl (h_sl4Same pa.gArgs pb.gArgs _ hq5)) ?_
        refine AL.cons rfl (AOp.pickT rfl rfl rfl g2 rfl) ?_
        refine AL.cons rfl (AOp.move (.inr rfl) rfl rfl) ?_
        refine AL.nil ?_
        refine AWP.ret ?_
        have e8 : sEqualType_G fu r_sEqualType r_sl4Same pa pb = some x6 := swT g1 (swT g2 (bdS hq5 (rfl)))
        have hz : x6 = r := Option.some.inj (e8.symm.trans H)
        subst hz
        exact Ends.mk (ps := [_]) (by first | exact .inr rfl | exact .inl rfl) ⟨rfl, trivial⟩ rfl (StLe.mk' (st' := ⟨[], []⟩) trivial rfl) (keeps_nil hC) (q := (.t (.leaf (.bool (x6))) : PV)) (by (repeat' (first | exact PV.Le.refl _ | exact LeL.nil | exact PV.Le.nil _ | exact PV.Le.acc _ _ _ | apply LeL.cons | apply PV.Le.agg | apply PV.Le.tup))) rfl ⟨rfl, rfl⟩
    · skip
      refine AL.skipP rfl rfl rfl g2 rfl rfl ?_
      refine AL.skipP rfl rfl rfl g2 rfl rfl ?_
      refine AL.skipP rfl rfl rfl g2 rfl rfl ?_
      refine AL.skipP rfl rfl rfl g2 rfl rfl ?_
      refine AL.skipP rfl rfl rfl g2 rfl rfl ?_
      refine AL.cons rfl (AOp.pickF rfl rfl rfl g2 rfl) ?_
      refine AL.cons rfl (AOp.move (.inr rfl) rfl rfl) ?_
      refine AL.nil ?_
      refine AWP.ret ?_
      have e9 : sEqualType_G fu r_sEqualType r_sl4Same pa pb = some false := swT g1 (swF g2 (rfl))
      have hz : false = r := Option.some.inj (e9.symm.trans H)
      subst hz
      exact Ends.mk (ps := [_]) (by first | exact .inr rfl | exact .inl rfl) ⟨rfl, trivial⟩ rfl (StLe.mk' (st' := ⟨[], []⟩) trivial rfl) (keeps_nil hC) (q := (.t (.leaf (.bool (false))) : PV)) (by (repeat' (first | exact PV.Le.refl _ | exact LeL.nil | exact PV.Le.nil _ | exact PV.Le.acc _ _ _ | apply LeL.cons | apply PV.Le.agg | apply PV.Le.tup))) rfl ⟨rfl, rfl⟩
  · skip
    refine AL.skipP rfl rfl rfl g1 rfl rfl ?_
    refine AL.skipP rfl rfl rfl g1 rfl rfl ?_
    refine AL.skipP rfl rfl rfl g1 rfl rfl ?_
    refine AL.skipP rfl rfl rfl g1 rfl rfl ?_
    refine AL.skipP rfl rfl rfl g1 rfl rfl ?_
    refine AL.cons rfl (AOp.pickF rfl rfl rfl g1 rfl) ?_
    refine AL.cons rfl (AOp.move (.inl rfl) rfl rfl) ?_
    refine AL.skipP rfl rfl rfl rfl rfl rfl ?_
    refine AL.skipP rfl rfl rfl rfl rfl rfl ?_
    refine AL.skipP rfl rfl rfl rfl rfl rfl ?_
    refine AL.skipP rfl rfl rfl rfl rfl rfl ?_
    refine AL.skipP rfl rfl rfl rfl rfl rfl ?_
    refine AL.cons rfl (AOp.pickF rfl rfl rfl rfl rfl) ?_
    refine AL.cons rfl (AOp.move (.inr rfl) rfl rfl) ?_
    refine AL.nil ?_
    refine AWP.ret ?_
    have e10 : sEqualType_G fu r_sEqualType r_sl4Same pa pb = some false := swF g1 (rfl)
    have hz : false = r := Option.some.inj (e10.symm.trans H)
    subst hz
    exact Ends.mk (ps := [_]) (by first | exact .inr rfl | exact .inl rfl) ⟨rfl, trivial⟩ rfl (StLe.mk' (st' := ⟨[], []⟩) trivial rfl) (keeps_nil hC) (q := (.t (.leaf (.bool (false))) : PV)) (by (repeat' (first | exact PV.Le.refl _ | exact LeL.nil | exact PV.Le.nil _ | exact PV.Le.acc _ _ _ | apply LeL.cons | apply PV.Le.agg | apply PV.Le.tup))) rfl ⟨rfl, rfl⟩
noncomputable def sl4Same_F1 (fu : Nat) (r_sEqualType : GType → GType → Option Bool) (r_sl4Same : (List GType) → (List GType) → Option Bool) (pa : List GType) (pb : List GType) : Nat → Unit → Option (LR Unit Bool) :=
 fun i5 _ => gd (i5 < (pb).length)
 (bd (r_sEqualType (atD pa i5) (atD pb i5)) (fun x10 =>
 sw (!(x10))
 (some (.ret false))
 (some (.next ()))))
noncomputable def sl4Same_R1 (fu : Nat) (r_sEqualType : GType → GType → Option Bool) (r_sl4Same : (List GType) → (List GType) → Option Bool) (pa : List GType) (pb : List GType) : Option (Bool ⊕ Unit) :=
 loopN (sl4Same_F1 fu r_sEqualType r_sl4Same pa pb) (pa.length - 0) 0 ()
noncomputable def sl4Same_G (fu : Nat) (r_sEqualType : GType → GType → Option Bool) (r_sl4Same : (List GType) → (List GType) → Option Bool) (pa : List GType) (pb : List GType) : Option Bool :=
 sw (!decide ((((pa.length : Nat) : Int) : Int) = ((pb.length : Nat) : Int)))
 (some false)
 (so (sl4Same_R1 fu r_sEqualType r_sl4Same pa pb) (fun _ =>
 some true))
set_option maxRecDepth 100000 in
set_option maxHeartbeats 4000000 in
theorem sl4Same_step (r_sEqualType : GType → GType → Option Bool) (r_sl4Same : (List GType) → (List GType) → Option Bool) (fu : Nat) (h_sEqualType : ∀ (pa : GType) (pb : GType) (r : Bool), r_sEqualType pa pb = some r → AFun Tryz.prog 228 [(GType.pv pa), (GType.pv pb)] (.t (.leaf (.bool (r))) : PV)) (h_sl4Same : ∀ (pa : List GType) (pb : List GType) (r : Bool), r_sl4Same pa pb = some r → AFun Tryz.prog 244 [.t (.row 3 (GType.trs (pa))), .t (.row 3 (GType.trs (pb)))] (.t (.leaf (.bool (r))) : PV)) (pa : List GType) (pb : List GType) (r : Bool) (H : sl4Same_G fu r_sEqualType r_sl4Same pa pb = some r) : AFun Tryz.prog 244 [.t (.row 3 (GType.trs (pa))), .t (.row 3 (GType.trs (pb)))] (.t (.leaf (.bool (r))) : PV) := by
  refine ACalls.intro Tryz.func244 rfl (by first | decide | (simp; done) | (simp; decide)) ?_
  intro C hC
  refine AWP.fact (lk_lenN 0 rfl rfl (GType.trs_len _)) (fun hl1 => ?_)
  refine AWP.fact (lk_lenN 1 rfl rfl (GType.trs_len _)) (fun hl2 => ?_)
  refine AWP.seq ?_
  refine AWP.region_lit ?_
  refine AL.cons rfl (AOp.move (.inr rfl) rfl rfl) ?_
  refine AL.nil ?_
  refine AWP.seq ?_
  refine AWP.seq ?_
  refine AWP.region_lit ?_
  refine AL.cons rfl (AOp.move (.inl rfl) rfl rfl) ?_
  refine AL.cons rfl (AOp.lenN rfl rfl rfl rfl el45 (GType.trs_len _)) ?_
  refine AL.cons rfl (AOp.move (.inl rfl) rfl rfl) ?_
  refine AL.cons rfl (AOp.lenN rfl rfl rfl rfl el45 (GType.trs_len _)) ?_
  refine AL.cons rfl (AOp.neqI rfl rfl rfl rfl) ?_
  refine AL.nil ?_
  refine AWP.cond rfl (fun h3 => ?_) (fun h3 => ?_)
  · skip
    refine AWP.seq ?_
    refine AWP.region_lit ?_
    refine AL.cons rfl (AOp.move (.inr rfl) rfl rfl) ?_
    refine AL.nil ?_
    refine AWP.ret ?_
    have e4 : sl4Same_G fu r_sEqualType r_sl4Same pa pb = some false := swT h3 (rfl)
    have hz : false = r := Option.some.inj (e4.symm.trans H)
    subst hz
    exact Ends.mk (ps := [_]) (by first | exact .inr rfl | exact .inl rfl) ⟨rfl, trivial⟩ rfl (StLe.mk' (st' := ⟨[], []⟩) trivial rfl) (keeps_nil hC) (q := (.t (.leaf (.bool (false))) : PV)) (by (repeat' (first | exact PV.Le.refl _ | exact LeL.nil | exact PV.Le.nil _ | exact PV.Le.acc _ _ _ | apply LeL.cons | apply PV.Le.agg | apply PV.Le.tup))) rfl ⟨rfl, rfl⟩
  · skip
    refine AWP.skip ?_
    refine AWP.seq ?_
    refine AWP.seq ?_
    refine AWP.region_lit ?_
    refine AL.cons rfl (AOp.move (.inr rfl) rfl rfl) ?_
    refine AL.nil ?_
    refine AWP.cut (ι := Unit) (fun _ => sl4Same_R1 fu r_sEqualType r_sl4Same pa pb = some (.inr ())) (fun _ => ⟨[(4, .t (.leaf (.bool (false))))], ⟨[], []⟩⟩) (by repeat' (first | exact qcEnds | exact ncAWP | exact ncRound | exact ncEx | apply qcThen | apply qcBlock | apply qcCut)) ?_ ?_
    · skip
      refine AWP.block ?_
      refine AWP.loopR (ι := Nat × Unit) (fun (i5, _) => sl4Same_R1 fu r_sEqualType r_sl4Same pa pb = loopN (sl4Same_F1 fu r_sEqualType r_sl4Same pa pb) (pa.length - i5) i5 ()) (fun (i5, _) => ⟨[(0, .t (.row 3 (GType.trs (pa)))), (1, .t (.row 3 (GType.trs (pb)))), (4, .t (.leaf (.bool (false)))), (5, .t (.leaf (.int .i64 (((i5 : Nat) : Int)))))], ⟨[], []⟩⟩) (fun (i5, _) => pa.length - i5) (0, ()) ?_ ?_ ?_
      · exact rfl
      · skip
        exact Wk.mk (StLe.mk' trivial rfl) (keeps_nil hC) ⟨⟨_, rfl, .refl _, rfl⟩, ⟨⟨_, rfl, .refl _, rfl⟩, ⟨⟨_, rfl, .refl _, rfl⟩, ⟨⟨_, rfl, by (repeat' (first | exact PV.Le.refl _ | exact LeL.nil | exact PV.Le.nil _ | exact PV.Le.acc _ _ _ | apply LeL.cons | apply PV.Le.agg | apply PV.Le.tup)), rfl⟩, trivial⟩⟩⟩⟩
      · rintro ⟨i5, ⟨⟩⟩ hJ6
        refine AWP.seq ?_
        refine AWP.seq ?_
        refine AWP.region_lit ?_
        refine AL.cons rfl (AOp.move (.inl rfl) rfl rfl) ?_
        refine AL.cons rfl (AOp.move (.inl rfl) rfl rfl) ?_
        refine AL.cons rfl (AOp.lenN rfl rfl rfl rfl el45 (GType.trs_len _)) ?_
        refine AL.cons rfl (AOp.lss rfl rfl rfl rfl) ?_
        refine AL.nil ?_
        refine AWP.cond rfl (fun h7 => ?_) (fun h7 => ?_)
        · skip
          have h7l : i5 < pa.length := nat_lt_of2 h7
          have h7n := nat_lt_of h7
          refine AWP.skip ?_
          refine AWP.seq ?_
          refine AWP.block ?_
          refine AWP.seq ?_
          rcases Classical.em (i5 < (pb).length) with hg8 | hg8
          · skip
            rcases hq9 : r_sEqualType (atD pa i5) (atD pb i5) with _ | x10
            · skip
              have e11 : (sl4Same_F1 fu r_sEqualType r_sl4Same pa pb) i5 () = none := gdT hg8 (bdN hq9)
              have e12 : sl4Same_R1 fu r_sEqualType r_sl4Same pa pb = none := loopN_non h7l hJ6 e11
              have e13 : sl4Same_G fu r_sEqualType r_sl4Same pa pb = none := swF h3 (soN e12)
              exact none_some H e13
            · skip
              refine AWP.drawnL ⟨_, _, fun _ _ => (⟨[], []⟩ : Sto), fun q' => ([some (.t (.row 3 (GType.trs (pa)))), some (.t (.leaf (.int .i64 (((i5 : Nat) : Int))))), some (.eptr (GType.cs (atD pa i5))), some ((GType.pv (atD pa i5))), some (.t (.row 3 (GType.trs (pb)))), some (.t (.leaf (.int .i64 (((i5 : Nat) : Int))))), some (.eptr (GType.cs (atD pb i5))), some ((GType.pv (atD pb i5))), some (.t (.leaf (.bool (x10)))), some (.t (.leaf (.bool (!(x10)))))] : List (Option PV)).getD q' none, fun q' => ([.q 0 0, .q 0 0, .q 0 0, .q 0 0, .q 0 0, .q 0 0, .q 0 0, .q 0 0, .q 0 0, .q 0 0] : List DK).getD q' (.q 0 0), [], none, fun q' => ([[(0, none)], [(5, none)], [(17, some 0), (18, some 1)], [(19, some 2)], [(1, none)], [(5, none)], [(21, some 4), (22, some 5)], [(23, some 6)], [(24, some 7), (20, some 3)], [(25, some 8)]] : List (List (Nat × Option Nat))).getD q' []⟩ rfl mixed (by kernel_rfl) rfl rfl ⟨?_, ?_, ?_, ?_, ?_, ?_, ?_, ?_, ?_, ?_, trivial⟩ rfl ?_
              · refine .inl ⟨rfl, fun s' jj bb (h1 : 0 ≤ jj) (h2 : jj ≤ 0) hs hl => ?_⟩
                obtain rfl : jj = 0 := by omega
                exact ⟨_, rfl, AOp.move (.inl rfl) rfl (hl 0 none _ (.head _) rfl)⟩
              · refine .inl ⟨rfl, fun s' jj bb (h1 : 0 ≤ jj) (h2 : jj ≤ 0) hs hl => ?_⟩
                obtain rfl : jj = 0 := by omega
                exact ⟨_, rfl, AOp.move (.inl rfl) rfl (hl 5 none _ (.head _) rfl)⟩
              · refine .inl ⟨rfl, fun s' jj bb (h1 : 0 ≤ jj) (h2 : jj ≤ 0) hs hl => ?_⟩
                obtain rfl : jj = 0 := by omega
                exact ⟨_, rfl, AOp.index (k := i5) rfl rfl (hl 17 (some 0) _ (.head _) rfl) rfl (hl 18 (some 1) _ (.tail _ (.head _)) rfl) (GType.trs_at h7n) el45⟩
              · refine .inl ⟨rfl, fun s' jj bb (h1 : 0 ≤ jj) (h2 : jj ≤ 0) hs hl => ?_⟩
                obtain rfl : jj = 0 := by omega
                exact ⟨_, rfl, AOp.loadEptr (ds := [.leaf (.int .i64 ((atD pa i5).gKind)), .leaf (.string ((atD pa i5).gName)), .row 3 (GType.trs ((atD pa i5).gArgs))]) rfl rfl (hl 19 (some 2) _ (.head _) rfl) sh47 rfl rfl⟩
              · refine .inl ⟨rfl, fun s' jj bb (h1 : 0 ≤ jj) (h2 : jj ≤ 0) hs hl => ?_⟩
                obtain rfl : jj = 0 := by omega
                exact ⟨_, rfl, AOp.move (.inl rfl) rfl (hl 1 none _ (.head _) rfl)⟩
              · refine .inl ⟨rfl, fun s' jj bb (h1 : 0 ≤ jj) (h2 : jj ≤ 0) hs hl => ?_⟩
                obtain rfl : jj = 0 := by omega
                exact ⟨_, rfl, AOp.move (.inl rfl) rfl (hl 5 none _ (.head _) rfl)⟩
              · refine .inl ⟨rfl, fun s' jj bb (h1 : 0 ≤ jj) (h2 : jj ≤ 0) hs hl => ?_⟩
                obtain rfl : jj = 0 := by omega
                exact ⟨_, rfl, AOp.index (k := i5) rfl rfl (hl 21 (some 4) _ (.head _) rfl) rfl (hl 22 (some 5) _ (.tail _ (.head _)) rfl) (GType.trs_at hg8) el45⟩
              · refine .inl ⟨rfl, fun s' jj bb (h1 : 0 ≤ jj) (h2 : jj ≤ 0) hs hl => ?_⟩
                obtain rfl : jj = 0 := by omega
                exact ⟨_, rfl, AOp.loadEptr (ds := [.leaf (.int .i64 ((atD pb i5).gKind)), .leaf (.string ((atD pb i5).gName)), .row 3 (GType.trs ((atD pb i5).gArgs))]) rfl rfl (hl 23 (some 6) _ (.head _) rfl) sh47 rfl rfl⟩
              · refine .inl ⟨rfl, fun s' jj bb (h1 : 0 ≤ jj) (h2 : jj ≤ 0) hs hl => ?_⟩
                obtain rfl : jj = 0 := by omega
                exact ⟨_, rfl, AOp.callF (res := .t (.leaf (.bool (x10)))) (ps := [_, _]) rfl rfl Tryz.func228 (by kernel_rfl) rfl (evs_cons (hl 20 (some 3) _ (.tail _ (.head _)) rfl) (evs_cons (hl 24 (some 7) _ (.head _) rfl) rfl)) (by (repeat' (first | exact PV.Le.refl _ | exact LeL.nil | exact PV.Le.nil _ | exact PV.Le.acc _ _ _ | apply LeL.cons | apply PV.Le.agg | apply PV.Le.tup))) rfl rfl (h_sEqualType (atD pa i5) (atD pb i5) _ hq9)⟩
              · refine .inl ⟨rfl, fun s' jj bb (h1 : 0 ≤ jj) (h2 : jj ≤ 0) hs hl => ?_⟩
                obtain rfl : jj = 0 := by omega
                exact ⟨_, rfl, AOp.notB rfl rfl (hl 25 (some 8) _ (.head _) rfl)⟩
              refine AWP.cond rfl (fun h14 => ?_) (fun h14 => ?_)
              · skip
                refine AWP.seq ?_
                refine AWP.region_lit ?_
                refine AL.cons rfl (AOp.move (.inr rfl) rfl rfl) ?_
                refine AL.nil ?_
                refine AWP.ret ?_
                have e15 : (sl4Same_F1 fu r_sEqualType r_sl4Same pa pb) i5 () = some (.ret false) := gdT hg8 (bdS hq9 (swT h14 (rfl)))
                have e16 : sl4Same_R1 fu r_sEqualType r_sl4Same pa pb = some (.inl false) := loopN_ret h7l hJ6 e15
                have e17 : sl4Same_G fu r_sEqualType r_sl4Same pa pb = some false := swF h3 (soL e16)
                have hz : false = r := Option.some.inj (e17.symm.trans H)
                subst hz
                exact Ends.mk (ps := [_]) (by first | exact .inr rfl | exact .inl rfl) ⟨rfl, trivial⟩ rfl (StLe.mk' (st' := ⟨[], []⟩) trivial rfl) (keeps_nil hC) (q := (.t (.leaf (.bool (false))) : PV)) (by (repeat' (first | exact PV.Le.refl _ | exact LeL.nil | exact PV.Le.nil _ | exact PV.Le.acc _ _ _ | apply LeL.cons | apply PV.Le.agg | apply PV.Le.tup))) rfl ⟨rfl, rfl⟩
              · skip
                refine AWP.skip ?_
                refine AWP.region_lit ?_
                refine AL.cons rfl (AOp.move (.inl rfl) rfl rfl) ?_
                refine AL.cons rfl (AOp.addI rfl rfl rfl rfl (c := ((i5 + 1 : Nat) : Int)) (by omega) (by omega)) ?_
                refine AL.cons rfl (AOp.move (.inr rfl) rfl rfl) ?_
                refine AL.nil ?_
                have e18 : (sl4Same_F1 fu r_sEqualType r_sl4Same pa pb) i5 () = some (.next ()) := gdT hg8 (bdS hq9 (swF h14 (rfl)))
                refine ⟨(i5 + 1, ()), loopN_next h7l hJ6 e18, ?_, ?_⟩
                · skip
                  exact Wk.mk (StLe.mk' trivial rfl) (keeps_nil hC) ⟨⟨_, rfl, .refl _, rfl⟩, ⟨⟨_, rfl, .refl _, rfl⟩, ⟨⟨_, rfl, .refl _, rfl⟩, ⟨⟨_, rfl, by (repeat' (first | exact PV.Le.refl _ | exact LeL.nil | exact PV.Le.nil _ | exact PV.Le.acc _ _ _ | apply LeL.cons | apply PV.Le.agg | apply PV.Le.tup)), rfl⟩, trivial⟩⟩⟩⟩
                · dsimp only; omega
          · skip
            have e19 : (sl4Same_F1 fu r_sEqualType r_sl4Same pa pb) i5 () = none := gdF hg8
            have e20 : sl4Same_R1 fu r_sEqualType r_sl4Same pa pb = none := loopN_non h7l hJ6 e19
            have e21 : sl4Same_G fu r_sEqualType r_sl4Same pa pb = none := swF h3 (soN e20)
            exact none_some H e21
        · skip
          have h7l : pa.length ≤ i5 := nat_ge_of2 h7
          refine AWP.exit ?_
          refine ⟨(), loopN_end h7l hJ6, ?_⟩
          exact Wk.mk (StLe.mk' trivial rfl) (keeps_nil hC) ⟨⟨_, rfl, .refl _, rfl⟩, trivial⟩
    · rintro ⟨⟩ hR22
      refine AWP.seq ?_
      refine AWP.region_lit ?_
      refine AL.cons rfl (AOp.move (.inr rfl) rfl rfl) ?_
      refine AL.nil ?_
      refine AWP.ret ?_
      have e23 : sl4Same_G fu r_sEqualType r_sl4Same pa pb = some true := swF h3 (soR hR22 (rfl))
      have hz : true = r := Option.some.inj (e23.symm.trans H)
      subst hz
      exact Ends.mk (ps := [_]) (by first | exact .inr rfl | exact .inl rfl) ⟨rfl, trivial⟩ rfl (StLe.mk' (st' := ⟨[], []⟩) trivial rfl) (keeps_nil hC) (q := (.t (.leaf (.bool (true))) : PV)) (by (repeat' (first | exact PV.Le.refl _ | exact LeL.nil | exact PV.Le.nil _ | exact PV.Le.acc _ _ _ | apply LeL.cons | apply PV.Le.agg | apply PV.Le.tup))) rfl ⟨rfl, rfl⟩
mutual
noncomputable def sEqualType_M : Nat → GType → GType → Option Bool
  | 0, _, _ => none
  | fu + 1, pa, pb => sEqualType_G fu (sEqualType_M fu) (sl4Same_M fu) pa pb
noncomputable def sl4Same_M : Nat → (List GType) → (List GType) → Option Bool
  | 0, _, _ => none
  | fu + 1, pa, pb => sl4Same_G fu (sEqualType_M fu) (sl4Same_M fu) pa pb
end
theorem sEqualType_all (fu : Nat) : (∀ (pa : GType) (pb : GType) (r : Bool), sEqualType_M fu pa pb = some r → AFun Tryz.prog 228 [(GType.pv pa), (GType.pv pb)] (.t (.leaf (.bool (r))) : PV)) ∧ (∀ (pa : List GType) (pb : List GType) (r : Bool), sl4Same_M fu pa pb = some r → AFun Tryz.prog 244 [.t (.row 3 (GType.trs (pa))), .t (.row 3 (GType.trs (pb)))] (.t (.leaf (.bool (r))) : PV)) := by
  induction fu with
  | zero => exact ⟨(fun pa pb r H => by simp only [sEqualType_M] at H; cases H), (fun pa pb r H => by simp only [sl4Same_M] at H; cases H)⟩
  | succ fu ih => exact ⟨(fun pa pb r H => by simp only [sEqualType_M] at H; exact sEqualType_step (sEqualType_M fu) (sl4Same_M fu) fu ih.1 ih.2 pa pb r H), (fun pa pb r H => by simp only [sl4Same_M] at H; exact sl4Same_step (sEqualType_M fu) (sl4Same_M fu) fu ih.1 ih.2 pa pb r H)⟩
theorem sEqualType_ok (fu : Nat) (pa : GType) (pb : GType) (r : Bool) (H : sEqualType_M fu pa pb = some r) : AFun Tryz.prog 228 [(GType.pv pa), (GType.pv pb)] (.t (.leaf (.bool (r))) : PV) := (sEqualType_all fu).1 pa pb r H
noncomputable def sl4Copy_G (fu : Nat) (r_sl4Copy : GType → Option GType) (r_sl4Copies : (List GType) → Option ((List GType))) (pt : GType) : Option GType :=
 bd (r_sl4Copies pt.gArgs) (fun x2 =>
 some (GType.mk pt.gKind pt.gName x2))
set_option maxRecDepth 100000 in
set_option maxHeartbeats 4000000 in
theorem sl4Copy_step (r_sl4Copy : GType → Option GType) (r_sl4Copies : (List GType) → Option ((List GType))) (fu : Nat) (h_sl4Copy : ∀ (pt : GType) (r : GType), r_sl4Copy pt = some r → AFun Tryz.prog 110 [(GType.pv pt)] ((GType.pv r) : PV)) (h_sl4Copies : ∀ (plist : List GType) (r : (List GType)), r_sl4Copies plist = some r → AFun Tryz.prog 162 [.t (.row 3 (GType.trs (plist)))] (.t (.row 3 (GType.trs (r))) : PV)) (pt : GType) (r : GType) (H : sl4Copy_G fu r_sl4Copy r_sl4Copies pt = some r) : AFun Tryz.prog 110 [(GType.pv pt)] ((GType.pv r) : PV) := by
  refine ACalls.intro Tryz.func110 rfl (by first | decide | (simp; done) | (simp; decide)) ?_
  intro C hC
  refine AWP.seq ?_
  refine AWP.region_lit ?_
  refine AL.cons rfl (AOp.box (cs := [.t (.leaf (.int .i64 (pt.gKind))), .t (.leaf (.string (pt.gName))), .t (.row 3 (GType.trs (pt.gArgs)))]) rfl rfl rfl rfl rfl) ?_
  refine AL.cons rfl (AOp.alloc rfl rfl zr47) ?_
  refine AL.nil ?_
  refine AWP.seq ?_
  rcases hq1 : r_sl4Copies pt.gArgs with _ | x2
  · skip
    have e3 : sl4Copy_G fu r_sl4Copy r_sl4Copies pt = none := bdN hq1
    exact none_some H e3
  · skip
    refine AWP.drawnL ⟨_, _, fun j' _ => ([(⟨[some ⟨47, [.t (.leaf (.int .i64 (pt.gKind))), .t (.leaf (.string (pt.gName))), .t (.row 3 (GType.trs (pt.gArgs)))]⟩, some ⟨47, [.t (.leaf (.int .i64 (0))), .t (.leaf (.string (⟨#[]⟩))), .nil]⟩], []⟩ : Sto), (⟨[some ⟨47, [.t (.leaf (.int .i64 (pt.gKind))), .t (.leaf (.string (pt.gName))), .t (.row 3 (GType.trs (pt.gArgs)))]⟩, some ⟨47, [.t (.leaf (.int .i64 (pt.gKind))), .t (.leaf (.string (pt.gName))), .t (.row 3 (GType.trs (x2)))]⟩], []⟩ : Sto)] : List Sto).getD j' (⟨[some ⟨47, [.t (.leaf (.int .i64 (pt.gKind))), .t (.leaf (.string (pt.gName))), .t (.row 3 (GType.trs (pt.gArgs)))]⟩, some ⟨47, [.t (.leaf (.int .i64 (pt.gKind))), .t (.leaf (.string (pt.gName))), .t (.row 3 (GType.trs (x2)))]⟩], []⟩ : Sto), fun q' => ([some (.ptr 0 0), some (.t (.leaf (.int .i64 (pt.gKind)))), some (.ptr 0 1), some (.t (.leaf (.string (pt.gName)))), some (.ptr 0 2), some (.t (.row 3 (GType.trs (pt.gArgs)))), some (.t (.row 3 (GType.trs (x2)))), some (.agg [.t (.leaf (.int .i64 (pt.gKind))), .t (.leaf (.string (pt.gName))), .t (.row 3 (GType.trs (x2)))]), none] : List (Option PV)).getD q' none, fun q' => ([.q 0 0, .q 0 0, .q 0 0, .q 0 0, .q 0 0, .q 0 0, .q 0 0, .q 0 0, .ef 0] : List DK).getD q' (.q 0 0), [8], none, fun q' => ([[(1, none)], [(3, some 0)], [(1, none)], [(5, some 2)], [(1, none)], [(7, some 4)], [(8, some 5)], [(9, some 6), (6, some 3), (4, some 1)], [(2, none), (10, some 7)]] : List (List (Nat × Option Nat))).getD q' []⟩ rfl mixed (by kernel_rfl) rfl rfl ⟨?_, ?_, ?_, ?_, ?_, ?_, ?_, ?_, ?_, trivial⟩ rfl ?_
    · refine .inl ⟨rfl, fun s' jj bb (h1 : 0 ≤ jj) (h2 : jj ≤ 0) hs hl => ?_⟩
      obtain rfl : jj = 0 := by omega
      exact ⟨_, rfl, AOp.fieldPtr (k := 0) (d := 0) (e := 0) rfl rfl (hl 1 none _ (.head _) rfl) fo47_0⟩
    · refine .inl ⟨rfl, fun s' jj bb (h1 : 0 ≤ jj) (h2 : jj ≤ 0) hs hl => ?_⟩
      obtain rfl : jj = 0 := by omega
      exact ⟨_, rfl, AOp.loadPtr1 rfl rfl (hl 3 (some 0) _ (.head _) rfl) (by rw [hs]; rfl) sh3 rfl⟩
    · refine .inl ⟨rfl, fun s' jj bb (h1 : 0 ≤ jj) (h2 : jj ≤ 0) hs hl => ?_⟩
      obtain rfl : jj = 0 := by omega
      exact ⟨_, rfl, AOp.fieldPtr (k := 0) (d := 0) (e := 1) rfl rfl (hl 1 none _ (.head _) rfl) fo47_1⟩
    · refine .inl ⟨rfl, fun s' jj bb (h1 : 0 ≤ jj) (h2 : jj ≤ 0) hs hl => ?_⟩
      obtain rfl : jj = 0 := by omega
      exact ⟨_, rfl, AOp.loadPtr1 rfl rfl (hl 5 (some 2) _ (.head _) rfl) (by rw [hs]; rfl) sh9 rfl⟩
    · refine .inl ⟨rfl, fun s' jj bb (h1 : 0 ≤ jj) (h2 : jj ≤ 0) hs hl => ?_⟩
      obtain rfl : jj = 0 := by omega
      exact ⟨_, rfl, AOp.fieldPtr (k := 0) (d := 0) (e := 2) rfl rfl (hl 1 none _ (.head _) rfl) fo47_2⟩
    · refine .inl ⟨rfl, fun s' jj bb (h1 : 0 ≤ jj) (h2 : jj ≤ 0) hs hl => ?_⟩
      obtain rfl : jj = 0 := by omega
      exact ⟨_, rfl, AOp.loadPtr1 rfl rfl (hl 7 (some 4) _ (.head _) rfl) (by rw [hs]; rfl) sh45 rfl⟩
    · refine .inl ⟨rfl, fun s' jj bb (h1 : 0 ≤ jj) (h2 : jj ≤ 0) hs hl => ?_⟩
      obtain rfl : jj = 0 := by omega
      exact ⟨_, rfl, AOp.callF (res := .t (.row 3 (GType.trs (x2)))) (ps := [_]) rfl rfl Tryz.func162 (by kernel_rfl) rfl (evs_cons (hl 8 (some 5) _ (.head _) rfl) rfl) (by (repeat' (first | exact PV.Le.refl _ | exact LeL.nil | exact PV.Le.nil _ | exact PV.Le.acc _ _ _ | apply LeL.cons | apply PV.Le.agg | apply PV.Le.tup))) rfl rfl (h_sl4Copies pt.gArgs _ hq1)⟩
    · refine .inl ⟨rfl, fun s' jj bb (h1 : 0 ≤ jj) (h2 : jj ≤ 0) hs hl => ?_⟩
      obtain rfl : jj = 0 := by omega
      exact ⟨_, rfl, AOp.build rfl rfl zr47 pl47 (parts_cons (hl 4 (some 1) _ (.tail _ (.tail _ (.head _))) rfl) rfl rfl (parts_cons (hl 6 (some 3) _ (.tail _ (.head _)) rfl) rfl rfl (parts_cons (hl 9 (some 6) _ (.head _) rfl) rfl rfl rfl))) rfl⟩
    · refine .inl ⟨rfl, fun s' bb hs hl => ?_⟩
      refine .inr ⟨rfl, AOp.congr (AOp.storePtr (cs := [.t (.leaf (.int .i64 (pt.gKind))), .t (.leaf (.string (pt.gName))), .t (.row 3 (GType.trs (x2)))]) (ds := [.t (.leaf (.int .i64 (pt.gKind))), .t (.leaf (.string (pt.gName))), .t (.row 3 (GType.trs (x2)))]) rfl (hl 2 none _ (.head _) rfl) (by rw [hs]; rfl) (hl 10 (some 7) _ (.tail _ (.head _)) rfl) rfl rfl rfl sz47 (Nat.le_of_ble_eq_true rfl) rfl) ?_⟩
      first | (rw [hs]; rfl) | rfl
    refine AWP.ret ?_
    have e4 : sl4Copy_G fu r_sl4Copy r_sl4Copies pt = some (GType.mk pt.gKind pt.gName x2) := bdS hq1 (rfl)
    have hz : (GType.mk pt.gKind pt.gName x2) = r := Option.some.inj (e4.symm.trans H)
    subst hz
    exact Ends.mk (ps := [_]) (by first | exact .inr rfl | exact .inl rfl) ⟨⟨_, _, _, rfl, rfl, sh47, rfl, rfl⟩, trivial⟩ rfl (StLe.mk' (st' := ⟨[], []⟩) trivial rfl) (keeps_nil hC) (q := ((GType.pv (GType.mk pt.gKind pt.gName x2)) : PV)) (by (repeat' (first | exact PV.Le.refl _ | exact LeL.nil | exact PV.Le.nil _ | exact PV.Le.acc _ _ _ | apply LeL.cons | apply PV.Le.agg | apply PV.Le.tup))) rfl ⟨rfl, rfl⟩
noncomputable def sl4Copies_F1 (fu : Nat) (r_sl4Copy : GType → Option GType) (r_sl4Copies : (List GType) → Option ((List GType))) (plist : List GType) : Nat → ((List GType)) → Option (LR ((List GType)) ((List GType))) :=
 fun i2 v4 => bd (r_sl4Copy (atD plist i2)) (fun x9 =>
 gd ((v4).length + (([x9] : List GType)).length ≤ 68719476736)
 (some (.next (v4 ++ ([x9] : List GType)))))
noncomputable def sl4Copies_R1 (fu : Nat) (r_sl4Copy : GType → Option GType) (r_sl4Copies : (List GType) → Option ((List GType))) (plist : List GType) : Option (((List GType)) ⊕ ((List GType))) :=
 loopN (sl4Copies_F1 fu r_sl4Copy r_sl4Copies plist) (plist.length - 0) 0 ([])
noncomputable def sl4Copies_G (fu : Nat) (r_sl4Copy : GType → Option GType) (r_sl4Copies : (List GType) → Option ((List GType))) (plist : List GType) : Option ((List GType)) :=
 so (sl4Copies_R1 fu r_sl4Copy r_sl4Copies plist) (fun v4 =>
 some v4)
set_option maxRecDepth 100000 in
set_option maxHeartbeats 4000000 in
theorem sl4Copies_step (r_sl4Copy : GType → Option GType) (r_sl4Copies : (List GType) → Option ((List GType))) (fu : Nat) (h_sl4Copy : ∀ (pt : GType) (r : GType), r_sl4Copy pt = some r → AFun Tryz.prog 110 [(GType.pv pt)] ((GType.pv r) : PV)) (h_sl4Copies : ∀ (plist : List GType) (r : (List GType)), r_sl4Copies plist = some r → AFun Tryz.prog 162 [.t (.row 3 (GType.trs (plist)))] (.t (.row 3 (GType.trs (r))) : PV)) (plist : List GType) (r : (List GType)) (H : sl4Copies_G fu r_sl4Copy r_sl4Copies plist = some r) : AFun Tryz.prog 162 [.t (.row 3 (GType.trs (plist)))] (.t (.row 3 (GType.trs (r))) : PV) := by
  refine ACalls.intro Tryz.func162 rfl (by first | decide | (simp; done) | (simp; decide)) ?_
  intro C hC
  refine AWP.fact (lk_lenN 0 rfl rfl (GType.trs_len _)) (fun hl1 => ?_)
  refine AWP.seq ?_
  refine AWP.region_lit ?_
  refine AL.cons rfl (AOp.move (.inr rfl) rfl rfl) ?_
  refine AL.nil ?_
  refine AWP.seq ?_
  refine AWP.region_lit ?_
  refine AL.cons rfl (AOp.buildSliceA (es := []) (es' := GType.trs ([])) (cs := []) rfl rfl el45 zr47 rfl rfl (by (repeat' (first | exact PV.Le.refl _ | exact LeL.nil | exact PV.Le.nil _ | exact PV.Le.acc _ _ _ | apply LeL.cons | apply PV.Le.agg | apply PV.Le.tup))) rfl (by simp [GType.cs]) (by decide) rfl (by decide) (by simp [GType.trs_map, GType.tr_cs])) ?_
  refine AL.cons rfl (AOp.move (.inr rfl) rfl rfl) ?_
  refine AL.nil ?_
  refine AWP.seq ?_
  refine AWP.seq ?_
  refine AWP.region_lit ?_
  refine AL.cons rfl (AOp.move (.inr rfl) rfl rfl) ?_
  refine AL.nil ?_
  refine AWP.fact (lk_lenN 3 rfl rfl (GType.trs_len _)) (fun hl5 => ?_)
  refine AWP.cut (ι := (List GType)) (fun v4 => sl4Copies_R1 fu r_sl4Copy r_sl4Copies plist = some (.inr v4)) (fun v4 => ⟨[(2, .nil), (3, .acc 3 (GType.trs (v4)) 0)], ⟨[], [⟨47, 3, GType.trs (v4), false⟩]⟩⟩) (by repeat' (first | exact qcEnds | exact ncAWP | exact ncRound | exact ncEx | apply qcThen | apply qcBlock | apply qcCut)) ?_ ?_
  · skip
    refine AWP.block ?_
    refine AWP.loopR (ι := Nat × ((List GType))) (fun (i2, v4) => sl4Copies_R1 fu r_sl4Copy r_sl4Copies plist = loopN (sl4Copies_F1 fu r_sl4Copy r_sl4Copies plist) (plist.length - i2) i2 v4) (fun (i2, v4) => ⟨[(0, .t (.row 3 (GType.trs (plist)))), (2, .nil), (3, .acc 3 (GType.trs (v4)) 0), (4, .t (.leaf (.int .i64 (((i2 : Nat) : Int)))))], ⟨[], [⟨47, 3, GType.trs (v4), false⟩]⟩⟩) (fun (i2, v4) => plist.length - i2) (0, ([])) ?_ ?_ ?_
    · exact rfl
    · skip
      exact Wk.mk (StLe.mk' trivial (by first | rfl | simp)) (keeps_nil hC) ⟨⟨_, rfl, .refl _, rfl⟩, ⟨⟨_, rfl, .refl _, rfl⟩, ⟨⟨_, rfl, by (repeat' (first | exact PV.Le.refl _ | exact LeL.nil | exact PV.Le.nil _ | exact PV.Le.acc _ _ _ | apply LeL.cons | apply PV.Le.agg | apply PV.Le.tup)), rfl⟩, ⟨⟨_, rfl, by (repeat' (first | exact PV.Le.refl _ | exact LeL.nil | exact PV.Le.nil _ | exact PV.Le.acc _ _ _ | apply LeL.cons | apply PV.Le.agg | apply PV.Le.tup)), rfl⟩, trivial⟩⟩⟩⟩
    · rintro ⟨i2, v4⟩ hJ6
      refine AWP.seq ?_
      refine AWP.seq ?_
      refine AWP.region_lit ?_
      refine AL.cons rfl (AOp.move (.inl rfl) rfl rfl) ?_
      refine AL.cons rfl (AOp.move (.inl rfl) rfl rfl) ?_
      refine AL.cons rfl (AOp.lenN rfl rfl rfl rfl el45 (GType.trs_len _)) ?_
      refine AL.cons rfl (AOp.lss rfl rfl rfl rfl) ?_
      refine AL.nil ?_
      refine AWP.cond rfl (fun h7 => ?_) (fun h7 => ?_)
      · skip
        have h7l : i2 < plist.length := nat_lt_of2 h7
        have h7n := nat_lt_of h7
        refine AWP.skip ?_
        refine AWP.seq ?_
        refine AWP.block ?_
        refine AWP.region_lit ?_
        refine AL.cons rfl (AOp.move (.inl rfl) rfl rfl) ?_
        refine AL.cons rfl (AOp.move (.inl rfl) rfl rfl) ?_
        refine AL.cons rfl (AOp.move (.inl rfl) rfl rfl) ?_
        refine AL.cons rfl (AOp.index (k := i2) rfl rfl rfl rfl rfl (GType.trs_at h7n) el45) ?_
        refine AL.cons rfl (AOp.loadEptr (ds := [.leaf (.int .i64 ((atD plist i2).gKind)), .leaf (.string ((atD plist i2).gName)), .row 3 (GType.trs ((atD plist i2).gArgs))]) rfl rfl rfl sh47 rfl rfl) ?_
        rcases hq8 : r_sl4Copy (atD plist i2) with _ | x9
        · skip
          have e10 : (sl4Copies_F1 fu r_sl4Copy r_sl4Copies plist) i2 v4 = none := bdN hq8
          have e11 : sl4Copies_R1 fu r_sl4Copy r_sl4Copies plist = none := loopN_non h7l hJ6 e10
          have e12 : sl4Copies_G fu r_sl4Copy r_sl4Copies plist = none := soN e11
          exact none_some H e12
        · skip
          refine AL.cons rfl (AOp.callF (res := (GType.pv x9)) (ps := [_]) rfl rfl Tryz.func110 (by kernel_rfl) rfl rfl (by (repeat' (first | exact PV.Le.refl _ | exact LeL.nil | exact PV.Le.nil _ | exact PV.Le.acc _ _ _ | apply LeL.cons | apply PV.Le.agg | apply PV.Le.tup))) rfl rfl (h_sl4Copy (atD plist i2) _ hq8)) ?_
          refine AL.cons rfl (AOp.buildSliceE (es := [GType.cs x9]) (es' := GType.trs (([x9] : List GType))) (cs := [.t (.leaf (.int .i64 (x9.gKind))), .t (.leaf (.string (x9.gName))), .t (.row 3 (GType.trs (x9.gArgs)))]) rfl rfl el45 zr47 rfl rfl (by (repeat' (first | exact PV.Le.refl _ | exact LeL.nil | exact PV.Le.nil _ | exact PV.Le.acc _ _ _ | apply LeL.cons | apply PV.Le.agg | apply PV.Le.tup))) rfl (by simp [GType.cs]) (by decide) rfl (by decide) (by simp [GType.trs_map, GType.tr_cs])) ?_
          rcases Classical.em ((v4).length + (([x9] : List GType)).length ≤ 68719476736) with hg13 | hg13
          · skip
            refine AL.cons rfl (AOp.appendE (es3 := GType.trs (v4 ++ ([x9] : List GType))) rfl rfl rfl rfl rfl rfl rfl rfl rfl (fun e he => by rw [GType.trs_map] at he; obtain ⟨x, _, rfl⟩ := List.mem_map.1 he; rw [GType.tr_cs]; rfl) el45 ze45 (by decide) (by rw [GType.trs_len, GType.trs_len]; exact room_le hg13 (by decide)) (by rw [GType.trs_map, GType.trs_map, GType.trs_map, List.map_append])) ?_
            refine AL.cons rfl (AOp.move (.inr rfl) rfl rfl) ?_
            refine AL.nil ?_
            refine AWP.region_lit ?_
            refine AL.cons rfl (AOp.move (.inl rfl) rfl rfl) ?_
            refine AL.cons rfl (AOp.addI rfl rfl rfl rfl (c := ((i2 + 1 : Nat) : Int)) (by omega) (by omega)) ?_
            refine AL.cons rfl (AOp.move (.inr rfl) rfl rfl) ?_
            refine AL.nil ?_
            have e14 : (sl4Copies_F1 fu r_sl4Copy r_sl4Copies plist) i2 v4 = some (.next (v4 ++ ([x9] : List GType))) := bdS hq8 (gdT hg13 (rfl))
            refine ⟨(i2 + 1, (v4 ++ ([x9] : List GType))), loopN_next h7l hJ6 e14, ?_, ?_⟩
            · skip
              exact Wk.mk (StLe.mk' trivial (by first | rfl | simp)) (keeps_nil hC) ⟨⟨_, rfl, .refl _, rfl⟩, ⟨⟨_, rfl, .refl _, rfl⟩, ⟨⟨_, rfl, by (repeat' (first | exact PV.Le.refl _ | exact LeL.nil | exact PV.Le.nil _ | exact PV.Le.acc _ _ _ | apply LeL.cons | apply PV.Le.agg | apply PV.Le.tup)), rfl⟩, ⟨⟨_, rfl, by (repeat' (first | exact PV.Le.refl _ | exact LeL.nil | exact PV.Le.nil _ | exact PV.Le.acc _ _ _ | apply LeL.cons | apply PV.Le.agg | apply PV.Le.tup)), rfl⟩, trivial⟩⟩⟩⟩
            · dsimp only; omega
          · skip
            have e15 : (sl4Copies_F1 fu r_sl4Copy r_sl4Copies plist) i2 v4 = none := bdS hq8 (gdF hg13)
            have e16 : sl4Copies_R1 fu r_sl4Copy r_sl4Copies plist = none := loopN_non h7l hJ6 e15
            have e17 : sl4Copies_G fu r_sl4Copy r_sl4Copies plist = none := soN e16
            exact none_some H e17
      · skip
        have h7l : plist.length ≤ i2 := nat_ge_of2 h7
        refine AWP.exit ?_
        refine ⟨v4, loopN_end h7l hJ6, ?_⟩
        exact Wk.mk (StLe.mk' trivial (by first | rfl | simp)) (keeps_nil hC) ⟨⟨_, rfl, .refl _, rfl⟩, ⟨⟨_, rfl, .refl _, rfl⟩, trivial⟩⟩
  · rintro v4 hR18
    refine AWP.seq ?_
    refine AWP.region_lit ?_
    refine AL.cons rfl (AOp.move (.inl rfl) rfl rfl) ?_
    refine AL.cons rfl (AOp.move (.inr rfl) rfl rfl) ?_
    refine AL.nil ?_
    refine AWP.ret ?_
    have e19 : sl4Copies_G fu r_sl4Copy r_sl4Copies plist = some v4 := soR hR18 (rfl)
    have hz : v4 = r := Option.some.inj (e19.symm.trans H)
    subst hz
    exact Ends.mk (ps := [_]) (by first | exact .inr rfl | exact .inl rfl) ⟨rfl, trivial⟩ rfl (StLe.mk' (st' := ⟨[], []⟩) trivial rfl) (keeps_nil hC) (q := (.t (.row 3 (GType.trs (v4))) : PV)) (by (repeat' (first | exact PV.Le.refl _ | exact LeL.nil | exact PV.Le.nil _ | exact PV.Le.acc _ _ _ | apply LeL.cons | apply PV.Le.agg | apply PV.Le.tup))) rfl ⟨rfl, rfl⟩
mutual
noncomputable def sl4Copy_M : Nat → GType → Option GType
  | 0, _ => none
  | fu + 1, pt => sl4Copy_G fu (sl4Copy_M fu) (sl4Copies_M fu) pt
noncomputable def sl4Copies_M : Nat → (List GType) → Option ((List GType))
  | 0, _ => none
  | fu + 1, plist => sl4Copies_G fu (sl4Copy_M fu) (sl4Copies_M fu) plist
end
theorem sl4Copy_all (fu : Nat) : (∀ (pt : GType) (r : GType), sl4Copy_M fu pt = some r → AFun Tryz.prog 110 [(GType.pv pt)] ((GType.pv r) : PV)) ∧ (∀ (plist : List GType) (r : (List GType)), sl4Copies_M fu plist = some r → AFun Tryz.prog 162 [.t (.row 3 (GType.trs (plist)))] (.t (.row 3 (GType.trs (r))) : PV)) := by
  induction fu with
  | zero => exact ⟨(fun pt r H => by simp only [sl4Copy_M] at H; cases H), (fun plist r H => by simp only [sl4Copies_M] at H; cases H)⟩
  | succ fu ih => exact ⟨(fun pt r H => by simp only [sl4Copy_M] at H; exact sl4Copy_step (sl4Copy_M fu) (sl4Copies_M fu) fu ih.1 ih.2 pt r H), (fun plist r H => by simp only [sl4Copies_M] at H; exact sl4Copies_step (sl4Copy_M fu) (sl4Copies_M fu) fu ih.1 ih.2 plist r H)⟩
theorem sl4Copy_ok (fu : Nat) (pt : GType) (r : GType) (H : sl4Copy_M fu pt = some r) : AFun Tryz.prog 110 [(GType.pv pt)] ((GType.pv r) : PV) := (sl4Copy_all fu).1 pt r H
noncomputable def iEqualType_G (fu : Nat) (r_iEqualType : GType → GType → Option Bool) (r_gEqualFunc_Type__iEqualType : (List GType) → (List GType) → Option Bool) (pa : GType) (pb : GType) : Option Bool :=
 sw (decide ((pa.gKind : Int) = pb.gKind))
 (sw (decide (pa.gName = pb.gName))
 (bd (r_gEqualFunc_Type__iEqualType pa.gArgs pb.gArgs) (fun x6 =>
 some x6))
 (some false))
 (some false)
set_option maxRecDepth 100000 in
set_option maxHeartbeats 4000000 in
theorem iEqualType_step (r_iEqualType : GType → GType → Option Bool) (r_gEqualFunc_Type__iEqualType : (List GType) → (List GType) → Option Bool) (fu : Nat) (h_iEqualType : ∀ (pa : GType) (pb : GType) (r : Bool), r_iEqualType pa pb = some r → AFun Tryz.prog 215 [(GType.pv pa), (GType.pv pb)] (.t (.leaf (.bool (r))) : PV)) (h_gEqualFunc_Type__iEqualType : ∀ (ps1 : List GType) (ps2 : List GType) (r : Bool), r_gEqualFunc_Type__iEqualType ps1 ps2 = some r → AFun Tryz.prog 229 [.t (.row 3 (GType.trs (ps1))), .t (.row 3 (GType.trs (ps2))), .fn 215 []] (.t (.leaf (.bool (r))) : PV)) (pa : GType) (pb : GType) (r : Bool) (H : iEqualType_G fu r_iEqualType r_gEqualFunc_Type__iEqualType pa pb = some r) : AFun Tryz.prog 215 [(GType.pv pa), (GType.pv pb)] (.t (.leaf (.bool (r))) : PV) := by
  refine ACalls.intro Tryz.func215 rfl (by first | decide | (simp; done) | (simp; decide)) ?_
  intro C hC
  refine AWP.seq ?_
  refine AWP.region_lit ?_
  refine AL.cons rfl (AOp.box (cs := [.t (.leaf (.int .i64 (pa.gKind))), .t (.leaf (.string (pa.gName))), .t (.row 3 (GType.trs (pa.gArgs)))]) rfl rfl rfl rfl rfl) ?_
  refine AL.cons rfl (AOp.box (cs := [.t (.leaf (.int .i64 (pb.gKind))), .t (.leaf (.string (pb.gName))), .t (.row 3 (GType.trs (pb.gArgs)))]) rfl rfl rfl rfl rfl) ?_
  refine AL.cons rfl (AOp.move (.inr rfl) rfl rfl) ?_
  refine AL.nil ?_
  refine AWP.seq ?_
  refine AWP.region_lit ?_
  refine AL.cons rfl (AOp.fieldPtr (k := 0) (d := 0) (e := 0) rfl rfl rfl fo47_0) ?_
  refine AL.cons rfl (AOp.loadPtr1 rfl rfl rfl rfl sh3 rfl) ?_
  refine AL.cons rfl (AOp.fieldPtr (k := 1) (d := 0) (e := 0) rfl rfl rfl fo47_0) ?_
  refine AL.cons rfl (AOp.loadPtr1 rfl rfl rfl rfl sh3 rfl) ?_
  refine AL.cons rfl (AOp.eqlI rfl rfl rfl rfl) ?_
  refine AL.cons rfl (AOp.move (.inl rfl) rfl rfl) ?_
  refine AL.splitB 10 rfl (fun g1 => ?_) (fun g1 => ?_)
  · skip
    refine AL.cons_gv rfl rfl rfl g1 (AOp.fieldPtr (k := 0) (d := 0) (e := 1) rfl rfl rfl fo47_1) ?_
    refine AL.cons_gv rfl rfl rfl g1 (AOp.loadPtr1 rfl rfl rfl rfl sh9 rfl) ?_
    refine AL.cons_gv rfl rfl rfl g1 (AOp.fieldPtr (k := 1) (d := 0) (e := 1) rfl rfl rfl fo47_1) ?_
    refine AL.cons_gv rfl rfl rfl g1 (AOp.loadPtr1 rfl rfl rfl rfl sh9 rfl) ?_
    refine AL.cons_gv rfl rfl rfl g1 (AOp.eqlS rfl rfl rfl rfl) ?_
    refine AL.cons rfl (AOp.pickT rfl rfl rfl g1 rfl) ?_
    refine AL.cons rfl (AOp.move (.inl rfl) rfl rfl) ?_
    refine AL.splitB 17 rfl (fun g2 => ?_) (fun g2 => ?_)
    · skip
      refine AL.cons_gv rfl rfl rfl g2 (AOp.fieldPtr (k := 0) (d := 0) (e := 2) rfl rfl rfl fo47_2) ?_
      refine AL.cons_gv rfl rfl rfl g2 (AOp.loadPtr1 rfl rfl rfl rfl sh45 rfl) ?_
      refine AL.fact (lk_lenN 19 rfl rfl (GType.trs_len _)) (fun hl3 => ?_)
      refine AL.cons_gv rfl rfl rfl g2 (AOp.fieldPtr (k := 1) (d := 0) (e := 2) rfl rfl rfl fo47_2) ?_
      refine AL.cons_gv rfl rfl rfl g2 (AOp.loadPtr1 rfl rfl rfl rfl sh45 rfl) ?_
      refine AL.fact (lk_lenN 21 rfl rfl (GType.trs_len _)) (fun hl4 => ?_)
      rcases hq5 : r_gEqualFunc_Type__iEqualType pa.gArgs pb.gArgs with _ | x6
      · skip
        have e7 : iEqualType_G fu r_iEqualType r_gEqualFunc_Type__iEqualType pa pb = none := swT g1 (swT g2 (bdN hq5))
        exact none_some H e7
      · skip
        refine AL.cons_gv rfl rfl rfl g2 (AOp.callF (res := .t (.leaf (.bool (x6)))) (ps := [_, _, _]) rfl rfl Tryz.func229 (by kernel_rfl) rfl rfl (by (repeat' (first | exact PV.Le.refl _ | exact LeL.nil | exact PV.Le.nil _ | exact PV.Le.acc _ _ _ | apply LeL.cons | apply PV.Le.agg | apply PV.Le.tup))) rfl rfl (h_gEqualFunc_Type__iEqualType pa.gArgs pb.gArgs _ hq5)) ?_
        refine AL.cons rfl (AOp.pickT rfl rfl rfl g2 rfl) ?_
        refine AL.cons rfl (AOp.move (.inr rfl) rfl rfl) ?_
        refine AL.nil ?_
        refine AWP.ret ?_
        have e8 : iEqualType_G fu r_iEqualType r_gEqualFunc_Type__iEqualType pa pb = some x6 := swT g1 (swT g2 (bdS hq5 (rfl)))
        have hz : x6 = r := Option.some.inj (e8.symm.trans H)
        subst hz
        exact Ends.mk (ps := [_]) (by first | exact .inr rfl | exact .inl rfl) ⟨rfl, trivial⟩ rfl (StLe.mk' (st' := ⟨[], []⟩) trivial rfl) (keeps_nil hC) (q := (.t (.leaf (.bool (x6))) : PV)) (by (repeat' (first | exact PV.Le.refl _ | exact LeL.nil | exact PV.Le.nil _ | exact PV.Le.acc _ _ _ | apply LeL.cons | apply PV.Le.agg | apply PV.Le.tup))) rfl ⟨rfl, rfl⟩
    · skip
      refine AL.skipP rfl rfl rfl g2 rfl rfl ?_
      refine AL.skipP rfl rfl rfl g2 rfl rfl ?_
      refine AL.skipP rfl rfl rfl g2 rfl rfl ?_
      refine AL.skipP rfl rfl rfl g2 rfl rfl ?_
      refine AL.skipP rfl rfl rfl g2 rfl rfl ?_
      refine AL.cons rfl (AOp.pickF rfl rfl rfl g2 rfl) ?_
      refine AL.cons rfl (AOp.move (.inr rfl) rfl rfl) ?_
      refine AL.nil ?_
      refine AWP.ret ?_
      have e9 : iEqualType_G fu r_iEqualType r_gEqualFunc_Type__iEqualType pa pb = some false := swT g1 (swF g2 (rfl))
      have hz : false = r := Option.some.inj (e9.symm.trans H)
      subst hz
      exact Ends.mk (ps := [_]) (by first | exact .inr rfl | exact .inl rfl) ⟨rfl, trivial⟩ rfl (StLe.mk' (st' := ⟨[], []⟩) trivial rfl) (keeps_nil hC) (q := (.t (.leaf (.bool (false))) : PV)) (by (repeat' (first | exact PV.Le.refl _ | exact LeL.nil | exact PV.Le.nil _ | exact PV.Le.acc _ _ _ | apply LeL.cons | apply PV.Le.agg | apply PV.Le.tup))) rfl ⟨rfl, rfl⟩
  · skip
    refine AL.skipP rfl rfl rfl g1 rfl rfl ?_
    refine AL.skipP rfl rfl rfl g1 rfl rfl ?_
    refine AL.skipP rfl rfl rfl g1 rfl rfl ?_
    refine AL.skipP rfl rfl rfl g1 rfl rfl ?_
    refine AL.skipP rfl rfl rfl g1 rfl rfl ?_
    refine AL.cons rfl (AOp.pickF rfl rfl rfl g1 rfl) ?_
    refine AL.cons rfl (AOp.move (.inl rfl) rfl rfl) ?_
    refine AL.skipP rfl rfl rfl rfl rfl rfl ?_
    refine AL.skipP rfl rfl rfl rfl rfl rfl ?_
    refine AL.skipP rfl rfl rfl rfl rfl rfl ?_
    refine AL.skipP rfl rfl rfl rfl rfl rfl ?_
    refine AL.skipP rfl rfl rfl rfl rfl rfl ?_
    refine AL.cons rfl (AOp.pickF rfl rfl rfl rfl rfl) ?_
    refine AL.cons rfl (AOp.move (.inr rfl) rfl rfl) ?_
    refine AL.nil ?_
    refine AWP.ret ?_
    have e10 : iEqualType_G fu r_iEqualType r_gEqualFunc_Type__iEqualType pa pb = some false := swF g1 (rfl)
    have hz : false = r := Option.some.inj (e10.symm.trans H)
    subst hz
    exact Ends.mk (ps := [_]) (by first | exact .inr rfl | exact .inl rfl) ⟨rfl, trivial⟩ rfl (StLe.mk' (st' := ⟨[], []⟩) trivial rfl) (keeps_nil hC) (q := (.t (.leaf (.bool (false))) : PV)) (by (repeat' (first | exact PV.Le.refl _ | exact LeL.nil | exact PV.Le.nil _ | exact PV.Le.acc _ _ _ | apply LeL.cons | apply PV.Le.agg | apply PV.Le.tup))) rfl ⟨rfl, rfl⟩
noncomputable def gEqualFunc_Type__iEqualType_F1 (fu : Nat) (r_iEqualType : GType → GType → Option Bool) (r_gEqualFunc_Type__iEqualType : (List GType) → (List GType) → Option Bool) (ps1 : List GType) (ps2 : List GType) : Nat → Unit → Option (LR Unit Bool) :=
 fun i5 _ => gd (i5 < (ps2).length)
 (bd (r_iEqualType (atD ps1 i5) (atD ps2 i5)) (fun x10 =>
 sw (!(x10))
 (some (.ret false))
 (some (.next ()))))
noncomputable def gEqualFunc_Type__iEqualType_R1 (fu : Nat) (r_iEqualType : GType → GType → Option Bool) (r_gEqualFunc_Type__iEqualType : (List GType) → (List GType) → Option Bool) (ps1 : List GType) (ps2 : List GType) : Option (Bool ⊕ Unit) :=
 loopN (gEqualFunc_Type__iEqualType_F1 fu r_iEqualType r_gEqualFunc_Type__iEqualType ps1 ps2) (ps1.length - 0) 0 ()
noncomputable def gEqualFunc_Type__iEqualType_G (fu : Nat) (r_iEqualType : GType → GType → Option Bool) (r_gEqualFunc_Type__iEqualType : (List GType) → (List GType) → Option Bool) (ps1 : List GType) (ps2 : List GType) : Option Bool :=
 sw (!decide ((((ps1.length : Nat) : Int) : Int) = ((ps2.length : Nat) : Int)))
 (some false)
 (so (gEqualFunc_Type__iEqualType_R1 fu r_iEqualType r_gEqualFunc_Type__iEqualType ps1 ps2) (fun _ =>
 some true))
set_option maxRecDepth 100000 in
set_option maxHeartbeats 4000000 in
theorem gEqualFunc_Type__iEqualType_step (r_iEqualType : GType → GType → Option Bool) (r_gEqualFunc_Type__iEqualType : (List GType) → (List GType) → Option Bool) (fu : Nat) (h_iEqualType : ∀ (pa : GType) (pb : GType) (r : Bool), r_iEqualType pa pb = some r → AFun Tryz.prog 215 [(GType.pv pa), (GType.pv pb)] (.t (.leaf (.bool (r))) : PV)) (h_gEqualFunc_Type__iEqualType : ∀ (ps1 : List GType) (ps2 : List GType) (r : Bool), r_gEqualFunc_Type__iEqualType ps1 ps2 = some r → AFun Tryz.prog 229 [.t (.row 3 (GType.trs (ps1))), .t (.row 3 (GType.trs (ps2))), .fn 215 []] (.t (.leaf (.bool (r))) : PV)) (ps1 : List GType) (ps2 : List GType) (r : Bool) (H : gEqualFunc_Type__iEqualType_G fu r_iEqualType r_gEqualFunc_Type__iEqualType ps1 ps2 = some r) : AFun Tryz.prog 229 [.t (.row 3 (GType.trs (ps1))), .t (.row 3 (GType.trs (ps2))), .fn 215 []] (.t (.leaf (.bool (r))) : PV) := by
  refine ACalls.intro Tryz.func229 rfl (by first | decide | (simp; done) | (simp; decide)) ?_
  intro C hC
  refine AWP.fact (lk_lenN 0 rfl rfl (GType.trs_len _)) (fun hl1 => ?_)
  refine AWP.fact (lk_lenN 1 rfl rfl (GType.trs_len _)) (fun hl2 => ?_)
  refine AWP.seq ?_
  refine AWP.region_lit ?_
  refine AL.cons rfl (AOp.move (.inr rfl) rfl rfl) ?_
  refine AL.nil ?_
  refine AWP.seq ?_
  refine AWP.seq ?_
  refine AWP.region_lit ?_
  refine AL.cons rfl (AOp.move (.inl rfl) rfl rfl) ?_
  refine AL.cons rfl (AOp.lenN rfl rfl rfl rfl el45 (GType.trs_len _)) ?_
  refine AL.cons rfl (AOp.move (.inl rfl) rfl rfl) ?_
  refine AL.cons rfl (AOp.lenN rfl rfl rfl rfl el45 (GType.trs_len _)) ?_
  refine AL.cons rfl (AOp.neqI rfl rfl rfl rfl) ?_
  refine AL.nil ?_
  refine AWP.cond rfl (fun h3 => ?_) (fun h3 => ?_)
  · skip
    refine AWP.seq ?_
    refine AWP.region_lit ?_
    refine AL.cons rfl (AOp.move (.inr rfl) rfl rfl) ?_
    refine AL.nil ?_
    refine AWP.ret ?_
    have e4 : gEqualFunc_Type__iEqualType_G fu r_iEqualType r_gEqualFunc_Type__iEqualType ps1 ps2 = some false := swT h3 (rfl)
    have hz : false = r := Option.some.inj (e4.symm.trans H)
    subst hz
    exact Ends.mk (ps := [_]) (by first | exact .inr rfl | exact .inl rfl) ⟨rfl, trivial⟩ rfl (StLe.mk' (st' := ⟨[], []⟩) trivial rfl) (keeps_nil hC) (q := (.t (.leaf (.bool (false))) : PV)) (by (repeat' (first | exact PV.Le.refl _ | exact LeL.nil | exact PV.Le.nil _ | exact PV.Le.acc _ _ _ | apply LeL.cons | apply PV.Le.agg | apply PV.Le.tup))) rfl ⟨rfl, rfl⟩
  · skip
    refine AWP.skip ?_
    refine AWP.seq ?_
    refine AWP.seq ?_
    refine AWP.region_lit ?_
    refine AL.cons rfl (AOp.move (.inl rfl) rfl rfl) ?_
    refine AL.cons rfl (AOp.lenN rfl rfl rfl rfl el45 (GType.trs_len _)) ?_
    refine AL.cons rfl (AOp.move (.inl rfl) rfl rfl) ?_
    refine AL.nil ?_
    refine AWP.cut (ι := Unit) (fun _ => gEqualFunc_Type__iEqualType_R1 fu r_iEqualType r_gEqualFunc_Type__iEqualType ps1 ps2 = some (.inr ())) (fun _ => ⟨[(6, .t (.leaf (.bool (false))))], ⟨[], []⟩⟩) (by repeat' (first | exact qcEnds | exact ncAWP | exact ncRound | exact ncEx | apply qcThen | apply qcBlock | apply qcCut)) ?_ ?_
    · skip
      refine AWP.block ?_
      refine AWP.loopR (ι := Nat × Unit) (fun (i5, _) => gEqualFunc_Type__iEqualType_R1 fu r_iEqualType r_gEqualFunc_Type__iEqualType ps1 ps2 = loopN (gEqualFunc_Type__iEqualType_F1 fu r_iEqualType r_gEqualFunc_Type__iEqualType ps1 ps2) (ps1.length - i5) i5 ()) (fun (i5, _) => ⟨[(1, .t (.row 3 (GType.trs (ps2)))), (2, .fn 215 []), (6, .t (.leaf (.bool (false)))), (15, .t (.row 3 (GType.trs (ps1)))), (16, .t (.leaf (.int .i64 (((ps1.length : Nat) : Int))))), (17, .t (.leaf (.int .i64 (((i5 : Nat) : Int)))))], ⟨[], []⟩⟩) (fun (i5, _) => ps1.length - i5) (0, ()) ?_ ?_ ?_
      · exact rfl
      · skip
        exact Wk.mk (StLe.mk' trivial rfl) (keeps_nil hC) ⟨⟨_, rfl, .refl _, rfl⟩, ⟨⟨_, rfl, .refl _, rfl⟩, ⟨⟨_, rfl, .refl _, rfl⟩, ⟨⟨_, rfl, .refl _, rfl⟩, ⟨⟨_, rfl, .refl _, rfl⟩, ⟨⟨_, rfl, by (repeat' (first | exact PV.Le.refl _ | exact LeL.nil | exact PV.Le.nil _ | exact PV.Le.acc _ _ _ | apply LeL.cons | apply PV.Le.agg | apply PV.Le.tup)), rfl⟩, trivial⟩⟩⟩⟩⟩⟩
      · rintro ⟨i5, ⟨⟩⟩ hJ6
        refine AWP.seq ?_
        refine AWP.region_lit ?_
        refine AL.cons rfl (AOp.lss rfl rfl rfl rfl) ?_
        refine AL.nil ?_
        refine AWP.seq ?_
        refine AWP.cond rfl (fun h7 => ?_) (fun h7 => ?_)
        · skip
          have h7l : i5 < ps1.length := nat_lt_of2 h7
          have h7n := nat_lt_of h7
          refine AWP.skip ?_
          refine AWP.seq ?_
          refine AWP.block ?_
          refine AWP.seq ?_
          refine AWP.region_lit ?_
          refine AL.cons rfl (AOp.move (.inl rfl) rfl rfl) ?_
          refine AL.cons rfl (AOp.index (k := i5) rfl rfl rfl rfl rfl (GType.trs_at h7n) el45) ?_
          refine AL.cons rfl (AOp.loadEptr (ds := [.leaf (.int .i64 ((atD ps1 i5).gKind)), .leaf (.string ((atD ps1 i5).gName)), .row 3 (GType.trs ((atD ps1 i5).gArgs))]) rfl rfl rfl sh47 rfl rfl) ?_
          refine AL.cons rfl (AOp.alloc rfl rfl zr47) ?_
          refine AL.cons rfl (AOp.move (.inr rfl) rfl rfl) ?_
          refine AL.cons rfl (AOp.storePtr (cs := [.t (.leaf (.int .i64 ((atD ps1 i5).gKind))), .t (.leaf (.string ((atD ps1 i5).gName))), .t (.row 3 (GType.trs ((atD ps1 i5).gArgs)))]) (ds := [.t (.leaf (.int .i64 ((atD ps1 i5).gKind))), .t (.leaf (.string ((atD ps1 i5).gName))), .t (.row 3 (GType.trs ((atD ps1 i5).gArgs)))]) rfl rfl rfl rfl rfl rfl rfl sz47 (Nat.le_of_ble_eq_true rfl) rfl) ?_
          refine AL.nil ?_
          refine AWP.seq ?_
          refine AWP.region_lit ?_
          refine AL.cons rfl (AOp.move (.inl rfl) rfl rfl) ?_
          refine AL.cons rfl (AOp.move (.inl rfl) rfl rfl) ?_
          rcases Classical.em (i5 < (ps2).length) with hg8 | hg8
          · skip
            refine AL.cons rfl (AOp.index (k := i5) rfl rfl rfl rfl rfl (GType.trs_at hg8) el45) ?_
            refine AL.cons rfl (AOp.loadEptr (ds := [.leaf (.int .i64 ((atD ps2 i5).gKind)), .leaf (.string ((atD ps2 i5).gName)), .row 3 (GType.trs ((atD ps2 i5).gArgs))]) rfl rfl rfl sh47 rfl rfl) ?_
            refine AL.cons rfl (AOp.alloc rfl rfl zr47) ?_
            refine AL.cons rfl (AOp.storePtr (cs := [.t (.leaf (.int .i64 ((atD ps2 i5).gKind))), .t (.leaf (.string ((atD ps2 i5).gName))), .t (.row 3 (GType.trs ((atD ps2 i5).gArgs)))]) (ds := [.t (.leaf (.int .i64 ((atD ps2 i5).gKind))), .t (.leaf (.string ((atD ps2 i5).gName))), .t (.row 3 (GType.trs ((atD ps2 i5).gArgs)))]) rfl rfl rfl rfl rfl rfl rfl sz47 (Nat.le_of_ble_eq_true rfl) rfl) ?_
            refine AL.nil ?_
            refine AWP.seq ?_
            refine AWP.region_lit ?_
            refine AL.cons rfl (AOp.move (.inl rfl) rfl rfl) ?_
            refine AL.cons rfl (AOp.loadPtr (cs := [.t (.leaf (.int .i64 ((atD ps1 i5).gKind))), .t (.leaf (.string ((atD ps1 i5).gName))), .t (.row 3 (GType.trs ((atD ps1 i5).gArgs)))]) rfl rfl rfl rfl sh47 rfl rfl) ?_
            refine AL.cons rfl (AOp.loadPtr (cs := [.t (.leaf (.int .i64 ((atD ps2 i5).gKind))), .t (.leaf (.string ((atD ps2 i5).gName))), .t (.row 3 (GType.trs ((atD ps2 i5).gArgs)))]) rfl rfl rfl rfl sh47 rfl rfl) ?_
            rcases hq9 : r_iEqualType (atD ps1 i5) (atD ps2 i5) with _ | x10
            · skip
              have e11 : (gEqualFunc_Type__iEqualType_F1 fu r_iEqualType r_gEqualFunc_Type__iEqualType ps1 ps2) i5 () = none := gdT hg8 (bdN hq9)
              have e12 : gEqualFunc_Type__iEqualType_R1 fu r_iEqualType r_gEqualFunc_Type__iEqualType ps1 ps2 = none := loopN_non h7l hJ6 e11
              have e13 : gEqualFunc_Type__iEqualType_G fu r_iEqualType r_gEqualFunc_Type__iEqualType ps1 ps2 = none := swF h3 (soN e12)
              exact none_some H e13
            · skip
              refine AL.cons rfl (AOp.callV (res := .t (.leaf (.bool (x10)))) (ps := [_, _]) (cs := []) rfl rfl rfl Tryz.func215 (by kernel_rfl) rfl rfl (by (repeat' (first | exact PV.Le.refl _ | exact LeL.nil | exact PV.Le.nil _ | exact PV.Le.acc _ _ _ | apply LeL.cons | apply PV.Le.agg | apply PV.Le.tup))) rfl rfl (h_iEqualType (atD ps1 i5) (atD ps2 i5) _ hq9)) ?_
              refine AL.cons rfl (AOp.notB rfl rfl rfl) ?_
              refine AL.nil ?_
              refine AWP.cond rfl (fun h14 => ?_) (fun h14 => ?_)
              · skip
                refine AWP.seq ?_
                refine AWP.region_lit ?_
                refine AL.cons rfl (AOp.move (.inr rfl) rfl rfl) ?_
                refine AL.nil ?_
                refine AWP.ret ?_
                have e15 : (gEqualFunc_Type__iEqualType_F1 fu r_iEqualType r_gEqualFunc_Type__iEqualType ps1 ps2) i5 () = some (.ret false) := gdT hg8 (bdS hq9 (swT h14 (rfl)))
                have e16 : gEqualFunc_Type__iEqualType_R1 fu r_iEqualType r_gEqualFunc_Type__iEqualType ps1 ps2 = some (.inl false) := loopN_ret h7l hJ6 e15
                have e17 : gEqualFunc_Type__iEqualType_G fu r_iEqualType r_gEqualFunc_Type__iEqualType ps1 ps2 = some false := swF h3 (soL e16)
                have hz : false = r := Option.some.inj (e17.symm.trans H)
                subst hz
                exact Ends.mk (ps := [_]) (by first | exact .inr rfl | exact .inl rfl) ⟨rfl, trivial⟩ rfl (StLe.mk' (st' := ⟨[], []⟩) trivial rfl) (keeps_nil hC) (q := (.t (.leaf (.bool (false))) : PV)) (by (repeat' (first | exact PV.Le.refl _ | exact LeL.nil | exact PV.Le.nil _ | exact PV.Le.acc _ _ _ | apply LeL.cons | apply PV.Le.agg | apply PV.Le.tup))) rfl ⟨rfl, rfl⟩
              · skip
                refine AWP.skip ?_
                refine AWP.region_lit ?_
                refine AL.cons rfl (AOp.addI rfl rfl rfl rfl (c := ((i5 + 1 : Nat) : Int)) (by omega) (by omega)) ?_
                refine AL.cons rfl (AOp.move (.inl rfl) rfl rfl) ?_
                refine AL.nil ?_
                have e18 : (gEqualFunc_Type__iEqualType_F1 fu r_iEqualType r_gEqualFunc_Type__iEqualType ps1 ps2) i5 () = some (.next ()) := gdT hg8 (bdS hq9 (swF h14 (rfl)))
                refine ⟨(i5 + 1, ()), loopN_next h7l hJ6 e18, ?_, ?_⟩
                · skip
                  exact Wk.mk (StLe.mk' trivial rfl) (keeps_nil hC) ⟨⟨_, rfl, .refl _, rfl⟩, ⟨⟨_, rfl, .refl _, rfl⟩, ⟨⟨_, rfl, .refl _, rfl⟩, ⟨⟨_, rfl, .refl _, rfl⟩, ⟨⟨_, rfl, .refl _, rfl⟩, ⟨⟨_, rfl, by (repeat' (first | exact PV.Le.refl _ | exact LeL.nil | exact PV.Le.nil _ | exact PV.Le.acc _ _ _ | apply LeL.cons | apply PV.Le.agg | apply PV.Le.tup)), rfl⟩, trivial⟩⟩⟩⟩⟩⟩
                · dsimp only; omega
          · skip
            have e19 : (gEqualFunc_Type__iEqualType_F1 fu r_iEqualType r_gEqualFunc_Type__iEqualType ps1 ps2) i5 () = none := gdF hg8
            have e20 : gEqualFunc_Type__iEqualType_R1 fu r_iEqualType r_gEqualFunc_Type__iEqualType ps1 ps2 = none := loopN_non h7l hJ6 e19
            have e21 : gEqualFunc_Type__iEqualType_G fu r_iEqualType r_gEqualFunc_Type__iEqualType ps1 ps2 = none := swF h3 (soN e20)
            exact none_some H e21
        · skip
          have h7l : ps1.length ≤ i5 := nat_ge_of2 h7
          refine AWP.exit ?_
          refine ⟨(), loopN_end h7l hJ6, ?_⟩
          exact Wk.mk (StLe.mk' trivial rfl) (keeps_nil hC) ⟨⟨_, rfl, .refl _, rfl⟩, trivial⟩
    · rintro ⟨⟩ hR22
      refine AWP.seq ?_
      refine AWP.region_lit ?_
      refine AL.cons rfl (AOp.move (.inr rfl) rfl rfl) ?_
      refine AL.nil ?_
      refine AWP.ret ?_
      have e23 : gEqualFunc_Type__iEqualType_G fu r_iEqualType r_gEqualFunc_Type__iEqualType ps1 ps2 = some true := swF h3 (soR hR22 (rfl))
      have hz : true = r := Option.some.inj (e23.symm.trans H)
      subst hz
      exact Ends.mk (ps := [_]) (by first | exact .inr rfl | exact .inl rfl) ⟨rfl, trivial⟩ rfl (StLe.mk' (st' := ⟨[], []⟩) trivial rfl) (keeps_nil hC) (q := (.t (.leaf (.bool (true))) : PV)) (by (repeat' (first | exact PV.Le.refl _ | exact LeL.nil | exact PV.Le.nil _ | exact PV.Le.acc _ _ _ | apply LeL.cons | apply PV.Le.agg | apply PV.Le.tup))) rfl ⟨rfl, rfl⟩
mutual
noncomputable def iEqualType_M : Nat → GType → GType → Option Bool
  | 0, _, _ => none
  | fu + 1, pa, pb => iEqualType_G fu (iEqualType_M fu) (gEqualFunc_Type__iEqualType_M fu) pa pb
noncomputable def gEqualFunc_Type__iEqualType_M : Nat → (List GType) → (List GType) → Option Bool
  | 0, _, _ => none
  | fu + 1, ps1, ps2 => gEqualFunc_Type__iEqualType_G fu (iEqualType_M fu) (gEqualFunc_Type__iEqualType_M fu) ps1 ps2
end
theorem iEqualType_all (fu : Nat) : (∀ (pa : GType) (pb : GType) (r : Bool), iEqualType_M fu pa pb = some r → AFun Tryz.prog 215 [(GType.pv pa), (GType.pv pb)] (.t (.leaf (.bool (r))) : PV)) ∧ (∀ (ps1 : List GType) (ps2 : List GType) (r : Bool), gEqualFunc_Type__iEqualType_M fu ps1 ps2 = some r → AFun Tryz.prog 229 [.t (.row 3 (GType.trs (ps1))), .t (.row 3 (GType.trs (ps2))), .fn 215 []] (.t (.leaf (.bool (r))) : PV)) := by
  induction fu with
  | zero => exact ⟨(fun pa pb r H => by simp only [iEqualType_M] at H; cases H), (fun ps1 ps2 r H => by simp only [gEqualFunc_Type__iEqualType_M] at H; cases H)⟩
  | succ fu ih => exact ⟨(fun pa pb r H => by simp only [iEqualType_M] at H; exact iEqualType_step (iEqualType_M fu) (gEqualFunc_Type__iEqualType_M fu) fu ih.1 ih.2 pa pb r H), (fun ps1 ps2 r H => by simp only [gEqualFunc_Type__iEqualType_M] at H; exact gEqualFunc_Type__iEqualType_step (iEqualType_M fu) (gEqualFunc_Type__iEqualType_M fu) fu ih.1 ih.2 ps1 ps2 r H)⟩
theorem iEqualType_ok (fu : Nat) (pa : GType) (pb : GType) (r : Bool) (H : iEqualType_M fu pa pb = some r) : AFun Tryz.prog 215 [(GType.pv pa), (GType.pv pb)] (.t (.leaf (.bool (r))) : PV) := (iEqualType_all fu).1 pa pb r H
noncomputable def icopyType_G (fu : Nat) (r_icopyType : GType → Option GType) (r_icopyTypes : (List GType) → Option ((List GType))) (pt : GType) : Option GType :=
 bd (r_icopyTypes pt.gArgs) (fun x3 =>
 some (GType.mk pt.gKind pt.gName x3))
set_option maxRecDepth 100000 in
set_option maxHeartbeats 4000000 in
theorem icopyType_step (r_icopyType : GType → Option GType) (r_icopyTypes : (List GType) → Option ((List GType))) (fu : Nat) (h_icopyType : ∀ (pt : GType) (r : GType), r_icopyType pt = some r → AFun Tryz.prog 111 [(GType.pv pt)] ((GType.pv r) : PV)) (h_icopyTypes : ∀ (pl : List GType) (r : (List GType)), r_icopyTypes pl = some r → AFun Tryz.prog 163 [.t (.row 3 (GType.trs (pl)))] (.t (.row 3 (GType.trs (r))) : PV)) (pt : GType) (r : GType) (H : icopyType_G fu r_icopyType r_icopyTypes pt = some r) : AFun Tryz.prog 111 [(GType.pv pt)] ((GType.pv r) : PV) := by
  refine ACalls.intro Tryz.func111 rfl (by first | decide | (simp; done) | (simp; decide)) ?_
  intro C hC
  refine AWP.seq ?_
  refine AWP.region_lit ?_
  refine AL.cons rfl (AOp.box (cs := [.t (.leaf (.int .i64 (pt.gKind))), .t (.leaf (.string (pt.gName))), .t (.row 3 (GType.trs (pt.gArgs)))]) rfl rfl rfl rfl rfl) ?_
  refine AL.cons rfl (AOp.alloc rfl rfl zr47) ?_
  refine AL.nil ?_
  refine AWP.seq ?_
  refine AWP.region_lit ?_
  refine AL.cons rfl (AOp.fieldPtr (k := 0) (d := 0) (e := 2) rfl rfl rfl fo47_2) ?_
  refine AL.cons rfl (AOp.loadPtr1 rfl rfl rfl rfl sh45 rfl) ?_
  refine AL.fact (lk_lenN 4 rfl rfl (GType.trs_len _)) (fun hl1 => ?_)
  rcases hq2 : r_icopyTypes pt.gArgs with _ | x3
  · skip
    have e4 : icopyType_G fu r_icopyType r_icopyTypes pt = none := bdN hq2
    exact none_some H e4
  · skip
    refine AL.cons rfl (AOp.callF (res := .t (.row 3 (GType.trs (x3)))) (ps := [_]) rfl rfl Tryz.func163 (by kernel_rfl) rfl rfl (by (repeat' (first | exact PV.Le.refl _ | exact LeL.nil | exact PV.Le.nil _ | exact PV.Le.acc _ _ _ | apply LeL.cons | apply PV.Le.agg | apply PV.Le.tup))) rfl rfl (h_icopyTypes pt.gArgs _ hq2)) ?_
    refine AL.cons rfl (AOp.fieldPtr (k := 0) (d := 0) (e := 2) rfl rfl rfl fo47_2) ?_
    refine AL.cons rfl (AOp.storePtr (cs := [.t (.row 3 (GType.trs (x3)))]) (ds := [.t (.leaf (.int .i64 (pt.gKind))), .t (.leaf (.string (pt.gName))), .t (.row 3 (GType.trs (x3)))]) rfl rfl rfl rfl rfl rfl rfl sz45 (Nat.le_of_ble_eq_true rfl) rfl) ?_
    refine AL.nil ?_
    refine AWP.seq ?_
    refine AWP.region_lit ?_
    refine AL.cons rfl (AOp.loadPtr (cs := [.t (.leaf (.int .i64 (pt.gKind))), .t (.leaf (.string (pt.gName))), .t (.row 3 (GType.trs (x3)))]) rfl rfl rfl rfl sh47 rfl rfl) ?_
    refine AL.cons rfl (AOp.storePtr (cs := [.t (.leaf (.int .i64 (pt.gKind))), .t (.leaf (.string (pt.gName))), .t (.row 3 (GType.trs (x3)))]) (ds := [.t (.leaf (.int .i64 (pt.gKind))), .t (.leaf (.string (pt.gName))), .t (.row 3 (GType.trs (x3)))]) rfl rfl rfl rfl rfl rfl rfl sz47 (Nat.le_of_ble_eq_true rfl) rfl) ?_
    refine AL.nil ?_
    refine AWP.ret ?_
    have e5 : icopyType_G fu r_icopyType r_icopyTypes pt = some (GType.mk pt.gKind pt.gName x3) := bdS hq2 (rfl)
    have hz : (GType.mk pt.gKind pt.gName x3) = r := Option.some.inj (e5.symm.trans H)
    subst hz
    exact Ends.mk (ps := [_]) (by first | exact .inr rfl | exact .inl rfl) ⟨⟨_, _, _, rfl, rfl, sh47, rfl, rfl⟩, trivial⟩ rfl (StLe.mk' (st' := ⟨[], []⟩) trivial rfl) (keeps_nil hC) (q := ((GType.pv (GType.mk pt.gKind pt.gName x3)) : PV)) (by (repeat' (first | exact PV.Le.refl _ | exact LeL.nil | exact PV.Le.nil _ | exact PV.Le.acc _ _ _ | apply LeL.cons | apply PV.Le.agg | apply PV.Le.tup))) rfl ⟨rfl, rfl⟩
noncomputable def icopyTypes_F1 (fu : Nat) (r_icopyType : GType → Option GType) (r_icopyTypes : (List GType) → Option ((List GType))) (pl : List GType) : Nat → ((List GType)) → Option (LR ((List GType)) ((List GType))) :=
 fun i3 v4 => bd (r_icopyType (atD pl i3)) (fun x8 =>
 gd (i3 = (v4).length)
 (some (.next (v4 ++ ([x8] : List GType)))))
noncomputable def icopyTypes_R1 (fu : Nat) (r_icopyType : GType → Option GType) (r_icopyTypes : (List GType) → Option ((List GType))) (pl : List GType) : Option (((List GType)) ⊕ ((List GType))) :=
 loopN (icopyTypes_F1 fu r_icopyType r_icopyTypes pl) (pl.length - 0) 0 ([])
noncomputable def icopyTypes_G (fu : Nat) (r_icopyType : GType → Option GType) (r_icopyTypes : (List GType) → Option ((List GType))) (pl : List GType) : Option ((List GType)) :=
 gd (pl.length ≤ 68719476736)
 (so (icopyTypes_R1 fu r_icopyType r_icopyTypes pl) (fun v4 =>
 gd ((v4).length = pl.length)
 (some v4)))
set_option maxRecDepth 100000 in
set_option maxHeartbeats 4000000 in
theorem icopyTypes_step (r_icopyType : GType → Option GType) (r_icopyTypes : (List GType) → Option ((List GType))) (fu : Nat) (h_icopyType : ∀ (pt : GType) (r : GType), r_icopyType pt = some r → AFun Tryz.prog 111 [(GType.pv pt)] ((GType.pv r) : PV)) (h_icopyTypes : ∀ (pl : List GType) (r : (List GType)), r_icopyTypes pl = some r → AFun Tryz.prog 163 [.t (.row 3 (GType.trs (pl)))] (.t (.row 3 (GType.trs (r))) : PV)) (pl : List GType) (r : (List GType)) (H : icopyTypes_G fu r_icopyType r_icopyTypes pl = some r) : AFun Tryz.prog 163 [.t (.row 3 (GType.trs (pl)))] (.t (.row 3 (GType.trs (r))) : PV) := by
  refine ACalls.intro Tryz.func163 rfl (by first | decide | (simp; done) | (simp; decide)) ?_
  intro C hC
  refine AWP.fact (lk_lenN 0 rfl rfl (GType.trs_len _)) (fun hl1 => ?_)
  refine AWP.seq ?_
  refine AWP.region_lit ?_
  refine AL.cons rfl (AOp.move (.inr rfl) rfl rfl) ?_
  refine AL.nil ?_
  refine AWP.seq ?_
  refine AWP.region_lit ?_
  refine AL.cons rfl (AOp.move (.inl rfl) rfl rfl) ?_
  refine AL.cons rfl (AOp.lenN rfl rfl rfl rfl el45 (GType.trs_len _)) ?_
  rcases Classical.em (pl.length ≤ 68719476736) with hg2 | hg2
  · skip
    refine AL.cons rfl (AOp.makeSlice (N := pl.length) rfl rfl rfl rfl el45 ze45 (by decide) (Nat.le_trans (Nat.mul_le_mul_left _ hg2) (by decide)) (Nat.le_trans hg2 (by decide))) ?_
    refine AL.cons rfl (AOp.move (.inr rfl) rfl rfl) ?_
    refine AL.nil ?_
    refine AWP.seq ?_
    refine AWP.seq ?_
    refine AWP.region_lit ?_
    refine AL.cons rfl (AOp.move (.inl rfl) rfl rfl) ?_
    refine AL.cons rfl (AOp.lenN rfl rfl rfl rfl el45 (GType.trs_len _)) ?_
    refine AL.cons rfl (AOp.move (.inl rfl) rfl rfl) ?_
    refine AL.nil ?_
    refine AWP.cut (ι := (List GType)) (fun v4 => icopyTypes_R1 fu r_icopyType r_icopyTypes pl = some (.inr v4)) (fun v4 => ⟨[(2, .nil), (3, .full 3 (pl.length) 0)], ⟨[], [⟨47, 3, GType.trs (v4), true⟩]⟩⟩) (by repeat' (first | exact qcEnds | exact ncAWP | exact ncRound | exact ncEx | apply qcThen | apply qcBlock | apply qcCut)) ?_ ?_
    · skip
      refine AWP.block ?_
      refine AWP.loopR (ι := Nat × ((List GType))) (fun (i3, v4) => icopyTypes_R1 fu r_icopyType r_icopyTypes pl = loopN (icopyTypes_F1 fu r_icopyType r_icopyTypes pl) (pl.length - i3) i3 v4) (fun (i3, v4) => ⟨[(2, .nil), (3, .full 3 (pl.length) 0), (9, .t (.row 3 (GType.trs (pl)))), (10, .t (.leaf (.int .i64 (((pl.length : Nat) : Int))))), (11, .t (.leaf (.int .i64 (((i3 : Nat) : Int)))))], ⟨[], [⟨47, 3, GType.trs (v4), true⟩]⟩⟩) (fun (i3, v4) => pl.length - i3) (0, ([])) ?_ ?_ ?_
      · exact rfl
      · skip
        exact Wk.mk (StLe.mk' trivial (by first | rfl | simp)) (keeps_nil hC) ⟨⟨_, rfl, .refl _, rfl⟩, ⟨⟨_, rfl, .refl _, rfl⟩, ⟨⟨_, rfl, .refl _, rfl⟩, ⟨⟨_, rfl, .refl _, rfl⟩, ⟨⟨_, rfl, by (repeat' (first | exact PV.Le.refl _ | exact LeL.nil | exact PV.Le.nil _ | exact PV.Le.acc _ _ _ | apply LeL.cons | apply PV.Le.agg | apply PV.Le.tup)), rfl⟩, trivial⟩⟩⟩⟩⟩
      · rintro ⟨i3, v4⟩ hJ5
        refine AWP.seq ?_
        refine AWP.region_lit ?_
        refine AL.cons rfl (AOp.lss rfl rfl rfl rfl) ?_
        refine AL.nil ?_
        refine AWP.seq ?_
        refine AWP.cond rfl (fun h6 => ?_) (fun h6 => ?_)
        · skip
          have h6l : i3 < pl.length := nat_lt_of2 h6
          have h6n := nat_lt_of h6
          refine AWP.skip ?_
          refine AWP.seq ?_
          refine AWP.block ?_
          refine AWP.seq ?_
          refine AWP.region_lit ?_
          refine AL.cons rfl (AOp.move (.inl rfl) rfl rfl) ?_
          refine AL.cons rfl (AOp.index (k := i3) rfl rfl rfl rfl rfl (GType.trs_at h6n) el45) ?_
          refine AL.cons rfl (AOp.loadEptr (ds := [.leaf (.int .i64 ((atD pl i3).gKind)), .leaf (.string ((atD pl i3).gName)), .row 3 (GType.trs ((atD pl i3).gArgs))]) rfl rfl rfl sh47 rfl rfl) ?_
          refine AL.cons rfl (AOp.alloc rfl rfl zr47) ?_
          refine AL.cons rfl (AOp.move (.inr rfl) rfl rfl) ?_
          refine AL.cons rfl (AOp.storePtr (cs := [.t (.leaf (.int .i64 ((atD pl i3).gKind))), .t (.leaf (.string ((atD pl i3).gName))), .t (.row 3 (GType.trs ((atD pl i3).gArgs)))]) (ds := [.t (.leaf (.int .i64 ((atD pl i3).gKind))), .t (.leaf (.string ((atD pl i3).gName))), .t (.row 3 (GType.trs ((atD pl i3).gArgs)))]) rfl rfl rfl rfl rfl rfl rfl sz47 (Nat.le_of_ble_eq_true rfl) rfl) ?_
          refine AL.nil ?_
          refine AWP.region_lit ?_
          refine AL.cons rfl (AOp.move (.inl rfl) rfl rfl) ?_
          refine AL.cons rfl (AOp.move (.inl rfl) rfl rfl) ?_
          refine AL.cons rfl (AOp.loadPtr (cs := [.t (.leaf (.int .i64 ((atD pl i3).gKind))), .t (.leaf (.string ((atD pl i3).gName))), .t (.row 3 (GType.trs ((atD pl i3).gArgs)))]) rfl rfl rfl rfl sh47 rfl rfl) ?_
          rcases hq7 : r_icopyType (atD pl i3) with _ | x8
          · skip
            have e9 : (icopyTypes_F1 fu r_icopyType r_icopyTypes pl) i3 v4 = none := bdN hq7
            have e10 : icopyTypes_R1 fu r_icopyType r_icopyTypes pl = none := loopN_non h6l hJ5 e9
            have e11 : icopyTypes_G fu r_icopyType r_icopyTypes pl = none := gdT hg2 (soN e10)
            exact none_some H e11
          · skip
            refine AL.cons rfl (AOp.callF (res := (GType.pv x8)) (ps := [_]) rfl rfl Tryz.func111 (by kernel_rfl) rfl rfl (by (repeat' (first | exact PV.Le.refl _ | exact LeL.nil | exact PV.Le.nil _ | exact PV.Le.acc _ _ _ | apply LeL.cons | apply PV.Le.agg | apply PV.Le.tup))) rfl rfl (h_icopyType (atD pl i3) _ hq7)) ?_
            refine AL.cons rfl (AOp.indexFull (k := i3) rfl rfl rfl rfl h6n el45) ?_
            rcases Classical.em (i3 = (v4).length) with hg12 | hg12
            · skip
              refine AL.cons rfl (AOp.storeRptr (e := GType.cs x8) (es2 := GType.trs (v4 ++ ([x8] : List GType))) 16 rfl rfl rfl rfl rfl rfl (by (repeat' (first | exact PV.Le.refl _ | exact LeL.nil | exact PV.Le.nil _ | exact PV.Le.acc _ _ _ | apply LeL.cons | apply PV.Le.agg | apply PV.Le.tup))) rfl rfl sz47 (by rw [GType.trs_len]; exact hg12) h6n (by rw [GType.trs_map, GType.trs_map, List.map_append]; simp [GType.tr_cs])) ?_
              refine AL.nil ?_
              refine AWP.region_lit ?_
              refine AL.cons rfl (AOp.addI rfl rfl rfl rfl (c := ((i3 + 1 : Nat) : Int)) (by omega) (by omega)) ?_
              refine AL.cons rfl (AOp.move (.inl rfl) rfl rfl) ?_
              refine AL.nil ?_
              have e13 : (icopyTypes_F1 fu r_icopyType r_icopyTypes pl) i3 v4 = some (.next (v4 ++ ([x8] : List GType))) := bdS hq7 (gdT hg12 (rfl))
              refine ⟨(i3 + 1, (v4 ++ ([x8] : List GType))), loopN_next h6l hJ5 e13, ?_, ?_⟩
              · skip
                exact Wk.mk (StLe.mk' trivial (by first | rfl | simp)) (keeps_nil hC) ⟨⟨_, rfl, .refl _, rfl⟩, ⟨⟨_, rfl, .refl _, rfl⟩, ⟨⟨_, rfl, .refl _, rfl⟩, ⟨⟨_, rfl, .refl _, rfl⟩, ⟨⟨_, rfl, by (repeat' (first | exact PV.Le.refl _ | exact LeL.nil | exact PV.Le.nil _ | exact PV.Le.acc _ _ _ | apply LeL.cons | apply PV.Le.agg | apply PV.Le.tup)), rfl⟩, trivial⟩⟩⟩⟩⟩
              · dsimp only; omega
            · skip
              have e14 : (icopyTypes_F1 fu r_icopyType r_icopyTypes pl) i3 v4 = none := bdS hq7 (gdF hg12)
              have e15 : icopyTypes_R1 fu r_icopyType r_icopyTypes pl = none := loopN_non h6l hJ5 e14
              have e16 : icopyTypes_G fu r_icopyType r_icopyTypes pl = none := gdT hg2 (soN e15)
              exact none_some H e16
        · skip
          have h6l : pl.length ≤ i3 := nat_ge_of2 h6
          refine AWP.exit ?_
          refine ⟨v4, loopN_end h6l hJ5, ?_⟩
          exact Wk.mk (StLe.mk' trivial (by first | rfl | simp)) (keeps_nil hC) ⟨⟨_, rfl, .refl _, rfl⟩, ⟨⟨_, rfl, .refl _, rfl⟩, trivial⟩⟩
    · rintro v4 hR17
      refine AWP.seq ?_
      refine AWP.region_lit ?_
      refine AL.cons rfl (AOp.move (.inl rfl) rfl rfl) ?_
      rcases Classical.em ((v4).length = pl.length) with hg18 | hg18
      · skip
        refine AL.weak (Wk.full (i := 22) rfl rfl (by rw [GType.trs_len]; exact hg18)) ?_
        refine AL.cons rfl (AOp.move (.inr rfl) rfl rfl) ?_
        refine AL.nil ?_
        refine AWP.ret ?_
        have e19 : icopyTypes_G fu r_icopyType r_icopyTypes pl = some v4 := gdT hg2 (soR hR17 (gdT hg18 (rfl)))
        have hz : v4 = r := Option.some.inj (e19.symm.trans H)
        subst hz
        exact Ends.mk (ps := [_]) (by first | exact .inr rfl | exact .inl rfl) ⟨rfl, trivial⟩ rfl (StLe.mk' (st' := ⟨[], []⟩) trivial rfl) (keeps_nil hC) (q := (.t (.row 3 (GType.trs (v4))) : PV)) (by (repeat' (first | exact PV.Le.refl _ | exact LeL.nil | exact PV.Le.nil _ | exact PV.Le.acc _ _ _ | apply LeL.cons | apply PV.Le.agg | apply PV.Le.tup))) rfl ⟨rfl, rfl⟩
      · skip
        have e20 : icopyTypes_G fu r_icopyType r_icopyTypes pl = none := gdT hg2 (soR hR17 (gdF hg18))
        exact none_some H e20
  · skip
    have e21 : icopyTypes_G fu r_icopyType r_icopyTypes pl = none := gdF hg2
    exact none_some H e21
mutual
noncomputable def icopyType_M : Nat → GType → Option GType
  | 0, _ => none
  | fu + 1, pt => icopyType_G fu (icopyType_M fu) (icopyTypes_M fu) pt
noncomputable def icopyTypes_M : Nat → (List GType) → Option ((List GType))
  | 0, _ => none
  | fu + 1, pl => icopyTypes_G fu (icopyType_M fu) (icopyTypes_M fu) pl
end
theorem icopyType_all (fu : Nat) : (∀ (pt : GType) (r : GType), icopyType_M fu pt = some r → AFun Tryz.prog 111 [(GType.pv pt)] ((GType.pv r) : PV)) ∧ (∀ (pl : List GType) (r : (List GType)), icopyTypes_M fu pl = some r → AFun Tryz.prog 163 [.t (.row 3 (GType.trs (pl)))] (.t (.row 3 (GType.trs (r))) : PV)) := by
  induction fu with
  | zero => exact ⟨(fun pt r H => by simp only [icopyType_M] at H; cases H), (fun pl r H => by simp only [icopyTypes_M] at H; cases H)⟩
  | succ fu ih => exact ⟨(fun pt r H => by simp only [icopyType_M] at H; exact icopyType_step (icopyType_M fu) (icopyTypes_M fu) fu ih.1 ih.2 pt r H), (fun pl r H => by simp only [icopyTypes_M] at H; exact icopyTypes_step (icopyType_M fu) (icopyTypes_M fu) fu ih.1 ih.2 pl r H)⟩
theorem icopyType_ok (fu : Nat) (pt : GType) (r : GType) (H : icopyType_M fu pt = some r) : AFun Tryz.prog 111 [(GType.pv pt)] ((GType.pv r) : PV) := (icopyType_all fu).1 pt r H
end Go.Proofs.YtnakkelglbcecaaGreat

namespace Go.Proofs.YtnakkelglbcecaaGreat

end Go.Proofs.YtnakkelglbcecaaGreat

namespace Go.Proofs.YtnakkelglbcecaaGreat
open Go.RowKit Go.Proofs


end Go.Proofs.YtnakkelglbcecaaGreat

namespace Go.Proofs.YtnakkelglbcecaaGreat
open Go.RowKit Go.Proofs

theorem bytes_beq_self (a : ByteArray) : (a == a) = true := by
  obtain ⟨x⟩ := a
  show (x == x) = true
  simp
theorem bytes_beq_ne {a b : ByteArray} (h : ¬ a = b) : (a == b) = false := by
  obtain ⟨x⟩ := a
  obtain ⟨y⟩ := b
  show (x == y) = false
  simp only [beq_eq_false_iff_ne, ne_eq]
  rintro rfl
  exact h rfl

mutual
def GType.eq : GType → GType → Bool
  | .mk k n xs, .mk l m ys => k == l && (n == m && GType.eqs xs ys)
def GType.eqs : List GType → List GType → Bool
  | [], [] => true
  | a :: l, b :: r => GType.eq a b && GType.eqs l r
  | _, _ => false
end
end Go.Proofs.YtnakkelglbcecaaGreat

namespace Go.Proofs.YtnakkelglbcecaaGreat
set_option linter.unusedSimpArgs false
set_option linter.unusedVariables false
open Go.RowKit Go.Proofs

theorem atD_range {n i : Nat} (h : i < n) : atD (List.range n) i = i := by rw [atD_eq (by simpa using h)]; simp
theorem eqs_len : ∀ {l r : List GType}, GType.eqs l r = true → l.length = r.length
  | [], [], _ => rfl
  | [], _ :: _, h => by simp [GType.eqs] at h
  | _ :: _, [], h => by simp [GType.eqs] at h
  | a :: l, b :: r, h => by
    simp only [GType.eqs, Bool.and_eq_true] at h
    simp [eqs_len h.2]
theorem eqs_range : ∀ {l r : List GType}, l.length = r.length → GType.eqs l r = (List.range l.length).all fun i => GType.eq (atD l i) (atD r i)
  | [], [], _ => rfl
  | [], _ :: _, h => by simp at h
  | _ :: _, [], h => by simp at h
  | a :: l, b :: r, h => by
    rw [GType.eqs, List.length_cons, List.range_succ_eq_map, List.all_cons, List.all_map, eqs_range (l := l) (r := r) (by simpa using h)]
    rfl
theorem sl4Same_ev {xs ys : List GType} (h : ∀ i, i < xs.length → i < ys.length → Evt fun fu => sEqualType_M fu (atD xs i) (atD ys i) = some (GType.eq (atD xs i) (atD ys i))) : Evt fun fu => sl4Same_M fu xs ys = some (GType.eqs xs ys) := by
  refine Evt.succ ?_
  by_cases hl : xs.length = ys.length
  · refine (Evt.below (k := xs.length) fun i hi => h i hi (by omega)).imp fun fu hf => ?_
    simp only [sl4Same_M, sl4Same_G]
    have hd : (!decide ((((xs.length : Nat) : Int) : Int) = ((ys.length : Nat) : Int))) = false := by simp [hl]
    rw [hd]
    have hr : ∀ fu', ∀ (r1 : GType → GType → Option Bool), (∀ i, i < xs.length → r1 (atD xs i) (atD ys i) = some (GType.eq (atD xs i) (atD ys i))) → sl4Same_R1 fu' r1 (sl4Same_M fu) xs ys = some (if (List.range xs.length).all (fun i => GType.eq (atD xs i) (atD ys i)) then .inr () else .inl false) := by
      intro fu' r1 h1
      unfold sl4Same_R1
      have := loopN_every (l := List.range xs.length) (f := sl4Same_F1 fu' r1 (sl4Same_M fu) xs ys) (p := fun i => GType.eq (atD xs i) (atD ys i)) (r := false) (s := ()) fun i hi => by
        have hi' : i < xs.length := by simpa using hi
        rw [atD_range hi', sl4Same_F1]
        rw [gdT (by omega) rfl, bdS (h1 i hi') rfl]
        cases GType.eq (atD xs i) (atD ys i) <;> rfl
      rwa [List.length_range] at this
    rw [hr fu _ hf, eqs_range hl]
    cases (List.range xs.length).all fun i => GType.eq (atD xs i) (atD ys i) <;> rfl
  · refine .all fun fu => ?_
    simp only [sl4Same_M, sl4Same_G]
    have hd : (!decide ((((xs.length : Nat) : Int) : Int) = ((ys.length : Nat) : Int))) = true := by simp; omega
    rw [hd]
    cases hq : GType.eqs xs ys
    · rfl
    · exact absurd (eqs_len hq) hl
theorem sEqualType_ev : ∀ a b : GType, Evt fun fu => sEqualType_M fu a b = some (GType.eq a b) := by
  refine GType.ind fun k n xs ih => ?_
  rintro ⟨l, m, ys⟩
  refine Evt.succ ((sl4Same_ev (xs := xs) (ys := ys) fun i hi hj => ih _ (atD_mem hi) _).imp fun fu hf => ?_)
  simp only [sEqualType_M, sEqualType_G, GType.gKind_mk, GType.gName_mk, GType.gArgs_mk, hf, GType.eq]
  by_cases h1 : k = l
  · subst h1
    by_cases h2 : n = m
    · subst h2
      simp [sw, bd, bytes_beq_self]
    · simp [sw, h2, bytes_beq_ne]
  · have : (k == l) = false := by simpa using h1
    simp [sw, h1, this]
theorem sEqualType_fn (a b : GType) : AFun Tryz.prog 228 [(GType.pv a), (GType.pv b)] (.t (.leaf (.bool (GType.eq a b)))) := by
  obtain ⟨fu, h⟩ := (sEqualType_ev a b).get
  exact sEqualType_ok fu a b _ h
theorem iEqualFunc_ev {xs ys : List GType} (h : ∀ i, i < xs.length → i < ys.length → Evt fun fu => iEqualType_M fu (atD xs i) (atD ys i) = some (GType.eq (atD xs i) (atD ys i))) : Evt fun fu => gEqualFunc_Type__iEqualType_M fu xs ys = some (GType.eqs xs ys) := by
  refine Evt.succ ?_
  by_cases hl : xs.length = ys.length
  · refine (Evt.below (k := xs.length) fun i hi => h i hi (by omega)).imp fun fu hf => ?_
    simp only [gEqualFunc_Type__iEqualType_M, gEqualFunc_Type__iEqualType_G]
    have hd : (!decide ((((xs.length : Nat) : Int) : Int) = ((ys.length : Nat) : Int))) = false := by simp [hl]
    rw [hd]
    have hr : gEqualFunc_Type__iEqualType_R1 fu (iEqualType_M fu) (gEqualFunc_Type__iEqualType_M fu) xs ys = some (if (List.range xs.length).all (fun i => GType.eq (atD xs i) (atD ys i)) then .inr () else .inl false) := by
      unfold gEqualFunc_Type__iEqualType_R1
      have := loopN_every (l := List.range xs.length) (f := gEqualFunc_Type__iEqualType_F1 fu (iEqualType_M fu) (gEqualFunc_Type__iEqualType_M fu) xs ys) (p := fun i => GType.eq (atD xs i) (atD ys i)) (r := false) (s := ()) fun i hi => by
        have hi' : i < xs.length := by simpa using hi
        rw [atD_range hi', gEqualFunc_Type__iEqualType_F1]
        rw [gdT (by omega) rfl, bdS (hf i hi') rfl]
        cases GType.eq (atD xs i) (atD ys i) <;> rfl
      rwa [List.length_range] at this
    rw [hr, eqs_range hl]
    cases (List.range xs.length).all fun i => GType.eq (atD xs i) (atD ys i) <;> rfl
  · refine .all fun fu => ?_
    simp only [gEqualFunc_Type__iEqualType_M, gEqualFunc_Type__iEqualType_G]
    have hd : (!decide ((((xs.length : Nat) : Int) : Int) = ((ys.length : Nat) : Int))) = true := by simp; omega
    rw [hd]
    cases hq : GType.eqs xs ys
    · rfl
    · exact absurd (eqs_len hq) hl
theorem iEqualType_ev : ∀ a b : GType, Evt fun fu => iEqualType_M fu a b = some (GType.eq a b) := by
  refine GType.ind fun k n xs ih => ?_
  rintro ⟨l, m, ys⟩
  refine Evt.succ ((iEqualFunc_ev (xs := xs) (ys := ys) fun i hi hj => ih _ (atD_mem hi) _).imp fun fu hf => ?_)
  simp only [iEqualType_M, iEqualType_G, GType.gKind_mk, GType.gName_mk, GType.gArgs_mk, hf, GType.eq]
  by_cases h1 : k = l
  · subst h1
    by_cases h2 : n = m
    · subst h2
      simp [sw, bd, bytes_beq_self]
    · simp [sw, h2, bytes_beq_ne]
  · have : (k == l) = false := by simpa using h1
    simp [sw, h1, this]
theorem iEqualType_fn (a b : GType) : AFun Tryz.prog 215 [(GType.pv a), (GType.pv b)] (.t (.leaf (.bool (GType.eq a b)))) := by
  obtain ⟨fu, h⟩ := (iEqualType_ev a b).get
  exact iEqualType_ok fu a b _ h
theorem foldl_snoc {α : Type} : ∀ (l a : List α), l.foldl (fun s x => s ++ [x]) a = a ++ l
  | [], a => by simp
  | x :: l, a => by rw [List.foldl_cons, foldl_snoc l]; simp
theorem bulk_mem {xs : List GType} : ∀ {x : GType}, x ∈ xs → Tr.bulkL x.tr ≤ Tr.bulkAll (GType.trs xs) := by
  induction xs with
  | nil => intro x hx; simp at hx
  | cons a l ih =>
    intro x hx
    simp only [GType.trs, Tr.bulkAll]
    rcases List.mem_cons.1 hx with rfl | hx
    · omega
    · have := ih hx; omega
theorem bulk_args (k : Int) (n : ByteArray) (xs : List GType) : xs.length + Tr.bulkAll (GType.trs xs) ≤ Tr.bulkL (GType.mk k n xs).tr := by
  simp only [GType.tr, Tr.bulkL_append, Tr.bulkL, Tr.bulk, GType.trs_len]
  omega
theorem sl4Copies_ev {xs : List GType} (hb : xs.length ≤ 68719476735) (h : ∀ x ∈ xs, Evt fun fu => sl4Copy_M fu x = some x) : Evt fun fu => sl4Copies_M fu xs = some xs := by
  refine Evt.succ ((Evt.list h).imp fun fu hf => ?_)
  simp only [sl4Copies_M, sl4Copies_G, sl4Copies_R1]
  rw [loopN_fold0 (l := xs) (g := fun s x => s ++ [x]) (fun i s => s.length = i) (fun i s hi hp => ⟨?_, by simp [hp]⟩) rfl, foldl_snoc]
  · rfl
  · rw [sl4Copies_F1, bdS (hf _ (atD_mem hi)) rfl, gdT (by simp; omega) rfl]
theorem sl4Copy_ev : ∀ t : GType, Tr.bulkL t.tr ≤ 68719476735 → Evt fun fu => sl4Copy_M fu t = some t := by
  refine GType.ind fun k n xs ih hb => ?_
  have h1 := bulk_args k n xs
  refine Evt.succ ((sl4Copies_ev (xs := xs) (by omega) fun x hx => ih x hx (by have := bulk_mem hx; omega)).imp fun fu hf => ?_)
  simp only [sl4Copy_M, sl4Copy_G, GType.gKind_mk, GType.gName_mk, GType.gArgs_mk, hf, bd]
theorem sl4Copy_fn (t : GType) (hb : Tr.bulkL t.tr ≤ 68719476735) : AFun Tryz.prog 110 [(GType.pv t)] (GType.pv t) := by
  obtain ⟨fu, h⟩ := (sl4Copy_ev t hb).get
  exact sl4Copy_ok fu t _ h
/-- A slice filled in order. -/
theorem loopN_fill {α β : Type} [Inhabited α] {f : Nat → List α → Option (LR (List α) β)} {l : List α} {g : α → α} (hs : ∀ i s, i < l.length → s.length = i → f i s = some (.next (s ++ [g (atD l i)]))) : loopN f (l.length - 0) 0 [] = some (.inr (l.map g)) := by
  rw [loopN_fold0 (l := l) (g := fun s x => s ++ [g x]) (fun i s => s.length = i) (fun i s hi hp => ⟨hs i s hi hp, by simp [hp]⟩) rfl]
  have key : ∀ (l a : List α), l.foldl (fun s x => s ++ [g x]) a = a ++ l.map g := by
    intro l
    induction l with
    | nil => intro a; simp
    | cons x l ih => intro a; rw [List.foldl_cons, ih]; simp
  rw [key, List.nil_append]
theorem icopyTypes_ev {xs : List GType} (hb : xs.length ≤ 68719476735) (h : ∀ x ∈ xs, Evt fun fu => icopyType_M fu x = some x) : Evt fun fu => icopyTypes_M fu xs = some xs := by
  refine Evt.succ ((Evt.list h).imp fun fu hf => ?_)
  simp only [icopyTypes_M, icopyTypes_G]
  rw [gdT (by omega) rfl]
  have hR : icopyTypes_R1 fu (icopyType_M fu) (icopyTypes_M fu) xs = some (.inr xs) := by
    unfold icopyTypes_R1
    rw [loopN_fill (l := xs) (g := id) fun i s hi hp => ?_, List.map_id]
    rw [icopyTypes_F1, bdS (hf _ (atD_mem hi)) rfl, gdT (by omega) rfl]
    rfl
  rw [soR hR rfl, gdT rfl rfl]
theorem icopyType_ev : ∀ t : GType, Tr.bulkL t.tr ≤ 68719476735 → Evt fun fu => icopyType_M fu t = some t := by
  refine GType.ind fun k n xs ih hb => ?_
  have h1 := bulk_args k n xs
  refine Evt.succ ((icopyTypes_ev (xs := xs) (by omega) fun x hx => ih x hx (by have := bulk_mem hx; omega)).imp fun fu hf => ?_)
  simp only [icopyType_M, icopyType_G, GType.gKind_mk, GType.gName_mk, GType.gArgs_mk, hf, bd]
theorem icopyType_fn (t : GType) (hb : Tr.bulkL t.tr ≤ 68719476735) : AFun Tryz.prog 111 [(GType.pv t)] (GType.pv t) := by
  obtain ⟨fu, h⟩ := (icopyType_ev t hb).get
  exact icopyType_ok fu t _ h
end Go.Proofs.YtnakkelglbcecaaGreat
