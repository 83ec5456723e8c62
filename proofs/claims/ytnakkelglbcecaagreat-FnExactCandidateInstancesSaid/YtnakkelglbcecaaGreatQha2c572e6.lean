/- Words, rules and walks of several kinds, laid together: MaMatch, PlMatch, MaCands, Del, Cands, PmFind, PmHome, PmOrph, MaOrphs, PmOrphZ, Orphs, PlOrphs, PlCands, MkB, PlHead. No conditions but those that each theorem states. -/
import Derived.Test.YtnakkelglbcecaaGreatQh2378fee1
import Derived.Test.YtnakkelglbcecaaGreatQh29a0584e
import Derived.Test.YtnakkelglbcecaaGreatQhda914828
import Derived.WalkArith
import Derived.Test.YtnakkelglbcecaaGreatQhe9db8441
import Derived.Test.YtnakkelglbcecaaGreatQh00f6734b
set_option linter.unusedSimpArgs false
set_option linter.unusedVariables false
namespace Go.Proofs.YtnakkelglbcecaaGreat
open Go.RowKit Go.Proofs
set_option linter.unusedSimpArgs false
set_option linter.unusedVariables false

attribute [local irreducible] lt

noncomputable def sLookup_F1 (fu : Nat) (plist : List GBinding) (pv : ByteArray) : Nat → Unit → Option (LR Unit (GType × Bool)) :=
 fun i2 _ => sw (decide ((atD plist i2).gVar = pv))
 (gd (Tr.bulkL (GType.tr ((atD plist i2).gType)) ≤ 68719476735)
 (some (.ret (((atD plist i2).gType), true))))
 (some (.next ()))
noncomputable def sLookup_R1 (fu : Nat) (plist : List GBinding) (pv : ByteArray) : Option ((GType × Bool) ⊕ Unit) :=
 loopN (sLookup_F1 fu plist pv) (plist.length - 0) 0 ()
noncomputable def sLookup_M (fu : Nat)  (plist : List GBinding) (pv : ByteArray) : Option (GType × Bool) :=
 so (sLookup_R1 fu plist pv) (fun _ =>
 some ((GType.mk 0 (⟨#[]⟩) []), false))
set_option maxRecDepth 100000 in
set_option maxHeartbeats 4000000 in
theorem sLookup_ok  (fu : Nat)  (plist : List GBinding) (pv : ByteArray) (r : GType × Bool) (H : sLookup_M fu plist pv = some r) : AFun Tryz.prog 157 [.t (.row 4 (GBinding.trs (plist))), .t (.leaf (.string (pv)))] (.tup [(GType.pv r.1), .t (.leaf (.bool (r.2)))] : PV) := by
  refine ACalls.intro Tryz.func157 rfl (by first | decide | (simp; done) | (simp; decide)) ?_
  intro C hC
  refine AWP.fact (lk_lenN 0 rfl rfl (GBinding.trs_len _)) (fun hl1 => ?_)
  refine AWP.seq ?_
  refine AWP.region_lit ?_
  refine AL.cons rfl (AOp.alloc rfl rfl zr47) ?_
  refine AL.cons rfl (AOp.move (.inr rfl) rfl rfl) ?_
  refine AL.nil ?_
  refine AWP.seq ?_
  refine AWP.seq ?_
  refine AWP.region_lit ?_
  refine AL.cons rfl (AOp.move (.inr rfl) rfl rfl) ?_
  refine AL.nil ?_
  refine AWP.cut (ι := Unit) (fun _ => sLookup_R1 fu plist pv = some (.inr ())) (fun _ => ⟨[(4, .ptr 0 0), (5, .t (.leaf (.bool (false))))], ⟨[some ⟨47, [.t (.leaf (.int .i64 (0))), .t (.leaf (.string (⟨#[]⟩))), .nil]⟩], []⟩⟩) (by repeat' (first | exact qcEnds | exact ncAWP | exact ncRound | exact ncEx | apply qcThen | apply qcBlock | apply qcCut)) ?_ ?_
  · skip
    refine AWP.block ?_
    refine AWP.loopR (ι := Nat × Unit) (fun (i2, _) => sLookup_R1 fu plist pv = loopN (sLookup_F1 fu plist pv) (plist.length - i2) i2 ()) (fun (i2, _) => ⟨[(0, .t (.row 4 (GBinding.trs (plist)))), (1, .t (.leaf (.string (pv)))), (4, .ptr 0 0), (5, .t (.leaf (.bool (false)))), (6, .t (.leaf (.int .i64 (((i2 : Nat) : Int)))))], ⟨[some ⟨47, [.t (.leaf (.int .i64 (0))), .t (.leaf (.string (⟨#[]⟩))), .nil]⟩], []⟩⟩) (fun (i2, _) => plist.length - i2) (0, ()) ?_ ?_ ?_
    · exact rfl
    · skip
      exact Wk.mk (StLe.mk' ⟨⟨rfl, leA, rfl⟩, trivial⟩ rfl) (keeps_nil hC) ⟨⟨_, rfl, .refl _, rfl⟩, ⟨⟨_, rfl, .refl _, rfl⟩, ⟨⟨_, rfl, .refl _, rfl⟩, ⟨⟨_, rfl, .refl _, rfl⟩, ⟨⟨_, rfl, leA, rfl⟩, trivial⟩⟩⟩⟩⟩
    · rintro ⟨i2, ⟨⟩⟩ hJ3
      refine AWP.seq ?_
      refine AWP.seq ?_
      refine AWP.region_lit ?_
      refine AL.cons rfl (AOp.move (.inl rfl) rfl rfl) ?_
      refine AL.cons rfl (AOp.move (.inl rfl) rfl rfl) ?_
      refine AL.cons rfl (AOp.lenN rfl rfl rfl rfl el138 (GBinding.trs_len _)) ?_
      refine AL.cons rfl (AOp.lss rfl rfl rfl rfl) ?_
      refine AL.nil ?_
      refine AWP.cond rfl (fun h4 => ?_) (fun h4 => ?_)
      · skip
        have h4l : i2 < plist.length := nat_lt_of2 h4
        have h4n := nat_lt_of h4
        refine AWP.skip ?_
        refine AWP.seq ?_
        refine AWP.block ?_
        refine AWP.seq ?_
        refine AWP.region_lit ?_
        refine AL.cons rfl (AOp.move (.inl rfl) rfl rfl) ?_
        refine AL.cons rfl (AOp.move (.inl rfl) rfl rfl) ?_
        refine AL.cons rfl (AOp.index (k := i2) rfl rfl rfl rfl rfl (GBinding.trs_at h4n) el138) ?_
        refine AL.cons rfl (AOp.fieldEptr (cs := (GBinding.cs (atD plist i2))) (e := 0) rfl rfl rfl fo225_0) ?_
        refine AL.cons rfl (AOp.loadEptr1 (d := .leaf (.string ((atD plist i2).gVar))) rfl rfl rfl sh9 rfl) ?_
        refine AL.cons rfl (AOp.move (.inl rfl) rfl rfl) ?_
        refine AL.cons rfl (AOp.eqlS rfl rfl rfl rfl) ?_
        refine AL.nil ?_
        refine AWP.cond rfl (fun h5 => ?_) (fun h5 => ?_)
        · skip
          refine AWP.seq ?_
          refine AWP.region_lit ?_
          refine AL.cons rfl (AOp.move (.inl rfl) rfl rfl) ?_
          refine AL.cons rfl (AOp.move (.inl rfl) rfl rfl) ?_
          refine AL.cons rfl (AOp.index (k := i2) rfl rfl rfl rfl rfl (GBinding.trs_at h4n) el138) ?_
          refine AL.cons rfl (AOp.fieldEptr (cs := (GBinding.cs (atD plist i2))) (e := 1) rfl rfl rfl fo225_1) ?_
          refine AL.cons rfl (AOp.loadEptr (ds := [.leaf (.int .i64 (((atD plist i2).gType).gKind)), .leaf (.string (((atD plist i2).gType).gName)), .row 3 (GType.trs (((atD plist i2).gType).gArgs))]) rfl rfl rfl sh47 rfl rfl) ?_
          rcases Classical.em (Tr.bulkL (GType.tr ((atD plist i2).gType)) ≤ 68719476735) with hg6 | hg6
          · skip
            refine AL.cons rfl (AOp.callF (res := (GType.pv ((atD plist i2).gType))) (ps := [_]) rfl rfl Tryz.func110 (by kernel_rfl) rfl rfl leA rfl rfl (sl4Copy_fn ((atD plist i2).gType) hg6)) ?_
            refine AL.cons rfl (AOp.storePtr (cs := [.t (.leaf (.int .i64 (((atD plist i2).gType).gKind))), .t (.leaf (.string (((atD plist i2).gType).gName))), .t (.row 3 (GType.trs (((atD plist i2).gType).gArgs)))]) (ds := [.t (.leaf (.int .i64 (((atD plist i2).gType).gKind))), .t (.leaf (.string (((atD plist i2).gType).gName))), .t (.row 3 (GType.trs (((atD plist i2).gType).gArgs)))]) rfl rfl rfl rfl rfl rfl rfl sz47 (Nat.le_of_ble_eq_true rfl) rfl) ?_
            refine AL.cons rfl (AOp.move (.inr rfl) rfl rfl) ?_
            refine AL.nil ?_
            refine AWP.ret ?_
            have e7 : (sLookup_F1 fu plist pv) i2 () = some (.ret (((atD plist i2).gType), true)) := swT h5 (gdT hg6 (rfl))
            have e8 : sLookup_R1 fu plist pv = some (.inl (((atD plist i2).gType), true)) := loopN_ret h4l hJ3 e7
            have e9 : sLookup_M fu plist pv = some (((atD plist i2).gType), true) := soL e8
            have hz : (((atD plist i2).gType), true) = r := Option.some.inj (e9.symm.trans H)
            subst hz
            exact Ends.mk (ps := [_, _]) (by first | exact .inr rfl | exact .inl rfl) ⟨⟨_, _, _, rfl, rfl, sh47, rfl, rfl⟩, rfl, trivial⟩ rfl (StLe.mk' (st' := ⟨[], []⟩) trivial rfl) (keeps_nil hC) (q := (.tup [(GType.pv ((atD plist i2).gType)), .t (.leaf (.bool (true)))] : PV)) leA rfl ⟨rfl, rfl⟩
          · skip
            have e10 : (sLookup_F1 fu plist pv) i2 () = none := swT h5 (gdF hg6)
            have e11 : sLookup_R1 fu plist pv = none := loopN_non h4l hJ3 e10
            have e12 : sLookup_M fu plist pv = none := soN e11
            exact none_some H e12
        · skip
          refine AWP.skip ?_
          refine AWP.region_lit ?_
          refine AL.cons rfl (AOp.move (.inl rfl) rfl rfl) ?_
          refine AL.cons rfl (AOp.addI rfl rfl rfl rfl (c := ((i2 + 1 : Nat) : Int)) (by omega) (by omega)) ?_
          refine AL.cons rfl (AOp.move (.inr rfl) rfl rfl) ?_
          refine AL.nil ?_
          have e13 : (sLookup_F1 fu plist pv) i2 () = some (.next ()) := swF h5 (rfl)
          refine ⟨(i2 + 1, ()), loopN_next h4l hJ3 e13, ?_, ?_⟩
          · skip
            exact Wk.mk (StLe.mk' ⟨⟨rfl, leA, rfl⟩, trivial⟩ rfl) (keeps_nil hC) ⟨⟨_, rfl, .refl _, rfl⟩, ⟨⟨_, rfl, .refl _, rfl⟩, ⟨⟨_, rfl, .refl _, rfl⟩, ⟨⟨_, rfl, .refl _, rfl⟩, ⟨⟨_, rfl, leA, rfl⟩, trivial⟩⟩⟩⟩⟩
          · dsimp only; omega
      · skip
        have h4l : plist.length ≤ i2 := nat_ge_of2 h4
        refine AWP.exit ?_
        refine ⟨(), loopN_end h4l hJ3, ?_⟩
        exact Wk.mk (StLe.mk' ⟨⟨rfl, leA, rfl⟩, trivial⟩ rfl) (keeps_nil hC) ⟨⟨_, rfl, .refl _, rfl⟩, ⟨⟨_, rfl, .refl _, rfl⟩, trivial⟩⟩
  · rintro ⟨⟩ hR14
    refine AWP.seq ?_
    refine AWP.region_lit ?_
    refine AL.cons rfl (AOp.build rfl rfl zr47 pl47 rfl rfl) ?_
    refine AL.cons rfl (AOp.storePtr (cs := [.t (.leaf (.int .i64 (0))), .t (.leaf (.string (⟨#[]⟩))), .nil]) (ds := [.t (.leaf (.int .i64 (0))), .t (.leaf (.string (⟨#[]⟩))), .nil]) rfl rfl rfl rfl rfl rfl rfl sz47 (Nat.le_of_ble_eq_true rfl) rfl) ?_
    refine AL.cons rfl (AOp.move (.inr rfl) rfl rfl) ?_
    refine AL.nil ?_
    refine AWP.ret ?_
    have e15 : sLookup_M fu plist pv = some ((GType.mk 0 (⟨#[]⟩) []), false) := soR hR14 (rfl)
    have hz : ((GType.mk 0 (⟨#[]⟩) []), false) = r := Option.some.inj (e15.symm.trans H)
    subst hz
    exact Ends.mk (ps := [_, _]) (by first | exact .inr rfl | exact .inl rfl) ⟨⟨_, _, _, rfl, rfl, sh47, rfl, rfl⟩, rfl, trivial⟩ rfl (StLe.mk' (st' := ⟨[], []⟩) trivial rfl) (keeps_nil hC) (q := (.tup [(GType.pv (GType.mk 0 (⟨#[]⟩) [])), .t (.leaf (.bool (false)))] : PV)) leA rfl ⟨rfl, rfl⟩

noncomputable def sl7All_F1 (fu : Nat) (r_sl7All : (List GType) → (List GType) → (List GBinding) → Option ((List GBinding) × Bool × (List GBinding))) (r_sl7Match : GType → GType → (List GBinding) → Option ((List GBinding) × Bool × (List GBinding))) (pp : List GType) (pall : List GType) (plist : List GBinding) : Nat → ((List GBinding)) → Option (LR ((List GBinding)) ((List GBinding) × Bool × (List GBinding))) :=
 fun i4 v6 => gd (i4 < (pall).length)
 (bd (r_sl7Match (atD pp i4) (atD pall i4) v6) (fun (x11, x12, x13) =>
 sw (x12)
 (gd (x11 = x13)
 (some (.next x11)))
 (some (.ret (v6, false, x13)))))
noncomputable def sl7All_R1 (fu : Nat) (r_sl7All : (List GType) → (List GType) → (List GBinding) → Option ((List GBinding) × Bool × (List GBinding))) (r_sl7Match : GType → GType → (List GBinding) → Option ((List GBinding) × Bool × (List GBinding))) (pp : List GType) (pall : List GType) (plist : List GBinding) : Option (((List GBinding) × Bool × (List GBinding)) ⊕ ((List GBinding))) :=
 loopN (sl7All_F1 fu r_sl7All r_sl7Match pp pall plist) (pp.length - 0) 0 plist
noncomputable def sl7All_G (fu : Nat) (r_sl7All : (List GType) → (List GType) → (List GBinding) → Option ((List GBinding) × Bool × (List GBinding))) (r_sl7Match : GType → GType → (List GBinding) → Option ((List GBinding) × Bool × (List GBinding))) (pp : List GType) (pall : List GType) (plist : List GBinding) : Option ((List GBinding) × Bool × (List GBinding)) :=
 so (sl7All_R1 fu r_sl7All r_sl7Match pp pall plist) (fun v6 =>
 some (v6, true, v6))
set_option maxRecDepth 100000 in
set_option maxHeartbeats 4000000 in
theorem sl7All_step (r_sl7All : (List GType) → (List GType) → (List GBinding) → Option ((List GBinding) × Bool × (List GBinding))) (r_sl7Match : GType → GType → (List GBinding) → Option ((List GBinding) × Bool × (List GBinding))) (fu : Nat) (h_sl7All : ∀ (pp : List GType) (pall : List GType) (plist : List GBinding) (r : (List GBinding) × Bool × (List GBinding)), r_sl7All pp pall plist = some r → ACalls Tryz.prog 199 [.t (.row 3 (GType.trs (pp))), .t (.row 3 (GType.trs (pall))), .acc 4 (GBinding.trs (plist)) 0] ⟨[], [⟨225, 4, GBinding.trs (plist), false⟩]⟩ (fun q t => q = (.tup [(bif r.2.1 then .acc 4 (GBinding.trs (r.1)) 0 else .t (.row 4 (GBinding.trs (r.1)))), .t (.leaf (.bool (r.2.1)))] : PV) ∧ t = ⟨[], [⟨225, 4, GBinding.trs (r.2.2), false⟩]⟩)) (h_sl7Match : ∀ (pp : GType) (pt : GType) (plist : List GBinding) (r : (List GBinding) × Bool × (List GBinding)), r_sl7Match pp pt plist = some r → ACalls Tryz.prog 214 [(GType.pv pp), (GType.pv pt), .acc 4 (GBinding.trs (plist)) 0] ⟨[], [⟨225, 4, GBinding.trs (plist), false⟩]⟩ (fun q t => q = (.tup [(bif r.2.1 then .acc 4 (GBinding.trs (r.1)) 0 else .t (.row 4 (GBinding.trs (r.1)))), .t (.leaf (.bool (r.2.1)))] : PV) ∧ t = ⟨[], [⟨225, 4, GBinding.trs (r.2.2), false⟩]⟩)) (pp : List GType) (pall : List GType) (plist : List GBinding) (r : (List GBinding) × Bool × (List GBinding)) (H : sl7All_G fu r_sl7All r_sl7Match pp pall plist = some r) : ACalls Tryz.prog 199 [.t (.row 3 (GType.trs (pp))), .t (.row 3 (GType.trs (pall))), .acc 4 (GBinding.trs (plist)) 0] ⟨[], [⟨225, 4, GBinding.trs (plist), false⟩]⟩ (fun q t => q = (.tup [(bif r.2.1 then .acc 4 (GBinding.trs (r.1)) 0 else .t (.row 4 (GBinding.trs (r.1)))), .t (.leaf (.bool (r.2.1)))] : PV) ∧ t = ⟨[], [⟨225, 4, GBinding.trs (r.2.2), false⟩]⟩) := by
  refine ACalls.intro Tryz.func199 rfl (by first | decide | (simp; done) | (simp; decide)) ?_
  intro C hC
  refine AWP.fact (lk_lenN 0 rfl rfl (GType.trs_len _)) (fun hl1 => ?_)
  refine AWP.fact (lk_lenN 1 rfl rfl (GType.trs_len _)) (fun hl2 => ?_)
  refine AWP.fact (lk_lenN 2 rfl rfl (GBinding.trs_len _)) (fun hl3 => ?_)
  refine AWP.seq ?_
  refine AWP.region_lit ?_
  refine AL.cons rfl (AOp.move (.inr rfl) rfl rfl) ?_
  refine AL.cons rfl (AOp.move (.inr rfl) rfl rfl) ?_
  refine AL.nil ?_
  refine AWP.seq ?_
  refine AWP.seq ?_
  refine AWP.region_lit ?_
  refine AL.cons rfl (AOp.move (.inr rfl) rfl rfl) ?_
  refine AL.nil ?_
  refine AWP.cut (ι := (List GBinding)) (fun v6 => sl7All_R1 fu r_sl7All r_sl7Match pp pall plist = some (.inr v6)) (fun v6 => ⟨[(2, .acc 4 (GBinding.trs (v6)) 0), (6, .nil), (7, .t (.leaf (.bool (false))))], ⟨[], [⟨225, 4, GBinding.trs (v6), false⟩]⟩⟩) (by repeat' (first | exact qcEnds | exact ncAWP | exact ncRound | exact ncEx | apply qcThen | apply qcBlock | apply qcCut)) ?_ ?_
  · skip
    refine AWP.block ?_
    refine AWP.loopR (ι := Nat × ((List GBinding))) (fun (i4, v6) => sl7All_R1 fu r_sl7All r_sl7Match pp pall plist = loopN (sl7All_F1 fu r_sl7All r_sl7Match pp pall plist) (pp.length - i4) i4 v6) (fun (i4, v6) => ⟨[(0, .t (.row 3 (GType.trs (pp)))), (1, .t (.row 3 (GType.trs (pall)))), (2, .acc 4 (GBinding.trs (v6)) 0), (6, .nil), (7, .t (.leaf (.bool (false)))), (8, .t (.leaf (.int .i64 (((i4 : Nat) : Int)))))], ⟨[], [⟨225, 4, GBinding.trs (v6), false⟩]⟩⟩) (fun (i4, v6) => pp.length - i4) (0, plist) ?_ ?_ ?_
    · exact rfl
    · skip
      exact Wk.mk (StLe.mk' trivial (by first | rfl | simp)) (keeps_all hC (boxes0) (Nat.le_of_ble_eq_true rfl)) ⟨⟨_, rfl, .refl _, rfl⟩, ⟨⟨_, rfl, .refl _, rfl⟩, ⟨⟨_, rfl, leA, rfl⟩, ⟨⟨_, rfl, .refl _, rfl⟩, ⟨⟨_, rfl, .refl _, rfl⟩, ⟨⟨_, rfl, leA, rfl⟩, trivial⟩⟩⟩⟩⟩⟩
    · rintro ⟨i4, v6⟩ hJ7
      refine AWP.seq ?_
      refine AWP.seq ?_
      refine AWP.region_lit ?_
      refine AL.cons rfl (AOp.move (.inl rfl) rfl rfl) ?_
      refine AL.cons rfl (AOp.move (.inl rfl) rfl rfl) ?_
      refine AL.cons rfl (AOp.lenN rfl rfl rfl rfl el45 (GType.trs_len _)) ?_
      refine AL.cons rfl (AOp.lss rfl rfl rfl rfl) ?_
      refine AL.nil ?_
      refine AWP.cond rfl (fun h8 => ?_) (fun h8 => ?_)
      · skip
        have h8l : i4 < pp.length := nat_lt_of2 h8
        have h8n := nat_lt_of h8
        refine AWP.skip ?_
        refine AWP.seq ?_
        refine AWP.block ?_
        refine AWP.seq ?_
        rcases Classical.em (i4 < (pall).length) with hg9 | hg9
        · skip
          rcases hq10 : r_sl7Match (atD pp i4) (atD pall i4) v6 with _ | ⟨x11, x12, x13⟩
          · skip
            have e14 : (sl7All_F1 fu r_sl7All r_sl7Match pp pall plist) i4 v6 = none := gdT hg9 (bdN hq10)
            have e15 : sl7All_R1 fu r_sl7All r_sl7Match pp pall plist = none := loopN_non h8l hJ7 e14
            have e16 : sl7All_G fu r_sl7All r_sl7Match pp pall plist = none := soN e15
            exact none_some H e16
          · skip
            cases x12
            · skip
              refine AWP.drawnL ⟨_, _, fun j' _ => ([(⟨[], [⟨225, 4, GBinding.trs (v6), false⟩]⟩ : Sto), (⟨[], [⟨225, 4, GBinding.trs (x13), false⟩]⟩ : Sto)] : List Sto).getD j' (⟨[], [⟨225, 4, GBinding.trs (x13), false⟩]⟩ : Sto), fun q' => ([some (.t (.row 3 (GType.trs (pp)))), some (.t (.leaf (.int .i64 (((i4 : Nat) : Int))))), some (.eptr (GType.cs (atD pp i4))), some ((GType.pv (atD pp i4))), some (.t (.row 3 (GType.trs (pall)))), some (.t (.leaf (.int .i64 (((i4 : Nat) : Int))))), some (.eptr (GType.cs (atD pall i4))), some ((GType.pv (atD pall i4))), some (.acc 4 (GBinding.trs (v6)) 0), some (.tup [.t (.row 4 (GBinding.trs (x11))), .t (.leaf (.bool (false)))]), some (.tup [.t (.row 4 (GBinding.trs (x11))), .t (.leaf (.bool (false)))]), some (.t (.row 4 (GBinding.trs (x11)))), some (.t (.leaf (.bool (false)))), some (.t (.row 4 (GBinding.trs (x11)))), some (.t (.leaf (.bool (false))))] : List (Option PV)).getD q' none, fun q' => ([.q 0 0, .q 0 0, .q 0 0, .q 0 0, .q 0 0, .q 0 0, .q 0 0, .q 0 0, .q 0 0, .ef 0, .q 1 1, .q 1 1, .q 1 1, .q 1 1, .q 1 1] : List DK).getD q' (.q 0 0), [9], none, fun q' => ([[(0, none)], [(8, none)], [(18, some 0), (19, some 1)], [(20, some 2)], [(1, none)], [(8, none)], [(22, some 4), (23, some 5)], [(24, some 6)], [(2, none)], [(26, some 8), (25, some 7), (21, some 3)], [(27, some 9)], [(17, some 10)], [(17, some 10)], [(28, some 11)], [(29, some 12)]] : List (List (Nat × Option Nat))).getD q' []⟩ rfl mixed (by kernel_rfl) rfl rfl ⟨?_, ?_, ?_, ?_, ?_, ?_, ?_, ?_, ?_, ?_, ?_, ?_, ?_, ?_, ?_, trivial⟩ rfl ?_
              · refine .inl ⟨rfl, fun s' jj bb (h1 : 0 ≤ jj) (h2 : jj ≤ 0) hs hl => ?_⟩
                obtain rfl : jj = 0 := by omega
                exact ⟨_, rfl, AOp.move (.inl rfl) rfl (hl 0 none _ (.head _) rfl)⟩
              · refine .inl ⟨rfl, fun s' jj bb (h1 : 0 ≤ jj) (h2 : jj ≤ 0) hs hl => ?_⟩
                obtain rfl : jj = 0 := by omega
                exact ⟨_, rfl, AOp.move (.inl rfl) rfl (hl 8 none _ (.head _) rfl)⟩
              · refine .inl ⟨rfl, fun s' jj bb (h1 : 0 ≤ jj) (h2 : jj ≤ 0) hs hl => ?_⟩
                obtain rfl : jj = 0 := by omega
                exact ⟨_, rfl, AOp.index (k := i4) rfl rfl (hl 18 (some 0) _ (.head _) rfl) rfl (hl 19 (some 1) _ (.tail _ (.head _)) rfl) (GType.trs_at h8n) el45⟩
              · refine .inl ⟨rfl, fun s' jj bb (h1 : 0 ≤ jj) (h2 : jj ≤ 0) hs hl => ?_⟩
                obtain rfl : jj = 0 := by omega
                exact ⟨_, rfl, AOp.loadEptr (ds := [.leaf (.int .i64 ((atD pp i4).gKind)), .leaf (.string ((atD pp i4).gName)), .row 3 (GType.trs ((atD pp i4).gArgs))]) rfl rfl (hl 20 (some 2) _ (.head _) rfl) sh47 rfl rfl⟩
              · refine .inl ⟨rfl, fun s' jj bb (h1 : 0 ≤ jj) (h2 : jj ≤ 0) hs hl => ?_⟩
                obtain rfl : jj = 0 := by omega
                exact ⟨_, rfl, AOp.move (.inl rfl) rfl (hl 1 none _ (.head _) rfl)⟩
              · refine .inl ⟨rfl, fun s' jj bb (h1 : 0 ≤ jj) (h2 : jj ≤ 0) hs hl => ?_⟩
                obtain rfl : jj = 0 := by omega
                exact ⟨_, rfl, AOp.move (.inl rfl) rfl (hl 8 none _ (.head _) rfl)⟩
              · refine .inl ⟨rfl, fun s' jj bb (h1 : 0 ≤ jj) (h2 : jj ≤ 0) hs hl => ?_⟩
                obtain rfl : jj = 0 := by omega
                exact ⟨_, rfl, AOp.index (k := i4) rfl rfl (hl 22 (some 4) _ (.head _) rfl) rfl (hl 23 (some 5) _ (.tail _ (.head _)) rfl) (GType.trs_at hg9) el45⟩
              · refine .inl ⟨rfl, fun s' jj bb (h1 : 0 ≤ jj) (h2 : jj ≤ 0) hs hl => ?_⟩
                obtain rfl : jj = 0 := by omega
                exact ⟨_, rfl, AOp.loadEptr (ds := [.leaf (.int .i64 ((atD pall i4).gKind)), .leaf (.string ((atD pall i4).gName)), .row 3 (GType.trs ((atD pall i4).gArgs))]) rfl rfl (hl 24 (some 6) _ (.head _) rfl) sh47 rfl rfl⟩
              · refine .inl ⟨rfl, fun s' jj bb (h1 : 0 ≤ jj) (h2 : jj ≤ 0) hs hl => ?_⟩
                obtain rfl : jj = 0 := by omega
                exact ⟨_, rfl, AOp.move (.inl rfl) rfl (hl 2 none _ (.head _) rfl)⟩
              · refine .inl ⟨rfl, fun s' bb hs hl => ?_⟩
                refine .inl ⟨_, rfl, AOp.congr (AOp.callPE (pre := ⟨[], [⟨225, 4, GBinding.trs (v6), false⟩]⟩) (st' := ⟨[], [⟨225, 4, GBinding.trs (x13), false⟩]⟩) (ps := [_, _, _]) (qs := [(GType.pv (atD pp i4)), (GType.pv (atD pall i4)), .acc 4 (GBinding.trs (v6)) 0]) [] [0] rfl rfl Tryz.func214 (by kernel_rfl) rfl (evs_cons (hl 21 (some 3) _ (.tail _ (.tail _ (.head _))) rfl) (evs_cons (hl 25 (some 7) _ (.tail _ (.head _)) rfl) (evs_cons (hl 26 (some 8) _ (.head _) rfl) rfl))) hs (by (try rw [hs]); exact Part0.of trivial ⟨rfl, trivial⟩ (by decide) (by decide)) leA rfl rfl rfl (h_sl7Match (atD pp i4) (atD pall i4) v6 _ hq10)) ?_⟩
                first | (rw [hs]; rfl) | rfl
              · refine .inl ⟨rfl, fun s' jj bb (h1 : 1 ≤ jj) (h2 : jj ≤ 1) hs hl => ?_⟩
                obtain rfl : jj = 1 := by omega
                exact ⟨_, rfl, AOp.move (.inl rfl) rfl (hl 27 (some 9) _ (.head _) rfl)⟩
              · refine .inl ⟨rfl, fun s' jj bb (h1 : 1 ≤ jj) (h2 : jj ≤ 1) hs hl => ?_⟩
                obtain rfl : jj = 1 := by omega
                exact ⟨_, rfl, AOp.extract rfl rfl (hl 17 (some 10) _ (.head _) rfl) rfl⟩
              · refine .inl ⟨rfl, fun s' jj bb (h1 : 1 ≤ jj) (h2 : jj ≤ 1) hs hl => ?_⟩
                obtain rfl : jj = 1 := by omega
                exact ⟨_, rfl, AOp.extract rfl rfl (hl 17 (some 10) _ (.head _) rfl) rfl⟩
              · refine .inl ⟨rfl, fun s' jj bb (h1 : 1 ≤ jj) (h2 : jj ≤ 1) hs hl => ?_⟩
                obtain rfl : jj = 1 := by omega
                exact ⟨_, rfl, AOp.move (.inr rfl) rfl (hl 28 (some 11) _ (.head _) rfl)⟩
              · refine .inl ⟨rfl, fun s' jj bb (h1 : 1 ≤ jj) (h2 : jj ≤ 1) hs hl => ?_⟩
                obtain rfl : jj = 1 := by omega
                exact ⟨_, rfl, AOp.move (.inr rfl) rfl (hl 29 (some 12) _ (.head _) rfl)⟩
              refine AWP.seq ?_
              refine AWP.seq ?_
              refine AWP.region_lit ?_
              refine AL.cons rfl (AOp.move (.inl rfl) rfl rfl) ?_
              refine AL.cons rfl (AOp.notB rfl rfl rfl) ?_
              refine AL.nil ?_
              refine AWP.cond rfl (fun h17 => ?_) (fun h17 => ?_)
              · skip
                refine AWP.seq ?_
                refine AWP.region_lit ?_
                refine AL.cons rfl (AOp.move (.inl rfl) rfl rfl) ?_
                refine AL.cons rfl (AOp.move (.inr rfl) rfl rfl) ?_
                refine AL.cons rfl (AOp.move (.inr rfl) rfl rfl) ?_
                refine AL.nil ?_
                refine AWP.ret ?_
                have e18 : (sl7All_F1 fu r_sl7All r_sl7Match pp pall plist) i4 v6 = some (.ret (v6, false, x13)) := gdT hg9 (bdS hq10 (swF rfl (rfl)))
                have e19 : sl7All_R1 fu r_sl7All r_sl7Match pp pall plist = some (.inl (v6, false, x13)) := loopN_ret h8l hJ7 e18
                have e20 : sl7All_G fu r_sl7All r_sl7Match pp pall plist = some (v6, false, x13) := soL e19
                have hz : (v6, false, x13) = r := Option.some.inj (e20.symm.trans H)
                subst hz
                exact Ends.mk (ps := [_, _]) (by first | exact .inr rfl | exact .inl rfl) ⟨rfl, rfl, trivial⟩ rfl (StLe.mk' (st' := ⟨[], [⟨225, 4, GBinding.trs (x13), false⟩]⟩) trivial (by first | rfl | simp)) (keeps_all hC (boxes0) (Nat.le_of_ble_eq_true rfl)) (q := (.tup [(bif false then .acc 4 (GBinding.trs (v6)) 0 else .t (.row 4 (GBinding.trs (v6)))), .t (.leaf (.bool (false)))] : PV)) leA rfl ⟨rfl, rfl⟩
              · skip
                exact absurd (h17.symm.trans (congrArg (fun b => !b) (rfl : false = false))) (by decide)
            · skip
              rcases Classical.em (x11 = x13) with hg21 | hg21
              · skip
                have hg21c := hg21
                subst hg21
                refine AWP.drawnL ⟨_, _, fun j' _ => ([(⟨[], [⟨225, 4, GBinding.trs (v6), false⟩]⟩ : Sto), (⟨[], [⟨225, 4, GBinding.trs (x11), false⟩]⟩ : Sto)] : List Sto).getD j' (⟨[], [⟨225, 4, GBinding.trs (x11), false⟩]⟩ : Sto), fun q' => ([some (.t (.row 3 (GType.trs (pp)))), some (.t (.leaf (.int .i64 (((i4 : Nat) : Int))))), some (.eptr (GType.cs (atD pp i4))), some ((GType.pv (atD pp i4))), some (.t (.row 3 (GType.trs (pall)))), some (.t (.leaf (.int .i64 (((i4 : Nat) : Int))))), some (.eptr (GType.cs (atD pall i4))), some ((GType.pv (atD pall i4))), some (.acc 4 (GBinding.trs (v6)) 0), some (.tup [.acc 4 (GBinding.trs (x11)) 0, .t (.leaf (.bool (true)))]), some (.tup [.acc 4 (GBinding.trs (x11)) 0, .t (.leaf (.bool (true)))]), some (.acc 4 (GBinding.trs (x11)) 0), some (.t (.leaf (.bool (true)))), some (.acc 4 (GBinding.trs (x11)) 0), some (.t (.leaf (.bool (true))))] : List (Option PV)).getD q' none, fun q' => ([.q 0 0, .q 0 0, .q 0 0, .q 0 0, .q 0 0, .q 0 0, .q 0 0, .q 0 0, .q 0 0, .ef 0, .q 1 1, .q 1 1, .q 1 1, .q 1 1, .q 1 1] : List DK).getD q' (.q 0 0), [9], none, fun q' => ([[(0, none)], [(8, none)], [(18, some 0), (19, some 1)], [(20, some 2)], [(1, none)], [(8, none)], [(22, some 4), (23, some 5)], [(24, some 6)], [(2, none)], [(26, some 8), (25, some 7), (21, some 3)], [(27, some 9)], [(17, some 10)], [(17, some 10)], [(28, some 11)], [(29, some 12)]] : List (List (Nat × Option Nat))).getD q' []⟩ rfl mixed (by kernel_rfl) rfl rfl ⟨?_, ?_, ?_, ?_, ?_, ?_, ?_, ?_, ?_, ?_, ?_, ?_, ?_, ?_, ?_, trivial⟩ rfl ?_
                · refine .inl ⟨rfl, fun s' jj bb (h1 : 0 ≤ jj) (h2 : jj ≤ 0) hs hl => ?_⟩
                  obtain rfl : jj = 0 := by omega
                  exact ⟨_, rfl, AOp.move (.inl rfl) rfl (hl 0 none _ (.head _) rfl)⟩
                · refine .inl ⟨rfl, fun s' jj bb (h1 : 0 ≤ jj) (h2 : jj ≤ 0) hs hl => ?_⟩
                  obtain rfl : jj = 0 := by omega
                  exact ⟨_, rfl, AOp.move (.inl rfl) rfl (hl 8 none _ (.head _) rfl)⟩
                · refine .inl ⟨rfl, fun s' jj bb (h1 : 0 ≤ jj) (h2 : jj ≤ 0) hs hl => ?_⟩
                  obtain rfl : jj = 0 := by omega
                  exact ⟨_, rfl, AOp.index (k := i4) rfl rfl (hl 18 (some 0) _ (.head _) rfl) rfl (hl 19 (some 1) _ (.tail _ (.head _)) rfl) (GType.trs_at h8n) el45⟩
                · refine .inl ⟨rfl, fun s' jj bb (h1 : 0 ≤ jj) (h2 : jj ≤ 0) hs hl => ?_⟩
                  obtain rfl : jj = 0 := by omega
                  exact ⟨_, rfl, AOp.loadEptr (ds := [.leaf (.int .i64 ((atD pp i4).gKind)), .leaf (.string ((atD pp i4).gName)), .row 3 (GType.trs ((atD pp i4).gArgs))]) rfl rfl (hl 20 (some 2) _ (.head _) rfl) sh47 rfl rfl⟩
                · refine .inl ⟨rfl, fun s' jj bb (h1 : 0 ≤ jj) (h2 : jj ≤ 0) hs hl => ?_⟩
                  obtain rfl : jj = 0 := by omega
                  exact ⟨_, rfl, AOp.move (.inl rfl) rfl (hl 1 none _ (.head _) rfl)⟩
                · refine .inl ⟨rfl, fun s' jj bb (h1 : 0 ≤ jj) (h2 : jj ≤ 0) hs hl => ?_⟩
                  obtain rfl : jj = 0 := by omega
                  exact ⟨_, rfl, AOp.move (.inl rfl) rfl (hl 8 none _ (.head _) rfl)⟩
                · refine .inl ⟨rfl, fun s' jj bb (h1 : 0 ≤ jj) (h2 : jj ≤ 0) hs hl => ?_⟩
                  obtain rfl : jj = 0 := by omega
                  exact ⟨_, rfl, AOp.index (k := i4) rfl rfl (hl 22 (some 4) _ (.head _) rfl) rfl (hl 23 (some 5) _ (.tail _ (.head _)) rfl) (GType.trs_at hg9) el45⟩
                · refine .inl ⟨rfl, fun s' jj bb (h1 : 0 ≤ jj) (h2 : jj ≤ 0) hs hl => ?_⟩
                  obtain rfl : jj = 0 := by omega
                  exact ⟨_, rfl, AOp.loadEptr (ds := [.leaf (.int .i64 ((atD pall i4).gKind)), .leaf (.string ((atD pall i4).gName)), .row 3 (GType.trs ((atD pall i4).gArgs))]) rfl rfl (hl 24 (some 6) _ (.head _) rfl) sh47 rfl rfl⟩
                · refine .inl ⟨rfl, fun s' jj bb (h1 : 0 ≤ jj) (h2 : jj ≤ 0) hs hl => ?_⟩
                  obtain rfl : jj = 0 := by omega
                  exact ⟨_, rfl, AOp.move (.inl rfl) rfl (hl 2 none _ (.head _) rfl)⟩
                · refine .inl ⟨rfl, fun s' bb hs hl => ?_⟩
                  refine .inl ⟨_, rfl, AOp.congr (AOp.callPE (pre := ⟨[], [⟨225, 4, GBinding.trs (v6), false⟩]⟩) (st' := ⟨[], [⟨225, 4, GBinding.trs (x11), false⟩]⟩) (ps := [_, _, _]) (qs := [(GType.pv (atD pp i4)), (GType.pv (atD pall i4)), .acc 4 (GBinding.trs (v6)) 0]) [] [0] rfl rfl Tryz.func214 (by kernel_rfl) rfl (evs_cons (hl 21 (some 3) _ (.tail _ (.tail _ (.head _))) rfl) (evs_cons (hl 25 (some 7) _ (.tail _ (.head _)) rfl) (evs_cons (hl 26 (some 8) _ (.head _) rfl) rfl))) hs (by (try rw [hs]); exact Part0.of trivial ⟨rfl, trivial⟩ (by decide) (by decide)) leA rfl rfl rfl (h_sl7Match (atD pp i4) (atD pall i4) v6 _ hq10)) ?_⟩
                  first | (rw [hs]; rfl) | rfl
                · refine .inl ⟨rfl, fun s' jj bb (h1 : 1 ≤ jj) (h2 : jj ≤ 1) hs hl => ?_⟩
                  obtain rfl : jj = 1 := by omega
                  exact ⟨_, rfl, AOp.move (.inl rfl) rfl (hl 27 (some 9) _ (.head _) rfl)⟩
                · refine .inl ⟨rfl, fun s' jj bb (h1 : 1 ≤ jj) (h2 : jj ≤ 1) hs hl => ?_⟩
                  obtain rfl : jj = 1 := by omega
                  exact ⟨_, rfl, AOp.extract rfl rfl (hl 17 (some 10) _ (.head _) rfl) rfl⟩
                · refine .inl ⟨rfl, fun s' jj bb (h1 : 1 ≤ jj) (h2 : jj ≤ 1) hs hl => ?_⟩
                  obtain rfl : jj = 1 := by omega
                  exact ⟨_, rfl, AOp.extract rfl rfl (hl 17 (some 10) _ (.head _) rfl) rfl⟩
                · refine .inl ⟨rfl, fun s' jj bb (h1 : 1 ≤ jj) (h2 : jj ≤ 1) hs hl => ?_⟩
                  obtain rfl : jj = 1 := by omega
                  exact ⟨_, rfl, AOp.move (.inr rfl) rfl (hl 28 (some 11) _ (.head _) rfl)⟩
                · refine .inl ⟨rfl, fun s' jj bb (h1 : 1 ≤ jj) (h2 : jj ≤ 1) hs hl => ?_⟩
                  obtain rfl : jj = 1 := by omega
                  exact ⟨_, rfl, AOp.move (.inr rfl) rfl (hl 29 (some 12) _ (.head _) rfl)⟩
                refine AWP.seq ?_
                refine AWP.seq ?_
                refine AWP.region_lit ?_
                refine AL.cons rfl (AOp.move (.inl rfl) rfl rfl) ?_
                refine AL.cons rfl (AOp.notB rfl rfl rfl) ?_
                refine AL.nil ?_
                refine AWP.cond rfl (fun h22 => ?_) (fun h22 => ?_)
                · skip
                  exact absurd (h22.symm.trans (congrArg (fun b => !b) (rfl : true = true))) (by decide)
                · skip
                  refine AWP.skip ?_
                  refine AWP.region_lit ?_
                  refine AL.cons rfl (AOp.move (.inl rfl) rfl rfl) ?_
                  refine AL.cons rfl (AOp.move (.inr rfl) rfl rfl) ?_
                  refine AL.nil ?_
                  refine AWP.region_lit ?_
                  refine AL.cons rfl (AOp.move (.inl rfl) rfl rfl) ?_
                  refine AL.cons rfl (AOp.addI rfl rfl rfl rfl (c := ((i4 + 1 : Nat) : Int)) (by omega) (by omega)) ?_
                  refine AL.cons rfl (AOp.move (.inr rfl) rfl rfl) ?_
                  refine AL.nil ?_
                  have e23 : (sl7All_F1 fu r_sl7All r_sl7Match pp pall plist) i4 v6 = some (.next x11) := gdT hg9 (bdS hq10 (swT rfl (gdT hg21c (rfl))))
                  refine ⟨(i4 + 1, x11), loopN_next h8l hJ7 e23, ?_, ?_⟩
                  · skip
                    exact Wk.mk (StLe.mk' trivial (by first | rfl | simp)) (keeps_all hC (boxes0) (Nat.le_of_ble_eq_true rfl)) ⟨⟨_, rfl, .refl _, rfl⟩, ⟨⟨_, rfl, .refl _, rfl⟩, ⟨⟨_, rfl, leA, rfl⟩, ⟨⟨_, rfl, .refl _, rfl⟩, ⟨⟨_, rfl, .refl _, rfl⟩, ⟨⟨_, rfl, leA, rfl⟩, trivial⟩⟩⟩⟩⟩⟩
                  · dsimp only; omega
              · skip
                have e24 : (sl7All_F1 fu r_sl7All r_sl7Match pp pall plist) i4 v6 = none := gdT hg9 (bdS hq10 (swT rfl (gdF hg21)))
                have e25 : sl7All_R1 fu r_sl7All r_sl7Match pp pall plist = none := loopN_non h8l hJ7 e24
                have e26 : sl7All_G fu r_sl7All r_sl7Match pp pall plist = none := soN e25
                exact none_some H e26
        · skip
          have e27 : (sl7All_F1 fu r_sl7All r_sl7Match pp pall plist) i4 v6 = none := gdF hg9
          have e28 : sl7All_R1 fu r_sl7All r_sl7Match pp pall plist = none := loopN_non h8l hJ7 e27
          have e29 : sl7All_G fu r_sl7All r_sl7Match pp pall plist = none := soN e28
          exact none_some H e29
      · skip
        have h8l : pp.length ≤ i4 := nat_ge_of2 h8
        refine AWP.exit ?_
        refine ⟨v6, loopN_end h8l hJ7, ?_⟩
        exact Wk.mk (StLe.mk' trivial (by first | rfl | simp)) (keeps_all hC (boxes0) (Nat.le_of_ble_eq_true rfl)) ⟨⟨_, rfl, .refl _, rfl⟩, ⟨⟨_, rfl, .refl _, rfl⟩, ⟨⟨_, rfl, .refl _, rfl⟩, trivial⟩⟩⟩
  · rintro v6 hR30
    refine AWP.seq ?_
    refine AWP.region_lit ?_
    refine AL.cons rfl (AOp.move (.inl rfl) rfl rfl) ?_
    refine AL.cons rfl (AOp.move (.inr rfl) rfl rfl) ?_
    refine AL.cons rfl (AOp.move (.inr rfl) rfl rfl) ?_
    refine AL.nil ?_
    refine AWP.ret ?_
    have e31 : sl7All_G fu r_sl7All r_sl7Match pp pall plist = some (v6, true, v6) := soR hR30 (rfl)
    have hz : (v6, true, v6) = r := Option.some.inj (e31.symm.trans H)
    subst hz
    exact Ends.mk (ps := [_, _]) (by first | exact .inr rfl | exact .inl rfl) ⟨rfl, rfl, trivial⟩ rfl (StLe.mk' (st' := ⟨[], [⟨225, 4, GBinding.trs (v6), false⟩]⟩) trivial (by first | rfl | simp)) (keeps_all hC (boxes0) (Nat.le_of_ble_eq_true rfl)) (q := (.tup [(bif true then .acc 4 (GBinding.trs (v6)) 0 else .t (.row 4 (GBinding.trs (v6)))), .t (.leaf (.bool (true)))] : PV)) leA rfl ⟨rfl, rfl⟩
noncomputable def sl7Match_G (fu : Nat) (r_sl7All : (List GType) → (List GType) → (List GBinding) → Option ((List GBinding) × Bool × (List GBinding))) (r_sl7Match : GType → GType → (List GBinding) → Option ((List GBinding) × Bool × (List GBinding))) (pp : GType) (pt : GType) (plist : List GBinding) : Option ((List GBinding) × Bool × (List GBinding)) :=
 sw (decide ((pp.gKind : Int) = 1))
 (bd (sLookup_M fu plist pp.gName) (fun (x4, x5) =>
 sw (x5)
 (sw (GType.eq x4 pt)
 (some (plist, (GType.eq x4 pt), plist))
 (some (plist, (GType.eq x4 pt), plist)))
 (gd (Tr.bulkL (GType.tr pt) ≤ 68719476735)
 (gd ((plist).length + (([(GBinding.mk pp.gName pt)] : List GBinding)).length ≤ 68719476736)
 (some ((plist ++ ([(GBinding.mk pp.gName pt)] : List GBinding)), true, (plist ++ ([(GBinding.mk pp.gName pt)] : List GBinding))))))))
 (sw (!decide ((pp.gKind : Int) = pt.gKind))
 (some (plist, false, plist))
 (sw (!decide (pp.gName = pt.gName))
 (some (plist, false, plist))
 (sw (!decide ((((pp.gArgs.length : Nat) : Int) : Int) = ((pt.gArgs.length : Nat) : Int)))
 (some (plist, false, plist))
 (bd (r_sl7All pp.gArgs pt.gArgs plist) (fun (x27, x28, x29) =>
 sw (x28)
 (gd (x27 = x29)
 (some (x27, true, x27)))
 (some (x27, false, x29)))))))
set_option maxRecDepth 100000 in
set_option maxHeartbeats 4000000 in
theorem sl7Match_step (r_sl7All : (List GType) → (List GType) → (List GBinding) → Option ((List GBinding) × Bool × (List GBinding))) (r_sl7Match : GType → GType → (List GBinding) → Option ((List GBinding) × Bool × (List GBinding))) (fu : Nat) (h_sl7All : ∀ (pp : List GType) (pall : List GType) (plist : List GBinding) (r : (List GBinding) × Bool × (List GBinding)), r_sl7All pp pall plist = some r → ACalls Tryz.prog 199 [.t (.row 3 (GType.trs (pp))), .t (.row 3 (GType.trs (pall))), .acc 4 (GBinding.trs (plist)) 0] ⟨[], [⟨225, 4, GBinding.trs (plist), false⟩]⟩ (fun q t => q = (.tup [(bif r.2.1 then .acc 4 (GBinding.trs (r.1)) 0 else .t (.row 4 (GBinding.trs (r.1)))), .t (.leaf (.bool (r.2.1)))] : PV) ∧ t = ⟨[], [⟨225, 4, GBinding.trs (r.2.2), false⟩]⟩)) (h_sl7Match : ∀ (pp : GType) (pt : GType) (plist : List GBinding) (r : (List GBinding) × Bool × (List GBinding)), r_sl7Match pp pt plist = some r → ACalls Tryz.prog 214 [(GType.pv pp), (GType.pv pt), .acc 4 (GBinding.trs (plist)) 0] ⟨[], [⟨225, 4, GBinding.trs (plist), false⟩]⟩ (fun q t => q = (.tup [(bif r.2.1 then .acc 4 (GBinding.trs (r.1)) 0 else .t (.row 4 (GBinding.trs (r.1)))), .t (.leaf (.bool (r.2.1)))] : PV) ∧ t = ⟨[], [⟨225, 4, GBinding.trs (r.2.2), false⟩]⟩)) (pp : GType) (pt : GType) (plist : List GBinding) (r : (List GBinding) × Bool × (List GBinding)) (H : sl7Match_G fu r_sl7All r_sl7Match pp pt plist = some r) : ACalls Tryz.prog 214 [(GType.pv pp), (GType.pv pt), .acc 4 (GBinding.trs (plist)) 0] ⟨[], [⟨225, 4, GBinding.trs (plist), false⟩]⟩ (fun q t => q = (.tup [(bif r.2.1 then .acc 4 (GBinding.trs (r.1)) 0 else .t (.row 4 (GBinding.trs (r.1)))), .t (.leaf (.bool (r.2.1)))] : PV) ∧ t = ⟨[], [⟨225, 4, GBinding.trs (r.2.2), false⟩]⟩) := by
  refine ACalls.intro Tryz.func214 rfl (by first | decide | (simp; done) | (simp; decide)) ?_
  intro C hC
  refine AWP.fact (lk_lenN 2 rfl rfl (GBinding.trs_len _)) (fun hl1 => ?_)
  refine AWP.seq ?_
  refine AWP.region_lit ?_
  refine AL.cons rfl (AOp.box (cs := [.t (.leaf (.int .i64 (pp.gKind))), .t (.leaf (.string (pp.gName))), .t (.row 3 (GType.trs (pp.gArgs)))]) rfl rfl rfl rfl rfl) ?_
  refine AL.cons rfl (AOp.box (cs := [.t (.leaf (.int .i64 (pt.gKind))), .t (.leaf (.string (pt.gName))), .t (.row 3 (GType.trs (pt.gArgs)))]) rfl rfl rfl rfl rfl) ?_
  refine AL.cons rfl (AOp.move (.inr rfl) rfl rfl) ?_
  refine AL.cons rfl (AOp.move (.inr rfl) rfl rfl) ?_
  refine AL.nil ?_
  refine AWP.seq ?_
  refine AWP.seq ?_
  refine AWP.region_lit ?_
  refine AL.cons rfl (AOp.fieldPtr (k := 0) (d := 0) (e := 0) rfl rfl rfl fo47_0) ?_
  refine AL.cons rfl (AOp.loadPtr1 rfl rfl rfl rfl sh3 rfl) ?_
  refine AL.cons rfl (AOp.eqlI rfl rfl rfl rfl) ?_
  refine AL.nil ?_
  refine AWP.cond rfl (fun h2 => ?_) (fun h2 => ?_)
  · skip
    refine AWP.seq ?_
    refine AWP.region_lit ?_
    refine AL.cons rfl (AOp.move (.inl rfl) rfl rfl) ?_
    refine AL.cons rfl (AOp.fieldPtr (k := 0) (d := 0) (e := 1) rfl rfl rfl fo47_1) ?_
    refine AL.cons rfl (AOp.loadPtr1 rfl rfl rfl rfl sh9 rfl) ?_
    rcases hq3 : sLookup_M fu plist pp.gName with _ | ⟨x4, x5⟩
    · skip
      have e6 : sl7Match_G fu r_sl7All r_sl7Match pp pt plist = none := swT h2 (bdN hq3)
      exact none_some H e6
    · skip
      refine AL.cons rfl (AOp.callF (res := .tup [(GType.pv x4), .t (.leaf (.bool (x5)))]) (ps := [_, _]) rfl rfl Tryz.func157 (by kernel_rfl) rfl rfl leA rfl rfl (sLookup_ok fu plist pp.gName _ hq3)) ?_
      refine AL.cons rfl (AOp.move (.inl rfl) rfl rfl) ?_
      refine AL.cons rfl (AOp.extract rfl rfl rfl rfl) ?_
      refine AL.cons rfl (AOp.extract rfl rfl rfl rfl) ?_
      refine AL.cons rfl (AOp.alloc rfl rfl zr47) ?_
      refine AL.cons rfl (AOp.storePtr (cs := [.t (.leaf (.int .i64 (x4.gKind))), .t (.leaf (.string (x4.gName))), .t (.row 3 (GType.trs (x4.gArgs)))]) (ds := [.t (.leaf (.int .i64 (x4.gKind))), .t (.leaf (.string (x4.gName))), .t (.row 3 (GType.trs (x4.gArgs)))]) rfl rfl rfl rfl rfl rfl rfl sz47 (Nat.le_of_ble_eq_true rfl) rfl) ?_
      refine AL.cons rfl (AOp.move (.inr rfl) rfl rfl) ?_
      refine AL.nil ?_
      refine AWP.seq ?_
      refine AWP.seq ?_
      refine AWP.region_lit ?_
      refine AL.cons rfl (AOp.move (.inl rfl) rfl rfl) ?_
      refine AL.nil ?_
      refine AWP.cond rfl (fun h7 => ?_) (fun h7 => ?_)
      · skip
        refine AWP.seq ?_
        refine AWP.region_lit ?_
        refine AL.cons rfl (AOp.move (.inl rfl) rfl rfl) ?_
        refine AL.cons rfl (AOp.loadPtr (cs := [.t (.leaf (.int .i64 (x4.gKind))), .t (.leaf (.string (x4.gName))), .t (.row 3 (GType.trs (x4.gArgs)))]) rfl rfl rfl rfl sh47 rfl rfl) ?_
        refine AL.cons rfl (AOp.loadPtr (cs := [.t (.leaf (.int .i64 (pt.gKind))), .t (.leaf (.string (pt.gName))), .t (.row 3 (GType.trs (pt.gArgs)))]) rfl rfl rfl rfl sh47 rfl rfl) ?_
        refine AL.cons rfl (AOp.callF (res := .t (.leaf (.bool (GType.eq x4 pt)))) (ps := [_, _]) rfl rfl Tryz.func228 (by kernel_rfl) rfl rfl leA rfl rfl (sEqualType_fn x4 pt)) ?_
        refine AL.cons rfl (AOp.move (.inr rfl) rfl rfl) ?_
        refine AL.cons rfl (AOp.move (.inr rfl) rfl rfl) ?_
        refine AL.nil ?_
        refine AWP.ret ?_
        rcases bool2 (GType.eq x4 pt) with g8 | g8
        · skip
          have e9 : sl7Match_G fu r_sl7All r_sl7Match pp pt plist = some (plist, (GType.eq x4 pt), plist) := swT h2 (bdS hq3 (swT h7 (swT g8 (rfl))))
          have hz : (plist, (GType.eq x4 pt), plist) = r := Option.some.inj (e9.symm.trans H)
          subst hz
          exact Ends.mk (ps := [_, _]) (by first | exact .inr rfl | exact .inl rfl) ⟨rfl, rfl, trivial⟩ rfl (StLe.mk' (st' := ⟨[], [⟨225, 4, GBinding.trs (plist), false⟩]⟩) trivial (by first | rfl | simp)) (keeps_all hC (boxes0) (Nat.le_of_ble_eq_true rfl)) (q := (.tup [(bif (GType.eq x4 pt) then .acc 4 (GBinding.trs (plist)) 0 else .t (.row 4 (GBinding.trs (plist)))), .t (.leaf (.bool ((GType.eq x4 pt))))] : PV)) (by rw [g8]; exact leA) (by rw [g8]; rfl) ⟨rfl, rfl⟩
        · skip
          have e10 : sl7Match_G fu r_sl7All r_sl7Match pp pt plist = some (plist, (GType.eq x4 pt), plist) := swT h2 (bdS hq3 (swT h7 (swF g8 (rfl))))
          have hz : (plist, (GType.eq x4 pt), plist) = r := Option.some.inj (e10.symm.trans H)
          subst hz
          exact Ends.mk (ps := [_, _]) (by first | exact .inr rfl | exact .inl rfl) ⟨rfl, rfl, trivial⟩ rfl (StLe.mk' (st' := ⟨[], [⟨225, 4, GBinding.trs (plist), false⟩]⟩) trivial (by first | rfl | simp)) (keeps_all hC (boxes0) (Nat.le_of_ble_eq_true rfl)) (q := (.tup [(bif (GType.eq x4 pt) then .acc 4 (GBinding.trs (plist)) 0 else .t (.row 4 (GBinding.trs (plist)))), .t (.leaf (.bool ((GType.eq x4 pt))))] : PV)) (by rw [g8]; exact leA) (by rw [g8]; rfl) ⟨rfl, rfl⟩
      · skip
        refine AWP.skip ?_
        refine AWP.seq ?_
        rcases Classical.em (Tr.bulkL (GType.tr pt) ≤ 68719476735) with hg11 | hg11
        · skip
          rcases Classical.em ((plist).length + (([(GBinding.mk pp.gName pt)] : List GBinding)).length ≤ 68719476736) with hg12 | hg12
          · skip
            refine AWP.drawnL ⟨_, _, fun j' _ => ([(⟨[some ⟨47, [.t (.leaf (.int .i64 (pp.gKind))), .t (.leaf (.string (pp.gName))), .t (.row 3 (GType.trs (pp.gArgs)))]⟩, some ⟨47, [.t (.leaf (.int .i64 (pt.gKind))), .t (.leaf (.string (pt.gName))), .t (.row 3 (GType.trs (pt.gArgs)))]⟩, some ⟨47, [.t (.leaf (.int .i64 (x4.gKind))), .t (.leaf (.string (x4.gName))), .t (.row 3 (GType.trs (x4.gArgs)))]⟩], [⟨225, 4, GBinding.trs (plist), false⟩]⟩ : Sto), (⟨[some ⟨47, [.t (.leaf (.int .i64 (pp.gKind))), .t (.leaf (.string (pp.gName))), .t (.row 3 (GType.trs (pp.gArgs)))]⟩, some ⟨47, [.t (.leaf (.int .i64 (pt.gKind))), .t (.leaf (.string (pt.gName))), .t (.row 3 (GType.trs (pt.gArgs)))]⟩, some ⟨47, [.t (.leaf (.int .i64 (x4.gKind))), .t (.leaf (.string (x4.gName))), .t (.row 3 (GType.trs (x4.gArgs)))]⟩], [⟨225, 4, GBinding.trs (plist ++ ([(GBinding.mk pp.gName pt)] : List GBinding)), false⟩]⟩ : Sto)] : List Sto).getD j' (⟨[some ⟨47, [.t (.leaf (.int .i64 (pp.gKind))), .t (.leaf (.string (pp.gName))), .t (.row 3 (GType.trs (pp.gArgs)))]⟩, some ⟨47, [.t (.leaf (.int .i64 (pt.gKind))), .t (.leaf (.string (pt.gName))), .t (.row 3 (GType.trs (pt.gArgs)))]⟩, some ⟨47, [.t (.leaf (.int .i64 (x4.gKind))), .t (.leaf (.string (x4.gName))), .t (.row 3 (GType.trs (x4.gArgs)))]⟩], [⟨225, 4, GBinding.trs (plist ++ ([(GBinding.mk pp.gName pt)] : List GBinding)), false⟩]⟩ : Sto), fun q' => ([some (.acc 4 (GBinding.trs (plist)) 0), some (.ptr 0 1), some (.t (.leaf (.string (pp.gName)))), some ((GType.pv pt)), some ((GType.pv pt)), some (.agg [.t (.leaf (.string (pp.gName))), .t (.leaf (.int .i64 (pt.gKind))), .t (.leaf (.string (pt.gName))), .t (.row 3 (GType.trs (pt.gArgs)))]), some (.t (.row 4 (GBinding.trs (([(GBinding.mk pp.gName pt)] : List GBinding))))), some (.acc 4 (GBinding.trs (plist ++ ([(GBinding.mk pp.gName pt)] : List GBinding))) 0), some (.acc 4 (GBinding.trs (plist ++ ([(GBinding.mk pp.gName pt)] : List GBinding))) 0), some (.t (.leaf (.bool (true))))] : List (Option PV)).getD q' none, fun q' => ([.q 0 0, .q 0 0, .q 0 0, .q 0 0, .q 0 0, .q 0 0, .q 0 0, .ef 0, .q 1 1, .q 1 1] : List DK).getD q' (.q 0 0), [7], none, fun q' => ([[(2, none)], [(3, none)], [(26, some 1)], [(4, none)], [(28, some 3)], [(29, some 4), (27, some 2)], [(30, some 5)], [(25, some 0), (31, some 6)], [(32, some 7)], []] : List (List (Nat × Option Nat))).getD q' []⟩ rfl mixed (by kernel_rfl) rfl rfl ⟨?_, ?_, ?_, ?_, ?_, ?_, ?_, ?_, ?_, ?_, trivial⟩ rfl ?_
            · refine .inl ⟨rfl, fun s' jj bb (h1 : 0 ≤ jj) (h2 : jj ≤ 0) hs hl => ?_⟩
              obtain rfl : jj = 0 := by omega
              exact ⟨_, rfl, AOp.move (.inl rfl) rfl (hl 2 none _ (.head _) rfl)⟩
            · refine .inl ⟨rfl, fun s' jj bb (h1 : 0 ≤ jj) (h2 : jj ≤ 0) hs hl => ?_⟩
              obtain rfl : jj = 0 := by omega
              exact ⟨_, rfl, AOp.fieldPtr (k := 0) (d := 0) (e := 1) rfl rfl (hl 3 none _ (.head _) rfl) fo47_1⟩
            · refine .inl ⟨rfl, fun s' jj bb (h1 : 0 ≤ jj) (h2 : jj ≤ 0) hs hl => ?_⟩
              obtain rfl : jj = 0 := by omega
              exact ⟨_, rfl, AOp.loadPtr1 rfl rfl (hl 26 (some 1) _ (.head _) rfl) (by rw [hs]; rfl) sh9 rfl⟩
            · refine .inl ⟨rfl, fun s' jj bb (h1 : 0 ≤ jj) (h2 : jj ≤ 0) hs hl => ?_⟩
              obtain rfl : jj = 0 := by omega
              exact ⟨_, rfl, AOp.loadPtr (cs := [.t (.leaf (.int .i64 (pt.gKind))), .t (.leaf (.string (pt.gName))), .t (.row 3 (GType.trs (pt.gArgs)))]) rfl rfl (hl 4 none _ (.head _) rfl) (by rw [hs]; rfl) sh47 rfl rfl⟩
            · refine .inl ⟨rfl, fun s' jj bb (h1 : 0 ≤ jj) (h2 : jj ≤ 0) hs hl => ?_⟩
              obtain rfl : jj = 0 := by omega
              exact ⟨_, rfl, AOp.callF (res := (GType.pv pt)) (ps := [_]) rfl rfl Tryz.func110 (by kernel_rfl) rfl (evs_cons (hl 28 (some 3) _ (.head _) rfl) rfl) leA rfl rfl (sl4Copy_fn pt hg11)⟩
            · refine .inl ⟨rfl, fun s' jj bb (h1 : 0 ≤ jj) (h2 : jj ≤ 0) hs hl => ?_⟩
              obtain rfl : jj = 0 := by omega
              exact ⟨_, rfl, AOp.build rfl rfl zr225 pl225 (parts_cons (hl 27 (some 2) _ (.tail _ (.head _)) rfl) rfl rfl (parts_cons (hl 29 (some 4) _ (.head _) rfl) rfl rfl rfl)) rfl⟩
            · refine .inl ⟨rfl, fun s' jj bb (h1 : 0 ≤ jj) (h2 : jj ≤ 0) hs hl => ?_⟩
              obtain rfl : jj = 0 := by omega
              exact ⟨_, rfl, AOp.buildSliceE (es := [GBinding.cs (GBinding.mk pp.gName pt)]) (es' := GBinding.trs (([(GBinding.mk pp.gName pt)] : List GBinding))) (cs := [.t (.leaf (.string (pp.gName))), .t (.leaf (.int .i64 (pt.gKind))), .t (.leaf (.string (pt.gName))), .t (.row 3 (GType.trs (pt.gArgs)))]) rfl rfl el138 zr225 (parts_cons (hl 30 (some 5) _ (.head _) rfl) rfl rfl rfl) rfl leA rfl (by simp [GBinding.cs]) (by decide) rfl (by decide) (by simp [GBinding.trs_map, GBinding.tr_cs])⟩
            · refine .inl ⟨rfl, fun s' bb hs hl => ?_⟩
              refine .inl ⟨_, rfl, AOp.congr (AOp.appendE (es3 := GBinding.trs (plist ++ ([(GBinding.mk pp.gName pt)] : List GBinding))) rfl rfl (hl 25 (some 0) _ (.head _) rfl) (by rw [hs]; rfl) rfl rfl rfl (hl 31 (some 6) _ (.tail _ (.head _)) rfl) rfl (fun e he => by rw [GBinding.trs_map] at he; obtain ⟨x, _, rfl⟩ := List.mem_map.1 he; rw [GBinding.tr_cs]; rfl) el138 ze138 (by decide) (by rw [GBinding.trs_len, GBinding.trs_len]; exact room_le hg12 (by decide)) (by rw [GBinding.trs_map, GBinding.trs_map, GBinding.trs_map, List.map_append])) ?_⟩
              first | (rw [hs]; rfl) | rfl
            · refine .inl ⟨rfl, fun s' jj bb (h1 : 1 ≤ jj) (h2 : jj ≤ 1) hs hl => ?_⟩
              obtain rfl : jj = 1 := by omega
              exact ⟨_, rfl, AOp.move (.inr rfl) rfl (hl 32 (some 7) _ (.head _) rfl)⟩
            · refine .inl ⟨rfl, fun s' jj bb (h1 : 1 ≤ jj) (h2 : jj ≤ 1) hs hl => ?_⟩
              obtain rfl : jj = 1 := by omega
              exact ⟨_, rfl, AOp.move (.inr rfl) rfl rfl⟩
            refine AWP.ret ?_
            have e13 : sl7Match_G fu r_sl7All r_sl7Match pp pt plist = some ((plist ++ ([(GBinding.mk pp.gName pt)] : List GBinding)), true, (plist ++ ([(GBinding.mk pp.gName pt)] : List GBinding))) := swT h2 (bdS hq3 (swF h7 (gdT hg11 (gdT hg12 (rfl)))))
            have hz : ((plist ++ ([(GBinding.mk pp.gName pt)] : List GBinding)), true, (plist ++ ([(GBinding.mk pp.gName pt)] : List GBinding))) = r := Option.some.inj (e13.symm.trans H)
            subst hz
            exact Ends.mk (ps := [_, _]) (by first | exact .inr rfl | exact .inl rfl) ⟨rfl, rfl, trivial⟩ rfl (StLe.mk' (st' := ⟨[], [⟨225, 4, GBinding.trs ((plist ++ ([(GBinding.mk pp.gName pt)] : List GBinding))), false⟩]⟩) trivial (by first | rfl | simp)) (keeps_all hC (boxes0) (Nat.le_of_ble_eq_true rfl)) (q := (.tup [(bif true then .acc 4 (GBinding.trs (plist ++ ([(GBinding.mk pp.gName pt)] : List GBinding))) 0 else .t (.row 4 (GBinding.trs (plist ++ ([(GBinding.mk pp.gName pt)] : List GBinding))))), .t (.leaf (.bool (true)))] : PV)) leA rfl ⟨rfl, rfl⟩
          · skip
            have e14 : sl7Match_G fu r_sl7All r_sl7Match pp pt plist = none := swT h2 (bdS hq3 (swF h7 (gdT hg11 (gdF hg12))))
            exact none_some H e14
        · skip
          have e15 : sl7Match_G fu r_sl7All r_sl7Match pp pt plist = none := swT h2 (bdS hq3 (swF h7 (gdF hg11)))
          exact none_some H e15
  · skip
    refine AWP.skip ?_
    refine AWP.seq ?_
    refine AWP.seq ?_
    refine AWP.region_lit ?_
    refine AL.cons rfl (AOp.fieldPtr (k := 0) (d := 0) (e := 0) rfl rfl rfl fo47_0) ?_
    refine AL.cons rfl (AOp.loadPtr1 rfl rfl rfl rfl sh3 rfl) ?_
    refine AL.cons rfl (AOp.fieldPtr (k := 1) (d := 0) (e := 0) rfl rfl rfl fo47_0) ?_
    refine AL.cons rfl (AOp.loadPtr1 rfl rfl rfl rfl sh3 rfl) ?_
    refine AL.cons rfl (AOp.neqI rfl rfl rfl rfl) ?_
    refine AL.cons rfl (AOp.move (.inl rfl) rfl rfl) ?_
    refine AL.splitB 38 rfl (fun g16 => ?_) (fun g16 => ?_)
    · skip
      refine AL.skipP rfl rfl rfl g16 rfl rfl ?_
      refine AL.skipP rfl rfl rfl g16 rfl rfl ?_
      refine AL.skipP rfl rfl rfl g16 rfl rfl ?_
      refine AL.skipP rfl rfl rfl g16 rfl rfl ?_
      refine AL.skipP rfl rfl rfl g16 rfl rfl ?_
      refine AL.cons rfl (AOp.pickT rfl rfl rfl g16 rfl) ?_
      refine AL.cons rfl (AOp.move (.inl rfl) rfl rfl) ?_
      refine AL.skipP rfl rfl rfl rfl rfl rfl ?_
      refine AL.skipP rfl rfl rfl rfl rfl rfl ?_
      refine AL.skipP rfl rfl rfl rfl rfl rfl ?_
      refine AL.skipP rfl rfl rfl rfl rfl rfl ?_
      refine AL.skipP rfl rfl rfl rfl rfl rfl ?_
      refine AL.skipP rfl rfl rfl rfl rfl rfl ?_
      refine AL.skipP rfl rfl rfl rfl rfl rfl ?_
      refine AL.cons rfl (AOp.pickT rfl rfl rfl rfl rfl) ?_
      refine AL.nil ?_
      refine AWP.cond rfl (fun h17 => ?_) (fun h17 => ?_)
      · skip
        refine AWP.seq ?_
        refine AWP.region_lit ?_
        refine AL.cons rfl (AOp.move (.inl rfl) rfl rfl) ?_
        refine AL.cons rfl (AOp.move (.inr rfl) rfl rfl) ?_
        refine AL.cons rfl (AOp.move (.inr rfl) rfl rfl) ?_
        refine AL.nil ?_
        refine AWP.ret ?_
        have e18 : sl7Match_G fu r_sl7All r_sl7Match pp pt plist = some (plist, false, plist) := swF h2 (swT g16 (rfl))
        have hz : (plist, false, plist) = r := Option.some.inj (e18.symm.trans H)
        subst hz
        exact Ends.mk (ps := [_, _]) (by first | exact .inr rfl | exact .inl rfl) ⟨rfl, rfl, trivial⟩ rfl (StLe.mk' (st' := ⟨[], [⟨225, 4, GBinding.trs (plist), false⟩]⟩) trivial (by first | rfl | simp)) (keeps_all hC (boxes0) (Nat.le_of_ble_eq_true rfl)) (q := (.tup [(bif false then .acc 4 (GBinding.trs (plist)) 0 else .t (.row 4 (GBinding.trs (plist)))), .t (.leaf (.bool (false)))] : PV)) leA rfl ⟨rfl, rfl⟩
      · skip
        exact absurd (h17.symm.trans rfl) (by decide)
    · skip
      refine AL.cons_gv rfl rfl rfl g16 (AOp.fieldPtr (k := 0) (d := 0) (e := 1) rfl rfl rfl fo47_1) ?_
      refine AL.cons_gv rfl rfl rfl g16 (AOp.loadPtr1 rfl rfl rfl rfl sh9 rfl) ?_
      refine AL.cons_gv rfl rfl rfl g16 (AOp.fieldPtr (k := 1) (d := 0) (e := 1) rfl rfl rfl fo47_1) ?_
      refine AL.cons_gv rfl rfl rfl g16 (AOp.loadPtr1 rfl rfl rfl rfl sh9 rfl) ?_
      refine AL.cons_gv rfl rfl rfl g16 (AOp.neqS rfl rfl rfl rfl) ?_
      refine AL.cons rfl (AOp.pickF rfl rfl rfl g16 rfl) ?_
      refine AL.cons rfl (AOp.move (.inl rfl) rfl rfl) ?_
      refine AL.splitB 45 rfl (fun g19 => ?_) (fun g19 => ?_)
      · skip
        refine AL.skipP rfl rfl rfl g19 rfl rfl ?_
        refine AL.skipP rfl rfl rfl g19 rfl rfl ?_
        refine AL.skipP rfl rfl rfl g19 rfl rfl ?_
        refine AL.skipP rfl rfl rfl g19 rfl rfl ?_
        refine AL.skipP rfl rfl rfl g19 rfl rfl ?_
        refine AL.skipP rfl rfl rfl g19 rfl rfl ?_
        refine AL.skipP rfl rfl rfl g19 rfl rfl ?_
        refine AL.cons rfl (AOp.pickT rfl rfl rfl g19 rfl) ?_
        refine AL.nil ?_
        refine AWP.cond rfl (fun h20 => ?_) (fun h20 => ?_)
        · skip
          refine AWP.seq ?_
          refine AWP.region_lit ?_
          refine AL.cons rfl (AOp.move (.inl rfl) rfl rfl) ?_
          refine AL.cons rfl (AOp.move (.inr rfl) rfl rfl) ?_
          refine AL.cons rfl (AOp.move (.inr rfl) rfl rfl) ?_
          refine AL.nil ?_
          refine AWP.ret ?_
          have e21 : sl7Match_G fu r_sl7All r_sl7Match pp pt plist = some (plist, false, plist) := swF h2 (swF g16 (swT g19 (rfl)))
          have hz : (plist, false, plist) = r := Option.some.inj (e21.symm.trans H)
          subst hz
          exact Ends.mk (ps := [_, _]) (by first | exact .inr rfl | exact .inl rfl) ⟨rfl, rfl, trivial⟩ rfl (StLe.mk' (st' := ⟨[], [⟨225, 4, GBinding.trs (plist), false⟩]⟩) trivial (by first | rfl | simp)) (keeps_all hC (boxes0) (Nat.le_of_ble_eq_true rfl)) (q := (.tup [(bif false then .acc 4 (GBinding.trs (plist)) 0 else .t (.row 4 (GBinding.trs (plist)))), .t (.leaf (.bool (false)))] : PV)) leA rfl ⟨rfl, rfl⟩
        · skip
          exact absurd (h20.symm.trans rfl) (by decide)
      · skip
        refine AL.cons_gv rfl rfl rfl g19 (AOp.fieldPtr (k := 0) (d := 0) (e := 2) rfl rfl rfl fo47_2) ?_
        refine AL.cons_gv rfl rfl rfl g19 (AOp.loadPtr1 rfl rfl rfl rfl sh45 rfl) ?_
        refine AL.fact (lk_lenN 47 rfl rfl (GType.trs_len _)) (fun hl22 => ?_)
        refine AL.cons_gv rfl rfl rfl g19 (AOp.lenN rfl rfl rfl rfl el45 (GType.trs_len _)) ?_
        refine AL.cons_gv rfl rfl rfl g19 (AOp.fieldPtr (k := 1) (d := 0) (e := 2) rfl rfl rfl fo47_2) ?_
        refine AL.cons_gv rfl rfl rfl g19 (AOp.loadPtr1 rfl rfl rfl rfl sh45 rfl) ?_
        refine AL.fact (lk_lenN 50 rfl rfl (GType.trs_len _)) (fun hl23 => ?_)
        refine AL.cons_gv rfl rfl rfl g19 (AOp.lenN rfl rfl rfl rfl el45 (GType.trs_len _)) ?_
        refine AL.cons_gv rfl rfl rfl g19 (AOp.neqI rfl rfl rfl rfl) ?_
        refine AL.cons rfl (AOp.pickF rfl rfl rfl g19 rfl) ?_
        refine AL.nil ?_
        refine AWP.cond rfl (fun h24 => ?_) (fun h24 => ?_)
        · skip
          refine AWP.seq ?_
          refine AWP.region_lit ?_
          refine AL.cons rfl (AOp.move (.inl rfl) rfl rfl) ?_
          refine AL.cons rfl (AOp.move (.inr rfl) rfl rfl) ?_
          refine AL.cons rfl (AOp.move (.inr rfl) rfl rfl) ?_
          refine AL.nil ?_
          refine AWP.ret ?_
          have e25 : sl7Match_G fu r_sl7All r_sl7Match pp pt plist = some (plist, false, plist) := swF h2 (swF g16 (swF g19 (swT h24 (rfl))))
          have hz : (plist, false, plist) = r := Option.some.inj (e25.symm.trans H)
          subst hz
          exact Ends.mk (ps := [_, _]) (by first | exact .inr rfl | exact .inl rfl) ⟨rfl, rfl, trivial⟩ rfl (StLe.mk' (st' := ⟨[], [⟨225, 4, GBinding.trs (plist), false⟩]⟩) trivial (by first | rfl | simp)) (keeps_all hC (boxes0) (Nat.le_of_ble_eq_true rfl)) (q := (.tup [(bif false then .acc 4 (GBinding.trs (plist)) 0 else .t (.row 4 (GBinding.trs (plist)))), .t (.leaf (.bool (false)))] : PV)) leA rfl ⟨rfl, rfl⟩
        · skip
          refine AWP.skip ?_
          refine AWP.seq ?_
          refine AWP.region_lit ?_
          refine AL.cons rfl (AOp.fieldPtr (k := 0) (d := 0) (e := 2) rfl rfl rfl fo47_2) ?_
          refine AL.cons rfl (AOp.loadPtr1 rfl rfl rfl rfl sh45 rfl) ?_
          refine AL.cons rfl (AOp.fieldPtr (k := 1) (d := 0) (e := 2) rfl rfl rfl fo47_2) ?_
          refine AL.cons rfl (AOp.loadPtr1 rfl rfl rfl rfl sh45 rfl) ?_
          refine AL.cons rfl (AOp.move (.inl rfl) rfl rfl) ?_
          rcases hq26 : r_sl7All pp.gArgs pt.gArgs plist with _ | ⟨x27, x28, x29⟩
          · skip
            have e30 : sl7Match_G fu r_sl7All r_sl7Match pp pt plist = none := swF h2 (swF g16 (swF g19 (swF h24 (bdN hq26))))
            exact none_some H e30
          · skip
            cases x28
            · skip
              refine AL.cons rfl (AOp.callPE (pre := ⟨[], [⟨225, 4, GBinding.trs (plist), false⟩]⟩) (st' := ⟨[], [⟨225, 4, GBinding.trs (x29), false⟩]⟩) (ps := [_, _, _]) (qs := [.t (.row 3 (GType.trs (pp.gArgs))), .t (.row 3 (GType.trs (pt.gArgs))), .acc 4 (GBinding.trs (plist)) 0]) [] [0] rfl rfl Tryz.func199 (by kernel_rfl) rfl rfl rfl (Part0.of trivial ⟨rfl, trivial⟩ (by decide) (by decide)) leA rfl rfl rfl (h_sl7All pp.gArgs pt.gArgs plist _ hq26)) ?_
              refine AL.cons rfl (AOp.extract rfl rfl rfl rfl) ?_
              refine AL.cons rfl (AOp.extract rfl rfl rfl rfl) ?_
              refine AL.cons rfl (AOp.move (.inr rfl) rfl rfl) ?_
              refine AL.cons rfl (AOp.move (.inr rfl) rfl rfl) ?_
              refine AL.nil ?_
              refine AWP.ret ?_
              have e31 : sl7Match_G fu r_sl7All r_sl7Match pp pt plist = some (x27, false, x29) := swF h2 (swF g16 (swF g19 (swF h24 (bdS hq26 (swF rfl (rfl))))))
              have hz : (x27, false, x29) = r := Option.some.inj (e31.symm.trans H)
              subst hz
              exact Ends.mk (ps := [_, _]) (by first | exact .inr rfl | exact .inl rfl) ⟨rfl, rfl, trivial⟩ rfl (StLe.mk' (st' := ⟨[], [⟨225, 4, GBinding.trs (x29), false⟩]⟩) trivial (by first | rfl | simp)) (keeps_all hC (boxes0) (Nat.le_of_ble_eq_true rfl)) (q := (.tup [(bif false then .acc 4 (GBinding.trs (x27)) 0 else .t (.row 4 (GBinding.trs (x27)))), .t (.leaf (.bool (false)))] : PV)) leA rfl ⟨rfl, rfl⟩
            · skip
              rcases Classical.em (x27 = x29) with hg32 | hg32
              · skip
                have hg32c := hg32
                subst hg32
                refine AL.cons rfl (AOp.callPE (pre := ⟨[], [⟨225, 4, GBinding.trs (plist), false⟩]⟩) (st' := ⟨[], [⟨225, 4, GBinding.trs (x27), false⟩]⟩) (ps := [_, _, _]) (qs := [.t (.row 3 (GType.trs (pp.gArgs))), .t (.row 3 (GType.trs (pt.gArgs))), .acc 4 (GBinding.trs (plist)) 0]) [] [0] rfl rfl Tryz.func199 (by kernel_rfl) rfl rfl rfl (Part0.of trivial ⟨rfl, trivial⟩ (by decide) (by decide)) leA rfl rfl rfl (h_sl7All pp.gArgs pt.gArgs plist _ hq26)) ?_
                refine AL.cons rfl (AOp.extract rfl rfl rfl rfl) ?_
                refine AL.cons rfl (AOp.extract rfl rfl rfl rfl) ?_
                refine AL.cons rfl (AOp.move (.inr rfl) rfl rfl) ?_
                refine AL.cons rfl (AOp.move (.inr rfl) rfl rfl) ?_
                refine AL.nil ?_
                refine AWP.ret ?_
                have e33 : sl7Match_G fu r_sl7All r_sl7Match pp pt plist = some (x27, true, x27) := swF h2 (swF g16 (swF g19 (swF h24 (bdS hq26 (swT rfl (gdT hg32c (rfl)))))))
                have hz : (x27, true, x27) = r := Option.some.inj (e33.symm.trans H)
                subst hz
                exact Ends.mk (ps := [_, _]) (by first | exact .inr rfl | exact .inl rfl) ⟨rfl, rfl, trivial⟩ rfl (StLe.mk' (st' := ⟨[], [⟨225, 4, GBinding.trs (x27), false⟩]⟩) trivial (by first | rfl | simp)) (keeps_all hC (boxes0) (Nat.le_of_ble_eq_true rfl)) (q := (.tup [(bif true then .acc 4 (GBinding.trs (x27)) 0 else .t (.row 4 (GBinding.trs (x27)))), .t (.leaf (.bool (true)))] : PV)) leA rfl ⟨rfl, rfl⟩
              · skip
                have e34 : sl7Match_G fu r_sl7All r_sl7Match pp pt plist = none := swF h2 (swF g16 (swF g19 (swF h24 (bdS hq26 (swT rfl (gdF hg32))))))
                exact none_some H e34
mutual
noncomputable def sl7All_M : Nat → (List GType) → (List GType) → (List GBinding) → Option ((List GBinding) × Bool × (List GBinding))
  | 0, _, _, _ => none
  | fu + 1, pp, pall, plist => sl7All_G fu (sl7All_M fu) (sl7Match_M fu) pp pall plist
noncomputable def sl7Match_M : Nat → GType → GType → (List GBinding) → Option ((List GBinding) × Bool × (List GBinding))
  | 0, _, _, _ => none
  | fu + 1, pp, pt, plist => sl7Match_G fu (sl7All_M fu) (sl7Match_M fu) pp pt plist
end
theorem sl7All_all (fu : Nat) : (∀ (pp : List GType) (pall : List GType) (plist : List GBinding) (r : (List GBinding) × Bool × (List GBinding)), sl7All_M fu pp pall plist = some r → ACalls Tryz.prog 199 [.t (.row 3 (GType.trs (pp))), .t (.row 3 (GType.trs (pall))), .acc 4 (GBinding.trs (plist)) 0] ⟨[], [⟨225, 4, GBinding.trs (plist), false⟩]⟩ (fun q t => q = (.tup [(bif r.2.1 then .acc 4 (GBinding.trs (r.1)) 0 else .t (.row 4 (GBinding.trs (r.1)))), .t (.leaf (.bool (r.2.1)))] : PV) ∧ t = ⟨[], [⟨225, 4, GBinding.trs (r.2.2), false⟩]⟩)) ∧ (∀ (pp : GType) (pt : GType) (plist : List GBinding) (r : (List GBinding) × Bool × (List GBinding)), sl7Match_M fu pp pt plist = some r → ACalls Tryz.prog 214 [(GType.pv pp), (GType.pv pt), .acc 4 (GBinding.trs (plist)) 0] ⟨[], [⟨225, 4, GBinding.trs (plist), false⟩]⟩ (fun q t => q = (.tup [(bif r.2.1 then .acc 4 (GBinding.trs (r.1)) 0 else .t (.row 4 (GBinding.trs (r.1)))), .t (.leaf (.bool (r.2.1)))] : PV) ∧ t = ⟨[], [⟨225, 4, GBinding.trs (r.2.2), false⟩]⟩)) := by
  induction fu with
  | zero => exact ⟨(fun pp pall plist r H => by simp only [sl7All_M] at H; cases H), (fun pp pt plist r H => by simp only [sl7Match_M] at H; cases H)⟩
  | succ fu ih => exact ⟨(fun pp pall plist r H => by simp only [sl7All_M] at H; exact sl7All_step (sl7All_M fu) (sl7Match_M fu) fu ih.1 ih.2 pp pall plist r H), (fun pp pt plist r H => by simp only [sl7Match_M] at H; exact sl7Match_step (sl7All_M fu) (sl7Match_M fu) fu ih.1 ih.2 pp pt plist r H)⟩
theorem sl7All_ok (fu : Nat) (pp : List GType) (pall : List GType) (plist : List GBinding) (r : (List GBinding) × Bool × (List GBinding)) (H : sl7All_M fu pp pall plist = some r) : ACalls Tryz.prog 199 [.t (.row 3 (GType.trs (pp))), .t (.row 3 (GType.trs (pall))), .acc 4 (GBinding.trs (plist)) 0] ⟨[], [⟨225, 4, GBinding.trs (plist), false⟩]⟩ (fun q t => q = (.tup [(bif r.2.1 then .acc 4 (GBinding.trs (r.1)) 0 else .t (.row 4 (GBinding.trs (r.1)))), .t (.leaf (.bool (r.2.1)))] : PV) ∧ t = ⟨[], [⟨225, 4, GBinding.trs (r.2.2), false⟩]⟩) := (sl7All_all fu).1 pp pall plist r H
noncomputable def sMatchAll_M (fu : Nat)  (pp : List GType) (pall : List GType) : Option ((List GBinding) × Bool) :=
 sw (!decide ((((pp.length : Nat) : Int) : Int) = ((pall.length : Nat) : Int)))
 (some (([]), false))
 (bd (sl7All_M fu pp pall ([])) (fun (x6, x7, x8) =>
 sw (x7)
 (gd (x6 = x8)
 (some (x6, true)))
 (some (([]), false))))
set_option maxRecDepth 100000 in
set_option maxHeartbeats 4000000 in
theorem sMatchAll_ok  (fu : Nat)  (pp : List GType) (pall : List GType) (r : (List GBinding) × Bool) (H : sMatchAll_M fu pp pall = some r) : AFun Tryz.prog 156 [.t (.row 3 (GType.trs (pp))), .t (.row 3 (GType.trs (pall)))] (.tup [.t (.row 4 (GBinding.trs (r.1))), .t (.leaf (.bool (r.2)))] : PV) := by
  refine ACalls.intro Tryz.func156 rfl (by first | decide | (simp; done) | (simp; decide)) ?_
  intro C hC
  refine AWP.fact (lk_lenN 0 rfl rfl (GType.trs_len _)) (fun hl1 => ?_)
  refine AWP.fact (lk_lenN 1 rfl rfl (GType.trs_len _)) (fun hl2 => ?_)
  refine AWP.seq ?_
  refine AWP.region_lit ?_
  refine AL.cons rfl (AOp.move (.inr rfl) rfl rfl) ?_
  refine AL.cons rfl (AOp.move (.inr rfl) rfl rfl) ?_
  refine AL.nil ?_
  refine AWP.seq ?_
  refine AWP.seq ?_
  refine AWP.region_lit ?_
  refine AL.cons rfl (AOp.move (.inl rfl) rfl rfl) ?_
  refine AL.cons rfl (AOp.lenN rfl rfl rfl rfl el45 (GType.trs_len _)) ?_
  refine AL.cons rfl (AOp.move (.inl rfl) rfl rfl) ?_
  refine AL.cons rfl (AOp.lenN rfl rfl rfl rfl el45 (GType.trs_len _)) ?_
  refine AL.cons rfl (AOp.neqI rfl rfl rfl rfl) ?_
  refine AL.nil ?_
  refine AWP.cond rfl (fun h3 => ?_) (fun h3 => ?_)
  · skip
    refine AWP.seq ?_
    refine AWP.region_lit ?_
    refine AL.cons rfl (AOp.buildSliceA (es := []) (es' := GBinding.trs ([])) (cs := []) rfl rfl el138 zr225 rfl rfl leA rfl (by simp [GBinding.cs]) (by decide) rfl (by decide) (by simp [GBinding.trs_map, GBinding.tr_cs])) ?_
    refine AL.cons rfl (AOp.move (.inr rfl) rfl rfl) ?_
    refine AL.cons rfl (AOp.move (.inr rfl) rfl rfl) ?_
    refine AL.nil ?_
    refine AWP.ret ?_
    have e4 : sMatchAll_M fu pp pall = some (([]), false) := swT h3 (rfl)
    have hz : (([]), false) = r := Option.some.inj (e4.symm.trans H)
    subst hz
    exact Ends.mk (ps := [_, _]) (by first | exact .inr rfl | exact .inl rfl) ⟨rfl, rfl, trivial⟩ rfl (StLe.mk' (st' := ⟨[], []⟩) trivial rfl) (keeps_nil hC) (q := (.tup [.t (.row 4 (GBinding.trs (([])))), .t (.leaf (.bool (false)))] : PV)) leA rfl ⟨rfl, rfl⟩
  · skip
    refine AWP.skip ?_
    refine AWP.seq ?_
    refine AWP.region_lit ?_
    refine AL.cons rfl (AOp.move (.inl rfl) rfl rfl) ?_
    refine AL.cons rfl (AOp.move (.inl rfl) rfl rfl) ?_
    refine AL.cons rfl (AOp.buildSliceA (es := []) (es' := GBinding.trs ([])) (cs := []) rfl rfl el138 zr225 rfl rfl leA rfl (by simp [GBinding.cs]) (by decide) rfl (by decide) (by simp [GBinding.trs_map, GBinding.tr_cs])) ?_
    rcases hq5 : sl7All_M fu pp pall ([]) with _ | ⟨x6, x7, x8⟩
    · skip
      have e9 : sMatchAll_M fu pp pall = none := swF h3 (bdN hq5)
      exact none_some H e9
    · skip
      cases x7
      · skip
        refine AL.cons rfl (AOp.callPE (pre := ⟨[], [⟨225, 4, GBinding.trs ([]), false⟩]⟩) (st' := ⟨[], [⟨225, 4, GBinding.trs (x8), false⟩]⟩) (ps := [_, _, _]) (qs := [.t (.row 3 (GType.trs (pp))), .t (.row 3 (GType.trs (pall))), .acc 4 (GBinding.trs ([])) 0]) [] [0] rfl rfl Tryz.func199 (by kernel_rfl) rfl rfl rfl (Part0.of trivial ⟨rfl, trivial⟩ (by decide) (by decide)) leA rfl rfl rfl (sl7All_ok fu pp pall ([]) _ hq5)) ?_
        refine AL.cons rfl (AOp.move (.inl rfl) rfl rfl) ?_
        refine AL.cons rfl (AOp.extract rfl rfl rfl rfl) ?_
        refine AL.cons rfl (AOp.extract rfl rfl rfl rfl) ?_
        refine AL.cons rfl (AOp.move (.inr rfl) rfl rfl) ?_
        refine AL.cons rfl (AOp.move (.inr rfl) rfl rfl) ?_
        refine AL.nil ?_
        refine AWP.seq ?_
        refine AWP.seq ?_
        refine AWP.region_lit ?_
        refine AL.cons rfl (AOp.move (.inl rfl) rfl rfl) ?_
        refine AL.cons rfl (AOp.notB rfl rfl rfl) ?_
        refine AL.nil ?_
        refine AWP.cond rfl (fun h10 => ?_) (fun h10 => ?_)
        · skip
          refine AWP.seq ?_
          refine AWP.region_lit ?_
          refine AL.cons rfl (AOp.buildSliceA (es := []) (es' := GBinding.trs ([])) (cs := []) rfl rfl el138 zr225 rfl rfl leA rfl (by simp [GBinding.cs]) (by decide) rfl (by decide) (by simp [GBinding.trs_map, GBinding.tr_cs])) ?_
          refine AL.cons rfl (AOp.move (.inr rfl) rfl rfl) ?_
          refine AL.cons rfl (AOp.move (.inr rfl) rfl rfl) ?_
          refine AL.nil ?_
          refine AWP.ret ?_
          have e11 : sMatchAll_M fu pp pall = some (([]), false) := swF h3 (bdS hq5 (swF rfl (rfl)))
          have hz : (([]), false) = r := Option.some.inj (e11.symm.trans H)
          subst hz
          exact Ends.mk (ps := [_, _]) (by first | exact .inr rfl | exact .inl rfl) ⟨rfl, rfl, trivial⟩ rfl (StLe.mk' (st' := ⟨[], []⟩) trivial rfl) (keeps_nil hC) (q := (.tup [.t (.row 4 (GBinding.trs (([])))), .t (.leaf (.bool (false)))] : PV)) leA rfl ⟨rfl, rfl⟩
        · skip
          exact absurd (h10.symm.trans (congrArg (fun b => !b) (rfl : false = false))) (by decide)
      · skip
        rcases Classical.em (x6 = x8) with hg12 | hg12
        · skip
          have hg12c := hg12
          subst hg12
          refine AL.cons rfl (AOp.callPE (pre := ⟨[], [⟨225, 4, GBinding.trs ([]), false⟩]⟩) (st' := ⟨[], [⟨225, 4, GBinding.trs (x6), false⟩]⟩) (ps := [_, _, _]) (qs := [.t (.row 3 (GType.trs (pp))), .t (.row 3 (GType.trs (pall))), .acc 4 (GBinding.trs ([])) 0]) [] [0] rfl rfl Tryz.func199 (by kernel_rfl) rfl rfl rfl (Part0.of trivial ⟨rfl, trivial⟩ (by decide) (by decide)) leA rfl rfl rfl (sl7All_ok fu pp pall ([]) _ hq5)) ?_
          refine AL.cons rfl (AOp.move (.inl rfl) rfl rfl) ?_
          refine AL.cons rfl (AOp.extract rfl rfl rfl rfl) ?_
          refine AL.cons rfl (AOp.extract rfl rfl rfl rfl) ?_
          refine AL.cons rfl (AOp.move (.inr rfl) rfl rfl) ?_
          refine AL.cons rfl (AOp.move (.inr rfl) rfl rfl) ?_
          refine AL.nil ?_
          refine AWP.seq ?_
          refine AWP.seq ?_
          refine AWP.region_lit ?_
          refine AL.cons rfl (AOp.move (.inl rfl) rfl rfl) ?_
          refine AL.cons rfl (AOp.notB rfl rfl rfl) ?_
          refine AL.nil ?_
          refine AWP.cond rfl (fun h13 => ?_) (fun h13 => ?_)
          · skip
            exact absurd (h13.symm.trans (congrArg (fun b => !b) (rfl : true = true))) (by decide)
          · skip
            refine AWP.skip ?_
            refine AWP.seq ?_
            refine AWP.region_lit ?_
            refine AL.cons rfl (AOp.move (.inl rfl) rfl rfl) ?_
            refine AL.cons rfl (AOp.move (.inr rfl) rfl rfl) ?_
            refine AL.cons rfl (AOp.move (.inr rfl) rfl rfl) ?_
            refine AL.nil ?_
            refine AWP.ret ?_
            have e14 : sMatchAll_M fu pp pall = some (x6, true) := swF h3 (bdS hq5 (swT rfl (gdT hg12c (rfl))))
            have hz : (x6, true) = r := Option.some.inj (e14.symm.trans H)
            subst hz
            exact Ends.mk (ps := [_, _]) (by first | exact .inr rfl | exact .inl rfl) ⟨rfl, rfl, trivial⟩ rfl (StLe.mk' (st' := ⟨[], []⟩) trivial rfl) (keeps_nil hC) (q := (.tup [.t (.row 4 (GBinding.trs (x6))), .t (.leaf (.bool (true)))] : PV)) leA rfl ⟨rfl, rfl⟩
        · skip
          have e15 : sMatchAll_M fu pp pall = none := swF h3 (bdS hq5 (swT rfl (gdF hg12)))
          exact none_some H e15

noncomputable def sMatch_M (fu : Nat)  (pp : GType) (pt : GType) : Option ((List GBinding) × Bool) :=
 bd (sMatchAll_M fu ([pp] : List GType) ([pt] : List GType)) (fun (x2, x3) =>
 some (x2, x3))
set_option maxRecDepth 100000 in
set_option maxHeartbeats 4000000 in
theorem sMatch_ok  (fu : Nat)  (pp : GType) (pt : GType) (r : (List GBinding) × Bool) (H : sMatch_M fu pp pt = some r) : AFun Tryz.prog 102 [(GType.pv pp), (GType.pv pt)] (.tup [.t (.row 4 (GBinding.trs (r.1))), .t (.leaf (.bool (r.2)))] : PV) := by
  refine ACalls.intro Tryz.func102 rfl (by first | decide | (simp; done) | (simp; decide)) ?_
  intro C hC
  refine AWP.seq ?_
  refine AWP.region_lit ?_
  refine AL.cons rfl (AOp.box (cs := [.t (.leaf (.int .i64 (pp.gKind))), .t (.leaf (.string (pp.gName))), .t (.row 3 (GType.trs (pp.gArgs)))]) rfl rfl rfl rfl rfl) ?_
  refine AL.cons rfl (AOp.box (cs := [.t (.leaf (.int .i64 (pt.gKind))), .t (.leaf (.string (pt.gName))), .t (.row 3 (GType.trs (pt.gArgs)))]) rfl rfl rfl rfl rfl) ?_
  refine AL.cons rfl (AOp.move (.inr rfl) rfl rfl) ?_
  refine AL.cons rfl (AOp.move (.inr rfl) rfl rfl) ?_
  refine AL.nil ?_
  refine AWP.seq ?_
  refine AWP.region_lit ?_
  refine AL.cons rfl (AOp.loadPtr (cs := [.t (.leaf (.int .i64 (pp.gKind))), .t (.leaf (.string (pp.gName))), .t (.row 3 (GType.trs (pp.gArgs)))]) rfl rfl rfl rfl sh47 rfl rfl) ?_
  refine AL.cons rfl (AOp.buildSliceE (es := [GType.cs pp]) (es' := GType.trs (([pp] : List GType))) (cs := [.t (.leaf (.int .i64 (pp.gKind))), .t (.leaf (.string (pp.gName))), .t (.row 3 (GType.trs (pp.gArgs)))]) rfl rfl el45 zr47 rfl rfl leA rfl (by simp [GType.cs]) (by decide) rfl (by decide) (by simp [GType.trs_map, GType.tr_cs])) ?_
  refine AL.cons rfl (AOp.loadPtr (cs := [.t (.leaf (.int .i64 (pt.gKind))), .t (.leaf (.string (pt.gName))), .t (.row 3 (GType.trs (pt.gArgs)))]) rfl rfl rfl rfl sh47 rfl rfl) ?_
  refine AL.cons rfl (AOp.buildSliceE (es := [GType.cs pt]) (es' := GType.trs (([pt] : List GType))) (cs := [.t (.leaf (.int .i64 (pt.gKind))), .t (.leaf (.string (pt.gName))), .t (.row 3 (GType.trs (pt.gArgs)))]) rfl rfl el45 zr47 rfl rfl leA rfl (by simp [GType.cs]) (by decide) rfl (by decide) (by simp [GType.trs_map, GType.tr_cs])) ?_
  rcases hq1 : sMatchAll_M fu ([pp] : List GType) ([pt] : List GType) with _ | ⟨x2, x3⟩
  · skip
    have e4 : sMatch_M fu pp pt = none := bdN hq1
    exact none_some H e4
  · skip
    refine AL.cons rfl (AOp.callF (res := .tup [.t (.row 4 (GBinding.trs (x2))), .t (.leaf (.bool (x3)))]) (ps := [_, _]) rfl rfl Tryz.func156 (by kernel_rfl) rfl rfl leA rfl rfl (sMatchAll_ok fu ([pp] : List GType) ([pt] : List GType) _ hq1)) ?_
    refine AL.cons rfl (AOp.extract rfl rfl rfl rfl) ?_
    refine AL.cons rfl (AOp.extract rfl rfl rfl rfl) ?_
    refine AL.cons rfl (AOp.move (.inr rfl) rfl rfl) ?_
    refine AL.cons rfl (AOp.move (.inr rfl) rfl rfl) ?_
    refine AL.nil ?_
    refine AWP.ret ?_
    have e5 : sMatch_M fu pp pt = some (x2, x3) := bdS hq1 (rfl)
    have hz : (x2, x3) = r := Option.some.inj (e5.symm.trans H)
    subst hz
    exact Ends.mk (ps := [_, _]) (by first | exact .inr rfl | exact .inl rfl) ⟨rfl, rfl, trivial⟩ rfl (StLe.mk' (st' := ⟨[], []⟩) trivial rfl) (keeps_nil hC) (q := (.tup [.t (.row 4 (GBinding.trs (x2))), .t (.leaf (.bool (x3)))] : PV)) leA rfl ⟨rfl, rfl⟩

noncomputable def sMatches_M (fu : Nat)  (pp : GType) (pt : GType) : Option Bool :=
 bd (sMatch_M fu pp pt) (fun (x2, x3) =>
 some x3)
set_option maxRecDepth 100000 in
set_option maxHeartbeats 4000000 in
theorem sMatches_ok  (fu : Nat)  (pp : GType) (pt : GType) (r : Bool) (H : sMatches_M fu pp pt = some r) : AFun Tryz.prog 113 [(GType.pv pp), (GType.pv pt)] (.t (.leaf (.bool (r))) : PV) := by
  refine ACalls.intro Tryz.func113 rfl (by first | decide | (simp; done) | (simp; decide)) ?_
  intro C hC
  refine AWP.seq ?_
  refine AWP.region_lit ?_
  refine AL.cons rfl (AOp.box (cs := [.t (.leaf (.int .i64 (pp.gKind))), .t (.leaf (.string (pp.gName))), .t (.row 3 (GType.trs (pp.gArgs)))]) rfl rfl rfl rfl rfl) ?_
  refine AL.cons rfl (AOp.box (cs := [.t (.leaf (.int .i64 (pt.gKind))), .t (.leaf (.string (pt.gName))), .t (.row 3 (GType.trs (pt.gArgs)))]) rfl rfl rfl rfl rfl) ?_
  refine AL.cons rfl (AOp.move (.inr rfl) rfl rfl) ?_
  refine AL.nil ?_
  refine AWP.seq ?_
  refine AWP.region_lit ?_
  refine AL.cons rfl (AOp.loadPtr (cs := [.t (.leaf (.int .i64 (pp.gKind))), .t (.leaf (.string (pp.gName))), .t (.row 3 (GType.trs (pp.gArgs)))]) rfl rfl rfl rfl sh47 rfl rfl) ?_
  refine AL.cons rfl (AOp.loadPtr (cs := [.t (.leaf (.int .i64 (pt.gKind))), .t (.leaf (.string (pt.gName))), .t (.row 3 (GType.trs (pt.gArgs)))]) rfl rfl rfl rfl sh47 rfl rfl) ?_
  rcases hq1 : sMatch_M fu pp pt with _ | ⟨x2, x3⟩
  · skip
    have e4 : sMatches_M fu pp pt = none := bdN hq1
    exact none_some H e4
  · skip
    refine AL.cons rfl (AOp.callF (res := .tup [.t (.row 4 (GBinding.trs (x2))), .t (.leaf (.bool (x3)))]) (ps := [_, _]) rfl rfl Tryz.func102 (by kernel_rfl) rfl rfl leA rfl rfl (sMatch_ok fu pp pt _ hq1)) ?_
    refine AL.cons rfl (AOp.move (.inl rfl) rfl rfl) ?_
    refine AL.cons rfl (AOp.extract rfl rfl rfl rfl) ?_
    refine AL.cons rfl (AOp.extract rfl rfl rfl rfl) ?_
    refine AL.cons rfl (AOp.move (.inr rfl) rfl rfl) ?_
    refine AL.cons rfl (AOp.move (.inr rfl) rfl rfl) ?_
    refine AL.nil ?_
    refine AWP.seq ?_
    refine AWP.region_lit ?_
    refine AL.cons rfl (AOp.move (.inl rfl) rfl rfl) ?_
    refine AL.cons rfl (AOp.move (.inr rfl) rfl rfl) ?_
    refine AL.nil ?_
    refine AWP.ret ?_
    have e5 : sMatches_M fu pp pt = some x3 := bdS hq1 (rfl)
    have hz : x3 = r := Option.some.inj (e5.symm.trans H)
    subst hz
    exact Ends.mk (ps := [_]) (by first | exact .inr rfl | exact .inl rfl) ⟨rfl, trivial⟩ rfl (StLe.mk' (st' := ⟨[], []⟩) trivial rfl) (keeps_nil hC) (q := (.t (.leaf (.bool (x3))) : PV)) leA rfl ⟨rfl, rfl⟩

noncomputable def iLookup_F1 (fu : Nat) (plist : List GBinding) (pv : ByteArray) : Nat → Unit → Option (LR Unit (GType × Bool)) :=
 fun i2 _ => sw (decide ((atD plist i2).gVar = pv))
 (gd (Tr.bulkL (GType.tr ((atD plist i2).gType)) ≤ 68719476735)
 (some (.ret (((atD plist i2).gType), true))))
 (some (.next ()))
noncomputable def iLookup_R1 (fu : Nat) (plist : List GBinding) (pv : ByteArray) : Option ((GType × Bool) ⊕ Unit) :=
 loopN (iLookup_F1 fu plist pv) (plist.length - 0) 0 ()
noncomputable def iLookup_M (fu : Nat)  (plist : List GBinding) (pv : ByteArray) : Option (GType × Bool) :=
 so (iLookup_R1 fu plist pv) (fun _ =>
 some ((GType.mk 0 (⟨#[]⟩) []), false))
set_option maxRecDepth 100000 in
set_option maxHeartbeats 4000000 in
theorem iLookup_ok  (fu : Nat)  (plist : List GBinding) (pv : ByteArray) (r : GType × Bool) (H : iLookup_M fu plist pv = some r) : AFun Tryz.prog 160 [.t (.row 4 (GBinding.trs (plist))), .t (.leaf (.string (pv)))] (.tup [(GType.pv r.1), .t (.leaf (.bool (r.2)))] : PV) := by
  refine ACalls.intro Tryz.func160 rfl (by first | decide | (simp; done) | (simp; decide)) ?_
  intro C hC
  refine AWP.fact (lk_lenN 0 rfl rfl (GBinding.trs_len _)) (fun hl1 => ?_)
  refine AWP.seq ?_
  refine AWP.region_lit ?_
  refine AL.cons rfl (AOp.alloc rfl rfl zr47) ?_
  refine AL.cons rfl (AOp.move (.inr rfl) rfl rfl) ?_
  refine AL.nil ?_
  refine AWP.seq ?_
  refine AWP.seq ?_
  refine AWP.region_lit ?_
  refine AL.cons rfl (AOp.move (.inl rfl) rfl rfl) ?_
  refine AL.cons rfl (AOp.lenN rfl rfl rfl rfl el138 (GBinding.trs_len _)) ?_
  refine AL.cons rfl (AOp.move (.inl rfl) rfl rfl) ?_
  refine AL.nil ?_
  refine AWP.cut (ι := Unit) (fun _ => iLookup_R1 fu plist pv = some (.inr ())) (fun _ => ⟨[(4, .ptr 0 0), (5, .t (.leaf (.bool (false))))], ⟨[some ⟨47, [.t (.leaf (.int .i64 (0))), .t (.leaf (.string (⟨#[]⟩))), .nil]⟩], []⟩⟩) (by repeat' (first | exact qcEnds | exact ncAWP | exact ncRound | exact ncEx | apply qcThen | apply qcBlock | apply qcCut)) ?_ ?_
  · skip
    refine AWP.block ?_
    refine AWP.loopR (ι := Nat × Unit) (fun (i2, _) => iLookup_R1 fu plist pv = loopN (iLookup_F1 fu plist pv) (plist.length - i2) i2 ()) (fun (i2, _) => ⟨[(1, .t (.leaf (.string (pv)))), (4, .ptr 0 0), (5, .t (.leaf (.bool (false)))), (8, .t (.row 4 (GBinding.trs (plist)))), (9, .t (.leaf (.int .i64 (((plist.length : Nat) : Int))))), (10, .t (.leaf (.int .i64 (((i2 : Nat) : Int)))))], ⟨[some ⟨47, [.t (.leaf (.int .i64 (0))), .t (.leaf (.string (⟨#[]⟩))), .nil]⟩], []⟩⟩) (fun (i2, _) => plist.length - i2) (0, ()) ?_ ?_ ?_
    · exact rfl
    · skip
      exact Wk.mk (StLe.mk' ⟨⟨rfl, leA, rfl⟩, trivial⟩ rfl) (keeps_nil hC) ⟨⟨_, rfl, .refl _, rfl⟩, ⟨⟨_, rfl, .refl _, rfl⟩, ⟨⟨_, rfl, .refl _, rfl⟩, ⟨⟨_, rfl, .refl _, rfl⟩, ⟨⟨_, rfl, .refl _, rfl⟩, ⟨⟨_, rfl, leA, rfl⟩, trivial⟩⟩⟩⟩⟩⟩
    · rintro ⟨i2, ⟨⟩⟩ hJ3
      refine AWP.seq ?_
      refine AWP.region_lit ?_
      refine AL.cons rfl (AOp.lss rfl rfl rfl rfl) ?_
      refine AL.nil ?_
      refine AWP.seq ?_
      refine AWP.cond rfl (fun h4 => ?_) (fun h4 => ?_)
      · skip
        have h4l : i2 < plist.length := nat_lt_of2 h4
        have h4n := nat_lt_of h4
        refine AWP.skip ?_
        refine AWP.seq ?_
        refine AWP.block ?_
        refine AWP.seq ?_
        refine AWP.region_lit ?_
        refine AL.cons rfl (AOp.index (k := i2) rfl rfl rfl rfl rfl (GBinding.trs_at h4n) el138) ?_
        refine AL.cons rfl (AOp.loadEptr (ds := [.leaf (.string ((atD plist i2).gVar)), .leaf (.int .i64 ((atD plist i2).gType.gKind)), .leaf (.string ((atD plist i2).gType.gName)), .row 3 (GType.trs ((atD plist i2).gType.gArgs))]) rfl rfl rfl sh225 rfl rfl) ?_
        refine AL.cons rfl (AOp.alloc rfl rfl zr225) ?_
        refine AL.cons rfl (AOp.storePtr (cs := [.t (.leaf (.string ((atD plist i2).gVar))), .t (.leaf (.int .i64 ((atD plist i2).gType.gKind))), .t (.leaf (.string ((atD plist i2).gType.gName))), .t (.row 3 (GType.trs ((atD plist i2).gType.gArgs)))]) (ds := [.t (.leaf (.string ((atD plist i2).gVar))), .t (.leaf (.int .i64 ((atD plist i2).gType.gKind))), .t (.leaf (.string ((atD plist i2).gType.gName))), .t (.row 3 (GType.trs ((atD plist i2).gType.gArgs)))]) rfl rfl rfl rfl rfl rfl rfl sz225 (Nat.le_of_ble_eq_true rfl) rfl) ?_
        refine AL.nil ?_
        refine AWP.seq ?_
        refine AWP.region_lit ?_
        refine AL.cons rfl (AOp.fieldPtr (k := 1) (d := 0) (e := 0) rfl rfl rfl fo225_0) ?_
        refine AL.cons rfl (AOp.loadPtr1 rfl rfl rfl rfl sh9 rfl) ?_
        refine AL.cons rfl (AOp.move (.inl rfl) rfl rfl) ?_
        refine AL.cons rfl (AOp.eqlS rfl rfl rfl rfl) ?_
        refine AL.nil ?_
        refine AWP.cond rfl (fun h5 => ?_) (fun h5 => ?_)
        · skip
          refine AWP.seq ?_
          refine AWP.region_lit ?_
          refine AL.cons rfl (AOp.fieldPtr (k := 1) (d := 0) (e := 1) rfl rfl rfl fo225_1) ?_
          refine AL.cons rfl (AOp.loadPtr (cs := [.t (.leaf (.int .i64 (((atD plist i2).gType).gKind))), .t (.leaf (.string (((atD plist i2).gType).gName))), .t (.row 3 (GType.trs (((atD plist i2).gType).gArgs)))]) rfl rfl rfl rfl sh47 rfl rfl) ?_
          rcases Classical.em (Tr.bulkL (GType.tr ((atD plist i2).gType)) ≤ 68719476735) with hg6 | hg6
          · skip
            refine AL.cons rfl (AOp.callF (res := (GType.pv ((atD plist i2).gType))) (ps := [_]) rfl rfl Tryz.func111 (by kernel_rfl) rfl rfl leA rfl rfl (icopyType_fn ((atD plist i2).gType) hg6)) ?_
            refine AL.cons rfl (AOp.storePtr (cs := [.t (.leaf (.int .i64 (((atD plist i2).gType).gKind))), .t (.leaf (.string (((atD plist i2).gType).gName))), .t (.row 3 (GType.trs (((atD plist i2).gType).gArgs)))]) (ds := [.t (.leaf (.int .i64 (((atD plist i2).gType).gKind))), .t (.leaf (.string (((atD plist i2).gType).gName))), .t (.row 3 (GType.trs (((atD plist i2).gType).gArgs)))]) rfl rfl rfl rfl rfl rfl rfl sz47 (Nat.le_of_ble_eq_true rfl) rfl) ?_
            refine AL.cons rfl (AOp.move (.inr rfl) rfl rfl) ?_
            refine AL.nil ?_
            refine AWP.ret ?_
            have e7 : (iLookup_F1 fu plist pv) i2 () = some (.ret (((atD plist i2).gType), true)) := swT h5 (gdT hg6 (rfl))
            have e8 : iLookup_R1 fu plist pv = some (.inl (((atD plist i2).gType), true)) := loopN_ret h4l hJ3 e7
            have e9 : iLookup_M fu plist pv = some (((atD plist i2).gType), true) := soL e8
            have hz : (((atD plist i2).gType), true) = r := Option.some.inj (e9.symm.trans H)
            subst hz
            exact Ends.mk (ps := [_, _]) (by first | exact .inr rfl | exact .inl rfl) ⟨⟨_, _, _, rfl, rfl, sh47, rfl, rfl⟩, rfl, trivial⟩ rfl (StLe.mk' (st' := ⟨[], []⟩) trivial rfl) (keeps_nil hC) (q := (.tup [(GType.pv ((atD plist i2).gType)), .t (.leaf (.bool (true)))] : PV)) leA rfl ⟨rfl, rfl⟩
          · skip
            have e10 : (iLookup_F1 fu plist pv) i2 () = none := swT h5 (gdF hg6)
            have e11 : iLookup_R1 fu plist pv = none := loopN_non h4l hJ3 e10
            have e12 : iLookup_M fu plist pv = none := soN e11
            exact none_some H e12
        · skip
          refine AWP.skip ?_
          refine AWP.region_lit ?_
          refine AL.cons rfl (AOp.addI rfl rfl rfl rfl (c := ((i2 + 1 : Nat) : Int)) (by omega) (by omega)) ?_
          refine AL.cons rfl (AOp.move (.inl rfl) rfl rfl) ?_
          refine AL.nil ?_
          have e13 : (iLookup_F1 fu plist pv) i2 () = some (.next ()) := swF h5 (rfl)
          refine ⟨(i2 + 1, ()), loopN_next h4l hJ3 e13, ?_, ?_⟩
          · skip
            exact Wk.mk (StLe.mk' ⟨⟨rfl, leA, rfl⟩, trivial⟩ rfl) (keeps_nil hC) ⟨⟨_, rfl, .refl _, rfl⟩, ⟨⟨_, rfl, .refl _, rfl⟩, ⟨⟨_, rfl, .refl _, rfl⟩, ⟨⟨_, rfl, .refl _, rfl⟩, ⟨⟨_, rfl, .refl _, rfl⟩, ⟨⟨_, rfl, leA, rfl⟩, trivial⟩⟩⟩⟩⟩⟩
          · dsimp only; omega
      · skip
        have h4l : plist.length ≤ i2 := nat_ge_of2 h4
        refine AWP.exit ?_
        refine ⟨(), loopN_end h4l hJ3, ?_⟩
        exact Wk.mk (StLe.mk' ⟨⟨rfl, leA, rfl⟩, trivial⟩ rfl) (keeps_nil hC) ⟨⟨_, rfl, .refl _, rfl⟩, ⟨⟨_, rfl, .refl _, rfl⟩, trivial⟩⟩
  · rintro ⟨⟩ hR14
    refine AWP.seq ?_
    refine AWP.region_lit ?_
    refine AL.cons rfl (AOp.build rfl rfl zr47 pl47 rfl rfl) ?_
    refine AL.cons rfl (AOp.storePtr (cs := [.t (.leaf (.int .i64 (0))), .t (.leaf (.string (⟨#[]⟩))), .nil]) (ds := [.t (.leaf (.int .i64 (0))), .t (.leaf (.string (⟨#[]⟩))), .nil]) rfl rfl rfl rfl rfl rfl rfl sz47 (Nat.le_of_ble_eq_true rfl) rfl) ?_
    refine AL.cons rfl (AOp.move (.inr rfl) rfl rfl) ?_
    refine AL.nil ?_
    refine AWP.ret ?_
    have e15 : iLookup_M fu plist pv = some ((GType.mk 0 (⟨#[]⟩) []), false) := soR hR14 (rfl)
    have hz : ((GType.mk 0 (⟨#[]⟩) []), false) = r := Option.some.inj (e15.symm.trans H)
    subst hz
    exact Ends.mk (ps := [_, _]) (by first | exact .inr rfl | exact .inl rfl) ⟨⟨_, _, _, rfl, rfl, sh47, rfl, rfl⟩, rfl, trivial⟩ rfl (StLe.mk' (st' := ⟨[], []⟩) trivial rfl) (keeps_nil hC) (q := (.tup [(GType.pv (GType.mk 0 (⟨#[]⟩) [])), .t (.leaf (.bool (false)))] : PV)) leA rfl ⟨rfl, rfl⟩

noncomputable def imatchAll_F1 (fu : Nat) (r_imatchAll : (List GBinding) → (List GType) → (List GType) → Option ((List GBinding) × Bool × (List GBinding))) (r_imatch : (List GBinding) → GType → GType → Option ((List GBinding) × Bool × (List GBinding))) (ps : List GBinding) (pp : List GType) (pall : List GType) : Nat → ((List GBinding)) → Option (LR ((List GBinding)) ((List GBinding) × Bool × (List GBinding))) :=
 fun i6 v8 => gd (i6 < (pall).length)
 (bd (r_imatch v8 (atD pp i6) (atD pall i6)) (fun (x13, x14, x15) =>
 sw (x14)
 (gd (x13 = x15)
 (some (.next x13)))
 (some (.ret ([], false, x15)))))
noncomputable def imatchAll_R1 (fu : Nat) (r_imatchAll : (List GBinding) → (List GType) → (List GType) → Option ((List GBinding) × Bool × (List GBinding))) (r_imatch : (List GBinding) → GType → GType → Option ((List GBinding) × Bool × (List GBinding))) (ps : List GBinding) (pp : List GType) (pall : List GType) : Option (((List GBinding) × Bool × (List GBinding)) ⊕ ((List GBinding))) :=
 loopN (imatchAll_F1 fu r_imatchAll r_imatch ps pp pall) (pp.length - 0) 0 ps
noncomputable def imatchAll_G (fu : Nat) (r_imatchAll : (List GBinding) → (List GType) → (List GType) → Option ((List GBinding) × Bool × (List GBinding))) (r_imatch : (List GBinding) → GType → GType → Option ((List GBinding) × Bool × (List GBinding))) (ps : List GBinding) (pp : List GType) (pall : List GType) : Option ((List GBinding) × Bool × (List GBinding)) :=
 sw (!decide ((((pp.length : Nat) : Int) : Int) = ((pall.length : Nat) : Int)))
 (some ([], false, ps))
 (so (imatchAll_R1 fu r_imatchAll r_imatch ps pp pall) (fun v8 =>
 some (v8, true, v8)))
set_option maxRecDepth 100000 in
set_option maxHeartbeats 4000000 in
theorem imatchAll_step (r_imatchAll : (List GBinding) → (List GType) → (List GType) → Option ((List GBinding) × Bool × (List GBinding))) (r_imatch : (List GBinding) → GType → GType → Option ((List GBinding) × Bool × (List GBinding))) (fu : Nat) (h_imatchAll : ∀ (ps : List GBinding) (pp : List GType) (pall : List GType) (r : (List GBinding) × Bool × (List GBinding)), r_imatchAll ps pp pall = some r → ACalls Tryz.prog 159 [.acc 4 (GBinding.trs (ps)) 0, .t (.row 3 (GType.trs (pp))), .t (.row 3 (GType.trs (pall)))] ⟨[], [⟨225, 4, GBinding.trs (ps), false⟩]⟩ (fun q t => q = (.tup [(bif r.2.1 then .acc 4 (GBinding.trs (r.1)) 0 else .t (.row 4 (GBinding.trs (r.1)))), .t (.leaf (.bool (r.2.1)))] : PV) ∧ t = ⟨[], [⟨225, 4, GBinding.trs (r.2.2), false⟩]⟩)) (h_imatch : ∀ (ps : List GBinding) (pp : GType) (pt : GType) (r : (List GBinding) × Bool × (List GBinding)), r_imatch ps pp pt = some r → ACalls Tryz.prog 200 [.acc 4 (GBinding.trs (ps)) 0, (GType.pv pp), (GType.pv pt)] ⟨[], [⟨225, 4, GBinding.trs (ps), false⟩]⟩ (fun q t => q = (.tup [(bif r.2.1 then .acc 4 (GBinding.trs (r.1)) 0 else .t (.row 4 (GBinding.trs (r.1)))), .t (.leaf (.bool (r.2.1)))] : PV) ∧ t = ⟨[], [⟨225, 4, GBinding.trs (r.2.2), false⟩]⟩)) (ps : List GBinding) (pp : List GType) (pall : List GType) (r : (List GBinding) × Bool × (List GBinding)) (H : imatchAll_G fu r_imatchAll r_imatch ps pp pall = some r) : ACalls Tryz.prog 159 [.acc 4 (GBinding.trs (ps)) 0, .t (.row 3 (GType.trs (pp))), .t (.row 3 (GType.trs (pall)))] ⟨[], [⟨225, 4, GBinding.trs (ps), false⟩]⟩ (fun q t => q = (.tup [(bif r.2.1 then .acc 4 (GBinding.trs (r.1)) 0 else .t (.row 4 (GBinding.trs (r.1)))), .t (.leaf (.bool (r.2.1)))] : PV) ∧ t = ⟨[], [⟨225, 4, GBinding.trs (r.2.2), false⟩]⟩) := by
  refine ACalls.intro Tryz.func159 rfl (by first | decide | (simp; done) | (simp; decide)) ?_
  intro C hC
  refine AWP.fact (lk_lenN 0 rfl rfl (GBinding.trs_len _)) (fun hl1 => ?_)
  refine AWP.fact (lk_lenN 1 rfl rfl (GType.trs_len _)) (fun hl2 => ?_)
  refine AWP.fact (lk_lenN 2 rfl rfl (GType.trs_len _)) (fun hl3 => ?_)
  refine AWP.seq ?_
  refine AWP.region_lit ?_
  refine AL.cons rfl (AOp.move (.inr rfl) rfl rfl) ?_
  refine AL.cons rfl (AOp.move (.inr rfl) rfl rfl) ?_
  refine AL.nil ?_
  refine AWP.seq ?_
  refine AWP.seq ?_
  refine AWP.region_lit ?_
  refine AL.cons rfl (AOp.move (.inl rfl) rfl rfl) ?_
  refine AL.cons rfl (AOp.lenN rfl rfl rfl rfl el45 (GType.trs_len _)) ?_
  refine AL.cons rfl (AOp.move (.inl rfl) rfl rfl) ?_
  refine AL.cons rfl (AOp.lenN rfl rfl rfl rfl el45 (GType.trs_len _)) ?_
  refine AL.cons rfl (AOp.neqI rfl rfl rfl rfl) ?_
  refine AL.nil ?_
  refine AWP.cond rfl (fun h4 => ?_) (fun h4 => ?_)
  · skip
    refine AWP.seq ?_
    refine AWP.region_lit ?_
    refine AL.cons rfl (AOp.move (.inr rfl) rfl rfl) ?_
    refine AL.cons rfl (AOp.move (.inr rfl) rfl rfl) ?_
    refine AL.nil ?_
    refine AWP.ret ?_
    have e5 : imatchAll_G fu r_imatchAll r_imatch ps pp pall = some ([], false, ps) := swT h4 (rfl)
    have hz : ([], false, ps) = r := Option.some.inj (e5.symm.trans H)
    subst hz
    exact Ends.mk (ps := [_, _]) (by first | exact .inr rfl | exact .inl rfl) ⟨rfl, rfl, trivial⟩ rfl (StLe.mk' (st' := ⟨[], [⟨225, 4, GBinding.trs (ps), false⟩]⟩) trivial (by first | rfl | simp)) (keeps_all hC (boxes0) (Nat.le_of_ble_eq_true rfl)) (q := (.tup [(bif false then .acc 4 (GBinding.trs ([])) 0 else .t (.row 4 (GBinding.trs ([])))), .t (.leaf (.bool (false)))] : PV)) leA rfl ⟨rfl, rfl⟩
  · skip
    refine AWP.skip ?_
    refine AWP.seq ?_
    refine AWP.seq ?_
    refine AWP.region_lit ?_
    refine AL.cons rfl (AOp.move (.inl rfl) rfl rfl) ?_
    refine AL.cons rfl (AOp.lenN rfl rfl rfl rfl el45 (GType.trs_len _)) ?_
    refine AL.cons rfl (AOp.move (.inl rfl) rfl rfl) ?_
    refine AL.nil ?_
    refine AWP.cut (ι := (List GBinding)) (fun v8 => imatchAll_R1 fu r_imatchAll r_imatch ps pp pall = some (.inr v8)) (fun v8 => ⟨[(0, .acc 4 (GBinding.trs (v8)) 0), (6, .nil), (7, .t (.leaf (.bool (false))))], ⟨[], [⟨225, 4, GBinding.trs (v8), false⟩]⟩⟩) (by repeat' (first | exact qcEnds | exact ncAWP | exact ncRound | exact ncEx | apply qcThen | apply qcBlock | apply qcCut)) ?_ ?_
    · skip
      refine AWP.block ?_
      refine AWP.loopR (ι := Nat × ((List GBinding))) (fun (i6, v8) => imatchAll_R1 fu r_imatchAll r_imatch ps pp pall = loopN (imatchAll_F1 fu r_imatchAll r_imatch ps pp pall) (pp.length - i6) i6 v8) (fun (i6, v8) => ⟨[(0, .acc 4 (GBinding.trs (v8)) 0), (1, .t (.row 3 (GType.trs (pp)))), (2, .t (.row 3 (GType.trs (pall)))), (6, .nil), (7, .t (.leaf (.bool (false)))), (17, .t (.leaf (.int .i64 (((pp.length : Nat) : Int))))), (18, .t (.leaf (.int .i64 (((i6 : Nat) : Int)))))], ⟨[], [⟨225, 4, GBinding.trs (v8), false⟩]⟩⟩) (fun (i6, v8) => pp.length - i6) (0, ps) ?_ ?_ ?_
      · exact rfl
      · skip
        exact Wk.mk (StLe.mk' trivial (by first | rfl | simp)) (keeps_all hC (boxes0) (Nat.le_of_ble_eq_true rfl)) ⟨⟨_, rfl, leA, rfl⟩, ⟨⟨_, rfl, .refl _, rfl⟩, ⟨⟨_, rfl, .refl _, rfl⟩, ⟨⟨_, rfl, .refl _, rfl⟩, ⟨⟨_, rfl, .refl _, rfl⟩, ⟨⟨_, rfl, .refl _, rfl⟩, ⟨⟨_, rfl, leA, rfl⟩, trivial⟩⟩⟩⟩⟩⟩⟩
      · rintro ⟨i6, v8⟩ hJ9
        refine AWP.seq ?_
        refine AWP.region_lit ?_
        refine AL.cons rfl (AOp.lss rfl rfl rfl rfl) ?_
        refine AL.nil ?_
        refine AWP.seq ?_
        refine AWP.cond rfl (fun h10 => ?_) (fun h10 => ?_)
        · skip
          have h10l : i6 < pp.length := nat_lt_of2 h10
          have h10n := nat_lt_of h10
          refine AWP.skip ?_
          refine AWP.seq ?_
          refine AWP.block ?_
          refine AWP.seq ?_
          refine AWP.region_lit ?_
          refine AL.cons rfl (AOp.move (.inl rfl) rfl rfl) ?_
          refine AL.cons rfl (AOp.move (.inr rfl) rfl rfl) ?_
          refine AL.nil ?_
          refine AWP.seq ?_
          rcases Classical.em (i6 < (pall).length) with hg11 | hg11
          · skip
            rcases hq12 : r_imatch v8 (atD pp i6) (atD pall i6) with _ | ⟨x13, x14, x15⟩
            · skip
              have e16 : (imatchAll_F1 fu r_imatchAll r_imatch ps pp pall) i6 v8 = none := gdT hg11 (bdN hq12)
              have e17 : imatchAll_R1 fu r_imatchAll r_imatch ps pp pall = none := loopN_non h10l hJ9 e16
              have e18 : imatchAll_G fu r_imatchAll r_imatch ps pp pall = none := swF h4 (soN e17)
              exact none_some H e18
            · skip
              cases x14
              · skip
                refine AWP.drawnL ⟨_, _, fun j' _ => ([(⟨[], [⟨225, 4, GBinding.trs (v8), false⟩]⟩ : Sto), (⟨[], [⟨225, 4, GBinding.trs (x15), false⟩]⟩ : Sto)] : List Sto).getD j' (⟨[], [⟨225, 4, GBinding.trs (x15), false⟩]⟩ : Sto), fun q' => ([some (.acc 4 (GBinding.trs (v8)) 0), some (.t (.row 3 (GType.trs (pp)))), some (.t (.leaf (.int .i64 (((i6 : Nat) : Int))))), some (.eptr (GType.cs (atD pp i6))), some ((GType.pv (atD pp i6))), some (.t (.row 3 (GType.trs (pall)))), some (.t (.leaf (.int .i64 (((i6 : Nat) : Int))))), some (.eptr (GType.cs (atD pall i6))), some ((GType.pv (atD pall i6))), some (.tup [.t (.row 4 (GBinding.trs (x13))), .t (.leaf (.bool (false)))]), some (.tup [.t (.row 4 (GBinding.trs (x13))), .t (.leaf (.bool (false)))]), some (.t (.row 4 (GBinding.trs (x13)))), some (.t (.leaf (.bool (false)))), some (.t (.row 4 (GBinding.trs (x13)))), some (.t (.leaf (.bool (false))))] : List (Option PV)).getD q' none, fun q' => ([.q 0 0, .q 0 0, .q 0 0, .q 0 0, .q 0 0, .q 0 0, .q 0 0, .q 0 0, .q 0 0, .ef 0, .q 1 1, .q 1 1, .q 1 1, .q 1 1, .q 1 1] : List DK).getD q' (.q 0 0), [9], none, fun q' => ([[(0, none)], [(1, none)], [(8, none)], [(23, some 1), (24, some 2)], [(25, some 3)], [(2, none)], [(8, none)], [(27, some 5), (28, some 6)], [(29, some 7)], [(30, some 8), (26, some 4), (22, some 0)], [(31, some 9)], [(21, some 10)], [(21, some 10)], [(32, some 11)], [(33, some 12)]] : List (List (Nat × Option Nat))).getD q' []⟩ rfl mixed (by kernel_rfl) rfl rfl ⟨?_, ?_, ?_, ?_, ?_, ?_, ?_, ?_, ?_, ?_, ?_, ?_, ?_, ?_, ?_, trivial⟩ rfl ?_
                · refine .inl ⟨rfl, fun s' jj bb (h1 : 0 ≤ jj) (h2 : jj ≤ 0) hs hl => ?_⟩
                  obtain rfl : jj = 0 := by omega
                  exact ⟨_, rfl, AOp.move (.inl rfl) rfl (hl 0 none _ (.head _) rfl)⟩
                · refine .inl ⟨rfl, fun s' jj bb (h1 : 0 ≤ jj) (h2 : jj ≤ 0) hs hl => ?_⟩
                  obtain rfl : jj = 0 := by omega
                  exact ⟨_, rfl, AOp.move (.inl rfl) rfl (hl 1 none _ (.head _) rfl)⟩
                · refine .inl ⟨rfl, fun s' jj bb (h1 : 0 ≤ jj) (h2 : jj ≤ 0) hs hl => ?_⟩
                  obtain rfl : jj = 0 := by omega
                  exact ⟨_, rfl, AOp.move (.inl rfl) rfl (hl 8 none _ (.head _) rfl)⟩
                · refine .inl ⟨rfl, fun s' jj bb (h1 : 0 ≤ jj) (h2 : jj ≤ 0) hs hl => ?_⟩
                  obtain rfl : jj = 0 := by omega
                  exact ⟨_, rfl, AOp.index (k := i6) rfl rfl (hl 23 (some 1) _ (.head _) rfl) rfl (hl 24 (some 2) _ (.tail _ (.head _)) rfl) (GType.trs_at h10n) el45⟩
                · refine .inl ⟨rfl, fun s' jj bb (h1 : 0 ≤ jj) (h2 : jj ≤ 0) hs hl => ?_⟩
                  obtain rfl : jj = 0 := by omega
                  exact ⟨_, rfl, AOp.loadEptr (ds := [.leaf (.int .i64 ((atD pp i6).gKind)), .leaf (.string ((atD pp i6).gName)), .row 3 (GType.trs ((atD pp i6).gArgs))]) rfl rfl (hl 25 (some 3) _ (.head _) rfl) sh47 rfl rfl⟩
                · refine .inl ⟨rfl, fun s' jj bb (h1 : 0 ≤ jj) (h2 : jj ≤ 0) hs hl => ?_⟩
                  obtain rfl : jj = 0 := by omega
                  exact ⟨_, rfl, AOp.move (.inl rfl) rfl (hl 2 none _ (.head _) rfl)⟩
                · refine .inl ⟨rfl, fun s' jj bb (h1 : 0 ≤ jj) (h2 : jj ≤ 0) hs hl => ?_⟩
                  obtain rfl : jj = 0 := by omega
                  exact ⟨_, rfl, AOp.move (.inl rfl) rfl (hl 8 none _ (.head _) rfl)⟩
                · refine .inl ⟨rfl, fun s' jj bb (h1 : 0 ≤ jj) (h2 : jj ≤ 0) hs hl => ?_⟩
                  obtain rfl : jj = 0 := by omega
                  exact ⟨_, rfl, AOp.index (k := i6) rfl rfl (hl 27 (some 5) _ (.head _) rfl) rfl (hl 28 (some 6) _ (.tail _ (.head _)) rfl) (GType.trs_at hg11) el45⟩
                · refine .inl ⟨rfl, fun s' jj bb (h1 : 0 ≤ jj) (h2 : jj ≤ 0) hs hl => ?_⟩
                  obtain rfl : jj = 0 := by omega
                  exact ⟨_, rfl, AOp.loadEptr (ds := [.leaf (.int .i64 ((atD pall i6).gKind)), .leaf (.string ((atD pall i6).gName)), .row 3 (GType.trs ((atD pall i6).gArgs))]) rfl rfl (hl 29 (some 7) _ (.head _) rfl) sh47 rfl rfl⟩
                · refine .inl ⟨rfl, fun s' bb hs hl => ?_⟩
                  refine .inl ⟨_, rfl, AOp.congr (AOp.callPE (pre := ⟨[], [⟨225, 4, GBinding.trs (v8), false⟩]⟩) (st' := ⟨[], [⟨225, 4, GBinding.trs (x15), false⟩]⟩) (ps := [_, _, _]) (qs := [.acc 4 (GBinding.trs (v8)) 0, (GType.pv (atD pp i6)), (GType.pv (atD pall i6))]) [] [0] rfl rfl Tryz.func200 (by kernel_rfl) rfl (evs_cons (hl 22 (some 0) _ (.tail _ (.tail _ (.head _))) rfl) (evs_cons (hl 26 (some 4) _ (.tail _ (.head _)) rfl) (evs_cons (hl 30 (some 8) _ (.head _) rfl) rfl))) hs (by (try rw [hs]); exact Part0.of trivial ⟨rfl, trivial⟩ (by decide) (by decide)) leA rfl rfl rfl (h_imatch v8 (atD pp i6) (atD pall i6) _ hq12)) ?_⟩
                  first | (rw [hs]; rfl) | rfl
                · refine .inl ⟨rfl, fun s' jj bb (h1 : 1 ≤ jj) (h2 : jj ≤ 1) hs hl => ?_⟩
                  obtain rfl : jj = 1 := by omega
                  exact ⟨_, rfl, AOp.move (.inl rfl) rfl (hl 31 (some 9) _ (.head _) rfl)⟩
                · refine .inl ⟨rfl, fun s' jj bb (h1 : 1 ≤ jj) (h2 : jj ≤ 1) hs hl => ?_⟩
                  obtain rfl : jj = 1 := by omega
                  exact ⟨_, rfl, AOp.extract rfl rfl (hl 21 (some 10) _ (.head _) rfl) rfl⟩
                · refine .inl ⟨rfl, fun s' jj bb (h1 : 1 ≤ jj) (h2 : jj ≤ 1) hs hl => ?_⟩
                  obtain rfl : jj = 1 := by omega
                  exact ⟨_, rfl, AOp.extract rfl rfl (hl 21 (some 10) _ (.head _) rfl) rfl⟩
                · refine .inl ⟨rfl, fun s' jj bb (h1 : 1 ≤ jj) (h2 : jj ≤ 1) hs hl => ?_⟩
                  obtain rfl : jj = 1 := by omega
                  exact ⟨_, rfl, AOp.move (.inr rfl) rfl (hl 32 (some 11) _ (.head _) rfl)⟩
                · refine .inl ⟨rfl, fun s' jj bb (h1 : 1 ≤ jj) (h2 : jj ≤ 1) hs hl => ?_⟩
                  obtain rfl : jj = 1 := by omega
                  exact ⟨_, rfl, AOp.move (.inr rfl) rfl (hl 33 (some 12) _ (.head _) rfl)⟩
                refine AWP.seq ?_
                refine AWP.seq ?_
                refine AWP.region_lit ?_
                refine AL.cons rfl (AOp.move (.inl rfl) rfl rfl) ?_
                refine AL.cons rfl (AOp.notB rfl rfl rfl) ?_
                refine AL.nil ?_
                refine AWP.cond rfl (fun h19 => ?_) (fun h19 => ?_)
                · skip
                  refine AWP.seq ?_
                  refine AWP.region_lit ?_
                  refine AL.cons rfl (AOp.move (.inr rfl) rfl rfl) ?_
                  refine AL.cons rfl (AOp.move (.inr rfl) rfl rfl) ?_
                  refine AL.nil ?_
                  refine AWP.ret ?_
                  have e20 : (imatchAll_F1 fu r_imatchAll r_imatch ps pp pall) i6 v8 = some (.ret ([], false, x15)) := gdT hg11 (bdS hq12 (swF rfl (rfl)))
                  have e21 : imatchAll_R1 fu r_imatchAll r_imatch ps pp pall = some (.inl ([], false, x15)) := loopN_ret h10l hJ9 e20
                  have e22 : imatchAll_G fu r_imatchAll r_imatch ps pp pall = some ([], false, x15) := swF h4 (soL e21)
                  have hz : ([], false, x15) = r := Option.some.inj (e22.symm.trans H)
                  subst hz
                  exact Ends.mk (ps := [_, _]) (by first | exact .inr rfl | exact .inl rfl) ⟨rfl, rfl, trivial⟩ rfl (StLe.mk' (st' := ⟨[], [⟨225, 4, GBinding.trs (x15), false⟩]⟩) trivial (by first | rfl | simp)) (keeps_all hC (boxes0) (Nat.le_of_ble_eq_true rfl)) (q := (.tup [(bif false then .acc 4 (GBinding.trs ([])) 0 else .t (.row 4 (GBinding.trs ([])))), .t (.leaf (.bool (false)))] : PV)) leA rfl ⟨rfl, rfl⟩
                · skip
                  exact absurd (h19.symm.trans (congrArg (fun b => !b) (rfl : false = false))) (by decide)
              · skip
                rcases Classical.em (x13 = x15) with hg23 | hg23
                · skip
                  have hg23c := hg23
                  subst hg23
                  refine AWP.drawnL ⟨_, _, fun j' _ => ([(⟨[], [⟨225, 4, GBinding.trs (v8), false⟩]⟩ : Sto), (⟨[], [⟨225, 4, GBinding.trs (x13), false⟩]⟩ : Sto)] : List Sto).getD j' (⟨[], [⟨225, 4, GBinding.trs (x13), false⟩]⟩ : Sto), fun q' => ([some (.acc 4 (GBinding.trs (v8)) 0), some (.t (.row 3 (GType.trs (pp)))), some (.t (.leaf (.int .i64 (((i6 : Nat) : Int))))), some (.eptr (GType.cs (atD pp i6))), some ((GType.pv (atD pp i6))), some (.t (.row 3 (GType.trs (pall)))), some (.t (.leaf (.int .i64 (((i6 : Nat) : Int))))), some (.eptr (GType.cs (atD pall i6))), some ((GType.pv (atD pall i6))), some (.tup [.acc 4 (GBinding.trs (x13)) 0, .t (.leaf (.bool (true)))]), some (.tup [.acc 4 (GBinding.trs (x13)) 0, .t (.leaf (.bool (true)))]), some (.acc 4 (GBinding.trs (x13)) 0), some (.t (.leaf (.bool (true)))), some (.acc 4 (GBinding.trs (x13)) 0), some (.t (.leaf (.bool (true))))] : List (Option PV)).getD q' none, fun q' => ([.q 0 0, .q 0 0, .q 0 0, .q 0 0, .q 0 0, .q 0 0, .q 0 0, .q 0 0, .q 0 0, .ef 0, .q 1 1, .q 1 1, .q 1 1, .q 1 1, .q 1 1] : List DK).getD q' (.q 0 0), [9], none, fun q' => ([[(0, none)], [(1, none)], [(8, none)], [(23, some 1), (24, some 2)], [(25, some 3)], [(2, none)], [(8, none)], [(27, some 5), (28, some 6)], [(29, some 7)], [(30, some 8), (26, some 4), (22, some 0)], [(31, some 9)], [(21, some 10)], [(21, some 10)], [(32, some 11)], [(33, some 12)]] : List (List (Nat × Option Nat))).getD q' []⟩ rfl mixed (by kernel_rfl) rfl rfl ⟨?_, ?_, ?_, ?_, ?_, ?_, ?_, ?_, ?_, ?_, ?_, ?_, ?_, ?_, ?_, trivial⟩ rfl ?_
                  · refine .inl ⟨rfl, fun s' jj bb (h1 : 0 ≤ jj) (h2 : jj ≤ 0) hs hl => ?_⟩
                    obtain rfl : jj = 0 := by omega
                    exact ⟨_, rfl, AOp.move (.inl rfl) rfl (hl 0 none _ (.head _) rfl)⟩
                  · refine .inl ⟨rfl, fun s' jj bb (h1 : 0 ≤ jj) (h2 : jj ≤ 0) hs hl => ?_⟩
                    obtain rfl : jj = 0 := by omega
                    exact ⟨_, rfl, AOp.move (.inl rfl) rfl (hl 1 none _ (.head _) rfl)⟩
                  · refine .inl ⟨rfl, fun s' jj bb (h1 : 0 ≤ jj) (h2 : jj ≤ 0) hs hl => ?_⟩
                    obtain rfl : jj = 0 := by omega
                    exact ⟨_, rfl, AOp.move (.inl rfl) rfl (hl 8 none _ (.head _) rfl)⟩
                  · refine .inl ⟨rfl, fun s' jj bb (h1 : 0 ≤ jj) (h2 : jj ≤ 0) hs hl => ?_⟩
                    obtain rfl : jj = 0 := by omega
                    exact ⟨_, rfl, AOp.index (k := i6) rfl rfl (hl 23 (some 1) _ (.head _) rfl) rfl (hl 24 (some 2) _ (.tail _ (.head _)) rfl) (GType.trs_at h10n) el45⟩
                  · refine .inl ⟨rfl, fun s' jj bb (h1 : 0 ≤ jj) (h2 : jj ≤ 0) hs hl => ?_⟩
                    obtain rfl : jj = 0 := by omega
                    exact ⟨_, rfl, AOp.loadEptr (ds := [.leaf (.int .i64 ((atD pp i6).gKind)), .leaf (.string ((atD pp i6).gName)), .row 3 (GType.trs ((atD pp i6).gArgs))]) rfl rfl (hl 25 (some 3) _ (.head _) rfl) sh47 rfl rfl⟩
                  · refine .inl ⟨rfl, fun s' jj bb (h1 : 0 ≤ jj) (h2 : jj ≤ 0) hs hl => ?_⟩
                    obtain rfl : jj = 0 := by omega
                    exact ⟨_, rfl, AOp.move (.inl rfl) rfl (hl 2 none _ (.head _) rfl)⟩
                  · refine .inl ⟨rfl, fun s' jj bb (h1 : 0 ≤ jj) (h2 : jj ≤ 0) hs hl => ?_⟩
                    obtain rfl : jj = 0 := by omega
                    exact ⟨_, rfl, AOp.move (.inl rfl) rfl (hl 8 none _ (.head _) rfl)⟩
                  · refine .inl ⟨rfl, fun s' jj bb (h1 : 0 ≤ jj) (h2 : jj ≤ 0) hs hl => ?_⟩
                    obtain rfl : jj = 0 := by omega
                    exact ⟨_, rfl, AOp.index (k := i6) rfl rfl (hl 27 (some 5) _ (.head _) rfl) rfl (hl 28 (some 6) _ (.tail _ (.head _)) rfl) (GType.trs_at hg11) el45⟩
                  · refine .inl ⟨rfl, fun s' jj bb (h1 : 0 ≤ jj) (h2 : jj ≤ 0) hs hl => ?_⟩
                    obtain rfl : jj = 0 := by omega
                    exact ⟨_, rfl, AOp.loadEptr (ds := [.leaf (.int .i64 ((atD pall i6).gKind)), .leaf (.string ((atD pall i6).gName)), .row 3 (GType.trs ((atD pall i6).gArgs))]) rfl rfl (hl 29 (some 7) _ (.head _) rfl) sh47 rfl rfl⟩
                  · refine .inl ⟨rfl, fun s' bb hs hl => ?_⟩
                    refine .inl ⟨_, rfl, AOp.congr (AOp.callPE (pre := ⟨[], [⟨225, 4, GBinding.trs (v8), false⟩]⟩) (st' := ⟨[], [⟨225, 4, GBinding.trs (x13), false⟩]⟩) (ps := [_, _, _]) (qs := [.acc 4 (GBinding.trs (v8)) 0, (GType.pv (atD pp i6)), (GType.pv (atD pall i6))]) [] [0] rfl rfl Tryz.func200 (by kernel_rfl) rfl (evs_cons (hl 22 (some 0) _ (.tail _ (.tail _ (.head _))) rfl) (evs_cons (hl 26 (some 4) _ (.tail _ (.head _)) rfl) (evs_cons (hl 30 (some 8) _ (.head _) rfl) rfl))) hs (by (try rw [hs]); exact Part0.of trivial ⟨rfl, trivial⟩ (by decide) (by decide)) leA rfl rfl rfl (h_imatch v8 (atD pp i6) (atD pall i6) _ hq12)) ?_⟩
                    first | (rw [hs]; rfl) | rfl
                  · refine .inl ⟨rfl, fun s' jj bb (h1 : 1 ≤ jj) (h2 : jj ≤ 1) hs hl => ?_⟩
                    obtain rfl : jj = 1 := by omega
                    exact ⟨_, rfl, AOp.move (.inl rfl) rfl (hl 31 (some 9) _ (.head _) rfl)⟩
                  · refine .inl ⟨rfl, fun s' jj bb (h1 : 1 ≤ jj) (h2 : jj ≤ 1) hs hl => ?_⟩
                    obtain rfl : jj = 1 := by omega
                    exact ⟨_, rfl, AOp.extract rfl rfl (hl 21 (some 10) _ (.head _) rfl) rfl⟩
                  · refine .inl ⟨rfl, fun s' jj bb (h1 : 1 ≤ jj) (h2 : jj ≤ 1) hs hl => ?_⟩
                    obtain rfl : jj = 1 := by omega
                    exact ⟨_, rfl, AOp.extract rfl rfl (hl 21 (some 10) _ (.head _) rfl) rfl⟩
                  · refine .inl ⟨rfl, fun s' jj bb (h1 : 1 ≤ jj) (h2 : jj ≤ 1) hs hl => ?_⟩
                    obtain rfl : jj = 1 := by omega
                    exact ⟨_, rfl, AOp.move (.inr rfl) rfl (hl 32 (some 11) _ (.head _) rfl)⟩
                  · refine .inl ⟨rfl, fun s' jj bb (h1 : 1 ≤ jj) (h2 : jj ≤ 1) hs hl => ?_⟩
                    obtain rfl : jj = 1 := by omega
                    exact ⟨_, rfl, AOp.move (.inr rfl) rfl (hl 33 (some 12) _ (.head _) rfl)⟩
                  refine AWP.seq ?_
                  refine AWP.seq ?_
                  refine AWP.region_lit ?_
                  refine AL.cons rfl (AOp.move (.inl rfl) rfl rfl) ?_
                  refine AL.cons rfl (AOp.notB rfl rfl rfl) ?_
                  refine AL.nil ?_
                  refine AWP.cond rfl (fun h24 => ?_) (fun h24 => ?_)
                  · skip
                    exact absurd (h24.symm.trans (congrArg (fun b => !b) (rfl : true = true))) (by decide)
                  · skip
                    refine AWP.skip ?_
                    refine AWP.region_lit ?_
                    refine AL.cons rfl (AOp.move (.inl rfl) rfl rfl) ?_
                    refine AL.cons rfl (AOp.move (.inr rfl) rfl rfl) ?_
                    refine AL.nil ?_
                    refine AWP.region_lit ?_
                    refine AL.cons rfl (AOp.addI rfl rfl rfl rfl (c := ((i6 + 1 : Nat) : Int)) (by omega) (by omega)) ?_
                    refine AL.cons rfl (AOp.move (.inl rfl) rfl rfl) ?_
                    refine AL.nil ?_
                    have e25 : (imatchAll_F1 fu r_imatchAll r_imatch ps pp pall) i6 v8 = some (.next x13) := gdT hg11 (bdS hq12 (swT rfl (gdT hg23c (rfl))))
                    refine ⟨(i6 + 1, x13), loopN_next h10l hJ9 e25, ?_, ?_⟩
                    · skip
                      exact Wk.mk (StLe.mk' trivial (by first | rfl | simp)) (keeps_all hC (boxes0) (Nat.le_of_ble_eq_true rfl)) ⟨⟨_, rfl, leA, rfl⟩, ⟨⟨_, rfl, .refl _, rfl⟩, ⟨⟨_, rfl, .refl _, rfl⟩, ⟨⟨_, rfl, .refl _, rfl⟩, ⟨⟨_, rfl, .refl _, rfl⟩, ⟨⟨_, rfl, .refl _, rfl⟩, ⟨⟨_, rfl, leA, rfl⟩, trivial⟩⟩⟩⟩⟩⟩⟩
                    · dsimp only; omega
                · skip
                  have e26 : (imatchAll_F1 fu r_imatchAll r_imatch ps pp pall) i6 v8 = none := gdT hg11 (bdS hq12 (swT rfl (gdF hg23)))
                  have e27 : imatchAll_R1 fu r_imatchAll r_imatch ps pp pall = none := loopN_non h10l hJ9 e26
                  have e28 : imatchAll_G fu r_imatchAll r_imatch ps pp pall = none := swF h4 (soN e27)
                  exact none_some H e28
          · skip
            have e29 : (imatchAll_F1 fu r_imatchAll r_imatch ps pp pall) i6 v8 = none := gdF hg11
            have e30 : imatchAll_R1 fu r_imatchAll r_imatch ps pp pall = none := loopN_non h10l hJ9 e29
            have e31 : imatchAll_G fu r_imatchAll r_imatch ps pp pall = none := swF h4 (soN e30)
            exact none_some H e31
        · skip
          have h10l : pp.length ≤ i6 := nat_ge_of2 h10
          refine AWP.exit ?_
          refine ⟨v8, loopN_end h10l hJ9, ?_⟩
          exact Wk.mk (StLe.mk' trivial (by first | rfl | simp)) (keeps_all hC (boxes0) (Nat.le_of_ble_eq_true rfl)) ⟨⟨_, rfl, .refl _, rfl⟩, ⟨⟨_, rfl, .refl _, rfl⟩, ⟨⟨_, rfl, .refl _, rfl⟩, trivial⟩⟩⟩
    · rintro v8 hR32
      refine AWP.seq ?_
      refine AWP.region_lit ?_
      refine AL.cons rfl (AOp.move (.inl rfl) rfl rfl) ?_
      refine AL.cons rfl (AOp.move (.inr rfl) rfl rfl) ?_
      refine AL.cons rfl (AOp.move (.inr rfl) rfl rfl) ?_
      refine AL.nil ?_
      refine AWP.ret ?_
      have e33 : imatchAll_G fu r_imatchAll r_imatch ps pp pall = some (v8, true, v8) := swF h4 (soR hR32 (rfl))
      have hz : (v8, true, v8) = r := Option.some.inj (e33.symm.trans H)
      subst hz
      exact Ends.mk (ps := [_, _]) (by first | exact .inr rfl | exact .inl rfl) ⟨rfl, rfl, trivial⟩ rfl (StLe.mk' (st' := ⟨[], [⟨225, 4, GBinding.trs (v8), false⟩]⟩) trivial (by first | rfl | simp)) (keeps_all hC (boxes0) (Nat.le_of_ble_eq_true rfl)) (q := (.tup [(bif true then .acc 4 (GBinding.trs (v8)) 0 else .t (.row 4 (GBinding.trs (v8)))), .t (.leaf (.bool (true)))] : PV)) leA rfl ⟨rfl, rfl⟩
noncomputable def imatch_G (fu : Nat) (r_imatchAll : (List GBinding) → (List GType) → (List GType) → Option ((List GBinding) × Bool × (List GBinding))) (r_imatch : (List GBinding) → GType → GType → Option ((List GBinding) × Bool × (List GBinding))) (ps : List GBinding) (pp : GType) (pt : GType) : Option ((List GBinding) × Bool × (List GBinding)) :=
 sw (decide ((pp.gKind : Int) = 1))
 (bd (iLookup_M fu ps pp.gName) (fun (x4, x5) =>
 sw (x5)
 (sw (GType.eq x4 pt)
 (some (ps, (GType.eq x4 pt), ps))
 (some (ps, (GType.eq x4 pt), ps)))
 (gd (Tr.bulkL (GType.tr pt) ≤ 68719476735)
 (gd ((ps).length + (([(GBinding.mk pp.gName pt)] : List GBinding)).length ≤ 68719476736)
 (some ((ps ++ ([(GBinding.mk pp.gName pt)] : List GBinding)), true, (ps ++ ([(GBinding.mk pp.gName pt)] : List GBinding))))))))
 (sw (!decide ((pp.gKind : Int) = pt.gKind))
 (some ([], false, ps))
 (sw (!decide (pp.gName = pt.gName))
 (some ([], false, ps))
 (bd (r_imatchAll ps pp.gArgs pt.gArgs) (fun (x24, x25, x26) =>
 sw (x25)
 (gd (x24 = x26)
 (some (x24, true, x24)))
 (some (x24, false, x26))))))
set_option maxRecDepth 100000 in
set_option maxHeartbeats 4000000 in
theorem imatch_step (r_imatchAll : (List GBinding) → (List GType) → (List GType) → Option ((List GBinding) × Bool × (List GBinding))) (r_imatch : (List GBinding) → GType → GType → Option ((List GBinding) × Bool × (List GBinding))) (fu : Nat) (h_imatchAll : ∀ (ps : List GBinding) (pp : List GType) (pall : List GType) (r : (List GBinding) × Bool × (List GBinding)), r_imatchAll ps pp pall = some r → ACalls Tryz.prog 159 [.acc 4 (GBinding.trs (ps)) 0, .t (.row 3 (GType.trs (pp))), .t (.row 3 (GType.trs (pall)))] ⟨[], [⟨225, 4, GBinding.trs (ps), false⟩]⟩ (fun q t => q = (.tup [(bif r.2.1 then .acc 4 (GBinding.trs (r.1)) 0 else .t (.row 4 (GBinding.trs (r.1)))), .t (.leaf (.bool (r.2.1)))] : PV) ∧ t = ⟨[], [⟨225, 4, GBinding.trs (r.2.2), false⟩]⟩)) (h_imatch : ∀ (ps : List GBinding) (pp : GType) (pt : GType) (r : (List GBinding) × Bool × (List GBinding)), r_imatch ps pp pt = some r → ACalls Tryz.prog 200 [.acc 4 (GBinding.trs (ps)) 0, (GType.pv pp), (GType.pv pt)] ⟨[], [⟨225, 4, GBinding.trs (ps), false⟩]⟩ (fun q t => q = (.tup [(bif r.2.1 then .acc 4 (GBinding.trs (r.1)) 0 else .t (.row 4 (GBinding.trs (r.1)))), .t (.leaf (.bool (r.2.1)))] : PV) ∧ t = ⟨[], [⟨225, 4, GBinding.trs (r.2.2), false⟩]⟩)) (ps : List GBinding) (pp : GType) (pt : GType) (r : (List GBinding) × Bool × (List GBinding)) (H : imatch_G fu r_imatchAll r_imatch ps pp pt = some r) : ACalls Tryz.prog 200 [.acc 4 (GBinding.trs (ps)) 0, (GType.pv pp), (GType.pv pt)] ⟨[], [⟨225, 4, GBinding.trs (ps), false⟩]⟩ (fun q t => q = (.tup [(bif r.2.1 then .acc 4 (GBinding.trs (r.1)) 0 else .t (.row 4 (GBinding.trs (r.1)))), .t (.leaf (.bool (r.2.1)))] : PV) ∧ t = ⟨[], [⟨225, 4, GBinding.trs (r.2.2), false⟩]⟩) := by
  refine ACalls.intro Tryz.func200 rfl (by first | decide | (simp; done) | (simp; decide)) ?_
  intro C hC
  refine AWP.fact (lk_lenN 0 rfl rfl (GBinding.trs_len _)) (fun hl1 => ?_)
  refine AWP.seq ?_
  refine AWP.region_lit ?_
  refine AL.cons rfl (AOp.box (cs := [.t (.leaf (.int .i64 (pp.gKind))), .t (.leaf (.string (pp.gName))), .t (.row 3 (GType.trs (pp.gArgs)))]) rfl rfl rfl rfl rfl) ?_
  refine AL.cons rfl (AOp.box (cs := [.t (.leaf (.int .i64 (pt.gKind))), .t (.leaf (.string (pt.gName))), .t (.row 3 (GType.trs (pt.gArgs)))]) rfl rfl rfl rfl rfl) ?_
  refine AL.cons rfl (AOp.move (.inr rfl) rfl rfl) ?_
  refine AL.cons rfl (AOp.move (.inr rfl) rfl rfl) ?_
  refine AL.nil ?_
  refine AWP.seq ?_
  refine AWP.seq ?_
  refine AWP.region_lit ?_
  refine AL.cons rfl (AOp.fieldPtr (k := 0) (d := 0) (e := 0) rfl rfl rfl fo47_0) ?_
  refine AL.cons rfl (AOp.loadPtr1 rfl rfl rfl rfl sh3 rfl) ?_
  refine AL.cons rfl (AOp.eqlI rfl rfl rfl rfl) ?_
  refine AL.nil ?_
  refine AWP.cond rfl (fun h2 => ?_) (fun h2 => ?_)
  · skip
    refine AWP.seq ?_
    refine AWP.seq ?_
    refine AWP.region_lit ?_
    refine AL.cons rfl (AOp.move (.inl rfl) rfl rfl) ?_
    refine AL.cons rfl (AOp.fieldPtr (k := 0) (d := 0) (e := 1) rfl rfl rfl fo47_1) ?_
    refine AL.cons rfl (AOp.loadPtr1 rfl rfl rfl rfl sh9 rfl) ?_
    rcases hq3 : iLookup_M fu ps pp.gName with _ | ⟨x4, x5⟩
    · skip
      have e6 : imatch_G fu r_imatchAll r_imatch ps pp pt = none := swT h2 (bdN hq3)
      exact none_some H e6
    · skip
      refine AL.cons rfl (AOp.callF (res := .tup [(GType.pv x4), .t (.leaf (.bool (x5)))]) (ps := [_, _]) rfl rfl Tryz.func160 (by kernel_rfl) rfl rfl leA rfl rfl (iLookup_ok fu ps pp.gName _ hq3)) ?_
      refine AL.cons rfl (AOp.move (.inl rfl) rfl rfl) ?_
      refine AL.cons rfl (AOp.extract rfl rfl rfl rfl) ?_
      refine AL.cons rfl (AOp.extract rfl rfl rfl rfl) ?_
      refine AL.cons rfl (AOp.alloc rfl rfl zr47) ?_
      refine AL.cons rfl (AOp.storePtr (cs := [.t (.leaf (.int .i64 (x4.gKind))), .t (.leaf (.string (x4.gName))), .t (.row 3 (GType.trs (x4.gArgs)))]) (ds := [.t (.leaf (.int .i64 (x4.gKind))), .t (.leaf (.string (x4.gName))), .t (.row 3 (GType.trs (x4.gArgs)))]) rfl rfl rfl rfl rfl rfl rfl sz47 (Nat.le_of_ble_eq_true rfl) rfl) ?_
      refine AL.cons rfl (AOp.move (.inr rfl) rfl rfl) ?_
      refine AL.nil ?_
      refine AWP.seq ?_
      refine AWP.region_lit ?_
      refine AL.cons rfl (AOp.move (.inl rfl) rfl rfl) ?_
      refine AL.nil ?_
      refine AWP.cond rfl (fun h7 => ?_) (fun h7 => ?_)
      · skip
        refine AWP.seq ?_
        refine AWP.region_lit ?_
        refine AL.cons rfl (AOp.move (.inl rfl) rfl rfl) ?_
        refine AL.cons rfl (AOp.loadPtr (cs := [.t (.leaf (.int .i64 (x4.gKind))), .t (.leaf (.string (x4.gName))), .t (.row 3 (GType.trs (x4.gArgs)))]) rfl rfl rfl rfl sh47 rfl rfl) ?_
        refine AL.cons rfl (AOp.loadPtr (cs := [.t (.leaf (.int .i64 (pt.gKind))), .t (.leaf (.string (pt.gName))), .t (.row 3 (GType.trs (pt.gArgs)))]) rfl rfl rfl rfl sh47 rfl rfl) ?_
        refine AL.cons rfl (AOp.callF (res := .t (.leaf (.bool (GType.eq x4 pt)))) (ps := [_, _]) rfl rfl Tryz.func215 (by kernel_rfl) rfl rfl leA rfl rfl (iEqualType_fn x4 pt)) ?_
        refine AL.cons rfl (AOp.move (.inr rfl) rfl rfl) ?_
        refine AL.cons rfl (AOp.move (.inr rfl) rfl rfl) ?_
        refine AL.nil ?_
        refine AWP.ret ?_
        rcases bool2 (GType.eq x4 pt) with g8 | g8
        · skip
          have e9 : imatch_G fu r_imatchAll r_imatch ps pp pt = some (ps, (GType.eq x4 pt), ps) := swT h2 (bdS hq3 (swT h7 (swT g8 (rfl))))
          have hz : (ps, (GType.eq x4 pt), ps) = r := Option.some.inj (e9.symm.trans H)
          subst hz
          exact Ends.mk (ps := [_, _]) (by first | exact .inr rfl | exact .inl rfl) ⟨rfl, rfl, trivial⟩ rfl (StLe.mk' (st' := ⟨[], [⟨225, 4, GBinding.trs (ps), false⟩]⟩) trivial (by first | rfl | simp)) (keeps_all hC (boxes0) (Nat.le_of_ble_eq_true rfl)) (q := (.tup [(bif (GType.eq x4 pt) then .acc 4 (GBinding.trs (ps)) 0 else .t (.row 4 (GBinding.trs (ps)))), .t (.leaf (.bool ((GType.eq x4 pt))))] : PV)) (by rw [g8]; exact leA) (by rw [g8]; rfl) ⟨rfl, rfl⟩
        · skip
          have e10 : imatch_G fu r_imatchAll r_imatch ps pp pt = some (ps, (GType.eq x4 pt), ps) := swT h2 (bdS hq3 (swT h7 (swF g8 (rfl))))
          have hz : (ps, (GType.eq x4 pt), ps) = r := Option.some.inj (e10.symm.trans H)
          subst hz
          exact Ends.mk (ps := [_, _]) (by first | exact .inr rfl | exact .inl rfl) ⟨rfl, rfl, trivial⟩ rfl (StLe.mk' (st' := ⟨[], [⟨225, 4, GBinding.trs (ps), false⟩]⟩) trivial (by first | rfl | simp)) (keeps_all hC (boxes0) (Nat.le_of_ble_eq_true rfl)) (q := (.tup [(bif (GType.eq x4 pt) then .acc 4 (GBinding.trs (ps)) 0 else .t (.row 4 (GBinding.trs (ps)))), .t (.leaf (.bool ((GType.eq x4 pt))))] : PV)) (by rw [g8]; exact leA) (by rw [g8]; rfl) ⟨rfl, rfl⟩
      · skip
        refine AWP.skip ?_
        refine AWP.seq ?_
        rcases Classical.em (Tr.bulkL (GType.tr pt) ≤ 68719476735) with hg11 | hg11
        · skip
          rcases Classical.em ((ps).length + (([(GBinding.mk pp.gName pt)] : List GBinding)).length ≤ 68719476736) with hg12 | hg12
          · skip
            refine AWP.drawnL ⟨_, _, fun j' _ => ([(⟨[some ⟨47, [.t (.leaf (.int .i64 (pp.gKind))), .t (.leaf (.string (pp.gName))), .t (.row 3 (GType.trs (pp.gArgs)))]⟩, some ⟨47, [.t (.leaf (.int .i64 (pt.gKind))), .t (.leaf (.string (pt.gName))), .t (.row 3 (GType.trs (pt.gArgs)))]⟩, some ⟨47, [.t (.leaf (.int .i64 (x4.gKind))), .t (.leaf (.string (x4.gName))), .t (.row 3 (GType.trs (x4.gArgs)))]⟩], [⟨225, 4, GBinding.trs (ps), false⟩]⟩ : Sto), (⟨[some ⟨47, [.t (.leaf (.int .i64 (pp.gKind))), .t (.leaf (.string (pp.gName))), .t (.row 3 (GType.trs (pp.gArgs)))]⟩, some ⟨47, [.t (.leaf (.int .i64 (pt.gKind))), .t (.leaf (.string (pt.gName))), .t (.row 3 (GType.trs (pt.gArgs)))]⟩, some ⟨47, [.t (.leaf (.int .i64 (x4.gKind))), .t (.leaf (.string (x4.gName))), .t (.row 3 (GType.trs (x4.gArgs)))]⟩], [⟨225, 4, GBinding.trs (ps ++ ([(GBinding.mk pp.gName pt)] : List GBinding)), false⟩]⟩ : Sto)] : List Sto).getD j' (⟨[some ⟨47, [.t (.leaf (.int .i64 (pp.gKind))), .t (.leaf (.string (pp.gName))), .t (.row 3 (GType.trs (pp.gArgs)))]⟩, some ⟨47, [.t (.leaf (.int .i64 (pt.gKind))), .t (.leaf (.string (pt.gName))), .t (.row 3 (GType.trs (pt.gArgs)))]⟩, some ⟨47, [.t (.leaf (.int .i64 (x4.gKind))), .t (.leaf (.string (x4.gName))), .t (.row 3 (GType.trs (x4.gArgs)))]⟩], [⟨225, 4, GBinding.trs (ps ++ ([(GBinding.mk pp.gName pt)] : List GBinding)), false⟩]⟩ : Sto), fun q' => ([some (.acc 4 (GBinding.trs (ps)) 0), some (.ptr 0 1), some (.t (.leaf (.string (pp.gName)))), some ((GType.pv pt)), some ((GType.pv pt)), some (.agg [.t (.leaf (.string (pp.gName))), .t (.leaf (.int .i64 (pt.gKind))), .t (.leaf (.string (pt.gName))), .t (.row 3 (GType.trs (pt.gArgs)))]), some (.t (.row 4 (GBinding.trs (([(GBinding.mk pp.gName pt)] : List GBinding))))), some (.acc 4 (GBinding.trs (ps ++ ([(GBinding.mk pp.gName pt)] : List GBinding))) 0), some (.acc 4 (GBinding.trs (ps ++ ([(GBinding.mk pp.gName pt)] : List GBinding))) 0), some (.t (.leaf (.bool (true))))] : List (Option PV)).getD q' none, fun q' => ([.q 0 0, .q 0 0, .q 0 0, .q 0 0, .q 0 0, .q 0 0, .q 0 0, .ef 0, .q 1 1, .q 1 1] : List DK).getD q' (.q 0 0), [7], none, fun q' => ([[(0, none)], [(4, none)], [(26, some 1)], [(5, none)], [(28, some 3)], [(29, some 4), (27, some 2)], [(30, some 5)], [(25, some 0), (31, some 6)], [(32, some 7)], []] : List (List (Nat × Option Nat))).getD q' []⟩ rfl mixed (by kernel_rfl) rfl rfl ⟨?_, ?_, ?_, ?_, ?_, ?_, ?_, ?_, ?_, ?_, trivial⟩ rfl ?_
            · refine .inl ⟨rfl, fun s' jj bb (h1 : 0 ≤ jj) (h2 : jj ≤ 0) hs hl => ?_⟩
              obtain rfl : jj = 0 := by omega
              exact ⟨_, rfl, AOp.move (.inl rfl) rfl (hl 0 none _ (.head _) rfl)⟩
            · refine .inl ⟨rfl, fun s' jj bb (h1 : 0 ≤ jj) (h2 : jj ≤ 0) hs hl => ?_⟩
              obtain rfl : jj = 0 := by omega
              exact ⟨_, rfl, AOp.fieldPtr (k := 0) (d := 0) (e := 1) rfl rfl (hl 4 none _ (.head _) rfl) fo47_1⟩
            · refine .inl ⟨rfl, fun s' jj bb (h1 : 0 ≤ jj) (h2 : jj ≤ 0) hs hl => ?_⟩
              obtain rfl : jj = 0 := by omega
              exact ⟨_, rfl, AOp.loadPtr1 rfl rfl (hl 26 (some 1) _ (.head _) rfl) (by rw [hs]; rfl) sh9 rfl⟩
            · refine .inl ⟨rfl, fun s' jj bb (h1 : 0 ≤ jj) (h2 : jj ≤ 0) hs hl => ?_⟩
              obtain rfl : jj = 0 := by omega
              exact ⟨_, rfl, AOp.loadPtr (cs := [.t (.leaf (.int .i64 (pt.gKind))), .t (.leaf (.string (pt.gName))), .t (.row 3 (GType.trs (pt.gArgs)))]) rfl rfl (hl 5 none _ (.head _) rfl) (by rw [hs]; rfl) sh47 rfl rfl⟩
            · refine .inl ⟨rfl, fun s' jj bb (h1 : 0 ≤ jj) (h2 : jj ≤ 0) hs hl => ?_⟩
              obtain rfl : jj = 0 := by omega
              exact ⟨_, rfl, AOp.callF (res := (GType.pv pt)) (ps := [_]) rfl rfl Tryz.func111 (by kernel_rfl) rfl (evs_cons (hl 28 (some 3) _ (.head _) rfl) rfl) leA rfl rfl (icopyType_fn pt hg11)⟩
            · refine .inl ⟨rfl, fun s' jj bb (h1 : 0 ≤ jj) (h2 : jj ≤ 0) hs hl => ?_⟩
              obtain rfl : jj = 0 := by omega
              exact ⟨_, rfl, AOp.build rfl rfl zr225 pl225 (parts_cons (hl 27 (some 2) _ (.tail _ (.head _)) rfl) rfl rfl (parts_cons (hl 29 (some 4) _ (.head _) rfl) rfl rfl rfl)) rfl⟩
            · refine .inl ⟨rfl, fun s' jj bb (h1 : 0 ≤ jj) (h2 : jj ≤ 0) hs hl => ?_⟩
              obtain rfl : jj = 0 := by omega
              exact ⟨_, rfl, AOp.buildSliceE (es := [GBinding.cs (GBinding.mk pp.gName pt)]) (es' := GBinding.trs (([(GBinding.mk pp.gName pt)] : List GBinding))) (cs := [.t (.leaf (.string (pp.gName))), .t (.leaf (.int .i64 (pt.gKind))), .t (.leaf (.string (pt.gName))), .t (.row 3 (GType.trs (pt.gArgs)))]) rfl rfl el138 zr225 (parts_cons (hl 30 (some 5) _ (.head _) rfl) rfl rfl rfl) rfl leA rfl (by simp [GBinding.cs]) (by decide) rfl (by decide) (by simp [GBinding.trs_map, GBinding.tr_cs])⟩
            · refine .inl ⟨rfl, fun s' bb hs hl => ?_⟩
              refine .inl ⟨_, rfl, AOp.congr (AOp.appendE (es3 := GBinding.trs (ps ++ ([(GBinding.mk pp.gName pt)] : List GBinding))) rfl rfl (hl 25 (some 0) _ (.head _) rfl) (by rw [hs]; rfl) rfl rfl rfl (hl 31 (some 6) _ (.tail _ (.head _)) rfl) rfl (fun e he => by rw [GBinding.trs_map] at he; obtain ⟨x, _, rfl⟩ := List.mem_map.1 he; rw [GBinding.tr_cs]; rfl) el138 ze138 (by decide) (by rw [GBinding.trs_len, GBinding.trs_len]; exact room_le hg12 (by decide)) (by rw [GBinding.trs_map, GBinding.trs_map, GBinding.trs_map, List.map_append])) ?_⟩
              first | (rw [hs]; rfl) | rfl
            · refine .inl ⟨rfl, fun s' jj bb (h1 : 1 ≤ jj) (h2 : jj ≤ 1) hs hl => ?_⟩
              obtain rfl : jj = 1 := by omega
              exact ⟨_, rfl, AOp.move (.inr rfl) rfl (hl 32 (some 7) _ (.head _) rfl)⟩
            · refine .inl ⟨rfl, fun s' jj bb (h1 : 1 ≤ jj) (h2 : jj ≤ 1) hs hl => ?_⟩
              obtain rfl : jj = 1 := by omega
              exact ⟨_, rfl, AOp.move (.inr rfl) rfl rfl⟩
            refine AWP.ret ?_
            have e13 : imatch_G fu r_imatchAll r_imatch ps pp pt = some ((ps ++ ([(GBinding.mk pp.gName pt)] : List GBinding)), true, (ps ++ ([(GBinding.mk pp.gName pt)] : List GBinding))) := swT h2 (bdS hq3 (swF h7 (gdT hg11 (gdT hg12 (rfl)))))
            have hz : ((ps ++ ([(GBinding.mk pp.gName pt)] : List GBinding)), true, (ps ++ ([(GBinding.mk pp.gName pt)] : List GBinding))) = r := Option.some.inj (e13.symm.trans H)
            subst hz
            exact Ends.mk (ps := [_, _]) (by first | exact .inr rfl | exact .inl rfl) ⟨rfl, rfl, trivial⟩ rfl (StLe.mk' (st' := ⟨[], [⟨225, 4, GBinding.trs ((ps ++ ([(GBinding.mk pp.gName pt)] : List GBinding))), false⟩]⟩) trivial (by first | rfl | simp)) (keeps_all hC (boxes0) (Nat.le_of_ble_eq_true rfl)) (q := (.tup [(bif true then .acc 4 (GBinding.trs (ps ++ ([(GBinding.mk pp.gName pt)] : List GBinding))) 0 else .t (.row 4 (GBinding.trs (ps ++ ([(GBinding.mk pp.gName pt)] : List GBinding))))), .t (.leaf (.bool (true)))] : PV)) leA rfl ⟨rfl, rfl⟩
          · skip
            have e14 : imatch_G fu r_imatchAll r_imatch ps pp pt = none := swT h2 (bdS hq3 (swF h7 (gdT hg11 (gdF hg12))))
            exact none_some H e14
        · skip
          have e15 : imatch_G fu r_imatchAll r_imatch ps pp pt = none := swT h2 (bdS hq3 (swF h7 (gdF hg11)))
          exact none_some H e15
  · skip
    refine AWP.skip ?_
    refine AWP.seq ?_
    refine AWP.seq ?_
    refine AWP.region_lit ?_
    refine AL.cons rfl (AOp.fieldPtr (k := 0) (d := 0) (e := 0) rfl rfl rfl fo47_0) ?_
    refine AL.cons rfl (AOp.loadPtr1 rfl rfl rfl rfl sh3 rfl) ?_
    refine AL.cons rfl (AOp.fieldPtr (k := 1) (d := 0) (e := 0) rfl rfl rfl fo47_0) ?_
    refine AL.cons rfl (AOp.loadPtr1 rfl rfl rfl rfl sh3 rfl) ?_
    refine AL.cons rfl (AOp.neqI rfl rfl rfl rfl) ?_
    refine AL.cons rfl (AOp.move (.inl rfl) rfl rfl) ?_
    refine AL.splitB 38 rfl (fun g16 => ?_) (fun g16 => ?_)
    · skip
      refine AL.skipP rfl rfl rfl g16 rfl rfl ?_
      refine AL.skipP rfl rfl rfl g16 rfl rfl ?_
      refine AL.skipP rfl rfl rfl g16 rfl rfl ?_
      refine AL.skipP rfl rfl rfl g16 rfl rfl ?_
      refine AL.skipP rfl rfl rfl g16 rfl rfl ?_
      refine AL.cons rfl (AOp.pickT rfl rfl rfl g16 rfl) ?_
      refine AL.nil ?_
      refine AWP.cond rfl (fun h17 => ?_) (fun h17 => ?_)
      · skip
        refine AWP.seq ?_
        refine AWP.region_lit ?_
        refine AL.cons rfl (AOp.move (.inr rfl) rfl rfl) ?_
        refine AL.cons rfl (AOp.move (.inr rfl) rfl rfl) ?_
        refine AL.nil ?_
        refine AWP.ret ?_
        have e18 : imatch_G fu r_imatchAll r_imatch ps pp pt = some ([], false, ps) := swF h2 (swT g16 (rfl))
        have hz : ([], false, ps) = r := Option.some.inj (e18.symm.trans H)
        subst hz
        exact Ends.mk (ps := [_, _]) (by first | exact .inr rfl | exact .inl rfl) ⟨rfl, rfl, trivial⟩ rfl (StLe.mk' (st' := ⟨[], [⟨225, 4, GBinding.trs (ps), false⟩]⟩) trivial (by first | rfl | simp)) (keeps_all hC (boxes0) (Nat.le_of_ble_eq_true rfl)) (q := (.tup [(bif false then .acc 4 (GBinding.trs ([])) 0 else .t (.row 4 (GBinding.trs ([])))), .t (.leaf (.bool (false)))] : PV)) leA rfl ⟨rfl, rfl⟩
      · skip
        exact absurd (h17.symm.trans rfl) (by decide)
    · skip
      refine AL.cons_gv rfl rfl rfl g16 (AOp.fieldPtr (k := 0) (d := 0) (e := 1) rfl rfl rfl fo47_1) ?_
      refine AL.cons_gv rfl rfl rfl g16 (AOp.loadPtr1 rfl rfl rfl rfl sh9 rfl) ?_
      refine AL.cons_gv rfl rfl rfl g16 (AOp.fieldPtr (k := 1) (d := 0) (e := 1) rfl rfl rfl fo47_1) ?_
      refine AL.cons_gv rfl rfl rfl g16 (AOp.loadPtr1 rfl rfl rfl rfl sh9 rfl) ?_
      refine AL.cons_gv rfl rfl rfl g16 (AOp.neqS rfl rfl rfl rfl) ?_
      refine AL.cons rfl (AOp.pickF rfl rfl rfl g16 rfl) ?_
      refine AL.nil ?_
      refine AWP.cond rfl (fun h19 => ?_) (fun h19 => ?_)
      · skip
        refine AWP.seq ?_
        refine AWP.region_lit ?_
        refine AL.cons rfl (AOp.move (.inr rfl) rfl rfl) ?_
        refine AL.cons rfl (AOp.move (.inr rfl) rfl rfl) ?_
        refine AL.nil ?_
        refine AWP.ret ?_
        have e20 : imatch_G fu r_imatchAll r_imatch ps pp pt = some ([], false, ps) := swF h2 (swF g16 (swT h19 (rfl)))
        have hz : ([], false, ps) = r := Option.some.inj (e20.symm.trans H)
        subst hz
        exact Ends.mk (ps := [_, _]) (by first | exact .inr rfl | exact .inl rfl) ⟨rfl, rfl, trivial⟩ rfl (StLe.mk' (st' := ⟨[], [⟨225, 4, GBinding.trs (ps), false⟩]⟩) trivial (by first | rfl | simp)) (keeps_all hC (boxes0) (Nat.le_of_ble_eq_true rfl)) (q := (.tup [(bif false then .acc 4 (GBinding.trs ([])) 0 else .t (.row 4 (GBinding.trs ([])))), .t (.leaf (.bool (false)))] : PV)) leA rfl ⟨rfl, rfl⟩
      · skip
        refine AWP.skip ?_
        refine AWP.seq ?_
        refine AWP.region_lit ?_
        refine AL.cons rfl (AOp.move (.inl rfl) rfl rfl) ?_
        refine AL.cons rfl (AOp.fieldPtr (k := 0) (d := 0) (e := 2) rfl rfl rfl fo47_2) ?_
        refine AL.cons rfl (AOp.loadPtr1 rfl rfl rfl rfl sh45 rfl) ?_
        refine AL.fact (lk_lenN 47 rfl rfl (GType.trs_len _)) (fun hl21 => ?_)
        refine AL.cons rfl (AOp.fieldPtr (k := 1) (d := 0) (e := 2) rfl rfl rfl fo47_2) ?_
        refine AL.cons rfl (AOp.loadPtr1 rfl rfl rfl rfl sh45 rfl) ?_
        refine AL.fact (lk_lenN 49 rfl rfl (GType.trs_len _)) (fun hl22 => ?_)
        rcases hq23 : r_imatchAll ps pp.gArgs pt.gArgs with _ | ⟨x24, x25, x26⟩
        · skip
          have e27 : imatch_G fu r_imatchAll r_imatch ps pp pt = none := swF h2 (swF g16 (swF h19 (bdN hq23)))
          exact none_some H e27
        · skip
          cases x25
          · skip
            refine AL.cons rfl (AOp.callPE (pre := ⟨[], [⟨225, 4, GBinding.trs (ps), false⟩]⟩) (st' := ⟨[], [⟨225, 4, GBinding.trs (x26), false⟩]⟩) (ps := [_, _, _]) (qs := [.acc 4 (GBinding.trs (ps)) 0, .t (.row 3 (GType.trs (pp.gArgs))), .t (.row 3 (GType.trs (pt.gArgs)))]) [] [0] rfl rfl Tryz.func159 (by kernel_rfl) rfl rfl rfl (Part0.of trivial ⟨rfl, trivial⟩ (by decide) (by decide)) leA rfl rfl rfl (h_imatchAll ps pp.gArgs pt.gArgs _ hq23)) ?_
            refine AL.cons rfl (AOp.extract rfl rfl rfl rfl) ?_
            refine AL.cons rfl (AOp.extract rfl rfl rfl rfl) ?_
            refine AL.cons rfl (AOp.move (.inr rfl) rfl rfl) ?_
            refine AL.cons rfl (AOp.move (.inr rfl) rfl rfl) ?_
            refine AL.nil ?_
            refine AWP.ret ?_
            have e28 : imatch_G fu r_imatchAll r_imatch ps pp pt = some (x24, false, x26) := swF h2 (swF g16 (swF h19 (bdS hq23 (swF rfl (rfl)))))
            have hz : (x24, false, x26) = r := Option.some.inj (e28.symm.trans H)
            subst hz
            exact Ends.mk (ps := [_, _]) (by first | exact .inr rfl | exact .inl rfl) ⟨rfl, rfl, trivial⟩ rfl (StLe.mk' (st' := ⟨[], [⟨225, 4, GBinding.trs (x26), false⟩]⟩) trivial (by first | rfl | simp)) (keeps_all hC (boxes0) (Nat.le_of_ble_eq_true rfl)) (q := (.tup [(bif false then .acc 4 (GBinding.trs (x24)) 0 else .t (.row 4 (GBinding.trs (x24)))), .t (.leaf (.bool (false)))] : PV)) leA rfl ⟨rfl, rfl⟩
          · skip
            rcases Classical.em (x24 = x26) with hg29 | hg29
            · skip
              have hg29c := hg29
              subst hg29
              refine AL.cons rfl (AOp.callPE (pre := ⟨[], [⟨225, 4, GBinding.trs (ps), false⟩]⟩) (st' := ⟨[], [⟨225, 4, GBinding.trs (x24), false⟩]⟩) (ps := [_, _, _]) (qs := [.acc 4 (GBinding.trs (ps)) 0, .t (.row 3 (GType.trs (pp.gArgs))), .t (.row 3 (GType.trs (pt.gArgs)))]) [] [0] rfl rfl Tryz.func159 (by kernel_rfl) rfl rfl rfl (Part0.of trivial ⟨rfl, trivial⟩ (by decide) (by decide)) leA rfl rfl rfl (h_imatchAll ps pp.gArgs pt.gArgs _ hq23)) ?_
              refine AL.cons rfl (AOp.extract rfl rfl rfl rfl) ?_
              refine AL.cons rfl (AOp.extract rfl rfl rfl rfl) ?_
              refine AL.cons rfl (AOp.move (.inr rfl) rfl rfl) ?_
              refine AL.cons rfl (AOp.move (.inr rfl) rfl rfl) ?_
              refine AL.nil ?_
              refine AWP.ret ?_
              have e30 : imatch_G fu r_imatchAll r_imatch ps pp pt = some (x24, true, x24) := swF h2 (swF g16 (swF h19 (bdS hq23 (swT rfl (gdT hg29c (rfl))))))
              have hz : (x24, true, x24) = r := Option.some.inj (e30.symm.trans H)
              subst hz
              exact Ends.mk (ps := [_, _]) (by first | exact .inr rfl | exact .inl rfl) ⟨rfl, rfl, trivial⟩ rfl (StLe.mk' (st' := ⟨[], [⟨225, 4, GBinding.trs (x24), false⟩]⟩) trivial (by first | rfl | simp)) (keeps_all hC (boxes0) (Nat.le_of_ble_eq_true rfl)) (q := (.tup [(bif true then .acc 4 (GBinding.trs (x24)) 0 else .t (.row 4 (GBinding.trs (x24)))), .t (.leaf (.bool (true)))] : PV)) leA rfl ⟨rfl, rfl⟩
            · skip
              have e31 : imatch_G fu r_imatchAll r_imatch ps pp pt = none := swF h2 (swF g16 (swF h19 (bdS hq23 (swT rfl (gdF hg29)))))
              exact none_some H e31
mutual
noncomputable def imatchAll_M : Nat → (List GBinding) → (List GType) → (List GType) → Option ((List GBinding) × Bool × (List GBinding))
  | 0, _, _, _ => none
  | fu + 1, ps, pp, pall => imatchAll_G fu (imatchAll_M fu) (imatch_M fu) ps pp pall
noncomputable def imatch_M : Nat → (List GBinding) → GType → GType → Option ((List GBinding) × Bool × (List GBinding))
  | 0, _, _, _ => none
  | fu + 1, ps, pp, pt => imatch_G fu (imatchAll_M fu) (imatch_M fu) ps pp pt
end
theorem imatchAll_all (fu : Nat) : (∀ (ps : List GBinding) (pp : List GType) (pall : List GType) (r : (List GBinding) × Bool × (List GBinding)), imatchAll_M fu ps pp pall = some r → ACalls Tryz.prog 159 [.acc 4 (GBinding.trs (ps)) 0, .t (.row 3 (GType.trs (pp))), .t (.row 3 (GType.trs (pall)))] ⟨[], [⟨225, 4, GBinding.trs (ps), false⟩]⟩ (fun q t => q = (.tup [(bif r.2.1 then .acc 4 (GBinding.trs (r.1)) 0 else .t (.row 4 (GBinding.trs (r.1)))), .t (.leaf (.bool (r.2.1)))] : PV) ∧ t = ⟨[], [⟨225, 4, GBinding.trs (r.2.2), false⟩]⟩)) ∧ (∀ (ps : List GBinding) (pp : GType) (pt : GType) (r : (List GBinding) × Bool × (List GBinding)), imatch_M fu ps pp pt = some r → ACalls Tryz.prog 200 [.acc 4 (GBinding.trs (ps)) 0, (GType.pv pp), (GType.pv pt)] ⟨[], [⟨225, 4, GBinding.trs (ps), false⟩]⟩ (fun q t => q = (.tup [(bif r.2.1 then .acc 4 (GBinding.trs (r.1)) 0 else .t (.row 4 (GBinding.trs (r.1)))), .t (.leaf (.bool (r.2.1)))] : PV) ∧ t = ⟨[], [⟨225, 4, GBinding.trs (r.2.2), false⟩]⟩)) := by
  induction fu with
  | zero => exact ⟨(fun ps pp pall r H => by simp only [imatchAll_M] at H; cases H), (fun ps pp pt r H => by simp only [imatch_M] at H; cases H)⟩
  | succ fu ih => exact ⟨(fun ps pp pall r H => by simp only [imatchAll_M] at H; exact imatchAll_step (imatchAll_M fu) (imatch_M fu) fu ih.1 ih.2 ps pp pall r H), (fun ps pp pt r H => by simp only [imatch_M] at H; exact imatch_step (imatchAll_M fu) (imatch_M fu) fu ih.1 ih.2 ps pp pt r H)⟩
theorem imatchAll_ok (fu : Nat) (ps : List GBinding) (pp : List GType) (pall : List GType) (r : (List GBinding) × Bool × (List GBinding)) (H : imatchAll_M fu ps pp pall = some r) : ACalls Tryz.prog 159 [.acc 4 (GBinding.trs (ps)) 0, .t (.row 3 (GType.trs (pp))), .t (.row 3 (GType.trs (pall)))] ⟨[], [⟨225, 4, GBinding.trs (ps), false⟩]⟩ (fun q t => q = (.tup [(bif r.2.1 then .acc 4 (GBinding.trs (r.1)) 0 else .t (.row 4 (GBinding.trs (r.1)))), .t (.leaf (.bool (r.2.1)))] : PV) ∧ t = ⟨[], [⟨225, 4, GBinding.trs (r.2.2), false⟩]⟩) := (imatchAll_all fu).1 ps pp pall r H
noncomputable def iMatch_M (fu : Nat)  (pp : GType) (pt : GType) : Option ((List GBinding) × Bool) :=
 bd (imatchAll_M fu ([]) ([pp] : List GType) ([pt] : List GType)) (fun (x2, x3, x4) =>
 sw (x3)
 (gd (x2 = x4)
 (some (x2, true)))
 (some (x2, false)))
set_option maxRecDepth 100000 in
set_option maxHeartbeats 4000000 in
theorem iMatch_ok  (fu : Nat)  (pp : GType) (pt : GType) (r : (List GBinding) × Bool) (H : iMatch_M fu pp pt = some r) : AFun Tryz.prog 105 [(GType.pv pp), (GType.pv pt)] (.tup [.t (.row 4 (GBinding.trs (r.1))), .t (.leaf (.bool (r.2)))] : PV) := by
  refine ACalls.intro Tryz.func105 rfl (by first | decide | (simp; done) | (simp; decide)) ?_
  intro C hC
  refine AWP.seq ?_
  refine AWP.region_lit ?_
  refine AL.cons rfl (AOp.box (cs := [.t (.leaf (.int .i64 (pp.gKind))), .t (.leaf (.string (pp.gName))), .t (.row 3 (GType.trs (pp.gArgs)))]) rfl rfl rfl rfl rfl) ?_
  refine AL.cons rfl (AOp.box (cs := [.t (.leaf (.int .i64 (pt.gKind))), .t (.leaf (.string (pt.gName))), .t (.row 3 (GType.trs (pt.gArgs)))]) rfl rfl rfl rfl rfl) ?_
  refine AL.cons rfl (AOp.move (.inr rfl) rfl rfl) ?_
  refine AL.cons rfl (AOp.move (.inr rfl) rfl rfl) ?_
  refine AL.nil ?_
  refine AWP.seq ?_
  refine AWP.region_lit ?_
  refine AL.cons rfl (AOp.loadPtr (cs := [.t (.leaf (.int .i64 (pp.gKind))), .t (.leaf (.string (pp.gName))), .t (.row 3 (GType.trs (pp.gArgs)))]) rfl rfl rfl rfl sh47 rfl rfl) ?_
  refine AL.cons rfl (AOp.buildSliceE (es := [GType.cs pp]) (es' := GType.trs (([pp] : List GType))) (cs := [.t (.leaf (.int .i64 (pp.gKind))), .t (.leaf (.string (pp.gName))), .t (.row 3 (GType.trs (pp.gArgs)))]) rfl rfl el45 zr47 rfl rfl leA rfl (by simp [GType.cs]) (by decide) rfl (by decide) (by simp [GType.trs_map, GType.tr_cs])) ?_
  refine AL.cons rfl (AOp.loadPtr (cs := [.t (.leaf (.int .i64 (pt.gKind))), .t (.leaf (.string (pt.gName))), .t (.row 3 (GType.trs (pt.gArgs)))]) rfl rfl rfl rfl sh47 rfl rfl) ?_
  refine AL.cons rfl (AOp.buildSliceE (es := [GType.cs pt]) (es' := GType.trs (([pt] : List GType))) (cs := [.t (.leaf (.int .i64 (pt.gKind))), .t (.leaf (.string (pt.gName))), .t (.row 3 (GType.trs (pt.gArgs)))]) rfl rfl el45 zr47 rfl rfl leA rfl (by simp [GType.cs]) (by decide) rfl (by decide) (by simp [GType.trs_map, GType.tr_cs])) ?_
  rcases hq1 : imatchAll_M fu ([]) ([pp] : List GType) ([pt] : List GType) with _ | ⟨x2, x3, x4⟩
  · skip
    have e5 : iMatch_M fu pp pt = none := bdN hq1
    exact none_some H e5
  · skip
    cases x3
    · skip
      refine AL.cons rfl (AOp.callF (res := .tup [.t (.row 4 (GBinding.trs (x2))), .t (.leaf (.bool (false)))]) (ps := [_, _, _]) (qs := [.nil, .t (.row 3 (GType.trs (([pp] : List GType)))), .t (.row 3 (GType.trs (([pt] : List GType))))]) rfl rfl Tryz.func159 (by kernel_rfl) rfl rfl leA rfl rfl (ACalls.regNil (l1 := []) (l2 := [.t (.row 3 (GType.trs (([pp] : List GType)))), .t (.row 3 (GType.trs (([pt] : List GType))))]) (E := 225) (sz := 4) (q := .tup [.t (.row 4 (GBinding.trs (x2))), .t (.leaf (.bool (false)))]) (by decide) (imatchAll_ok fu ([]) ([pp] : List GType) ([pt] : List GType) _ hq1) leA rfl)) ?_
      refine AL.cons rfl (AOp.extract rfl rfl rfl rfl) ?_
      refine AL.cons rfl (AOp.extract rfl rfl rfl rfl) ?_
      refine AL.cons rfl (AOp.move (.inr rfl) rfl rfl) ?_
      refine AL.cons rfl (AOp.move (.inr rfl) rfl rfl) ?_
      refine AL.nil ?_
      refine AWP.ret ?_
      have e6 : iMatch_M fu pp pt = some (x2, false) := bdS hq1 (swF rfl (rfl))
      have hz : (x2, false) = r := Option.some.inj (e6.symm.trans H)
      subst hz
      exact Ends.mk (ps := [_, _]) (by first | exact .inr rfl | exact .inl rfl) ⟨rfl, rfl, trivial⟩ rfl (StLe.mk' (st' := ⟨[], []⟩) trivial rfl) (keeps_nil hC) (q := (.tup [.t (.row 4 (GBinding.trs (x2))), .t (.leaf (.bool (false)))] : PV)) leA rfl ⟨rfl, rfl⟩
    · skip
      rcases Classical.em (x2 = x4) with hg7 | hg7
      · skip
        have hg7c := hg7
        subst hg7
        refine AL.cons rfl (AOp.callF (res := .tup [.t (.row 4 (GBinding.trs (x2))), .t (.leaf (.bool (true)))]) (ps := [_, _, _]) (qs := [.nil, .t (.row 3 (GType.trs (([pp] : List GType)))), .t (.row 3 (GType.trs (([pt] : List GType))))]) rfl rfl Tryz.func159 (by kernel_rfl) rfl rfl leA rfl rfl (ACalls.regNil (l1 := []) (l2 := [.t (.row 3 (GType.trs (([pp] : List GType)))), .t (.row 3 (GType.trs (([pt] : List GType))))]) (E := 225) (sz := 4) (q := .tup [.t (.row 4 (GBinding.trs (x2))), .t (.leaf (.bool (true)))]) (by decide) (imatchAll_ok fu ([]) ([pp] : List GType) ([pt] : List GType) _ hq1) leA rfl)) ?_
        refine AL.cons rfl (AOp.extract rfl rfl rfl rfl) ?_
        refine AL.cons rfl (AOp.extract rfl rfl rfl rfl) ?_
        refine AL.cons rfl (AOp.move (.inr rfl) rfl rfl) ?_
        refine AL.cons rfl (AOp.move (.inr rfl) rfl rfl) ?_
        refine AL.nil ?_
        refine AWP.ret ?_
        have e8 : iMatch_M fu pp pt = some (x2, true) := bdS hq1 (swT rfl (gdT hg7c (rfl)))
        have hz : (x2, true) = r := Option.some.inj (e8.symm.trans H)
        subst hz
        exact Ends.mk (ps := [_, _]) (by first | exact .inr rfl | exact .inl rfl) ⟨rfl, rfl, trivial⟩ rfl (StLe.mk' (st' := ⟨[], []⟩) trivial rfl) (keeps_nil hC) (q := (.tup [.t (.row 4 (GBinding.trs (x2))), .t (.leaf (.bool (true)))] : PV)) leA rfl ⟨rfl, rfl⟩
      · skip
        have e9 : iMatch_M fu pp pt = none := bdS hq1 (swT rfl (gdF hg7))
        exact none_some H e9

noncomputable def iMatches_M (fu : Nat)  (pp : GType) (pt : GType) : Option Bool :=
 bd (iMatch_M fu pp pt) (fun (x2, x3) =>
 some x3)
set_option maxRecDepth 100000 in
set_option maxHeartbeats 4000000 in
theorem iMatches_ok  (fu : Nat)  (pp : GType) (pt : GType) (r : Bool) (H : iMatches_M fu pp pt = some r) : AFun Tryz.prog 115 [(GType.pv pp), (GType.pv pt)] (.t (.leaf (.bool (r))) : PV) := by
  refine ACalls.intro Tryz.func115 rfl (by first | decide | (simp; done) | (simp; decide)) ?_
  intro C hC
  refine AWP.seq ?_
  refine AWP.region_lit ?_
  refine AL.cons rfl (AOp.box (cs := [.t (.leaf (.int .i64 (pp.gKind))), .t (.leaf (.string (pp.gName))), .t (.row 3 (GType.trs (pp.gArgs)))]) rfl rfl rfl rfl rfl) ?_
  refine AL.cons rfl (AOp.box (cs := [.t (.leaf (.int .i64 (pt.gKind))), .t (.leaf (.string (pt.gName))), .t (.row 3 (GType.trs (pt.gArgs)))]) rfl rfl rfl rfl rfl) ?_
  refine AL.cons rfl (AOp.move (.inr rfl) rfl rfl) ?_
  refine AL.nil ?_
  refine AWP.seq ?_
  refine AWP.region_lit ?_
  refine AL.cons rfl (AOp.loadPtr (cs := [.t (.leaf (.int .i64 (pp.gKind))), .t (.leaf (.string (pp.gName))), .t (.row 3 (GType.trs (pp.gArgs)))]) rfl rfl rfl rfl sh47 rfl rfl) ?_
  refine AL.cons rfl (AOp.loadPtr (cs := [.t (.leaf (.int .i64 (pt.gKind))), .t (.leaf (.string (pt.gName))), .t (.row 3 (GType.trs (pt.gArgs)))]) rfl rfl rfl rfl sh47 rfl rfl) ?_
  rcases hq1 : iMatch_M fu pp pt with _ | ⟨x2, x3⟩
  · skip
    have e4 : iMatches_M fu pp pt = none := bdN hq1
    exact none_some H e4
  · skip
    refine AL.cons rfl (AOp.callF (res := .tup [.t (.row 4 (GBinding.trs (x2))), .t (.leaf (.bool (x3)))]) (ps := [_, _]) rfl rfl Tryz.func105 (by kernel_rfl) rfl rfl leA rfl rfl (iMatch_ok fu pp pt _ hq1)) ?_
    refine AL.cons rfl (AOp.move (.inl rfl) rfl rfl) ?_
    refine AL.cons rfl (AOp.extract rfl rfl rfl rfl) ?_
    refine AL.cons rfl (AOp.extract rfl rfl rfl rfl) ?_
    refine AL.cons rfl (AOp.move (.inr rfl) rfl rfl) ?_
    refine AL.cons rfl (AOp.move (.inr rfl) rfl rfl) ?_
    refine AL.nil ?_
    refine AWP.seq ?_
    refine AWP.region_lit ?_
    refine AL.cons rfl (AOp.move (.inl rfl) rfl rfl) ?_
    refine AL.cons rfl (AOp.move (.inr rfl) rfl rfl) ?_
    refine AL.nil ?_
    refine AWP.ret ?_
    have e5 : iMatches_M fu pp pt = some x3 := bdS hq1 (rfl)
    have hz : x3 = r := Option.some.inj (e5.symm.trans H)
    subst hz
    exact Ends.mk (ps := [_]) (by first | exact .inr rfl | exact .inl rfl) ⟨rfl, trivial⟩ rfl (StLe.mk' (st' := ⟨[], []⟩) trivial rfl) (keeps_nil hC) (q := (.t (.leaf (.bool (x3))) : PV)) leA rfl ⟨rfl, rfl⟩

end Go.Proofs.YtnakkelglbcecaaGreat

namespace Go.Proofs.YtnakkelglbcecaaGreat
set_option linter.unusedSimpArgs false
set_option linter.unusedVariables false
open Go.RowKit Go.WalkArith

def bFind (l : List GBinding) (v : ByteArray) : Option GBinding := l.find? (fun b => decide (b.gVar = v))
mutual
def matchT : GType → GType → List GBinding → Option (List GBinding)
  | .mk k n ps, t, s =>
    if k = 1 then (match bFind s n with
      | some b => if GType.eq b.gType t = true then some s else none
      | none => some (s ++ [GBinding.mk n t]))
    else if k = t.gKind then (if n = t.gName then (if ps.length = t.gArgs.length then matchL ps t.gArgs s else none) else none) else none
def matchL : List GType → List GType → List GBinding → Option (List GBinding)
  | [], _, s => some s
  | p :: ps, ts, s => match ts with
    | [] => none
    | t :: ts => match matchT p t s with
      | none => none
      | some s' => matchL ps ts s'
end
theorem nd {p : Prop} [Decidable p] (h : ¬ p) : (!decide p) = true := by simp [h]
def wt (l : List GType) : Nat := l.length + Tr.bulkAll (GType.trs l)
theorem wt_cons (x : GType) (l : List GType) : wt (x :: l) = 1 + Tr.bulkL x.tr + wt l := by simp only [wt, GType.trs, Tr.bulkAll, List.length_cons]; omega
theorem wt_args (k : Int) (n : ByteArray) (ps : List GType) : wt ps ≤ Tr.bulkL (GType.mk k n ps).tr := bulk_args k n ps
def BOk (s : List GBinding) : Prop := ∀ b ∈ s, Tr.bulkL b.gType.tr ≤ 68719476735
theorem bulk_arg {t x : GType} (h : x ∈ t.gArgs) (ht : Tr.bulkL t.tr ≤ 68719476735) : Tr.bulkL x.tr ≤ 68719476735 := by
  obtain ⟨k, n, ps⟩ := t
  have h1 := bulk_mem (show x ∈ ps from h)
  have h2 := bulk_args k n ps
  omega
theorem matchL_okOf : ∀ (ps : List GType), (∀ x ∈ ps, ∀ t s s', matchT x t s = some s' → BOk s → Tr.bulkL t.tr ≤ 68719476735 → BOk s' ∧ s'.length ≤ s.length + 1 + Tr.bulkL x.tr) →
    ∀ ts s s', matchL ps ts s = some s' → BOk s → (∀ t ∈ ts, Tr.bulkL t.tr ≤ 68719476735) → BOk s' ∧ s'.length ≤ s.length + wt ps
  | [], _, ts, s, s', h, hb, _ => by
    rw [matchL] at h
    obtain rfl := Option.some.inj h
    exact ⟨hb, by omega⟩
  | p :: ps, hp, ts, s, s', h, hb, ht => by
    cases ts with
    | nil => simp [matchL] at h
    | cons t ts =>
      rw [matchL] at h
      cases hq : matchT p t s with
      | none => rw [hq] at h; cases h
      | some s1 =>
        rw [hq] at h
        have h1 := hp p (by simp) t s s1 hq hb (ht t (by simp))
        have h2 := matchL_okOf ps (fun x hx => hp x (List.mem_cons_of_mem _ hx)) ts s1 s' h h1.1 (fun x hx => ht x (List.mem_cons_of_mem _ hx))
        have h3 := wt_cons p ps
        exact ⟨h2.1, by omega⟩
theorem matchT_ok : ∀ (p t : GType) (s s' : List GBinding), matchT p t s = some s' → BOk s → Tr.bulkL t.tr ≤ 68719476735 → BOk s' ∧ s'.length ≤ s.length + 1 + Tr.bulkL p.tr := by
  refine GType.ind fun k n ps ih t s s' h hb ht => ?_
  have hw := wt_args k n ps
  rw [matchT] at h
  split at h
  · split at h
    · split at h
      · obtain rfl := Option.some.inj h
        exact ⟨hb, by omega⟩
      · cases h
    · obtain rfl := Option.some.inj h
      refine ⟨fun b hb' => ?_, by simp only [List.length_append, List.length_singleton]; omega⟩
      rcases List.mem_append.1 hb' with h1 | h1
      · exact hb b h1
      · obtain rfl := List.mem_singleton.1 h1
        exact ht
  · split at h
    · split at h
      · split at h
        · have h1 := matchL_okOf ps ih _ _ _ h hb (fun x hx => bulk_arg hx ht)
          exact ⟨h1.1, by omega⟩
        · cases h
      · cases h
    · cases h
def Res (o : Option (List GBinding)) (m : Option (List GBinding × Bool × List GBinding)) : Prop := match o with
  | some s' => m = some (s', true, s')
  | none => ∃ a b, m = some (a, false, b)
def LRes (o : Option (List GBinding)) (m : Option ((List GBinding × Bool × List GBinding) ⊕ List GBinding)) : Prop := match o with
  | some s' => m = some (.inr s')
  | none => ∃ a b, m = some (.inl (a, false, b))
def FRes (o : Option (List GBinding)) (m : Option (LR (List GBinding) (List GBinding × Bool × List GBinding))) : Prop := match o with
  | some s' => m = some (.next s')
  | none => ∃ a b, m = some (.ret (a, false, b))
theorem matchLoop {F : Nat → List GBinding → Option (LR (List GBinding) (List GBinding × Bool × List GBinding))} {ps ts : List GType} (hlen : ps.length = ts.length) (ht : ∀ t ∈ ts, Tr.bulkL t.tr ≤ 68719476735)
    (hs : ∀ i s, i < ps.length → BOk s → s.length + 1 + Tr.bulkL (atD ps i).tr ≤ 68719476736 → FRes (matchT (atD ps i) (atD ts i) s) (F i s)) :
    ∀ (k i : Nat) (s : List GBinding), ps.length - i = k → BOk s → s.length + wt (ps.drop i) ≤ 68719476736 → LRes (matchL (ps.drop i) (ts.drop i) s) (loopN F (ps.length - i) i s)
  | 0, i, s, hk, _, _ => by
    rw [List.drop_of_length_le (show ps.length ≤ i by omega), matchL]
    exact loopN_all (by omega)
  | k + 1, i, s, hk, hb, hw => by
    have hi : i < ps.length := by omega
    have hi2 : i < ts.length := by omega
    rw [drop_atD hi, wt_cons] at hw
    have h1 := hs i s hi hb (by omega)
    rw [drop_atD hi, drop_atD hi2, matchL]
    cases hq : matchT (atD ps i) (atD ts i) s with
    | none =>
      rw [hq] at h1
      obtain ⟨a, b, h1⟩ := h1
      exact ⟨a, b, loopN_out hi h1⟩
    | some s' =>
      rw [hq] at h1
      have h2 := matchT_ok _ _ _ _ hq hb (ht _ (atD_mem hi2))
      have h3 := matchLoop hlen ht hs k (i + 1) s' (by omega) h2.1 (by omega)
      rw [loopN_step hi h1]
      exact h3
theorem matchLoop0 {F : Nat → List GBinding → Option (LR (List GBinding) (List GBinding × Bool × List GBinding))} {ps ts : List GType} (hlen : ps.length = ts.length) (ht : ∀ t ∈ ts, Tr.bulkL t.tr ≤ 68719476735)
    (hs : ∀ i s, i < ps.length → BOk s → s.length + 1 + Tr.bulkL (atD ps i).tr ≤ 68719476736 → FRes (matchT (atD ps i) (atD ts i) s) (F i s)) {s : List GBinding} (hb : BOk s) (hw : s.length + wt ps ≤ 68719476736) : LRes (matchL ps ts s) (loopN F (ps.length - 0) 0 s) := by
  have := matchLoop hlen ht hs ps.length 0 s (by omega) hb (by rwa [List.drop_zero])
  rwa [List.drop_zero, List.drop_zero] at this

theorem sLookup_fn (fu : Nat) (l : List GBinding) (v : ByteArray) (hb : BOk l) : sLookup_M fu l v = some (match bFind l v with
    | some b => (b.gType, true)
    | none => (GType.mk 0 (⟨#[]⟩) [], false)) := by
  unfold sLookup_M sLookup_R1
  rw [loopN_find0 (p := fun b => decide (b.gVar = v)) (r := fun b => (b.gType, true)) (fun i hi => by
    unfold sLookup_F1
    cases h : decide ((atD l i).gVar = v)
    · simp [sw, h]
    · simp only [sw, h]
      rw [gdT (hb _ (atD_mem hi)) rfl]
      simp)]
  unfold bFind
  cases l.find? (fun b => decide (b.gVar = v)) <;> rfl
def SMS (fu : Nat) (p : GType) : Prop := ∀ (t : GType) (s : List GBinding), Tr.bulkL t.tr ≤ 68719476735 → BOk s → s.length + 1 + Tr.bulkL p.tr ≤ 68719476736 → Res (matchT p t s) (sl7Match_M fu p t s)
theorem sAll_of {fu : Nat} {ps : List GType} (hf : ∀ x ∈ ps, SMS fu x) {ts : List GType} {s : List GBinding} (hlen : ps.length = ts.length) (ht : ∀ t ∈ ts, Tr.bulkL t.tr ≤ 68719476735) (hb : BOk s) (hw : s.length + wt ps ≤ 68719476736) : Res (matchL ps ts s) (sl7All_M (fu + 1) ps ts s) := by
  have hl := matchLoop0 (F := sl7All_F1 fu (sl7All_M fu) (sl7Match_M fu) ps ts s) hlen ht (fun i s hi hb hw => by
    have h1 := hf (atD ps i) (atD_mem hi) (atD ts i) s (ht _ (atD_mem (by omega))) hb hw
    unfold sl7All_F1
    cases hq : matchT (atD ps i) (atD ts i) s with
    | none =>
      rw [hq] at h1
      obtain ⟨a, b, h1⟩ := h1
      exact ⟨_, b, gdT (by omega) (bdS h1 rfl)⟩
    | some s' =>
      rw [hq] at h1
      exact gdT (by omega) (bdS h1 (swT rfl (gdT rfl rfl)))) hb hw
  rw [sl7All_M, sl7All_G]
  unfold sl7All_R1
  cases hq : matchL ps ts s with
  | none =>
    rw [hq] at hl
    obtain ⟨a, b, hl⟩ := hl
    exact ⟨a, b, soL hl⟩
  | some s' =>
    rw [hq] at hl
    exact soR hl rfl
theorem sMatch_ev : ∀ p : GType, Evt fun fu => SMS fu p := by
  refine GType.ind fun k n ps ih => ?_
  refine Evt.succ (Evt.succ ((Evt.list ih).imp fun fu hf t s ht hb hw => ?_))
  have hwa := wt_args k n ps
  rw [sl7Match_M, sl7Match_G, matchT]
  simp only [GType.gKind_mk, GType.gName_mk, GType.gArgs_mk]
  by_cases hk : k = 1
  · rw [if_pos hk, sLookup_fn _ s n hb]
    cases hq : bFind s n with
    | some b =>
      cases he : GType.eq b.gType t with
      | true =>
        show Res (if GType.eq b.gType t = true then some s else none) _
        rw [if_pos he]
        show _ = some (s, true, s)
        refine swT (decide_eq_true hk) (bdS rfl (swT rfl (swT he ?_)))
        simp only [he]
      | false =>
        show Res (if GType.eq b.gType t = true then some s else none) _
        rw [if_neg (by simp [he])]
        refine ⟨s, s, ?_⟩
        refine swT (decide_eq_true hk) (bdS rfl (swT rfl (swF he ?_)))
        simp only [he]
    | none =>
      show _ = some (s ++ [GBinding.mk n t], true, s ++ [GBinding.mk n t])
      exact swT (decide_eq_true hk) (bdS rfl (swF rfl (gdT ht (gdT (by simp only [List.length_singleton]; omega) rfl))))
  · rw [if_neg hk]
    by_cases h1 : k = t.gKind
    · rw [if_pos h1]
      by_cases h2 : n = t.gName
      · rw [if_pos h2]
        by_cases h3 : ps.length = t.gArgs.length
        · rw [if_pos h3]
          have ha := sAll_of hf (s := s) h3 (fun x hx => bulk_arg hx ht) hb (by omega)
          cases hq : matchL ps t.gArgs s with
          | none =>
            rw [hq] at ha
            obtain ⟨a, b, ha⟩ := ha
            exact ⟨_, _, swF (by simp [hk]) (swF (by simp [h1]) (swF (by simp [h2]) (swF (by simp [h3]) <| bdS ha (swF rfl rfl))))⟩
          | some s' =>
            rw [hq] at ha
            exact swF (by simp [hk]) (swF (by simp [h1]) (swF (by simp [h2]) (swF (by simp [h3]) <| bdS ha (swT rfl (gdT rfl rfl)))))
        · rw [if_neg h3]
          exact ⟨_, _, swF (by simp [hk]) (swF (by simp [h1]) (swF (by simp [h2]) (swT (nd (fun h => h3 (Int.ofNat_inj.1 h))) rfl)))⟩
      · rw [if_neg h2]
        exact ⟨_, _, swF (by simp [hk]) (swF (by simp [h1]) (swT (by simp [h2]) rfl))⟩
    · rw [if_neg h1]
      exact ⟨_, _, swF (by simp [hk]) (swT (by simp [h1]) rfl)⟩

theorem iLookup_fn (fu : Nat) (l : List GBinding) (v : ByteArray) (hb : BOk l) : iLookup_M fu l v = some (match bFind l v with
    | some b => (b.gType, true)
    | none => (GType.mk 0 (⟨#[]⟩) [], false)) := by
  unfold iLookup_M iLookup_R1
  rw [loopN_find0 (p := fun b => decide (b.gVar = v)) (r := fun b => (b.gType, true)) (fun i hi => by
    unfold iLookup_F1
    cases h : decide ((atD l i).gVar = v)
    · simp [sw, h]
    · simp only [sw, h]
      rw [gdT (hb _ (atD_mem hi)) rfl]
      simp)]
  unfold bFind
  cases l.find? (fun b => decide (b.gVar = v)) <;> rfl
def IMS (fu : Nat) (p : GType) : Prop := ∀ (t : GType) (s : List GBinding), Tr.bulkL t.tr ≤ 68719476735 → BOk s → s.length + 1 + Tr.bulkL p.tr ≤ 68719476736 → Res (matchT p t s) (imatch_M fu s p t)
theorem iAll_of {fu : Nat} {ps : List GType} (hf : ∀ x ∈ ps, IMS fu x) {ts : List GType} {s : List GBinding} (hlen : ps.length = ts.length) (ht : ∀ t ∈ ts, Tr.bulkL t.tr ≤ 68719476735) (hb : BOk s) (hw : s.length + wt ps ≤ 68719476736) : Res (matchL ps ts s) (imatchAll_M (fu + 1) s ps ts) := by
  have hl := matchLoop0 (F := imatchAll_F1 fu (imatchAll_M fu) (imatch_M fu) s ps ts) hlen ht (fun i s hi hb hw => by
    have h1 := hf (atD ps i) (atD_mem hi) (atD ts i) s (ht _ (atD_mem (by omega))) hb hw
    unfold imatchAll_F1
    cases hq : matchT (atD ps i) (atD ts i) s with
    | none =>
      rw [hq] at h1
      obtain ⟨a, b, h1⟩ := h1
      exact ⟨_, b, gdT (by omega) (bdS h1 rfl)⟩
    | some s' =>
      rw [hq] at h1
      exact gdT (by omega) (bdS h1 (swT rfl (gdT rfl rfl)))) hb hw
  rw [imatchAll_M, imatchAll_G]
  rw [show sw (!decide (((ps.length : Nat) : Int) = ((ts.length : Nat) : Int))) = fun (x y : Option (List GBinding × Bool × List GBinding)) => y by funext x y; exact swF (by simp [hlen]) rfl]
  unfold imatchAll_R1
  cases hq : matchL ps ts s with
  | none =>
    rw [hq] at hl
    obtain ⟨a, b, hl⟩ := hl
    exact ⟨a, b, soL hl⟩
  | some s' =>
    rw [hq] at hl
    exact soR hl rfl
theorem iMatch_ev : ∀ p : GType, Evt fun fu => IMS fu p := by
  refine GType.ind fun k n ps ih => ?_
  refine Evt.succ (Evt.succ ((Evt.list ih).imp fun fu hf t s ht hb hw => ?_))
  have hwa := wt_args k n ps
  rw [imatch_M, imatch_G, matchT]
  simp only [GType.gKind_mk, GType.gName_mk, GType.gArgs_mk]
  by_cases hk : k = 1
  · rw [if_pos hk, iLookup_fn _ s n hb]
    cases hq : bFind s n with
    | some b =>
      cases he : GType.eq b.gType t with
      | true =>
        show Res (if GType.eq b.gType t = true then some s else none) _
        rw [if_pos he]
        show _ = some (s, true, s)
        refine swT (decide_eq_true hk) (bdS rfl (swT rfl (swT he ?_)))
        simp only [he]
      | false =>
        show Res (if GType.eq b.gType t = true then some s else none) _
        rw [if_neg (by simp [he])]
        refine ⟨s, s, ?_⟩
        refine swT (decide_eq_true hk) (bdS rfl (swT rfl (swF he ?_)))
        simp only [he]
    | none =>
      show _ = some (s ++ [GBinding.mk n t], true, s ++ [GBinding.mk n t])
      exact swT (decide_eq_true hk) (bdS rfl (swF rfl (gdT ht (gdT (by simp only [List.length_singleton]; omega) rfl))))
  · rw [if_neg hk]
    by_cases h1 : k = t.gKind
    · rw [if_pos h1]
      by_cases h2 : n = t.gName
      · rw [if_pos h2]
        by_cases h3 : ps.length = t.gArgs.length
        · rw [if_pos h3]
          have ha := iAll_of hf (s := s) h3 (fun x hx => bulk_arg hx ht) hb (by omega)
          cases hq : matchL ps t.gArgs s with
          | none =>
            rw [hq] at ha
            obtain ⟨a, b, ha⟩ := ha
            exact ⟨_, _, swF (by simp [hk]) (swF (by simp [h1]) (swF (by simp [h2]) (bdS ha (swF rfl rfl))))⟩
          | some s' =>
            rw [hq] at ha
            exact swF (by simp [hk]) (swF (by simp [h1]) (swF (by simp [h2]) (bdS ha (swT rfl (gdT rfl rfl)))))
        · rw [if_neg h3]
          have ha : imatchAll_M (fu + 1) s ps t.gArgs = some ([], false, s) := by
            rw [imatchAll_M, imatchAll_G]
            exact swT (nd (fun h => h3 (Int.ofNat_inj.1 h))) rfl
          exact ⟨_, _, swF (by simp [hk]) (swF (by simp [h1]) (swF (by simp [h2]) (bdS ha (swF rfl rfl))))⟩
      · rw [if_neg h2]
        exact ⟨_, _, swF (by simp [hk]) (swF (by simp [h1]) (swT (by simp [h2]) rfl))⟩
    · rw [if_neg h1]
      exact ⟨_, _, swF (by simp [hk]) (swT (by simp [h1]) rfl)⟩

def matchB (p t : GType) : Bool := (matchT p t []).isSome
theorem BOk.nil : BOk [] := fun b hb => by simp at hb
theorem matchL_one (p t : GType) : matchL [p] [t] [] = matchT p t [] := by
  rw [matchL]
  cases hq : matchT p t [] with
  | none => simp [hq]
  | some s => simp [hq, matchL]
theorem wt_one (p : GType) : wt [p] = 1 + Tr.bulkL p.tr := by rw [wt_cons]; simp [wt, GType.trs, Tr.bulkAll]
theorem sMatches_fn (p t : GType) (hp : Tr.bulkL p.tr ≤ 68719476735) (ht : Tr.bulkL t.tr ≤ 68719476735) : AFun Tryz.prog 113 [(GType.pv p), (GType.pv t)] (.t (.leaf (.bool (matchB p t)))) := by
  obtain ⟨fu, hf⟩ := (sMatch_ev p).get
  refine sMatches_ok (fu + 1) p t _ ?_
  have h1 := sAll_of (fu := fu) (ps := [p]) (by simpa using hf) (ts := [t]) (s := []) rfl (by simpa using ht) BOk.nil (by rw [wt_one]; simp only [List.length_nil]; omega)
  rw [matchL_one] at h1
  unfold sMatches_M sMatch_M sMatchAll_M matchB
  cases hq : matchT p t [] with
  | none =>
    rw [hq] at h1
    obtain ⟨a, b, h1⟩ := h1
    exact bdS (bdS (swF rfl (bdS h1 (swF rfl rfl))) rfl) rfl
  | some s =>
    rw [hq] at h1
    exact bdS (bdS (swF rfl (bdS h1 (swT rfl (gdT rfl rfl)))) rfl) rfl
theorem iMatches_fn (p t : GType) (hp : Tr.bulkL p.tr ≤ 68719476735) (ht : Tr.bulkL t.tr ≤ 68719476735) : AFun Tryz.prog 115 [(GType.pv p), (GType.pv t)] (.t (.leaf (.bool (matchB p t)))) := by
  obtain ⟨fu, hf⟩ := (iMatch_ev p).get
  refine iMatches_ok (fu + 1) p t _ ?_
  have h1 := iAll_of (fu := fu) (ps := [p]) (by simpa using hf) (ts := [t]) (s := []) rfl (by simpa using ht) BOk.nil (by rw [wt_one]; simp only [List.length_nil]; omega)
  rw [matchL_one] at h1
  unfold iMatches_M iMatch_M matchB
  cases hq : matchT p t [] with
  | none =>
    rw [hq] at h1
    obtain ⟨a, b, h1⟩ := h1
    exact bdS (bdS h1 (swF rfl rfl)) rfl
  | some s =>
    rw [hq] at h1
    exact bdS (bdS h1 (swT rfl (gdT rfl rfl))) rfl
end Go.Proofs.YtnakkelglbcecaaGreat

namespace Go.Proofs.YtnakkelglbcecaaGreat
open Go.RowKit Go.Proofs
set_option linter.unusedSimpArgs false
set_option linter.unusedVariables false

attribute [local irreducible] lt

noncomputable def sCandidateInstances_F1 (fu : Nat) (pw : GProgram) (pg : GBound) : Nat → ((List GInstanceRef)) → Option (LR ((List GInstanceRef)) ((List GInstanceRef))) :=
 fun i2 v4 => gd (0 ≤ (atD (GProgram.allRefs pw) i2).gPackage ∧ ((atD (GProgram.allRefs pw) i2).gPackage).toNat < (pw.gPackages).length)
 (lt (atD pw.gPackages (((atD (GProgram.allRefs pw) i2).gPackage).toNat)) (fun y10 =>
 gd (0 ≤ (atD (GProgram.allRefs pw) i2).gAt ∧ ((atD (GProgram.allRefs pw) i2).gAt).toNat < (y10.gInstances).length)
 (lt (atD y10.gInstances (((atD (GProgram.allRefs pw) i2).gAt).toNat)) (fun y13 =>
 sw (decide (y13.gTrait = pg.gTrait))
 (gd (Tr.bulkL (GType.tr y13.gHead) ≤ 68719476735)
 (gd (Tr.bulkL (GType.tr pg.gType) ≤ 68719476735)
 (sw (matchB y13.gHead pg.gType)
 (gd ((v4).length + (([(atD (GProgram.allRefs pw) i2)] : List GInstanceRef)).length ≤ 68719476736)
 (some (.next (v4 ++ ([(atD (GProgram.allRefs pw) i2)] : List GInstanceRef)))))
 (some (.next v4)))))
 (some (.next v4))))))
noncomputable def sCandidateInstances_R1 (fu : Nat) (pw : GProgram) (pg : GBound) : Option (((List GInstanceRef)) ⊕ ((List GInstanceRef))) :=
 loopN (sCandidateInstances_F1 fu pw pg) ((GProgram.allRefs pw).length - 0) 0 ([])
noncomputable def sCandidateInstances_M (fu : Nat)  (pw : GProgram) (pg : GBound) : Option ((List GInstanceRef)) :=
 gd ((GProgram.allRefs pw).length ≤ 68719476735)
 (so (sCandidateInstances_R1 fu pw pg) (fun v4 =>
 some v4))
set_option maxRecDepth 100000 in
set_option maxHeartbeats 4000000 in
theorem sCandidateInstances_ok  (fu : Nat)  (pw : GProgram) (pg : GBound) (r : (List GInstanceRef)) (H : sCandidateInstances_M fu pw pg = some r) : AFun Tryz.prog 59 [(GProgram.pv pw), (GBound.pv pg)] (.t (.row 2 (GInstanceRef.trs (r))) : PV) := by
  refine ACalls.intro Tryz.func59 rfl (by first | decide | (simp; done) | (simp; decide)) ?_
  intro C hC
  refine AWP.seq ?_
  refine AWP.region_lit ?_
  refine AL.cons rfl (AOp.box (cs := [.t (.row 6 (GPackage.trs (pw.gPackages)))]) rfl rfl rfl rfl rfl) ?_
  refine AL.cons rfl (AOp.box (cs := [.t (.leaf (.string (pg.gTrait))), .t (.leaf (.int .i64 (pg.gType.gKind))), .t (.leaf (.string (pg.gType.gName))), .t (.row 3 (GType.trs (pg.gType.gArgs)))]) rfl rfl rfl rfl rfl) ?_
  refine AL.cons rfl (AOp.move (.inr rfl) rfl rfl) ?_
  refine AL.nil ?_
  refine AWP.seq ?_
  refine AWP.region_lit ?_
  refine AL.cons rfl (AOp.buildSliceA (es := []) (es' := GInstanceRef.trs ([])) (cs := []) rfl rfl el66 zr33 rfl rfl leA rfl (by simp [GInstanceRef.cs]) (by decide) rfl (by decide) (by simp [GInstanceRef.trs_map, GInstanceRef.tr_cs])) ?_
  refine AL.cons rfl (AOp.move (.inr rfl) rfl rfl) ?_
  refine AL.nil ?_
  refine AWP.seq ?_
  refine AWP.region_lit ?_
  refine AL.cons rfl (AOp.loadPtr (cs := [.t (.row 6 (GPackage.trs (pw.gPackages)))]) rfl rfl rfl rfl sh31 rfl rfl) ?_
  rcases Classical.em ((GProgram.allRefs pw).length ≤ 68719476735) with hg1 | hg1
  · skip
    refine AL.cons rfl (AOp.callF (res := .t (.row 2 (GInstanceRef.trs ((GProgram.allRefs pw))))) (ps := [_]) rfl rfl Tryz.func97 (by kernel_rfl) rfl rfl leA rfl rfl (sAllInst_ok pw hg1)) ?_
    refine AL.cons rfl (AOp.move (.inr rfl) rfl rfl) ?_
    refine AL.nil ?_
    refine AWP.seq ?_
    refine AWP.seq ?_
    refine AWP.region_lit ?_
    refine AL.cons rfl (AOp.move (.inr rfl) rfl rfl) ?_
    refine AL.nil ?_
    refine AWP.fact (lk_lenN 5 rfl rfl (GInstanceRef.trs_len _)) (fun hl5 => ?_)
    refine AWP.fact (lk_lenN 6 rfl rfl (GInstanceRef.trs_len _)) (fun hl6 => ?_)
    refine AWP.cut (ι := (List GInstanceRef)) (fun v4 => sCandidateInstances_R1 fu pw pg = some (.inr v4)) (fun v4 => ⟨[(4, .nil), (5, .acc 2 (GInstanceRef.trs (v4)) 0)], ⟨[some ⟨31, [.t (.row 6 (GPackage.trs (pw.gPackages)))]⟩, some ⟨49, [.t (.leaf (.string (pg.gTrait))), .t (.leaf (.int .i64 (pg.gType.gKind))), .t (.leaf (.string (pg.gType.gName))), .t (.row 3 (GType.trs (pg.gType.gArgs)))]⟩], [⟨33, 2, GInstanceRef.trs (v4), false⟩]⟩⟩) (by repeat' (first | exact qcEnds | exact ncAWP | exact ncRound | exact ncEx | apply qcThen | apply qcBlock | apply qcCut)) ?_ ?_
    · skip
      refine AWP.block ?_
      refine AWP.loopR (ι := Nat × ((List GInstanceRef))) (fun (i2, v4) => sCandidateInstances_R1 fu pw pg = loopN (sCandidateInstances_F1 fu pw pg) ((GProgram.allRefs pw).length - i2) i2 v4) (fun (i2, v4) => ⟨[(2, .ptr 0 0), (3, .ptr 1 0), (4, .nil), (5, .acc 2 (GInstanceRef.trs (v4)) 0), (6, .t (.row 2 (GInstanceRef.trs ((GProgram.allRefs pw))))), (7, .t (.leaf (.int .i64 (((i2 : Nat) : Int)))))], ⟨[some ⟨31, [.t (.row 6 (GPackage.trs (pw.gPackages)))]⟩, some ⟨49, [.t (.leaf (.string (pg.gTrait))), .t (.leaf (.int .i64 (pg.gType.gKind))), .t (.leaf (.string (pg.gType.gName))), .t (.row 3 (GType.trs (pg.gType.gArgs)))]⟩], [⟨33, 2, GInstanceRef.trs (v4), false⟩]⟩⟩) (fun (i2, v4) => (GProgram.allRefs pw).length - i2) (0, ([])) ?_ ?_ ?_
      · exact rfl
      · skip
        exact Wk.mk (StLe.mk' ⟨⟨rfl, leA, rfl⟩, ⟨⟨rfl, leA, rfl⟩, trivial⟩⟩ (by first | rfl | simp)) (keeps_nil hC) ⟨⟨_, rfl, .refl _, rfl⟩, ⟨⟨_, rfl, .refl _, rfl⟩, ⟨⟨_, rfl, .refl _, rfl⟩, ⟨⟨_, rfl, leA, rfl⟩, ⟨⟨_, rfl, .refl _, rfl⟩, ⟨⟨_, rfl, leA, rfl⟩, trivial⟩⟩⟩⟩⟩⟩
      · rintro ⟨i2, v4⟩ hJ7
        refine AWP.seq ?_
        refine AWP.seq ?_
        refine AWP.region_lit ?_
        refine AL.cons rfl (AOp.move (.inl rfl) rfl rfl) ?_
        refine AL.cons rfl (AOp.move (.inl rfl) rfl rfl) ?_
        refine AL.cons rfl (AOp.lenN rfl rfl rfl rfl el66 (GInstanceRef.trs_len _)) ?_
        refine AL.cons rfl (AOp.lss rfl rfl rfl rfl) ?_
        refine AL.nil ?_
        refine AWP.cond rfl (fun h8 => ?_) (fun h8 => ?_)
        · skip
          have h8l : i2 < (GProgram.allRefs pw).length := nat_lt_of2 h8
          have h8n := nat_lt_of h8
          refine AWP.skip ?_
          refine AWP.seq ?_
          refine AWP.block ?_
          refine AWP.seq ?_
          rcases Classical.em (0 ≤ (atD (GProgram.allRefs pw) i2).gPackage ∧ ((atD (GProgram.allRefs pw) i2).gPackage).toNat < (pw.gPackages).length) with hg9 | hg9
          · skip
            obtain ⟨y10, hy11⟩ : ∃ y : GPackage, y = atD pw.gPackages (((atD (GProgram.allRefs pw) i2).gPackage).toNat) := ⟨_, rfl⟩
            rcases Classical.em (0 ≤ (atD (GProgram.allRefs pw) i2).gAt ∧ ((atD (GProgram.allRefs pw) i2).gAt).toNat < (y10.gInstances).length) with hg12 | hg12
            · skip
              obtain ⟨y13, hy14⟩ : ∃ y : GInstance, y = atD y10.gInstances (((atD (GProgram.allRefs pw) i2).gAt).toNat) := ⟨_, rfl⟩
              refine AWP.drawnL ⟨_, _, fun j' _ => ([(⟨[some ⟨31, [.t (.row 6 (GPackage.trs (pw.gPackages)))]⟩, some ⟨49, [.t (.leaf (.string (pg.gTrait))), .t (.leaf (.int .i64 (pg.gType.gKind))), .t (.leaf (.string (pg.gType.gName))), .t (.row 3 (GType.trs (pg.gType.gArgs)))]⟩], [⟨33, 2, GInstanceRef.trs (v4), false⟩]⟩ : Sto), (⟨[some ⟨31, [.t (.row 6 (GPackage.trs (pw.gPackages)))]⟩, some ⟨49, [.t (.leaf (.string (pg.gTrait))), .t (.leaf (.int .i64 (pg.gType.gKind))), .t (.leaf (.string (pg.gType.gName))), .t (.row 3 (GType.trs (pg.gType.gArgs)))]⟩, some ⟨113, [.t (.leaf (.string (⟨#[]⟩))), .nil, .t (.leaf (.int .i64 (0))), .t (.leaf (.string (⟨#[]⟩))), .nil, .nil, .t (.leaf (.bool (false))), .t (.leaf (.bool (false))), .t (.leaf (.int .i64 (0))), .t (.leaf (.string (⟨#[]⟩))), .nil, .nil]⟩], [⟨33, 2, GInstanceRef.trs (v4), false⟩]⟩ : Sto), (⟨[some ⟨31, [.t (.row 6 (GPackage.trs (pw.gPackages)))]⟩, some ⟨49, [.t (.leaf (.string (pg.gTrait))), .t (.leaf (.int .i64 (pg.gType.gKind))), .t (.leaf (.string (pg.gType.gName))), .t (.row 3 (GType.trs (pg.gType.gArgs)))]⟩, some ⟨113, [.t (.leaf (.string (y13.gTrait))), .t (.row 1 (strTrs (y13.gVars))), .t (.leaf (.int .i64 (y13.gHead.gKind))), .t (.leaf (.string (y13.gHead.gName))), .t (.row 3 (GType.trs (y13.gHead.gArgs))), .t (.row 4 (GBound.trs (y13.gWhere))), .t (.leaf (.bool (y13.gDefault))), .t (.leaf (.bool (y13.gHasAssoc))), .t (.leaf (.int .i64 (y13.gAssoc.gKind))), .t (.leaf (.string (y13.gAssoc.gName))), .t (.row 3 (GType.trs (y13.gAssoc.gArgs))), .t (.row 11 (GMethod.trs (y13.gMethods)))]⟩], [⟨33, 2, GInstanceRef.trs (v4), false⟩]⟩ : Sto)] : List Sto).getD j' (⟨[some ⟨31, [.t (.row 6 (GPackage.trs (pw.gPackages)))]⟩, some ⟨49, [.t (.leaf (.string (pg.gTrait))), .t (.leaf (.int .i64 (pg.gType.gKind))), .t (.leaf (.string (pg.gType.gName))), .t (.row 3 (GType.trs (pg.gType.gArgs)))]⟩, some ⟨113, [.t (.leaf (.string (y13.gTrait))), .t (.row 1 (strTrs (y13.gVars))), .t (.leaf (.int .i64 (y13.gHead.gKind))), .t (.leaf (.string (y13.gHead.gName))), .t (.row 3 (GType.trs (y13.gHead.gArgs))), .t (.row 4 (GBound.trs (y13.gWhere))), .t (.leaf (.bool (y13.gDefault))), .t (.leaf (.bool (y13.gHasAssoc))), .t (.leaf (.int .i64 (y13.gAssoc.gKind))), .t (.leaf (.string (y13.gAssoc.gName))), .t (.row 3 (GType.trs (y13.gAssoc.gArgs))), .t (.row 11 (GMethod.trs (y13.gMethods)))]⟩], [⟨33, 2, GInstanceRef.trs (v4), false⟩]⟩ : Sto), fun q' => ([some (.ptr 0 0), some (.t (.row 6 (GPackage.trs (pw.gPackages)))), some (.t (.row 2 (GInstanceRef.trs ((GProgram.allRefs pw))))), some (.t (.leaf (.int .i64 (((i2 : Nat) : Int))))), some (.eptr (GInstanceRef.cs (atD (GProgram.allRefs pw) i2))), some (.eptr (GInstanceRef.cs (atD (GProgram.allRefs pw) i2))), some (.t (.leaf (.int .i64 ((atD (GProgram.allRefs pw) i2).gPackage)))), some (.eptr (GPackage.cs y10)), some (.eptr ((GPackage.cs y10).drop 4)), some (.t (.row 12 (GInstance.trs (y10.gInstances)))), some (.t (.row 2 (GInstanceRef.trs ((GProgram.allRefs pw))))), some (.t (.leaf (.int .i64 (((i2 : Nat) : Int))))), some (.eptr (GInstanceRef.cs (atD (GProgram.allRefs pw) i2))), some (.eptr ((GInstanceRef.cs (atD (GProgram.allRefs pw) i2)).drop 1)), some (.t (.leaf (.int .i64 ((atD (GProgram.allRefs pw) i2).gAt)))), some (.eptr (GInstance.cs y13)), some ((GInstance.pv y13)), some (.ptr 2 0), none] : List (Option PV)).getD q' none, fun q' => ([.q 0 1, .q 0 1, .q 0 1, .q 0 1, .q 0 1, .q 0 1, .q 0 1, .q 0 1, .q 0 1, .q 0 1, .q 0 1, .q 0 1, .q 0 1, .q 0 1, .q 0 1, .q 0 1, .q 0 1, .ef 0, .ef 1] : List DK).getD q' (.q 0 0), [17, 18], none, fun q' => ([[(2, none)], [(18, some 0)], [(6, none)], [(7, none)], [(20, some 2), (21, some 3)], [(22, some 4)], [(23, some 5)], [(19, some 1), (24, some 6)], [(25, some 7)], [(26, some 8)], [(6, none)], [(7, none)], [(28, some 10), (29, some 11)], [(30, some 12)], [(31, some 13)], [(27, some 9), (32, some 14)], [(33, some 15)], [], [(8, some 17), (34, some 16)]] : List (List (Nat × Option Nat))).getD q' []⟩ rfl mixed (by kernel_rfl) rfl rfl ⟨?_, ?_, ?_, ?_, ?_, ?_, ?_, ?_, ?_, ?_, ?_, ?_, ?_, ?_, ?_, ?_, ?_, ?_, ?_, trivial⟩ rfl ?_
              · refine .inl ⟨rfl, fun s' jj bb (h1 : 0 ≤ jj) (h2 : jj ≤ 1) hs hl => ?_⟩
                rcases (by omega : jj = 0 ∨ jj = 1) with rfl | rfl <;> exact ⟨_, rfl, AOp.fieldPtr (k := 0) (d := 0) (e := 0) rfl rfl (hl 2 none _ (.head _) rfl) fo31_0⟩
              · refine .inl ⟨rfl, fun s' jj bb (h1 : 0 ≤ jj) (h2 : jj ≤ 1) hs hl => ?_⟩
                rcases (by omega : jj = 0 ∨ jj = 1) with rfl | rfl <;> exact ⟨_, rfl, AOp.loadPtr1 rfl rfl (hl 18 (some 0) _ (.head _) rfl) (by rw [hs]; rfl) sh29 rfl⟩
              · refine .inl ⟨rfl, fun s' jj bb (h1 : 0 ≤ jj) (h2 : jj ≤ 1) hs hl => ?_⟩
                rcases (by omega : jj = 0 ∨ jj = 1) with rfl | rfl <;> exact ⟨_, rfl, AOp.move (.inl rfl) rfl (hl 6 none _ (.head _) rfl)⟩
              · refine .inl ⟨rfl, fun s' jj bb (h1 : 0 ≤ jj) (h2 : jj ≤ 1) hs hl => ?_⟩
                rcases (by omega : jj = 0 ∨ jj = 1) with rfl | rfl <;> exact ⟨_, rfl, AOp.move (.inl rfl) rfl (hl 7 none _ (.head _) rfl)⟩
              · refine .inl ⟨rfl, fun s' jj bb (h1 : 0 ≤ jj) (h2 : jj ≤ 1) hs hl => ?_⟩
                rcases (by omega : jj = 0 ∨ jj = 1) with rfl | rfl <;> exact ⟨_, rfl, AOp.index (k := i2) rfl rfl (hl 20 (some 2) _ (.head _) rfl) rfl (hl 21 (some 3) _ (.tail _ (.head _)) rfl) (GInstanceRef.trs_at h8n) el66⟩
              · refine .inl ⟨rfl, fun s' jj bb (h1 : 0 ≤ jj) (h2 : jj ≤ 1) hs hl => ?_⟩
                rcases (by omega : jj = 0 ∨ jj = 1) with rfl | rfl <;> exact ⟨_, rfl, AOp.fieldEptr (cs := (GInstanceRef.cs (atD (GProgram.allRefs pw) i2))) (e := 0) rfl rfl (hl 22 (some 4) _ (.head _) rfl) fo33_0⟩
              · refine .inl ⟨rfl, fun s' jj bb (h1 : 0 ≤ jj) (h2 : jj ≤ 1) hs hl => ?_⟩
                rcases (by omega : jj = 0 ∨ jj = 1) with rfl | rfl <;> exact ⟨_, rfl, AOp.loadEptr1 (d := .leaf (.int .i64 ((atD (GProgram.allRefs pw) i2).gPackage))) rfl rfl (hl 23 (some 5) _ (.head _) rfl) sh3 rfl⟩
              · refine .inl ⟨rfl, fun s' jj bb (h1 : 0 ≤ jj) (h2 : jj ≤ 1) hs hl => ?_⟩
                rcases (by omega : jj = 0 ∨ jj = 1) with rfl | rfl <;> exact ⟨_, rfl, AOp.indexI (e := GPackage.cs y10) (y := (atD (GProgram.allRefs pw) i2).gPackage) rfl rfl (hl 19 (some 1) _ (.head _) rfl) rfl (hl 24 (some 6) _ (.tail _ (.head _)) rfl) (hg9).1 (by rw [hy11]; exact GPackage.trs_at (hg9).2) el29⟩
              · refine .inl ⟨rfl, fun s' jj bb (h1 : 0 ≤ jj) (h2 : jj ≤ 1) hs hl => ?_⟩
                rcases (by omega : jj = 0 ∨ jj = 1) with rfl | rfl <;> exact ⟨_, rfl, AOp.fieldEptr (cs := (GPackage.cs y10)) (e := 4) rfl rfl (hl 25 (some 7) _ (.head _) rfl) fo126_4⟩
              · refine .inl ⟨rfl, fun s' jj bb (h1 : 0 ≤ jj) (h2 : jj ≤ 1) hs hl => ?_⟩
                rcases (by omega : jj = 0 ∨ jj = 1) with rfl | rfl <;> exact ⟨_, rfl, AOp.loadEptr1 (d := .row 12 (GInstance.trs (y10.gInstances))) rfl rfl (hl 26 (some 8) _ (.head _) rfl) sh123 rfl⟩
              · refine .inl ⟨rfl, fun s' jj bb (h1 : 0 ≤ jj) (h2 : jj ≤ 1) hs hl => ?_⟩
                rcases (by omega : jj = 0 ∨ jj = 1) with rfl | rfl <;> exact ⟨_, rfl, AOp.move (.inl rfl) rfl (hl 6 none _ (.head _) rfl)⟩
              · refine .inl ⟨rfl, fun s' jj bb (h1 : 0 ≤ jj) (h2 : jj ≤ 1) hs hl => ?_⟩
                rcases (by omega : jj = 0 ∨ jj = 1) with rfl | rfl <;> exact ⟨_, rfl, AOp.move (.inl rfl) rfl (hl 7 none _ (.head _) rfl)⟩
              · refine .inl ⟨rfl, fun s' jj bb (h1 : 0 ≤ jj) (h2 : jj ≤ 1) hs hl => ?_⟩
                rcases (by omega : jj = 0 ∨ jj = 1) with rfl | rfl <;> exact ⟨_, rfl, AOp.index (k := i2) rfl rfl (hl 28 (some 10) _ (.head _) rfl) rfl (hl 29 (some 11) _ (.tail _ (.head _)) rfl) (GInstanceRef.trs_at h8n) el66⟩
              · refine .inl ⟨rfl, fun s' jj bb (h1 : 0 ≤ jj) (h2 : jj ≤ 1) hs hl => ?_⟩
                rcases (by omega : jj = 0 ∨ jj = 1) with rfl | rfl <;> exact ⟨_, rfl, AOp.fieldEptr (cs := (GInstanceRef.cs (atD (GProgram.allRefs pw) i2))) (e := 1) rfl rfl (hl 30 (some 12) _ (.head _) rfl) fo33_1⟩
              · refine .inl ⟨rfl, fun s' jj bb (h1 : 0 ≤ jj) (h2 : jj ≤ 1) hs hl => ?_⟩
                rcases (by omega : jj = 0 ∨ jj = 1) with rfl | rfl <;> exact ⟨_, rfl, AOp.loadEptr1 (d := .leaf (.int .i64 ((atD (GProgram.allRefs pw) i2).gAt))) rfl rfl (hl 31 (some 13) _ (.head _) rfl) sh3 rfl⟩
              · refine .inl ⟨rfl, fun s' jj bb (h1 : 0 ≤ jj) (h2 : jj ≤ 1) hs hl => ?_⟩
                rcases (by omega : jj = 0 ∨ jj = 1) with rfl | rfl <;> exact ⟨_, rfl, AOp.indexI (e := GInstance.cs y13) (y := (atD (GProgram.allRefs pw) i2).gAt) rfl rfl (hl 27 (some 9) _ (.head _) rfl) rfl (hl 32 (some 14) _ (.tail _ (.head _)) rfl) (hg12).1 (by rw [hy14]; exact GInstance.trs_at (hg12).2) el123⟩
              · refine .inl ⟨rfl, fun s' jj bb (h1 : 0 ≤ jj) (h2 : jj ≤ 1) hs hl => ?_⟩
                rcases (by omega : jj = 0 ∨ jj = 1) with rfl | rfl <;> exact ⟨_, rfl, AOp.loadEptr (ds := [.leaf (.string (y13.gTrait)), .row 1 (strTrs (y13.gVars)), .leaf (.int .i64 (y13.gHead.gKind)), .leaf (.string (y13.gHead.gName)), .row 3 (GType.trs (y13.gHead.gArgs)), .row 4 (GBound.trs (y13.gWhere)), .leaf (.bool (y13.gDefault)), .leaf (.bool (y13.gHasAssoc)), .leaf (.int .i64 (y13.gAssoc.gKind)), .leaf (.string (y13.gAssoc.gName)), .row 3 (GType.trs (y13.gAssoc.gArgs)), .row 11 (GMethod.trs (y13.gMethods))]) rfl rfl (hl 33 (some 15) _ (.head _) rfl) sh113 rfl rfl⟩
              · refine .inl ⟨rfl, fun s' bb hs hl => ?_⟩
                refine .inl ⟨_, rfl, AOp.congr (AOp.alloc rfl rfl zr113) ?_⟩
                first | (rw [hs]; rfl) | rfl
              · refine .inl ⟨rfl, fun s' bb hs hl => ?_⟩
                refine .inr ⟨rfl, AOp.congr (AOp.storePtr (cs := [.t (.leaf (.string (y13.gTrait))), .t (.row 1 (strTrs (y13.gVars))), .t (.leaf (.int .i64 (y13.gHead.gKind))), .t (.leaf (.string (y13.gHead.gName))), .t (.row 3 (GType.trs (y13.gHead.gArgs))), .t (.row 4 (GBound.trs (y13.gWhere))), .t (.leaf (.bool (y13.gDefault))), .t (.leaf (.bool (y13.gHasAssoc))), .t (.leaf (.int .i64 (y13.gAssoc.gKind))), .t (.leaf (.string (y13.gAssoc.gName))), .t (.row 3 (GType.trs (y13.gAssoc.gArgs))), .t (.row 11 (GMethod.trs (y13.gMethods)))]) (ds := [.t (.leaf (.string (y13.gTrait))), .t (.row 1 (strTrs (y13.gVars))), .t (.leaf (.int .i64 (y13.gHead.gKind))), .t (.leaf (.string (y13.gHead.gName))), .t (.row 3 (GType.trs (y13.gHead.gArgs))), .t (.row 4 (GBound.trs (y13.gWhere))), .t (.leaf (.bool (y13.gDefault))), .t (.leaf (.bool (y13.gHasAssoc))), .t (.leaf (.int .i64 (y13.gAssoc.gKind))), .t (.leaf (.string (y13.gAssoc.gName))), .t (.row 3 (GType.trs (y13.gAssoc.gArgs))), .t (.row 11 (GMethod.trs (y13.gMethods)))]) rfl (hl 8 (some 17) _ (.head _) rfl) (by rw [hs]; rfl) (hl 34 (some 16) _ (.tail _ (.head _)) rfl) rfl rfl rfl sz113 (Nat.le_of_ble_eq_true rfl) rfl) ?_⟩
                first | (rw [hs]; rfl) | rfl
              refine AWP.seq ?_
              refine AWP.region_lit ?_
              refine AL.cons rfl (AOp.fieldPtr (k := 2) (d := 0) (e := 0) rfl rfl rfl fo113_0) ?_
              refine AL.cons rfl (AOp.loadPtr1 rfl rfl rfl rfl sh9 rfl) ?_
              refine AL.cons rfl (AOp.fieldPtr (k := 1) (d := 0) (e := 0) rfl rfl rfl fo49_0) ?_
              refine AL.cons rfl (AOp.loadPtr1 rfl rfl rfl rfl sh9 rfl) ?_
              refine AL.cons rfl (AOp.eqlS rfl rfl rfl rfl) ?_
              refine AL.cons rfl (AOp.move (.inl rfl) rfl rfl) ?_
              refine AL.splitB 40 rfl (fun g15 => ?_) (fun g15 => ?_)
              · skip
                refine AL.cons_gv rfl rfl rfl g15 (AOp.fieldPtr (k := 2) (d := 0) (e := 2) rfl rfl rfl fo113_2) ?_
                refine AL.cons_gv rfl rfl rfl g15 (AOp.loadPtr (cs := [.t (.leaf (.int .i64 (y13.gHead.gKind))), .t (.leaf (.string (y13.gHead.gName))), .t (.row 3 (GType.trs (y13.gHead.gArgs)))]) rfl rfl rfl rfl sh47 rfl rfl) ?_
                refine AL.cons_gv rfl rfl rfl g15 (AOp.fieldPtr (k := 1) (d := 0) (e := 1) rfl rfl rfl fo49_1) ?_
                refine AL.cons_gv rfl rfl rfl g15 (AOp.loadPtr (cs := [.t (.leaf (.int .i64 (pg.gType.gKind))), .t (.leaf (.string (pg.gType.gName))), .t (.row 3 (GType.trs (pg.gType.gArgs)))]) rfl rfl rfl rfl sh47 rfl rfl) ?_
                rcases Classical.em (Tr.bulkL (GType.tr y13.gHead) ≤ 68719476735) with hg16 | hg16
                · skip
                  rcases Classical.em (Tr.bulkL (GType.tr pg.gType) ≤ 68719476735) with hg17 | hg17
                  · skip
                    refine AL.cons_gv rfl rfl rfl g15 (AOp.callF (res := .t (.leaf (.bool (matchB y13.gHead pg.gType)))) (ps := [_, _]) rfl rfl Tryz.func113 (by kernel_rfl) rfl rfl leA rfl rfl (sMatches_fn y13.gHead pg.gType hg16 hg17)) ?_
                    refine AL.cons rfl (AOp.pickT rfl rfl rfl g15 rfl) ?_
                    refine AL.nil ?_
                    refine AWP.cond rfl (fun h18 => ?_) (fun h18 => ?_)
                    · skip
                      refine AWP.region_lit ?_
                      refine AL.cons rfl (AOp.move (.inl rfl) rfl rfl) ?_
                      refine AL.cons rfl (AOp.move (.inl rfl) rfl rfl) ?_
                      refine AL.cons rfl (AOp.move (.inl rfl) rfl rfl) ?_
                      refine AL.cons rfl (AOp.index (k := i2) rfl rfl rfl rfl rfl (GInstanceRef.trs_at h8n) el66) ?_
                      refine AL.cons rfl (AOp.loadEptr (ds := [.leaf (.int .i64 ((atD (GProgram.allRefs pw) i2).gPackage)), .leaf (.int .i64 ((atD (GProgram.allRefs pw) i2).gAt))]) rfl rfl rfl sh33 rfl rfl) ?_
                      refine AL.cons rfl (AOp.buildSliceE (es := [GInstanceRef.cs (atD (GProgram.allRefs pw) i2)]) (es' := GInstanceRef.trs (([(atD (GProgram.allRefs pw) i2)] : List GInstanceRef))) (cs := [.t (.leaf (.int .i64 ((atD (GProgram.allRefs pw) i2).gPackage))), .t (.leaf (.int .i64 ((atD (GProgram.allRefs pw) i2).gAt)))]) rfl rfl el66 zr33 rfl rfl leA rfl (by simp [GInstanceRef.cs]) (by decide) rfl (by decide) (by simp [GInstanceRef.trs_map, GInstanceRef.tr_cs])) ?_
                      rcases Classical.em ((v4).length + (([(atD (GProgram.allRefs pw) i2)] : List GInstanceRef)).length ≤ 68719476736) with hg19 | hg19
                      · skip
                        refine AL.cons rfl (AOp.appendE (es3 := GInstanceRef.trs (v4 ++ ([(atD (GProgram.allRefs pw) i2)] : List GInstanceRef))) rfl rfl rfl rfl rfl rfl rfl rfl rfl (fun e he => by rw [GInstanceRef.trs_map] at he; obtain ⟨x, _, rfl⟩ := List.mem_map.1 he; rw [GInstanceRef.tr_cs]; rfl) el66 ze66 (by decide) (by rw [GInstanceRef.trs_len, GInstanceRef.trs_len]; exact room_le hg19 (by decide)) (by rw [GInstanceRef.trs_map, GInstanceRef.trs_map, GInstanceRef.trs_map, List.map_append])) ?_
                        refine AL.cons rfl (AOp.move (.inr rfl) rfl rfl) ?_
                        refine AL.nil ?_
                        refine AWP.region_lit ?_
                        refine AL.cons rfl (AOp.move (.inl rfl) rfl rfl) ?_
                        refine AL.cons rfl (AOp.addI rfl rfl rfl rfl (c := ((i2 + 1 : Nat) : Int)) (by omega) (by omega)) ?_
                        refine AL.cons rfl (AOp.move (.inr rfl) rfl rfl) ?_
                        refine AL.nil ?_
                        have e20 : (sCandidateInstances_F1 fu pw pg) i2 v4 = some (.next (v4 ++ ([(atD (GProgram.allRefs pw) i2)] : List GInstanceRef))) := gdT hg9 (ltE hy11 (gdT hg12 (ltE hy14 (swT g15 (gdT hg16 (gdT hg17 (swT h18 (gdT hg19 (rfl)))))))))
                        refine ⟨(i2 + 1, (v4 ++ ([(atD (GProgram.allRefs pw) i2)] : List GInstanceRef))), loopN_next h8l hJ7 e20, ?_, ?_⟩
                        · skip
                          exact Wk.mk (StLe.mk' ⟨⟨rfl, leA, rfl⟩, ⟨⟨rfl, leA, rfl⟩, trivial⟩⟩ (by first | rfl | simp)) (keeps_nil hC) ⟨⟨_, rfl, .refl _, rfl⟩, ⟨⟨_, rfl, .refl _, rfl⟩, ⟨⟨_, rfl, .refl _, rfl⟩, ⟨⟨_, rfl, leA, rfl⟩, ⟨⟨_, rfl, .refl _, rfl⟩, ⟨⟨_, rfl, leA, rfl⟩, trivial⟩⟩⟩⟩⟩⟩
                        · dsimp only; omega
                      · skip
                        have e21 : (sCandidateInstances_F1 fu pw pg) i2 v4 = none := gdT hg9 (ltE hy11 (gdT hg12 (ltE hy14 (swT g15 (gdT hg16 (gdT hg17 (swT h18 (gdF hg19))))))))
                        have e22 : sCandidateInstances_R1 fu pw pg = none := loopN_non h8l hJ7 e21
                        have e23 : sCandidateInstances_M fu pw pg = none := gdT hg1 (soN e22)
                        exact none_some H e23
                    · skip
                      refine AWP.skip ?_
                      refine AWP.region_lit ?_
                      refine AL.cons rfl (AOp.move (.inl rfl) rfl rfl) ?_
                      refine AL.cons rfl (AOp.addI rfl rfl rfl rfl (c := ((i2 + 1 : Nat) : Int)) (by omega) (by omega)) ?_
                      refine AL.cons rfl (AOp.move (.inr rfl) rfl rfl) ?_
                      refine AL.nil ?_
                      have e24 : (sCandidateInstances_F1 fu pw pg) i2 v4 = some (.next v4) := gdT hg9 (ltE hy11 (gdT hg12 (ltE hy14 (swT g15 (gdT hg16 (gdT hg17 (swF h18 (rfl))))))))
                      refine ⟨(i2 + 1, v4), loopN_next h8l hJ7 e24, ?_, ?_⟩
                      · skip
                        exact Wk.mk (StLe.mk' ⟨⟨rfl, leA, rfl⟩, ⟨⟨rfl, leA, rfl⟩, trivial⟩⟩ (by first | rfl | simp)) (keeps_nil hC) ⟨⟨_, rfl, .refl _, rfl⟩, ⟨⟨_, rfl, .refl _, rfl⟩, ⟨⟨_, rfl, .refl _, rfl⟩, ⟨⟨_, rfl, .refl _, rfl⟩, ⟨⟨_, rfl, .refl _, rfl⟩, ⟨⟨_, rfl, leA, rfl⟩, trivial⟩⟩⟩⟩⟩⟩
                      · dsimp only; omega
                  · skip
                    have e25 : (sCandidateInstances_F1 fu pw pg) i2 v4 = none := gdT hg9 (ltE hy11 (gdT hg12 (ltE hy14 (swT g15 (gdT hg16 (gdF hg17))))))
                    have e26 : sCandidateInstances_R1 fu pw pg = none := loopN_non h8l hJ7 e25
                    have e27 : sCandidateInstances_M fu pw pg = none := gdT hg1 (soN e26)
                    exact none_some H e27
                · skip
                  have e28 : (sCandidateInstances_F1 fu pw pg) i2 v4 = none := gdT hg9 (ltE hy11 (gdT hg12 (ltE hy14 (swT g15 (gdF hg16)))))
                  have e29 : sCandidateInstances_R1 fu pw pg = none := loopN_non h8l hJ7 e28
                  have e30 : sCandidateInstances_M fu pw pg = none := gdT hg1 (soN e29)
                  exact none_some H e30
              · skip
                refine AL.skipP rfl rfl rfl g15 rfl rfl ?_
                refine AL.skipP rfl rfl rfl g15 rfl rfl ?_
                refine AL.skipP rfl rfl rfl g15 rfl rfl ?_
                refine AL.skipP rfl rfl rfl g15 rfl rfl ?_
                refine AL.skipP rfl rfl rfl g15 rfl rfl ?_
                refine AL.cons rfl (AOp.pickF rfl rfl rfl g15 rfl) ?_
                refine AL.nil ?_
                refine AWP.cond rfl (fun h31 => ?_) (fun h31 => ?_)
                · skip
                  exact absurd (h31.symm.trans rfl) (by decide)
                · skip
                  refine AWP.skip ?_
                  refine AWP.region_lit ?_
                  refine AL.cons rfl (AOp.move (.inl rfl) rfl rfl) ?_
                  refine AL.cons rfl (AOp.addI rfl rfl rfl rfl (c := ((i2 + 1 : Nat) : Int)) (by omega) (by omega)) ?_
                  refine AL.cons rfl (AOp.move (.inr rfl) rfl rfl) ?_
                  refine AL.nil ?_
                  have e32 : (sCandidateInstances_F1 fu pw pg) i2 v4 = some (.next v4) := gdT hg9 (ltE hy11 (gdT hg12 (ltE hy14 (swF g15 (rfl)))))
                  refine ⟨(i2 + 1, v4), loopN_next h8l hJ7 e32, ?_, ?_⟩
                  · skip
                    exact Wk.mk (StLe.mk' ⟨⟨rfl, leA, rfl⟩, ⟨⟨rfl, leA, rfl⟩, trivial⟩⟩ (by first | rfl | simp)) (keeps_nil hC) ⟨⟨_, rfl, .refl _, rfl⟩, ⟨⟨_, rfl, .refl _, rfl⟩, ⟨⟨_, rfl, .refl _, rfl⟩, ⟨⟨_, rfl, .refl _, rfl⟩, ⟨⟨_, rfl, .refl _, rfl⟩, ⟨⟨_, rfl, leA, rfl⟩, trivial⟩⟩⟩⟩⟩⟩
                  · dsimp only; omega
            · skip
              have e33 : (sCandidateInstances_F1 fu pw pg) i2 v4 = none := gdT hg9 (ltE hy11 (gdF hg12))
              have e34 : sCandidateInstances_R1 fu pw pg = none := loopN_non h8l hJ7 e33
              have e35 : sCandidateInstances_M fu pw pg = none := gdT hg1 (soN e34)
              exact none_some H e35
          · skip
            have e36 : (sCandidateInstances_F1 fu pw pg) i2 v4 = none := gdF hg9
            have e37 : sCandidateInstances_R1 fu pw pg = none := loopN_non h8l hJ7 e36
            have e38 : sCandidateInstances_M fu pw pg = none := gdT hg1 (soN e37)
            exact none_some H e38
        · skip
          have h8l : (GProgram.allRefs pw).length ≤ i2 := nat_ge_of2 h8
          refine AWP.exit ?_
          refine ⟨v4, loopN_end h8l hJ7, ?_⟩
          exact Wk.mk (StLe.mk' ⟨⟨rfl, leA, rfl⟩, ⟨⟨rfl, leA, rfl⟩, trivial⟩⟩ (by first | rfl | simp)) (keeps_nil hC) ⟨⟨_, rfl, .refl _, rfl⟩, ⟨⟨_, rfl, .refl _, rfl⟩, trivial⟩⟩
    · rintro v4 hR39
      refine AWP.seq ?_
      refine AWP.region_lit ?_
      refine AL.cons rfl (AOp.move (.inl rfl) rfl rfl) ?_
      refine AL.cons rfl (AOp.move (.inr rfl) rfl rfl) ?_
      refine AL.nil ?_
      refine AWP.ret ?_
      have e40 : sCandidateInstances_M fu pw pg = some v4 := gdT hg1 (soR hR39 (rfl))
      have hz : v4 = r := Option.some.inj (e40.symm.trans H)
      subst hz
      exact Ends.mk (ps := [_]) (by first | exact .inr rfl | exact .inl rfl) ⟨rfl, trivial⟩ rfl (StLe.mk' (st' := ⟨[], []⟩) trivial rfl) (keeps_nil hC) (q := (.t (.row 2 (GInstanceRef.trs (v4))) : PV)) leA rfl ⟨rfl, rfl⟩
  · skip
    have e41 : sCandidateInstances_M fu pw pg = none := gdF hg1
    exact none_some H e41

end Go.Proofs.YtnakkelglbcecaaGreat

namespace Go.Proofs.YtnakkelglbcecaaGreat
set_option linter.unusedSimpArgs false
set_option linter.unusedVariables false
open Go.RowKit Go.Proofs

theorem idxL_spec {α : Type} (p : α → Bool) : ∀ (l : List α) (i : Nat), (idxL p l i = -1 ∧ ∀ x ∈ l, p x = false) ∨ ∃ k, ∃ h : k < l.length, idxL p l i = ((i + k : Nat) : Int) ∧ p l[k] = true ∧ ∀ x ∈ l.take k, p x = false
  | [], i => .inl ⟨rfl, fun x hx => by simp at hx⟩
  | a :: l, i => by
    rw [idxL]
    cases ha : p a with
    | true => exact .inr ⟨0, by simp, by simp, by simpa using ha, by simp⟩
    | false =>
      rcases idxL_spec p l (i + 1) with ⟨h1, h2⟩ | ⟨k, hk, h1, h2, h3⟩
      · exact .inl ⟨by simpa using h1, fun x hx => by
          rcases List.mem_cons.1 hx with rfl | hx
          · exact ha
          · exact h2 x hx⟩
      · refine .inr ⟨k + 1, by simpa using hk, ?_, by simpa using h2, fun x hx => ?_⟩
        · simp only [Bool.false_eq_true, if_false]
          rw [h1]
          congr 1
          omega
        · rw [List.take_succ_cons] at hx
          rcases List.mem_cons.1 hx with rfl | hx
          · exact ha
          · exact h3 x hx
/-- j places have been looked at; what is kept of them, i elements, lies at the head; from place j on all is as it was. -/
structure DInv {α : Type} (p : α → Bool) (l : List α) (i j : Nat) (dk : List α) : Prop where
  len : dk.length = l.length
  lt : i < j
  low : dk.take i = (l.take j).filter (fun x => !p x)
  high : ∀ q, j ≤ q → dk[q]? = l[q]?
theorem DInv.start {α : Type} {p : α → Bool} {l : List α} {k : Nat} (hk : k < l.length) (ht : p l[k] = true) (hf : ∀ x ∈ l.take k, p x = false) : DInv p l k (k + 1) l := by
  refine ⟨rfl, by omega, ?_, fun _ _ => rfl⟩
  rw [List.take_succ_eq_append_getElem hk, List.filter_append, List.filter_eq_self.2 (fun x hx => by simp [hf x hx])]
  simp [ht]
theorem DInv.keep {α : Type} {p : α → Bool} {l dk : List α} {i j : Nat} (h : DInv p l i j dk) (hj : j < l.length) (hp : p l[j] = false) : DInv p l (i + 1) (j + 1) (dk.set i l[j]) := by
  have hl := h.len
  have hlt := h.lt
  refine ⟨by simp [hl], by omega, ?_, fun q hq => ?_⟩
  · rw [List.take_succ_eq_append_getElem hj, List.filter_append, ← h.low]
    rw [List.take_succ_eq_append_getElem (by simp; omega), List.take_set_of_le (Nat.le_refl _)]
    simp [hp]
  · rw [List.getElem?_set_ne (by omega)]
    exact h.high q (by omega)
theorem DInv.skip {α : Type} {p : α → Bool} {l dk : List α} {i j : Nat} (h : DInv p l i j dk) (hj : j < l.length) (hp : p l[j] = true) : DInv p l i (j + 1) dk := by
  have hlt := h.lt
  refine ⟨h.len, by omega, ?_, fun q hq => h.high q (by omega)⟩
  rw [List.take_succ_eq_append_getElem hj, List.filter_append, ← h.low]
  simp [hp]
/-- A head of an own slice. -/
theorem Own.head {w : World} {sz : Nat} {es : List (List Tr)} {a : Option Addr} {n cap i : Nat} {S : Nat → Prop} (h : Own w (.row sz es) (.slice a n cap) S) (hi : i ≤ es.length) : Own w (.row sz (es.take i)) (.slice a i cap) S := by
  cases h with
  | row c T h1 h2 h3 h4 h5 h6 =>
    have hg : ∀ q e, (es.take i)[q]? = some e → es[q]? = some e := fun q e he => by
      rw [List.getElem?_take] at he
      split at he
      · exact he
      · cases he
    have hl : (es.take i).length = i := by simp; omega
    have := Own.row (w := w) (sz := sz) (es := es.take i) (a := a) (cap := cap) (S := S) c T (by omega) h2 (fun hne => by
      obtain ⟨b, off, E, arr, ha, hob, hs, hc⟩ := h3 (fun h0 => hne (by rw [h0]; simp))
      exact ⟨b, off, E, arr, ha, hob, hs, fun q e he => hc q e (hg q e he)⟩) (fun q e he => h4 q e (hg q e he)) (fun q e he => h5 q e (hg q e he)) (fun q e he j d hd q' e' he' => h6 q e (hg q e he) j d hd q' e' (hg q' e' he'))
    rwa [hl] at this
theorem OwnL.flat {w0 w : World} {S : Nat → Prop} : ∀ {ts : List Tr} {cs : List Value}, RepL w0 ts cs → (∀ d ∈ ts, ∃ v, d = .leaf v) → OwnL w ts cs S
  | [], cs, h, _ => by
    obtain rfl := RepL.nil_eq h
    exact OwnL.nil _ _
  | t :: ts, cs, h, hf => by
    obtain ⟨v, rfl⟩ := hf t (by simp)
    cases cs with
    | nil => exact h.elim
    | cons c cs =>
      obtain ⟨rfl, hv⟩ := h.1.leaf_eq
      exact OwnL.cons_leaf hv (OwnL.flat h.2 fun d hd => hf d (List.mem_cons_of_mem _ hd))
theorem ref_flat (x : GInstanceRef) : ∀ d ∈ GInstanceRef.tr x, ∃ v, d = .leaf v := by
  obtain ⟨a, b⟩ := x
  intro d hd
  simp only [GInstanceRef.tr, List.mem_append, List.mem_singleton, List.not_mem_nil, or_false] at hd
  rcases hd with rfl | rfl
  · exact ⟨_, rfl⟩
  · exact ⟨_, rfl⟩
theorem run_clear_own {P : Program} (t e ty : TypeId) (z : Value) (ht : P.underlying t = some (.slice e)) (hv : ∀ w, (zeroValue e).run P w = .ok z w) (B off n c : Nat) (E : TypeId) (arr : Array Value) (w : World) (hob : OB w B E arr) (hn : 0 < n) (zs : List Value) (hz : (Builtin.zeroCells z.cells n).toList = zs)
    (hfit : off + zs.length ≤ arr.size) (h1 : ∀ v ∈ zs, v.oneCell' = true) : (Builtin.clear_ #[t] ty #[.slice (some ⟨B, off, none⟩) n c]).run P w = .ok (.tuple #[]) (w.setRow B (splice arr off zs)) := by
  have hst := run_storeCells_at P B off E zs 0 arr w hob (by simpa using hfit) h1
  simp only [Nat.add_zero] at hst
  obtain ⟨m, rfl⟩ : ∃ m, n = m + 1 := ⟨n - 1, by omega⟩
  simp [Builtin.clear_, run_underlying ht, hv, hz, hst, splice]
/-- A flat own slice whose cells are as they were. -/
theorem Own.cellsSame {w w' : World} {sz b off n cap : Nat} {es : List (List Tr)} {S : Nat → Prop} {E E' : TypeId} {arr arr' : Array Value} (h : Own w (.row sz es) (.slice (some ⟨b, off, none⟩) n cap) S) (hob : OB w b E arr) (hob' : OB w' b E' arr')
    (hc : ∀ q j, q < es.length → j < sz → arr'[off + q * sz + j]? = arr[off + q * sz + j]?) (hl : ∀ e ∈ es, e.length = sz) (hf : ∀ e ∈ es, ∀ d ∈ e, ∃ v, d = .leaf v) : Own w' (.row sz es) (.slice (some ⟨b, off, none⟩) n cap) S := by
  cases h with
  | row c T h1 h2 h3 h4 h5 h6 =>
    refine .row c (fun _ _ _ => False) h1 h2 (fun hne => ?_) (fun i e he j d hd => ?_) (fun _ _ _ _ _ _ x hx => hx.elim) (fun _ _ _ _ _ _ _ _ _ _ _ _ _ x hx => hx.elim)
    · obtain ⟨b1, off1, E1, arr1, ha, ho, hs, hcc⟩ := h3 hne
      obtain ⟨rfl, rfl⟩ : b = b1 ∧ off = off1 := by simpa using ha
      have he : arr1 = arr ∧ E1 = E := by
        have := ho.symm.trans hob
        simpa using this
      obtain ⟨rfl, rfl⟩ := he
      refine ⟨b, off, E', arr', rfl, hob', hs, fun i e he j d hd => ⟨?_, fun x hx => hx.elim⟩⟩
      have hle := hl e (List.mem_of_getElem? he)
      rw [hc i j (List.getElem?_eq_some_iff.1 he).1 (by rw [← hle]; exact (List.getElem?_eq_some_iff.1 hd).1)]
      exact (hcc i e he j d hd).1
    · obtain ⟨v, rfl⟩ := hf e (List.mem_of_getElem? he) d (List.mem_of_getElem? hd)
      obtain ⟨hv, hl⟩ := (h4 i e he j _ hd).rep.leaf_eq
      rw [hv]
      exact .leaf hl
theorem zeroCells2 (a b : Value) (n : Nat) : (Builtin.zeroCells #[a, b] n).toList.length = n * 2 ∧ ∀ v ∈ (Builtin.zeroCells #[a, b] n).toList, v = a ∨ v = b := by
  refine ⟨by simp [Builtin.zeroCells], fun v hv => ?_⟩
  simp only [Builtin.zeroCells, Array.toList_map, List.mem_map] at hv
  obtain ⟨i, _, rfl⟩ := hv
  have : i % 2 = 0 ∨ i % 2 = 1 := by omega
  rcases this with h | h <;> simp [h]

set_option maxRecDepth 100000 in
set_option maxHeartbeats 2000000 in
theorem deleteFunc_ref (l : List GInstanceRef) (p : GInstanceRef → Bool) (g : FuncId) (caps : Array Value) (hg : ∀ (args : Array Value) (w : World), (callFunc g args).run Tryz.prog w = .ok (.enter g args) w) (s : Value) (w : World) (S : Nat → Prop) (hS : ∀ x, S x → x < w.heap.size)
    (H : ∀ x ∈ l, ∀ cs W, Chg S w W → RepL W (GInstanceRef.tr x) cs → Calls Tryz.prog g (#[.agg ⟨cs⟩] ++ caps) W fun e W' => e = .returned (.bool (p x)) ∧ Ext W W')
    (hs : Own w (.row 2 (l.map GInstanceRef.tr)) s S) :
    Calls Tryz.prog 98 #[s, .func (.func g) #[] caps] w fun e w' => ∃ v, e = .returned v ∧ Chg S w w' ∧ Own w' (.row 2 ((l.filter (fun x => !p x)).map GInstanceRef.tr)) v S := by
  obtain ⟨a, cap, rfl, hlc, hm⟩ := hs.rep.shape
  unfold maxLen at hm
  rw [List.length_map] at hlc
  rw [List.length_map] at hs ⊢
  have HS := Lib.hid hs
  have HH := Lib.hid H
  have HSS := Lib.hid hS
  clear hs H hS
  go_enter Tryz.func98, Tryz.ntmps98
  go_wp2_with fail
  refine (indexFunc_147 GInstanceRef.tr p l g caps hg GInstanceRef.tr_len _ _ (fun x hx cs w' hw hr => HH.out x hx cs w' (.of_ext hw) hr) HS.out.rep).mono ?_
  rintro e w1 ⟨rfl, hw1⟩
  have HW1 := Lib.hid hw1
  clear hw1
  rcases idxL_spec p l 0 with ⟨e1, hall⟩ | ⟨k0, hk0, e1, ht, hall⟩
  · have HA := Lib.hid hall
    rw [e1]
    clear hall e1
    go_wp2_with fail
    go_ret
    refine ⟨_, rfl, .of_ext HW1.out, ?_⟩
    rw [List.filter_eq_self.2 (fun x hx => by simp [HA.out x hx])]
    exact HS.out.ext HW1.out
  · have HD := Lib.hid (DInv.start hk0 ht hall)
    rw [e1, Nat.zero_add]
    clear ht hall e1
    have hne : ¬ ((k0 : Int) = -1) := by omega
    go_wp2_with fail
    go_loopw [5, 6] (fun iv jv wr => ∃ (i j : Nat) (dk : List GInstanceRef), iv = .int .i64 i ∧ jv = .int .i64 j ∧ i < j ∧ j ≤ l.length ∧ Hid (DInv p l i j dk) ∧ Hid (Chg S w wr) ∧ Hid (Own wr (.row 2 (dk.map GInstanceRef.tr)) (.slice a l.length cap) S)) (fun _ jv _ => l.length - (intOf jv).toNat)
    case atStart => exact ⟨k0, k0 + 1, l, rfl, by go_num, by omega, by omega, HD.out, Chg.of_ext HW1.out, HS.out.ext HW1.out⟩
    case round =>
      obtain ⟨i, j, dk, rfl, rfl, hij, hjl, HD1, HC1, HO1⟩ := hrel
      by_cases hlt : j < l.length
      · have hdl := HD1.out.len
        have hjd : dk[j]? = some l[j] := by rw [HD1.out.high j (Nat.le_refl _)]; exact List.getElem?_eq_getElem hlt
        obtain ⟨b, off, cs, rfl, hb, hcs, hc⟩ := (HO1.out.rep).at2 (k := j) (e := GInstanceRef.tr l[j]) (by rw [List.getElem?_map, hjd]; rfl)
        have HM := Lib.hid (List.getElem_mem hlt)
        have HCS := Lib.hid hcs
        have HC := Lib.hid hc
        have HCL : Hid (cs.length = 2) := by rw [← hcs.length]; exact GInstanceRef.tr_len _
        have HI : Hid ((Tryz.prog.info? 33).map (·.size) = some cs.length) := by rw [HCL.out]; exact isz33
        have HDL := Lib.hid hdl
        clear hcs hc hdl hjd
        go_wp2_with (first
          | (refine wpList_load_rep rfl 33 (.tmp 24) rfl b (off + j * 2) rfl cs _ Tryz.underlying33 HI.out HC.out ?_)
          | (refine wpList_store_rep rfl 33 (.tmp 7) (.tmp 25) rfl wr.heap.size 0 rfl cs rfl 33 _ (OB.new wr _ _) HI.out (by rw [HCL.out]; exact Nat.le_refl _) HCS.out.one ?_; intro w2 hob hgb hzb; rw [splice_whole (by rw [HCL.out]; rfl)] at hob; have HOB := Lib.hid hob; have HXB := Lib.hid (grown_ext (.alloc (.refl wr) _) hgb (Nat.le_refl _)); clear hob hgb hzb)
          | (refine wpList_load_rep rfl 33 (.tmp 7) rfl wr.heap.size 0 rfl cs _ Tryz.underlying33 HI.out HOB.out.cells0 ?_))
        refine (HH.out _ HM.out cs w2 (HC1.out.trans (.of_ext HXB.out)) (HCS.out.ext HXB.out)).mono ?_
        rintro e w3 ⟨rfl, hw3⟩
        have HW3 := Lib.hid (HXB.out.trans hw3)
        have HOB3 := Lib.hid (HOB.out.ext hw3)
        have HC3 := Lib.hid (HC1.out.trans (.of_ext HW3.out))
        have HO3 := Lib.hid (HO1.out.ext HW3.out)
        clear hw3
        cases hp : p l[j] with
        | true =>
          have HP := Lib.hid hp
          clear hp
          go_wp2_with fail
          refine ⟨⟨_, _, _, _, _, _, _, _, _, _, _, _, _, _, _, _, _, _, _, _, _, _, _, ?rel, rfl⟩, ?measure⟩
          case rel => exact ⟨i, j + 1, dk, rfl, by go_num, by omega, by omega, HD1.out.skip hlt HP.out, HC3.out, HO3.out⟩
          case measure => simp [intOf]; omega
        | false =>
          have HP := Lib.hid hp
          clear hp
          have hid : i < dk.length := by have := HDL.out; omega
          obtain ⟨b2, off2, E0, arr0, cs0, T, hab, hob, hsb, how, hT, hcl, hfit, hcc, hback⟩ := HO3.out.focus (i := i) (e := GInstanceRef.tr dk[i]) (by rw [List.getElem?_map, List.getElem?_eq_getElem hid]; rfl) (by intro x hx; obtain ⟨y, _, rfl⟩ := List.mem_map.1 hx; exact GInstanceRef.tr_len _)
          obtain ⟨rfl, rfl⟩ : b = b2 ∧ off = off2 := by simpa using hab
          have HOBb := Lib.hid hob
          have HSB := Lib.hid hsb
          have HBK := Lib.hid hback
          have HFIT := Lib.hid (hfit (by omega))
          clear hob hsb how hT hcl hfit hcc hback hab
          go_wp2_with (first
            | (refine wpList_load_rep rfl 33 (.tmp 7) rfl wr.heap.size 0 rfl cs _ Tryz.underlying33 HI.out HOB3.out.cells0 ?_)
            | (refine wpList_store_rep rfl 33 (.tmp 33) (.tmp 32) rfl b (off + i * 2) rfl cs rfl E0 arr0 HOBb.out HI.out (by rw [HCL.out]; exact HFIT.out) HCS.out.one ?_; intro w4 hob4 hg4 hz4; have HOB4 := Lib.hid hob4; have HG4 := Lib.hid hg4; clear hob4 hg4 hz4))
          refine ⟨⟨_, _, _, _, _, _, _, _, _, _, _, _, _, _, _, _, _, _, _, _, _, _, _, ?rel, rfl⟩, ?measure⟩
          case rel =>
            refine ⟨i + 1, j + 1, dk.set i l[j], by go_num, by go_num, by omega, by omega, HD1.out.keep hlt HP.out, HC3.out.trans (Chg.of_grown HG4.out HSB.out), ?_⟩
            show Own _ _ _ _
            rw [List.map_set]
            exact HBK.out w4 cs _ (GInstanceRef.tr_len _) HOB4.out (OwnL.flat HCS.out (ref_flat _)) (fun x hx _ hne _ => HG4.out.block x hx (by simpa using hne)) HFIT.out
          case measure => simp [intOf]; omega
      · obtain rfl : j = l.length := by omega
        have hdl := HD1.out.len
        have hil : l.length - 1 < dk.length := by omega
        obtain ⟨b, off, E0, arr0, cs0, T, rfl, hob, hsb, how, hT, hcl, hfit, hcc, hback⟩ := HO1.out.focus (i := l.length - 1) (e := GInstanceRef.tr dk[l.length - 1]) (by rw [List.getElem?_map, List.getElem?_eq_getElem hil]; rfl) (by intro x hx; obtain ⟨y, _, rfl⟩ := List.mem_map.1 hx; exact GInstanceRef.tr_len _)
        have HOBb := Lib.hid hob
        have HSB := Lib.hid hsb
        have hfit2 := hfit (by omega)
        have hfz : off + i * 2 + (l.length - i) * 2 ≤ arr0.size := by omega
        have HDL := Lib.hid hdl
        clear hob hsb how hT hcl hfit hcc hback hil hfit2 hdl
        obtain ⟨hzl, hzm⟩ := zeroCells2 (.int .i64 0) (.int .i64 0) (l.length - i)
        have hz33 : ∀ w, (zeroValue 33).run Tryz.prog w = .ok (.agg #[.int .i64 0, .int .i64 0]) w := fun w => rfl
        have hcl : ∀ ty, (Builtin.clear_ #[66] ty #[.slice (some ⟨b, off + i * 2, none⟩) (l.length - i) (cap - i)]).run Tryz.prog wr = .ok (.tuple #[]) (wr.setRow b (splice arr0 (off + i * 2) (Builtin.zeroCells #[.int .i64 0, .int .i64 0] (l.length - i)).toList)) := fun ty =>
          run_clear_own 66 33 ty (.agg #[.int .i64 0, .int .i64 0]) Tryz.underlying66 hz33 b (off + i * 2) (l.length - i) (cap - i) E0 arr0 wr HOBb.out (by omega) _ rfl (by rw [hzl]; exact hfz) (fun v hv => by rcases hzm v hv with rfl | rfl <;> rfl)
        have HFZ := Lib.hid hfz
        have HZL := Lib.hid hzl
        clear hzm hz33 hfz hzl
        generalize (Builtin.zeroCells #[.int .i64 0, .int .i64 0] (l.length - i)).toList = zs at *
        go_wp2_with fail
        go_ret
        have hob5 : OB (wr.setRow b (splice arr0 (off + i * 2) zs)) b E0 (splice arr0 (off + i * 2) zs) := setRow_heap wr b arr0 _ E0 _ HOBb.out
        refine ⟨_, rfl, HC1.out.trans ?_, ?_⟩
        · exact ⟨rfl, rfl, rfl, by simp, fun k _ hk => setRow_other wr b k _ (fun e => hk (by rw [e]; exact HSB.out))⟩
        · have hd := HD1.out.low
          rw [List.take_length] at hd
          rw [← hd, List.map_take]
          have hh := HO1.out.head (i := i) (by have := HDL.out; simp; omega)
          have := HDL.out
          refine hh.cellsSame HOBb.out hob5 (fun q j hq hj => ?_) (fun e he => ?_) (fun e he => ?_)
          · have hq2 : q < i := by rw [List.length_take] at hq; omega
            rw [splice_get (by rw [HZL.out]; exact HFZ.out), if_pos (by omega)]
          · obtain ⟨y, _, rfl⟩ := List.mem_map.1 (List.mem_of_mem_take he)
            exact GInstanceRef.tr_len _
          · obtain ⟨y, _, rfl⟩ := List.mem_map.1 (List.mem_of_mem_take he)
            exact ref_flat _

end Go.Proofs.YtnakkelglbcecaaGreat

namespace Go.Proofs.YtnakkelglbcecaaGreat
set_option linter.unusedSimpArgs false
set_option linter.unusedVariables false
open Go.RowKit Go.Proofs

theorem AFun.plainAB {P : Program} {f : FuncId} {args : List PV} {ts : List Tr} {d : Value} (h : AFun P f args (.tup [.agg (ts.map PV.t), .t (.leaf d)])) {w : World} {vals : List Value} (hv : RVL0 w args vals) : Calls P f ⟨vals⟩ w fun e w' => ∃ cs, e = .returned (.tuple #[.agg ⟨cs⟩, d]) ∧ Ext w w' ∧ RepL w' ts cs :=
  (h av0 lay0 w vals (sto0 w) hv).mono fun e w' => by
    rintro ⟨res, st', m', v, rfl, ⟨rfl, rfl⟩, -, he, vs, rfl, hr⟩
    match vs, hr with
    | [u, x], hr =>
      obtain ⟨rfl, -⟩ := (RepM.rep (show RepM _ _ (.leaf d) x from hr.2.1)).leaf_eq
      obtain ⟨cs, rfl, hl⟩ := hr.1
      exact ⟨cs, rfl, he.ext, RVL.ofTr hl⟩
theorem instP (x0 : GProgram) (o : GInstanceRef) (w : World) (c0 cs : List Value) (h0 : RepL w x0.tr c0) (hr : RepL w o.tr cs) : Calls Tryz.prog 81 #[.agg ⟨c0⟩, .agg ⟨cs⟩] w fun e w' => ∃ ci, e = .returned (.tuple #[.agg ⟨ci⟩, .bool (GProgram.instAt x0 o).isSome]) ∧ Ext w w' ∧ RepL w' (oInst (GProgram.instAt x0 o)).cs ci := by
  rw [GProgram.tr_cs] at h0
  rw [GInstanceRef.tr_cs] at hr
  exact AFun.plainAB (ts := (oInst (GProgram.instAt x0 o)).cs) (inst_impl x0 o) (RVL0.cons (RV0.agg h0) (RVL0.cons (RV0.agg hr) RVL0.nil))
theorem matchesP (p t : GType) (w : World) (c0 c1 : List Value) (h0 : RepL w p.tr c0) (h1 : RepL w t.tr c1) (hp : Tr.bulkL p.tr ≤ 68719476735) (ht : Tr.bulkL t.tr ≤ 68719476735) : Calls Tryz.prog 115 #[.agg ⟨c0⟩, .agg ⟨c1⟩] w fun e w' => e = .returned (.bool (matchB p t)) ∧ Ext w w' := by
  rw [GType.tr_cs] at h0 h1
  exact AFun.plain (iMatches_fn p t hp ht) (RVL0.cons (RV0.agg h0) (RVL0.cons (RV0.agg h1) RVL0.nil))

set_option maxRecDepth 100000 in
set_option maxHeartbeats 2000000 in
theorem candClosure (x0 : GProgram) (g : GBound) (c0 cg : List Value) (B0 B1 : Nat) (o : GInstanceRef) (cs : List Value) (w : World) (hob0 : OB w B0 31 ⟨c0⟩) (hob1 : OB w B1 49 ⟨cg⟩) (h0 : RepL w x0.tr c0) (hg : RepL w g.tr cg) (hr : RepL w o.tr cs)
    (hB0 : Tr.bulkL (oInst (GProgram.instAt x0 o)).gHead.tr ≤ 68719476735) (hB1 : Tr.bulkL g.gType.tr ≤ 68719476735) :
    Calls Tryz.prog 114 (#[.agg ⟨cs⟩] ++ #[.pointer (some ⟨B0, 0, none⟩), .pointer (some ⟨B1, 0, none⟩)]) w fun e w' => e = .returned (.bool (!(decide ((oInst (GProgram.instAt x0 o)).gTrait = g.gTrait) && matchB (oInst (GProgram.instAt x0 o)).gHead g.gType))) ∧ Ext w w' := by
  have HI0 : Hid ((Tryz.prog.info? 31).map (·.size) = some c0.length) := by rw [← h0.length, GProgram.tr_len]; exact isz31
  have HI1 : Hid ((Tryz.prog.info? 33).map (·.size) = some cs.length) := by rw [← hr.length, GInstanceRef.tr_len]; exact isz33
  rw [GBound.tr_cs] at hg
  obtain ⟨d0, d1, d2, d3, rfl⟩ := list4 hg.length.symm
  obtain ⟨rfl, -⟩ := hg.1.leaf_eq
  have HG : Hid (RepL w g.gType.tr [d1, d2, d3]) := by rw [GType.tr_cs]; exact hg.2
  have HOB0 := Lib.hid hob0
  have HOB1 := Lib.hid hob1
  have H0 := Lib.hid h0
  have HR := Lib.hid hr
  have HB0 := Lib.hid hB0
  have HB1 := Lib.hid hB1
  clear hob0 hob1 h0 hr hg hB0 hB1
  go_enter Tryz.func114, Tryz.ntmps114
  go_wp2_with (first
    | (refine wpList_load_rep rfl 31 (.tmp 1) rfl B0 0 rfl c0 _ Tryz.underlying31 HI0.out (HOB0.out.ext (.alloc (.refl _) _)).cells0 ?_)
    | (refine wpList_load_rep rfl 33 (.tmp 3) rfl w.heap.size 0 rfl cs _ Tryz.underlying33 HI1.out (OB.new w _ _).cells0 ?_))
  refine (instP x0 o _ c0 cs (H0.out.ext (.alloc (.refl _) _)) (HR.out.ext (.alloc (.refl _) _))).mono ?_
  rintro e w1 ⟨ci, rfl, hw1, hci⟩
  have HW1 := Lib.hid (Ext.trans (.alloc (.refl w) _) hw1)
  clear hw1
  have HCI := Lib.hid hci
  have HCL : Hid (ci.length = 12) := by rw [← hci.length]; rfl
  have HII : Hid ((Tryz.prog.info? 113).map (·.size) = some ci.length) := by rw [HCL.out]; exact isz113
  clear hci
  by_cases ht : (oInst (GProgram.instAt x0 o)).gTrait = g.gTrait
  · have HT := Lib.hid ht
    clear ht
    go_wp2_with (first
      | (refine wpList_store_rep rfl 113 (.tmp 5) (.tmp 11) rfl w1.heap.size 0 rfl ci rfl 113 _ (OB.new w1 _ _) HII.out (by rw [HCL.out]; exact Nat.le_refl _) HCI.out.one ?_; intro w2 hob hgb hzb; rw [splice_whole (by rw [HCL.out]; rfl)] at hob; have HOBI := Lib.hid hob; have HX2 := Lib.hid (grown_ext (.alloc (.refl w1) _) hgb (Nat.le_refl _)); clear hob hgb hzb; obtain ⟨e0, e1, e2, e3, e4, e5, e6, e7, e8, e9, e10, e11, rfl⟩ := list12 HCL.out; obtain ⟨rfl, -⟩ := HCI.out.1.leaf_eq; have HH : Hid (RepL w1 (oInst (GProgram.instAt x0 o)).gHead.tr [e2, e3, e4]) := (by rw [GType.tr_cs]; exact ⟨HCI.out.2.2.1, HCI.out.2.2.2.1, HCI.out.2.2.2.2.1, trivial⟩); have HXX := Lib.hid (HW1.out.trans HX2.out); have hcI : w2.cell? ⟨w1.heap.size, 0, none⟩ = some (.string (oInst (GProgram.instAt x0 o)).gTrait) := (by rw [HOBI.out.cell]; rfl); have hcG : w2.cell? ⟨B1, 0, none⟩ = some (.string g.gTrait) := (by rw [(HOB1.out.ext HXX.out).cell]; rfl); rw [HT.out] at hcI)
      | (refine wpList_load_rep_g (by rfl) 47 (.tmp 19) rfl w1.heap.size 2 rfl [e2, e3, e4] _ Tryz.underlying47 isz47 (fun j v hv => by rw [HOBI.out.cell]; rcases j with _ | _ | _ | j <;> first | (simp at hv; done) | simpa using hv) ?_)
      | (refine wpList_load_rep_g (by rfl) 47 (.tmp 21) rfl B1 1 rfl [d1, d2, d3] _ Tryz.underlying47 isz47 (fun j v hv => by rw [(HOB1.out.ext HXX.out).cell]; rcases j with _ | _ | _ | j <;> first | (simp at hv; done) | simpa using hv) ?_))
    refine (matchesP _ _ w2 _ _ (HH.out.ext HX2.out) (HG.out.ext HXX.out) HB0.out HB1.out).mono ?_
    rintro e w3 ⟨rfl, hw3⟩
    have HX3 := Lib.hid (HXX.out.trans hw3)
    clear hw3
    go_wp2_with fail
    go_ret
    refine ⟨?_, HX3.out⟩
    rw [decide_eq_true HT.out]
    rfl
  · have hne : ¬ (oInst (GProgram.instAt x0 o)).gTrait.toList = g.gTrait.toList := fun h => ht (bytes_inj h)
    have HD : Hid (decide ((oInst (GProgram.instAt x0 o)).gTrait = g.gTrait) = false) := decide_eq_false ht
    have HT : Hid ((oInst (GProgram.instAt x0 o)).gTrait = (oInst (GProgram.instAt x0 o)).gTrait) := rfl
    clear ht
    go_wp2_with (first
      | (refine wpList_store_rep rfl 113 (.tmp 5) (.tmp 11) rfl w1.heap.size 0 rfl ci rfl 113 _ (OB.new w1 _ _) HII.out (by rw [HCL.out]; exact Nat.le_refl _) HCI.out.one ?_; intro w2 hob hgb hzb; rw [splice_whole (by rw [HCL.out]; rfl)] at hob; have HOBI := Lib.hid hob; have HX2 := Lib.hid (grown_ext (.alloc (.refl w1) _) hgb (Nat.le_refl _)); clear hob hgb hzb; obtain ⟨e0, e1, e2, e3, e4, e5, e6, e7, e8, e9, e10, e11, rfl⟩ := list12 HCL.out; obtain ⟨rfl, -⟩ := HCI.out.1.leaf_eq; have HH : Hid (RepL w1 (oInst (GProgram.instAt x0 o)).gHead.tr [e2, e3, e4]) := (by rw [GType.tr_cs]; exact ⟨HCI.out.2.2.1, HCI.out.2.2.2.1, HCI.out.2.2.2.2.1, trivial⟩); have HXX := Lib.hid (HW1.out.trans HX2.out); have hcI : w2.cell? ⟨w1.heap.size, 0, none⟩ = some (.string (oInst (GProgram.instAt x0 o)).gTrait) := (by rw [HOBI.out.cell]; rfl); have hcG : w2.cell? ⟨B1, 0, none⟩ = some (.string g.gTrait) := (by rw [(HOB1.out.ext HXX.out).cell]; rfl))
      | (refine wpList_load_rep_g (by rfl) 47 (.tmp 19) rfl w1.heap.size 2 rfl [e2, e3, e4] _ Tryz.underlying47 isz47 (fun j v hv => by rw [HOBI.out.cell]; rcases j with _ | _ | _ | j <;> first | (simp at hv; done) | simpa using hv) ?_)
      | (refine wpList_load_rep_g (by rfl) 47 (.tmp 21) rfl B1 1 rfl [d1, d2, d3] _ Tryz.underlying47 isz47 (fun j v hv => by rw [(HOB1.out.ext HXX.out).cell]; rcases j with _ | _ | _ | j <;> first | (simp at hv; done) | simpa using hv) ?_))
    go_ret
    refine ⟨?_, HXX.out⟩
    rw [HD.out]
    rfl

def GProgram.cand (w : GProgram) (g : GBound) (o : GInstanceRef) : Bool := decide ((oInst (GProgram.instAt w o)).gTrait = g.gTrait) && matchB (oInst (GProgram.instAt w o)).gHead g.gType
set_option maxRecDepth 100000 in
set_option maxHeartbeats 2000000 in
theorem candsP_impl (x0 : GProgram) (g : GBound) (w : World) (c0 cg : List Value) (h0 : RepL w x0.tr c0) (hg : RepL w g.tr cg) (hb : x0.allRefs.length ≤ 68719476735) (hB0 : ∀ o, Tr.bulkL (oInst (GProgram.instAt x0 o)).gHead.tr ≤ 68719476735) (hB1 : Tr.bulkL g.gType.tr ≤ 68719476735) :
    Calls Tryz.prog 60 #[.agg ⟨c0⟩, .agg ⟨cg⟩] w fun e w' => ∃ v, e = .returned v ∧ Ext w w' ∧ Own w' (.row 2 (GInstanceRef.trs (x0.allRefs.filter fun o => x0.cand g o))) v (Between w w') := by
  have H0 := Lib.hid h0
  have HG := Lib.hid hg
  have HB0 := Lib.hid hB0
  have HI0 : Hid ((Tryz.prog.info? 31).map (·.size) = some c0.length) := by rw [← h0.length, GProgram.tr_len]; exact isz31
  clear h0 hg hB0
  go_enter Tryz.func60, Tryz.ntmps60
  go_wp2_with (refine wpList_load_rep rfl 31 (.tmp 2) rfl w.heap.size 0 rfl c0 _ Tryz.underlying31 HI0.out (Two.new w _ _ _ _).o0.cells0 ?_)
  refine (allInstP x0 _ c0 (H0.out.ext (.alloc (.alloc (.refl _) _) _)) hb).mono ?_
  rintro e w1 ⟨v, rfl, hw1, ho1⟩
  have HW1 := Lib.hid hw1
  have HO1 := Lib.hid ho1
  clear hw1 ho1
  go_wp2_with fail
  refine (deleteFunc_ref x0.allRefs (fun o => !x0.cand g o) 114 #[.pointer (some ⟨w.heap.size, 0, none⟩), .pointer (some ⟨w.heap.size + 1, 0, none⟩)] (run_callFunc_body Tryz.func114 (by kernel_rfl) (by kernel_rfl)) v w1 (Between ((w.alloc _).alloc _) w1) (fun x hx => hx.2) (fun o _ cs W hW hr => by
    have hx := Chg.ext HW1.out hW (fun x hx => hx.1)
    exact candClosure x0 g c0 cg w.heap.size (w.heap.size + 1) o cs W ((Two.new w _ _ _ _).o0.ext hx) ((Two.new w _ _ _ _).o1.ext hx) (H0.out.ext (Ext.trans (.alloc (.alloc (.refl _) _) _) hx)) (HG.out.ext (Ext.trans (.alloc (.alloc (.refl _) _) _) hx)) hr (HB0.out o) hB1) (by rw [← GInstanceRef.trs_map]; exact HO1.out)).mono ?_
  rintro e w2 ⟨v2, rfl, hc2, ho2⟩
  have hx2 := Chg.ext HW1.out hc2 (fun x hx => hx.1)
  have HX2 := Lib.hid (Ext.trans (.alloc (.alloc (.refl _) _) _) hx2)
  have hz : w1.heap.size ≤ w2.heap.size := hc2.size
  have HO2 := Lib.hid ho2
  clear hc2 hx2 ho2
  go_wp2_with fail
  go_ret
  refine ⟨_, rfl, HX2.out, ?_⟩
  rw [GInstanceRef.trs_map]
  have ho := HO2.out
  simp only [Bool.not_not] at ho
  exact ho.mono fun x hx => ⟨by have h1 := hx.1; simp only [World.size_alloc] at h1; omega, by have h1 := hx.2; omega⟩
end Go.Proofs.YtnakkelglbcecaaGreat

namespace Go.Proofs.YtnakkelglbcecaaGreat
open Go.RowKit Go.Proofs
set_option linter.unusedSimpArgs false
set_option linter.unusedVariables false

def GTrait.zero : GTrait := .mk ⟨#[]⟩ [] false false []
def GDataType.zero : GDataType := .mk ⟨#[]⟩ [] []
def GFunction.zero : GFunction := .mk ⟨#[]⟩ [] [] [] (.mk 0 ⟨#[]⟩ []) (.mk 0 ⟨#[]⟩ ⟨#[]⟩ 0 (.mk 0 ⟨#[]⟩ []) [] [])
end Go.Proofs.YtnakkelglbcecaaGreat

namespace Go.Proofs.YtnakkelglbcecaaGreat
open Go.RowKit Go.Proofs
set_option linter.unusedSimpArgs false
set_option linter.unusedVariables false

end Go.Proofs.YtnakkelglbcecaaGreat

namespace Go.Proofs.YtnakkelglbcecaaGreat
open Go.RowKit Go.Proofs
set_option linter.unusedSimpArgs false
set_option linter.unusedVariables false

end Go.Proofs.YtnakkelglbcecaaGreat

namespace Go.Proofs.YtnakkelglbcecaaGreat
open Go.RowKit Go.Proofs
set_option linter.unusedSimpArgs false
set_option linter.unusedVariables false

attribute [local irreducible] lt

end Go.Proofs.YtnakkelglbcecaaGreat

namespace Go.Proofs.YtnakkelglbcecaaGreat
open Go.RowKit

end Go.Proofs.YtnakkelglbcecaaGreat

namespace Go.Proofs.YtnakkelglbcecaaGreat
set_option linter.unusedSimpArgs false
set_option linter.unusedVariables false
open Go.RowKit Go.Proofs

end Go.Proofs.YtnakkelglbcecaaGreat

namespace Go.Proofs.YtnakkelglbcecaaGreat
set_option linter.unusedSimpArgs false
set_option linter.unusedVariables false
attribute [local irreducible] lt
open Go.RowKit Go.WalkArith

theorem range_filter {α : Type} [Inhabited α] (q : α → Bool) : ∀ (l : List α) (k j : Nat), l.length - j = k → (List.range' j k).flatMap (fun i => bif q (atD l i) then [] else [atD l i]) = (l.drop j).filter (fun x => !q x)
  | l, 0, j, hk => by rw [List.drop_of_length_le (by omega)]; simp
  | l, k + 1, j, hk => by
    have hj : j < l.length := by omega
    rw [List.range'_succ, List.flatMap_cons, range_filter q l k (j + 1) (by omega), drop_atD hj, List.filter_cons]
    cases q (atD l j) <;> rfl
end Go.Proofs.YtnakkelglbcecaaGreat

namespace Go.Proofs.YtnakkelglbcecaaGreat
set_option linter.unusedSimpArgs false
set_option linter.unusedVariables false
attribute [local irreducible] lt
open Go.RowKit Go.WalkArith

theorem mem_allRefs {w : GProgram} {r : GInstanceRef} (h : r ∈ w.allRefs) : ∃ p k : Nat, r = .mk (p : Int) (k : Int) ∧ p < w.gPackages.length ∧ k < (atD w.gPackages p).gInstances.length := by
  unfold GProgram.allRefs at h
  obtain ⟨p, hp, h⟩ := List.mem_flatMap.1 h
  unfold GProgram.refsAt at h
  obtain ⟨k, hk, h⟩ := List.mem_flatMap.1 h
  rw [List.mem_range'_1] at hp hk
  exact ⟨p, k, by simpa using h, by omega, by omega⟩
theorem instAt_ref {w : GProgram} {p k : Nat} (hp : p < w.gPackages.length) (hk : k < (atD w.gPackages p).gInstances.length) : oInst (GProgram.instAt w (.mk (p : Int) (k : Int))) = atD (atD w.gPackages p).gInstances k := by
  have e : GProgram.instAt w (.mk (p : Int) (k : Int)) = some (atD (atD w.gPackages p).gInstances k) := by
    show (if 0 ≤ (p : Int) ∧ 0 ≤ (k : Int) then (w.gPackages[p]?).bind (fun q => q.gInstances[k]?) else none) = _
    rw [if_pos (by omega), List.getElem?_eq_getElem hp, Option.bind_some, ← atD_eq hp, List.getElem?_eq_getElem hk, ← atD_eq hk]
  rw [e]
  rfl
theorem sCands_fn (fu : Nat) (w : GProgram) (g : GBound) (hw : w.allRefs.length ≤ 68719476735) (hB0 : ∀ o, Tr.bulkL (oInst (GProgram.instAt w o)).gHead.tr ≤ 68719476735) (hB1 : Tr.bulkL g.gType.tr ≤ 68719476735) : sCandidateInstances_M fu w g = some (w.allRefs.filter fun o => w.cand g o) := by
  unfold sCandidateInstances_M
  refine gdT hw ?_
  have hr := range_filter (fun o => !w.cand g o) w.allRefs w.allRefs.length 0 rfl
  rw [List.drop_zero] at hr
  simp only [Bool.not_not] at hr
  have h := loopN_app0 (F := sCandidateInstances_F1 fu w g) (n := w.allRefs.length) (g := fun i => bif !w.cand g (atD w.allRefs i) then [] else [atD w.allRefs i]) (M := 68719476736) (v := []) (fun i v hi hv => by
    obtain ⟨p, k, hpk, hp, hk⟩ := mem_allRefs (atD_mem hi)
    have hi2 := instAt_ref hp hk
    rw [← hpk] at hi2
    have hB := hB0 (atD w.allRefs i)
    rw [hi2] at hB
    have e1 : (atD w.allRefs i).gPackage = (p : Int) := by rw [hpk]; rfl
    have e2 : (atD w.allRefs i).gAt = (k : Int) := by rw [hpk]; rfl
    unfold sCandidateInstances_F1
    rw [e1, e2, Int.toNat_natCast, Int.toNat_natCast]
    refine gdT ⟨by omega, hp⟩ (ltE rfl (gdT ⟨by omega, hk⟩ (ltE rfl ?_)))
    unfold GProgram.cand at hv ⊢
    rw [hi2] at hv ⊢
    cases h1 : decide ((atD (atD w.gPackages p).gInstances k).gTrait = g.gTrait) with
    | false => exact swF rfl (by rw [Bool.false_and, Bool.not_false, cond_true, List.append_nil])
    | true =>
      cases h2 : matchB (atD (atD w.gPackages p).gInstances k).gHead g.gType with
      | false => exact swT rfl (gdT hB (gdT hB1 (swF rfl (by rw [Bool.and_false, Bool.not_false, cond_true, List.append_nil]))))
      | true =>
        rw [h1, h2] at hv
        exact swT rfl (gdT hB (gdT hB1 (swT rfl (gdT hv rfl))))) (by
    rw [hr, List.length_nil, Nat.zero_add]
    have := List.length_filter_le (fun o => w.cand g o) w.allRefs
    omega)
  rw [hr] at h
  exact soR h rfl
theorem candsP_spec (x0 : GProgram) (g : GBound) (w : World) (c0 cg : List Value) (h0 : RepL w x0.tr c0) (hg : RepL w g.tr cg) (hb : x0.allRefs.length ≤ 68719476735) (hB0 : ∀ o, Tr.bulkL (oInst (GProgram.instAt x0 o)).gHead.tr ≤ 68719476735) (hB1 : Tr.bulkL g.gType.tr ≤ 68719476735) :
    Calls Tryz.prog 59 #[.agg ⟨c0⟩, .agg ⟨cg⟩] w fun e w' => ∃ v, e = .returned v ∧ Ext w w' ∧ Rep w' (.row 2 (GInstanceRef.trs (x0.allRefs.filter fun o => x0.cand g o))) v := by
  rw [GProgram.tr_cs] at h0
  rw [GBound.tr_cs] at hg
  exact (sCandidateInstances_ok 0 x0 g _ (sCands_fn 0 x0 g hb hB0 hB1)).plainR (RVL0.cons (RV0.agg h0) (RVL0.cons (RV0.agg hg) RVL0.nil))
end Go.Proofs.YtnakkelglbcecaaGreat

namespace Go.Proofs.YtnakkelglbcecaaGreat
set_option linter.unusedSimpArgs false
set_option linter.unusedVariables false
open Go.RowKit Go.Proofs
theorem OwnL.tail {w : World} {t : Tr} {ts : List Tr} {v : Value} {vs : List Value} {S : Nat → Prop} (h : OwnL w (t :: ts) (v :: vs) S) : OwnL w ts vs S := by
  obtain ⟨hl, T, h1, h2, h3⟩ := h
  exact ⟨by simpa using hl, fun j => T (j + 1), fun j d hd => by simpa using h1 (j + 1) d (by simpa using hd), fun j d hd => h2 (j + 1) d (by simpa using hd), fun j d hd j' d' hd' hne => h3 (j + 1) d (by simpa using hd) (j' + 1) d' (by simpa using hd') (by omega)⟩
set_option maxRecDepth 100000 in
set_option maxHeartbeats 2000000 in
theorem markBound_all (x : GBound) : MarkC 61 x.tr := by
  obtain ⟨v0, t⟩ := x
  have htr : GBound.tr (.mk v0 t) = .leaf (.string v0) :: t.tr := by simp [GBound.tr]
  rw [htr]
  clear htr
  intro cs kz k S w hz ho hS hbd
  subst hz
  simp only [Tr.topN, Tr.topL] at *
  have hr := ho.rep
  cases cs with
  | nil => exact hr.elim
  | cons d0 cs =>
    obtain ⟨rfl, hv⟩ := hr.1.leaf_eq
    have hlen : cs.length = 3 := by rw [← hr.2.length]; exact GType.tr_len _
    obtain ⟨d1, d2, d3, rfl⟩ := list3 hlen
    have HV := Lib.hid hv
    have HT := Lib.hid ho.tail
    have HSS := Lib.hid hS
    clear ho hr hS hlen hv
    go_enter Tryz.func61, Tryz.ntmps61
    go_wp2_with (refine wpList_load_rep rfl 47 _ rfl w.heap.size 1 rfl [d1, d2, d3] _ Tryz.underlying47 isz47 (fun j v hv => by rw [(OB.new w _ _).cell]; rcases j with _ | _ | _ | j <;> first | (simp at hv; done) | simpa using hv) ?_)
    refine (markType_all t _ _ k S _ (by rfl) (HT.out.ext (.alloc (.refl _) _)) (fun x hx => by have := HSS.out x hx; simp only [World.size_alloc]; omega) (by omega)).mono ?_
    rintro e w1 ⟨rfl, how, hch⟩
    have HO := Lib.hid how
    have HC := Lib.hid ((Chg.of_ext (.alloc (.refl w) _)).trans hch)
    clear how hch
    go_wp2_with fail
    go_ret
    exact ⟨rfl, OwnL.cons_leaf HV.out HO.out, HC.out⟩
end Go.Proofs.YtnakkelglbcecaaGreat

namespace Go.Proofs.YtnakkelglbcecaaGreat
set_option linter.unusedSimpArgs false
open Go.RowKit
theorem GInstance.head_bulk (x : GInstance) : Tr.bulkL x.gHead.tr ≤ Tr.bulkL x.tr := by
  obtain ⟨v0, v1, v2, v3, v4, v5, v6, v7⟩ := x
  simp only [GInstance.tr, Tr.bulkL_cat, Tr.bulkL, Tr.bulk, GInstance.gHead_mk]
  omega
theorem GProgram.inst_head_bulk (w : GProgram) (r : GInstanceRef) : Tr.bulkL (oInst (GProgram.instAt w r)).gHead.tr ≤ Tr.bulkL w.tr := by
  cases hq : GProgram.instAt w r with
  | none => exact Nat.zero_le _
  | some x =>
    unfold GProgram.instAt at hq
    split at hq
    · cases hp : w.gPackages[r.gPackage.toNat]? with
      | none => rw [hp] at hq; cases hq
      | some p =>
        rw [hp] at hq
        have hq : p.gInstances[r.gAt.toNat]? = some x := hq
        have h1 := bulk_all (es := GPackage.trs w.gPackages) (e := p.tr) (by rw [GPackage.trs_map]; exact List.mem_map_of_mem (List.mem_of_getElem? hp))
        have h2 := bulk_all (es := GInstance.trs p.gInstances) (e := x.tr) (by rw [GInstance.trs_map]; exact List.mem_map_of_mem (List.mem_of_getElem? hq))
        have h3 := GPackage.inst_bulk p
        have h4 := w.pkg_bulk
        have h5 := x.head_bulk
        show Tr.bulkL x.gHead.tr ≤ _
        omega
    · cases hq
theorem GBound.ty_bulk (g : GBound) : Tr.bulkL g.gType.tr ≤ Tr.bulkL g.tr := by
  obtain ⟨v0, t⟩ := g
  simp only [GBound.tr, Tr.bulkL_cat, Tr.bulkL, Tr.bulk, GBound.gType_mk]
  omega
end Go.Proofs.YtnakkelglbcecaaGreat
