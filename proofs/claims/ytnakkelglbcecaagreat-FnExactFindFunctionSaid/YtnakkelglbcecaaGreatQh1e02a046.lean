/- Words, rules and walks of several kinds, laid together: MaFindF, AccT, CopyTy, PmK, AppNil, MaNames, PlZ, CopyEx, CopyFn, CopyTr, FindTr, FindFn, MaInst, Cnt, PlInst, PmInst, MaMatch, PlMatch, MaCands, Del, Cands, PmHome, PmOrph, MaOrphs, PmOrphZ, Orphs, PlOrphs, PlCands, MkB, PlHead, PlCandF, RepX, PlFindF, FocL. No conditions but those that each theorem states. -/
import Derived.Test.YtnakkelglbcecaaGreatQh53efcb64
import Derived.Test.YtnakkelglbcecaaGreatQh040be154
import Derived.Deep.AppendLies
import Derived.Test.YtnakkelglbcecaaGreatQhd8db69fa
import Derived.WalkArith
import Derived.Test.YtnakkelglbcecaaGreatQh811198d3
set_option linter.unusedSimpArgs false
set_option linter.unusedVariables false
namespace Go.Proofs.YtnakkelglbcecaaGreat
open Go.RowKit Go.Proofs
set_option linter.unusedSimpArgs false
set_option linter.unusedVariables false

attribute [local irreducible] lt

noncomputable def sl13Bounds_F1 (fu : Nat) (plist : List GBound) : Nat → ((List GBound)) → Option (LR ((List GBound)) ((List GBound))) :=
 fun i2 v4 => gd (Tr.bulkL (GType.tr ((atD plist i2).gType)) ≤ 68719476735)
 (gd ((v4).length + (([(GBound.mk ((atD plist i2).gTrait) ((atD plist i2).gType))] : List GBound)).length ≤ 68719476736)
 (some (.next (v4 ++ ([(GBound.mk ((atD plist i2).gTrait) ((atD plist i2).gType))] : List GBound)))))
noncomputable def sl13Bounds_R1 (fu : Nat) (plist : List GBound) : Option (((List GBound)) ⊕ ((List GBound))) :=
 loopN (sl13Bounds_F1 fu plist) (plist.length - 0) 0 ([])
noncomputable def sl13Bounds_M (fu : Nat)  (plist : List GBound) : Option ((List GBound)) :=
 so (sl13Bounds_R1 fu plist) (fun v4 =>
 some v4)
set_option maxRecDepth 100000 in
set_option maxHeartbeats 4000000 in
theorem sl13Bounds_ok  (fu : Nat)  (plist : List GBound) (r : (List GBound)) (H : sl13Bounds_M fu plist = some r) : AFun Tryz.prog 172 [.t (.row 4 (GBound.trs (plist)))] (.t (.row 4 (GBound.trs (r))) : PV) := by
  refine ACalls.intro Tryz.func172 rfl (by first | decide | (simp; done) | (simp; decide)) ?_; intro C hC
  refine AWP.fact (lk_lenN 0 rfl rfl (GBound.trs_len _)) (fun hl1 => ?_)
  refine AWP.seq ?_; refine AWP.region_lit ?_; refine AL.cons rfl (AOp.move (.inr rfl) rfl rfl) ?_; refine AL.nil ?_; refine AWP.seq ?_; refine AWP.region_lit ?_; refine AL.cons rfl (AOp.buildSliceA (es := []) (es' := GBound.trs ([])) (cs := []) rfl rfl el82 zr49 rfl rfl leA rfl (by simp [GBound.cs]) (by decide) rfl (by decide) (by simp [GBound.trs_map, GBound.tr_cs])) ?_; refine AL.cons rfl (AOp.move (.inr rfl) rfl rfl) ?_; refine AL.nil ?_; refine AWP.seq ?_; refine AWP.seq ?_; refine AWP.region_lit ?_; refine AL.cons rfl (AOp.move (.inr rfl) rfl rfl) ?_; refine AL.nil ?_; refine AWP.fact (lk_lenN 3 rfl rfl (GBound.trs_len _)) (fun hl5 => ?_)
  refine AWP.cut (ι := (List GBound)) (fun v4 => sl13Bounds_R1 fu plist = some (.inr v4)) (fun v4 => ⟨[(2, .nil), (3, .acc 4 (GBound.trs (v4)) 0)], ⟨[], [⟨49, 4, GBound.trs (v4), false⟩]⟩⟩) (by repeat' (first | exact qcEnds | exact ncAWP | exact ncRound | exact ncEx | apply qcThen | apply qcBlock | apply qcCut)) ?_ ?_
  · refine AWP.block ?_; refine AWP.loopR (ι := Nat × ((List GBound))) (fun (i2, v4) => sl13Bounds_R1 fu plist = loopN (sl13Bounds_F1 fu plist) (plist.length - i2) i2 v4) (fun (i2, v4) => ⟨[(0, .t (.row 4 (GBound.trs (plist)))), (2, .nil), (3, .acc 4 (GBound.trs (v4)) 0), (4, .t (.leaf (.int .i64 (((i2 : Nat) : Int)))))], ⟨[], [⟨49, 4, GBound.trs (v4), false⟩]⟩⟩) (fun (i2, v4) => plist.length - i2) (0, ([])) ?_ ?_ ?_
    · exact rfl
    · exact Wk.mk (StLe.mk' trivial (by first | rfl | simp)) (keeps_nil hC) ⟨⟨_, rfl, .refl _, rfl⟩, ⟨⟨_, rfl, .refl _, rfl⟩, ⟨⟨_, rfl, leA, rfl⟩, ⟨⟨_, rfl, leA, rfl⟩, trivial⟩⟩⟩⟩
    · rintro ⟨i2, v4⟩ hJ6
      refine AWP.seq ?_; refine AWP.seq ?_; refine AWP.region_lit ?_; refine AL.cons rfl (AOp.move (.inl rfl) rfl rfl) ?_; refine AL.cons rfl (AOp.move (.inl rfl) rfl rfl) ?_; refine AL.cons rfl (AOp.lenN rfl rfl rfl rfl el82 (GBound.trs_len _)) ?_; refine AL.cons rfl (AOp.lss rfl rfl rfl rfl) ?_; refine AL.nil ?_; refine AWP.cond rfl (fun h7 => ?_) (fun h7 => ?_)
      · have h7l : i2 < plist.length := nat_lt_of2 h7
        have h7n := nat_lt_of h7
        refine AWP.skip ?_; refine AWP.seq ?_; refine AWP.block ?_
        rcases Classical.em (Tr.bulkL (GType.tr ((atD plist i2).gType)) ≤ 68719476735) with hg8 | hg8
        · rcases Classical.em ((v4).length + (([(GBound.mk ((atD plist i2).gTrait) ((atD plist i2).gType))] : List GBound)).length ≤ 68719476736) with hg9 | hg9
          · refine AWP.drawnL ⟨_, _, fun j' _ => ([(⟨[], [⟨49, 4, GBound.trs (v4), false⟩]⟩ : Sto), (⟨[], [⟨49, 4, GBound.trs (v4 ++ ([(GBound.mk ((atD plist i2).gTrait) ((atD plist i2).gType))] : List GBound)), false⟩]⟩ : Sto)] : List Sto).getD j' (⟨[], [⟨49, 4, GBound.trs (v4 ++ ([(GBound.mk ((atD plist i2).gTrait) ((atD plist i2).gType))] : List GBound)), false⟩]⟩ : Sto), fun q' => ([some (.acc 4 (GBound.trs (v4)) 0), some (.t (.row 4 (GBound.trs (plist)))), some (.t (.leaf (.int .i64 (((i2 : Nat) : Int))))), some (.eptr (GBound.cs (atD plist i2))), some (.eptr (GBound.cs (atD plist i2))), some (.t (.leaf (.string ((atD plist i2).gTrait)))), some (.t (.row 4 (GBound.trs (plist)))), some (.t (.leaf (.int .i64 (((i2 : Nat) : Int))))), some (.eptr (GBound.cs (atD plist i2))), some (.eptr ((GBound.cs (atD plist i2)).drop 1)), some ((GType.pv ((atD plist i2).gType))), some ((GType.pv ((atD plist i2).gType))), some (.agg [.t (.leaf (.string ((atD plist i2).gTrait))), .t (.leaf (.int .i64 (((atD plist i2).gType).gKind))), .t (.leaf (.string (((atD plist i2).gType).gName))), .t (.row 3 (GType.trs (((atD plist i2).gType).gArgs)))]), some (.t (.row 4 (GBound.trs (([(GBound.mk ((atD plist i2).gTrait) ((atD plist i2).gType))] : List GBound))))), some (.acc 4 (GBound.trs (v4 ++ ([(GBound.mk ((atD plist i2).gTrait) ((atD plist i2).gType))] : List GBound))) 0), some (.acc 4 (GBound.trs (v4 ++ ([(GBound.mk ((atD plist i2).gTrait) ((atD plist i2).gType))] : List GBound))) 0)] : List (Option PV)).getD q' none, fun q' => ([.q 0 0, .q 0 0, .q 0 0, .q 0 0, .q 0 0, .q 0 0, .q 0 0, .q 0 0, .q 0 0, .q 0 0, .q 0 0, .q 0 0, .q 0 0, .q 0 0, .ef 0, .q 1 1] : List DK).getD q' (.q 0 0), [14], none, fun q' => ([[(3, none)], [(0, none)], [(4, none)], [(13, some 1), (14, some 2)], [(15, some 3)], [(16, some 4)], [(0, none)], [(4, none)], [(18, some 6), (19, some 7)], [(20, some 8)], [(21, some 9)], [(22, some 10)], [(23, some 11), (17, some 5)], [(24, some 12)], [(12, some 0), (25, some 13)], [(26, some 14)]] : List (List (Nat × Option Nat))).getD q' []⟩ rfl mixed (by kernel_rfl) rfl rfl ⟨?_, ?_, ?_, ?_, ?_, ?_, ?_, ?_, ?_, ?_, ?_, ?_, ?_, ?_, ?_, ?_, trivial⟩ rfl ?_
            · exact Draw.step.q1 0 rfl rfl fun s' bb hs hl => ⟨_, rfl, AOp.move (.inl rfl) rfl (hl 3 none _ (.head _) rfl)⟩
            · exact Draw.step.q1 0 rfl rfl fun s' bb hs hl => ⟨_, rfl, AOp.move (.inl rfl) rfl (hl 0 none _ (.head _) rfl)⟩
            · exact Draw.step.q1 0 rfl rfl fun s' bb hs hl => ⟨_, rfl, AOp.move (.inl rfl) rfl (hl 4 none _ (.head _) rfl)⟩
            · exact Draw.step.q1 0 rfl rfl fun s' bb hs hl => ⟨_, rfl, AOp.index (k := i2) rfl rfl (hl 13 (some 1) _ (.head _) rfl) rfl (hl 14 (some 2) _ (.tail _ (.head _)) rfl) (GBound.trs_at h7n) el82⟩
            · exact Draw.step.q1 0 rfl rfl fun s' bb hs hl => ⟨_, rfl, AOp.fieldEptr (cs := (GBound.cs (atD plist i2))) (e := 0) rfl rfl (hl 15 (some 3) _ (.head _) rfl) fo49_0⟩
            · exact Draw.step.q1 0 rfl rfl fun s' bb hs hl => ⟨_, rfl, AOp.loadEptr1 (d := .leaf (.string ((atD plist i2).gTrait))) rfl rfl (hl 16 (some 4) _ (.head _) rfl) sh9 rfl⟩
            · exact Draw.step.q1 0 rfl rfl fun s' bb hs hl => ⟨_, rfl, AOp.move (.inl rfl) rfl (hl 0 none _ (.head _) rfl)⟩
            · exact Draw.step.q1 0 rfl rfl fun s' bb hs hl => ⟨_, rfl, AOp.move (.inl rfl) rfl (hl 4 none _ (.head _) rfl)⟩
            · exact Draw.step.q1 0 rfl rfl fun s' bb hs hl => ⟨_, rfl, AOp.index (k := i2) rfl rfl (hl 18 (some 6) _ (.head _) rfl) rfl (hl 19 (some 7) _ (.tail _ (.head _)) rfl) (GBound.trs_at h7n) el82⟩
            · exact Draw.step.q1 0 rfl rfl fun s' bb hs hl => ⟨_, rfl, AOp.fieldEptr (cs := (GBound.cs (atD plist i2))) (e := 1) rfl rfl (hl 20 (some 8) _ (.head _) rfl) fo49_1⟩
            · exact Draw.step.q1 0 rfl rfl fun s' bb hs hl => ⟨_, rfl, AOp.loadEptr (ds := [.leaf (.int .i64 (((atD plist i2).gType).gKind)), .leaf (.string (((atD plist i2).gType).gName)), .row 3 (GType.trs (((atD plist i2).gType).gArgs))]) rfl rfl (hl 21 (some 9) _ (.head _) rfl) sh47 rfl rfl⟩
            · exact Draw.step.q1 0 rfl rfl fun s' bb hs hl => ⟨_, rfl, AOp.callF (res := (GType.pv ((atD plist i2).gType))) (ps := [_]) rfl rfl Tryz.func110 (by kernel_rfl) rfl (evs_cons (hl 22 (some 10) _ (.head _) rfl) rfl) leA rfl rfl (sl4Copy_fn ((atD plist i2).gType) hg8)⟩
            · exact Draw.step.q1 0 rfl rfl fun s' bb hs hl => ⟨_, rfl, AOp.build rfl rfl zr49 pl49 (parts_cons (hl 17 (some 5) _ (.tail _ (.head _)) rfl) rfl rfl (parts_cons (hl 23 (some 11) _ (.head _) rfl) rfl rfl rfl)) rfl⟩
            · exact Draw.step.q1 0 rfl rfl fun s' bb hs hl => ⟨_, rfl, AOp.buildSliceE (es := [GBound.cs (GBound.mk ((atD plist i2).gTrait) ((atD plist i2).gType))]) (es' := GBound.trs (([(GBound.mk ((atD plist i2).gTrait) ((atD plist i2).gType))] : List GBound))) (cs := [.t (.leaf (.string ((atD plist i2).gTrait))), .t (.leaf (.int .i64 (((atD plist i2).gType).gKind))), .t (.leaf (.string (((atD plist i2).gType).gName))), .t (.row 3 (GType.trs (((atD plist i2).gType).gArgs)))]) rfl rfl el82 zr49 (parts_cons (hl 24 (some 12) _ (.head _) rfl) rfl rfl rfl) rfl leA rfl (by simp [GBound.cs]) (by decide) rfl (by decide) (by simp [GBound.trs_map, GBound.tr_cs])⟩
            · refine .inl ⟨rfl, fun s' bb hs hl => ?_⟩
              refine .inl ⟨_, rfl, AOp.congr (AOp.appendE (es3 := GBound.trs (v4 ++ ([(GBound.mk ((atD plist i2).gTrait) ((atD plist i2).gType))] : List GBound))) rfl rfl (hl 12 (some 0) _ (.head _) rfl) (by rw [hs]; rfl) rfl rfl rfl (hl 25 (some 13) _ (.tail _ (.head _)) rfl) rfl (fun e he => by rw [GBound.trs_map] at he; obtain ⟨x, _, rfl⟩ := List.mem_map.1 he; rw [GBound.tr_cs]; rfl) el82 ze82 (by decide) (by rw [GBound.trs_len, GBound.trs_len]; exact room_le hg9 (by decide)) (by rw [GBound.trs_map, GBound.trs_map, GBound.trs_map, List.map_append])) ?_⟩
              first | (rw [hs]; rfl) | rfl
            · exact Draw.step.q1 1 rfl rfl fun s' bb hs hl => ⟨_, rfl, AOp.move (.inr rfl) rfl (hl 26 (some 14) _ (.head _) rfl)⟩
            refine AWP.region_lit ?_; refine AL.cons rfl (AOp.move (.inl rfl) rfl rfl) ?_; refine AL.cons rfl (AOp.addI rfl rfl rfl rfl (c := ((i2 + 1 : Nat) : Int)) (by omega) (by omega)) ?_; refine AL.cons rfl (AOp.move (.inr rfl) rfl rfl) ?_; refine AL.nil ?_
            have e10 : (sl13Bounds_F1 fu plist) i2 v4 = some (.next (v4 ++ ([(GBound.mk ((atD plist i2).gTrait) ((atD plist i2).gType))] : List GBound))) := gdT hg8 (gdT hg9 (rfl))
            refine ⟨(i2 + 1, (v4 ++ ([(GBound.mk ((atD plist i2).gTrait) ((atD plist i2).gType))] : List GBound))), loopN_next h7l hJ6 e10, ?_, ?_⟩
            · exact Wk.mk (StLe.mk' trivial (by first | rfl | simp)) (keeps_nil hC) ⟨⟨_, rfl, .refl _, rfl⟩, ⟨⟨_, rfl, .refl _, rfl⟩, ⟨⟨_, rfl, leA, rfl⟩, ⟨⟨_, rfl, leA, rfl⟩, trivial⟩⟩⟩⟩
            · dsimp only; omega
          · have e11 : (sl13Bounds_F1 fu plist) i2 v4 = none := gdT hg8 (gdF hg9)
            have e12 : sl13Bounds_R1 fu plist = none := loopN_non h7l hJ6 e11
            have e13 : sl13Bounds_M fu plist = none := soN e12
            exact none_some H e13
        · have e14 : (sl13Bounds_F1 fu plist) i2 v4 = none := gdF hg8
          have e15 : sl13Bounds_R1 fu plist = none := loopN_non h7l hJ6 e14
          have e16 : sl13Bounds_M fu plist = none := soN e15
          exact none_some H e16
      · have h7l : plist.length ≤ i2 := nat_ge_of2 h7
        refine AWP.exit ?_; refine ⟨v4, loopN_end h7l hJ6, ?_⟩
        exact Wk.mk (StLe.mk' trivial (by first | rfl | simp)) (keeps_nil hC) ⟨⟨_, rfl, .refl _, rfl⟩, ⟨⟨_, rfl, .refl _, rfl⟩, trivial⟩⟩
  · rintro v4 hR17
    refine AWP.seq ?_; refine AWP.region_lit ?_; refine AL.cons rfl (AOp.move (.inl rfl) rfl rfl) ?_; refine AL.cons rfl (AOp.move (.inr rfl) rfl rfl) ?_; refine AL.nil ?_; refine AWP.ret ?_
    have e18 : sl13Bounds_M fu plist = some v4 := soR hR17 (rfl)
    have hz : v4 = r := Option.some.inj (e18.symm.trans H)
    subst hz
    exact Ends.mk (ps := [_]) (by first | exact .inr rfl | exact .inl rfl) ⟨rfl, trivial⟩ rfl (StLe.mk' (st' := ⟨[], []⟩) trivial rfl) (keeps_nil hC) (q := (.t (.row 4 (GBound.trs (v4))) : PV)) leA rfl ⟨rfl, rfl⟩

noncomputable def sl11Copy_F1 (fu : Nat) (r_sl11Copy : GExpr → Option GExpr) (pa0 : GExpr) : Nat → ((List GExpr)) → Option (LR ((List GExpr)) GExpr) :=
 fun i2 v4 => lt (atD pa0.gArgs i2) (fun y9 =>
 bd (r_sl11Copy y9) (fun x12 =>
 gd ((v4).length + (([x12] : List GExpr)).length ≤ 68719476736)
 (some (.next (v4 ++ ([x12] : List GExpr))))))
noncomputable def sl11Copy_R1 (fu : Nat) (r_sl11Copy : GExpr → Option GExpr) (pa0 : GExpr) : Option (GExpr ⊕ ((List GExpr))) :=
 loopN (sl11Copy_F1 fu r_sl11Copy pa0) (pa0.gArgs.length - 0) 0 ([])
noncomputable def sl11Copy_F2 (fu : Nat) (r_sl11Copy : GExpr → Option GExpr) (pa0 : GExpr) (v4 : List GExpr) : Nat → ((List GArm)) → Option (LR ((List GArm)) GExpr) :=
 fun i22 v24 => lt (atD pa0.gArms i22) (fun y29 =>
 gd (([] : List ByteArray).length + (y29.gVars).length ≤ 68719476736)
 (bd (r_sl11Copy y29.gBody) (fun x33 =>
 gd ((v24).length + (([(GArm.mk y29.gConstructor (([]) ++ y29.gVars) x33)] : List GArm)).length ≤ 68719476736)
 (some (.next (v24 ++ ([(GArm.mk y29.gConstructor (([]) ++ y29.gVars) x33)] : List GArm)))))))
noncomputable def sl11Copy_R2 (fu : Nat) (r_sl11Copy : GExpr → Option GExpr) (pa0 : GExpr) (v4 : List GExpr) : Option (GExpr ⊕ ((List GArm))) :=
 loopN (sl11Copy_F2 fu r_sl11Copy pa0 v4) (pa0.gArms.length - 0) 0 ([])
noncomputable def sl11Copy_G (fu : Nat) (r_sl11Copy : GExpr → Option GExpr) (pa0 : GExpr) : Option GExpr :=
 gd ((pa0.gType.gArgs).length + Tr.bulkAll (GType.trs pa0.gType.gArgs) ≤ 68719476735)
 (so (sl11Copy_R1 fu r_sl11Copy pa0) (fun v4 =>
 so (sl11Copy_R2 fu r_sl11Copy pa0 v4) (fun v24 =>
 some (GExpr.mk pa0.gKind pa0.gTrait pa0.gName pa0.gN pa0.gType v4 v24))))
set_option maxRecDepth 100000 in
set_option maxHeartbeats 4000000 in
theorem sl11Copy_step (r_sl11Copy : GExpr → Option GExpr) (fu : Nat) (h_sl11Copy : ∀ (pa0 : GExpr) (r : GExpr), r_sl11Copy pa0 = some r → AFun Tryz.prog 173 [(GExpr.pv pa0)] ((GExpr.pv r) : PV)) (pa0 : GExpr) (r : GExpr) (H : sl11Copy_G fu r_sl11Copy pa0 = some r) : AFun Tryz.prog 173 [(GExpr.pv pa0)] ((GExpr.pv r) : PV) := by
  refine ACalls.intro Tryz.func173 rfl (by first | decide | (simp; done) | (simp; decide)) ?_; intro C hC
  refine AWP.seq ?_; refine AWP.region_lit ?_; refine AL.cons rfl (AOp.box (cs := [.t (.leaf (.int .i64 (pa0.gKind))), .t (.leaf (.string (pa0.gTrait))), .t (.leaf (.string (pa0.gName))), .t (.leaf (.int .i64 (pa0.gN))), .t (.leaf (.int .i64 (pa0.gType.gKind))), .t (.leaf (.string (pa0.gType.gName))), .t (.row 3 (GType.trs (pa0.gType.gArgs))), .t (.row 9 (GExpr.trs (pa0.gArgs))), .t (.row 11 (GArm.trs (pa0.gArms)))]) rfl rfl rfl rfl rfl) ?_; refine AL.cons rfl (AOp.alloc rfl rfl zr103) ?_; refine AL.nil ?_; refine AWP.seq ?_
  rcases Classical.em ((pa0.gType.gArgs).length + Tr.bulkAll (GType.trs pa0.gType.gArgs) ≤ 68719476735) with hg1 | hg1
  · refine AWP.drawnL ⟨_, _, fun j' _ => ([(⟨[some ⟨103, [.t (.leaf (.int .i64 (pa0.gKind))), .t (.leaf (.string (pa0.gTrait))), .t (.leaf (.string (pa0.gName))), .t (.leaf (.int .i64 (pa0.gN))), .t (.leaf (.int .i64 (pa0.gType.gKind))), .t (.leaf (.string (pa0.gType.gName))), .t (.row 3 (GType.trs (pa0.gType.gArgs))), .t (.row 9 (GExpr.trs (pa0.gArgs))), .t (.row 11 (GArm.trs (pa0.gArms)))]⟩, some ⟨103, [.t (.leaf (.int .i64 (0))), .t (.leaf (.string (⟨#[]⟩))), .t (.leaf (.string (⟨#[]⟩))), .t (.leaf (.int .i64 (0))), .t (.leaf (.int .i64 (0))), .t (.leaf (.string (⟨#[]⟩))), .nil, .nil, .nil]⟩], []⟩ : Sto), (⟨[some ⟨103, [.t (.leaf (.int .i64 (pa0.gKind))), .t (.leaf (.string (pa0.gTrait))), .t (.leaf (.string (pa0.gName))), .t (.leaf (.int .i64 (pa0.gN))), .t (.leaf (.int .i64 (pa0.gType.gKind))), .t (.leaf (.string (pa0.gType.gName))), .t (.row 3 (GType.trs (pa0.gType.gArgs))), .t (.row 9 (GExpr.trs (pa0.gArgs))), .t (.row 11 (GArm.trs (pa0.gArms)))]⟩, some ⟨103, [.t (.leaf (.int .i64 (0))), .t (.leaf (.string (⟨#[]⟩))), .t (.leaf (.string (⟨#[]⟩))), .t (.leaf (.int .i64 (0))), .t (.leaf (.int .i64 (0))), .t (.leaf (.string (⟨#[]⟩))), .nil, .nil, .nil]⟩], []⟩ : Sto)] : List Sto).getD j' (⟨[some ⟨103, [.t (.leaf (.int .i64 (pa0.gKind))), .t (.leaf (.string (pa0.gTrait))), .t (.leaf (.string (pa0.gName))), .t (.leaf (.int .i64 (pa0.gN))), .t (.leaf (.int .i64 (pa0.gType.gKind))), .t (.leaf (.string (pa0.gType.gName))), .t (.row 3 (GType.trs (pa0.gType.gArgs))), .t (.row 9 (GExpr.trs (pa0.gArgs))), .t (.row 11 (GArm.trs (pa0.gArms)))]⟩, some ⟨103, [.t (.leaf (.int .i64 (0))), .t (.leaf (.string (⟨#[]⟩))), .t (.leaf (.string (⟨#[]⟩))), .t (.leaf (.int .i64 (0))), .t (.leaf (.int .i64 (0))), .t (.leaf (.string (⟨#[]⟩))), .nil, .nil, .nil]⟩], []⟩ : Sto), fun q' => ([some (.ptr 0 4), some (.ptr 0 4), some (.t (.leaf (.int .i64 (pa0.gType.gKind)))), some (.ptr 0 4), some (.ptr 0 5), some (.t (.leaf (.string (pa0.gType.gName)))), some (.ptr 0 4), some (.ptr 0 6), some (.t (.row 3 (GType.trs (pa0.gType.gArgs)))), some (.t (.row 3 (GType.trs (pa0.gType.gArgs)))), some (.agg [.t (.leaf (.int .i64 (pa0.gType.gKind))), .t (.leaf (.string (pa0.gType.gName))), .t (.row 3 (GType.trs (pa0.gType.gArgs)))]), some (.ptr 0 4), none] : List (Option PV)).getD q' none, fun q' => ([.q 0 0, .q 0 0, .q 0 0, .q 0 0, .q 0 0, .q 0 0, .q 0 0, .q 0 0, .q 0 0, .q 0 0, .q 0 0, .q 0 0, .ef 0] : List DK).getD q' (.q 0 0), [12], none, fun q' => ([[(1, none)], [(7, some 0)], [(8, some 1)], [(1, none)], [(10, some 3)], [(11, some 4)], [(1, none)], [(13, some 6)], [(14, some 7)], [(15, some 8)], [(16, some 9), (12, some 5), (9, some 2)], [(1, none)], [(18, some 11), (17, some 10)]] : List (List (Nat × Option Nat))).getD q' []⟩ rfl mixed (by kernel_rfl) rfl rfl ⟨?_, ?_, ?_, ?_, ?_, ?_, ?_, ?_, ?_, ?_, ?_, ?_, ?_, trivial⟩ rfl ?_
    · exact Draw.step.q1 0 rfl rfl fun s' bb hs hl => ⟨_, rfl, AOp.fieldPtr (k := 0) (d := 0) (e := 4) rfl rfl (hl 1 none _ (.head _) rfl) fo103_4⟩
    · exact Draw.step.q1 0 rfl rfl fun s' bb hs hl => ⟨_, rfl, AOp.fieldPtr (k := 0) (d := 4) (e := 0) rfl rfl (hl 7 (some 0) _ (.head _) rfl) fo47_0⟩
    · exact Draw.step.q1 0 rfl rfl fun s' bb hs hl => ⟨_, rfl, AOp.loadPtr1 rfl rfl (hl 8 (some 1) _ (.head _) rfl) (by rw [hs]; rfl) sh3 rfl⟩
    · exact Draw.step.q1 0 rfl rfl fun s' bb hs hl => ⟨_, rfl, AOp.fieldPtr (k := 0) (d := 0) (e := 4) rfl rfl (hl 1 none _ (.head _) rfl) fo103_4⟩
    · exact Draw.step.q1 0 rfl rfl fun s' bb hs hl => ⟨_, rfl, AOp.fieldPtr (k := 0) (d := 4) (e := 1) rfl rfl (hl 10 (some 3) _ (.head _) rfl) fo47_1⟩
    · exact Draw.step.q1 0 rfl rfl fun s' bb hs hl => ⟨_, rfl, AOp.loadPtr1 rfl rfl (hl 11 (some 4) _ (.head _) rfl) (by rw [hs]; rfl) sh9 rfl⟩
    · exact Draw.step.q1 0 rfl rfl fun s' bb hs hl => ⟨_, rfl, AOp.fieldPtr (k := 0) (d := 0) (e := 4) rfl rfl (hl 1 none _ (.head _) rfl) fo103_4⟩
    · exact Draw.step.q1 0 rfl rfl fun s' bb hs hl => ⟨_, rfl, AOp.fieldPtr (k := 0) (d := 4) (e := 2) rfl rfl (hl 13 (some 6) _ (.head _) rfl) fo47_2⟩
    · exact Draw.step.q1 0 rfl rfl fun s' bb hs hl => ⟨_, rfl, AOp.loadPtr1 rfl rfl (hl 14 (some 7) _ (.head _) rfl) (by rw [hs]; rfl) sh45 rfl⟩
    · exact Draw.step.q1 0 rfl rfl fun s' bb hs hl => ⟨_, rfl, AOp.callF (res := .t (.row 3 (GType.trs (pa0.gType.gArgs)))) (ps := [_]) rfl rfl Tryz.func162 (by kernel_rfl) rfl (evs_cons (hl 15 (some 8) _ (.head _) rfl) rfl) leA rfl rfl (sl4Copies_fn pa0.gType.gArgs hg1)⟩
    · exact Draw.step.q1 0 rfl rfl fun s' bb hs hl => ⟨_, rfl, AOp.build rfl rfl zr47 pl47 (parts_cons (hl 9 (some 2) _ (.tail _ (.tail _ (.head _))) rfl) rfl rfl (parts_cons (hl 12 (some 5) _ (.tail _ (.head _)) rfl) rfl rfl (parts_cons (hl 16 (some 9) _ (.head _) rfl) rfl rfl rfl))) rfl⟩
    · exact Draw.step.q1 0 rfl rfl fun s' bb hs hl => ⟨_, rfl, AOp.fieldPtr (k := 0) (d := 0) (e := 4) rfl rfl (hl 1 none _ (.head _) rfl) fo103_4⟩
    · refine .inl ⟨rfl, fun s' bb hs hl => ?_⟩
      refine .inr ⟨rfl, AOp.congr (AOp.storePtr (cs := [.t (.leaf (.int .i64 (pa0.gType.gKind))), .t (.leaf (.string (pa0.gType.gName))), .t (.row 3 (GType.trs (pa0.gType.gArgs)))]) (ds := [.t (.leaf (.int .i64 (pa0.gKind))), .t (.leaf (.string (pa0.gTrait))), .t (.leaf (.string (pa0.gName))), .t (.leaf (.int .i64 (pa0.gN))), .t (.leaf (.int .i64 (pa0.gType.gKind))), .t (.leaf (.string (pa0.gType.gName))), .t (.row 3 (GType.trs (pa0.gType.gArgs))), .t (.row 9 (GExpr.trs (pa0.gArgs))), .t (.row 11 (GArm.trs (pa0.gArms)))]) rfl (hl 18 (some 11) _ (.head _) rfl) (by rw [hs]; rfl) (hl 17 (some 10) _ (.tail _ (.head _)) rfl) rfl rfl rfl sz47 (Nat.le_of_ble_eq_true rfl) rfl) ?_⟩
      first | (rw [hs]; rfl) | rfl
    refine AWP.seq ?_; refine AWP.region_lit ?_; refine AL.cons rfl (AOp.buildSliceA (es := []) (es' := GExpr.trs ([])) (cs := []) rfl rfl el100 zr103 rfl rfl leA rfl (by simp [GExpr.cs]) (by decide) rfl (by decide) (by simp [GExpr.trs_map, GExpr.tr_cs])) ?_; refine AL.cons rfl (AOp.move (.inr rfl) rfl rfl) ?_; refine AL.nil ?_; refine AWP.seq ?_; refine AWP.seq ?_; refine AWP.region_lit ?_; refine AL.cons rfl (AOp.move (.inr rfl) rfl rfl) ?_; refine AL.nil ?_; refine AWP.fact (lk_lenN 3 rfl rfl (GExpr.trs_len _)) (fun hl5 => ?_)
    refine AWP.cut (ι := (List GExpr)) (fun v4 => sl11Copy_R1 fu r_sl11Copy pa0 = some (.inr v4)) (fun v4 => ⟨[(1, .ptr 0 0), (2, .ptr 1 0), (3, .acc 9 (GExpr.trs (v4)) 0)], ⟨[some ⟨103, [.t (.leaf (.int .i64 (pa0.gKind))), .t (.leaf (.string (pa0.gTrait))), .t (.leaf (.string (pa0.gName))), .t (.leaf (.int .i64 (pa0.gN))), .t (.leaf (.int .i64 (pa0.gType.gKind))), .t (.leaf (.string (pa0.gType.gName))), .t (.row 3 (GType.trs (pa0.gType.gArgs))), .t (.row 9 (GExpr.trs (pa0.gArgs))), .t (.row 11 (GArm.trs (pa0.gArms)))]⟩, some ⟨103, [.t (.leaf (.int .i64 (0))), .t (.leaf (.string (⟨#[]⟩))), .t (.leaf (.string (⟨#[]⟩))), .t (.leaf (.int .i64 (0))), .t (.leaf (.int .i64 (0))), .t (.leaf (.string (⟨#[]⟩))), .nil, .nil, .nil]⟩], [⟨103, 9, GExpr.trs (v4), false⟩]⟩⟩) (by repeat' (first | exact qcEnds | exact ncAWP | exact ncRound | exact ncEx | apply qcThen | apply qcBlock | apply qcCut)) ?_ ?_
    · refine AWP.block ?_; refine AWP.loopR (ι := Nat × ((List GExpr))) (fun (i2, v4) => sl11Copy_R1 fu r_sl11Copy pa0 = loopN (sl11Copy_F1 fu r_sl11Copy pa0) (pa0.gArgs.length - i2) i2 v4) (fun (i2, v4) => ⟨[(1, .ptr 0 0), (2, .ptr 1 0), (3, .acc 9 (GExpr.trs (v4)) 0), (4, .t (.leaf (.int .i64 (((i2 : Nat) : Int)))))], ⟨[some ⟨103, [.t (.leaf (.int .i64 (pa0.gKind))), .t (.leaf (.string (pa0.gTrait))), .t (.leaf (.string (pa0.gName))), .t (.leaf (.int .i64 (pa0.gN))), .t (.leaf (.int .i64 (pa0.gType.gKind))), .t (.leaf (.string (pa0.gType.gName))), .t (.row 3 (GType.trs (pa0.gType.gArgs))), .t (.row 9 (GExpr.trs (pa0.gArgs))), .t (.row 11 (GArm.trs (pa0.gArms)))]⟩, some ⟨103, [.t (.leaf (.int .i64 (0))), .t (.leaf (.string (⟨#[]⟩))), .t (.leaf (.string (⟨#[]⟩))), .t (.leaf (.int .i64 (0))), .t (.leaf (.int .i64 (0))), .t (.leaf (.string (⟨#[]⟩))), .nil, .nil, .nil]⟩], [⟨103, 9, GExpr.trs (v4), false⟩]⟩⟩) (fun (i2, v4) => pa0.gArgs.length - i2) (0, ([])) ?_ ?_ ?_
      · exact rfl
      · exact Wk.mk (StLe.mk' ⟨⟨rfl, leA, rfl⟩, ⟨⟨rfl, leA, rfl⟩, trivial⟩⟩ (by first | rfl | simp)) (keeps_nil hC) ⟨⟨_, rfl, .refl _, rfl⟩, ⟨⟨_, rfl, .refl _, rfl⟩, ⟨⟨_, rfl, leA, rfl⟩, ⟨⟨_, rfl, leA, rfl⟩, trivial⟩⟩⟩⟩
      · rintro ⟨i2, v4⟩ hJ6
        refine AWP.seq ?_; refine AWP.seq ?_; refine AWP.region_lit ?_; refine AL.cons rfl (AOp.move (.inl rfl) rfl rfl) ?_; refine AL.cons rfl (AOp.fieldPtr (k := 0) (d := 0) (e := 7) rfl rfl rfl fo103_5) ?_; refine AL.cons rfl (AOp.loadPtr1 rfl rfl rfl rfl sh100 rfl) ?_; refine AL.fact (lk_lenN 22 rfl rfl (GExpr.trs_len _)) (fun hl7 => ?_)
        refine AL.cons rfl (AOp.lenN rfl rfl rfl rfl el100 (GExpr.trs_len _)) ?_; refine AL.cons rfl (AOp.lss rfl rfl rfl rfl) ?_; refine AL.nil ?_; refine AWP.cond rfl (fun h8 => ?_) (fun h8 => ?_)
        · have h8l : i2 < pa0.gArgs.length := nat_lt_of2 h8
          have h8n := nat_lt_of h8
          refine AWP.skip ?_; refine AWP.seq ?_; refine AWP.block ?_; refine AWP.region_lit ?_; refine AL.cons rfl (AOp.move (.inl rfl) rfl rfl) ?_; refine AL.cons rfl (AOp.fieldPtr (k := 0) (d := 0) (e := 7) rfl rfl rfl fo103_5) ?_; refine AL.cons rfl (AOp.loadPtr1 rfl rfl rfl rfl sh100 rfl) ?_; refine AL.cons rfl (AOp.move (.inl rfl) rfl rfl) ?_
          obtain ⟨y9, hy10⟩ : ∃ y : GExpr, y = atD pa0.gArgs i2 := ⟨_, rfl⟩
          refine AL.cons rfl (AOp.index (e := GExpr.cs y9) (k := i2) rfl rfl rfl rfl rfl (by rw [hy10]; exact GExpr.trs_at h8n) el100) ?_; refine AL.cons rfl (AOp.loadEptr (ds := [.leaf (.int .i64 (y9.gKind)), .leaf (.string (y9.gTrait)), .leaf (.string (y9.gName)), .leaf (.int .i64 (y9.gN)), .leaf (.int .i64 (y9.gType.gKind)), .leaf (.string (y9.gType.gName)), .row 3 (GType.trs (y9.gType.gArgs)), .row 9 (GExpr.trs (y9.gArgs)), .row 11 (GArm.trs (y9.gArms))]) rfl rfl rfl sh103 rfl rfl) ?_
          rcases hq11 : r_sl11Copy y9 with _ | x12
          · have e13 : (sl11Copy_F1 fu r_sl11Copy pa0) i2 v4 = none := ltE hy10 (bdN hq11)
            have e14 : sl11Copy_R1 fu r_sl11Copy pa0 = none := loopN_non h8l hJ6 e13
            have e15 : sl11Copy_G fu r_sl11Copy pa0 = none := gdT hg1 (soN e14)
            exact none_some H e15
          · refine AL.cons rfl (AOp.callF (res := (GExpr.pv x12)) (ps := [_]) rfl rfl Tryz.func173 (by kernel_rfl) rfl rfl leA rfl rfl (h_sl11Copy y9 _ hq11)) ?_; refine AL.cons rfl (AOp.buildSliceE (es := [GExpr.cs x12]) (es' := GExpr.trs (([x12] : List GExpr))) (cs := [.t (.leaf (.int .i64 (x12.gKind))), .t (.leaf (.string (x12.gTrait))), .t (.leaf (.string (x12.gName))), .t (.leaf (.int .i64 (x12.gN))), .t (.leaf (.int .i64 (x12.gType.gKind))), .t (.leaf (.string (x12.gType.gName))), .t (.row 3 (GType.trs (x12.gType.gArgs))), .t (.row 9 (GExpr.trs (x12.gArgs))), .t (.row 11 (GArm.trs (x12.gArms)))]) rfl rfl el100 zr103 rfl rfl leA rfl (by simp [GExpr.cs]) (by decide) rfl (by decide) (by simp [GExpr.trs_map, GExpr.tr_cs])) ?_
            rcases Classical.em ((v4).length + (([x12] : List GExpr)).length ≤ 68719476736) with hg16 | hg16
            · refine AL.cons rfl (AOp.appendE (es3 := GExpr.trs (v4 ++ ([x12] : List GExpr))) rfl rfl rfl rfl rfl rfl rfl rfl rfl (fun e he => by rw [GExpr.trs_map] at he; obtain ⟨x, _, rfl⟩ := List.mem_map.1 he; rw [GExpr.tr_cs]; rfl) el100 ze100 (by decide) (by rw [GExpr.trs_len, GExpr.trs_len]; exact room_le hg16 (by decide)) (by rw [GExpr.trs_map, GExpr.trs_map, GExpr.trs_map, List.map_append])) ?_; refine AL.cons rfl (AOp.move (.inr rfl) rfl rfl) ?_; refine AL.nil ?_; refine AWP.region_lit ?_; refine AL.cons rfl (AOp.move (.inl rfl) rfl rfl) ?_; refine AL.cons rfl (AOp.addI rfl rfl rfl rfl (c := ((i2 + 1 : Nat) : Int)) (by omega) (by omega)) ?_; refine AL.cons rfl (AOp.move (.inr rfl) rfl rfl) ?_; refine AL.nil ?_
              have e17 : (sl11Copy_F1 fu r_sl11Copy pa0) i2 v4 = some (.next (v4 ++ ([x12] : List GExpr))) := ltE hy10 (bdS hq11 (gdT hg16 (rfl)))
              refine ⟨(i2 + 1, (v4 ++ ([x12] : List GExpr))), loopN_next h8l hJ6 e17, ?_, ?_⟩
              · exact Wk.mk (StLe.mk' ⟨⟨rfl, leA, rfl⟩, ⟨⟨rfl, leA, rfl⟩, trivial⟩⟩ (by first | rfl | simp)) (keeps_nil hC) ⟨⟨_, rfl, .refl _, rfl⟩, ⟨⟨_, rfl, .refl _, rfl⟩, ⟨⟨_, rfl, leA, rfl⟩, ⟨⟨_, rfl, leA, rfl⟩, trivial⟩⟩⟩⟩
              · dsimp only; omega
            · have e18 : (sl11Copy_F1 fu r_sl11Copy pa0) i2 v4 = none := ltE hy10 (bdS hq11 (gdF hg16))
              have e19 : sl11Copy_R1 fu r_sl11Copy pa0 = none := loopN_non h8l hJ6 e18
              have e20 : sl11Copy_G fu r_sl11Copy pa0 = none := gdT hg1 (soN e19)
              exact none_some H e20
        · have h8l : pa0.gArgs.length ≤ i2 := nat_ge_of2 h8
          refine AWP.exit ?_; refine ⟨v4, loopN_end h8l hJ6, ?_⟩
          exact Wk.mk (StLe.mk' ⟨⟨rfl, leA, rfl⟩, ⟨⟨rfl, leA, rfl⟩, trivial⟩⟩ (by first | rfl | simp)) (keeps_nil hC) ⟨⟨_, rfl, .refl _, rfl⟩, ⟨⟨_, rfl, .refl _, rfl⟩, ⟨⟨_, rfl, .refl _, rfl⟩, trivial⟩⟩⟩
    · rintro v4 hR21
      refine AWP.seq ?_; refine AWP.region_lit ?_; refine AL.cons rfl (AOp.buildSliceA (es := []) (es' := GArm.trs ([])) (cs := []) rfl rfl el101 zr229 rfl rfl leA rfl (by simp [GArm.cs]) (by decide) rfl (by decide) (by simp [GArm.trs_map, GArm.tr_cs])) ?_; refine AL.cons rfl (AOp.move (.inr rfl) rfl rfl) ?_; refine AL.nil ?_; refine AWP.seq ?_; refine AWP.seq ?_; refine AWP.region_lit ?_; refine AL.cons rfl (AOp.move (.inr rfl) rfl rfl) ?_; refine AL.nil ?_; refine AWP.fact (lk_lenN 3 rfl rfl (GExpr.trs_len _)) (fun hl25 => ?_)
      refine AWP.cut (ι := (List GArm)) (fun v24 => sl11Copy_R2 fu r_sl11Copy pa0 v4 = some (.inr v24)) (fun v24 => ⟨[(1, .ptr 0 0), (2, .ptr 1 0), (3, .acc 9 (GExpr.trs (v4)) 0), (5, .acc 11 (GArm.trs (v24)) 1)], ⟨[some ⟨103, [.t (.leaf (.int .i64 (pa0.gKind))), .t (.leaf (.string (pa0.gTrait))), .t (.leaf (.string (pa0.gName))), .t (.leaf (.int .i64 (pa0.gN))), .t (.leaf (.int .i64 (pa0.gType.gKind))), .t (.leaf (.string (pa0.gType.gName))), .t (.row 3 (GType.trs (pa0.gType.gArgs))), .t (.row 9 (GExpr.trs (pa0.gArgs))), .t (.row 11 (GArm.trs (pa0.gArms)))]⟩, some ⟨103, [.t (.leaf (.int .i64 (0))), .t (.leaf (.string (⟨#[]⟩))), .t (.leaf (.string (⟨#[]⟩))), .t (.leaf (.int .i64 (0))), .t (.leaf (.int .i64 (0))), .t (.leaf (.string (⟨#[]⟩))), .nil, .nil, .nil]⟩], [⟨103, 9, GExpr.trs (v4), false⟩, ⟨229, 11, GArm.trs (v24), false⟩]⟩⟩) (by repeat' (first | exact qcEnds | exact ncAWP | exact ncRound | exact ncEx | apply qcThen | apply qcBlock | apply qcCut)) ?_ ?_
      · refine AWP.block ?_; refine AWP.loopR (ι := Nat × ((List GArm))) (fun (i22, v24) => sl11Copy_R2 fu r_sl11Copy pa0 v4 = loopN (sl11Copy_F2 fu r_sl11Copy pa0 v4) (pa0.gArms.length - i22) i22 v24) (fun (i22, v24) => ⟨[(1, .ptr 0 0), (2, .ptr 1 0), (3, .acc 9 (GExpr.trs (v4)) 0), (5, .acc 11 (GArm.trs (v24)) 1), (6, .t (.leaf (.int .i64 (((i22 : Nat) : Int)))))], ⟨[some ⟨103, [.t (.leaf (.int .i64 (pa0.gKind))), .t (.leaf (.string (pa0.gTrait))), .t (.leaf (.string (pa0.gName))), .t (.leaf (.int .i64 (pa0.gN))), .t (.leaf (.int .i64 (pa0.gType.gKind))), .t (.leaf (.string (pa0.gType.gName))), .t (.row 3 (GType.trs (pa0.gType.gArgs))), .t (.row 9 (GExpr.trs (pa0.gArgs))), .t (.row 11 (GArm.trs (pa0.gArms)))]⟩, some ⟨103, [.t (.leaf (.int .i64 (0))), .t (.leaf (.string (⟨#[]⟩))), .t (.leaf (.string (⟨#[]⟩))), .t (.leaf (.int .i64 (0))), .t (.leaf (.int .i64 (0))), .t (.leaf (.string (⟨#[]⟩))), .nil, .nil, .nil]⟩], [⟨103, 9, GExpr.trs (v4), false⟩, ⟨229, 11, GArm.trs (v24), false⟩]⟩⟩) (fun (i22, v24) => pa0.gArms.length - i22) (0, ([])) ?_ ?_ ?_
        · exact rfl
        · exact Wk.mk (StLe.mk' ⟨⟨rfl, leA, rfl⟩, ⟨⟨rfl, leA, rfl⟩, trivial⟩⟩ (by first | rfl | simp)) (keeps_nil hC) ⟨⟨_, rfl, .refl _, rfl⟩, ⟨⟨_, rfl, .refl _, rfl⟩, ⟨⟨_, rfl, .refl _, rfl⟩, ⟨⟨_, rfl, leA, rfl⟩, ⟨⟨_, rfl, leA, rfl⟩, trivial⟩⟩⟩⟩⟩
        · rintro ⟨i22, v24⟩ hJ26
          refine AWP.seq ?_; refine AWP.seq ?_; refine AWP.region_lit ?_; refine AL.cons rfl (AOp.move (.inl rfl) rfl rfl) ?_; refine AL.cons rfl (AOp.fieldPtr (k := 0) (d := 0) (e := 8) rfl rfl rfl fo103_6) ?_; refine AL.cons rfl (AOp.loadPtr1 rfl rfl rfl rfl sh101 rfl) ?_; refine AL.fact (lk_lenN 39 rfl rfl (GArm.trs_len _)) (fun hl27 => ?_)
          refine AL.cons rfl (AOp.lenN rfl rfl rfl rfl el101 (GArm.trs_len _)) ?_; refine AL.cons rfl (AOp.lss rfl rfl rfl rfl) ?_; refine AL.nil ?_; refine AWP.cond rfl (fun h28 => ?_) (fun h28 => ?_)
          · have h28l : i22 < pa0.gArms.length := nat_lt_of2 h28
            have h28n := nat_lt_of h28
            refine AWP.skip ?_; refine AWP.seq ?_; refine AWP.block ?_
            obtain ⟨y29, hy30⟩ : ∃ y : GArm, y = atD pa0.gArms i22 := ⟨_, rfl⟩
            rcases Classical.em (([] : List ByteArray).length + (y29.gVars).length ≤ 68719476736) with hg31 | hg31
            · rcases hq32 : r_sl11Copy y29.gBody with _ | x33
              · have e34 : (sl11Copy_F2 fu r_sl11Copy pa0 v4) i22 v24 = none := ltE hy30 (gdT hg31 (bdN hq32))
                have e35 : sl11Copy_R2 fu r_sl11Copy pa0 v4 = none := loopN_non h28l hJ26 e34
                have e36 : sl11Copy_G fu r_sl11Copy pa0 = none := gdT hg1 (soR hR21 (soN e35))
                exact none_some H e36
              · rcases Classical.em ((v24).length + (([(GArm.mk y29.gConstructor (([]) ++ y29.gVars) x33)] : List GArm)).length ≤ 68719476736) with hg37 | hg37
                · refine AWP.drawnL ⟨_, _, fun j' _ => ([(⟨[some ⟨103, [.t (.leaf (.int .i64 (pa0.gKind))), .t (.leaf (.string (pa0.gTrait))), .t (.leaf (.string (pa0.gName))), .t (.leaf (.int .i64 (pa0.gN))), .t (.leaf (.int .i64 (pa0.gType.gKind))), .t (.leaf (.string (pa0.gType.gName))), .t (.row 3 (GType.trs (pa0.gType.gArgs))), .t (.row 9 (GExpr.trs (pa0.gArgs))), .t (.row 11 (GArm.trs (pa0.gArms)))]⟩, some ⟨103, [.t (.leaf (.int .i64 (0))), .t (.leaf (.string (⟨#[]⟩))), .t (.leaf (.string (⟨#[]⟩))), .t (.leaf (.int .i64 (0))), .t (.leaf (.int .i64 (0))), .t (.leaf (.string (⟨#[]⟩))), .nil, .nil, .nil]⟩], [⟨103, 9, GExpr.trs (v4), false⟩, ⟨229, 11, GArm.trs (v24), false⟩]⟩ : Sto), (⟨[some ⟨103, [.t (.leaf (.int .i64 (pa0.gKind))), .t (.leaf (.string (pa0.gTrait))), .t (.leaf (.string (pa0.gName))), .t (.leaf (.int .i64 (pa0.gN))), .t (.leaf (.int .i64 (pa0.gType.gKind))), .t (.leaf (.string (pa0.gType.gName))), .t (.row 3 (GType.trs (pa0.gType.gArgs))), .t (.row 9 (GExpr.trs (pa0.gArgs))), .t (.row 11 (GArm.trs (pa0.gArms)))]⟩, some ⟨103, [.t (.leaf (.int .i64 (0))), .t (.leaf (.string (⟨#[]⟩))), .t (.leaf (.string (⟨#[]⟩))), .t (.leaf (.int .i64 (0))), .t (.leaf (.int .i64 (0))), .t (.leaf (.string (⟨#[]⟩))), .nil, .nil, .nil]⟩], [⟨103, 9, GExpr.trs (v4), false⟩, ⟨229, 11, GArm.trs (v24), false⟩, ⟨9, 1, strTrs ([]), false⟩]⟩ : Sto), (⟨[some ⟨103, [.t (.leaf (.int .i64 (pa0.gKind))), .t (.leaf (.string (pa0.gTrait))), .t (.leaf (.string (pa0.gName))), .t (.leaf (.int .i64 (pa0.gN))), .t (.leaf (.int .i64 (pa0.gType.gKind))), .t (.leaf (.string (pa0.gType.gName))), .t (.row 3 (GType.trs (pa0.gType.gArgs))), .t (.row 9 (GExpr.trs (pa0.gArgs))), .t (.row 11 (GArm.trs (pa0.gArms)))]⟩, some ⟨103, [.t (.leaf (.int .i64 (0))), .t (.leaf (.string (⟨#[]⟩))), .t (.leaf (.string (⟨#[]⟩))), .t (.leaf (.int .i64 (0))), .t (.leaf (.int .i64 (0))), .t (.leaf (.string (⟨#[]⟩))), .nil, .nil, .nil]⟩], [⟨103, 9, GExpr.trs (v4), false⟩, ⟨229, 11, GArm.trs (v24), false⟩, ⟨9, 1, strTrs (([]) ++ y29.gVars), false⟩]⟩ : Sto), (⟨[some ⟨103, [.t (.leaf (.int .i64 (pa0.gKind))), .t (.leaf (.string (pa0.gTrait))), .t (.leaf (.string (pa0.gName))), .t (.leaf (.int .i64 (pa0.gN))), .t (.leaf (.int .i64 (pa0.gType.gKind))), .t (.leaf (.string (pa0.gType.gName))), .t (.row 3 (GType.trs (pa0.gType.gArgs))), .t (.row 9 (GExpr.trs (pa0.gArgs))), .t (.row 11 (GArm.trs (pa0.gArms)))]⟩, some ⟨103, [.t (.leaf (.int .i64 (0))), .t (.leaf (.string (⟨#[]⟩))), .t (.leaf (.string (⟨#[]⟩))), .t (.leaf (.int .i64 (0))), .t (.leaf (.int .i64 (0))), .t (.leaf (.string (⟨#[]⟩))), .nil, .nil, .nil]⟩], [⟨103, 9, GExpr.trs (v4), false⟩, ⟨229, 11, GArm.trs (v24 ++ ([(GArm.mk y29.gConstructor (([]) ++ y29.gVars) x33)] : List GArm)), false⟩, ⟨9, 1, strTrs (([]) ++ y29.gVars), false⟩]⟩ : Sto)] : List Sto).getD j' (⟨[some ⟨103, [.t (.leaf (.int .i64 (pa0.gKind))), .t (.leaf (.string (pa0.gTrait))), .t (.leaf (.string (pa0.gName))), .t (.leaf (.int .i64 (pa0.gN))), .t (.leaf (.int .i64 (pa0.gType.gKind))), .t (.leaf (.string (pa0.gType.gName))), .t (.row 3 (GType.trs (pa0.gType.gArgs))), .t (.row 9 (GExpr.trs (pa0.gArgs))), .t (.row 11 (GArm.trs (pa0.gArms)))]⟩, some ⟨103, [.t (.leaf (.int .i64 (0))), .t (.leaf (.string (⟨#[]⟩))), .t (.leaf (.string (⟨#[]⟩))), .t (.leaf (.int .i64 (0))), .t (.leaf (.int .i64 (0))), .t (.leaf (.string (⟨#[]⟩))), .nil, .nil, .nil]⟩], [⟨103, 9, GExpr.trs (v4), false⟩, ⟨229, 11, GArm.trs (v24 ++ ([(GArm.mk y29.gConstructor (([]) ++ y29.gVars) x33)] : List GArm)), false⟩, ⟨9, 1, strTrs (([]) ++ y29.gVars), false⟩]⟩ : Sto), fun q' => ([some (.acc 11 (GArm.trs (v24)) 1), some (.ptr 0 8), some (.t (.row 11 (GArm.trs (pa0.gArms)))), some (.t (.leaf (.int .i64 (((i22 : Nat) : Int))))), some (.eptr (GArm.cs y29)), some (.eptr (GArm.cs y29)), some (.t (.leaf (.string (y29.gConstructor)))), some (.acc 1 (strTrs ([])) 2), some (.ptr 0 8), some (.t (.row 11 (GArm.trs (pa0.gArms)))), some (.t (.leaf (.int .i64 (((i22 : Nat) : Int))))), some (.eptr (GArm.cs y29)), some (.eptr ((GArm.cs y29).drop 1)), some (.t (.row 1 (strTrs (y29.gVars)))), some (.acc 1 (strTrs (([]) ++ y29.gVars)) 2), some (.ptr 0 8), some (.t (.row 11 (GArm.trs (pa0.gArms)))), some (.t (.leaf (.int .i64 (((i22 : Nat) : Int))))), some (.eptr (GArm.cs y29)), some (.eptr ((GArm.cs y29).drop 2)), some ((GExpr.pv y29.gBody)), some ((GExpr.pv x33)), some (.agg [.t (.leaf (.string (y29.gConstructor))), .acc 1 (strTrs (([]) ++ y29.gVars)) 2, .t (.leaf (.int .i64 (x33.gKind))), .t (.leaf (.string (x33.gTrait))), .t (.leaf (.string (x33.gName))), .t (.leaf (.int .i64 (x33.gN))), .t (.leaf (.int .i64 (x33.gType.gKind))), .t (.leaf (.string (x33.gType.gName))), .t (.row 3 (GType.trs (x33.gType.gArgs))), .t (.row 9 (GExpr.trs (x33.gArgs))), .t (.row 11 (GArm.trs (x33.gArms)))]), some (.t (.row 11 (GArm.trs (([(GArm.mk y29.gConstructor (([]) ++ y29.gVars) x33)] : List GArm))))), some (.acc 11 (GArm.trs (v24 ++ ([(GArm.mk y29.gConstructor (([]) ++ y29.gVars) x33)] : List GArm))) 1), some (.acc 11 (GArm.trs (v24 ++ ([(GArm.mk y29.gConstructor (([]) ++ y29.gVars) x33)] : List GArm))) 1)] : List (Option PV)).getD q' none, fun q' => ([.q 0 2, .q 0 2, .q 0 2, .q 0 2, .q 0 2, .q 0 2, .q 0 2, .ef 0, .q 0 1, .q 0 1, .q 0 1, .q 0 1, .q 0 1, .q 0 1, .ef 1, .q 0 2, .q 0 2, .q 0 2, .q 0 2, .q 0 2, .q 0 2, .q 2 2, .q 2 2, .q 2 2, .ef 2, .q 3 3] : List DK).getD q' (.q 0 0), [7, 14, 24], none, fun q' => ([[(5, none)], [(1, none)], [(45, some 1)], [(6, none)], [(46, some 2), (47, some 3)], [(48, some 4)], [(49, some 5)], [], [(1, none)], [(52, some 8)], [(6, none)], [(53, some 9), (54, some 10)], [(55, some 11)], [(56, some 12)], [(51, some 7), (57, some 13)], [(1, none)], [(59, some 15)], [(6, none)], [(60, some 16), (61, some 17)], [(62, some 18)], [(63, some 19)], [(64, some 20)], [(65, some 21), (58, some 14), (50, some 6)], [(66, some 22)], [(44, some 0), (67, some 23)], [(68, some 24)]] : List (List (Nat × Option Nat))).getD q' []⟩ rfl mixed (by kernel_rfl) rfl rfl ⟨?_, ?_, ?_, ?_, ?_, ?_, ?_, ?_, ?_, ?_, ?_, ?_, ?_, ?_, ?_, ?_, ?_, ?_, ?_, ?_, ?_, ?_, ?_, ?_, ?_, ?_, trivial⟩ rfl ?_
                  · refine .inl ⟨rfl, fun s' jj bb (h1 : 0 ≤ jj) (h2 : jj ≤ 2) hs hl => ?_⟩
                    rcases (by omega : jj = 0 ∨ jj = 1 ∨ jj = 2) with rfl | rfl | rfl <;> exact ⟨_, rfl, AOp.move (.inl rfl) rfl (hl 5 none _ (.head _) rfl)⟩
                  · refine .inl ⟨rfl, fun s' jj bb (h1 : 0 ≤ jj) (h2 : jj ≤ 2) hs hl => ?_⟩
                    rcases (by omega : jj = 0 ∨ jj = 1 ∨ jj = 2) with rfl | rfl | rfl <;> exact ⟨_, rfl, AOp.fieldPtr (k := 0) (d := 0) (e := 8) rfl rfl (hl 1 none _ (.head _) rfl) fo103_6⟩
                  · refine .inl ⟨rfl, fun s' jj bb (h1 : 0 ≤ jj) (h2 : jj ≤ 2) hs hl => ?_⟩
                    rcases (by omega : jj = 0 ∨ jj = 1 ∨ jj = 2) with rfl | rfl | rfl <;> exact ⟨_, rfl, AOp.loadPtr1 rfl rfl (hl 45 (some 1) _ (.head _) rfl) (by rw [hs]; rfl) sh101 rfl⟩
                  · refine .inl ⟨rfl, fun s' jj bb (h1 : 0 ≤ jj) (h2 : jj ≤ 2) hs hl => ?_⟩
                    rcases (by omega : jj = 0 ∨ jj = 1 ∨ jj = 2) with rfl | rfl | rfl <;> exact ⟨_, rfl, AOp.move (.inl rfl) rfl (hl 6 none _ (.head _) rfl)⟩
                  · refine .inl ⟨rfl, fun s' jj bb (h1 : 0 ≤ jj) (h2 : jj ≤ 2) hs hl => ?_⟩
                    rcases (by omega : jj = 0 ∨ jj = 1 ∨ jj = 2) with rfl | rfl | rfl <;> exact ⟨_, rfl, AOp.index (e := GArm.cs y29) (k := i22) rfl rfl (hl 46 (some 2) _ (.head _) rfl) rfl (hl 47 (some 3) _ (.tail _ (.head _)) rfl) (by rw [hy30]; exact GArm.trs_at h28n) el101⟩
                  · refine .inl ⟨rfl, fun s' jj bb (h1 : 0 ≤ jj) (h2 : jj ≤ 2) hs hl => ?_⟩
                    rcases (by omega : jj = 0 ∨ jj = 1 ∨ jj = 2) with rfl | rfl | rfl <;> exact ⟨_, rfl, AOp.fieldEptr (cs := (GArm.cs y29)) (e := 0) rfl rfl (hl 48 (some 4) _ (.head _) rfl) fo229_0⟩
                  · refine .inl ⟨rfl, fun s' jj bb (h1 : 0 ≤ jj) (h2 : jj ≤ 2) hs hl => ?_⟩
                    rcases (by omega : jj = 0 ∨ jj = 1 ∨ jj = 2) with rfl | rfl | rfl <;> exact ⟨_, rfl, AOp.loadEptr1 (d := .leaf (.string (y29.gConstructor))) rfl rfl (hl 49 (some 5) _ (.head _) rfl) sh9 rfl⟩
                  · refine .inl ⟨rfl, fun s' bb hs hl => ?_⟩
                    refine .inl ⟨_, rfl, AOp.congr (AOp.buildSliceA (es := []) (es' := strTrs ([])) (cs := []) rfl rfl el54 zr9 rfl rfl leA rfl (by simp) (by decide) rfl (by decide) rfl) ?_⟩
                    first | (rw [hs]; rfl) | rfl
                  · refine .inl ⟨rfl, fun s' jj bb (h1 : 0 ≤ jj) (h2 : jj ≤ 1) hs hl => ?_⟩
                    rcases (by omega : jj = 0 ∨ jj = 1) with rfl | rfl <;> exact ⟨_, rfl, AOp.fieldPtr (k := 0) (d := 0) (e := 8) rfl rfl (hl 1 none _ (.head _) rfl) fo103_6⟩
                  · refine .inl ⟨rfl, fun s' jj bb (h1 : 0 ≤ jj) (h2 : jj ≤ 1) hs hl => ?_⟩
                    rcases (by omega : jj = 0 ∨ jj = 1) with rfl | rfl <;> exact ⟨_, rfl, AOp.loadPtr1 rfl rfl (hl 52 (some 8) _ (.head _) rfl) (by rw [hs]; rfl) sh101 rfl⟩
                  · refine .inl ⟨rfl, fun s' jj bb (h1 : 0 ≤ jj) (h2 : jj ≤ 1) hs hl => ?_⟩
                    rcases (by omega : jj = 0 ∨ jj = 1) with rfl | rfl <;> exact ⟨_, rfl, AOp.move (.inl rfl) rfl (hl 6 none _ (.head _) rfl)⟩
                  · refine .inl ⟨rfl, fun s' jj bb (h1 : 0 ≤ jj) (h2 : jj ≤ 1) hs hl => ?_⟩
                    rcases (by omega : jj = 0 ∨ jj = 1) with rfl | rfl <;> exact ⟨_, rfl, AOp.index (e := GArm.cs y29) (k := i22) rfl rfl (hl 53 (some 9) _ (.head _) rfl) rfl (hl 54 (some 10) _ (.tail _ (.head _)) rfl) (by rw [hy30]; exact GArm.trs_at h28n) el101⟩
                  · refine .inl ⟨rfl, fun s' jj bb (h1 : 0 ≤ jj) (h2 : jj ≤ 1) hs hl => ?_⟩
                    rcases (by omega : jj = 0 ∨ jj = 1) with rfl | rfl <;> exact ⟨_, rfl, AOp.fieldEptr (cs := (GArm.cs y29)) (e := 1) rfl rfl (hl 55 (some 11) _ (.head _) rfl) fo229_1⟩
                  · refine .inl ⟨rfl, fun s' jj bb (h1 : 0 ≤ jj) (h2 : jj ≤ 1) hs hl => ?_⟩
                    rcases (by omega : jj = 0 ∨ jj = 1) with rfl | rfl <;> exact ⟨_, rfl, AOp.loadEptr1 (d := .row 1 (strTrs (y29.gVars))) rfl rfl (hl 56 (some 12) _ (.head _) rfl) sh54 rfl⟩
                  · refine .inl ⟨rfl, fun s' bb hs hl => ?_⟩
                    refine .inl ⟨_, rfl, AOp.congr (AOp.appendE (es3 := strTrs (([]) ++ y29.gVars)) rfl rfl (hl 51 (some 7) _ (.head _) rfl) (by rw [hs]; rfl) rfl rfl rfl (hl 57 (some 13) _ (.tail _ (.head _)) rfl) rfl (strTrs_all _) el54 ze54 (by decide) (by rw [strTrs_len, strTrs_len]; exact room_le hg31 (by decide)) (strTrs_append _ _)) ?_⟩
                    first | (rw [hs]; rfl) | rfl
                  · refine .inl ⟨rfl, fun s' jj bb (h1 : 0 ≤ jj) (h2 : jj ≤ 2) hs hl => ?_⟩
                    rcases (by omega : jj = 0 ∨ jj = 1 ∨ jj = 2) with rfl | rfl | rfl <;> exact ⟨_, rfl, AOp.fieldPtr (k := 0) (d := 0) (e := 8) rfl rfl (hl 1 none _ (.head _) rfl) fo103_6⟩
                  · refine .inl ⟨rfl, fun s' jj bb (h1 : 0 ≤ jj) (h2 : jj ≤ 2) hs hl => ?_⟩
                    rcases (by omega : jj = 0 ∨ jj = 1 ∨ jj = 2) with rfl | rfl | rfl <;> exact ⟨_, rfl, AOp.loadPtr1 rfl rfl (hl 59 (some 15) _ (.head _) rfl) (by rw [hs]; rfl) sh101 rfl⟩
                  · refine .inl ⟨rfl, fun s' jj bb (h1 : 0 ≤ jj) (h2 : jj ≤ 2) hs hl => ?_⟩
                    rcases (by omega : jj = 0 ∨ jj = 1 ∨ jj = 2) with rfl | rfl | rfl <;> exact ⟨_, rfl, AOp.move (.inl rfl) rfl (hl 6 none _ (.head _) rfl)⟩
                  · refine .inl ⟨rfl, fun s' jj bb (h1 : 0 ≤ jj) (h2 : jj ≤ 2) hs hl => ?_⟩
                    rcases (by omega : jj = 0 ∨ jj = 1 ∨ jj = 2) with rfl | rfl | rfl <;> exact ⟨_, rfl, AOp.index (e := GArm.cs y29) (k := i22) rfl rfl (hl 60 (some 16) _ (.head _) rfl) rfl (hl 61 (some 17) _ (.tail _ (.head _)) rfl) (by rw [hy30]; exact GArm.trs_at h28n) el101⟩
                  · refine .inl ⟨rfl, fun s' jj bb (h1 : 0 ≤ jj) (h2 : jj ≤ 2) hs hl => ?_⟩
                    rcases (by omega : jj = 0 ∨ jj = 1 ∨ jj = 2) with rfl | rfl | rfl <;> exact ⟨_, rfl, AOp.fieldEptr (cs := (GArm.cs y29)) (e := 2) rfl rfl (hl 62 (some 18) _ (.head _) rfl) fo229_2⟩
                  · refine .inl ⟨rfl, fun s' jj bb (h1 : 0 ≤ jj) (h2 : jj ≤ 2) hs hl => ?_⟩
                    rcases (by omega : jj = 0 ∨ jj = 1 ∨ jj = 2) with rfl | rfl | rfl <;> exact ⟨_, rfl, AOp.loadEptr (ds := [.leaf (.int .i64 (y29.gBody.gKind)), .leaf (.string (y29.gBody.gTrait)), .leaf (.string (y29.gBody.gName)), .leaf (.int .i64 (y29.gBody.gN)), .leaf (.int .i64 (y29.gBody.gType.gKind)), .leaf (.string (y29.gBody.gType.gName)), .row 3 (GType.trs (y29.gBody.gType.gArgs)), .row 9 (GExpr.trs (y29.gBody.gArgs)), .row 11 (GArm.trs (y29.gBody.gArms))]) rfl rfl (hl 63 (some 19) _ (.head _) rfl) sh103 rfl rfl⟩
                  · exact Draw.step.q1 2 rfl rfl fun s' bb hs hl => ⟨_, rfl, AOp.callF (res := (GExpr.pv x33)) (ps := [_]) rfl rfl Tryz.func173 (by kernel_rfl) rfl (evs_cons (hl 64 (some 20) _ (.head _) rfl) rfl) leA rfl rfl (h_sl11Copy y29.gBody _ hq32)⟩
                  · exact Draw.step.q1 2 rfl rfl fun s' bb hs hl => ⟨_, rfl, AOp.build rfl rfl zr229 pl229 (parts_cons (hl 50 (some 6) _ (.tail _ (.tail _ (.head _))) rfl) rfl rfl (parts_cons (hl 58 (some 14) _ (.tail _ (.head _)) rfl) rfl rfl (parts_cons (hl 65 (some 21) _ (.head _) rfl) rfl rfl rfl))) rfl⟩
                  · exact Draw.step.q1 2 rfl rfl fun s' bb hs hl => ⟨_, rfl, AOp.buildSliceE (es := [GArm.cs (GArm.mk y29.gConstructor (([]) ++ y29.gVars) x33)]) (es' := GArm.trs (([(GArm.mk y29.gConstructor (([]) ++ y29.gVars) x33)] : List GArm))) (cs := [.t (.leaf (.string (y29.gConstructor))), .acc 1 (strTrs (([]) ++ y29.gVars)) 2, .t (.leaf (.int .i64 (x33.gKind))), .t (.leaf (.string (x33.gTrait))), .t (.leaf (.string (x33.gName))), .t (.leaf (.int .i64 (x33.gN))), .t (.leaf (.int .i64 (x33.gType.gKind))), .t (.leaf (.string (x33.gType.gName))), .t (.row 3 (GType.trs (x33.gType.gArgs))), .t (.row 9 (GExpr.trs (x33.gArgs))), .t (.row 11 (GArm.trs (x33.gArms)))]) rfl rfl el101 zr229 (parts_cons (hl 66 (some 22) _ (.head _) rfl) rfl rfl rfl) rfl leA rfl (by simp [GArm.cs]) (by decide) rfl (by decide) (by simp [GArm.trs_map, GArm.tr_cs])⟩
                  · refine .inl ⟨rfl, fun s' bb hs hl => ?_⟩
                    refine .inl ⟨_, rfl, AOp.congr (AOp.appendE (es3 := GArm.trs (v24 ++ ([(GArm.mk y29.gConstructor (([]) ++ y29.gVars) x33)] : List GArm))) rfl rfl (hl 44 (some 0) _ (.head _) rfl) (by rw [hs]; rfl) rfl rfl rfl (hl 67 (some 23) _ (.tail _ (.head _)) rfl) rfl (fun e he => by rw [GArm.trs_map] at he; obtain ⟨x, _, rfl⟩ := List.mem_map.1 he; rw [GArm.tr_cs]; rfl) el101 ze101 (by decide) (by rw [GArm.trs_len, GArm.trs_len]; exact room_le hg37 (by decide)) (by rw [GArm.trs_map, GArm.trs_map, GArm.trs_map, List.map_append])) ?_⟩
                    first | (rw [hs]; rfl) | rfl
                  · exact Draw.step.q1 3 rfl rfl fun s' bb hs hl => ⟨_, rfl, AOp.move (.inr rfl) rfl (hl 68 (some 24) _ (.head _) rfl)⟩
                  refine AWP.region_lit ?_; refine AL.cons rfl (AOp.move (.inl rfl) rfl rfl) ?_; refine AL.cons rfl (AOp.addI rfl rfl rfl rfl (c := ((i22 + 1 : Nat) : Int)) (by omega) (by omega)) ?_; refine AL.cons rfl (AOp.move (.inr rfl) rfl rfl) ?_; refine AL.nil ?_
                  have e38 : (sl11Copy_F2 fu r_sl11Copy pa0 v4) i22 v24 = some (.next (v24 ++ ([(GArm.mk y29.gConstructor (([]) ++ y29.gVars) x33)] : List GArm))) := ltE hy30 (gdT hg31 (bdS hq32 (gdT hg37 (rfl))))
                  refine ⟨(i22 + 1, (v24 ++ ([(GArm.mk y29.gConstructor (([]) ++ y29.gVars) x33)] : List GArm))), loopN_next h28l hJ26 e38, ?_, ?_⟩
                  · exact Wk.mk (StLe.mk' ⟨⟨rfl, leA, rfl⟩, ⟨⟨rfl, leA, rfl⟩, trivial⟩⟩ (by first | rfl | simp)) (keeps_nil hC) ⟨⟨_, rfl, .refl _, rfl⟩, ⟨⟨_, rfl, .refl _, rfl⟩, ⟨⟨_, rfl, .refl _, rfl⟩, ⟨⟨_, rfl, leA, rfl⟩, ⟨⟨_, rfl, leA, rfl⟩, trivial⟩⟩⟩⟩⟩
                  · dsimp only; omega
                · have e39 : (sl11Copy_F2 fu r_sl11Copy pa0 v4) i22 v24 = none := ltE hy30 (gdT hg31 (bdS hq32 (gdF hg37)))
                  have e40 : sl11Copy_R2 fu r_sl11Copy pa0 v4 = none := loopN_non h28l hJ26 e39
                  have e41 : sl11Copy_G fu r_sl11Copy pa0 = none := gdT hg1 (soR hR21 (soN e40))
                  exact none_some H e41
            · have e42 : (sl11Copy_F2 fu r_sl11Copy pa0 v4) i22 v24 = none := ltE hy30 (gdF hg31)
              have e43 : sl11Copy_R2 fu r_sl11Copy pa0 v4 = none := loopN_non h28l hJ26 e42
              have e44 : sl11Copy_G fu r_sl11Copy pa0 = none := gdT hg1 (soR hR21 (soN e43))
              exact none_some H e44
          · have h28l : pa0.gArms.length ≤ i22 := nat_ge_of2 h28
            refine AWP.exit ?_; refine ⟨v24, loopN_end h28l hJ26, ?_⟩
            exact Wk.mk (StLe.mk' ⟨⟨rfl, leA, rfl⟩, ⟨⟨rfl, leA, rfl⟩, trivial⟩⟩ (by first | rfl | simp)) (keeps_nil hC) ⟨⟨_, rfl, .refl _, rfl⟩, ⟨⟨_, rfl, .refl _, rfl⟩, ⟨⟨_, rfl, .refl _, rfl⟩, ⟨⟨_, rfl, .refl _, rfl⟩, trivial⟩⟩⟩⟩
      · rintro v24 hR45
        refine AWP.seq ?_; refine AWP.region_lit ?_; refine AL.cons rfl (AOp.move (.inl rfl) rfl rfl) ?_; refine AL.cons rfl (AOp.fieldPtr (k := 0) (d := 0) (e := 7) rfl rfl rfl fo103_5) ?_; refine AL.cons rfl (AOp.storePtr (cs := [.acc 9 (GExpr.trs (v4)) 0]) (ds := [.t (.leaf (.int .i64 (pa0.gKind))), .t (.leaf (.string (pa0.gTrait))), .t (.leaf (.string (pa0.gName))), .t (.leaf (.int .i64 (pa0.gN))), .t (.leaf (.int .i64 (pa0.gType.gKind))), .t (.leaf (.string (pa0.gType.gName))), .t (.row 3 (GType.trs (pa0.gType.gArgs))), .acc 9 (GExpr.trs (v4)) 0, .t (.row 11 (GArm.trs (pa0.gArms)))]) rfl rfl rfl rfl rfl rfl rfl sz100 (Nat.le_of_ble_eq_true rfl) rfl) ?_; refine AL.nil ?_; refine AWP.seq ?_; refine AWP.region_lit ?_; refine AL.cons rfl (AOp.move (.inl rfl) rfl rfl) ?_; refine AL.cons rfl (AOp.fieldPtr (k := 0) (d := 0) (e := 8) rfl rfl rfl fo103_6) ?_; refine AL.cons rfl (AOp.storePtr (cs := [.acc 11 (GArm.trs (v24)) 1]) (ds := [.t (.leaf (.int .i64 (pa0.gKind))), .t (.leaf (.string (pa0.gTrait))), .t (.leaf (.string (pa0.gName))), .t (.leaf (.int .i64 (pa0.gN))), .t (.leaf (.int .i64 (pa0.gType.gKind))), .t (.leaf (.string (pa0.gType.gName))), .t (.row 3 (GType.trs (pa0.gType.gArgs))), .acc 9 (GExpr.trs (v4)) 0, .acc 11 (GArm.trs (v24)) 1]) rfl rfl rfl rfl rfl rfl rfl sz101 (Nat.le_of_ble_eq_true rfl) rfl) ?_; refine AL.nil ?_; refine AWP.seq ?_; refine AWP.region_lit ?_; refine AL.cons rfl (AOp.loadPtr (cs := [.t (.leaf (.int .i64 (pa0.gKind))), .t (.leaf (.string (pa0.gTrait))), .t (.leaf (.string (pa0.gName))), .t (.leaf (.int .i64 (pa0.gN))), .t (.leaf (.int .i64 (pa0.gType.gKind))), .t (.leaf (.string (pa0.gType.gName))), .t (.row 3 (GType.trs (pa0.gType.gArgs))), .acc 9 (GExpr.trs (v4)) 0, .acc 11 (GArm.trs (v24)) 1]) rfl rfl rfl rfl sh103 rfl rfl) ?_; refine AL.cons rfl (AOp.storePtr (cs := [.t (.leaf (.int .i64 (pa0.gKind))), .t (.leaf (.string (pa0.gTrait))), .t (.leaf (.string (pa0.gName))), .t (.leaf (.int .i64 (pa0.gN))), .t (.leaf (.int .i64 (pa0.gType.gKind))), .t (.leaf (.string (pa0.gType.gName))), .t (.row 3 (GType.trs (pa0.gType.gArgs))), .acc 9 (GExpr.trs (v4)) 0, .acc 11 (GArm.trs (v24)) 1]) (ds := [.t (.leaf (.int .i64 (pa0.gKind))), .t (.leaf (.string (pa0.gTrait))), .t (.leaf (.string (pa0.gName))), .t (.leaf (.int .i64 (pa0.gN))), .t (.leaf (.int .i64 (pa0.gType.gKind))), .t (.leaf (.string (pa0.gType.gName))), .t (.row 3 (GType.trs (pa0.gType.gArgs))), .acc 9 (GExpr.trs (v4)) 0, .acc 11 (GArm.trs (v24)) 1]) rfl rfl rfl rfl rfl rfl rfl sz103 (Nat.le_of_ble_eq_true rfl) rfl) ?_; refine AL.nil ?_; refine AWP.ret ?_
        have e46 : sl11Copy_G fu r_sl11Copy pa0 = some (GExpr.mk pa0.gKind pa0.gTrait pa0.gName pa0.gN pa0.gType v4 v24) := gdT hg1 (soR hR21 (soR hR45 (rfl)))
        have hz : (GExpr.mk pa0.gKind pa0.gTrait pa0.gName pa0.gN pa0.gType v4 v24) = r := Option.some.inj (e46.symm.trans H)
        subst hz
        exact Ends.mk (ps := [_]) (by first | exact .inr rfl | exact .inl rfl) ⟨⟨_, _, _, rfl, rfl, sh103, rfl, rfl⟩, trivial⟩ rfl (StLe.mk' (st' := ⟨[], []⟩) trivial rfl) (keeps_nil hC) (q := ((GExpr.pv (GExpr.mk pa0.gKind pa0.gTrait pa0.gName pa0.gN pa0.gType v4 v24)) : PV)) leA rfl ⟨rfl, rfl⟩
  · have e47 : sl11Copy_G fu r_sl11Copy pa0 = none := gdF hg1
    exact none_some H e47
noncomputable def sl11Copy_M : Nat → GExpr → Option GExpr
  | 0, _ => none
  | fu + 1, pa0 => sl11Copy_G fu (sl11Copy_M fu) pa0
theorem sl11Copy_all (fu : Nat) : (∀ (pa0 : GExpr) (r : GExpr), sl11Copy_M fu pa0 = some r → AFun Tryz.prog 173 [(GExpr.pv pa0)] ((GExpr.pv r) : PV)) := by
  induction fu with
  | zero => exact (fun pa0 r H => by simp only [sl11Copy_M] at H; cases H)
  | succ fu ih => exact (fun pa0 r H => by simp only [sl11Copy_M] at H; exact sl11Copy_step (sl11Copy_M fu) fu ih pa0 r H)
theorem sl11Copy_ok (fu : Nat) (pa0 : GExpr) (r : GExpr) (H : sl11Copy_M fu pa0 = some r) : AFun Tryz.prog 173 [(GExpr.pv pa0)] ((GExpr.pv r) : PV) := (sl11Copy_all fu) pa0 r H

noncomputable def sl17Fn_F1 (fu : Nat) (pf : GFunction) : Nat → ((List GParam)) → Option (LR ((List GParam)) GFunction) :=
 fun i1 v3 => gd (Tr.bulkL (GType.tr ((atD pf.gParams i1).gType)) ≤ 68719476735)
 (gd ((v3).length + (([(GParam.mk ((atD pf.gParams i1).gName) ((atD pf.gParams i1).gType))] : List GParam)).length ≤ 68719476736)
 (some (.next (v3 ++ ([(GParam.mk ((atD pf.gParams i1).gName) ((atD pf.gParams i1).gType))] : List GParam)))))
noncomputable def sl17Fn_R1 (fu : Nat) (pf : GFunction) : Option (GFunction ⊕ ((List GParam))) :=
 loopN (sl17Fn_F1 fu pf) (pf.gParams.length - 0) 0 ([])
noncomputable def sl17Fn_M (fu : Nat)  (pf : GFunction) : Option GFunction :=
 so (sl17Fn_R1 fu pf) (fun v3 =>
 gd (([] : List ByteArray).length + (pf.gVars).length ≤ 68719476736)
 (bd (sl13Bounds_M fu pf.gWhere) (fun x22 =>
 gd (Tr.bulkL (GType.tr pf.gResult) ≤ 68719476735)
 (bd (sl11Copy_M fu pf.gBody) (fun x26 =>
 some (GFunction.mk pf.gName (([]) ++ pf.gVars) x22 v3 pf.gResult x26))))))
set_option maxRecDepth 100000 in
set_option maxHeartbeats 4000000 in
theorem sl17Fn_ok  (fu : Nat)  (pf : GFunction) (r : GFunction) (H : sl17Fn_M fu pf = some r) : AFun Tryz.prog 126 [(GFunction.pv pf)] ((GFunction.pv r) : PV) := by
  refine ACalls.intro Tryz.func126 rfl (by first | decide | (simp; done) | (simp; decide)) ?_; intro C hC
  refine AWP.seq ?_; refine AWP.region_lit ?_; refine AL.cons rfl (AOp.box (cs := [.t (.leaf (.string (pf.gName))), .t (.row 1 (strTrs (pf.gVars))), .t (.row 4 (GBound.trs (pf.gWhere))), .t (.row 4 (GParam.trs (pf.gParams))), .t (.leaf (.int .i64 (pf.gResult.gKind))), .t (.leaf (.string (pf.gResult.gName))), .t (.row 3 (GType.trs (pf.gResult.gArgs))), .t (.leaf (.int .i64 (pf.gBody.gKind))), .t (.leaf (.string (pf.gBody.gTrait))), .t (.leaf (.string (pf.gBody.gName))), .t (.leaf (.int .i64 (pf.gBody.gN))), .t (.leaf (.int .i64 (pf.gBody.gType.gKind))), .t (.leaf (.string (pf.gBody.gType.gName))), .t (.row 3 (GType.trs (pf.gBody.gType.gArgs))), .t (.row 9 (GExpr.trs (pf.gBody.gArgs))), .t (.row 11 (GArm.trs (pf.gBody.gArms)))]) rfl rfl rfl rfl rfl) ?_; refine AL.cons rfl (AOp.alloc rfl rfl zr105) ?_; refine AL.nil ?_; refine AWP.seq ?_; refine AWP.region_lit ?_; refine AL.cons rfl (AOp.buildSliceA (es := []) (es' := GParam.trs ([])) (cs := []) rfl rfl el99 zr199 rfl rfl leA rfl (by simp [GParam.cs]) (by decide) rfl (by decide) (by simp [GParam.trs_map, GParam.tr_cs])) ?_; refine AL.cons rfl (AOp.move (.inr rfl) rfl rfl) ?_; refine AL.nil ?_; refine AWP.seq ?_; refine AWP.seq ?_; refine AWP.region_lit ?_; refine AL.cons rfl (AOp.move (.inr rfl) rfl rfl) ?_; refine AL.nil ?_; refine AWP.fact (lk_lenN 3 rfl rfl (GParam.trs_len _)) (fun hl4 => ?_)
  refine AWP.cut (ι := (List GParam)) (fun v3 => sl17Fn_R1 fu pf = some (.inr v3)) (fun v3 => ⟨[(1, .ptr 0 0), (2, .ptr 1 0), (3, .acc 4 (GParam.trs (v3)) 0)], ⟨[some ⟨105, [.t (.leaf (.string (pf.gName))), .t (.row 1 (strTrs (pf.gVars))), .t (.row 4 (GBound.trs (pf.gWhere))), .t (.row 4 (GParam.trs (pf.gParams))), .t (.leaf (.int .i64 (pf.gResult.gKind))), .t (.leaf (.string (pf.gResult.gName))), .t (.row 3 (GType.trs (pf.gResult.gArgs))), .t (.leaf (.int .i64 (pf.gBody.gKind))), .t (.leaf (.string (pf.gBody.gTrait))), .t (.leaf (.string (pf.gBody.gName))), .t (.leaf (.int .i64 (pf.gBody.gN))), .t (.leaf (.int .i64 (pf.gBody.gType.gKind))), .t (.leaf (.string (pf.gBody.gType.gName))), .t (.row 3 (GType.trs (pf.gBody.gType.gArgs))), .t (.row 9 (GExpr.trs (pf.gBody.gArgs))), .t (.row 11 (GArm.trs (pf.gBody.gArms)))]⟩, some ⟨105, [.t (.leaf (.string (⟨#[]⟩))), .nil, .nil, .nil, .t (.leaf (.int .i64 (0))), .t (.leaf (.string (⟨#[]⟩))), .nil, .t (.leaf (.int .i64 (0))), .t (.leaf (.string (⟨#[]⟩))), .t (.leaf (.string (⟨#[]⟩))), .t (.leaf (.int .i64 (0))), .t (.leaf (.int .i64 (0))), .t (.leaf (.string (⟨#[]⟩))), .nil, .nil, .nil]⟩], [⟨199, 4, GParam.trs (v3), false⟩]⟩⟩) (by repeat' (first | exact qcEnds | exact ncAWP | exact ncRound | exact ncEx | apply qcThen | apply qcBlock | apply qcCut)) ?_ ?_
  · refine AWP.block ?_; refine AWP.loopR (ι := Nat × ((List GParam))) (fun (i1, v3) => sl17Fn_R1 fu pf = loopN (sl17Fn_F1 fu pf) (pf.gParams.length - i1) i1 v3) (fun (i1, v3) => ⟨[(1, .ptr 0 0), (2, .ptr 1 0), (3, .acc 4 (GParam.trs (v3)) 0), (4, .t (.leaf (.int .i64 (((i1 : Nat) : Int)))))], ⟨[some ⟨105, [.t (.leaf (.string (pf.gName))), .t (.row 1 (strTrs (pf.gVars))), .t (.row 4 (GBound.trs (pf.gWhere))), .t (.row 4 (GParam.trs (pf.gParams))), .t (.leaf (.int .i64 (pf.gResult.gKind))), .t (.leaf (.string (pf.gResult.gName))), .t (.row 3 (GType.trs (pf.gResult.gArgs))), .t (.leaf (.int .i64 (pf.gBody.gKind))), .t (.leaf (.string (pf.gBody.gTrait))), .t (.leaf (.string (pf.gBody.gName))), .t (.leaf (.int .i64 (pf.gBody.gN))), .t (.leaf (.int .i64 (pf.gBody.gType.gKind))), .t (.leaf (.string (pf.gBody.gType.gName))), .t (.row 3 (GType.trs (pf.gBody.gType.gArgs))), .t (.row 9 (GExpr.trs (pf.gBody.gArgs))), .t (.row 11 (GArm.trs (pf.gBody.gArms)))]⟩, some ⟨105, [.t (.leaf (.string (⟨#[]⟩))), .nil, .nil, .nil, .t (.leaf (.int .i64 (0))), .t (.leaf (.string (⟨#[]⟩))), .nil, .t (.leaf (.int .i64 (0))), .t (.leaf (.string (⟨#[]⟩))), .t (.leaf (.string (⟨#[]⟩))), .t (.leaf (.int .i64 (0))), .t (.leaf (.int .i64 (0))), .t (.leaf (.string (⟨#[]⟩))), .nil, .nil, .nil]⟩], [⟨199, 4, GParam.trs (v3), false⟩]⟩⟩) (fun (i1, v3) => pf.gParams.length - i1) (0, ([])) ?_ ?_ ?_
    · exact rfl
    · exact Wk.mk (StLe.mk' ⟨⟨rfl, leA, rfl⟩, ⟨⟨rfl, leA, rfl⟩, trivial⟩⟩ (by first | rfl | simp)) (keeps_nil hC) ⟨⟨_, rfl, .refl _, rfl⟩, ⟨⟨_, rfl, .refl _, rfl⟩, ⟨⟨_, rfl, leA, rfl⟩, ⟨⟨_, rfl, leA, rfl⟩, trivial⟩⟩⟩⟩
    · rintro ⟨i1, v3⟩ hJ5
      refine AWP.seq ?_; refine AWP.seq ?_; refine AWP.region_lit ?_; refine AL.cons rfl (AOp.move (.inl rfl) rfl rfl) ?_; refine AL.cons rfl (AOp.fieldPtr (k := 0) (d := 0) (e := 3) rfl rfl rfl fo105_3) ?_; refine AL.cons rfl (AOp.loadPtr1 rfl rfl rfl rfl sh99 rfl) ?_; refine AL.fact (lk_lenN 8 rfl rfl (GParam.trs_len _)) (fun hl6 => ?_)
      refine AL.cons rfl (AOp.lenN rfl rfl rfl rfl el99 (GParam.trs_len _)) ?_; refine AL.cons rfl (AOp.lss rfl rfl rfl rfl) ?_; refine AL.nil ?_; refine AWP.cond rfl (fun h7 => ?_) (fun h7 => ?_)
      · have h7l : i1 < pf.gParams.length := nat_lt_of2 h7
        have h7n := nat_lt_of h7
        refine AWP.skip ?_; refine AWP.seq ?_; refine AWP.block ?_
        rcases Classical.em (Tr.bulkL (GType.tr ((atD pf.gParams i1).gType)) ≤ 68719476735) with hg8 | hg8
        · rcases Classical.em ((v3).length + (([(GParam.mk ((atD pf.gParams i1).gName) ((atD pf.gParams i1).gType))] : List GParam)).length ≤ 68719476736) with hg9 | hg9
          · refine AWP.drawnL ⟨_, _, fun j' _ => ([(⟨[some ⟨105, [.t (.leaf (.string (pf.gName))), .t (.row 1 (strTrs (pf.gVars))), .t (.row 4 (GBound.trs (pf.gWhere))), .t (.row 4 (GParam.trs (pf.gParams))), .t (.leaf (.int .i64 (pf.gResult.gKind))), .t (.leaf (.string (pf.gResult.gName))), .t (.row 3 (GType.trs (pf.gResult.gArgs))), .t (.leaf (.int .i64 (pf.gBody.gKind))), .t (.leaf (.string (pf.gBody.gTrait))), .t (.leaf (.string (pf.gBody.gName))), .t (.leaf (.int .i64 (pf.gBody.gN))), .t (.leaf (.int .i64 (pf.gBody.gType.gKind))), .t (.leaf (.string (pf.gBody.gType.gName))), .t (.row 3 (GType.trs (pf.gBody.gType.gArgs))), .t (.row 9 (GExpr.trs (pf.gBody.gArgs))), .t (.row 11 (GArm.trs (pf.gBody.gArms)))]⟩, some ⟨105, [.t (.leaf (.string (⟨#[]⟩))), .nil, .nil, .nil, .t (.leaf (.int .i64 (0))), .t (.leaf (.string (⟨#[]⟩))), .nil, .t (.leaf (.int .i64 (0))), .t (.leaf (.string (⟨#[]⟩))), .t (.leaf (.string (⟨#[]⟩))), .t (.leaf (.int .i64 (0))), .t (.leaf (.int .i64 (0))), .t (.leaf (.string (⟨#[]⟩))), .nil, .nil, .nil]⟩], [⟨199, 4, GParam.trs (v3), false⟩]⟩ : Sto), (⟨[some ⟨105, [.t (.leaf (.string (pf.gName))), .t (.row 1 (strTrs (pf.gVars))), .t (.row 4 (GBound.trs (pf.gWhere))), .t (.row 4 (GParam.trs (pf.gParams))), .t (.leaf (.int .i64 (pf.gResult.gKind))), .t (.leaf (.string (pf.gResult.gName))), .t (.row 3 (GType.trs (pf.gResult.gArgs))), .t (.leaf (.int .i64 (pf.gBody.gKind))), .t (.leaf (.string (pf.gBody.gTrait))), .t (.leaf (.string (pf.gBody.gName))), .t (.leaf (.int .i64 (pf.gBody.gN))), .t (.leaf (.int .i64 (pf.gBody.gType.gKind))), .t (.leaf (.string (pf.gBody.gType.gName))), .t (.row 3 (GType.trs (pf.gBody.gType.gArgs))), .t (.row 9 (GExpr.trs (pf.gBody.gArgs))), .t (.row 11 (GArm.trs (pf.gBody.gArms)))]⟩, some ⟨105, [.t (.leaf (.string (⟨#[]⟩))), .nil, .nil, .nil, .t (.leaf (.int .i64 (0))), .t (.leaf (.string (⟨#[]⟩))), .nil, .t (.leaf (.int .i64 (0))), .t (.leaf (.string (⟨#[]⟩))), .t (.leaf (.string (⟨#[]⟩))), .t (.leaf (.int .i64 (0))), .t (.leaf (.int .i64 (0))), .t (.leaf (.string (⟨#[]⟩))), .nil, .nil, .nil]⟩], [⟨199, 4, GParam.trs (v3 ++ ([(GParam.mk ((atD pf.gParams i1).gName) ((atD pf.gParams i1).gType))] : List GParam)), false⟩]⟩ : Sto)] : List Sto).getD j' (⟨[some ⟨105, [.t (.leaf (.string (pf.gName))), .t (.row 1 (strTrs (pf.gVars))), .t (.row 4 (GBound.trs (pf.gWhere))), .t (.row 4 (GParam.trs (pf.gParams))), .t (.leaf (.int .i64 (pf.gResult.gKind))), .t (.leaf (.string (pf.gResult.gName))), .t (.row 3 (GType.trs (pf.gResult.gArgs))), .t (.leaf (.int .i64 (pf.gBody.gKind))), .t (.leaf (.string (pf.gBody.gTrait))), .t (.leaf (.string (pf.gBody.gName))), .t (.leaf (.int .i64 (pf.gBody.gN))), .t (.leaf (.int .i64 (pf.gBody.gType.gKind))), .t (.leaf (.string (pf.gBody.gType.gName))), .t (.row 3 (GType.trs (pf.gBody.gType.gArgs))), .t (.row 9 (GExpr.trs (pf.gBody.gArgs))), .t (.row 11 (GArm.trs (pf.gBody.gArms)))]⟩, some ⟨105, [.t (.leaf (.string (⟨#[]⟩))), .nil, .nil, .nil, .t (.leaf (.int .i64 (0))), .t (.leaf (.string (⟨#[]⟩))), .nil, .t (.leaf (.int .i64 (0))), .t (.leaf (.string (⟨#[]⟩))), .t (.leaf (.string (⟨#[]⟩))), .t (.leaf (.int .i64 (0))), .t (.leaf (.int .i64 (0))), .t (.leaf (.string (⟨#[]⟩))), .nil, .nil, .nil]⟩], [⟨199, 4, GParam.trs (v3 ++ ([(GParam.mk ((atD pf.gParams i1).gName) ((atD pf.gParams i1).gType))] : List GParam)), false⟩]⟩ : Sto), fun q' => ([some (.acc 4 (GParam.trs (v3)) 0), some (.ptr 0 3), some (.t (.row 4 (GParam.trs (pf.gParams)))), some (.t (.leaf (.int .i64 (((i1 : Nat) : Int))))), some (.eptr (GParam.cs (atD pf.gParams i1))), some (.eptr (GParam.cs (atD pf.gParams i1))), some (.t (.leaf (.string ((atD pf.gParams i1).gName)))), some (.ptr 0 3), some (.t (.row 4 (GParam.trs (pf.gParams)))), some (.t (.leaf (.int .i64 (((i1 : Nat) : Int))))), some (.eptr (GParam.cs (atD pf.gParams i1))), some (.eptr ((GParam.cs (atD pf.gParams i1)).drop 1)), some ((GType.pv ((atD pf.gParams i1).gType))), some ((GType.pv ((atD pf.gParams i1).gType))), some (.agg [.t (.leaf (.string ((atD pf.gParams i1).gName))), .t (.leaf (.int .i64 (((atD pf.gParams i1).gType).gKind))), .t (.leaf (.string (((atD pf.gParams i1).gType).gName))), .t (.row 3 (GType.trs (((atD pf.gParams i1).gType).gArgs)))]), some (.t (.row 4 (GParam.trs (([(GParam.mk ((atD pf.gParams i1).gName) ((atD pf.gParams i1).gType))] : List GParam))))), some (.acc 4 (GParam.trs (v3 ++ ([(GParam.mk ((atD pf.gParams i1).gName) ((atD pf.gParams i1).gType))] : List GParam))) 0), some (.acc 4 (GParam.trs (v3 ++ ([(GParam.mk ((atD pf.gParams i1).gName) ((atD pf.gParams i1).gType))] : List GParam))) 0)] : List (Option PV)).getD q' none, fun q' => ([.q 0 0, .q 0 0, .q 0 0, .q 0 0, .q 0 0, .q 0 0, .q 0 0, .q 0 0, .q 0 0, .q 0 0, .q 0 0, .q 0 0, .q 0 0, .q 0 0, .q 0 0, .q 0 0, .ef 0, .q 1 1] : List DK).getD q' (.q 0 0), [16], none, fun q' => ([[(3, none)], [(1, none)], [(14, some 1)], [(4, none)], [(15, some 2), (16, some 3)], [(17, some 4)], [(18, some 5)], [(1, none)], [(20, some 7)], [(4, none)], [(21, some 8), (22, some 9)], [(23, some 10)], [(24, some 11)], [(25, some 12)], [(26, some 13), (19, some 6)], [(27, some 14)], [(13, some 0), (28, some 15)], [(29, some 16)]] : List (List (Nat × Option Nat))).getD q' []⟩ rfl mixed (by kernel_rfl) rfl rfl ⟨?_, ?_, ?_, ?_, ?_, ?_, ?_, ?_, ?_, ?_, ?_, ?_, ?_, ?_, ?_, ?_, ?_, ?_, trivial⟩ rfl ?_
            · exact Draw.step.q1 0 rfl rfl fun s' bb hs hl => ⟨_, rfl, AOp.move (.inl rfl) rfl (hl 3 none _ (.head _) rfl)⟩
            · exact Draw.step.q1 0 rfl rfl fun s' bb hs hl => ⟨_, rfl, AOp.fieldPtr (k := 0) (d := 0) (e := 3) rfl rfl (hl 1 none _ (.head _) rfl) fo105_3⟩
            · exact Draw.step.q1 0 rfl rfl fun s' bb hs hl => ⟨_, rfl, AOp.loadPtr1 rfl rfl (hl 14 (some 1) _ (.head _) rfl) (by rw [hs]; rfl) sh99 rfl⟩
            · exact Draw.step.q1 0 rfl rfl fun s' bb hs hl => ⟨_, rfl, AOp.move (.inl rfl) rfl (hl 4 none _ (.head _) rfl)⟩
            · exact Draw.step.q1 0 rfl rfl fun s' bb hs hl => ⟨_, rfl, AOp.index (k := i1) rfl rfl (hl 15 (some 2) _ (.head _) rfl) rfl (hl 16 (some 3) _ (.tail _ (.head _)) rfl) (GParam.trs_at h7n) el99⟩
            · exact Draw.step.q1 0 rfl rfl fun s' bb hs hl => ⟨_, rfl, AOp.fieldEptr (cs := (GParam.cs (atD pf.gParams i1))) (e := 0) rfl rfl (hl 17 (some 4) _ (.head _) rfl) fo199_0⟩
            · exact Draw.step.q1 0 rfl rfl fun s' bb hs hl => ⟨_, rfl, AOp.loadEptr1 (d := .leaf (.string ((atD pf.gParams i1).gName))) rfl rfl (hl 18 (some 5) _ (.head _) rfl) sh9 rfl⟩
            · exact Draw.step.q1 0 rfl rfl fun s' bb hs hl => ⟨_, rfl, AOp.fieldPtr (k := 0) (d := 0) (e := 3) rfl rfl (hl 1 none _ (.head _) rfl) fo105_3⟩
            · exact Draw.step.q1 0 rfl rfl fun s' bb hs hl => ⟨_, rfl, AOp.loadPtr1 rfl rfl (hl 20 (some 7) _ (.head _) rfl) (by rw [hs]; rfl) sh99 rfl⟩
            · exact Draw.step.q1 0 rfl rfl fun s' bb hs hl => ⟨_, rfl, AOp.move (.inl rfl) rfl (hl 4 none _ (.head _) rfl)⟩
            · exact Draw.step.q1 0 rfl rfl fun s' bb hs hl => ⟨_, rfl, AOp.index (k := i1) rfl rfl (hl 21 (some 8) _ (.head _) rfl) rfl (hl 22 (some 9) _ (.tail _ (.head _)) rfl) (GParam.trs_at h7n) el99⟩
            · exact Draw.step.q1 0 rfl rfl fun s' bb hs hl => ⟨_, rfl, AOp.fieldEptr (cs := (GParam.cs (atD pf.gParams i1))) (e := 1) rfl rfl (hl 23 (some 10) _ (.head _) rfl) fo199_1⟩
            · exact Draw.step.q1 0 rfl rfl fun s' bb hs hl => ⟨_, rfl, AOp.loadEptr (ds := [.leaf (.int .i64 (((atD pf.gParams i1).gType).gKind)), .leaf (.string (((atD pf.gParams i1).gType).gName)), .row 3 (GType.trs (((atD pf.gParams i1).gType).gArgs))]) rfl rfl (hl 24 (some 11) _ (.head _) rfl) sh47 rfl rfl⟩
            · exact Draw.step.q1 0 rfl rfl fun s' bb hs hl => ⟨_, rfl, AOp.callF (res := (GType.pv ((atD pf.gParams i1).gType))) (ps := [_]) rfl rfl Tryz.func110 (by kernel_rfl) rfl (evs_cons (hl 25 (some 12) _ (.head _) rfl) rfl) leA rfl rfl (sl4Copy_fn ((atD pf.gParams i1).gType) hg8)⟩
            · exact Draw.step.q1 0 rfl rfl fun s' bb hs hl => ⟨_, rfl, AOp.build rfl rfl zr199 pl199 (parts_cons (hl 19 (some 6) _ (.tail _ (.head _)) rfl) rfl rfl (parts_cons (hl 26 (some 13) _ (.head _) rfl) rfl rfl rfl)) rfl⟩
            · exact Draw.step.q1 0 rfl rfl fun s' bb hs hl => ⟨_, rfl, AOp.buildSliceE (es := [GParam.cs (GParam.mk ((atD pf.gParams i1).gName) ((atD pf.gParams i1).gType))]) (es' := GParam.trs (([(GParam.mk ((atD pf.gParams i1).gName) ((atD pf.gParams i1).gType))] : List GParam))) (cs := [.t (.leaf (.string ((atD pf.gParams i1).gName))), .t (.leaf (.int .i64 (((atD pf.gParams i1).gType).gKind))), .t (.leaf (.string (((atD pf.gParams i1).gType).gName))), .t (.row 3 (GType.trs (((atD pf.gParams i1).gType).gArgs)))]) rfl rfl el99 zr199 (parts_cons (hl 27 (some 14) _ (.head _) rfl) rfl rfl rfl) rfl leA rfl (by simp [GParam.cs]) (by decide) rfl (by decide) (by simp [GParam.trs_map, GParam.tr_cs])⟩
            · refine .inl ⟨rfl, fun s' bb hs hl => ?_⟩
              refine .inl ⟨_, rfl, AOp.congr (AOp.appendE (es3 := GParam.trs (v3 ++ ([(GParam.mk ((atD pf.gParams i1).gName) ((atD pf.gParams i1).gType))] : List GParam))) rfl rfl (hl 13 (some 0) _ (.head _) rfl) (by rw [hs]; rfl) rfl rfl rfl (hl 28 (some 15) _ (.tail _ (.head _)) rfl) rfl (fun e he => by rw [GParam.trs_map] at he; obtain ⟨x, _, rfl⟩ := List.mem_map.1 he; rw [GParam.tr_cs]; rfl) el99 ze99 (by decide) (by rw [GParam.trs_len, GParam.trs_len]; exact room_le hg9 (by decide)) (by rw [GParam.trs_map, GParam.trs_map, GParam.trs_map, List.map_append])) ?_⟩
              first | (rw [hs]; rfl) | rfl
            · exact Draw.step.q1 1 rfl rfl fun s' bb hs hl => ⟨_, rfl, AOp.move (.inr rfl) rfl (hl 29 (some 16) _ (.head _) rfl)⟩
            refine AWP.region_lit ?_; refine AL.cons rfl (AOp.move (.inl rfl) rfl rfl) ?_; refine AL.cons rfl (AOp.addI rfl rfl rfl rfl (c := ((i1 + 1 : Nat) : Int)) (by omega) (by omega)) ?_; refine AL.cons rfl (AOp.move (.inr rfl) rfl rfl) ?_; refine AL.nil ?_
            have e10 : (sl17Fn_F1 fu pf) i1 v3 = some (.next (v3 ++ ([(GParam.mk ((atD pf.gParams i1).gName) ((atD pf.gParams i1).gType))] : List GParam))) := gdT hg8 (gdT hg9 (rfl))
            refine ⟨(i1 + 1, (v3 ++ ([(GParam.mk ((atD pf.gParams i1).gName) ((atD pf.gParams i1).gType))] : List GParam))), loopN_next h7l hJ5 e10, ?_, ?_⟩
            · exact Wk.mk (StLe.mk' ⟨⟨rfl, leA, rfl⟩, ⟨⟨rfl, leA, rfl⟩, trivial⟩⟩ (by first | rfl | simp)) (keeps_nil hC) ⟨⟨_, rfl, .refl _, rfl⟩, ⟨⟨_, rfl, .refl _, rfl⟩, ⟨⟨_, rfl, leA, rfl⟩, ⟨⟨_, rfl, leA, rfl⟩, trivial⟩⟩⟩⟩
            · dsimp only; omega
          · have e11 : (sl17Fn_F1 fu pf) i1 v3 = none := gdT hg8 (gdF hg9)
            have e12 : sl17Fn_R1 fu pf = none := loopN_non h7l hJ5 e11
            have e13 : sl17Fn_M fu pf = none := soN e12
            exact none_some H e13
        · have e14 : (sl17Fn_F1 fu pf) i1 v3 = none := gdF hg8
          have e15 : sl17Fn_R1 fu pf = none := loopN_non h7l hJ5 e14
          have e16 : sl17Fn_M fu pf = none := soN e15
          exact none_some H e16
      · have h7l : pf.gParams.length ≤ i1 := nat_ge_of2 h7
        refine AWP.exit ?_; refine ⟨v3, loopN_end h7l hJ5, ?_⟩
        exact Wk.mk (StLe.mk' ⟨⟨rfl, leA, rfl⟩, ⟨⟨rfl, leA, rfl⟩, trivial⟩⟩ (by first | rfl | simp)) (keeps_nil hC) ⟨⟨_, rfl, .refl _, rfl⟩, ⟨⟨_, rfl, .refl _, rfl⟩, ⟨⟨_, rfl, .refl _, rfl⟩, trivial⟩⟩⟩
  · rintro v3 hR17
    refine AWP.seq ?_; refine AWP.region_lit ?_; refine AL.cons rfl (AOp.move (.inl rfl) rfl rfl) ?_; refine AL.cons rfl (AOp.fieldPtr (k := 0) (d := 0) (e := 3) rfl rfl rfl fo105_3) ?_; refine AL.cons rfl (AOp.storePtr (cs := [.acc 4 (GParam.trs (v3)) 0]) (ds := [.t (.leaf (.string (pf.gName))), .t (.row 1 (strTrs (pf.gVars))), .t (.row 4 (GBound.trs (pf.gWhere))), .acc 4 (GParam.trs (v3)) 0, .t (.leaf (.int .i64 (pf.gResult.gKind))), .t (.leaf (.string (pf.gResult.gName))), .t (.row 3 (GType.trs (pf.gResult.gArgs))), .t (.leaf (.int .i64 (pf.gBody.gKind))), .t (.leaf (.string (pf.gBody.gTrait))), .t (.leaf (.string (pf.gBody.gName))), .t (.leaf (.int .i64 (pf.gBody.gN))), .t (.leaf (.int .i64 (pf.gBody.gType.gKind))), .t (.leaf (.string (pf.gBody.gType.gName))), .t (.row 3 (GType.trs (pf.gBody.gType.gArgs))), .t (.row 9 (GExpr.trs (pf.gBody.gArgs))), .t (.row 11 (GArm.trs (pf.gBody.gArms)))]) rfl rfl rfl rfl rfl rfl rfl sz99 (Nat.le_of_ble_eq_true rfl) rfl) ?_; refine AL.nil ?_; refine AWP.seq ?_; refine AWP.region_lit ?_; refine AL.cons rfl (AOp.buildSliceA (es := []) (es' := strTrs ([])) (cs := []) rfl rfl el54 zr9 rfl rfl leA rfl (by simp) (by decide) rfl (by decide) rfl) ?_; refine AL.cons rfl (AOp.fieldPtr (k := 0) (d := 0) (e := 1) rfl rfl rfl fo105_1) ?_; refine AL.cons rfl (AOp.loadPtr1 rfl rfl rfl rfl sh54 rfl) ?_; refine AL.fact (lk_lenN 34 rfl rfl (strTrs_len _)) (fun hl18 => ?_)
    rcases Classical.em (([] : List ByteArray).length + (pf.gVars).length ≤ 68719476736) with hg19 | hg19
    · refine AL.cons rfl (AOp.appendE (es3 := strTrs (([]) ++ pf.gVars)) rfl rfl rfl rfl rfl rfl rfl rfl rfl (strTrs_all _) el54 ze54 (by decide) (by rw [strTrs_len, strTrs_len]; exact room_le hg19 (by decide)) (strTrs_append _ _)) ?_; refine AL.cons rfl (AOp.fieldPtr (k := 0) (d := 0) (e := 1) rfl rfl rfl fo105_1) ?_; refine AL.cons rfl (AOp.storePtr (cs := [.acc 1 (strTrs (([]) ++ pf.gVars)) 1]) (ds := [.t (.leaf (.string (pf.gName))), .acc 1 (strTrs (([]) ++ pf.gVars)) 1, .t (.row 4 (GBound.trs (pf.gWhere))), .acc 4 (GParam.trs (v3)) 0, .t (.leaf (.int .i64 (pf.gResult.gKind))), .t (.leaf (.string (pf.gResult.gName))), .t (.row 3 (GType.trs (pf.gResult.gArgs))), .t (.leaf (.int .i64 (pf.gBody.gKind))), .t (.leaf (.string (pf.gBody.gTrait))), .t (.leaf (.string (pf.gBody.gName))), .t (.leaf (.int .i64 (pf.gBody.gN))), .t (.leaf (.int .i64 (pf.gBody.gType.gKind))), .t (.leaf (.string (pf.gBody.gType.gName))), .t (.row 3 (GType.trs (pf.gBody.gType.gArgs))), .t (.row 9 (GExpr.trs (pf.gBody.gArgs))), .t (.row 11 (GArm.trs (pf.gBody.gArms)))]) rfl rfl rfl rfl rfl rfl rfl sz54 (Nat.le_of_ble_eq_true rfl) rfl) ?_; refine AL.nil ?_; refine AWP.seq ?_; refine AWP.region_lit ?_; refine AL.cons rfl (AOp.fieldPtr (k := 0) (d := 0) (e := 2) rfl rfl rfl fo105_2) ?_; refine AL.cons rfl (AOp.loadPtr1 rfl rfl rfl rfl sh82 rfl) ?_; refine AL.fact (lk_lenN 38 rfl rfl (GBound.trs_len _)) (fun hl20 => ?_)
      rcases hq21 : sl13Bounds_M fu pf.gWhere with _ | x22
      · have e23 : sl17Fn_M fu pf = none := soR hR17 (gdT hg19 (bdN hq21))
        exact none_some H e23
      · refine AL.cons rfl (AOp.callF (res := .t (.row 4 (GBound.trs (x22)))) (ps := [_]) rfl rfl Tryz.func172 (by kernel_rfl) rfl rfl leA rfl rfl (sl13Bounds_ok fu pf.gWhere _ hq21)) ?_; refine AL.cons rfl (AOp.fieldPtr (k := 0) (d := 0) (e := 2) rfl rfl rfl fo105_2) ?_; refine AL.cons rfl (AOp.storePtr (cs := [.t (.row 4 (GBound.trs (x22)))]) (ds := [.t (.leaf (.string (pf.gName))), .acc 1 (strTrs (([]) ++ pf.gVars)) 1, .t (.row 4 (GBound.trs (x22))), .acc 4 (GParam.trs (v3)) 0, .t (.leaf (.int .i64 (pf.gResult.gKind))), .t (.leaf (.string (pf.gResult.gName))), .t (.row 3 (GType.trs (pf.gResult.gArgs))), .t (.leaf (.int .i64 (pf.gBody.gKind))), .t (.leaf (.string (pf.gBody.gTrait))), .t (.leaf (.string (pf.gBody.gName))), .t (.leaf (.int .i64 (pf.gBody.gN))), .t (.leaf (.int .i64 (pf.gBody.gType.gKind))), .t (.leaf (.string (pf.gBody.gType.gName))), .t (.row 3 (GType.trs (pf.gBody.gType.gArgs))), .t (.row 9 (GExpr.trs (pf.gBody.gArgs))), .t (.row 11 (GArm.trs (pf.gBody.gArms)))]) rfl rfl rfl rfl rfl rfl rfl sz82 (Nat.le_of_ble_eq_true rfl) rfl) ?_; refine AL.nil ?_; refine AWP.seq ?_; refine AWP.region_lit ?_; refine AL.cons rfl (AOp.fieldPtr (k := 0) (d := 0) (e := 4) rfl rfl rfl fo105_4) ?_; refine AL.cons rfl (AOp.loadPtr (cs := [.t (.leaf (.int .i64 (pf.gResult.gKind))), .t (.leaf (.string (pf.gResult.gName))), .t (.row 3 (GType.trs (pf.gResult.gArgs)))]) rfl rfl rfl rfl sh47 rfl rfl) ?_
        rcases Classical.em (Tr.bulkL (GType.tr pf.gResult) ≤ 68719476735) with hg24 | hg24
        · refine AL.cons rfl (AOp.callF (res := (GType.pv pf.gResult)) (ps := [_]) rfl rfl Tryz.func110 (by kernel_rfl) rfl rfl leA rfl rfl (sl4Copy_fn pf.gResult hg24)) ?_; refine AL.cons rfl (AOp.fieldPtr (k := 0) (d := 0) (e := 4) rfl rfl rfl fo105_4) ?_; refine AL.cons rfl (AOp.storePtr (cs := [.t (.leaf (.int .i64 (pf.gResult.gKind))), .t (.leaf (.string (pf.gResult.gName))), .t (.row 3 (GType.trs (pf.gResult.gArgs)))]) (ds := [.t (.leaf (.string (pf.gName))), .acc 1 (strTrs (([]) ++ pf.gVars)) 1, .t (.row 4 (GBound.trs (x22))), .acc 4 (GParam.trs (v3)) 0, .t (.leaf (.int .i64 (pf.gResult.gKind))), .t (.leaf (.string (pf.gResult.gName))), .t (.row 3 (GType.trs (pf.gResult.gArgs))), .t (.leaf (.int .i64 (pf.gBody.gKind))), .t (.leaf (.string (pf.gBody.gTrait))), .t (.leaf (.string (pf.gBody.gName))), .t (.leaf (.int .i64 (pf.gBody.gN))), .t (.leaf (.int .i64 (pf.gBody.gType.gKind))), .t (.leaf (.string (pf.gBody.gType.gName))), .t (.row 3 (GType.trs (pf.gBody.gType.gArgs))), .t (.row 9 (GExpr.trs (pf.gBody.gArgs))), .t (.row 11 (GArm.trs (pf.gBody.gArms)))]) rfl rfl rfl rfl rfl rfl rfl sz47 (Nat.le_of_ble_eq_true rfl) rfl) ?_; refine AL.nil ?_; refine AWP.seq ?_; refine AWP.region_lit ?_; refine AL.cons rfl (AOp.fieldPtr (k := 0) (d := 0) (e := 7) rfl rfl rfl fo105_5) ?_; refine AL.cons rfl (AOp.loadPtr (cs := [.t (.leaf (.int .i64 (pf.gBody.gKind))), .t (.leaf (.string (pf.gBody.gTrait))), .t (.leaf (.string (pf.gBody.gName))), .t (.leaf (.int .i64 (pf.gBody.gN))), .t (.leaf (.int .i64 (pf.gBody.gType.gKind))), .t (.leaf (.string (pf.gBody.gType.gName))), .t (.row 3 (GType.trs (pf.gBody.gType.gArgs))), .t (.row 9 (GExpr.trs (pf.gBody.gArgs))), .t (.row 11 (GArm.trs (pf.gBody.gArms)))]) rfl rfl rfl rfl sh103 rfl rfl) ?_
          rcases hq25 : sl11Copy_M fu pf.gBody with _ | x26
          · have e27 : sl17Fn_M fu pf = none := soR hR17 (gdT hg19 (bdS hq21 (gdT hg24 (bdN hq25))))
            exact none_some H e27
          · refine AL.cons rfl (AOp.callF (res := (GExpr.pv x26)) (ps := [_]) rfl rfl Tryz.func173 (by kernel_rfl) rfl rfl leA rfl rfl (sl11Copy_ok fu pf.gBody _ hq25)) ?_; refine AL.cons rfl (AOp.fieldPtr (k := 0) (d := 0) (e := 7) rfl rfl rfl fo105_5) ?_; refine AL.cons rfl (AOp.storePtr (cs := [.t (.leaf (.int .i64 (x26.gKind))), .t (.leaf (.string (x26.gTrait))), .t (.leaf (.string (x26.gName))), .t (.leaf (.int .i64 (x26.gN))), .t (.leaf (.int .i64 (x26.gType.gKind))), .t (.leaf (.string (x26.gType.gName))), .t (.row 3 (GType.trs (x26.gType.gArgs))), .t (.row 9 (GExpr.trs (x26.gArgs))), .t (.row 11 (GArm.trs (x26.gArms)))]) (ds := [.t (.leaf (.string (pf.gName))), .acc 1 (strTrs (([]) ++ pf.gVars)) 1, .t (.row 4 (GBound.trs (x22))), .acc 4 (GParam.trs (v3)) 0, .t (.leaf (.int .i64 (pf.gResult.gKind))), .t (.leaf (.string (pf.gResult.gName))), .t (.row 3 (GType.trs (pf.gResult.gArgs))), .t (.leaf (.int .i64 (x26.gKind))), .t (.leaf (.string (x26.gTrait))), .t (.leaf (.string (x26.gName))), .t (.leaf (.int .i64 (x26.gN))), .t (.leaf (.int .i64 (x26.gType.gKind))), .t (.leaf (.string (x26.gType.gName))), .t (.row 3 (GType.trs (x26.gType.gArgs))), .t (.row 9 (GExpr.trs (x26.gArgs))), .t (.row 11 (GArm.trs (x26.gArms)))]) rfl rfl rfl rfl rfl rfl rfl sz103 (Nat.le_of_ble_eq_true rfl) rfl) ?_; refine AL.nil ?_; refine AWP.seq ?_; refine AWP.region_lit ?_; refine AL.cons rfl (AOp.loadPtr (cs := [.t (.leaf (.string (pf.gName))), .acc 1 (strTrs (([]) ++ pf.gVars)) 1, .t (.row 4 (GBound.trs (x22))), .acc 4 (GParam.trs (v3)) 0, .t (.leaf (.int .i64 (pf.gResult.gKind))), .t (.leaf (.string (pf.gResult.gName))), .t (.row 3 (GType.trs (pf.gResult.gArgs))), .t (.leaf (.int .i64 (x26.gKind))), .t (.leaf (.string (x26.gTrait))), .t (.leaf (.string (x26.gName))), .t (.leaf (.int .i64 (x26.gN))), .t (.leaf (.int .i64 (x26.gType.gKind))), .t (.leaf (.string (x26.gType.gName))), .t (.row 3 (GType.trs (x26.gType.gArgs))), .t (.row 9 (GExpr.trs (x26.gArgs))), .t (.row 11 (GArm.trs (x26.gArms)))]) rfl rfl rfl rfl sh105 rfl rfl) ?_; refine AL.cons rfl (AOp.storePtr (cs := [.t (.leaf (.string (pf.gName))), .acc 1 (strTrs (([]) ++ pf.gVars)) 1, .t (.row 4 (GBound.trs (x22))), .acc 4 (GParam.trs (v3)) 0, .t (.leaf (.int .i64 (pf.gResult.gKind))), .t (.leaf (.string (pf.gResult.gName))), .t (.row 3 (GType.trs (pf.gResult.gArgs))), .t (.leaf (.int .i64 (x26.gKind))), .t (.leaf (.string (x26.gTrait))), .t (.leaf (.string (x26.gName))), .t (.leaf (.int .i64 (x26.gN))), .t (.leaf (.int .i64 (x26.gType.gKind))), .t (.leaf (.string (x26.gType.gName))), .t (.row 3 (GType.trs (x26.gType.gArgs))), .t (.row 9 (GExpr.trs (x26.gArgs))), .t (.row 11 (GArm.trs (x26.gArms)))]) (ds := [.t (.leaf (.string (pf.gName))), .acc 1 (strTrs (([]) ++ pf.gVars)) 1, .t (.row 4 (GBound.trs (x22))), .acc 4 (GParam.trs (v3)) 0, .t (.leaf (.int .i64 (pf.gResult.gKind))), .t (.leaf (.string (pf.gResult.gName))), .t (.row 3 (GType.trs (pf.gResult.gArgs))), .t (.leaf (.int .i64 (x26.gKind))), .t (.leaf (.string (x26.gTrait))), .t (.leaf (.string (x26.gName))), .t (.leaf (.int .i64 (x26.gN))), .t (.leaf (.int .i64 (x26.gType.gKind))), .t (.leaf (.string (x26.gType.gName))), .t (.row 3 (GType.trs (x26.gType.gArgs))), .t (.row 9 (GExpr.trs (x26.gArgs))), .t (.row 11 (GArm.trs (x26.gArms)))]) rfl rfl rfl rfl rfl rfl rfl sz105 (Nat.le_of_ble_eq_true rfl) rfl) ?_; refine AL.nil ?_; refine AWP.ret ?_
            have e28 : sl17Fn_M fu pf = some (GFunction.mk pf.gName (([]) ++ pf.gVars) x22 v3 pf.gResult x26) := soR hR17 (gdT hg19 (bdS hq21 (gdT hg24 (bdS hq25 (rfl)))))
            have hz : (GFunction.mk pf.gName (([]) ++ pf.gVars) x22 v3 pf.gResult x26) = r := Option.some.inj (e28.symm.trans H)
            subst hz
            exact Ends.mk (ps := [_]) (by first | exact .inr rfl | exact .inl rfl) ⟨⟨_, _, _, rfl, rfl, sh105, rfl, rfl⟩, trivial⟩ rfl (StLe.mk' (st' := ⟨[], []⟩) trivial rfl) (keeps_nil hC) (q := ((GFunction.pv (GFunction.mk pf.gName (([]) ++ pf.gVars) x22 v3 pf.gResult x26)) : PV)) leA rfl ⟨rfl, rfl⟩
        · have e29 : sl17Fn_M fu pf = none := soR hR17 (gdT hg19 (bdS hq21 (gdF hg24)))
          exact none_some H e29
    · have e30 : sl17Fn_M fu pf = none := soR hR17 (gdF hg19)
      exact none_some H e30

noncomputable def sFindFunction_M (fu : Nat)  (pw : GProgram) (pname : ByteArray) : Option (GFunction × Int × Bool) :=
 bd (sl17Fn_M fu (oFunction (GProgram.functionAt pw pname))) (fun x2 =>
 some (x2, (oInt (GProgram.functionAt pw pname)), (Option.isSome (GProgram.functionAt pw pname))))
set_option maxRecDepth 100000 in
set_option maxHeartbeats 4000000 in
theorem sFindFunction_ok  (fu : Nat)  (pw : GProgram) (pname : ByteArray) (r : GFunction × Int × Bool) (H : sFindFunction_M fu pw pname = some r) : AFun Tryz.prog 71 [(GProgram.pv pw), .t (.leaf (.string (pname)))] (.tup [(GFunction.pv r.1), .t (.leaf (.int .i64 (r.2.1))), .t (.leaf (.bool (r.2.2)))] : PV) := by
  refine ACalls.intro Tryz.func71 rfl (by first | decide | (simp; done) | (simp; decide)) ?_; intro C hC
  refine AWP.seq ?_; refine AWP.region_lit ?_; refine AL.cons rfl (AOp.box (cs := [.t (.row 6 (GPackage.trs (pw.gPackages)))]) rfl rfl rfl rfl rfl) ?_; refine AL.cons rfl (AOp.alloc rfl rfl zr105) ?_; refine AL.cons rfl (AOp.move (.inr rfl) rfl rfl) ?_; refine AL.cons rfl (AOp.move (.inr rfl) rfl rfl) ?_; refine AL.nil ?_; refine AWP.seq ?_; refine AWP.region_lit ?_; refine AL.cons rfl (AOp.loadPtr (cs := [.t (.row 6 (GPackage.trs (pw.gPackages)))]) rfl rfl rfl rfl sh31 rfl rfl) ?_; refine AL.cons rfl (AOp.move (.inl rfl) rfl rfl) ?_; refine AL.cons rfl (AOp.callF (res := .tup [(GFunction.pv (oFunction (GProgram.functionAt pw pname))), .t (.leaf (.int .i64 (oInt (GProgram.functionAt pw pname)))), .t (.leaf (.bool (Option.isSome (GProgram.functionAt pw pname))))]) (ps := [_, _]) rfl rfl Tryz.func125 (by kernel_rfl) rfl rfl leA rfl rfl (function_spec pw pname)) ?_; refine AL.cons rfl (AOp.move (.inl rfl) rfl rfl) ?_; refine AL.cons rfl (AOp.extract rfl rfl rfl rfl) ?_; refine AL.cons rfl (AOp.extract rfl rfl rfl rfl) ?_; refine AL.cons rfl (AOp.extract rfl rfl rfl rfl) ?_; refine AL.cons rfl (AOp.alloc rfl rfl zr105) ?_; refine AL.cons rfl (AOp.storePtr (cs := [.t (.leaf (.string ((oFunction (GProgram.functionAt pw pname)).gName))), .t (.row 1 (strTrs ((oFunction (GProgram.functionAt pw pname)).gVars))), .t (.row 4 (GBound.trs ((oFunction (GProgram.functionAt pw pname)).gWhere))), .t (.row 4 (GParam.trs ((oFunction (GProgram.functionAt pw pname)).gParams))), .t (.leaf (.int .i64 ((oFunction (GProgram.functionAt pw pname)).gResult.gKind))), .t (.leaf (.string ((oFunction (GProgram.functionAt pw pname)).gResult.gName))), .t (.row 3 (GType.trs ((oFunction (GProgram.functionAt pw pname)).gResult.gArgs))), .t (.leaf (.int .i64 ((oFunction (GProgram.functionAt pw pname)).gBody.gKind))), .t (.leaf (.string ((oFunction (GProgram.functionAt pw pname)).gBody.gTrait))), .t (.leaf (.string ((oFunction (GProgram.functionAt pw pname)).gBody.gName))), .t (.leaf (.int .i64 ((oFunction (GProgram.functionAt pw pname)).gBody.gN))), .t (.leaf (.int .i64 ((oFunction (GProgram.functionAt pw pname)).gBody.gType.gKind))), .t (.leaf (.string ((oFunction (GProgram.functionAt pw pname)).gBody.gType.gName))), .t (.row 3 (GType.trs ((oFunction (GProgram.functionAt pw pname)).gBody.gType.gArgs))), .t (.row 9 (GExpr.trs ((oFunction (GProgram.functionAt pw pname)).gBody.gArgs))), .t (.row 11 (GArm.trs ((oFunction (GProgram.functionAt pw pname)).gBody.gArms)))]) (ds := [.t (.leaf (.string ((oFunction (GProgram.functionAt pw pname)).gName))), .t (.row 1 (strTrs ((oFunction (GProgram.functionAt pw pname)).gVars))), .t (.row 4 (GBound.trs ((oFunction (GProgram.functionAt pw pname)).gWhere))), .t (.row 4 (GParam.trs ((oFunction (GProgram.functionAt pw pname)).gParams))), .t (.leaf (.int .i64 ((oFunction (GProgram.functionAt pw pname)).gResult.gKind))), .t (.leaf (.string ((oFunction (GProgram.functionAt pw pname)).gResult.gName))), .t (.row 3 (GType.trs ((oFunction (GProgram.functionAt pw pname)).gResult.gArgs))), .t (.leaf (.int .i64 ((oFunction (GProgram.functionAt pw pname)).gBody.gKind))), .t (.leaf (.string ((oFunction (GProgram.functionAt pw pname)).gBody.gTrait))), .t (.leaf (.string ((oFunction (GProgram.functionAt pw pname)).gBody.gName))), .t (.leaf (.int .i64 ((oFunction (GProgram.functionAt pw pname)).gBody.gN))), .t (.leaf (.int .i64 ((oFunction (GProgram.functionAt pw pname)).gBody.gType.gKind))), .t (.leaf (.string ((oFunction (GProgram.functionAt pw pname)).gBody.gType.gName))), .t (.row 3 (GType.trs ((oFunction (GProgram.functionAt pw pname)).gBody.gType.gArgs))), .t (.row 9 (GExpr.trs ((oFunction (GProgram.functionAt pw pname)).gBody.gArgs))), .t (.row 11 (GArm.trs ((oFunction (GProgram.functionAt pw pname)).gBody.gArms)))]) rfl rfl rfl rfl rfl rfl rfl sz105 (Nat.le_of_ble_eq_true rfl) rfl) ?_; refine AL.cons rfl (AOp.move (.inr rfl) rfl rfl) ?_; refine AL.cons rfl (AOp.move (.inr rfl) rfl rfl) ?_; refine AL.nil ?_; refine AWP.seq ?_; refine AWP.region_lit ?_; refine AL.cons rfl (AOp.loadPtr (cs := [.t (.leaf (.string ((oFunction (GProgram.functionAt pw pname)).gName))), .t (.row 1 (strTrs ((oFunction (GProgram.functionAt pw pname)).gVars))), .t (.row 4 (GBound.trs ((oFunction (GProgram.functionAt pw pname)).gWhere))), .t (.row 4 (GParam.trs ((oFunction (GProgram.functionAt pw pname)).gParams))), .t (.leaf (.int .i64 ((oFunction (GProgram.functionAt pw pname)).gResult.gKind))), .t (.leaf (.string ((oFunction (GProgram.functionAt pw pname)).gResult.gName))), .t (.row 3 (GType.trs ((oFunction (GProgram.functionAt pw pname)).gResult.gArgs))), .t (.leaf (.int .i64 ((oFunction (GProgram.functionAt pw pname)).gBody.gKind))), .t (.leaf (.string ((oFunction (GProgram.functionAt pw pname)).gBody.gTrait))), .t (.leaf (.string ((oFunction (GProgram.functionAt pw pname)).gBody.gName))), .t (.leaf (.int .i64 ((oFunction (GProgram.functionAt pw pname)).gBody.gN))), .t (.leaf (.int .i64 ((oFunction (GProgram.functionAt pw pname)).gBody.gType.gKind))), .t (.leaf (.string ((oFunction (GProgram.functionAt pw pname)).gBody.gType.gName))), .t (.row 3 (GType.trs ((oFunction (GProgram.functionAt pw pname)).gBody.gType.gArgs))), .t (.row 9 (GExpr.trs ((oFunction (GProgram.functionAt pw pname)).gBody.gArgs))), .t (.row 11 (GArm.trs ((oFunction (GProgram.functionAt pw pname)).gBody.gArms)))]) rfl rfl rfl rfl sh105 rfl rfl) ?_
  rcases hq1 : sl17Fn_M fu (oFunction (GProgram.functionAt pw pname)) with _ | x2
  · have e3 : sFindFunction_M fu pw pname = none := bdN hq1
    exact none_some H e3
  · refine AL.cons rfl (AOp.callF (res := (GFunction.pv x2)) (ps := [_]) rfl rfl Tryz.func126 (by kernel_rfl) rfl rfl leA rfl rfl (sl17Fn_ok fu (oFunction (GProgram.functionAt pw pname)) _ hq1)) ?_; refine AL.cons rfl (AOp.move (.inl rfl) rfl rfl) ?_; refine AL.cons rfl (AOp.move (.inl rfl) rfl rfl) ?_; refine AL.cons rfl (AOp.storePtr (cs := [.t (.leaf (.string (x2.gName))), .t (.row 1 (strTrs (x2.gVars))), .t (.row 4 (GBound.trs (x2.gWhere))), .t (.row 4 (GParam.trs (x2.gParams))), .t (.leaf (.int .i64 (x2.gResult.gKind))), .t (.leaf (.string (x2.gResult.gName))), .t (.row 3 (GType.trs (x2.gResult.gArgs))), .t (.leaf (.int .i64 (x2.gBody.gKind))), .t (.leaf (.string (x2.gBody.gTrait))), .t (.leaf (.string (x2.gBody.gName))), .t (.leaf (.int .i64 (x2.gBody.gN))), .t (.leaf (.int .i64 (x2.gBody.gType.gKind))), .t (.leaf (.string (x2.gBody.gType.gName))), .t (.row 3 (GType.trs (x2.gBody.gType.gArgs))), .t (.row 9 (GExpr.trs (x2.gBody.gArgs))), .t (.row 11 (GArm.trs (x2.gBody.gArms)))]) (ds := [.t (.leaf (.string (x2.gName))), .t (.row 1 (strTrs (x2.gVars))), .t (.row 4 (GBound.trs (x2.gWhere))), .t (.row 4 (GParam.trs (x2.gParams))), .t (.leaf (.int .i64 (x2.gResult.gKind))), .t (.leaf (.string (x2.gResult.gName))), .t (.row 3 (GType.trs (x2.gResult.gArgs))), .t (.leaf (.int .i64 (x2.gBody.gKind))), .t (.leaf (.string (x2.gBody.gTrait))), .t (.leaf (.string (x2.gBody.gName))), .t (.leaf (.int .i64 (x2.gBody.gN))), .t (.leaf (.int .i64 (x2.gBody.gType.gKind))), .t (.leaf (.string (x2.gBody.gType.gName))), .t (.row 3 (GType.trs (x2.gBody.gType.gArgs))), .t (.row 9 (GExpr.trs (x2.gBody.gArgs))), .t (.row 11 (GArm.trs (x2.gBody.gArms)))]) rfl rfl rfl rfl rfl rfl rfl sz105 (Nat.le_of_ble_eq_true rfl) rfl) ?_; refine AL.cons rfl (AOp.move (.inr rfl) rfl rfl) ?_; refine AL.cons rfl (AOp.move (.inr rfl) rfl rfl) ?_; refine AL.nil ?_; refine AWP.ret ?_
    have e4 : sFindFunction_M fu pw pname = some (x2, (oInt (GProgram.functionAt pw pname)), (Option.isSome (GProgram.functionAt pw pname))) := bdS hq1 (rfl)
    have hz : (x2, (oInt (GProgram.functionAt pw pname)), (Option.isSome (GProgram.functionAt pw pname))) = r := Option.some.inj (e4.symm.trans H)
    subst hz
    exact Ends.mk (ps := [_, _, _]) (by first | exact .inr rfl | exact .inl rfl) ⟨⟨_, _, _, rfl, rfl, sh105, rfl, rfl⟩, rfl, rfl, trivial⟩ rfl (StLe.mk' (st' := ⟨[], []⟩) trivial rfl) (keeps_nil hC) (q := (.tup [(GFunction.pv x2), .t (.leaf (.int .i64 ((oInt (GProgram.functionAt pw pname))))), .t (.leaf (.bool ((Option.isSome (GProgram.functionAt pw pname)))))] : PV)) leA rfl ⟨rfl, rfl⟩

end Go.Proofs.YtnakkelglbcecaaGreat

namespace Go.Proofs.YtnakkelglbcecaaGreat
open Go.RowKit

/-- The slice is nil, or its row is known whole: it begins at 0 and the row's size is the capacity's. -/
def Whole (E : TypeId) (base sz : Nat) (w : World) (n : Nat) (v : Value) : Prop :=
  (v = .slice none 0 0 ∧ n = 0) ∨ ∃ g cap cur, v = .slice (some ⟨g, 0, none⟩) n cap ∧ base ≤ g ∧ OB w g E cur ∧ n ≤ cap ∧ cap ≤ maxLen ∧ cur.size = cap * sz

structure Acc (E : TypeId) (base sz : Nat) (w : World) (es : List (List Tr)) (v : Value) (S : Nat → Prop) : Prop where
  own : Own w (.row sz es) v S
  whole : Whole E base sz w es.length v
  lens : ∀ e ∈ es, e.length = sz
  lt : ∀ x, S x → base ≤ x ∧ x < w.heap.size

theorem Acc.rep {E : TypeId} {base sz : Nat} {w : World} {es : List (List Tr)} {v : Value} {S : Nat → Prop} (h : Acc E base sz w es v S) : Rep w (.row sz es) v := h.own.rep
theorem Acc.nil (E : TypeId) (base sz : Nat) (w : World) : Acc E base sz w [] (.slice none 0 0) (fun _ => False) :=
  ⟨Own.row (es := []) (fun _ _ => undef) (fun _ _ _ => False) (by simp) (by unfold maxLen; omega) (by simp) (by simp) (by simp) (by simp), .inl ⟨rfl, rfl⟩, by simp, by simp⟩
theorem Acc.keep {E : TypeId} {base sz : Nat} {w w' : World} {es : List (List Tr)} {v : Value} {S : Nat → Prop} (h : Acc E base sz w es v S) (hz : w.heap.size ≤ w'.heap.size)
    (hx : ∀ b, S b ∨ v.ownBlock = some b → b < w.heap.size → w'.heap[b]? = w.heap[b]?) : Acc E base sz w' es v S := by
  refine ⟨h.own.keep fun b hb => hx b (.inl hb), ?_, h.lens, fun x hs => ⟨(h.lt x hs).1, Nat.lt_of_lt_of_le (h.lt x hs).2 hz⟩⟩
  rcases h.whole with h1 | ⟨g, cap, cur, rfl, h2, h3, h4⟩
  · exact .inl h1
  · exact .inr ⟨g, cap, cur, rfl, h2, (hx g (.inr rfl) h3.lt).trans h3, h4⟩
theorem Acc.ext {E : TypeId} {base sz : Nat} {w w' : World} {es : List (List Tr)} {v : Value} {S : Nat → Prop} (h : Acc E base sz w es v S) (hx : Ext w w') : Acc E base sz w' es v S := h.keep hx.size fun b _ hb => hx.block b hb
theorem Acc.mono {E : TypeId} {base base' sz : Nat} {w : World} {es : List (List Tr)} {v : Value} {S S' : Nat → Prop} (h : Acc E base sz w es v S) (hb : base' ≤ base) (hS : ∀ x, S x → S' x) (hl : ∀ x, S' x → base' ≤ x ∧ x < w.heap.size) : Acc E base' sz w es v S' := by
  refine ⟨h.own.mono hS, ?_, h.lens, hl⟩
  rcases h.whole with h1 | ⟨g, cap, cur, h1, h2, h3⟩
  · exact .inl h1
  · exact .inr ⟨g, cap, cur, h1, by omega, h3⟩

theorem Acc.blk {E : TypeId} {base sz : Nat} {w : World} {es : List (List Tr)} {v : Value} {S : Nat → Prop} (h : Acc E base sz w es v S) {x : Nat} (hx : v.ownBlock = some x) : base ≤ x ∧ x < w.heap.size := by
  rcases h.whole with ⟨rfl, -⟩ | ⟨g0, c0, u0, rfl, h1, h3, -⟩
  · simp [Value.ownBlock] at hx
  · simp [Value.ownBlock] at hx
    subst hx
    exact ⟨h1, h3.lt⟩
theorem Acc.shape {E : TypeId} {base sz : Nat} {w : World} {es : List (List Tr)} {v : Value} {S : Nat → Prop} (h : Acc E base sz w es v S) : ∃ a cap, v = .slice a es.length cap ∧ es.length ≤ cap ∧ cap ≤ maxLen := h.rep.shape
/-- From world w on, a slice v of our own has been appended to: by now it is v' and holds es. -/
structure AccRun (E : TypeId) (base sz : Nat) (w : World) (v : Value) (w' : World) (es : List (List Tr)) (v' : Value) : Prop where
  acc : ∃ U, Acc E base sz w' es v' U
  chg : Chg (fun b => v.ownBlock = some b) w w'
  row : ∀ b, v'.ownBlock = some b → v.ownBlock = some b ∨ w.heap.size ≤ b
theorem AccRun.refl {E : TypeId} {base sz : Nat} {w : World} {es : List (List Tr)} {v : Value} {U : Nat → Prop} (h : Acc E base sz w es v U) : AccRun E base sz w v w es v := ⟨⟨U, h⟩, Chg.refl _ _, fun _ h => .inl h⟩
theorem AccRun.ext {E : TypeId} {base sz : Nat} {w w1 w2 : World} {es : List (List Tr)} {v v' : Value} (h : AccRun E base sz w v w1 es v') (hx : Ext w1 w2) : AccRun E base sz w v w2 es v' := by
  obtain ⟨U, h1⟩ := h.acc
  exact ⟨⟨U, h1.ext hx⟩, h.chg.trans (.of_ext hx), h.row⟩
theorem AccRun.trans {E : TypeId} {base sz : Nat} {w w1 w2 : World} {es es2 : List (List Tr)} {v v1 v2 : Value} (h : AccRun E base sz w v w1 es v1) (k : AccRun E base sz w1 v1 w2 es2 v2) : AccRun E base sz w v w2 es2 v2 := by
  refine ⟨k.acc, ⟨k.chg.os.trans h.chg.os, k.chg.tape.trans h.chg.tape, k.chg.output.trans h.chg.output, Nat.le_trans h.chg.size k.chg.size, fun b hb hn => ?_⟩, fun b hb => ?_⟩
  · refine (k.chg.block b (Nat.lt_of_lt_of_le hb h.chg.size) fun h1 => ?_).trans (h.chg.block b hb hn)
    rcases h.row b h1 with h2 | h2
    · exact hn h2
    · omega
  · rcases k.row b hb with h1 | h1
    · exact h.row b h1
    · exact .inr (Nat.le_trans h.chg.size h1)
/-- What lies elsewhere stays. -/
theorem AccRun.ob {E : TypeId} {base sz : Nat} {w w' : World} {es : List (List Tr)} {v v' : Value} (h : AccRun E base sz w v w' es v') {B : Nat} {T : TypeId} {cs : Array Value} (hB : OB w B T cs) (hn : v.ownBlock ≠ some B) : OB w' B T cs ∧ v'.ownBlock ≠ some B := by
  refine ⟨(h.chg.block B hB.lt hn).trans hB, fun h1 => ?_⟩
  rcases h.row B h1 with h2 | h2
  · exact hn h2
  · have := hB.lt; omega
theorem AccRun.old {E : TypeId} {base sz : Nat} {w0 w w' : World} {es : List (List Tr)} {v v' : Value} (h : AccRun E base sz w v w' es v') (hx : Ext w0 w) (hv : ∀ b, v.ownBlock = some b → w0.heap.size ≤ b) : Ext w0 w' := Chg.ext hx h.chg hv

end Go.Proofs.YtnakkelglbcecaaGreat

namespace Go.Proofs.YtnakkelglbcecaaGreat
open Go.RowKit Go.Proofs

set_option maxRecDepth 100000 in
set_option maxHeartbeats 1000000 in
theorem copiesType_impl_of (l : List GType) (H : ∀ x ∈ l, ToC 111 x.tr) : ToSC 163 3 (GType.trs l) := by
  intro s w hs hbk
  obtain ⟨a, cap, rfl, hl, hm⟩ := hs.shape
  rw [GType.trs_len] at *
  unfold maxLen at hm
  have HS := Lib.hid hs
  have HH := Lib.hid H
  have n0 : (0 : Int) ≤ l.length := by omega
  clear hs H
  go_enter Tryz.func163, Tryz.ntmps163
  go_wp2_with (refine wpList_make_rep rfl 45 (.tmp 7) rfl l.length rfl 47 Tryz.underlying45 3 48 iszb47 (by omega) (by omega) ?_; intro wm arr0 ha0 hob0 hx0 hz0; have HA0 := Lib.hid ha0; have HOB0 := Lib.hid hob0; have HX0 := Lib.hid hx0; have HZ0 := Lib.hid hz0; clear ha0 hob0 hx0 hz0)
  go_loopw [11] (fun i wr => ∃ (k : Nat) (arr : Array Value), k ≤ l.length ∧ i = .int .i64 k ∧ Ext w wr ∧ w.heap.size < wr.heap.size ∧ Hid (OB wr w.heap.size 47 arr) ∧ Hid (arr.size = (GType.trs l).length * 3) ∧ Hid (Part wr w.heap.size arr 3 (GType.trs l) k)) (fun i _ => l.length - (intOf i).toNat)
  case atStart => exact ⟨0, arr0, Nat.zero_le _, rfl, HX0.out, by rw [HZ0.out]; omega, HOB0.out, by show _ = _; rw [GType.trs_len]; exact HA0.out, Part.zero _ _ _ _ _⟩
  case round =>
    obtain ⟨k, arr, hk, rfl, hw, hgt, HOB, HAS, HP⟩ := hrel
    by_cases hlt : k < l.length
    · obtain ⟨b, off, cs, rfl, hb, hcs, hc⟩ := (HS.out.ext hw).at2 (k := k) (GType.trs_get hlt)
      have HM := Lib.hid (List.getElem_mem hlt)
      have HCS := Lib.hid hcs
      have HC := Lib.hid hc
      have HI : Hid ((Tryz.prog.info? 47).map (·.size) = some cs.length) := by rw [← hcs.length, GType.tr_len]; exact isz47
      have HCL : Hid (cs.length = 3) := by rw [← hcs.length, GType.tr_len]; rfl
      clear hcs hc
      have hbe : Tr.bulkL (l[k]).tr ≤ Tr.bulkAll (GType.trs l) := by
        have h1 : k < (GType.trs l).length := by rw [GType.trs_len]; exact hlt
        have h2 := Tr.bulkAll_le h1
        have h3 : (GType.trs l)[k] = (l[k]).tr := by have h4 := GType.trs_get hlt; rw [List.getElem?_eq_getElem h1] at h4; exact Option.some.inj h4
        rwa [h3] at h2
      have hbs : Tr.bulkL (l[k]).tr ≤ 68719476736 := by omega
      clear hbe
      go_wp2_with (first
        | (refine wpList_load_rep rfl 47 (.tmp 14) rfl b (off + k * 3) rfl cs _ Tryz.underlying47 HI.out HC.out ?_)
        | (refine wpList_store_rep rfl 47 (.tmp 5) (.tmp 15) rfl wr.heap.size 0 rfl cs rfl 47 _ (OB.new wr _ _) HI.out (by rw [HCL.out]; exact Nat.le_refl _) HCS.out.one ?_; intro wb hob hgb hzb; rw [splice_whole (by rw [HCL.out]; rfl)] at hob; have HOBV := Lib.hid hob; have HXBV := Lib.hid (grown_ext (.alloc (.refl wr) _) hgb (Nat.le_refl _)); clear hob hgb hzb)
        | (refine wpList_load_rep rfl 47 (.tmp 5) rfl wr.heap.size 0 rfl cs _ Tryz.underlying47 HI.out HOBV.out.cells0 ?_))
      refine (HH.out _ HM.out _ _ (HCS.out.ext HXBV.out) hbs).mono ?_; rintro e w1 ⟨cs1, rfl, hw1, ho1⟩
      have HW1 := Lib.hid (HXBV.out.trans hw1)
      have HO1 := Lib.hid (ho1.mono (S' := Between wr w1) fun x hx => ⟨Nat.le_trans HXBV.out.size hx.1, hx.2⟩)
      have HCL1 : Hid (cs1.length = 3) := ho1.1.trans (GType.tr_len _)
      have HF : Hid (0 + k * 3 + cs1.length ≤ arr.size) := by have h1 := HAS.out; have h2 := HCL1.out; rw [GType.trs_len] at h1; show _ ≤ _; omega
      clear hw1 ho1
      go_wp2_with (refine wpList_store_rep rfl 47 (.tmp 20) (.tmp 19) rfl w.heap.size (k * 3) rfl cs1 rfl 47 arr (HOB.out.ext HW1.out) (by rw [HCL1.out]; exact isz47) (by have := HF.out; omega) (HO1.out.rep.one) ?_; intro w2 hob2 hg2 hz2; have HOB2 := Lib.hid hob2; have HG2 := Lib.hid hg2; have HZ2 := Lib.hid hz2; clear hob2 hg2 hz2)
      go_roundw
      case rel =>
        have hfit : k * 3 + cs1.length ≤ arr.size := by have := HF.out; omega
        refine ⟨k + 1, _, by omega, by go_num, ?_, ?_, HOB2.out, by show _ = _; rw [splice_size hfit]; exact HAS.out, HP.out.step hgt HW1.out (GType.trs_get hlt) HO1.out HCL1.out HAS.out HG2.out HOB2.out⟩
        · exact grown_ext (hw.trans HW1.out) HG2.out (Nat.le_refl _)
        · have := HW1.out.size
          have := HZ2.out
          omega
      case measure => simp [intOf]; omega
    · have hkl : k = (GType.trs l).length := by rw [GType.trs_len]; omega
      go_wp2_with fail
      go_ret
      subst hkl
      have := (HP.out.done HOB.out (GType.sz l) (Nat.le_refl _) (by rw [GType.trs_len]; unfold maxLen; omega) (Nat.le_refl _)).mono (S' := Between w wr) fun x hx => ⟨hx.1, hx.2⟩
      rw [GType.trs_len] at this
      exact ⟨_, rfl, hw, this⟩

set_option maxRecDepth 100000 in
set_option maxHeartbeats 1000000 in
theorem copyType_impl : ∀ x : GType, ToC 111 x.tr := by
  refine GType.ind fun v0 v1 xs ih => ?_; intro cs w hr hbk
  obtain ⟨a, c, rfl, k0, k1, h3⟩ := GType.opened hr
  have hbk2 : xs.length + Tr.bulkAll (GType.trs xs) ≤ 68719476736 := by
    simp only [GType.tr, Tr.bulkL_append, Tr.bulkL, Tr.bulk, GType.trs_len] at hbk
    omega
  have HCC := Lib.hid (copiesType_impl_of xs ih)
  have HS := Lib.hid h3
  have K0 := Lib.hid k0
  have K1 := Lib.hid k1
  have HL : Hid (Tr.bulkAll (GType.trs xs) + (GType.trs xs).length ≤ 68719476736) := by show _ ≤ _; rw [GType.trs_len]; omega
  clear hr h3 ih hbk hbk2 k0 k1
  simp only [List.cons_append, List.nil_append] at *
  go_enter Tryz.func111, Tryz.ntmps111
  go_wp2_with fail
  refine (HCC.out _ _ (HS.out.ext (.alloc (.alloc (.refl _) _) _)) (by have := HL.out; omega)).mono ?_; rintro e w1 ⟨s', rfl, hw1, ho1⟩
  obtain ⟨da, dc, rfl, -, -⟩ := ho1.rep.shape
  rw [GType.trs_len] at *
  have h2w := (Two.new w 47 47 #[.int .i64 v0, .string v1, .slice a xs.length c] #[.int .i64 0, .string ⟨#[]⟩, .slice none 0 0]).ext hw1
  have H2 := Lib.hid h2w
  have HW1 := Lib.hid hw1
  have HO1 := Lib.hid ho1
  have hzz : w.heap.size + 1 < w1.heap.size := h2w.o1.lt
  clear h2w hw1 ho1
  have hone : Hid (∀ v ∈ ([.int .i64 v0, .string v1, .slice da xs.length dc] : List Value), v.oneCell' = true) := by
    intro v hv
    simp only [List.mem_cons, List.not_mem_nil, or_false] at hv
    rcases hv with rfl | rfl | rfl <;> rfl
  go_wp2_with (first
    | (refine wpList_store_cell rfl 45 (.tmp 6) (.tmp 5) rfl w.heap.size 2 rfl (.slice da xs.length dc) rfl rfl 47 _ H2.out.o0 isz45 (by simp) rfl ?_; intro w2 hob hg hz; have HOB := Lib.hid (show OB w2 w.heap.size 47 ⟨[.int .i64 v0, .string v1, .slice da xs.length dc]⟩ from hob); have HR2 := Lib.hid (H2.out.o1.grown hg (by omega)); have HG2 := Lib.hid hg; have hq2 : w1.heap.size = w2.heap.size := hz.symm; clear hob hg hz)
    | (refine wpList_load_rep rfl 47 (.tmp 1) rfl w.heap.size 0 rfl [.int .i64 v0, .string v1, .slice da xs.length dc] _ Tryz.underlying47 isz47 (OB.cells0 HOB.out) ?_)
    | (refine wpList_store_rep rfl 47 (.tmp 2) (.tmp 7) rfl (w.heap.size + 1) 0 rfl [.int .i64 v0, .string v1, .slice da xs.length dc] rfl 47 _ HR2.out isz47 (by simp) hone.out ?_; intro w3 hob hg hz; have HOB3 := Lib.hid (show OB w3 (w.heap.size + 1) 47 ⟨[.int .i64 v0, .string v1, .slice da xs.length dc]⟩ from hob); have HG3 := Lib.hid hg; have hq3 : w2.heap.size = w3.heap.size := hz.symm; clear hob hg hz))
  have hx3 : Ext w w3 := grown_ext (grown_ext (Ext.trans (.alloc (.alloc (.refl _) _) _) HW1.out) HG2.out (by omega)) HG3.out (by omega)
  refine bodyPost_ret (results_cell_row Tryz.results111 _ _ (w.heap.size + 1) 47 ⟨[.int .i64 v0, .string v1, .slice da xs.length dc]⟩ _ _ rfl HOB3.out Tryz.underlying47 rfl isz47) rfl ⟨[.int .i64 v0, .string v1, .slice da xs.length dc], rfl, hx3, ?_⟩
  have ow := HO1.out.keeps (lo := w.heap.size + 1 + 1) (Keeps.trans (Keeps.of_grown HG2.out (by omega)) (Keeps.of_grown HG3.out (by omega))) (by intro x hx; have := hx.1; simp only [World.size_alloc] at this; omega)
  have hall := OwnL.cons_leaf K0.out (OwnL.cons_leaf K1.out (OwnL.one ow))
  exact hall.mono (by intro x hx; have h1 := hx.1; have h2 := hx.2; simp only [World.size_alloc] at h1; exact ⟨by omega, by omega⟩)
end Go.Proofs.YtnakkelglbcecaaGreat

namespace Go.Proofs.YtnakkelglbcecaaGreat
set_option linter.unusedSimpArgs false
set_option linter.unusedVariables false
open Go.RowKit Go.WalkArith Go.IntWalk Go.WideShapes

def rowRes (sz : Nat) (es : List (List Tr)) : Option (List PV) → Nat → PV
  | none, k => .acc sz es k
  | some ps, k => .tup (.acc sz es k :: ps)
/-- The function is handed data, and returns a slice of its own making (and data beside it). -/
def ARow (P : Program) (f : FuncId) (args : List PV) (E : TypeId) (sz : Nat) (es : List (List Tr)) (ps : Option (List PV)) : Prop :=
  ACalls P f args ⟨[], []⟩ (fun r st' => ∃ k, r = rowRes sz es ps k ∧ st'.rows[k]? = some ⟨E, sz, es, false⟩)

section
variable {P : Program} {C : Ctx} {n : Nat} {s : AS} {o : Oper}
end

theorem Own.ofAcc {av : Nat → Nat → Prop} {st : Sto} {m : Lay} {w : World} {k E sz : Nat} {es : List (List Tr)} {v : Value} {S : Nat → Prop} (hst : StoOk av st m w) (hrow : st.rows[k]? = some ⟨E, sz, es, false⟩) (hv : RV (okA av st m) st m w (.acc sz es k) v)
    (hS : ∀ g c, m.γ k = some (g, c) → g < w.heap.size → S g) (hfl : ∀ e ∈ es, ∀ d ∈ e, ∃ u, d = .leaf u) : Own w (.row sz es) v S := by
  obtain ⟨q1, q2, q3⟩ := hst.row k _ hrow
  obtain ⟨row, hr, -, hle, hrep, heq⟩ := hv
  rw [hrow] at hr
  obtain rfl := Option.some.inj hr
  have hv := heq rfl
  rcases q3 with ⟨a, b⟩ | ⟨g, c, cur, r1, r2, r3, r4, r5, r6⟩
  · rw [a] at hv
    have b : es = [] := b
    subst b
    subst hv
    exact Own.row (es := []) (fun _ _ => undef) (fun _ _ _ => False) (by simp) (by unfold maxLen; omega) (by simp) (by simp) (by simp) (by simp)
  · rw [r1] at hv
    subst hv
    have r6 : RepM (okA av st m) w (.row sz es) (.slice (some ⟨g, 0, none⟩) es.length c) := r6
    show Own w (.row sz es) (.slice (some ⟨g, 0, none⟩) es.length c) S
    cases r6 with
    | row cc h1 h2 h3 h4 =>
      refine .row cc (fun _ _ _ => False) h1 h2 (fun hne => ?_) (fun i e he j d hd => ?_) (fun _ _ _ _ _ _ x hx => hx.elim) (fun _ _ _ _ _ _ _ _ _ _ _ _ _ x hx => hx.elim)
      · obtain ⟨b, off, ha, hb, hc⟩ := h3 hne
        obtain ⟨rfl, rfl⟩ : g = b ∧ 0 = off := by simpa using ha
        exact ⟨g, 0, E, cur, rfl, r2, hS g c r1 hb, fun i e he j d hd => ⟨by rw [← r2.cell]; exact (hc i e he j d hd).2, fun x hx => hx.elim⟩⟩
      · obtain ⟨u, rfl⟩ := hfl e (List.mem_of_getElem? he) d (List.mem_of_getElem? hd)
        have h7 := (h4 i e he j _ hd).rep.leaf_eq
        rw [h7.1]
        exact .leaf h7.2
theorem ARow.own {P : Program} {f : FuncId} {args : List PV} {E sz : Nat} {es : List (List Tr)} (h : ARow P f args E sz es none) (hfl : ∀ e ∈ es, ∀ d ∈ e, ∃ u, d = .leaf u) {w : World} {vals : List Value} (hv : RVL0 w args vals) :
    Calls P f ⟨vals⟩ w fun e w' => ∃ v, e = .returned v ∧ Ext w w' ∧ Own w' (.row sz es) v (Between w w') :=
  (h av0 lay0 w vals (sto0 w) hv).mono fun e w' => by
    rintro ⟨res, st', m', v, rfl, ⟨k, rfl, hrow⟩, hst, he, hr⟩
    exact ⟨v, rfl, he.ext, Own.ofAcc hst hrow hr (fun g c hg hlt => by
      rcases he.rfresh k _ g c hrow hg with ⟨row, c0, h0, _⟩ | hf
      · simp at h0
      · exact ⟨hf, hlt⟩) hfl⟩
end Go.Proofs.YtnakkelglbcecaaGreat

namespace Go.Proofs.YtnakkelglbcecaaGreat
set_option linter.unusedSimpArgs false
set_option linter.unusedVariables false
open Go.RowKit

theorem run_append_nil {P : Program} {o : Oper} {a : Act} {w : World} {i T E sz by_ : Nat} {es : List (List Tr)} {v : Value} (ho : o.op = .call { callee := .builtin .append, args := #[.const (.slice none 0 0), .tmp i], argTypes := #[T, T] }) (hd : a.defers = [])
    (hy : a.tmps[i]? = some v) (hv : Rep w (.row sz es) v) (h2 : ∀ e ∈ es, e.length = sz) (hsz : 0 < sz) (hfl : ∀ e ∈ es, ∀ d ∈ e, ∃ u, d = .leaf u)
    (hT : elemOf? P T = some (E, sz, by_)) (hz : (P.info? E).bind (fun i => i.zero.map (fun z => z.cells.size)) = some sz) (hb : 0 < by_) (hlen : es.length * by_ ≤ 140737488355328) :
    ∃ u w', (execOp a.eval o).run P w = .ok (.value u) w' ∧ Ext w w' ∧ Own w' (.row sz es) u (Between w w') := by
  let C : Ctx := ⟨av0, ⟨[], []⟩, lay0, w⟩
  let s : AS := ⟨[(i, .t (.row sz es))], ⟨[], []⟩⟩
  have h : RA C a.tmps.size s lay0 a w := ⟨hd, rfl, sto0 w, fun j p hj => by
    have hj : List.lookup j [(i, PV.t (.row sz es))] = some p := hj
    rw [List.lookup_cons] at hj
    by_cases hji : j = i
    · subst hji
      simp at hj
      subst hj
      exact ⟨v, hy, hv.repM fun b o _ => ok0 b o⟩
    · rw [show (j == i) = false from by simp [hji]] at hj
      simp at hj, Ev.refl _ _ _⟩
  have hE := ev_addRow (row := ⟨E, sz, [], false⟩) h.sto
  have hS := sto_addRow (row := ⟨E, sz, [], false⟩) h.sto hsz rfl
  have h1 := h.step hE hS
  have hl : (s.st.addRow ⟨E, sz, [], false⟩).rows[s.st.rows.length]? = some ⟨E, sz, [], false⟩ := by show (s.st.rows ++ [_])[s.st.rows.length]? = _; simp
  have hxx : RV (okA C.av (s.st.addRow ⟨E, sz, [], false⟩) ⟨lay0.ρ, upd lay0.γ s.st.rows.length none⟩) (s.st.addRow ⟨E, sz, [], false⟩) ⟨lay0.ρ, upd lay0.γ s.st.rows.length none⟩ w (.acc sz [] s.st.rows.length) (a.eval (.const (.slice none 0 0))) :=
    ⟨⟨E, sz, [], false⟩, hl, rfl, Nat.le_refl _, RepM.row (es := []) (fun _ _ => undef) (by simp) (by unfold maxLen; omega) (by simp) (by simp), fun _ => by simp [upd_same, rowVal, Act.eval]⟩
  have hy1 : (⟨s.env, s.st.addRow ⟨E, sz, [], false⟩⟩ : AS).ev (.tmp i) = some (.t (.row sz es)) := by
    show List.lookup i [(i, PV.t (.row sz es))] = _
    simp
  obtain ⟨u, m1, w1, k1, k2, k3, k4⟩ := append_at (s := ⟨s.env, s.st.addRow ⟨E, sz, [], false⟩⟩) ho h1 hxx hl rfl rfl rfl hy1 rfl h2 hT hz hb (by simpa using hlen)
  have hst1 : (s.st.addRow ⟨E, sz, [], false⟩).setRow s.st.rows.length { (⟨E, sz, [], false⟩ : PRow) with es := ([] : List (List Tr)) ++ es } = s.st.addRow ⟨E, sz, es, false⟩ := by
    simp [Sto.setRow, Sto.addRow, List.set_append_right]
  rw [hst1] at k2 k3 k4
  have hX : Ev ⟨[], []⟩ lay0 w (s.st.addRow ⟨E, sz, es, false⟩) m1 w1 := hE.trans k2
  have hrow : (s.st.addRow ⟨E, sz, es, false⟩).rows[0]? = some ⟨E, sz, es, false⟩ := rfl
  refine ⟨u, w1, k1, hX.ext, Own.ofAcc k3 hrow k4 (fun g c hg hlt => ?_) hfl⟩
  rcases hX.rfresh 0 _ g c hrow hg with ⟨row, c0, hr, _⟩ | hf
  · simp at hr
  · exact ⟨hf, hlt⟩
theorem wpAnyH_append_nil {P : Program} {ops : Array Oper} {Q : Exit → Act → World → Prop} {md : Region.Mode} {S0 : World → Prop} {q : Nat} {o : Oper} {fuel : Nat} {listed : Array Bool} {a : Act} {w : World} (hr : Region.ready md ops listed = [q]) (ho0 : ops[q]? = some o) (hgd : o.guard = none)
    (i T : Nat) (ho : o.op = .call { callee := .builtin .append, args := #[.const (.slice none 0 0), .tmp i], argTypes := #[T, T] }) (hd : a.defers = []) (v : Value) (hy : a.tmps[i]? = some v) (E sz by_ : Nat) (es : List (List Tr)) (hv : Rep w (.row sz es) v) (h2 : ∀ e ∈ es, e.length = sz) (hsz : 0 < sz) (hfl : ∀ e ∈ es, ∀ d ∈ e, ∃ u, d = .leaf u)
    (hT : elemOf? P T = some (E, sz, by_)) (hz : (P.info? E).bind (fun i => i.zero.map (fun z => z.cells.size)) = some sz) (hb : 0 < by_) (hlen : es.length * by_ ≤ 140737488355328)
    (h : ∀ u w', Ext w w' → Own w' (.row sz es) u (Between w w') → S0 w' ∧ wpAnyH P md ops Q S0 fuel (listed.setIfInBounds q true) (a.put o.dst u) w') : wpAnyH P md ops Q S0 (fuel + 1) listed a w := by
  obtain ⟨u, w', hrun, hx, hown⟩ := run_append_nil (P := P) ho hd hy hv h2 hsz hfl hT hz hb hlen
  obtain ⟨h3, h4⟩ := h u w' hx hown
  exact wpAnyH_run hr ho0 hgd hrun h3 h4
end Go.Proofs.YtnakkelglbcecaaGreat

namespace Go.Proofs.YtnakkelglbcecaaGreat
open Go.RowKit Go.Proofs
set_option linter.unusedSimpArgs false
set_option linter.unusedVariables false

attribute [local irreducible] lt

noncomputable def icopyNames_M (fu : Nat)  (pl : List ByteArray) : Option ((List ByteArray)) :=
 gd ((pl).length ≤ 68719476736)
 (some pl)
set_option maxRecDepth 100000 in
set_option maxHeartbeats 4000000 in
theorem icopyNames_own (fu : Nat) (pl : List ByteArray) (r : (List ByteArray)) (H : icopyNames_M fu pl = some r) : ARow Tryz.prog 165 [.t (.row 1 (strTrs (pl)))] 9 1 (strTrs (r)) none := by
  unfold ARow
  refine ACalls.intro Tryz.func165 rfl (by first | decide | (simp; done) | (simp; decide)) ?_; intro C hC
  refine AWP.fact (lk_lenN 0 rfl rfl (strTrs_len _)) (fun hl1 => ?_)
  refine AWP.seq ?_; refine AWP.region_lit ?_; refine AL.cons rfl (AOp.move (.inr rfl) rfl rfl) ?_; refine AL.nil ?_; refine AWP.seq ?_; refine AWP.region_lit ?_; refine AL.cons rfl (AOp.move (.inl rfl) rfl rfl) ?_
  rcases Classical.em ((pl).length ≤ 68719476736) with hg2 | hg2
  · refine AL.cons rfl (AOp.appendNil (es2 := strTrs (pl)) rfl rfl rfl rfl rfl (strTrs_all _) (by decide) el54 ze54 (by decide) (by rw [strTrs_len]; exact room_le0 hg2 (by decide))) ?_; refine AL.cons rfl (AOp.move (.inr rfl) rfl rfl) ?_; refine AL.nil ?_; refine AWP.ret ?_
    have e3 : icopyNames_M fu pl = some pl := gdT hg2 (rfl)
    have hz : pl = r := Option.some.inj (e3.symm.trans H)
    subst hz
    exact Ends.mk (ps := [_]) (by first | exact .inr rfl | exact .inl rfl) ⟨rfl, trivial⟩ rfl (StLe.mk' (st' := ⟨[], [⟨9, 1, strTrs (pl), false⟩]⟩) trivial (by first | rfl | simp)) ⟨fun k x h => by simp [hC] at h, fun r row h => by simp [hC] at h⟩ (q := .acc 1 (strTrs (pl)) 0) leA rfl ⟨0, rfl, rfl⟩
  · have e4 : icopyNames_M fu pl = none := gdF hg2
    exact none_some H e4

end Go.Proofs.YtnakkelglbcecaaGreat

namespace Go.Proofs.YtnakkelglbcecaaGreat
open Go.RowKit
theorem RVL0.nil {w : World} : RVL0 w [] [] := trivial
theorem RVL0.cons {w : World} {p : PV} {ps : List PV} {v : Value} {vs : List Value} (h : RV0 w p v) (k : RVL0 w ps vs) : RVL0 w (p :: ps) (v :: vs) := ⟨h, k⟩
end Go.Proofs.YtnakkelglbcecaaGreat

namespace Go.Proofs.YtnakkelglbcecaaGreat
open Go.RowKit Go.Proofs

theorem strTrs_one (l : List ByteArray) : ∀ e ∈ strTrs l, e.length = 1 := by
  intro e he
  obtain ⟨s, -, rfl⟩ := List.mem_map.1 he
  rfl
theorem strTrs_leaf (l : List ByteArray) : ∀ e ∈ strTrs l, ∀ d ∈ e, ∃ u, d = .leaf u := by
  intro e he d hd
  obtain ⟨s, -, rfl⟩ := List.mem_map.1 he
  obtain rfl := List.mem_singleton.1 hd
  exact ⟨_, rfl⟩
theorem copyNamesP (l : List ByteArray) (s : Value) (w : World) (hs : Rep w (.row 1 (strTrs l)) s) (hl : l.length ≤ 68719476736) : Calls Tryz.prog 165 #[s] w fun e w' => ∃ v, e = .returned v ∧ Ext w w' ∧ Own w' (.row 1 (strTrs l)) v (Between w w') :=
  (icopyNames_own 0 l l (by unfold icopyNames_M; exact gdT hl rfl)).own (strTrs_leaf l) (RVL0.cons (RV0.t hs) RVL0.nil)
theorem arm_bulk {x : GArm} {l : List GArm} (h : x ∈ l) : Tr.bulkL x.tr ≤ Tr.bulkAll (GArm.trs l) := by
  induction l with
  | nil => simp at h
  | cons a l ih =>
    rw [GArm.trs_map, List.map_cons, Tr.bulkAll, ← GArm.trs_map]
    rcases List.mem_cons.1 h with rfl | h
    · omega
    · have := ih h; omega
theorem arm_parts (x : GArm) : x.gVars.length + Tr.bulkL x.gBody.tr ≤ Tr.bulkL x.tr := by
  obtain ⟨v0, v1, v2⟩ := x
  simp only [GArm.tr, Tr.bulkL_append, Tr.bulkL, Tr.bulk, strTrs_len, GArm.gVars_mk, GArm.gBody_mk]
  omega
theorem expr_parts (k : Int) (t n : ByteArray) (m : Int) (ty : GType) (xs : List GExpr) (rs : List GArm) : Tr.bulkL ty.tr + (xs.length + Tr.bulkAll (GExpr.trs xs)) + (rs.length + Tr.bulkAll (GArm.trs rs)) ≤ Tr.bulkL (GExpr.mk k t n m ty xs rs).tr := by
  simp only [GExpr.tr, Tr.bulkL_append, Tr.bulkL, Tr.bulk, GExpr.trs_len, GArm.trs_len]
  omega
theorem GArm.tr_own {w : World} {n : ByteArray} {vs : List ByteArray} {b : GExpr} {u : Value} {fs : List Value} {S1 S2 T : Nat → Prop} (hn : n.size ≤ maxLen) (h1 : Own w (.row 1 (strTrs vs)) u S1) (h2 : OwnL w b.tr fs S2) (hd : ∀ x, S1 x → S2 x → False) (hT1 : ∀ x, S1 x → T x) (hT2 : ∀ x, S2 x → T x) : OwnL w (GArm.mk n vs b).tr (.string n :: u :: fs) T := by
  have h3 := OwnL.cons_leaf (v := .string n) hn (OwnL.append (OwnL.one h1) h2 hd)
  have h4 := h3.mono (S' := T) fun x hx => hx.elim (hT1 x) (hT2 x)
  simpa [GArm.tr] using h4

set_option maxRecDepth 100000 in
set_option maxHeartbeats 1000000 in
theorem copiesExpr_impl_of (l : List GExpr) (H : ∀ x ∈ l, ToC 166 x.tr) : ToSC 201 9 (GExpr.trs l) := by
  intro s w hs hbk
  obtain ⟨a, cap, rfl, hl, hm⟩ := hs.shape
  rw [GExpr.trs_len] at *
  unfold maxLen at hm
  have HS := Lib.hid hs
  have HH := Lib.hid H
  have n0 : (0 : Int) ≤ l.length := by omega
  clear hs H
  go_enter Tryz.func201, Tryz.ntmps201
  go_wp2_with (refine wpList_make_rep rfl 100 (.tmp 7) rfl l.length rfl 103 Tryz.underlying100 9 144 iszb103 (by omega) (by omega) ?_; intro wm arr0 ha0 hob0 hx0 hz0; have HA0 := Lib.hid ha0; have HOB0 := Lib.hid hob0; have HX0 := Lib.hid hx0; have HZ0 := Lib.hid hz0; clear ha0 hob0 hx0 hz0)
  go_loopw [11] (fun i wr => ∃ (k : Nat) (arr : Array Value), k ≤ l.length ∧ i = .int .i64 k ∧ Ext w wr ∧ w.heap.size < wr.heap.size ∧ Hid (OB wr w.heap.size 103 arr) ∧ Hid (arr.size = (GExpr.trs l).length * 9) ∧ Hid (Part wr w.heap.size arr 9 (GExpr.trs l) k)) (fun i _ => l.length - (intOf i).toNat)
  case atStart => exact ⟨0, arr0, Nat.zero_le _, rfl, HX0.out, by rw [HZ0.out]; omega, HOB0.out, by show _ = _; rw [GExpr.trs_len]; exact HA0.out, Part.zero _ _ _ _ _⟩
  case round =>
    obtain ⟨k, arr, hk, rfl, hw, hgt, HOB, HAS, HP⟩ := hrel
    by_cases hlt : k < l.length
    · obtain ⟨b, off, cs, rfl, hb, hcs, hc⟩ := (HS.out.ext hw).at2 (k := k) (GExpr.trs_get hlt)
      have HM := Lib.hid (List.getElem_mem hlt)
      have HCS := Lib.hid hcs
      have HC := Lib.hid hc
      have HI : Hid ((Tryz.prog.info? 103).map (·.size) = some cs.length) := by rw [← hcs.length, GExpr.tr_len]; exact isz103
      have HCL : Hid (cs.length = 9) := by rw [← hcs.length, GExpr.tr_len]; rfl
      clear hcs hc
      have hbe : Tr.bulkL (l[k]).tr ≤ Tr.bulkAll (GExpr.trs l) := by
        have h1 : k < (GExpr.trs l).length := by rw [GExpr.trs_len]; exact hlt
        have h2 := Tr.bulkAll_le h1
        have h3 : (GExpr.trs l)[k] = (l[k]).tr := by have h4 := GExpr.trs_get hlt; rw [List.getElem?_eq_getElem h1] at h4; exact Option.some.inj h4
        rwa [h3] at h2
      have hbs : Tr.bulkL (l[k]).tr ≤ 68719476736 := by omega
      clear hbe
      go_wp2_with (first
        | (refine wpList_load_rep rfl 103 (.tmp 14) rfl b (off + k * 9) rfl cs _ Tryz.underlying103 HI.out HC.out ?_)
        | (refine wpList_store_rep rfl 103 (.tmp 5) (.tmp 15) rfl wr.heap.size 0 rfl cs rfl 103 _ (OB.new wr _ _) HI.out (by rw [HCL.out]; exact Nat.le_refl _) HCS.out.one ?_; intro wb hob hgb hzb; rw [splice_whole (by rw [HCL.out]; rfl)] at hob; have HOBV := Lib.hid hob; have HXBV := Lib.hid (grown_ext (.alloc (.refl wr) _) hgb (Nat.le_refl _)); clear hob hgb hzb)
        | (refine wpList_load_rep rfl 103 (.tmp 5) rfl wr.heap.size 0 rfl cs _ Tryz.underlying103 HI.out HOBV.out.cells0 ?_))
      refine (HH.out _ HM.out _ _ (HCS.out.ext HXBV.out) hbs).mono ?_; rintro e w1 ⟨cs1, rfl, hw1, ho1⟩
      have HW1 := Lib.hid (HXBV.out.trans hw1)
      have HO1 := Lib.hid (ho1.mono (S' := Between wr w1) fun x hx => ⟨Nat.le_trans HXBV.out.size hx.1, hx.2⟩)
      have HCL1 : Hid (cs1.length = 9) := ho1.1.trans (GExpr.tr_len _)
      have HF : Hid (0 + k * 9 + cs1.length ≤ arr.size) := by have h1 := HAS.out; have h2 := HCL1.out; rw [GExpr.trs_len] at h1; show _ ≤ _; omega
      clear hw1 ho1
      go_wp2_with (refine wpList_store_rep rfl 103 (.tmp 20) (.tmp 19) rfl w.heap.size (k * 9) rfl cs1 rfl 103 arr (HOB.out.ext HW1.out) (by rw [HCL1.out]; exact isz103) (by have := HF.out; omega) (HO1.out.rep.one) ?_; intro w2 hob2 hg2 hz2; have HOB2 := Lib.hid hob2; have HG2 := Lib.hid hg2; have HZ2 := Lib.hid hz2; clear hob2 hg2 hz2)
      go_roundw
      case rel =>
        have hfit : k * 9 + cs1.length ≤ arr.size := by have := HF.out; omega
        refine ⟨k + 1, _, by omega, by go_num, ?_, ?_, HOB2.out, by show _ = _; rw [splice_size hfit]; exact HAS.out, HP.out.step hgt HW1.out (GExpr.trs_get hlt) HO1.out HCL1.out HAS.out HG2.out HOB2.out⟩
        · exact grown_ext (hw.trans HW1.out) HG2.out (Nat.le_refl _)
        · have := HW1.out.size
          have := HZ2.out
          omega
      case measure => simp [intOf]; omega
    · have hkl : k = (GExpr.trs l).length := by rw [GExpr.trs_len]; omega
      go_wp2_with fail
      go_ret
      subst hkl
      have := (HP.out.done HOB.out (GExpr.sz l) (Nat.le_refl _) (by rw [GExpr.trs_len]; unfold maxLen; omega) (Nat.le_refl _)).mono (S' := Between w wr) fun x hx => ⟨hx.1, hx.2⟩
      rw [GExpr.trs_len] at this
      exact ⟨_, rfl, hw, this⟩

set_option maxRecDepth 100000 in
set_option maxHeartbeats 4000000 in
theorem copyExprP : ∀ x : GExpr, ToC 166 x.tr := by
  refine GExpr.ind fun k tn nm m ty xs rs ih5 ih6 => ?_; intro cs w hr hbk
  obtain ⟨x4, a5, c5, a6, c6, rfl, k0, k1, k2, k3, h4, h5, h6⟩ := GExpr.opened hr
  obtain ⟨y0, y1, y2, rfl⟩ := list3 (h4.length.symm.trans (GType.tr_len ty))
  have hpt := expr_parts k tn nm m ty xs rs
  have HCE := Lib.hid (copiesExpr_impl_of xs ih5)
  have HIA := Lib.hid ih6
  have HT4 := Lib.hid h4
  have HS5 := Lib.hid h5
  have HS6 := Lib.hid h6
  have K0 := Lib.hid k0
  have K1 := Lib.hid k1
  have K2 := Lib.hid k2
  have K3 := Lib.hid k3
  have HB4 : Hid (Tr.bulkL ty.tr ≤ 68719476736) := by show _ ≤ _; omega
  have HB5 : Hid ((GExpr.trs xs).length + Tr.bulkAll (GExpr.trs xs) ≤ 68719476736) := by show _ ≤ _; rw [GExpr.trs_len]; omega
  have HB6 : Hid (rs.length + Tr.bulkAll (GArm.trs rs) ≤ 68719476736) := by show _ ≤ _; omega
  have hal : rs.length ≤ 68719476736 := by omega
  have n0 : (0 : Int) ≤ rs.length := by omega
  clear hr hbk hpt ih5 ih6 k0 k1 k2 k3 h4 h5 h6
  simp only [List.cons_append, List.nil_append] at *
  have h2 := Two.new w 103 103 #[.int .i64 k, .string tn, .string nm, .int .i64 m, y0, y1, y2, .slice a5 xs.length c5, .slice a6 rs.length c6] #[.int .i64 0, .string ⟨#[]⟩, .string ⟨#[]⟩, .int .i64 0, .int .i64 0, .string ⟨#[]⟩, .slice none 0 0, .slice none 0 0, .slice none 0 0]
  have HA0 := Lib.hid h2.o0
  have HA1 := Lib.hid h2.o1
  have HX0 : Hid (Ext w ((w.alloc (.cells #[.int .i64 k, .string tn, .string nm, .int .i64 m, y0, y1, y2, .slice a5 xs.length c5, .slice a6 rs.length c6] 103)).alloc (.cells #[.int .i64 0, .string ⟨#[]⟩, .string ⟨#[]⟩, .int .i64 0, .int .i64 0, .string ⟨#[]⟩, .slice none 0 0, .slice none 0 0, .slice none 0 0] 103))) := .alloc (.alloc (.refl _) _) _
  have hz0 : ((w.alloc (.cells #[.int .i64 k, .string tn, .string nm, .int .i64 m, y0, y1, y2, .slice a5 xs.length c5, .slice a6 rs.length c6] 103)).alloc (.cells #[.int .i64 0, .string ⟨#[]⟩, .string ⟨#[]⟩, .int .i64 0, .int .i64 0, .string ⟨#[]⟩, .slice none 0 0, .slice none 0 0, .slice none 0 0] 103)).heap.size = w.heap.size + 1 + 1 := by simp only [World.size_alloc]
  clear h2
  go_enter Tryz.func166, Tryz.ntmps166
  go_wp2_with (refine wpList_load_rep rfl 47 (.tmp 6) rfl w.heap.size 4 rfl [y0, y1, y2] _ Tryz.underlying47 isz47 (fun j v hv => by rw [HA0.out.cell]; rcases j with _ | _ | _ | j <;> first | (simp at hv; done) | simpa using hv) ?_)
  refine (copyType_impl ty _ _ (HT4.out.ext HX0.out) HB4.out).mono ?_; rintro e w1 ⟨ct, rfl, hw1, ho1⟩
  obtain ⟨q0, q1, q2, rfl⟩ := list3 (ho1.1.trans (GType.tr_len ty))
  have HW1 := Lib.hid (HX0.out.trans hw1)
  have HB0 := Lib.hid (HA0.out.ext hw1)
  have HB1 := Lib.hid (HA1.out.ext hw1)
  have hz1 : w.heap.size + 1 + 1 ≤ w1.heap.size := by rw [← hz0]; exact hw1.size
  have HO1 := Lib.hid (ho1.mono (S' := fun x => w.heap.size + 1 + 1 ≤ x ∧ x < w1.heap.size) fun x hx => ⟨by rw [← hz0]; exact hx.1, hx.2⟩)
  clear hw1 ho1
  go_wp2_with (refine wpList_store_rep rfl 47 (.tmp 9) (.tmp 8) rfl w.heap.size 4 rfl [q0, q1, q2] rfl 103 _ HB0.out isz47 (by simp) HO1.out.rep.one ?_; intro w2 hob hg hz; have HOB2 := Lib.hid (show OB w2 w.heap.size 103 ⟨[.int .i64 k, .string tn, .string nm, .int .i64 m, q0, q1, q2, .slice a5 xs.length c5, .slice a6 rs.length c6]⟩ from hob); have HG2 := Lib.hid hg; have hz2 : w2.heap.size ≤ w1.heap.size ∧ w1.heap.size ≤ w2.heap.size := ⟨Nat.le_of_eq hz, Nat.le_of_eq (hz).symm⟩; have hce2 : w2.cell? ⟨w.heap.size, 7, none⟩ = some (.slice a5 xs.length c5) := (by rw [HOB2.out.cell]; rfl); clear hob hg hz)
  refine (HCE.out _ _ (HS5.out.ext (grown_ext HW1.out HG2.out (Nat.le_refl _))) HB5.out).mono ?_; rintro e w3 ⟨sx, rfl, hw3, ho3⟩
  obtain ⟨da, dc, rfl, -, -⟩ := ho3.rep.shape
  rw [GExpr.trs_len] at *
  have HW3 := Lib.hid ((grown_ext HW1.out HG2.out (Nat.le_refl _)).trans hw3)
  have HB3 := Lib.hid (HOB2.out.ext hw3)
  have HR3 := Lib.hid ((HB1.out.grown HG2.out (by omega)).ext hw3)
  have HO13 := Lib.hid ((HO1.out.keep (fun b hb hbl => HG2.out.block b hbl (by intro h; injection h with h; have := hb.1; omega))).ext hw3)
  have HO3 := Lib.hid ho3
  have hz3 : w2.heap.size ≤ w3.heap.size := hw3.size
  clear hw3 ho3
  go_wp2_with (first
    | (refine wpList_store_cell rfl 100 (.tmp 13) (.tmp 12) rfl w.heap.size 7 rfl (.slice da xs.length dc) rfl rfl 103 _ HB3.out isz100 (by simp) rfl ?_; intro w4 hob hg hz; have HOB4 := Lib.hid (show OB w4 w.heap.size 103 ⟨[.int .i64 k, .string tn, .string nm, .int .i64 m, q0, q1, q2, .slice da xs.length dc, .slice a6 rs.length c6]⟩ from hob); have HG4 := Lib.hid hg; have hz4 : w4.heap.size ≤ w3.heap.size ∧ w3.heap.size ≤ w4.heap.size := ⟨Nat.le_of_eq hz, Nat.le_of_eq (hz).symm⟩; have hce4 : w4.cell? ⟨w.heap.size, 8, none⟩ = some (.slice a6 rs.length c6) := (by rw [HOB4.out.cell]; rfl); clear hob hg hz)
    | (refine wpList_make_rep rfl 101 (.tmp 16) rfl rs.length rfl 229 Tryz.underlying101 11 184 iszb229 (by omega) (by omega) ?_; intro w5 arr0 ha0 hob0 hx0 hz0'; have HAR0 := Lib.hid ha0; have HOA0 := Lib.hid hob0; have HX5 := Lib.hid hx0; have hz5 : w5.heap.size ≤ w4.heap.size + 1 ∧ w4.heap.size + 1 ≤ w5.heap.size := ⟨Nat.le_of_eq hz0', Nat.le_of_eq hz0'.symm⟩; have hce5 : w5.cell? ⟨w.heap.size, 8, none⟩ = some (.slice a6 rs.length c6) := (by rw [(HOB4.out.ext HX5.out).cell]; rfl); clear ha0 hob0 hx0 hz0'))
  have HW4 : Hid (Ext w w4) := grown_ext HW3.out HG4.out (Nat.le_refl _)
  have HR4 := Lib.hid (HR3.out.grown HG4.out (by omega))
  have HO14 := Lib.hid (HO13.out.keep (w' := w4) (fun b hb hbl => HG4.out.block b hbl (by intro h; injection h with h; have := hb.1; omega)))
  have HO34 := Lib.hid (HO3.out.keep (w' := w4) (fun b hb hbl => HG4.out.block b hbl (by intro h; injection h with h; have h1 := hb.1; omega)))
  go_loopw [21] (fun iv wr => ∃ (i : Nat) (arr : Array Value), i ≤ rs.length ∧ iv = .int .i64 i ∧ Hid (Ext w4 wr) ∧ w4.heap.size < wr.heap.size ∧ Hid (OB wr w4.heap.size 229 arr) ∧ Hid (arr.size = (GArm.trs rs).length * 11) ∧ Hid (Part wr w4.heap.size arr 11 (GArm.trs rs) i)) (fun iv _ => rs.length - (intOf iv).toNat)
  case atStart => exact ⟨0, arr0, Nat.zero_le _, rfl, HX5.out, by omega, HOA0.out, by show _ = _; rw [GArm.trs_len]; exact HAR0.out, Part.zero _ _ _ _ _⟩
  case round =>
    obtain ⟨i, arr, hi, rfl, HX4, hgt, HOB, HAS, HP⟩ := hrel
    have hw := HW4.out.trans HX4.out
    by_cases hlt : i < rs.length
    · obtain ⟨b, off, cs, rfl, hb, hcs, hc⟩ := HS6.out.at2 (k := i) (GArm.trs_get hlt)
      have HM := Lib.hid (List.getElem_mem hlt)
      have HCS := Lib.hid hcs
      have HC := Lib.hid (cells_ext hw hb hc)
      have HI : Hid ((Tryz.prog.info? 229).map (·.size) = some cs.length) := by rw [← hcs.length, GArm.tr_len]; exact isz229
      have HCL : Hid (cs.length = 11) := by rw [← hcs.length, GArm.tr_len]; rfl
      clear hcs hc
      have HAG : Hid ((GArm.trs rs)[i]? = some (rs[i]).tr) := GArm.trs_get hlt
      have hbm := arm_bulk (List.getElem_mem hlt)
      have hbp := arm_parts rs[i]
      have hbt := HB6.out
      have HIH := Lib.hid (HIA.out _ HM.out)
      clear HM
      generalize rs[i] = x at *
      obtain ⟨vn, vs, bd⟩ := x
      simp only [GArm.gVars_mk, GArm.gBody_mk] at *
      have hvl : vs.length ≤ 68719476736 := by omega
      have hbb : Tr.bulkL bd.tr ≤ 68719476736 := by omega
      have HF : Hid (i * 11 + 11 ≤ arr.size) := by have h1 := HAS.out; rw [GArm.trs_len] at h1; show _ ≤ _; omega
      clear hbm hbp hbt
      go_wp2_with (first
        | (refine wpList_load_rep rfl 229 (.tmp 24) rfl b (off + i * 11) rfl cs _ Tryz.underlying229 HI.out HC.out ?_)
        | (refine wpList_store_rep rfl 229 (.tmp 5) (.tmp 25) rfl wr.heap.size 0 rfl cs rfl 229 _ (OB.new wr _ _) HI.out (by rw [HCL.out]; exact Nat.le_refl _) HCS.out.one ?_; intro wb hob hgb hzb; rw [splice_whole (by rw [HCL.out]; rfl)] at hob; obtain ⟨a1, d1, x2, rfl, g0, g1, g2⟩ := GArm.opened HCS.out; have HVN := Lib.hid g0; have HVS := Lib.hid g1; have HBD := Lib.hid g2; obtain ⟨e0, e1, e2, e3, e4, e5, e6, e7, e8, rfl⟩ := list9 (g2.length.symm.trans (GExpr.tr_len bd)); clear g0 g1 g2; simp only [List.cons_append, List.nil_append] at hob; have HOBV := Lib.hid hob; have HXB := Lib.hid (grown_ext (.alloc (.refl wr) _) hgb (Nat.le_refl _)); have hzw : wr.heap.size < wb.heap.size := hob.lt; clear hob hgb hzb))
      have HWB : Hid (Ext w wb) := hw.trans HXB.out
      refine wp_region_held_drew (S := fun W => Ext w W ∧ OB W wr.heap.size 229 ⟨[.string vn, .slice a1 vs.length d1, e0, e1, e2, e3, e4, e5, e6, e7, e8]⟩) (by kernel_rfl) ?_ (fun hHeld => ?_)
      · exact ⟨HWB.out.trans (.drew (.refl _)), HOBV.out.ext (.drew (.refl _))⟩
      refine wpAnyH_take (i := 0) rfl (by kernel_rfl) (by kernel_rfl) (by kernel_rfl) (fun _ _ _ h => h) (.inl ⟨rfl, fun _ _ => rfl⟩) (by assumption) ?_
      simp only [Act.put, List.getElem_toArray, List.getElem_cons_zero, List.setIfInBounds_toArray, List.set_cons_zero, List.set_cons_succ]
      refine wpAnyH_take (i := 1) rfl (by kernel_rfl) (by kernel_rfl) (by kernel_rfl) (fun _ _ _ h => h) (.inl ⟨rfl, fun _ _ => rfl⟩) (by assumption) ?_
      simp only [Act.put, List.getElem_toArray, List.getElem_cons_zero, List.getElem_cons_succ, List.setIfInBounds_toArray, List.set_cons_zero, List.set_cons_succ]
      refine wpAnyH_take (i := 2) rfl (by kernel_rfl) (by kernel_rfl) (by kernel_rfl) (fun _ _ _ h => h) (.inl ⟨rfl, fun _ _ => rfl⟩) (by assumption) ?_
      simp only [Act.put, List.getElem_toArray, List.getElem_cons_zero, List.getElem_cons_succ, List.setIfInBounds_toArray, List.set_cons_zero, List.set_cons_succ]
      refine wpAnyH_cell (i := 3) rfl (by kernel_rfl) (by kernel_rfl) (by kernel_rfl) rfl 9 (.tmp 28) rfl (wr.heap.size) (0) rfl (.string vn) _ Tryz.underlying9 rfl (fun W hW => by rw [hW.2.cell]; rfl) (by assumption) (fun _ _ _ _ h => h) ?_
      simp only [Act.put, List.getElem_toArray, List.getElem_cons_zero, List.getElem_cons_succ, List.setIfInBounds_toArray, List.set_cons_zero, List.set_cons_succ]
      refine wpAnyH_take (i := 4) rfl (by kernel_rfl) (by kernel_rfl) (by kernel_rfl) (fun _ _ _ h => h) (.inl ⟨rfl, fun _ _ => rfl⟩) (by assumption) ?_
      simp only [Act.put, List.getElem_toArray, List.getElem_cons_zero, List.getElem_cons_succ, List.setIfInBounds_toArray, List.set_cons_zero, List.set_cons_succ]
      refine wpAnyH_cell (i := 5) rfl (by kernel_rfl) (by kernel_rfl) (by kernel_rfl) rfl 54 (.tmp 30) rfl (wr.heap.size) (1) rfl (.slice a1 vs.length d1) _ Tryz.underlying54 rfl (fun W hW => by rw [hW.2.cell]; rfl) (by assumption) (fun _ _ _ _ h => h) ?_
      simp only [Act.put, List.getElem_toArray, List.getElem_cons_zero, List.getElem_cons_succ, List.setIfInBounds_toArray, List.set_cons_zero, List.set_cons_succ]
      refine wpAnyH_take (i := 7) rfl (by kernel_rfl) (by kernel_rfl) (by kernel_rfl) (fun _ _ _ h => h) (.inl ⟨rfl, fun _ _ => rfl⟩) (by assumption) ?_
      simp only [Act.put, List.getElem_toArray, List.getElem_cons_zero, List.getElem_cons_succ, List.setIfInBounds_toArray, List.set_cons_zero, List.set_cons_succ]
      refine wpAnyH_load_rep (i := 8) rfl (by kernel_rfl) (by kernel_rfl) (by kernel_rfl) (fun _ _ _ h => h) rfl 103 (.tmp 33) rfl (wr.heap.size) (2) rfl [e0, e1, e2, e3, e4, e5, e6, e7, e8] _ Tryz.underlying103 isz103 (fun W hW j u hu => by rw [hW.2.cell]; rcases j with _ | _ | _ | _ | _ | _ | _ | _ | _ | j <;> first | (simp at hu; done) | simpa using hu) (by assumption) (fun _ _ _ _ h => h) ?_
      simp only [Act.put, List.getElem_toArray, List.getElem_cons_zero, List.getElem_cons_succ, List.setIfInBounds_toArray, List.set_cons_zero, List.set_cons_succ]
      refine wpAnyH_append_nil (q := 6) (by kernel_rfl) rfl rfl 31 54 rfl rfl (.slice a1 vs.length d1) rfl 9 1 16 (strTrs vs) (HVS.out.ext (HWB.out.trans (.drew (.refl _)))) (strTrs_one vs) (by omega) (strTrs_leaf vs) el54 ze54 (by omega) (by rw [strTrs_len]; omega) ?_; intro u wn hxn hon
      have hs1 := (⟨hHeld.1.trans hxn, hHeld.2.ext hxn⟩ : Ext w wn ∧ OB wn wr.heap.size 229 ⟨[.string vn, .slice a1 vs.length d1, e0, e1, e2, e3, e4, e5, e6, e7, e8]⟩)
      refine ⟨hs1, ?_⟩
      obtain ⟨ua, uc, rfl, -, -⟩ := hon.rep.shape
      rw [strTrs_len] at *
      have HXN := Lib.hid hxn
      have HON := Lib.hid hon
      have hzn : wb.heap.size ≤ wn.heap.size := hxn.size
      clear hxn hon
      simp only [Act.put, List.getElem_toArray, List.getElem_cons_zero, List.getElem_cons_succ, List.setIfInBounds_toArray, List.set_cons_zero, List.set_cons_succ]
      refine wpAnyH_call (i := 9) (by kernel_rfl) rfl rfl (run_call_func rfl rfl #[.agg ⟨[e0, e1, e2, e3, e4, e5, e6, e7, e8]⟩] (by simp only [List.map_toArray, List.map_cons, List.map_nil, Act.eval]; rfl) Tryz.func166 (by kernel_rfl) (by kernel_rfl) _) (HIH.out _ _ (HBD.out.ext (HWB.out.trans (Ext.trans (.drew (.refl _)) HXN.out))) hbb) ?_; rintro e wc ⟨cb, rfl, hxc, hoc⟩
      have hs2 := (⟨hs1.1.trans hxc, hs1.2.ext hxc⟩ : Ext w wc ∧ OB wc wr.heap.size 229 ⟨[.string vn, .slice a1 vs.length d1, e0, e1, e2, e3, e4, e5, e6, e7, e8]⟩)
      refine ⟨_, rfl, hs2, ?_⟩
      obtain ⟨f0, f1, f2, f3, f4, f5, f6, f7, f8, rfl⟩ := list9 (hoc.1.trans (GExpr.tr_len _))
      have HXC := Lib.hid hxc
      have HOC := Lib.hid hoc
      have hzc : wn.heap.size ≤ wc.heap.size := hxc.size
      have hone : Hid (∀ v ∈ ([.string vn, .slice ua vs.length uc, f0, f1, f2, f3, f4, f5, f6, f7, f8] : List Value), v.oneCell' = true) := (fun v hv => by rcases List.mem_cons.1 hv with rfl | hv; exact rfl; rcases List.mem_cons.1 hv with rfl | hv; exact rfl; exact hoc.rep.one v hv)
      clear hxc hoc
      simp only [Act.put, List.getElem_toArray, List.getElem_cons_zero, List.getElem_cons_succ, List.setIfInBounds_toArray, List.set_cons_zero, List.set_cons_succ]
      refine wpAnyH_take (i := 10) (v := .agg ⟨[.string vn, .slice ua vs.length uc, f0, f1, f2, f3, f4, f5, f6, f7, f8]⟩) rfl (by kernel_rfl) (by kernel_rfl) (by kernel_rfl) (fun _ _ _ h => h) (.inl ⟨rfl, fun _ _ => by simp [execOp, go_sem]⟩) (by assumption) ?_
      simp only [Act.put, List.getElem_toArray, List.getElem_cons_zero, List.getElem_cons_succ, List.setIfInBounds_toArray, List.set_cons_zero, List.set_cons_succ]
      refine wpAnyH_index (i := 11) rfl (by kernel_rfl) (by kernel_rfl) (by kernel_rfl) rfl 101 (.tmp 26) (.tmp 27) rfl (w4.heap.size) (0) (rs.length) (rs.length) (i) (11) rfl rfl (hlt) Tryz.underlying101 (by kernel_rfl) (by assumption) (fun _ _ _ _ h => h) ?_
      simp only [Act.put, List.getElem_toArray, List.getElem_cons_zero, List.getElem_cons_succ, List.setIfInBounds_toArray, List.set_cons_zero, List.set_cons_succ]
      refine wpAnyH_store_rep (i := 12) (by kernel_rfl) rfl rfl 229 (.tmp 37) (.tmp 36) rfl (w4.heap.size) (0 + i * 11) rfl ([.string vn, .slice ua vs.length uc, f0, f1, f2, f3, f4, f5, f6, f7, f8]) rfl 229 arr (HOB.out.ext (HXB.out.trans (Ext.trans (.drew (.refl _)) (HXN.out.trans HXC.out)))) isz229 ((by have := HF.out; simp only [List.length_cons, List.length_nil]; omega)) (hone.out) ?_; intro w8 hob hgb hzb
      have hs3 := (⟨grown_ext hs2.1 hgb (by omega), hs2.2.grown hgb (by omega)⟩ : Ext w w8 ∧ OB w8 wr.heap.size 229 ⟨[.string vn, .slice a1 vs.length d1, e0, e1, e2, e3, e4, e5, e6, e7, e8]⟩)
      refine ⟨hs3, ?_⟩
      have HOB2 := Lib.hid hob
      have HG2 := Lib.hid hgb
      have hz2 : w8.heap.size ≤ wc.heap.size ∧ wc.heap.size ≤ w8.heap.size := ⟨Nat.le_of_eq hzb, Nat.le_of_eq (hzb).symm⟩
      clear hob hgb hzb
      simp only [Act.put, List.getElem_toArray, List.getElem_cons_zero, List.getElem_cons_succ, List.setIfInBounds_toArray, List.set_cons_zero, List.set_cons_succ]
      refine wpAnyH_done (by kernel_rfl) ?_ _
      clear hHeld hs1 hs2
      have HX8 : Hid (Ext wr wc) := HXB.out.trans (Ext.trans (.drew (.refl _)) (HXN.out.trans HXC.out))
      have HOA : Hid (OwnL wc (GArm.mk vn vs bd).tr [.string vn, .slice ua vs.length uc, f0, f1, f2, f3, f4, f5, f6, f7, f8] (Between wr wc)) := GArm.tr_own HVN.out (HON.out.ext HXC.out) HOC.out (fun x h1 h2 => by have h3 := h1.2; have h4 := h2.1; omega) (fun x hx => ⟨by have h3 : wb.heap.size ≤ x := hx.1; omega, by have := hx.2; omega⟩) (fun x hx => ⟨by have := hx.1; omega, hx.2⟩)
      go_wp2_with fail
      go_roundw
      case rel =>
        have hfit : i * 11 + ([.string vn, .slice ua vs.length uc, f0, f1, f2, f3, f4, f5, f6, f7, f8] : List Value).length ≤ arr.size := by have := HF.out; simp only [List.length_cons, List.length_nil]; omega
        have h0 : 0 + i * 11 = i * 11 := Nat.zero_add _
        have HOB3 := HOB2.out
        rw [h0] at HOB3
        refine ⟨i + 1, _, by omega, by go_num, ?_, by omega, HOB3, by show _ = _; rw [splice_size hfit]; exact HAS.out, HP.out.step hgt HX8.out HAG.out HOA.out rfl HAS.out HG2.out HOB3⟩
        exact grown_ext (HX4.out.trans HX8.out) HG2.out (Nat.le_refl _)
      case measure => simp [intOf]; omega
    · have hkl : i = (GArm.trs rs).length := by rw [GArm.trs_len]; omega
      have HOE : Hid (Own wr (.row 11 (GArm.trs rs)) (.slice (some ⟨w4.heap.size, 0, none⟩) rs.length rs.length) (Between w4 wr)) := by
        subst hkl
        have h1 := (HP.out.done HOB.out (GArm.sz rs) (Nat.le_refl _) (by rw [GArm.trs_len]; unfold maxLen; omega) (Nat.le_refl _)).mono (S' := Between w4 wr) fun x hx => ⟨hx.1, hx.2⟩
        rw [GArm.trs_len] at h1
        exact h1
      have HBW := Lib.hid (HOB4.out.ext HX4.out)
      have HRW := Lib.hid (HR4.out.ext HX4.out)
      have HO1W := Lib.hid (HO14.out.ext HX4.out)
      have HO3W := Lib.hid (HO34.out.ext HX4.out)
      have hone3 : Hid (∀ v ∈ ([.int .i64 k, .string tn, .string nm, .int .i64 m, q0, q1, q2, .slice da xs.length dc, .slice (some ⟨w4.heap.size, 0, none⟩) rs.length rs.length] : List Value), v.oneCell' = true) := fun v hv => by
        simp only [List.mem_cons, List.not_mem_nil, or_false] at hv
        rcases hv with rfl | rfl | rfl | rfl | rfl | rfl | rfl | rfl | rfl <;> first | rfl | (refine HO1W.out.rep.one _ ?_; simp; done)
      go_wp2_with (first
        | (refine wpList_store_cell rfl 101 (.tmp 40) (.tmp 39) rfl w.heap.size 8 rfl (.slice (some ⟨w4.heap.size, 0, none⟩) rs.length rs.length) rfl rfl 103 _ HBW.out isz101 (by simp) rfl ?_; intro w9 hob hg hz; have HOB9 := Lib.hid (show OB w9 w.heap.size 103 ⟨[.int .i64 k, .string tn, .string nm, .int .i64 m, q0, q1, q2, .slice da xs.length dc, .slice (some ⟨w4.heap.size, 0, none⟩) rs.length rs.length]⟩ from hob); have HG9 := Lib.hid hg; have hz9 : w9.heap.size ≤ wr.heap.size ∧ wr.heap.size ≤ w9.heap.size := ⟨Nat.le_of_eq hz, Nat.le_of_eq (hz).symm⟩; clear hob hg hz)
        | (refine wpList_load_rep rfl 103 (.tmp 1) rfl w.heap.size 0 rfl [.int .i64 k, .string tn, .string nm, .int .i64 m, q0, q1, q2, .slice da xs.length dc, .slice (some ⟨w4.heap.size, 0, none⟩) rs.length rs.length] _ Tryz.underlying103 isz103 (OB.cells0 HOB9.out) ?_)
        | (refine wpList_store_rep rfl 103 (.tmp 2) (.tmp 41) rfl (w.heap.size + 1) 0 rfl [.int .i64 k, .string tn, .string nm, .int .i64 m, q0, q1, q2, .slice da xs.length dc, .slice (some ⟨w4.heap.size, 0, none⟩) rs.length rs.length] rfl 103 _ (HRW.out.grown HG9.out (by omega)) isz103 (by simp) hone3.out ?_; intro wz hob hg hz; have HOBZ := Lib.hid (show OB wz (w.heap.size + 1) 103 ⟨[.int .i64 k, .string tn, .string nm, .int .i64 m, q0, q1, q2, .slice da xs.length dc, .slice (some ⟨w4.heap.size, 0, none⟩) rs.length rs.length]⟩ from hob); have HGZ := Lib.hid hg; have hzz : wz.heap.size ≤ w9.heap.size ∧ w9.heap.size ≤ wz.heap.size := ⟨Nat.le_of_eq hz, Nat.le_of_eq (hz).symm⟩; clear hob hg hz))
      have hxz : Ext w wz := grown_ext (grown_ext hw HG9.out (Nat.le_refl _)) HGZ.out (by omega)
      refine bodyPost_ret (results_cell_row Tryz.results166 _ _ (w.heap.size + 1) 103 ⟨[.int .i64 k, .string tn, .string nm, .int .i64 m, q0, q1, q2, .slice da xs.length dc, .slice (some ⟨w4.heap.size, 0, none⟩) rs.length rs.length]⟩ _ _ rfl HOBZ.out Tryz.underlying103 rfl isz103) rfl ⟨[.int .i64 k, .string tn, .string nm, .int .i64 m, q0, q1, q2, .slice da xs.length dc, .slice (some ⟨w4.heap.size, 0, none⟩) rs.length rs.length], rfl, hxz, ?_⟩
      have hk9 : Keeps (w.heap.size + 1 + 1) wr wz := Keeps.trans (Keeps.of_grown HG9.out (by omega)) (Keeps.of_grown HGZ.out (by omega))
      have o1 := HO1W.out.keeps hk9 (by intro x hx; exact hx.1)
      have o3 := HO3W.out.keeps hk9 (by intro x hx; have := hx.1; omega)
      have oa := HOE.out.keeps hk9 (by intro x hx; have := hx.1; omega)
      have hall := OwnL.cons_leaf K0.out (OwnL.cons_leaf K1.out (OwnL.cons_leaf K2.out (OwnL.cons_leaf K3.out (OwnL.append o1 (OwnL.append (OwnL.one o3) (OwnL.one oa) (fun x h1 h2 => by have h3 := h1.2; have h4 := h2.1; omega)) (fun x h1 h2 => by have h3 := h1.2; rcases h2 with h2 | h2 <;> (have h4 := h2.1; omega))))))
      exact hall.mono (by intro x hx; rcases hx with hx | hx | hx <;> (have h1 := hx.1; have h2 := hx.2; exact ⟨by omega, by omega⟩))
end Go.Proofs.YtnakkelglbcecaaGreat

namespace Go.Proofs.YtnakkelglbcecaaGreat
open Go.RowKit Go.Proofs

theorem nt_own {w : World} {n : ByteArray} {t : GType} {fs : List Value} {S : Nat → Prop} (hn : n.size ≤ maxLen) (h : OwnL w t.tr fs S) : OwnL w (.leaf (.string n) :: t.tr) (.string n :: fs) S := OwnL.cons_leaf (v := .string n) hn h
theorem bound_bulk {l : List GBound} {k : Nat} (hk : k < l.length) : Tr.bulkL (l[k]).gType.tr ≤ Tr.bulkAll (GBound.trs l) := by
  have h1 : k < (GBound.trs l).length := by rw [GBound.trs_len]; exact hk
  have h2 := Tr.bulkAll_le h1
  have h3 : (GBound.trs l)[k] = (l[k]).tr := by have h4 := GBound.trs_get hk; rw [List.getElem?_eq_getElem h1] at h4; exact Option.some.inj h4
  rw [h3] at h2
  generalize l[k] = x at h2 ⊢
  obtain ⟨v0, v1⟩ := x
  simp only [GBound.tr, Tr.bulkL_append, Tr.bulkL, Tr.bulk] at h2
  show Tr.bulkL v1.tr ≤ _
  omega
theorem param_bulk {l : List GParam} {k : Nat} (hk : k < l.length) : Tr.bulkL (l[k]).gType.tr ≤ Tr.bulkAll (GParam.trs l) := by
  have h1 : k < (GParam.trs l).length := by rw [GParam.trs_len]; exact hk
  have h2 := Tr.bulkAll_le h1
  have h3 : (GParam.trs l)[k] = (l[k]).tr := by have h4 := GParam.trs_get hk; rw [List.getElem?_eq_getElem h1] at h4; exact Option.some.inj h4
  rw [h3] at h2
  generalize l[k] = x at h2 ⊢
  obtain ⟨v0, v1⟩ := x
  simp only [GParam.tr, Tr.bulkL_append, Tr.bulkL, Tr.bulk] at h2
  show Tr.bulkL v1.tr ≤ _
  omega
theorem fn_parts (n : ByteArray) (vs : List ByteArray) (wh : List GBound) (ps : List GParam) (rt : GType) (bd : GExpr) : vs.length + (wh.length + Tr.bulkAll (GBound.trs wh)) + (ps.length + Tr.bulkAll (GParam.trs ps)) + Tr.bulkL rt.tr + Tr.bulkL bd.tr ≤ Tr.bulkL (GFunction.mk n vs wh ps rt bd).tr := by
  simp only [GFunction.tr, Tr.bulkL_append, Tr.bulkL, Tr.bulk, GBound.trs_len, GParam.trs_len, strTrs_len]
  omega
theorem GFunction.tr_own {w : World} {n : ByteArray} {vs : List ByteArray} {wh : List GBound} {ps : List GParam} {rt : GType} {bd : GExpr} {v b p : Value} {qs fs : List Value} {l1 h1 l2 h2 l3 h3 l4 h4 l5 h5 : Nat} (hn : n.size ≤ maxLen)
    (o1 : Own w (.row 1 (strTrs vs)) v (fun x => l1 ≤ x ∧ x < h1)) (o2 : Own w (.row 4 (GBound.trs wh)) b (fun x => l2 ≤ x ∧ x < h2)) (o3 : Own w (.row 4 (GParam.trs ps)) p (fun x => l3 ≤ x ∧ x < h3)) (o4 : OwnL w rt.tr qs (fun x => l4 ≤ x ∧ x < h4)) (o5 : OwnL w bd.tr fs (fun x => l5 ≤ x ∧ x < h5))
    (c1 : l1 ≤ h1) (c2 : l2 ≤ h2) (c3 : l3 ≤ h3) (c4 : l4 ≤ h4) (c5 : l5 ≤ h5) (a1 : h1 ≤ l2) (a2 : h2 ≤ l3) (a3 : h3 ≤ l4) (a4 : h4 ≤ l5) : OwnL w (GFunction.mk n vs wh ps rt bd).tr (.string n :: v :: b :: p :: (qs ++ fs)) (fun x => l1 ≤ x ∧ x < h5) := by
  have h45 := OwnL.append o4 o5 (fun x hx hy => by have := hx.2; have := hy.1; omega)
  have h345 := OwnL.append (OwnL.one o3) h45 (fun x hx hy => by have := hx.2; rcases hy with hy | hy <;> (have := hy.1; omega))
  have h2345 := OwnL.append (OwnL.one o2) h345 (fun x hx hy => by have := hx.2; rcases hy with hy | hy | hy <;> (have := hy.1; omega))
  have h12345 := OwnL.cons_leaf (v := .string n) hn (OwnL.append (OwnL.one o1) h2345 (fun x hx hy => by have := hx.2; rcases hy with hy | hy | hy | hy <;> (have := hy.1; omega)))
  have h6 := h12345.mono (S' := fun x => l1 ≤ x ∧ x < h5) fun x hx => by rcases hx with hx | hx | hx | hx | hx <;> (have := hx.1; have := hx.2; exact ⟨by omega, by omega⟩)
  simpa [GFunction.tr] using h6

set_option maxRecDepth 100000 in
set_option maxHeartbeats 4000000 in
theorem copiesBoundP (l : List GBound) : ToSC 174 4 (GBound.trs l) := by
  intro s w hs hbk
  obtain ⟨a, cap, rfl, hl, hm⟩ := hs.shape
  rw [GBound.trs_len] at *
  unfold maxLen at hm
  have HS := Lib.hid hs
  have HBB : Hid (l.length + Tr.bulkAll (GBound.trs l) ≤ 68719476736) := hbk
  have HWB0 : Hid (Ext w w) := .refl _
  have n0 : (0 : Int) ≤ l.length := by omega
  have hll : l.length ≤ 68719476736 := by omega
  clear hs hbk
  go_enter Tryz.func174, Tryz.ntmps174
  go_wp2_with (refine wpList_make_rep rfl 82 (.tmp 7) rfl l.length rfl 49 Tryz.underlying82 4 64 iszb49 (by omega) (by omega) ?_; intro wm arr0 ha0 hob0 hx0 hz0; have HAR0 := Lib.hid ha0; have HOA0 := Lib.hid hob0; have HX5 := Lib.hid hx0; have hz5 : wm.heap.size ≤ w.heap.size + 1 ∧ w.heap.size + 1 ≤ wm.heap.size := ⟨Nat.le_of_eq hz0, Nat.le_of_eq hz0.symm⟩; clear ha0 hob0 hx0 hz0)
  go_loopw [11] (fun iv wr => ∃ (i : Nat) (arr : Array Value), i ≤ l.length ∧ iv = .int .i64 i ∧ Hid (Ext w wr) ∧ w.heap.size < wr.heap.size ∧ Hid (OB wr w.heap.size 49 arr) ∧ Hid (arr.size = (GBound.trs l).length * 4) ∧ Hid (Part wr w.heap.size arr 4 (GBound.trs l) i)) (fun iv _ => l.length - (intOf iv).toNat)
  case atStart => exact ⟨0, arr0, Nat.zero_le _, rfl, HX5.out, by omega, HOA0.out, by show _ = _; rw [GBound.trs_len]; exact HAR0.out, Part.zero _ _ _ _ _⟩
  case round =>
    obtain ⟨i, arr, hi, rfl, HX4, hgt, HOB, HAS, HP⟩ := hrel
    have hw := HWB0.out.trans HX4.out
    by_cases hlt : i < l.length
    · obtain ⟨b, off, cs, rfl, hb, hcs, hc⟩ := HS.out.at2 (k := i) (GBound.trs_get hlt)
      have HM := Lib.hid (List.getElem_mem hlt)
      have HCS := Lib.hid hcs
      have HC := Lib.hid (cells_ext hw hb hc)
      have HI : Hid ((Tryz.prog.info? 49).map (·.size) = some cs.length) := by rw [← hcs.length, GBound.tr_len]; exact isz49
      have HCL : Hid (cs.length = 4) := by rw [← hcs.length, GBound.tr_len]; rfl
      clear hcs hc
      have HAG : Hid ((GBound.trs l)[i]? = some (l[i]).tr) := GBound.trs_get hlt
      have hbm := bound_bulk hlt
      have hbt := HBB.out
      clear HM
      generalize l[i] = x at *
      obtain ⟨vn, vt⟩ := x
      simp only [GBound.gType_mk] at hbm
      have hbb : Tr.bulkL vt.tr ≤ 68719476736 := by omega
      have HF : Hid (i * 4 + 4 ≤ arr.size) := by have h1 := HAS.out; rw [GBound.trs_len] at h1; show _ ≤ _; omega
      clear hbm hbt
      go_wp2_with (first
        | (refine wpList_load_rep rfl 49 (.tmp 14) rfl b (off + i * 4) rfl cs _ Tryz.underlying49 HI.out HC.out ?_)
        | (refine wpList_store_rep rfl 49 (.tmp 5) (.tmp 15) rfl wr.heap.size 0 rfl cs rfl 49 _ (OB.new wr _ _) HI.out (by rw [HCL.out]; exact Nat.le_refl _) HCS.out.one ?_; intro wb hob hgb hzb; rw [splice_whole (by rw [HCL.out]; rfl)] at hob; obtain ⟨x1, rfl, g0, g1⟩ := GBound.opened HCS.out; have HVN := Lib.hid g0; have HVT := Lib.hid g1; obtain ⟨e0, e1, e2, rfl⟩ := list3 (g1.length.symm.trans (GType.tr_len vt)); clear g0 g1; simp only [List.cons_append, List.nil_append] at hob; have HOBV := Lib.hid hob; have HXB := Lib.hid (grown_ext (.alloc (.refl wr) _) hgb (Nat.le_refl _)); have hzw : wr.heap.size < wb.heap.size := hob.lt; clear hob hgb hzb))
      have HWB : Hid (Ext w wb) := hw.trans HXB.out
      refine wp_region_held_drew (S := fun W => Ext w W ∧ OB W wr.heap.size 49 ⟨[.string vn, e0, e1, e2]⟩) (by kernel_rfl) ?_ (fun hHeld => ?_)
      · exact ⟨HWB.out.trans (.drew (.refl _)), HOBV.out.ext (.drew (.refl _))⟩
      refine wpAnyH_take (i := 0) rfl (by kernel_rfl) (by kernel_rfl) (by kernel_rfl) (fun _ _ _ h => h) (.inl ⟨rfl, fun _ _ => rfl⟩) (by assumption) ?_
      simp only [Act.put, List.getElem_toArray, List.getElem_cons_zero, List.setIfInBounds_toArray, List.set_cons_zero, List.set_cons_succ]
      refine wpAnyH_take (i := 1) rfl (by kernel_rfl) (by kernel_rfl) (by kernel_rfl) (fun _ _ _ h => h) (.inl ⟨rfl, fun _ _ => rfl⟩) (by assumption) ?_
      simp only [Act.put, List.getElem_toArray, List.getElem_cons_zero, List.getElem_cons_succ, List.setIfInBounds_toArray, List.set_cons_zero, List.set_cons_succ]
      refine wpAnyH_take (i := 2) rfl (by kernel_rfl) (by kernel_rfl) (by kernel_rfl) (fun _ _ _ h => h) (.inl ⟨rfl, fun _ _ => rfl⟩) (by assumption) ?_
      simp only [Act.put, List.getElem_toArray, List.getElem_cons_zero, List.getElem_cons_succ, List.setIfInBounds_toArray, List.set_cons_zero, List.set_cons_succ]
      refine wpAnyH_cell (i := 3) rfl (by kernel_rfl) (by kernel_rfl) (by kernel_rfl) rfl 9 (.tmp 18) rfl (wr.heap.size) (0) rfl (.string vn) _ Tryz.underlying9 rfl (fun W hW => by rw [hW.2.cell]; rfl) (by assumption) (fun _ _ _ _ h => h) ?_
      simp only [Act.put, List.getElem_toArray, List.getElem_cons_zero, List.getElem_cons_succ, List.setIfInBounds_toArray, List.set_cons_zero, List.set_cons_succ]
      refine wpAnyH_take (i := 4) rfl (by kernel_rfl) (by kernel_rfl) (by kernel_rfl) (fun _ _ _ h => h) (.inl ⟨rfl, fun _ _ => rfl⟩) (by assumption) ?_
      simp only [Act.put, List.getElem_toArray, List.getElem_cons_zero, List.getElem_cons_succ, List.setIfInBounds_toArray, List.set_cons_zero, List.set_cons_succ]
      refine wpAnyH_load_rep (i := 5) rfl (by kernel_rfl) (by kernel_rfl) (by kernel_rfl) (fun _ _ _ h => h) rfl 47 (.tmp 20) rfl (wr.heap.size) (1) rfl [e0, e1, e2] _ Tryz.underlying47 isz47 (fun W hW j u hu => by rw [hW.2.cell]; rcases j with _ | _ | _ | j <;> first | (simp at hu; done) | simpa using hu) (by assumption) (fun _ _ _ _ h => h) ?_
      simp only [Act.put, List.getElem_toArray, List.getElem_cons_zero, List.getElem_cons_succ, List.setIfInBounds_toArray, List.set_cons_zero, List.set_cons_succ]
      refine wpAnyH_call (i := 6) (by kernel_rfl) rfl rfl (run_call_func rfl rfl #[.agg ⟨[e0, e1, e2]⟩] (by simp only [List.map_toArray, List.map_cons, List.map_nil, Act.eval]; rfl) Tryz.func111 (by kernel_rfl) (by kernel_rfl) _) (copyType_impl vt _ _ (HVT.out.ext (HWB.out.trans (.drew (.refl _)))) hbb) ?_; rintro e wc ⟨ct, rfl, hxc, hoc⟩
      have hs1 := (⟨hHeld.1.trans hxc, hHeld.2.ext hxc⟩ : Ext w wc ∧ OB wc wr.heap.size 49 ⟨[.string vn, e0, e1, e2]⟩)
      refine ⟨_, rfl, hs1, ?_⟩
      obtain ⟨f0, f1, f2, rfl⟩ := list3 (hoc.1.trans (GType.tr_len _))
      have HXC := Lib.hid hxc
      have HOC := Lib.hid hoc
      have hzc : wb.heap.size ≤ wc.heap.size := hxc.size
      have hone : Hid (∀ v ∈ ([.string vn, f0, f1, f2] : List Value), v.oneCell' = true) := (fun v hv => by rcases List.mem_cons.1 hv with rfl | hv; exact rfl; exact hoc.rep.one v hv)
      clear hxc hoc
      simp only [Act.put, List.getElem_toArray, List.getElem_cons_zero, List.getElem_cons_succ, List.setIfInBounds_toArray, List.set_cons_zero, List.set_cons_succ]
      refine wpAnyH_take (i := 7) (v := .agg ⟨[.string vn, f0, f1, f2]⟩) rfl (by kernel_rfl) (by kernel_rfl) (by kernel_rfl) (fun _ _ _ h => h) (.inl ⟨rfl, fun _ _ => by simp [execOp, go_sem]⟩) (by assumption) ?_
      simp only [Act.put, List.getElem_toArray, List.getElem_cons_zero, List.getElem_cons_succ, List.setIfInBounds_toArray, List.set_cons_zero, List.set_cons_succ]
      refine wpAnyH_index (i := 8) rfl (by kernel_rfl) (by kernel_rfl) (by kernel_rfl) rfl 82 (.tmp 16) (.tmp 17) rfl (w.heap.size) (0) (l.length) (l.length) (i) (4) rfl rfl (hlt) Tryz.underlying82 (by kernel_rfl) (by assumption) (fun _ _ _ _ h => h) ?_
      simp only [Act.put, List.getElem_toArray, List.getElem_cons_zero, List.getElem_cons_succ, List.setIfInBounds_toArray, List.set_cons_zero, List.set_cons_succ]
      refine wpAnyH_store_rep (i := 9) (by kernel_rfl) rfl rfl 49 (.tmp 24) (.tmp 23) rfl (w.heap.size) (0 + i * 4) rfl ([.string vn, f0, f1, f2]) rfl 49 arr (HOB.out.ext (HXB.out.trans (Ext.trans (.drew (.refl _)) HXC.out))) isz49 ((by have := HF.out; simp only [List.length_cons, List.length_nil]; omega)) (hone.out) ?_; intro w8 hob hgb hzb
      have hs2 := (⟨grown_ext hs1.1 hgb (by omega), hs1.2.grown hgb (by omega)⟩ : Ext w w8 ∧ OB w8 wr.heap.size 49 ⟨[.string vn, e0, e1, e2]⟩)
      refine ⟨hs2, ?_⟩
      have HOB2 := Lib.hid hob
      have HG2 := Lib.hid hgb
      have hz2 : w8.heap.size ≤ wc.heap.size ∧ wc.heap.size ≤ w8.heap.size := ⟨Nat.le_of_eq hzb, Nat.le_of_eq (hzb).symm⟩
      clear hob hgb hzb
      simp only [Act.put, List.getElem_toArray, List.getElem_cons_zero, List.getElem_cons_succ, List.setIfInBounds_toArray, List.set_cons_zero, List.set_cons_succ]
      refine wpAnyH_done (by kernel_rfl) ?_ _
      clear hHeld hs1
      have HX8 : Hid (Ext wr wc) := HXB.out.trans (Ext.trans (.drew (.refl _)) HXC.out)
      have HOA : Hid (OwnL wc (GBound.mk vn vt).tr [.string vn, f0, f1, f2] (Between wr wc)) := by
        have h1 := (nt_own HVN.out HOC.out).mono (S' := Between wr wc) fun x hx => ⟨by have h3 : wb.heap.size ≤ x := hx.1; omega, hx.2⟩
        show OwnL _ _ _ _
        simpa [GBound.tr] using h1
      go_wp2_with fail
      go_roundw
      case rel =>
        have hfit : i * 4 + ([.string vn, f0, f1, f2] : List Value).length ≤ arr.size := by have := HF.out; simp only [List.length_cons, List.length_nil]; omega
        have h0 : 0 + i * 4 = i * 4 := Nat.zero_add _
        have HOB3 := HOB2.out
        rw [h0] at HOB3
        refine ⟨i + 1, _, by omega, by go_num, ?_, by omega, HOB3, by show _ = _; rw [splice_size hfit]; exact HAS.out, HP.out.step hgt HX8.out HAG.out HOA.out rfl HAS.out HG2.out HOB3⟩
        exact grown_ext (HX4.out.trans HX8.out) HG2.out (Nat.le_refl _)
      case measure => simp [intOf]; omega
    · have hkl : i = (GBound.trs l).length := by rw [GBound.trs_len]; omega
      have HOE : Hid (Own wr (.row 4 (GBound.trs l)) (.slice (some ⟨w.heap.size, 0, none⟩) l.length l.length) (Between w wr)) := by
        subst hkl
        have h1 := (HP.out.done HOB.out (GBound.sz l) (Nat.le_refl _) (by rw [GBound.trs_len]; unfold maxLen; omega) (Nat.le_refl _)).mono (S' := Between w wr) fun x hx => ⟨hx.1, hx.2⟩
        rw [GBound.trs_len] at h1
        exact h1
      go_wp2_with fail
      go_ret
      exact ⟨_, rfl, hw, HOE.out⟩

set_option maxRecDepth 100000 in
set_option maxHeartbeats 4000000 in
theorem copyFunctionP (x : GFunction) : ToC 128 x.tr := by
  obtain ⟨nm, vs, wh, ps, rt, bd⟩ := x
  intro cs w hr hbk
  obtain ⟨a1, c1, a2, c2, a3, c3, x4, x5, rfl, k0, k1, k2, k3, k4, k5⟩ := GFunction.opened hr
  obtain ⟨y0, y1, y2, rfl⟩ := list3 (k4.length.symm.trans (GType.tr_len rt))
  obtain ⟨g0, g1, g2, g3, g4, g5, g6, g7, g8, rfl⟩ := list9 (k5.length.symm.trans (GExpr.tr_len bd))
  have hpt := fn_parts nm vs wh ps rt bd
  have HS1 := Lib.hid k1
  have HS2 := Lib.hid k2
  have HS3 := Lib.hid k3
  have HT4 := Lib.hid k4
  have HE5 := Lib.hid k5
  have K0 := Lib.hid k0
  have hvl : vs.length ≤ 68719476736 := by omega
  have HB2 : Hid (wh.length + Tr.bulkAll (GBound.trs wh) ≤ 68719476736) := by show _ ≤ _; omega
  have HB3 : Hid (ps.length + Tr.bulkAll (GParam.trs ps) ≤ 68719476736) := by show _ ≤ _; omega
  have HB4 : Hid (Tr.bulkL rt.tr ≤ 68719476736) := by show _ ≤ _; omega
  have HB5 : Hid (Tr.bulkL bd.tr ≤ 68719476736) := by show _ ≤ _; omega
  have hpl : ps.length ≤ 68719476736 := by omega
  have n0 : (0 : Int) ≤ ps.length := by omega
  clear hr hbk hpt k0 k1 k2 k3 k4 k5
  simp only [List.cons_append, List.nil_append] at *
  have h2 := Two.new w 105 105 #[.string nm, .slice a1 vs.length c1, .slice a2 wh.length c2, .slice a3 ps.length c3, y0, y1, y2, g0, g1, g2, g3, g4, g5, g6, g7, g8] #[.string ⟨#[]⟩, .slice none 0 0, .slice none 0 0, .slice none 0 0, .int .i64 0, .string ⟨#[]⟩, .slice none 0 0, .int .i64 0, .string ⟨#[]⟩, .string ⟨#[]⟩, .int .i64 0, .int .i64 0, .string ⟨#[]⟩, .slice none 0 0, .slice none 0 0, .slice none 0 0]
  have HA0 := Lib.hid h2.o0
  have HA1 := Lib.hid h2.o1
  have HX0 : Hid (Ext w ((w.alloc (.cells #[.string nm, .slice a1 vs.length c1, .slice a2 wh.length c2, .slice a3 ps.length c3, y0, y1, y2, g0, g1, g2, g3, g4, g5, g6, g7, g8] 105)).alloc (.cells #[.string ⟨#[]⟩, .slice none 0 0, .slice none 0 0, .slice none 0 0, .int .i64 0, .string ⟨#[]⟩, .slice none 0 0, .int .i64 0, .string ⟨#[]⟩, .string ⟨#[]⟩, .int .i64 0, .int .i64 0, .string ⟨#[]⟩, .slice none 0 0, .slice none 0 0, .slice none 0 0] 105))) := .alloc (.alloc (.refl _) _) _
  have hz0 : ((w.alloc (.cells #[.string nm, .slice a1 vs.length c1, .slice a2 wh.length c2, .slice a3 ps.length c3, y0, y1, y2, g0, g1, g2, g3, g4, g5, g6, g7, g8] 105)).alloc (.cells #[.string ⟨#[]⟩, .slice none 0 0, .slice none 0 0, .slice none 0 0, .int .i64 0, .string ⟨#[]⟩, .slice none 0 0, .int .i64 0, .string ⟨#[]⟩, .string ⟨#[]⟩, .int .i64 0, .int .i64 0, .string ⟨#[]⟩, .slice none 0 0, .slice none 0 0, .slice none 0 0] 105)).heap.size = w.heap.size + 1 + 1 := by simp only [World.size_alloc]
  clear h2
  go_enter Tryz.func128, Tryz.ntmps128
  go_wp2_with fail
  refine (copyNamesP vs _ _ (HS1.out.ext HX0.out) hvl).mono ?_; rintro e w1 ⟨sv, rfl, hw1, ho1⟩
  obtain ⟨sa, sc, rfl, -, -⟩ := ho1.rep.shape
  rw [strTrs_len] at *
  have HW1 := Lib.hid (HX0.out.trans hw1)
  have HB0 := Lib.hid (HA0.out.ext hw1)
  have HB1 := Lib.hid (HA1.out.ext hw1)
  have hz1 : w.heap.size + 1 + 1 ≤ w1.heap.size := by rw [← hz0]; exact hw1.size
  have HO1 := Lib.hid (ho1.mono (S' := fun x => w.heap.size + 1 + 1 ≤ x ∧ x < w1.heap.size) fun x hx => ⟨by rw [← hz0]; exact hx.1, hx.2⟩)
  clear hw1 ho1
  go_wp2_with (refine wpList_store_cell rfl 54 (.tmp 9) (.tmp 8) rfl w.heap.size 1 rfl (.slice sa vs.length sc) rfl rfl 105 _ HB0.out isz54 (by simp) rfl ?_; intro w2 hob hg hz; have HOB2 := Lib.hid (show OB w2 w.heap.size 105 ⟨[.string nm, .slice sa vs.length sc, .slice a2 wh.length c2, .slice a3 ps.length c3, y0, y1, y2, g0, g1, g2, g3, g4, g5, g6, g7, g8]⟩ from hob); have HG2 := Lib.hid hg; have hz2 : w2.heap.size ≤ w1.heap.size ∧ w1.heap.size ≤ w2.heap.size := ⟨Nat.le_of_eq hz, Nat.le_of_eq (hz).symm⟩; have hce2 : w2.cell? ⟨w.heap.size, 2, none⟩ = some (.slice a2 wh.length c2) := (by rw [HOB2.out.cell]; rfl); clear hob hg hz)
  have HW2 : Hid (Ext w w2) := grown_ext HW1.out HG2.out (Nat.le_refl _)
  refine (copiesBoundP wh _ _ (HS2.out.ext HW2.out) (by rw [GBound.trs_len]; exact HB2.out)).mono ?_; rintro e w3 ⟨bv, rfl, hw3, ho3⟩
  obtain ⟨ba, bc, rfl, -, -⟩ := ho3.rep.shape
  rw [GBound.trs_len] at *
  have HW3 := Lib.hid (HW2.out.trans hw3)
  have HB3' := Lib.hid (HOB2.out.ext hw3)
  have HR3 := Lib.hid ((HB1.out.grown HG2.out (by omega)).ext hw3)
  have hz3 : w2.heap.size ≤ w3.heap.size := hw3.size
  have HXW3 := Lib.hid hw3
  have HO3 := Lib.hid ho3
  clear hw3 ho3
  go_wp2_with (first
    | (refine wpList_store_cell rfl 82 (.tmp 13) (.tmp 12) rfl w.heap.size 2 rfl (.slice ba wh.length bc) rfl rfl 105 _ HB3'.out isz82 (by simp) rfl ?_; intro w4 hob hg hz; have HOB4 := Lib.hid (show OB w4 w.heap.size 105 ⟨[.string nm, .slice sa vs.length sc, .slice ba wh.length bc, .slice a3 ps.length c3, y0, y1, y2, g0, g1, g2, g3, g4, g5, g6, g7, g8]⟩ from hob); have HG4 := Lib.hid hg; have hz4 : w4.heap.size ≤ w3.heap.size ∧ w3.heap.size ≤ w4.heap.size := ⟨Nat.le_of_eq hz, Nat.le_of_eq (hz).symm⟩; have hce4 : w4.cell? ⟨w.heap.size, 3, none⟩ = some (.slice a3 ps.length c3) := (by rw [HOB4.out.cell]; rfl); clear hob hg hz)
    | (refine wpList_make_rep rfl 99 (.tmp 16) rfl ps.length rfl 199 Tryz.underlying99 4 64 iszb199 (by omega) (by omega) ?_; intro w5 arr0 ha0 hob0 hx0 hz0'; have HAR0 := Lib.hid ha0; have HOA0 := Lib.hid hob0; have HX5 := Lib.hid hx0; have hz5 : w5.heap.size ≤ w4.heap.size + 1 ∧ w4.heap.size + 1 ≤ w5.heap.size := ⟨Nat.le_of_eq hz0', Nat.le_of_eq hz0'.symm⟩; have hce5 : w5.cell? ⟨w.heap.size, 3, none⟩ = some (.slice a3 ps.length c3) := (by rw [(HOB4.out.ext HX5.out).cell]; rfl); clear ha0 hob0 hx0 hz0'))
  have HWB0 : Hid (Ext w w4) := grown_ext HW3.out HG4.out (Nat.le_refl _)
  have HR4 := Lib.hid (HR3.out.grown HG4.out (by omega))
  have K14 : Hid (Keeps (w.heap.size + 1 + 1) w1 w4) := Keeps.trans (Keeps.of_grown HG2.out (by omega)) (Keeps.trans (Keeps.of_ext HXW3.out) (Keeps.of_grown HG4.out (by omega)))
  have HO14 := Lib.hid (HO1.out.keeps K14.out (fun x hx => hx.1))
  have HO34 := Lib.hid (HO3.out.keep (w' := w4) (fun b hb hbl => HG4.out.block b hbl (by intro h; injection h with h; have h1 := hb.1; omega)))
  go_loopw [21] (fun iv wr => ∃ (i : Nat) (arr : Array Value), i ≤ ps.length ∧ iv = .int .i64 i ∧ Hid (Ext w4 wr) ∧ w4.heap.size < wr.heap.size ∧ Hid (OB wr w4.heap.size 199 arr) ∧ Hid (arr.size = (GParam.trs ps).length * 4) ∧ Hid (Part wr w4.heap.size arr 4 (GParam.trs ps) i)) (fun iv _ => ps.length - (intOf iv).toNat)
  case atStart => exact ⟨0, arr0, Nat.zero_le _, rfl, HX5.out, by omega, HOA0.out, by show _ = _; rw [GParam.trs_len]; exact HAR0.out, Part.zero _ _ _ _ _⟩
  case round =>
    obtain ⟨i, arr, hi, rfl, HX4, hgt, HOB, HAS, HP⟩ := hrel
    have hw := HWB0.out.trans HX4.out
    by_cases hlt : i < ps.length
    · obtain ⟨b, off, cs, rfl, hb, hcs, hc⟩ := HS3.out.at2 (k := i) (GParam.trs_get hlt)
      have HM := Lib.hid (List.getElem_mem hlt)
      have HCS := Lib.hid hcs
      have HC := Lib.hid (cells_ext hw hb hc)
      have HI : Hid ((Tryz.prog.info? 199).map (·.size) = some cs.length) := by rw [← hcs.length, GParam.tr_len]; exact isz199
      have HCL : Hid (cs.length = 4) := by rw [← hcs.length, GParam.tr_len]; rfl
      clear hcs hc
      have HAG : Hid ((GParam.trs ps)[i]? = some (ps[i]).tr) := GParam.trs_get hlt
      have hbm := param_bulk hlt
      have hbt := HB3.out
      clear HM
      generalize ps[i] = x at *
      obtain ⟨vn, vt⟩ := x
      simp only [GParam.gType_mk] at hbm
      have hbb : Tr.bulkL vt.tr ≤ 68719476736 := by omega
      have HF : Hid (i * 4 + 4 ≤ arr.size) := by have h1 := HAS.out; rw [GParam.trs_len] at h1; show _ ≤ _; omega
      clear hbm hbt
      go_wp2_with (first
        | (refine wpList_load_rep rfl 199 (.tmp 24) rfl b (off + i * 4) rfl cs _ Tryz.underlying199 HI.out HC.out ?_)
        | (refine wpList_store_rep rfl 199 (.tmp 5) (.tmp 25) rfl wr.heap.size 0 rfl cs rfl 199 _ (OB.new wr _ _) HI.out (by rw [HCL.out]; exact Nat.le_refl _) HCS.out.one ?_; intro wb hob hgb hzb; rw [splice_whole (by rw [HCL.out]; rfl)] at hob; obtain ⟨x1, rfl, g0, g1⟩ := GParam.opened HCS.out; have HVN := Lib.hid g0; have HVT := Lib.hid g1; obtain ⟨e0, e1, e2, rfl⟩ := list3 (g1.length.symm.trans (GType.tr_len vt)); clear g0 g1; simp only [List.cons_append, List.nil_append] at hob; have HOBV := Lib.hid hob; have HXB := Lib.hid (grown_ext (.alloc (.refl wr) _) hgb (Nat.le_refl _)); have hzw : wr.heap.size < wb.heap.size := hob.lt; clear hob hgb hzb))
      have HWB : Hid (Ext w wb) := hw.trans HXB.out
      refine wp_region_held_drew (S := fun W => Ext w W ∧ OB W wr.heap.size 199 ⟨[.string vn, e0, e1, e2]⟩) (by kernel_rfl) ?_ (fun hHeld => ?_)
      · exact ⟨HWB.out.trans (.drew (.refl _)), HOBV.out.ext (.drew (.refl _))⟩
      refine wpAnyH_take (i := 0) rfl (by kernel_rfl) (by kernel_rfl) (by kernel_rfl) (fun _ _ _ h => h) (.inl ⟨rfl, fun _ _ => rfl⟩) (by assumption) ?_
      simp only [Act.put, List.getElem_toArray, List.getElem_cons_zero, List.setIfInBounds_toArray, List.set_cons_zero, List.set_cons_succ]
      refine wpAnyH_take (i := 1) rfl (by kernel_rfl) (by kernel_rfl) (by kernel_rfl) (fun _ _ _ h => h) (.inl ⟨rfl, fun _ _ => rfl⟩) (by assumption) ?_
      simp only [Act.put, List.getElem_toArray, List.getElem_cons_zero, List.getElem_cons_succ, List.setIfInBounds_toArray, List.set_cons_zero, List.set_cons_succ]
      refine wpAnyH_take (i := 2) rfl (by kernel_rfl) (by kernel_rfl) (by kernel_rfl) (fun _ _ _ h => h) (.inl ⟨rfl, fun _ _ => rfl⟩) (by assumption) ?_
      simp only [Act.put, List.getElem_toArray, List.getElem_cons_zero, List.getElem_cons_succ, List.setIfInBounds_toArray, List.set_cons_zero, List.set_cons_succ]
      refine wpAnyH_cell (i := 3) rfl (by kernel_rfl) (by kernel_rfl) (by kernel_rfl) rfl 9 (.tmp 28) rfl (wr.heap.size) (0) rfl (.string vn) _ Tryz.underlying9 rfl (fun W hW => by rw [hW.2.cell]; rfl) (by assumption) (fun _ _ _ _ h => h) ?_
      simp only [Act.put, List.getElem_toArray, List.getElem_cons_zero, List.getElem_cons_succ, List.setIfInBounds_toArray, List.set_cons_zero, List.set_cons_succ]
      refine wpAnyH_take (i := 4) rfl (by kernel_rfl) (by kernel_rfl) (by kernel_rfl) (fun _ _ _ h => h) (.inl ⟨rfl, fun _ _ => rfl⟩) (by assumption) ?_
      simp only [Act.put, List.getElem_toArray, List.getElem_cons_zero, List.getElem_cons_succ, List.setIfInBounds_toArray, List.set_cons_zero, List.set_cons_succ]
      refine wpAnyH_load_rep (i := 5) rfl (by kernel_rfl) (by kernel_rfl) (by kernel_rfl) (fun _ _ _ h => h) rfl 47 (.tmp 30) rfl (wr.heap.size) (1) rfl [e0, e1, e2] _ Tryz.underlying47 isz47 (fun W hW j u hu => by rw [hW.2.cell]; rcases j with _ | _ | _ | j <;> first | (simp at hu; done) | simpa using hu) (by assumption) (fun _ _ _ _ h => h) ?_
      simp only [Act.put, List.getElem_toArray, List.getElem_cons_zero, List.getElem_cons_succ, List.setIfInBounds_toArray, List.set_cons_zero, List.set_cons_succ]
      refine wpAnyH_call (i := 6) (by kernel_rfl) rfl rfl (run_call_func rfl rfl #[.agg ⟨[e0, e1, e2]⟩] (by simp only [List.map_toArray, List.map_cons, List.map_nil, Act.eval]; rfl) Tryz.func111 (by kernel_rfl) (by kernel_rfl) _) (copyType_impl vt _ _ (HVT.out.ext (HWB.out.trans (.drew (.refl _)))) hbb) ?_; rintro e wc ⟨ct, rfl, hxc, hoc⟩
      have hs1 := (⟨hHeld.1.trans hxc, hHeld.2.ext hxc⟩ : Ext w wc ∧ OB wc wr.heap.size 199 ⟨[.string vn, e0, e1, e2]⟩)
      refine ⟨_, rfl, hs1, ?_⟩
      obtain ⟨f0, f1, f2, rfl⟩ := list3 (hoc.1.trans (GType.tr_len _))
      have HXC := Lib.hid hxc
      have HOC := Lib.hid hoc
      have hzc : wb.heap.size ≤ wc.heap.size := hxc.size
      have hone : Hid (∀ v ∈ ([.string vn, f0, f1, f2] : List Value), v.oneCell' = true) := (fun v hv => by rcases List.mem_cons.1 hv with rfl | hv; exact rfl; exact hoc.rep.one v hv)
      clear hxc hoc
      simp only [Act.put, List.getElem_toArray, List.getElem_cons_zero, List.getElem_cons_succ, List.setIfInBounds_toArray, List.set_cons_zero, List.set_cons_succ]
      refine wpAnyH_take (i := 7) (v := .agg ⟨[.string vn, f0, f1, f2]⟩) rfl (by kernel_rfl) (by kernel_rfl) (by kernel_rfl) (fun _ _ _ h => h) (.inl ⟨rfl, fun _ _ => by simp [execOp, go_sem]⟩) (by assumption) ?_
      simp only [Act.put, List.getElem_toArray, List.getElem_cons_zero, List.getElem_cons_succ, List.setIfInBounds_toArray, List.set_cons_zero, List.set_cons_succ]
      refine wpAnyH_index (i := 8) rfl (by kernel_rfl) (by kernel_rfl) (by kernel_rfl) rfl 99 (.tmp 26) (.tmp 27) rfl (w4.heap.size) (0) (ps.length) (ps.length) (i) (4) rfl rfl (hlt) Tryz.underlying99 (by kernel_rfl) (by assumption) (fun _ _ _ _ h => h) ?_
      simp only [Act.put, List.getElem_toArray, List.getElem_cons_zero, List.getElem_cons_succ, List.setIfInBounds_toArray, List.set_cons_zero, List.set_cons_succ]
      refine wpAnyH_store_rep (i := 9) (by kernel_rfl) rfl rfl 199 (.tmp 34) (.tmp 33) rfl (w4.heap.size) (0 + i * 4) rfl ([.string vn, f0, f1, f2]) rfl 199 arr (HOB.out.ext (HXB.out.trans (Ext.trans (.drew (.refl _)) HXC.out))) isz199 ((by have := HF.out; simp only [List.length_cons, List.length_nil]; omega)) (hone.out) ?_; intro w8 hob hgb hzb
      have hs2 := (⟨grown_ext hs1.1 hgb (by omega), hs1.2.grown hgb (by omega)⟩ : Ext w w8 ∧ OB w8 wr.heap.size 199 ⟨[.string vn, e0, e1, e2]⟩)
      refine ⟨hs2, ?_⟩
      have HOB2 := Lib.hid hob
      have HG2 := Lib.hid hgb
      have hz2 : w8.heap.size ≤ wc.heap.size ∧ wc.heap.size ≤ w8.heap.size := ⟨Nat.le_of_eq hzb, Nat.le_of_eq (hzb).symm⟩
      clear hob hgb hzb
      simp only [Act.put, List.getElem_toArray, List.getElem_cons_zero, List.getElem_cons_succ, List.setIfInBounds_toArray, List.set_cons_zero, List.set_cons_succ]
      refine wpAnyH_done (by kernel_rfl) ?_ _
      clear hHeld hs1
      have HX8 : Hid (Ext wr wc) := HXB.out.trans (Ext.trans (.drew (.refl _)) HXC.out)
      have HOA : Hid (OwnL wc (GParam.mk vn vt).tr [.string vn, f0, f1, f2] (Between wr wc)) := by
        have h1 := (nt_own HVN.out HOC.out).mono (S' := Between wr wc) fun x hx => ⟨by have h3 : wb.heap.size ≤ x := hx.1; omega, hx.2⟩
        show OwnL _ _ _ _
        simpa [GParam.tr] using h1
      go_wp2_with fail
      go_roundw
      case rel =>
        have hfit : i * 4 + ([.string vn, f0, f1, f2] : List Value).length ≤ arr.size := by have := HF.out; simp only [List.length_cons, List.length_nil]; omega
        have h0 : 0 + i * 4 = i * 4 := Nat.zero_add _
        have HOB3 := HOB2.out
        rw [h0] at HOB3
        refine ⟨i + 1, _, by omega, by go_num, ?_, by omega, HOB3, by show _ = _; rw [splice_size hfit]; exact HAS.out, HP.out.step hgt HX8.out HAG.out HOA.out rfl HAS.out HG2.out HOB3⟩
        exact grown_ext (HX4.out.trans HX8.out) HG2.out (Nat.le_refl _)
      case measure => simp [intOf]; omega
    · have hkl : i = (GParam.trs ps).length := by rw [GParam.trs_len]; omega
      have HOE : Hid (Own wr (.row 4 (GParam.trs ps)) (.slice (some ⟨w4.heap.size, 0, none⟩) ps.length ps.length) (Between w4 wr)) := by
        subst hkl
        have h1 := (HP.out.done HOB.out (GParam.sz ps) (Nat.le_refl _) (by rw [GParam.trs_len]; unfold maxLen; omega) (Nat.le_refl _)).mono (S' := Between w4 wr) fun x hx => ⟨hx.1, hx.2⟩
        rw [GParam.trs_len] at h1
        exact h1
      have HBW := Lib.hid (HOB4.out.ext HX4.out)
      have HRW := Lib.hid (HR4.out.ext HX4.out)
      have HO1W := Lib.hid (HO14.out.ext HX4.out)
      have HO3W := Lib.hid (HO34.out.ext HX4.out)
      go_wp2_with (first
        | (refine wpList_store_cell rfl 99 (.tmp 37) (.tmp 36) rfl w.heap.size 3 rfl (.slice (some ⟨w4.heap.size, 0, none⟩) ps.length ps.length) rfl rfl 105 _ HBW.out isz99 (by simp) rfl ?_; intro u1 hob hg hz; have HOBU1 := Lib.hid (show OB u1 w.heap.size 105 ⟨[.string nm, .slice sa vs.length sc, .slice ba wh.length bc, .slice (some ⟨w4.heap.size, 0, none⟩) ps.length ps.length, y0, y1, y2, g0, g1, g2, g3, g4, g5, g6, g7, g8]⟩ from hob); have HGU1 := Lib.hid hg; have hzu1 : u1.heap.size ≤ wr.heap.size ∧ wr.heap.size ≤ u1.heap.size := ⟨Nat.le_of_eq hz, Nat.le_of_eq (hz).symm⟩; clear hob hg hz)
        | (refine wpList_load_rep rfl 47 (.tmp 38) rfl w.heap.size 4 rfl [y0, y1, y2] _ Tryz.underlying47 isz47 (fun j v hv => by rw [HOBU1.out.cell]; rcases j with _ | _ | _ | j <;> first | (simp at hv; done) | simpa using hv) ?_))
      have HWU1 : Hid (Ext w u1) := grown_ext hw HGU1.out (Nat.le_refl _)
      refine (copyType_impl rt _ _ (HT4.out.ext HWU1.out) HB4.out).mono ?_; rintro e u2 ⟨ct, rfl, hu2, hp2⟩
      obtain ⟨q0, q1, q2, rfl⟩ := list3 (hp2.1.trans (GType.tr_len rt))
      have HU2 := Lib.hid hu2
      have HP2 := Lib.hid hp2
      have hzu2 : u1.heap.size ≤ u2.heap.size := hu2.size
      clear hu2 hp2
      go_wp2_with (first
        | (refine wpList_store_rep rfl 47 (.tmp 41) (.tmp 40) rfl w.heap.size 4 rfl [q0, q1, q2] rfl 105 _ (HOBU1.out.ext HU2.out) isz47 (by simp) HP2.out.rep.one ?_; intro u3 hob hg hz; have HOBU3 := Lib.hid (show OB u3 w.heap.size 105 ⟨[.string nm, .slice sa vs.length sc, .slice ba wh.length bc, .slice (some ⟨w4.heap.size, 0, none⟩) ps.length ps.length, q0, q1, q2, g0, g1, g2, g3, g4, g5, g6, g7, g8]⟩ from hob); have HGU3 := Lib.hid hg; have hzu3 : u3.heap.size ≤ u2.heap.size ∧ u2.heap.size ≤ u3.heap.size := ⟨Nat.le_of_eq hz, Nat.le_of_eq (hz).symm⟩; clear hob hg hz)
        | (refine wpList_load_rep rfl 103 (.tmp 42) rfl w.heap.size 7 rfl [g0, g1, g2, g3, g4, g5, g6, g7, g8] _ Tryz.underlying103 isz103 (fun j v hv => by rw [HOBU3.out.cell]; rcases j with _ | _ | _ | _ | _ | _ | _ | _ | _ | j <;> first | (simp at hv; done) | simpa using hv) ?_))
      have HWU3 : Hid (Ext w u3) := grown_ext (HWU1.out.trans HU2.out) HGU3.out (Nat.le_refl _)
      refine (copyExprP bd _ _ (HE5.out.ext HWU3.out) HB5.out).mono ?_; rintro e u4 ⟨cb, rfl, hu4, hp4⟩
      obtain ⟨h0, h1, h2, h3, h4, h5, h6, h7, h8, rfl⟩ := list9 (hp4.1.trans (GExpr.tr_len bd))
      have HU4 := Lib.hid hu4
      have HP4 := Lib.hid hp4
      have hzu4 : u3.heap.size ≤ u4.heap.size := hu4.size
      clear hu4 hp4
      have hone3 : Hid (∀ v ∈ ([.string nm, .slice sa vs.length sc, .slice ba wh.length bc, .slice (some ⟨w4.heap.size, 0, none⟩) ps.length ps.length, q0, q1, q2, h0, h1, h2, h3, h4, h5, h6, h7, h8] : List Value), v.oneCell' = true) := fun v hv => by
        simp only [List.mem_cons, List.not_mem_nil, or_false] at hv
        rcases hv with rfl | rfl | rfl | rfl | rfl | rfl | rfl | rfl | rfl | rfl | rfl | rfl | rfl | rfl | rfl | rfl <;> first | rfl | (refine HP2.out.rep.one _ ?_; simp; done) | (refine HP4.out.rep.one _ ?_; simp; done)
      go_wp2_with (first
        | (refine wpList_store_rep rfl 103 (.tmp 45) (.tmp 44) rfl w.heap.size 7 rfl [h0, h1, h2, h3, h4, h5, h6, h7, h8] rfl 105 _ (HOBU3.out.ext HU4.out) isz103 (by simp) HP4.out.rep.one ?_; intro u5 hob hg hz; have HOBU5 := Lib.hid (show OB u5 w.heap.size 105 ⟨[.string nm, .slice sa vs.length sc, .slice ba wh.length bc, .slice (some ⟨w4.heap.size, 0, none⟩) ps.length ps.length, q0, q1, q2, h0, h1, h2, h3, h4, h5, h6, h7, h8]⟩ from hob); have HGU5 := Lib.hid hg; have hzu5 : u5.heap.size ≤ u4.heap.size ∧ u4.heap.size ≤ u5.heap.size := ⟨Nat.le_of_eq hz, Nat.le_of_eq (hz).symm⟩; clear hob hg hz)
        | (refine wpList_load_rep rfl 105 (.tmp 1) rfl w.heap.size 0 rfl [.string nm, .slice sa vs.length sc, .slice ba wh.length bc, .slice (some ⟨w4.heap.size, 0, none⟩) ps.length ps.length, q0, q1, q2, h0, h1, h2, h3, h4, h5, h6, h7, h8] _ Tryz.underlying105 isz105 (OB.cells0 HOBU5.out) ?_)
        | (refine wpList_store_rep rfl 105 (.tmp 2) (.tmp 46) rfl (w.heap.size + 1) 0 rfl [.string nm, .slice sa vs.length sc, .slice ba wh.length bc, .slice (some ⟨w4.heap.size, 0, none⟩) ps.length ps.length, q0, q1, q2, h0, h1, h2, h3, h4, h5, h6, h7, h8] rfl 105 _ (OB.grown (OB.ext (OB.grown (OB.ext (HRW.out.grown HGU1.out (by omega)) HU2.out) HGU3.out (by omega)) HU4.out) HGU5.out (by omega)) isz105 (by simp) hone3.out ?_; intro wz hob hg hz; have HOBZ := Lib.hid (show OB wz (w.heap.size + 1) 105 ⟨[.string nm, .slice sa vs.length sc, .slice ba wh.length bc, .slice (some ⟨w4.heap.size, 0, none⟩) ps.length ps.length, q0, q1, q2, h0, h1, h2, h3, h4, h5, h6, h7, h8]⟩ from hob); have HGZ := Lib.hid hg; have hzz : wz.heap.size ≤ u5.heap.size ∧ u5.heap.size ≤ wz.heap.size := ⟨Nat.le_of_eq hz, Nat.le_of_eq (hz).symm⟩; clear hob hg hz))
      have hxz : Ext w wz := grown_ext (grown_ext (HWU3.out.trans HU4.out) HGU5.out (Nat.le_refl _)) HGZ.out (by omega)
      refine bodyPost_ret (results_cell_row Tryz.results128 _ _ (w.heap.size + 1) 105 ⟨[.string nm, .slice sa vs.length sc, .slice ba wh.length bc, .slice (some ⟨w4.heap.size, 0, none⟩) ps.length ps.length, q0, q1, q2, h0, h1, h2, h3, h4, h5, h6, h7, h8]⟩ _ _ rfl HOBZ.out Tryz.underlying105 rfl isz105) rfl ⟨[.string nm, .slice sa vs.length sc, .slice ba wh.length bc, .slice (some ⟨w4.heap.size, 0, none⟩) ps.length ps.length, q0, q1, q2, h0, h1, h2, h3, h4, h5, h6, h7, h8], rfl, hxz, ?_⟩
      have kz : Keeps (w.heap.size + 1 + 1) u4 wz := Keeps.trans (Keeps.of_grown HGU5.out (by omega)) (Keeps.of_grown HGZ.out (by omega))
      have k2 : Keeps (w.heap.size + 1 + 1) u2 wz := Keeps.trans (Keeps.of_grown HGU3.out (by omega)) (Keeps.trans (Keeps.of_ext HU4.out) kz)
      have kr : Keeps (w.heap.size + 1 + 1) wr wz := Keeps.trans (Keeps.of_grown HGU1.out (by omega)) (Keeps.trans (Keeps.of_ext HU2.out) k2)
      have o1 := HO1W.out.keeps kr (by intro x hx; exact hx.1)
      have o2 := HO3W.out.keeps kr (by intro x hx; have := hx.1; omega)
      have o3 := HOE.out.keeps kr (by intro x hx; have := hx.1; omega)
      have o4 := HP2.out.keeps k2 (by intro x hx; have := hx.1; omega)
      have o5 := HP4.out.keeps kz (by intro x hx; have := hx.1; omega)
      exact (GFunction.tr_own K0.out o1 o2 o3 o4 o5 (by omega) (by omega) (by omega) (by omega) (by omega) (by omega) (by omega) (by omega) (by omega)).mono fun x hx => ⟨by have := hx.1; omega, by have := hx.2; omega⟩
end Go.Proofs.YtnakkelglbcecaaGreat

namespace Go.Proofs.YtnakkelglbcecaaGreat
open Go.RowKit Go.Proofs

end Go.Proofs.YtnakkelglbcecaaGreat

namespace Go.Proofs.YtnakkelglbcecaaGreat
open Go.RowKit Go.Proofs

theorem results_cell_row_tmp2 {P : Program} {fn : Func} {p q r : Tmp} {ty : TypeId} (h : fn.results = #[.cell p ty, .tmp q, .tmp r]) (tmps : Array Value) (w : World) (g : Nat) (t : TypeId) (cs : Array Value) (fr : Nat × Nat) (d : TypeDesc) (v u : Value)
    (hp : tmps.getD p undef = .pointer (some ⟨g, 0, none⟩)) (hv : tmps.getD q undef = v) (hu' : tmps.getD r undef = u) (hg : w.heap[g]? = some (.cells cs t fr))
    (hu : P.underlying ty = some d) (hd : (match d with | .struct _ | .array _ _ => true | _ => false) = true) (hi : (P.info? ty).map (·.size) = some cs.size) :
    (results fn tmps).run P w = .ok (.tuple #[.agg cs, v, u]) w := by
  have hp' : tmps[p]?.getD undef = .pointer (some ⟨g, 0, none⟩) := by simpa using hp
  have hv' : tmps[q]?.getD undef = v := by simpa using hv
  have hu'' : tmps[r]?.getD undef = u := by simpa using hu'
  simp [results, h, hp', hv', hu'', asAddr, run_loadVar_row w g t ty cs fr d hg hu hd hi]
theorem AFun.plainA3 {P : Program} {f : FuncId} {args : List PV} {ts : List Tr} {d1 d2 : Value} (h : AFun P f args (.tup [.agg (ts.map PV.t), .t (.leaf d1), .t (.leaf d2)])) {w : World} {vals : List Value} (hv : RVL0 w args vals) : Calls P f ⟨vals⟩ w fun e w' => ∃ cs, e = .returned (.tuple #[.agg ⟨cs⟩, d1, d2]) ∧ Ext w w' ∧ RepL w' ts cs :=
  (h av0 lay0 w vals (sto0 w) hv).mono fun e w' => by
    rintro ⟨res, st', m', v, rfl, ⟨rfl, rfl⟩, -, he, vs, rfl, hr⟩
    match vs, hr with
    | [u, x, y], hr =>
      obtain ⟨rfl, -⟩ := (RepM.rep (show RepM _ _ (.leaf d1) x from hr.2.1)).leaf_eq
      obtain ⟨rfl, -⟩ := (RepM.rep (show RepM _ _ (.leaf d2) y from hr.2.2.1)).leaf_eq
      obtain ⟨cs, rfl, hl⟩ := hr.1
      exact ⟨cs, rfl, he.ext, RVL.ofTr hl⟩
theorem Own.nilRow (w : World) (sz : Nat) (S : Nat → Prop) : Own w (.row sz []) (.slice none 0 0) S := Own.row (es := []) (fun _ _ => undef) (fun _ _ _ => False) (by simp) (by unfold maxLen; omega) (by simp) (by simp) (by simp) (by simp)
end Go.Proofs.YtnakkelglbcecaaGreat

namespace Go.Proofs.YtnakkelglbcecaaGreat
open Go.RowKit Go.Proofs

theorem functionP (x0 : GProgram) (nm : ByteArray) (w : World) (c0 : List Value) (h0 : RepL w x0.tr c0) (hn : nm.size ≤ maxLen) : Calls Tryz.prog 127 #[.agg ⟨c0⟩, .string nm] w fun e w' => ∃ ct, e = .returned (.tuple #[.agg ⟨ct⟩, .int .i64 (oInt (x0.functionAt nm)), .bool (x0.functionAt nm).isSome]) ∧ Ext w w' ∧ RepL w' (oFunction (x0.functionAt nm)).tr ct := by
  rw [GProgram.tr_cs] at h0
  have h := function_impl x0 nm
  rw [show GFunction.pv (oFunction (x0.functionAt nm)) = .agg ((oFunction (x0.functionAt nm)).tr.map PV.t) from by rw [GFunction.tr_cs]; rfl] at h
  exact h.plainA3 (RVL0.cons (RV0.agg h0) (RVL0.cons (RV0.t (.leaf hn)) RVL0.nil))
def zeroFn : List Value := [.string ⟨#[]⟩, .slice none 0 0, .slice none 0 0, .slice none 0 0, .int .i64 0, .string ⟨#[]⟩, .slice none 0 0, .int .i64 0, .string ⟨#[]⟩, .string ⟨#[]⟩, .int .i64 0, .int .i64 0, .string ⟨#[]⟩, .slice none 0 0, .slice none 0 0, .slice none 0 0]
theorem OwnL.zcons {w : World} {t : Tr} {v : Value} {ts : List Tr} {vs : List Value} (h1 : Own w t v (fun _ => False)) (h2 : OwnL w ts vs (fun _ => False)) : OwnL w (t :: ts) (v :: vs) (fun _ => False) :=
  (OwnL.append (OwnL.one h1) h2 (fun _ h _ => h)).mono fun x hx => by rcases hx with h | h <;> exact h
theorem zeroFn_own (w : World) (S : Nat → Prop) : OwnL w GFunction.zero.tr zeroFn S := by
  have r : ∀ sz, Own w (.row sz []) (.slice none 0 0) (fun _ => False) := fun sz => Own.nilRow w sz _
  have s : LeafOk (.string ⟨#[]⟩) := by show (0 : Nat) ≤ maxLen; unfold maxLen; omega
  have i : LeafOk (.int .i64 0) := WalkArith.wf_i64 (by omega)
  have h : OwnL w _ zeroFn (fun _ => False) := OwnL.cons_leaf s (OwnL.zcons (r 1) (OwnL.zcons (r 4) (OwnL.zcons (r 4) (OwnL.cons_leaf i (OwnL.cons_leaf s (OwnL.zcons (r 3) (OwnL.cons_leaf i (OwnL.cons_leaf s (OwnL.cons_leaf s (OwnL.cons_leaf i (OwnL.cons_leaf i (OwnL.cons_leaf s (OwnL.zcons (r 3) (OwnL.zcons (r 9) (OwnL.zcons (r 11) (OwnL.nil w _))))))))))))))))
  have h2 := h.mono (S' := S) fun x hx => hx.elim
  simpa [GFunction.zero, GFunction.tr, GType.tr, GExpr.tr, strTrs, GBound.trs, GParam.trs, GType.trs, GExpr.trs, GArm.trs] using h2

set_option maxRecDepth 100000 in
set_option maxHeartbeats 4000000 in
theorem findFP_impl (x0 : GProgram) (nm : ByteArray) (w : World) (c0 : List Value) (h0 : RepL w x0.tr c0) (hn : nm.size ≤ maxLen) (hB : Tr.bulkL (oFunction (x0.functionAt nm)).tr ≤ 68719476735) :
    Calls Tryz.prog 72 #[.agg ⟨c0⟩, .string nm] w fun e w' => ∃ ct, e = .returned (.tuple #[.agg ⟨ct⟩, .int .i64 (oInt (x0.functionAt nm)), .bool (x0.functionAt nm).isSome]) ∧ Ext w w' ∧ OwnL w' (oFunction (x0.functionAt nm)).tr ct (Between w w') := by
  have HI0 : Hid ((Tryz.prog.info? 31).map (·.size) = some c0.length) := by rw [← h0.length, GProgram.tr_len]; exact isz31
  have H0 := Lib.hid h0
  have HN := Lib.hid hn
  have HB := Lib.hid hB
  have h2 := Two.new w 31 105 ⟨c0⟩ #[.string ⟨#[]⟩, .slice none 0 0, .slice none 0 0, .slice none 0 0, .int .i64 0, .string ⟨#[]⟩, .slice none 0 0, .int .i64 0, .string ⟨#[]⟩, .string ⟨#[]⟩, .int .i64 0, .int .i64 0, .string ⟨#[]⟩, .slice none 0 0, .slice none 0 0, .slice none 0 0]
  have HA0 := Lib.hid h2.o0
  have HA1 := Lib.hid h2.o1
  have HX0 : Hid (Ext w ((w.alloc (.cells ⟨c0⟩ 31)).alloc (.cells #[.string ⟨#[]⟩, .slice none 0 0, .slice none 0 0, .slice none 0 0, .int .i64 0, .string ⟨#[]⟩, .slice none 0 0, .int .i64 0, .string ⟨#[]⟩, .string ⟨#[]⟩, .int .i64 0, .int .i64 0, .string ⟨#[]⟩, .slice none 0 0, .slice none 0 0, .slice none 0 0] 105))) := .alloc (.alloc (.refl _) _) _
  clear h0 hn hB h2
  go_enter Tryz.func72, Tryz.ntmps72
  go_wp2_with (refine wpList_load_rep rfl 31 (.tmp 2) rfl w.heap.size 0 rfl c0 _ Tryz.underlying31 HI0.out HA0.out.cells0 ?_)
  refine (functionP x0 nm _ c0 (H0.out.ext HX0.out) HN.out).mono ?_; rintro e w1 ⟨ct, rfl, hw1, hct⟩
  have HW1 := Lib.hid (HX0.out.trans hw1)
  have HB1 : Hid (OB w1 (w.heap.size + 1) 105 ⟨zeroFn⟩) := HA1.out.ext hw1
  have hlt1 : w.heap.size + 1 < w1.heap.size := HB1.out.lt
  have HCT := Lib.hid hct
  have HCL : Hid (ct.length = 16) := hct.length.symm.trans (GFunction.tr_len _)
  have HIT : Hid ((Tryz.prog.info? 105).map (·.size) = some ct.length) := by rw [HCL.out]; exact isz105
  clear hw1 hct HA0 HA1 HX0
  cases hs : (x0.functionAt nm).isSome with
  | false =>
    have hnone : x0.functionAt nm = none := by cases hq : x0.functionAt nm with | none => rfl | some p => rw [hq] at hs; cases hs
    have HT : Hid (oFunction (x0.functionAt nm) = GFunction.zero) := by show _ = _; rw [hnone]; rfl
    have HO : Hid (oInt (x0.functionAt nm) = 0) := by show _ = _; rw [hnone]; rfl
    have HSS : Hid ((x0.functionAt nm).isSome = false) := hs
    clear hnone hs
    go_wp2_with (first
      | (refine wpList_store_rep rfl 105 (.tmp 7) (.tmp 14) rfl w1.heap.size 0 rfl ct rfl 105 _ (OB.new w1 _ _) HIT.out (by rw [HCL.out]; exact Nat.le_refl _) HCT.out.one ?_; intro w2 hob hgb hzb; have HX2 := Lib.hid (grown_ext (.alloc (.refl w1) _) hgb (Nat.le_refl _)); clear hob hgb hzb)
      | (refine wpList_store_rep rfl 105 (.tmp 4) (.tmp 19) rfl (w.heap.size + 1) 0 rfl zeroFn rfl 105 _ (HB1.out.ext HX2.out) isz105 (by exact Nat.le_refl _) (by intro v hv; simp only [zeroFn, List.mem_cons, List.not_mem_nil, or_false] at hv; rcases hv with rfl | rfl | rfl | rfl | rfl | rfl | rfl | rfl | rfl | rfl | rfl | rfl | rfl | rfl | rfl | rfl <;> rfl) ?_; intro wz hob hg hz; rw [splice_whole rfl] at hob; have HOBZ := Lib.hid hob; have HGZ := Lib.hid hg; clear hob hg hz))
    have hxz : Ext w wz := grown_ext (HW1.out.trans HX2.out) HGZ.out (by omega)
    refine bodyPost_ret (results_cell_row_tmp2 Tryz.results72 _ _ (w.heap.size + 1) 105 ⟨zeroFn⟩ _ _ _ _ rfl rfl rfl HOBZ.out Tryz.underlying105 rfl isz105) rfl ?_
    rw [HT.out, HO.out, HSS.out]
    exact ⟨zeroFn, rfl, hxz, zeroFn_own _ _⟩
  | true =>
    have HSS : Hid ((x0.functionAt nm).isSome = true) := hs
    clear hs
    go_wp2_with (first
      | (refine wpList_store_rep rfl 105 (.tmp 7) (.tmp 14) rfl w1.heap.size 0 rfl ct rfl 105 _ (OB.new w1 _ _) HIT.out (by rw [HCL.out]; exact Nat.le_refl _) HCT.out.one ?_; intro w2 hob hgb hzb; rw [splice_whole (by rw [HCL.out]; rfl)] at hob; have HOBT := Lib.hid hob; have HX2 := Lib.hid (grown_ext (.alloc (.refl w1) _) hgb (Nat.le_refl _)); clear hob hgb hzb)
      | (refine wpList_load_rep rfl 105 (.tmp 7) rfl w1.heap.size 0 rfl ct _ Tryz.underlying105 HIT.out HOBT.out.cells0 ?_))
    refine (copyFunctionP (oFunction (x0.functionAt nm)) ct _ (HCT.out.ext HX2.out) (by have := HB.out; omega)).mono ?_; rintro e w3 ⟨cs1, rfl, hw3, ho3⟩
    have HCL1 : Hid (cs1.length = 16) := ho3.1.trans (GFunction.tr_len _)
    have HI3 : Hid ((Tryz.prog.info? 105).map (·.size) = some cs1.length) := by rw [HCL1.out]; exact isz105
    have HX3 := Lib.hid (HW1.out.trans (HX2.out.trans hw3))
    have HB3 := Lib.hid (HB1.out.ext (HX2.out.trans hw3))
    have hlt2 : w1.heap.size ≤ w2.heap.size := HX2.out.size
    have HO3 := Lib.hid ho3
    clear hw3 ho3
    go_wp2_with (refine wpList_store_rep rfl 105 (.tmp 4) (.tmp 21) rfl (w.heap.size + 1) 0 rfl cs1 rfl 105 _ HB3.out HI3.out (by rw [HCL1.out]; exact Nat.le_refl _) HO3.out.rep.one ?_; intro wz hob hg hz; rw [splice_whole (by rw [HCL1.out]; rfl)] at hob; have HOBZ := Lib.hid hob; have HGZ := Lib.hid hg; clear hob hg hz)
    have hxz : Ext w wz := grown_ext HX3.out HGZ.out (by omega)
    have HOF := Lib.hid ((HO3.out.keep fun b' hb' hbl => HGZ.out.block b' hbl (by intro h; injection h with h; have := hb'.1; omega)).mono (S' := Between w wz) fun b' hb' => ⟨by have := hb'.1; omega, Nat.lt_of_lt_of_le hb'.2 HGZ.out.size⟩)
    refine bodyPost_ret (results_cell_row_tmp2 Tryz.results72 _ _ (w.heap.size + 1) 105 ⟨cs1⟩ _ _ _ _ rfl rfl rfl HOBZ.out Tryz.underlying105 rfl HI3.out) rfl ?_
    rw [HSS.out]
    exact ⟨cs1, rfl, hxz, HOF.out⟩
end Go.Proofs.YtnakkelglbcecaaGreat

namespace Go.Proofs.YtnakkelglbcecaaGreat
open Go.RowKit Go.Proofs
set_option linter.unusedSimpArgs false
set_option linter.unusedVariables false

attribute [local irreducible] lt

end Go.Proofs.YtnakkelglbcecaaGreat

namespace Go.Proofs.YtnakkelglbcecaaGreat
theorem Tr.bulkL_cat : ∀ (a b : List Tr), Tr.bulkL (a ++ b) = Tr.bulkL a + Tr.bulkL b
  | [], b => by simp [Tr.bulkL]
  | t :: a, b => by simp [Tr.bulkL, Tr.bulkL_cat a b, Nat.add_assoc]
theorem cnts_of : ∀ {es : List (List Tr)}, (∀ e ∈ es, Tr.cntL e ≤ 20 + 20 * Tr.bulkL e) → Tr.cntE es ≤ 20 * es.length + 20 * Tr.bulkAll es
  | [], _ => by simp [Tr.cntE]
  | e :: r, h => by
    have h1 := cnts_of (es := r) (fun x hx => h x (List.mem_cons_of_mem _ hx))
    have h2 := h e (by simp)
    simp only [Tr.cntE, Tr.bulkAll, List.length_cons]
    omega
theorem strCnt (l : List ByteArray) : Tr.cntE (strTrs l) = l.length := by
  induction l with
  | nil => rfl
  | cons a l ih => simp only [strTrs, List.map_cons, Tr.cntE, Tr.cntL, Tr.cnt, List.length_cons] at *; omega
theorem Tr.topN_cnt : ∀ ts : List Tr, Tr.topN ts ≤ Tr.cntL ts
  | [] => by simp [Tr.topN]
  | .leaf v :: r => by have := Tr.topN_cnt r; simp only [Tr.topN, Tr.cntL, Tr.cnt]; omega
  | .row sz es :: r => by have := Tr.topN_cnt r; simp only [Tr.topN, Tr.cntL, Tr.cnt]; omega
theorem GType.cnt_le : ∀ x : GType, Tr.cntL x.tr ≤ 3 + 20 * Tr.bulkL x.tr := by
  refine GType.ind fun v0 v1 v2 ih => ?_
  have c2 : Tr.cntE (GType.trs v2) ≤ 20 * v2.length + 20 * Tr.bulkAll (GType.trs v2) := by have h := cnts_of (GType.all (l := v2) (Q := fun e => Tr.cntL e ≤ 20 + 20 * Tr.bulkL e) (fun x hx => by have := ih x hx; omega)); rw [GType.trs_len] at h; exact h
  have d2 := GType.trs_len v2
  simp only [GType.tr, Tr.cntL_append, Tr.bulkL_cat, Tr.cntL, Tr.cnt, Tr.bulkL, Tr.bulk]
  omega
theorem GType.cnts_le (l : List GType) : Tr.cntE (GType.trs l) ≤ 20 * l.length + 20 * Tr.bulkAll (GType.trs l) := by
  have h := cnts_of (GType.all (l := l) (Q := fun e => Tr.cntL e ≤ 20 + 20 * Tr.bulkL e) (fun x _ => by have := GType.cnt_le x; omega))
  rw [GType.trs_len] at h
  exact h
theorem GArm.cnt_of (x : GArm) (h : Tr.cntL x.gBody.tr ≤ 9 + 20 * Tr.bulkL x.gBody.tr) : Tr.cntL x.tr ≤ 11 + 20 * Tr.bulkL x.tr := by
  obtain ⟨v0, v1, v2⟩ := x
  have h : Tr.cntL v2.tr ≤ 9 + 20 * Tr.bulkL v2.tr := h
  have c1 := strCnt v1
  have d1 := strTrs_len v1
  simp only [GArm.tr, Tr.cntL_append, Tr.bulkL_cat, Tr.cntL, Tr.cnt, Tr.bulkL, Tr.bulk]
  omega
theorem GExpr.cnt_le : ∀ x : GExpr, Tr.cntL x.tr ≤ 9 + 20 * Tr.bulkL x.tr := by
  refine GExpr.ind fun v0 v1 v2 v3 v4 v5 v6 ih5 ih6 => ?_
  have c4 := GType.cnt_le v4
  have c5 : Tr.cntE (GExpr.trs v5) ≤ 20 * v5.length + 20 * Tr.bulkAll (GExpr.trs v5) := by have h := cnts_of (GExpr.all (l := v5) (Q := fun e => Tr.cntL e ≤ 20 + 20 * Tr.bulkL e) (fun x hx => by have := ih5 x hx; omega)); rw [GExpr.trs_len] at h; exact h
  have c6 : Tr.cntE (GArm.trs v6) ≤ 20 * v6.length + 20 * Tr.bulkAll (GArm.trs v6) := by have h := cnts_of (GArm.all (l := v6) (Q := fun e => Tr.cntL e ≤ 20 + 20 * Tr.bulkL e) (fun x hx => by have := GArm.cnt_of x (ih6 x hx); omega)); rw [GArm.trs_len] at h; exact h
  have d5 := GExpr.trs_len v5
  have d6 := GArm.trs_len v6
  simp only [GExpr.tr, Tr.cntL_append, Tr.bulkL_cat, Tr.cntL, Tr.cnt, Tr.bulkL, Tr.bulk]
  omega
theorem GBound.cnt_le (x : GBound) : Tr.cntL x.tr ≤ 4 + 20 * Tr.bulkL x.tr := by
  obtain ⟨v0, v1⟩ := x
  have c1 := GType.cnt_le v1
  simp only [GBound.tr, Tr.cntL_append, Tr.bulkL_cat, Tr.cntL, Tr.cnt, Tr.bulkL, Tr.bulk]
  omega
theorem GBound.cnts_le (l : List GBound) : Tr.cntE (GBound.trs l) ≤ 20 * l.length + 20 * Tr.bulkAll (GBound.trs l) := by
  have h := cnts_of (GBound.all (l := l) (Q := fun e => Tr.cntL e ≤ 20 + 20 * Tr.bulkL e) (fun x _ => by have := GBound.cnt_le x; omega))
  rw [GBound.trs_len] at h
  exact h
theorem GParam.cnt_le (x : GParam) : Tr.cntL x.tr ≤ 4 + 20 * Tr.bulkL x.tr := by
  obtain ⟨v0, v1⟩ := x
  have c1 := GType.cnt_le v1
  simp only [GParam.tr, Tr.cntL_append, Tr.bulkL_cat, Tr.cntL, Tr.cnt, Tr.bulkL, Tr.bulk]
  omega
theorem GParam.cnts_le (l : List GParam) : Tr.cntE (GParam.trs l) ≤ 20 * l.length + 20 * Tr.bulkAll (GParam.trs l) := by
  have h := cnts_of (GParam.all (l := l) (Q := fun e => Tr.cntL e ≤ 20 + 20 * Tr.bulkL e) (fun x _ => by have := GParam.cnt_le x; omega))
  rw [GParam.trs_len] at h
  exact h
theorem GMethod.cnt_le (x : GMethod) : Tr.cntL x.tr ≤ 11 + 20 * Tr.bulkL x.tr := by
  obtain ⟨v0, v1, v2⟩ := x
  have c1 := strCnt v1
  have d1 := strTrs_len v1
  have c2 := GExpr.cnt_le v2
  simp only [GMethod.tr, Tr.cntL_append, Tr.bulkL_cat, Tr.cntL, Tr.cnt, Tr.bulkL, Tr.bulk]
  omega
theorem GMethod.cnts_le (l : List GMethod) : Tr.cntE (GMethod.trs l) ≤ 20 * l.length + 20 * Tr.bulkAll (GMethod.trs l) := by
  have h := cnts_of (GMethod.all (l := l) (Q := fun e => Tr.cntL e ≤ 20 + 20 * Tr.bulkL e) (fun x _ => by have := GMethod.cnt_le x; omega))
  rw [GMethod.trs_len] at h
  exact h
theorem GConstructor.cnt_le (x : GConstructor) : Tr.cntL x.tr ≤ 2 + 20 * Tr.bulkL x.tr := by
  obtain ⟨v0, v1⟩ := x
  have c1 := GType.cnts_le v1
  have d1 := GType.trs_len v1
  simp only [GConstructor.tr, Tr.cntL_append, Tr.bulkL_cat, Tr.cntL, Tr.cnt, Tr.bulkL, Tr.bulk]
  omega
theorem GConstructor.cnts_le (l : List GConstructor) : Tr.cntE (GConstructor.trs l) ≤ 20 * l.length + 20 * Tr.bulkAll (GConstructor.trs l) := by
  have h := cnts_of (GConstructor.all (l := l) (Q := fun e => Tr.cntL e ≤ 20 + 20 * Tr.bulkL e) (fun x _ => by have := GConstructor.cnt_le x; omega))
  rw [GConstructor.trs_len] at h
  exact h
theorem GSignature.cnt_le (x : GSignature) : Tr.cntL x.tr ≤ 16 + 20 * Tr.bulkL x.tr := by
  obtain ⟨v0, v1, v2, v3, v4, v5⟩ := x
  have c1 := GType.cnts_le v1
  have d1 := GType.trs_len v1
  have c2 := GType.cnt_le v2
  have c4 := strCnt v4
  have d4 := strTrs_len v4
  have c5 := GExpr.cnt_le v5
  simp only [GSignature.tr, Tr.cntL_append, Tr.bulkL_cat, Tr.cntL, Tr.cnt, Tr.bulkL, Tr.bulk]
  omega
theorem GSignature.cnts_le (l : List GSignature) : Tr.cntE (GSignature.trs l) ≤ 20 * l.length + 20 * Tr.bulkAll (GSignature.trs l) := by
  have h := cnts_of (GSignature.all (l := l) (Q := fun e => Tr.cntL e ≤ 20 + 20 * Tr.bulkL e) (fun x _ => by have := GSignature.cnt_le x; omega))
  rw [GSignature.trs_len] at h
  exact h
theorem GTrait.cnt_le (x : GTrait) : Tr.cntL x.tr ≤ 5 + 20 * Tr.bulkL x.tr := by
  obtain ⟨v0, v1, v2, v3, v4⟩ := x
  have c1 := strCnt v1
  have d1 := strTrs_len v1
  have c4 := GSignature.cnts_le v4
  have d4 := GSignature.trs_len v4
  simp only [GTrait.tr, Tr.cntL_append, Tr.bulkL_cat, Tr.cntL, Tr.cnt, Tr.bulkL, Tr.bulk]
  omega
theorem GTrait.cnts_le (l : List GTrait) : Tr.cntE (GTrait.trs l) ≤ 20 * l.length + 20 * Tr.bulkAll (GTrait.trs l) := by
  have h := cnts_of (GTrait.all (l := l) (Q := fun e => Tr.cntL e ≤ 20 + 20 * Tr.bulkL e) (fun x _ => by have := GTrait.cnt_le x; omega))
  rw [GTrait.trs_len] at h
  exact h
theorem GDataType.cnt_le (x : GDataType) : Tr.cntL x.tr ≤ 3 + 20 * Tr.bulkL x.tr := by
  obtain ⟨v0, v1, v2⟩ := x
  have c1 := strCnt v1
  have d1 := strTrs_len v1
  have c2 := GConstructor.cnts_le v2
  have d2 := GConstructor.trs_len v2
  simp only [GDataType.tr, Tr.cntL_append, Tr.bulkL_cat, Tr.cntL, Tr.cnt, Tr.bulkL, Tr.bulk]
  omega
theorem GDataType.cnts_le (l : List GDataType) : Tr.cntE (GDataType.trs l) ≤ 20 * l.length + 20 * Tr.bulkAll (GDataType.trs l) := by
  have h := cnts_of (GDataType.all (l := l) (Q := fun e => Tr.cntL e ≤ 20 + 20 * Tr.bulkL e) (fun x _ => by have := GDataType.cnt_le x; omega))
  rw [GDataType.trs_len] at h
  exact h
theorem GInstance.cnt_le (x : GInstance) : Tr.cntL x.tr ≤ 12 + 20 * Tr.bulkL x.tr := by
  obtain ⟨v0, v1, v2, v3, v4, v5, v6, v7⟩ := x
  have c1 := strCnt v1
  have d1 := strTrs_len v1
  have c2 := GType.cnt_le v2
  have c3 := GBound.cnts_le v3
  have d3 := GBound.trs_len v3
  have c6 := GType.cnt_le v6
  have c7 := GMethod.cnts_le v7
  have d7 := GMethod.trs_len v7
  simp only [GInstance.tr, Tr.cntL_append, Tr.bulkL_cat, Tr.cntL, Tr.cnt, Tr.bulkL, Tr.bulk]
  omega
theorem GInstance.cnts_le (l : List GInstance) : Tr.cntE (GInstance.trs l) ≤ 20 * l.length + 20 * Tr.bulkAll (GInstance.trs l) := by
  have h := cnts_of (GInstance.all (l := l) (Q := fun e => Tr.cntL e ≤ 20 + 20 * Tr.bulkL e) (fun x _ => by have := GInstance.cnt_le x; omega))
  rw [GInstance.trs_len] at h
  exact h
theorem GFunction.cnt_le (x : GFunction) : Tr.cntL x.tr ≤ 16 + 20 * Tr.bulkL x.tr := by
  obtain ⟨v0, v1, v2, v3, v4, v5⟩ := x
  have c1 := strCnt v1
  have d1 := strTrs_len v1
  have c2 := GBound.cnts_le v2
  have d2 := GBound.trs_len v2
  have c3 := GParam.cnts_le v3
  have d3 := GParam.trs_len v3
  have c4 := GType.cnt_le v4
  have c5 := GExpr.cnt_le v5
  simp only [GFunction.tr, Tr.cntL_append, Tr.bulkL_cat, Tr.cntL, Tr.cnt, Tr.bulkL, Tr.bulk]
  omega
theorem GFunction.cnts_le (l : List GFunction) : Tr.cntE (GFunction.trs l) ≤ 20 * l.length + 20 * Tr.bulkAll (GFunction.trs l) := by
  have h := cnts_of (GFunction.all (l := l) (Q := fun e => Tr.cntL e ≤ 20 + 20 * Tr.bulkL e) (fun x _ => by have := GFunction.cnt_le x; omega))
  rw [GFunction.trs_len] at h
  exact h
theorem GPackage.cnt_le (x : GPackage) : Tr.cntL x.tr ≤ 6 + 20 * Tr.bulkL x.tr := by
  obtain ⟨v0, v1, v2, v3, v4, v5⟩ := x
  have c1 := strCnt v1
  have d1 := strTrs_len v1
  have c2 := GTrait.cnts_le v2
  have d2 := GTrait.trs_len v2
  have c3 := GDataType.cnts_le v3
  have d3 := GDataType.trs_len v3
  have c4 := GInstance.cnts_le v4
  have d4 := GInstance.trs_len v4
  have c5 := GFunction.cnts_le v5
  have d5 := GFunction.trs_len v5
  simp only [GPackage.tr, Tr.cntL_append, Tr.bulkL_cat, Tr.cntL, Tr.cnt, Tr.bulkL, Tr.bulk]
  omega
theorem GPackage.cnts_le (l : List GPackage) : Tr.cntE (GPackage.trs l) ≤ 20 * l.length + 20 * Tr.bulkAll (GPackage.trs l) := by
  have h := cnts_of (GPackage.all (l := l) (Q := fun e => Tr.cntL e ≤ 20 + 20 * Tr.bulkL e) (fun x _ => by have := GPackage.cnt_le x; omega))
  rw [GPackage.trs_len] at h
  exact h
theorem GProgram.cnt_le (x : GProgram) : Tr.cntL x.tr ≤ 1 + 20 * Tr.bulkL x.tr := by
  obtain ⟨v0⟩ := x
  have c0 := GPackage.cnts_le v0
  have d0 := GPackage.trs_len v0
  simp only [GProgram.tr, Tr.cntL_append, Tr.bulkL_cat, Tr.cntL, Tr.cnt, Tr.bulkL, Tr.bulk]
  omega
theorem GProgram.top_le (x : GProgram) : Tr.topN x.tr ≤ 20 + 20 * Tr.bulkL x.tr := by
  have h1 := Tr.topN_cnt x.tr
  have h2 := GProgram.cnt_le x
  omega
end Go.Proofs.YtnakkelglbcecaaGreat

namespace Go.Proofs.YtnakkelglbcecaaGreat
set_option linter.unusedSimpArgs false
set_option linter.unusedVariables false
open Go.RowKit Go.WalkArith
attribute [local irreducible] lt

section
variable {α β : Type} {g : Nat → List α} {M : Nat}
end
theorem bulk_all : ∀ {es : List (List Tr)} {e : List Tr}, e ∈ es → Tr.bulkL e ≤ Tr.bulkAll es
  | a :: es, e, h => by
    rw [Tr.bulkAll]
    rcases List.mem_cons.1 h with rfl | h
    · omega
    · have := bulk_all h
      omega
theorem GProgram.pkg_bulk (w : GProgram) : Tr.bulkAll (GPackage.trs w.gPackages) ≤ Tr.bulkL w.tr := by
  rw [GProgram.tr_cs]
  simp only [GProgram.cs, Tr.bulkL, Tr.bulk]
  omega
end Go.Proofs.YtnakkelglbcecaaGreat

namespace Go.Proofs.YtnakkelglbcecaaGreat
open Go.RowKit Go.Proofs
set_option linter.unusedSimpArgs false
set_option linter.unusedVariables false


def GInstance.zero : GInstance := (.mk ⟨#[]⟩ [] (.mk 0 ⟨#[]⟩ []) [] false false (.mk 0 ⟨#[]⟩ []) [])
end Go.Proofs.YtnakkelglbcecaaGreat

namespace Go.Proofs.YtnakkelglbcecaaGreat
open Go.RowKit Go.Proofs
set_option linter.unusedSimpArgs false
set_option linter.unusedVariables false

attribute [local irreducible] lt

end Go.Proofs.YtnakkelglbcecaaGreat

namespace Go.Proofs.YtnakkelglbcecaaGreat
set_option linter.unusedSimpArgs false
set_option linter.unusedVariables false
open Go.RowKit Go.WalkArith

def wt (l : List GType) : Nat := l.length + Tr.bulkAll (GType.trs l)
def BOk (s : List GBinding) : Prop := ∀ b ∈ s, Tr.bulkL b.gType.tr ≤ 68719476735
theorem BOk.nil : BOk [] := fun b hb => by simp at hb
end Go.Proofs.YtnakkelglbcecaaGreat

namespace Go.Proofs.YtnakkelglbcecaaGreat
open Go.RowKit Go.Proofs
set_option linter.unusedSimpArgs false
set_option linter.unusedVariables false

attribute [local irreducible] lt

end Go.Proofs.YtnakkelglbcecaaGreat

namespace Go.Proofs.YtnakkelglbcecaaGreat
set_option linter.unusedSimpArgs false
set_option linter.unusedVariables false
open Go.RowKit Go.Proofs

/-- j places have been looked at; what is kept of them, i elements, lies at the head; from place j on all is as it was. -/
structure DInv {α : Type} (p : α → Bool) (l : List α) (i j : Nat) (dk : List α) : Prop where
  len : dk.length = l.length
  lt : i < j
  low : dk.take i = (l.take j).filter (fun x => !p x)
  high : ∀ q, j ≤ q → dk[q]? = l[q]?
theorem DInv.keep {α : Type} {p : α → Bool} {l dk : List α} {i j : Nat} (h : DInv p l i j dk) (hj : j < l.length) (hp : p l[j] = false) : DInv p l (i + 1) (j + 1) (dk.set i l[j]) := by
  have hl := h.len
  have hlt := h.lt
  refine ⟨by simp [hl], by omega, ?_, fun q hq => ?_⟩
  · rw [List.take_succ_eq_append_getElem hj, List.filter_append, ← h.low]
    rw [List.take_succ_eq_append_getElem (by simp; omega), List.take_set_of_le (Nat.le_refl _)]
    simp [hp]
  · rw [List.getElem?_set_ne (by omega)]
    exact h.high q (by omega)
theorem DInv.skip {α : Type} {p : α → Bool} {l dk : List α} {i j : Nat} (h : DInv p l i j dk) (hj : j < l.length) (hp : p l[j] = true) : DInv p l i (j + 1) dk := by
  have hlt := h.lt
  refine ⟨h.len, by omega, ?_, fun q hq => h.high q (by omega)⟩
  rw [List.take_succ_eq_append_getElem hj, List.filter_append, ← h.low]
  simp [hp]
/-- A head of an own slice. -/
theorem Own.head {w : World} {sz : Nat} {es : List (List Tr)} {a : Option Addr} {n cap i : Nat} {S : Nat → Prop} (h : Own w (.row sz es) (.slice a n cap) S) (hi : i ≤ es.length) : Own w (.row sz (es.take i)) (.slice a i cap) S := by
  cases h with
  | row c T h1 h2 h3 h4 h5 h6 =>
    have hg : ∀ q e, (es.take i)[q]? = some e → es[q]? = some e := fun q e he => by
      rw [List.getElem?_take] at he
      split at he
      · exact he
      · cases he
    have hl : (es.take i).length = i := by simp; omega
    have := Own.row (w := w) (sz := sz) (es := es.take i) (a := a) (cap := cap) (S := S) c T (by omega) h2 (fun hne => by
      obtain ⟨b, off, E, arr, ha, hob, hs, hc⟩ := h3 (fun h0 => hne (by rw [h0]; simp))
      exact ⟨b, off, E, arr, ha, hob, hs, fun q e he => hc q e (hg q e he)⟩) (fun q e he => h4 q e (hg q e he)) (fun q e he => h5 q e (hg q e he)) (fun q e he j d hd q' e' he' => h6 q e (hg q e he) j d hd q' e' (hg q' e' he'))
    rwa [hl] at this
end Go.Proofs.YtnakkelglbcecaaGreat

namespace Go.Proofs.YtnakkelglbcecaaGreat
set_option linter.unusedSimpArgs false
set_option linter.unusedVariables false
open Go.RowKit Go.Proofs

end Go.Proofs.YtnakkelglbcecaaGreat

namespace Go.Proofs.YtnakkelglbcecaaGreat
open Go.RowKit Go.Proofs
set_option linter.unusedSimpArgs false
set_option linter.unusedVariables false

end Go.Proofs.YtnakkelglbcecaaGreat

namespace Go.Proofs.YtnakkelglbcecaaGreat
open Go.RowKit Go.Proofs
set_option linter.unusedSimpArgs false
set_option linter.unusedVariables false

end Go.Proofs.YtnakkelglbcecaaGreat

namespace Go.Proofs.YtnakkelglbcecaaGreat
open Go.RowKit Go.Proofs
set_option linter.unusedSimpArgs false
set_option linter.unusedVariables false

attribute [local irreducible] lt

end Go.Proofs.YtnakkelglbcecaaGreat

namespace Go.Proofs.YtnakkelglbcecaaGreat
open Go.RowKit

end Go.Proofs.YtnakkelglbcecaaGreat

namespace Go.Proofs.YtnakkelglbcecaaGreat
set_option linter.unusedSimpArgs false
set_option linter.unusedVariables false
open Go.RowKit Go.Proofs

end Go.Proofs.YtnakkelglbcecaaGreat

namespace Go.Proofs.YtnakkelglbcecaaGreat
set_option linter.unusedSimpArgs false
set_option linter.unusedVariables false
attribute [local irreducible] lt
open Go.RowKit Go.WalkArith

end Go.Proofs.YtnakkelglbcecaaGreat

namespace Go.Proofs.YtnakkelglbcecaaGreat
set_option linter.unusedSimpArgs false
set_option linter.unusedVariables false
attribute [local irreducible] lt
open Go.RowKit Go.WalkArith

end Go.Proofs.YtnakkelglbcecaaGreat

namespace Go.Proofs.YtnakkelglbcecaaGreat
set_option linter.unusedSimpArgs false
set_option linter.unusedVariables false
open Go.RowKit Go.Proofs
theorem OwnL.tail {w : World} {t : Tr} {ts : List Tr} {v : Value} {vs : List Value} {S : Nat → Prop} (h : OwnL w (t :: ts) (v :: vs) S) : OwnL w ts vs S := by
  obtain ⟨hl, T, h1, h2, h3⟩ := h
  exact ⟨by simpa using hl, fun j => T (j + 1), fun j d hd => by simpa using h1 (j + 1) d (by simpa using hd), fun j d hd => h2 (j + 1) d (by simpa using hd), fun j d hd j' d' hd' hne => h3 (j + 1) d (by simpa using hd) (j' + 1) d' (by simpa using hd') (by omega)⟩
end Go.Proofs.YtnakkelglbcecaaGreat

namespace Go.Proofs.YtnakkelglbcecaaGreat
set_option linter.unusedSimpArgs false
open Go.RowKit
end Go.Proofs.YtnakkelglbcecaaGreat

namespace Go.Proofs.YtnakkelglbcecaaGreat
set_option linter.unusedSimpArgs false
set_option linter.unusedVariables false
attribute [local irreducible] lt
open Go.RowKit Go.WalkArith

theorem Own.repM {ok : Nat → Nat → Prop} {w : World} {t : Tr} {v : Value} {S : Nat → Prop} (h : Own w t v S) (hk : ∀ b o, S b → b < w.heap.size → ok b o) : RepM ok w t v := by
  induction h with
  | leaf h => exact .leaf h
  | row c T h1 h2 h3 _ h5 h6 ih =>
    refine .row c h1 h2 (fun hne => ?_) (fun i e he j d hd => ih i e he j d hd fun b o hb hl => hk b o (h5 i e he j d hd b hb) hl)
    obtain ⟨b, off, E, arr, ha, hb, hs, hc⟩ := h3 hne
    exact ⟨b, off, ha, hb.lt, fun i e he j d hd => ⟨hk _ _ hs hb.lt, by rw [hb.cell]; exact (hc i e he j d hd).1⟩⟩
end Go.Proofs.YtnakkelglbcecaaGreat

namespace Go.Proofs.YtnakkelglbcecaaGreat
set_option linter.unusedSimpArgs false
set_option linter.unusedVariables false
open Go.RowKit

def okX (g : Nat) : Nat → Nat → Prop := fun b _ => b ≠ g
/-- The trees lie there, and nothing of them lies in block g. -/
abbrev RepLX (g : Nat) (w : World) (ts : List Tr) (cs : List Value) : Prop := RVL (okX g) ⟨[], []⟩ lay0 w (ts.map PV.t) cs
theorem RVL.monoT {ok ok' : Nat → Nat → Prop} {st st' : Sto} {m m' : Lay} {w w' : World} (hz : w.heap.size ≤ w'.heap.size) (hk : ∀ b o, b < w.heap.size → ok b o → ok' b o) (hc : ∀ b o, b < w.heap.size → ok b o → w'.cell? ⟨b, o, none⟩ = w.cell? ⟨b, o, none⟩) :
    ∀ (ts : List Tr) (cs : List Value), RVL ok st m w (ts.map PV.t) cs → RVL ok' st' m' w' (ts.map PV.t) cs
  | [], [], h => h
  | [], _ :: _, h => h.elim
  | _ :: _, [], h => h.elim
  | t :: ts, v :: vs, h => ⟨RepM.mono h.1 hz hk hc, RVL.monoT hz hk hc ts vs h.2⟩
theorem RepLX.rep {g : Nat} {w : World} {ts : List Tr} {cs : List Value} (h : RepLX g w ts cs) : RepL w ts cs := RVL.ofTr h
theorem RepLX.ext {g : Nat} {w w' : World} {ts : List Tr} {cs : List Value} (h : RepLX g w ts cs) (hx : Ext w w') : RepLX g w' ts cs := RVL.monoT hx.size (fun _ _ _ h => h) (fun _ _ hb _ => heap_other_cell (hx.block _ hb)) ts cs h
theorem RepLX.grown {g : Nat} {w w' : World} {ts : List Tr} {cs : List Value} (h : RepLX g w ts cs) (hx : w.grownBy w' (some g)) : RepLX g w' ts cs :=
  RVL.monoT hx.size (fun _ _ _ h => h) (fun b _ hb hne => heap_other_cell (hx.block b hb (fun e => hne (by cases e; rfl)))) ts cs h
end Go.Proofs.YtnakkelglbcecaaGreat

namespace Go.Proofs.YtnakkelglbcecaaGreat
set_option linter.unusedSimpArgs false
set_option linter.unusedVariables false
attribute [local irreducible] lt
open Go.RowKit Go.WalkArith

theorem foldl_sn {α : Type} : ∀ (l s : List α), l.foldl (fun s x => s ++ [x]) s = s ++ l
  | [], s => by simp
  | a :: l, s => by rw [List.foldl_cons, foldl_sn l, List.append_assoc]; rfl
theorem expr_mem {x : GExpr} {l : List GExpr} (h : x ∈ l) : Tr.bulkL x.tr ≤ Tr.bulkAll (GExpr.trs l) := by
  induction l with
  | nil => simp at h
  | cons a l ih =>
    rw [GExpr.trs_map, List.map_cons, Tr.bulkAll, ← GExpr.trs_map]
    rcases List.mem_cons.1 h with rfl | h
    · omega
    · have := ih h; omega
theorem sl11Copy_ev : ∀ x : GExpr, Evt fun fu => Tr.bulkL x.tr ≤ 68719476735 → sl11Copy_M fu x = some x := by
  refine GExpr.ind fun k tn nm m ty xs rs ih5 ih6 => ?_
  have hpt := expr_parts k tn nm m ty xs rs
  refine Evt.succ (((Evt.list ih5).and (Evt.list ih6)).imp fun fu hf hb => ?_)
  have hty : ty.gArgs.length + Tr.bulkAll (GType.trs ty.gArgs) ≤ Tr.bulkL ty.tr := by
    obtain ⟨k2, n2, ps2⟩ := ty
    exact bulk_args k2 n2 ps2
  simp only [sl11Copy_M, sl11Copy_G, GExpr.gKind_mk, GExpr.gTrait_mk, GExpr.gName_mk, GExpr.gN_mk, GExpr.gType_mk]
  refine gdT (by omega) (soR (s := xs) ?_ (soR (s := rs) ?_ rfl))
  · unfold sl11Copy_R1
    simp only [GExpr.gArgs_mk]
    rw [loopN_fold0 (l := xs) (g := fun s x => s ++ [x]) (fun i s => s.length = i) (fun i s hi hp => ?_) rfl, foldl_sn, List.nil_append]
    have hm := expr_mem (atD_mem hi)
    refine ⟨?_, by rw [List.length_append, hp]; rfl⟩
    unfold sl11Copy_F1
    simp only [GExpr.gArgs_mk]
    refine ltE rfl (bdS (hf.1 _ (atD_mem hi) (by omega)) (gdT (by simp only [List.length_cons, List.length_nil]; omega) rfl))
  · unfold sl11Copy_R2
    simp only [GExpr.gArms_mk]
    rw [loopN_fold0 (l := rs) (g := fun s x => s ++ [x]) (fun i s => s.length = i) (fun i s hi hp => ?_) rfl, foldl_sn, List.nil_append]
    have hm := arm_bulk (atD_mem hi)
    have hq := arm_parts (atD rs i)
    refine ⟨?_, by rw [List.length_append, hp]; rfl⟩
    unfold sl11Copy_F2
    simp only [GExpr.gArms_mk]
    refine ltE rfl (gdT (by rw [List.length_nil]; omega) (bdS (hf.2 _ (atD_mem hi) (by omega)) (gdT (by simp only [List.length_cons, List.length_nil]; omega) ?_)))
    generalize atD rs i = y at *
    obtain ⟨a, b, c⟩ := y
    rfl
theorem bound_mem {x : GBound} {l : List GBound} (h : x ∈ l) : Tr.bulkL x.gType.tr ≤ Tr.bulkAll (GBound.trs l) := by
  obtain ⟨i, hi, rfl⟩ := List.getElem_of_mem h
  exact bound_bulk hi
theorem param_mem {x : GParam} {l : List GParam} (h : x ∈ l) : Tr.bulkL x.gType.tr ≤ Tr.bulkAll (GParam.trs l) := by
  obtain ⟨i, hi, rfl⟩ := List.getElem_of_mem h
  exact param_bulk hi
theorem sl13Bounds_ev (fu : Nat) (l : List GBound) (hb : l.length + Tr.bulkAll (GBound.trs l) ≤ 68719476735) : sl13Bounds_M fu l = some l := by
  unfold sl13Bounds_M
  refine soR (s := l) ?_ rfl
  unfold sl13Bounds_R1
  rw [loopN_fold0 (l := l) (g := fun s x => s ++ [x]) (fun i s => s.length = i) (fun i s hi hp => ?_) rfl, foldl_sn, List.nil_append]
  have hm := bound_mem (atD_mem hi)
  refine ⟨?_, by rw [List.length_append, hp]; rfl⟩
  unfold sl13Bounds_F1
  refine gdT (by omega) ?_; refine gdT (by rw [List.length_singleton]; omega) ?_
  generalize atD l i = y at *
  obtain ⟨a, b⟩ := y
  rfl
theorem sl17Fn_ev (x : GFunction) : Evt fun fu => Tr.bulkL x.tr ≤ 68719476735 → sl17Fn_M fu x = some x := by
  obtain ⟨nm, vs, wh, ps, rt, bd⟩ := x
  have hpt := fn_parts nm vs wh ps rt bd
  refine (sl11Copy_ev bd).imp fun fu hf hb => ?_
  unfold sl17Fn_M
  simp only [GFunction.gVars_mk, GFunction.gWhere_mk, GFunction.gResult_mk, GFunction.gBody_mk, GFunction.gName_mk]
  refine soR (s := ps) ?_ (gdT (by rw [List.length_nil]; omega) (bdS (sl13Bounds_ev fu wh (by omega)) (gdT (by omega) (bdS (hf (by omega)) rfl))))
  unfold sl17Fn_R1
  simp only [GFunction.gParams_mk]
  rw [loopN_fold0 (l := ps) (g := fun s x => s ++ [x]) (fun i s => s.length = i) (fun i s hi hp => ?_) rfl, foldl_sn, List.nil_append]
  have hm := param_mem (atD_mem hi)
  refine ⟨?_, by rw [List.length_append, hp]; rfl⟩
  unfold sl17Fn_F1
  simp only [GFunction.gParams_mk]
  refine gdT (by omega) ?_; refine gdT (by rw [List.length_singleton]; omega) ?_
  generalize atD ps i = y at *
  obtain ⟨a, b⟩ := y
  rfl
theorem sFindF_ok (w : GProgram) (nm : ByteArray) (hB : Tr.bulkL (oFunction (w.functionAt nm)).tr ≤ 68719476735) : AFun Tryz.prog 71 [(GProgram.pv w), .t (.leaf (.string nm))] (.tup [(GFunction.pv (oFunction (w.functionAt nm))), .t (.leaf (.int .i64 (oInt (w.functionAt nm)))), .t (.leaf (.bool (w.functionAt nm).isSome))]) := by
  obtain ⟨fu, hf⟩ := (sl17Fn_ev (oFunction (w.functionAt nm))).get
  refine sFindFunction_ok fu w nm (oFunction (w.functionAt nm), oInt (w.functionAt nm), (w.functionAt nm).isSome) ?_
  unfold sFindFunction_M
  exact bdS (hf hB) rfl
theorem findFP_spec (x0 : GProgram) (nm : ByteArray) (w : World) (c0 : List Value) (h0 : RepL w x0.tr c0) (hn : nm.size ≤ maxLen) (hB : Tr.bulkL (oFunction (x0.functionAt nm)).tr ≤ 68719476735) :
    Calls Tryz.prog 71 #[.agg ⟨c0⟩, .string nm] w fun e w' => ∃ ct, e = .returned (.tuple #[.agg ⟨ct⟩, .int .i64 (oInt (x0.functionAt nm)), .bool (x0.functionAt nm).isSome]) ∧ Ext w w' ∧ RepL w' (oFunction (x0.functionAt nm)).tr ct := by
  rw [GProgram.tr_cs] at h0
  have h := sFindF_ok x0 nm hB
  rw [show GFunction.pv (oFunction (x0.functionAt nm)) = .agg ((oFunction (x0.functionAt nm)).tr.map PV.t) from by rw [GFunction.tr_cs]; rfl] at h
  exact h.plainA3 (RVL0.cons (RV0.agg h0) (RVL0.cons (RV0.t (.leaf hn)) RVL0.nil))
theorem findQ_mem {α : Type} {key : α → ByteArray} {items : GPackage → List α} {s : ByteArray} {x : α × Nat} : ∀ {ps : List GPackage} {i : Nat}, findP key items s i ps = some x → ∃ p ∈ ps, x.1 ∈ items p
  | [], _, h => by simp [findP] at h
  | p :: ps, i, h => by
    rw [findP] at h
    split at h
    · rename_i y hy
      cases h
      exact ⟨p, by simp, List.mem_of_find?_eq_some hy⟩
    · obtain ⟨q, hq, hx⟩ := findQ_mem h
      exact ⟨q, by simp [hq], hx⟩
theorem GPackage.fn_bulk (p : GPackage) : Tr.bulkAll (GFunction.trs p.gFunctions) ≤ Tr.bulkL p.tr := by
  rw [GPackage.tr_cs]
  simp only [GPackage.cs, Tr.bulkL, Tr.bulk, GFunction.trs_len]
  omega
theorem GProgram.fn_bulk (w : GProgram) (s : ByteArray) : Tr.bulkL (oFunction (w.functionAt s)).tr ≤ Tr.bulkL w.tr := by
  cases hq : w.functionAt s with
  | none => exact Nat.zero_le _
  | some x =>
    obtain ⟨p, hp, hx⟩ := findQ_mem (show findP GFunction.gName GPackage.gFunctions s 0 w.gPackages = some x from hq)
    have h1 := bulk_all (es := GPackage.trs w.gPackages) (e := p.tr) (by rw [GPackage.trs_map]; exact List.mem_map_of_mem hp)
    have h2 := bulk_all (es := GFunction.trs p.gFunctions) (e := x.1.tr) (by rw [GFunction.trs_map]; exact List.mem_map_of_mem hx)
    have h3 := p.fn_bulk
    have h4 := w.pkg_bulk
    show Tr.bulkL x.1.tr ≤ _
    omega
theorem GProgram.fn_top (w : GProgram) (s : ByteArray) (hw : Tr.bulkL w.tr ≤ 1048576) : 1 + Tr.topN (oFunction (w.functionAt s)).tr ≤ 1152921504606846976 := by
  have h1 := Tr.topN_cnt (oFunction (w.functionAt s)).tr
  have h2 := GFunction.cnt_le (oFunction (w.functionAt s))
  have h3 := w.fn_bulk s
  omega
end Go.Proofs.YtnakkelglbcecaaGreat

namespace Go.Proofs.YtnakkelglbcecaaGreat
set_option linter.unusedSimpArgs false
set_option linter.unusedVariables false
open Go.RowKit Go.Proofs
theorem OwnL.oneInv {w : World} {t : Tr} {v : Value} {S : Nat → Prop} (h : OwnL w [t] [v] S) : Own w t v S := by
  obtain ⟨hl, T, h1, h2, h3⟩ := h
  obtain ⟨v', hv, ho⟩ := h1 0 t rfl
  obtain rfl : v = v' := by simpa using hv
  exact ho.mono fun x hx => h2 0 t rfl x hx
theorem OwnL.focus {w : World} {a b c : List Tr} {x y z : List Value} {S : Nat → Prop} (h : OwnL w (a ++ (b ++ c)) (x ++ (y ++ z)) S) (hx : x.length = a.length) (hy : y.length = b.length) :
    ∃ U : Nat → Prop, OwnL w b y U ∧ (∀ q, U q → S q) ∧ ∀ w' b', OwnL w' b' y U → b'.length = b.length → (∀ q, q < w.heap.size → S q → ¬ U q → w'.heap[q]? = w.heap[q]?) → OwnL w' (a ++ (b' ++ c)) (x ++ (y ++ z)) S := by
  obtain ⟨hl, T, h1, h2, h3⟩ := h
  have get : ∀ (b : List Tr) (hb : y.length = b.length) j d, b[j]? = some d → (a ++ (b ++ c))[a.length + j]? = some d := by
    intro b hb j d hd
    have hj : j < b.length := (List.getElem?_eq_some_iff.1 hd).1
    rw [List.getElem?_append_right (by omega), Nat.add_sub_cancel_left, List.getElem?_append_left hj]
    exact hd
  refine ⟨fun q => ∃ j, j < b.length ∧ T (a.length + j) q, ⟨hy, fun j => T (a.length + j), ?_, ?_, ?_⟩, ?_, ?_⟩
  · intro j d hd
    have hj : j < b.length := (List.getElem?_eq_some_iff.1 hd).1
    obtain ⟨v, hv, ho⟩ := h1 _ d (get b hy j d hd)
    refine ⟨v, ?_, ho⟩
    rw [List.getElem?_append_right (by omega), hx, Nat.add_sub_cancel_left, List.getElem?_append_left (by omega)] at hv
    exact hv
  · intro j d hd q hq
    exact ⟨j, (List.getElem?_eq_some_iff.1 hd).1, hq⟩
  · intro j d hd j' d' hd' hne
    exact h3 _ d (get b hy j d hd) _ d' (get b hy j' d' hd') (by omega)
  · rintro q ⟨j, hj, hq⟩
    exact h2 _ _ (get b hy j _ (List.getElem?_eq_getElem hj)) q hq
  · intro w' b' hb' hlen hk
    obtain ⟨hl', T', k1, k2, k3⟩ := hb'
    have old : ∀ i d, (a ++ (b' ++ c))[i]? = some d → (∃ j, i = a.length + j ∧ j < b.length ∧ b'[j]? = some d) ∨ ((i < a.length ∨ a.length + b.length ≤ i) ∧ (a ++ (b ++ c))[i]? = some d) := by
      intro i d hd
      by_cases h : i < a.length
      · rw [List.getElem?_append_left h] at hd
        exact .inr ⟨.inl h, by rw [List.getElem?_append_left h]; exact hd⟩
      · by_cases h' : i < a.length + b.length
        · refine .inl ⟨i - a.length, by omega, by omega, ?_⟩
          rw [List.getElem?_append_right (by omega), List.getElem?_append_left (by omega)] at hd
          exact hd
        · refine .inr ⟨.inr (by omega), ?_⟩
          rw [List.getElem?_append_right (by omega), List.getElem?_append_right (by omega), hlen] at hd
          rw [List.getElem?_append_right (by omega), List.getElem?_append_right (by omega)]
          exact hd
    have oldU : ∀ i d, (i < a.length ∨ a.length + b.length ≤ i) → (a ++ (b ++ c))[i]? = some d → ∀ q, T i q → ¬ ∃ j, j < b.length ∧ T (a.length + j) q := by
      rintro i d hi hd q hq ⟨j, hj, hq'⟩
      exact h3 i d hd _ _ (get b hy j _ (List.getElem?_eq_getElem hj)) (by omega) q hq hq'
    refine ⟨by simp only [List.length_append] at hl ⊢; omega, fun i q => if i < a.length ∨ a.length + b.length ≤ i then T i q else T' (i - a.length) q, ?_, ?_, ?_⟩
    · intro i d hd
      rcases old i d hd with ⟨j, rfl, hj, hd⟩ | ⟨hi, hd⟩
      · obtain ⟨v, hv, ho⟩ := k1 j d hd
        refine ⟨v, ?_, ?_⟩
        · rw [List.getElem?_append_right (by omega), hx, Nat.add_sub_cancel_left, List.getElem?_append_left (by omega)]
          exact hv
        · show Own w' d v (fun q => if a.length + j < a.length ∨ a.length + b.length ≤ a.length + j then T (a.length + j) q else T' (a.length + j - a.length) q)
          rw [show (fun q => if a.length + j < a.length ∨ a.length + b.length ≤ a.length + j then T (a.length + j) q else T' (a.length + j - a.length) q) = T' j from funext fun q => by rw [if_neg (by omega), Nat.add_sub_cancel_left]]
          exact ho
      · obtain ⟨v, hv, ho⟩ := h1 i d hd
        refine ⟨v, hv, ?_⟩
        show Own w' d v (fun q => if i < a.length ∨ a.length + b.length ≤ i then T i q else T' (i - a.length) q)
        rw [show (fun q => if i < a.length ∨ a.length + b.length ≤ i then T i q else T' (i - a.length) q) = T i from funext fun q => by rw [if_pos hi]]
        exact ho.keep fun q hq hlt => hk q hlt (h2 i d hd q hq) (oldU i d hi hd q hq)
    · intro i d hd q hq
      rcases old i d hd with ⟨j, rfl, hj, hd⟩ | ⟨hi, hd⟩
      · rw [if_neg (by omega), Nat.add_sub_cancel_left] at hq
        obtain ⟨j', hj', hq'⟩ := k2 j d hd q hq
        exact h2 _ _ (get b hy j' _ (List.getElem?_eq_getElem hj')) q hq'
      · rw [if_pos hi] at hq
        exact h2 i d hd q hq
    · intro i d hd i' d' hd' hne q hq hq'
      rcases old i d hd with ⟨j, rfl, hj, hd⟩ | ⟨hi, hd⟩ <;> rcases old i' d' hd' with ⟨j', rfl, hj', hd'⟩ | ⟨hi', hd'⟩
      · rw [if_neg (by omega), Nat.add_sub_cancel_left] at hq hq'
        exact k3 j d hd j' d' hd' (by omega) q hq hq'
      · rw [if_neg (by omega), Nat.add_sub_cancel_left] at hq
        rw [if_pos hi'] at hq'
        exact oldU i' d' hi' hd' q hq' (k2 j d hd q hq)
      · rw [if_pos hi] at hq
        rw [if_neg (by omega), Nat.add_sub_cancel_left] at hq'
        exact oldU i d hi hd q hq (k2 j' d' hd' q hq')
      · rw [if_pos hi] at hq
        rw [if_pos hi'] at hq'
        exact h3 i d hd i' d' hd' hne q hq hq'
theorem OB.chg {w w' : World} {S : Nat → Prop} {g : Nat} {t : TypeId} {cs : Array Value} (h : OB w g t cs) (hc : Chg S w w') (hn : ¬ S g) : OB w' g t cs := (hc.block g h.lt hn).trans h
end Go.Proofs.YtnakkelglbcecaaGreat
