/- FnExactOrphanInstances returns true for every input, and leaves what was there as it was. No conditions. -/
import Derived.Test.YtnakkelglbcecaaGreatRows
import Derived.Test.YtnakkelglbcecaaGreatQhd57c2d15
import Derived.Test.YtnakkelglbcecaaGreatQh45a51f2a
import Derived.Test.YtnakkelglbcecaaGreatQhe49e622d
import Derived.Test.YtnakkelglbcecaaGreatQh3a592713
import Derived.ProofKit
import Derived.OpenShut
import Derived.ShutString
import Derived.ChangeOld
import Derived.Test.YtnakkelglbcecaaGreatQJExactOrphanInstances
import Derived.Test.YtnakkelglbcecaaGreatQh5611bbe8
import Derived.Test.YtnakkelglbcecaaGreatQh8be9b30e
set_option linter.unusedSimpArgs false
set_option linter.unusedVariables false
namespace Go.Proofs.YtnakkelglbcecaaGreat.fnExactOrphanInstancesDone
open Go.Proofs Go.Proofs.YtnakkelglbcecaaGreat Go.ChangeShapes Go.WideShapes Go.ChangeAt Go.RowKit
open Go.ChangeMaps (open_string shut_string)

theorem obchg {S : Nat → Prop} {w w' : World} {g : Nat} {t : TypeId} {cs : Array Value} (h : OB w g t cs) (hc : Chg S w w') (hn : ¬ S g) : OB w' g t cs := (hc.block g h.lt hn).trans h
set_option maxRecDepth 100000 in
set_option maxHeartbeats 8000000 in
theorem law_FnExactOrphanInstances (w : World) (x0 : GProgram) (cs0 : List Value) (hr0 : RepL w x0.tr cs0) :
    Calls Tryz.prog 7 #[.agg ⟨cs0⟩] w fun e w' => e = .returned (.bool true) ∧ Below w.heap.size w w' := by
  have HL0 : Hid (cs0.length = 1) := by rw [← hr0.length, GProgram.tr_len]; rfl
  have HI0 : Hid ((Tryz.prog.info? 24).map (·.size) = some cs0.length) := by rw [HL0.out]; exact isz24
  have HR0 := Lib.hid hr0
  clear hr0
  go_enter Tryz.func7, Tryz.ntmps7
  go_wp2_with (first
    | (refine wpList_load_rep rfl 24 (.tmp 1) rfl (w.heap.size) 0 rfl cs0 _ Tryz.underlying24 HI0.out (OB.cells0 (OB.new w _ _)) ?_))
  refine (szProgram_all x0 _ _ _ (HR0.out.ext (Ext.alloc (Ext.refl _) _)) (by omega) (by omega)).mono ?_
  rintro e w1 ⟨r1, rfl, hw1, ra1, rb1, rc1⟩
  have RC1 := Lib.hid rc1
  clear rc1
  have Fp0_1 := Lib.hid ((OB.new w _ _).ext hw1)
  have X1 := Lib.hid (Ext.trans (Ext.alloc (Ext.refl _) _) hw1)
  have z1 : w.heap.size + 1 ≤ w1.heap.size := (by have h1 := hw1.size; simp only [World.size_alloc] at h1; omega)
  clear hw1
  go_wp2_with (first
    | (refine wpList_load_rep rfl 24 (.tmp 1) rfl (w.heap.size) 0 rfl cs0 _ Tryz.underlying24 HI0.out (OB.cells0 (Fp0_1.out)) ?_))
  · go_ret
    exact ⟨rfl, X1.out⟩
  have hb0 := RC1.out (by omega)
  refine (toProgram_all x0 _ _ (HR0.out.ext X1.out) (by omega)).mono ?_
  rintro e w2 ⟨t2, rfl, hw2, ho2⟩
  have HO2 := Lib.hid ho2
  have HT2 : Hid (t2.length = 1) := (by rw [ho2.1]; exact GProgram.tr_len _)
  have HJ2 : Hid ((Tryz.prog.info? 31).map (·.size) = some t2.length) := (by rw [HT2.out]; exact isz31)
  clear ho2
  have Fp0_2 := Lib.hid ((Fp0_1.out).ext hw2)
  have X2 := Lib.hid (Ext.trans X1.out hw2)
  have z2 : w1.heap.size ≤ w2.heap.size := hw2.size
  clear hw2
  go_wp2_with (first
    | (refine wpList_load_rep rfl 24 (.tmp 1) rfl (w.heap.size) 0 rfl cs0 _ Tryz.underlying24 HI0.out (OB.cells0 (Fp0_2.out)) ?_))
  refine (orphansP_spec x0 _ _ ((HO2.out).rep) (by have := x0.allRefs_bulk; omega)).mono ?_
  rintro e w3 ⟨tv3, rfl, hw3, ho3⟩
  have HO3 := Lib.hid ho3
  obtain ⟨ta3, tc3, hv3, -, -⟩ := HO3.out.shape
  rw [GInstanceRef.trs_len] at hv3
  subst hv3
  clear ho3
  have Fp0_3 := Lib.hid ((Fp0_2.out).ext hw3)
  have Ft2_3 := Lib.hid ((HO2.out).ext hw3)
  have X3 := Lib.hid (Ext.trans X2.out hw3)
  have z3 : w2.heap.size ≤ w3.heap.size := hw3.size
  clear hw3
  go_wp2_with (first
    | (refine wpList_load_rep rfl 24 (.tmp 1) rfl (w.heap.size) 0 rfl cs0 _ Tryz.underlying24 HI0.out (OB.cells0 (Fp0_3.out)) ?_))
  refine (toProgram_all x0 _ _ (HR0.out.ext X3.out) (by omega)).mono ?_
  rintro e w4 ⟨t4, rfl, hw4, ho4⟩
  have HO4 := Lib.hid ho4
  have HT4 : Hid (t4.length = 1) := (by rw [ho4.1]; exact GProgram.tr_len _)
  have HJ4 : Hid ((Tryz.prog.info? 31).map (·.size) = some t4.length) := (by rw [HT4.out]; exact isz31)
  clear ho4
  have Fp0_4 := Lib.hid ((Fp0_3.out).ext hw4)
  have Ft3_4 := Lib.hid (Ext.trans (Ext.refl _) hw4)
  have X4 := Lib.hid (Ext.trans X3.out hw4)
  have z4 : w3.heap.size ≤ w4.heap.size := hw4.size
  clear hw4
  go_wp2_with (first
    | (refine wpList_store_rep rfl 31 (.tmp 5) (.tmp 20) rfl w4.heap.size 0 rfl t4 rfl 31 _ (OB.new w4 _ _) HJ4.out (by rw [HT4.out]; exact Nat.le_refl _) (HO4.out.rep.one) ?_; intro w5 hob hgb hzb; rw [splice_whole (by rw [HT4.out]; rfl)] at hob; have hw5 := grown_ext (.alloc (.refl w4) _) hgb (Nat.le_refl _); have Fp0_5 := Lib.hid ((Fp0_4.out).ext hw5); have Ft3_5 := Lib.hid (Ext.trans Ft3_4.out hw5); have Ft4_5 := Lib.hid ((HO4.out).ext hw5); have X5 := Lib.hid (Ext.trans X4.out hw5); have z5 : w4.heap.size ≤ w5.heap.size := hw5.size; have Fb5_5 := Lib.hid hob; have zs5 : w4.heap.size < w5.heap.size := hob.lt; clear hob hgb hzb hw5)
    | (refine wpList_load_rep rfl 24 (.tmp 1) rfl (w.heap.size) 0 rfl cs0 _ Tryz.underlying24 HI0.out (OB.cells0 (Fp0_5.out)) ?_)
    | (refine wpList_load_rep rfl 31 (.tmp 5) rfl (w4.heap.size) 0 rfl t4 _ Tryz.underlying31 HJ4.out (OB.cells0 (Fb5_5.out)) ?_))
  refine (orphansP_impl x0 _ _ ((Ft4_5.out).rep) (by have := x0.allRefs_bulk; omega)).mono ?_
  rintro e w6 ⟨tv6, rfl, hw6, ho6⟩
  have HO6 := Lib.hid ho6
  obtain ⟨ta6, tc6, hv6, -, -⟩ := HO6.out.rep.shape
  rw [GInstanceRef.trs_len] at hv6
  subst hv6
  clear ho6
  have Fp0_6 := Lib.hid ((Fp0_5.out).ext hw6)
  have Ft3_6 := Lib.hid (Ext.trans Ft3_5.out hw6)
  have Ft4_6 := Lib.hid ((Ft4_5.out).ext hw6)
  have Fb5_6 := Lib.hid ((Fb5_5.out).ext hw6)
  have X6 := Lib.hid (Ext.trans X5.out hw6)
  have z6 : w5.heap.size ≤ w6.heap.size := hw6.size
  clear hw6
  go_wp2_with (first
    | (refine wpList_load_rep rfl 24 (.tmp 1) rfl (w.heap.size) 0 rfl cs0 _ Tryz.underlying24 HI0.out (OB.cells0 (Fp0_6.out)) ?_)
    | (refine wpList_load_rep rfl 31 (.tmp 5) rfl (w4.heap.size) 0 rfl t4 _ Tryz.underlying31 HJ4.out (OB.cells0 (Fb5_6.out)) ?_))
  refine (eqInstanceRefS_all (x0.allRefs.filter fun o => !GProgram.orphan x0 o) _ _ _ (HO6.out).rep (HO3.out.ext Ft3_6.out)).mono ?_
  rintro e w7 ⟨rfl, hw7⟩
  have Fp0_7 := Lib.hid ((Fp0_6.out).ext hw7)
  have Ft3_7 := Lib.hid (Ext.trans Ft3_6.out hw7)
  have Ft4_7 := Lib.hid ((Ft4_6.out).ext hw7)
  have Fb5_7 := Lib.hid ((Fb5_6.out).ext hw7)
  have Ft6_7 := Lib.hid ((HO6.out).ext hw7)
  have X7 := Lib.hid (Ext.trans X6.out hw7)
  have z7 : w6.heap.size ≤ w7.heap.size := hw7.size
  clear hw7
  go_wp2_with (first
    | (refine wpList_load_rep rfl 24 (.tmp 1) rfl (w.heap.size) 0 rfl cs0 _ Tryz.underlying24 HI0.out (OB.cells0 (Fp0_7.out)) ?_)
    | (refine wpList_load_rep rfl 31 (.tmp 5) rfl (w4.heap.size) 0 rfl t4 _ Tryz.underlying31 HJ4.out (OB.cells0 (Fb5_7.out)) ?_))
  refine wp_region_held_drew (S := Ext w7) (by kernel_rfl) (.drew (.refl _)) (fun hHeld => ?_)
  refine wpAnyH_load_rep (i := 0) rfl (by kernel_rfl) (by kernel_rfl) (by kernel_rfl) (fun _ _ _ h => h) rfl 31 (.tmp 5) rfl (w4.heap.size) 0 rfl t4 _ Tryz.underlying31 HJ4.out (fun w hS => OB.cells0 ((Fb5_7.out).ext hS)) (by assumption) (fun _ _ _ _ h => h) ?_
  simp only [Act.put, List.getElem_toArray, List.getElem_cons_zero, List.setIfInBounds_toArray, List.set_cons_zero, List.set_cons_succ]
  refine wpAnyH_load_rep (i := 1) rfl (by kernel_rfl) (by kernel_rfl) (by kernel_rfl) (fun _ _ _ h => h) rfl 24 (.tmp 1) rfl (w.heap.size) 0 rfl cs0 _ Tryz.underlying24 HI0.out (fun w hS => OB.cells0 ((Fp0_7.out).ext hS)) (by assumption) (fun _ _ _ _ h => h) ?_
  simp only [Act.put, List.getElem_toArray, List.getElem_cons_zero, List.getElem_cons_succ, List.setIfInBounds_toArray, List.set_cons_zero, List.set_cons_succ]
  refine wpAnyH_call (i := 2) (by kernel_rfl) rfl rfl (run_call_func rfl rfl #[.agg ⟨cs0⟩] (by simp only [List.map_toArray, List.map_cons, List.map_nil, Act.eval]; rfl) Tryz.func17 (by kernel_rfl) (by kernel_rfl) _) (toProgram_all x0 _ _ (HR0.out.ext (Ext.trans X7.out (.drew (.refl _)))) (by omega)) ?_
  rintro e w8 ⟨t8, rfl, hw8, ho8⟩
  have HO8 := Lib.hid ho8
  have HT8 : Hid (t8.length = 1) := (by rw [ho8.1]; exact GProgram.tr_len _)
  have HJ8 : Hid ((Tryz.prog.info? 31).map (·.size) = some t8.length) := (by rw [HT8.out]; exact isz31)
  clear ho8
  have hs8 := Ext.trans hHeld hw8
  refine ⟨_, rfl, hs8, ?_⟩
  have Fp0_8 := Lib.hid (((Fp0_7.out).ext (Ext.drew (.refl w7))).ext hw8)
  have Ft3_8 := Lib.hid (Ext.trans (Ext.trans Ft3_7.out (Ext.drew (.refl w7))) hw8)
  have Ft4_8 := Lib.hid (((Ft4_7.out).ext (Ext.drew (.refl w7))).ext hw8)
  have Fb5_8 := Lib.hid (((Fb5_7.out).ext (Ext.drew (.refl w7))).ext hw8)
  have Ft6_8 := Lib.hid (((Ft6_7.out).ext (Ext.drew (.refl w7))).ext hw8)
  have X8 := Lib.hid (Ext.trans (Ext.trans X7.out (.drew (.refl _))) hw8)
  have z8 : w7.heap.size ≤ w8.heap.size := hw8.size
  simp only [Act.put, List.getElem_toArray, List.getElem_cons_zero, List.getElem_cons_succ, List.setIfInBounds_toArray, List.set_cons_zero, List.set_cons_succ]
  refine wpAnyH_call (i := 3) (by kernel_rfl) rfl rfl (run_call_func rfl rfl #[.agg ⟨t4⟩, .agg ⟨t8⟩] (by simp only [List.map_toArray, List.map_cons, List.map_nil, Act.eval]; rfl) Tryz.func20 (by kernel_rfl) (by kernel_rfl) _) (eqProgram_all x0 _ _ _ (Ft4_8.out).rep (HO8.out).rep) ?_
  rintro e w9 ⟨rfl, hw9⟩
  have hs9 := Ext.trans hs8 hw9
  refine ⟨_, rfl, hs9, ?_⟩
  have Fp0_9 := Lib.hid ((Fp0_8.out).ext hw9)
  have Ft3_9 := Lib.hid (Ext.trans Ft3_8.out hw9)
  have Ft4_9 := Lib.hid ((Ft4_8.out).ext hw9)
  have Fb5_9 := Lib.hid ((Fb5_8.out).ext hw9)
  have Ft6_9 := Lib.hid ((Ft6_8.out).ext hw9)
  have Ft8_9 := Lib.hid ((HO8.out).ext hw9)
  have X9 := Lib.hid (Ext.trans X8.out hw9)
  have z9 : w8.heap.size ≤ w9.heap.size := hw9.size
  simp only [Act.put, List.getElem_toArray, List.getElem_cons_zero, List.getElem_cons_succ, List.setIfInBounds_toArray, List.set_cons_zero, List.set_cons_succ]
  refine wpAnyH_take (i := 4) rfl (by kernel_rfl) (by kernel_rfl) (by kernel_rfl) (fun _ _ _ h => h) (.inl ⟨rfl, fun _ _ => rfl⟩) (by assumption) ?_
  simp only [Act.put, List.getElem_toArray, List.getElem_cons_zero, List.getElem_cons_succ, List.setIfInBounds_toArray, List.set_cons_zero, List.set_cons_succ]
  refine wpAnyH_done (by kernel_rfl) ?_ _
  clear hHeld hs8 hw8 hs9 hw9
  go_wp2_with (first
    | (refine wpList_load_rep rfl 24 (.tmp 1) rfl (w.heap.size) 0 rfl cs0 _ Tryz.underlying24 HI0.out (OB.cells0 (Fp0_9.out)) ?_)
    | (refine wpList_load_rep rfl 31 (.tmp 5) rfl (w4.heap.size) 0 rfl t4 _ Tryz.underlying31 HJ4.out (OB.cells0 (Fb5_9.out)) ?_))
  obtain ⟨mk_t4_1, Hmk_t4_1⟩ : ∃ q, Hid (1 + Tr.topN (x0).tr = q) := ⟨_, rfl⟩
  refine (markProgram_all x0 _ _ 1 (Between w3 w4) _ (by rfl) (Ft4_9.out) (fun b hb => by have h1 := hb.1; have h2 := hb.2; omega) (by have := GProgram.top_le x0; omega)).mono ?_
  rintro e w10 ⟨he, hm10, hc10⟩
  rw [Hmk_t4_1.out] at he
  subst he
  have Fp0_10 := Lib.hid (obchg (Fp0_9.out) hc10 (fun h => by have h1 := h.1; have h2 := h.2; omega))
  have Ft3_10 := Lib.hid (Chg.ext Ft3_9.out hc10 (fun b hb => by have h1 := hb.1; omega))
  have Fb5_10 := Lib.hid (obchg (Fb5_9.out) hc10 (fun h => by have h1 := h.1; have h2 := h.2; omega))
  have Ft6_10 := Lib.hid ((Ft6_9.out).keep fun b hb hl => hc10.block b hl (fun hs => by have h1 := hb.1; have h2 := hb.2; have h3 := hs.1; have h4 := hs.2; omega))
  have X10 := Lib.hid (Chg.ext X9.out hc10 (fun b hb => by have h1 := hb.1; omega))
  have z10 : w9.heap.size ≤ w10.heap.size := hc10.size
  have Ft4_10 := Lib.hid hm10
  clear hc10 hm10
  have hng10 : ¬ ((mk_t4_1 : Nat) : Int) < 0 := by omega
  go_wp2_with (first
    | (refine wpList_load_rep_g (by rfl) 24 (.tmp 1) rfl (w.heap.size) 0 rfl cs0 _ Tryz.underlying24 HI0.out (OB.cells0 (Fp0_10.out)) ?_)
    | (refine wpList_load_rep_g (by rfl) 31 (.tmp 5) rfl (w4.heap.size) 0 rfl t4 _ Tryz.underlying31 HJ4.out (OB.cells0 (Fb5_10.out)) ?_)
    | (refine wpList_load_rep rfl 24 (.tmp 1) rfl (w.heap.size) 0 rfl cs0 _ Tryz.underlying24 HI0.out (OB.cells0 (Fp0_10.out)) ?_)
    | (refine wpList_load_rep rfl 31 (.tmp 5) rfl (w4.heap.size) 0 rfl t4 _ Tryz.underlying31 HJ4.out (OB.cells0 (Fb5_10.out)) ?_))
  refine (eqInstanceRefS_all (x0.allRefs.filter fun o => !GProgram.orphan x0 o) _ _ _ (Ft6_10.out).rep (HO3.out.ext Ft3_10.out)).mono ?_
  rintro e w11 ⟨rfl, hw11⟩
  have Fp0_11 := Lib.hid ((Fp0_10.out).ext hw11)
  have Ft3_11 := Lib.hid (Ext.trans Ft3_10.out hw11)
  have Ft4_11 := Lib.hid ((Ft4_10.out).ext hw11)
  have Fb5_11 := Lib.hid ((Fb5_10.out).ext hw11)
  have Ft6_11 := Lib.hid ((Ft6_10.out).ext hw11)
  have X11 := Lib.hid (Ext.trans X10.out hw11)
  have z11 : w10.heap.size ≤ w11.heap.size := hw11.size
  clear hw11
  go_wp2_with (first
    | (refine wpList_load_rep rfl 24 (.tmp 1) rfl (w.heap.size) 0 rfl cs0 _ Tryz.underlying24 HI0.out (OB.cells0 (Fp0_11.out)) ?_)
    | (refine wpList_load_rep rfl 31 (.tmp 5) rfl (w4.heap.size) 0 rfl t4 _ Tryz.underlying31 HJ4.out (OB.cells0 (Fb5_11.out)) ?_))
  obtain ⟨mk_t6_1, Hmk_t6_1⟩ : ∃ q, Hid (1 + Tr.cntE (GInstanceRef.trs (x0.allRefs.filter fun o => !GProgram.orphan x0 o)) = q) := ⟨_, rfl⟩
  refine (markInstanceRefS_all (x0.allRefs.filter fun o => !GProgram.orphan x0 o) _ _ 1 (Between w5 w6) _ (by rfl) (Ft6_11.out) (fun b hb => by have h1 := hb.1; have h2 := hb.2; omega) (by rw [refCnt]; have h1 := List.length_filter_le (fun o => !GProgram.orphan x0 o) x0.allRefs; have h2 := x0.allRefs_bulk; omega)).mono ?_
  rintro e w12 ⟨he, hm12, hc12⟩
  rw [Hmk_t6_1.out] at he
  subst he
  have Fp0_12 := Lib.hid (obchg (Fp0_11.out) hc12 (fun h => by have h1 := h.1; have h2 := h.2; omega))
  have Ft3_12 := Lib.hid (Chg.ext Ft3_11.out hc12 (fun b hb => by have h1 := hb.1; omega))
  have Ft4_12 := Lib.hid ((Ft4_11.out).keep fun b hb hl => hc12.block b hl (fun hs => by have h1 := hb.1; have h2 := hb.2; have h3 := hs.1; have h4 := hs.2; omega))
  have Fb5_12 := Lib.hid (obchg (Fb5_11.out) hc12 (fun h => by have h1 := h.1; have h2 := h.2; omega))
  have X12 := Lib.hid (Chg.ext X11.out hc12 (fun b hb => by have h1 := hb.1; omega))
  have z12 : w11.heap.size ≤ w12.heap.size := hc12.size
  have Ft6_12 := Lib.hid hm12
  clear hc12 hm12
  have hng12 : ¬ ((mk_t6_1 : Nat) : Int) < 0 := by omega
  go_wp2_with (first
    | (refine wpList_load_rep rfl 24 (.tmp 1) rfl (w.heap.size) 0 rfl cs0 _ Tryz.underlying24 HI0.out (OB.cells0 (Fp0_12.out)) ?_)
    | (refine wpList_load_rep rfl 31 (.tmp 5) rfl (w4.heap.size) 0 rfl t4 _ Tryz.underlying31 HJ4.out (OB.cells0 (Fb5_12.out)) ?_))
  refine (heldInstanceRefS_all (x0.allRefs.filter fun o => !GProgram.orphan x0 o) _ _ 1 _ (by rfl) (Ft6_12.out).rep (by rw [refCnt]; have h1 := List.length_filter_le (fun o => !GProgram.orphan x0 o) x0.allRefs; have h2 := x0.allRefs_bulk; omega)).mono ?_
  rintro e w13 ⟨he, hw13⟩
  rw [Hmk_t6_1.out] at he
  subst he
  have Fp0_13 := Lib.hid ((Fp0_12.out).ext hw13)
  have Ft3_13 := Lib.hid (Ext.trans Ft3_12.out hw13)
  have Ft4_13 := Lib.hid ((Ft4_12.out).ext hw13)
  have Fb5_13 := Lib.hid ((Fb5_12.out).ext hw13)
  have Ft6_13 := Lib.hid ((Ft6_12.out).ext hw13)
  have X13 := Lib.hid (Ext.trans X12.out hw13)
  have z13 : w12.heap.size ≤ w13.heap.size := hw13.size
  clear hw13
  go_wp2_with (first
    | (refine wpList_load_rep rfl 24 (.tmp 1) rfl (w.heap.size) 0 rfl cs0 _ Tryz.underlying24 HI0.out (OB.cells0 (Fp0_13.out)) ?_)
    | (refine wpList_load_rep rfl 31 (.tmp 5) rfl (w4.heap.size) 0 rfl t4 _ Tryz.underlying31 HJ4.out (OB.cells0 (Fb5_13.out)) ?_))
  refine (toProgram_all x0 _ _ (HR0.out.ext X13.out) (by omega)).mono ?_
  rintro e w14 ⟨t14, rfl, hw14, ho14⟩
  have HO14 := Lib.hid ho14
  have HT14 : Hid (t14.length = 1) := (by rw [ho14.1]; exact GProgram.tr_len _)
  have HJ14 : Hid ((Tryz.prog.info? 31).map (·.size) = some t14.length) := (by rw [HT14.out]; exact isz31)
  clear ho14
  have Fp0_14 := Lib.hid ((Fp0_13.out).ext hw14)
  have Ft3_14 := Lib.hid (Ext.trans Ft3_13.out hw14)
  have Ft4_14 := Lib.hid ((Ft4_13.out).ext hw14)
  have Fb5_14 := Lib.hid ((Fb5_13.out).ext hw14)
  have Ft6_14 := Lib.hid ((Ft6_13.out).ext hw14)
  have X14 := Lib.hid (Ext.trans X13.out hw14)
  have z14 : w13.heap.size ≤ w14.heap.size := hw14.size
  clear hw14
  go_wp2_with (first
    | (refine wpList_load_rep rfl 24 (.tmp 1) rfl (w.heap.size) 0 rfl cs0 _ Tryz.underlying24 HI0.out (OB.cells0 (Fp0_14.out)) ?_)
    | (refine wpList_load_rep rfl 31 (.tmp 5) rfl (w4.heap.size) 0 rfl t4 _ Tryz.underlying31 HJ4.out (OB.cells0 (Fb5_14.out)) ?_))
  refine (orphansP_impl x0 _ _ ((HO14.out).rep) (by have := x0.allRefs_bulk; omega)).mono ?_
  rintro e w15 ⟨tv15, rfl, hw15, ho15⟩
  have HO15 := Lib.hid ho15
  obtain ⟨ta15, tc15, hv15, -, -⟩ := HO15.out.rep.shape
  rw [GInstanceRef.trs_len] at hv15
  subst hv15
  clear ho15
  have Fp0_15 := Lib.hid ((Fp0_14.out).ext hw15)
  have Ft3_15 := Lib.hid (Ext.trans Ft3_14.out hw15)
  have Ft4_15 := Lib.hid ((Ft4_14.out).ext hw15)
  have Fb5_15 := Lib.hid ((Fb5_14.out).ext hw15)
  have Ft6_15 := Lib.hid ((Ft6_14.out).ext hw15)
  have Ft14_15 := Lib.hid ((HO14.out).ext hw15)
  have X15 := Lib.hid (Ext.trans X14.out hw15)
  have z15 : w14.heap.size ≤ w15.heap.size := hw15.size
  clear hw15
  go_wp2_with (first
    | (refine wpList_load_rep rfl 24 (.tmp 1) rfl (w.heap.size) 0 rfl cs0 _ Tryz.underlying24 HI0.out (OB.cells0 (Fp0_15.out)) ?_)
    | (refine wpList_load_rep rfl 31 (.tmp 5) rfl (w4.heap.size) 0 rfl t4 _ Tryz.underlying31 HJ4.out (OB.cells0 (Fb5_15.out)) ?_))
  refine (eqInstanceRefS_all (x0.allRefs.filter fun o => !GProgram.orphan x0 o) _ _ _ (HO15.out).rep (HO3.out.ext Ft3_15.out)).mono ?_
  rintro e w16 ⟨rfl, hw16⟩
  have Fp0_16 := Lib.hid ((Fp0_15.out).ext hw16)
  have Ft3_16 := Lib.hid (Ext.trans Ft3_15.out hw16)
  have Ft4_16 := Lib.hid ((Ft4_15.out).ext hw16)
  have Fb5_16 := Lib.hid ((Fb5_15.out).ext hw16)
  have Ft6_16 := Lib.hid ((Ft6_15.out).ext hw16)
  have Ft15_16 := Lib.hid ((HO15.out).ext hw16)
  have X16 := Lib.hid (Ext.trans X15.out hw16)
  have z16 : w15.heap.size ≤ w16.heap.size := hw16.size
  clear hw16
  go_wp2_with (first
    | (refine wpList_load_rep rfl 24 (.tmp 1) rfl (w.heap.size) 0 rfl cs0 _ Tryz.underlying24 HI0.out (OB.cells0 (Fp0_16.out)) ?_)
    | (refine wpList_load_rep rfl 31 (.tmp 5) rfl (w4.heap.size) 0 rfl t4 _ Tryz.underlying31 HJ4.out (OB.cells0 (Fb5_16.out)) ?_))
  refine (heldInstanceRefS_all (x0.allRefs.filter fun o => !GProgram.orphan x0 o) _ _ 1 _ (by rfl) (Ft6_16.out).rep (by rw [refCnt]; have h1 := List.length_filter_le (fun o => !GProgram.orphan x0 o) x0.allRefs; have h2 := x0.allRefs_bulk; omega)).mono ?_
  rintro e w17 ⟨he, hw17⟩
  rw [Hmk_t6_1.out] at he
  subst he
  have Fp0_17 := Lib.hid ((Fp0_16.out).ext hw17)
  have Ft3_17 := Lib.hid (Ext.trans Ft3_16.out hw17)
  have Ft4_17 := Lib.hid ((Ft4_16.out).ext hw17)
  have Fb5_17 := Lib.hid ((Fb5_16.out).ext hw17)
  have Ft6_17 := Lib.hid ((Ft6_16.out).ext hw17)
  have Ft15_17 := Lib.hid ((Ft15_16.out).ext hw17)
  have X17 := Lib.hid (Ext.trans X16.out hw17)
  have z17 : w16.heap.size ≤ w17.heap.size := hw17.size
  clear hw17
  go_wp2_with (first
    | (refine wpList_load_rep rfl 24 (.tmp 1) rfl (w.heap.size) 0 rfl cs0 _ Tryz.underlying24 HI0.out (OB.cells0 (Fp0_17.out)) ?_)
    | (refine wpList_load_rep rfl 31 (.tmp 5) rfl (w4.heap.size) 0 rfl t4 _ Tryz.underlying31 HJ4.out (OB.cells0 (Fb5_17.out)) ?_))
  go_ret
  exact ⟨rfl, X17.out⟩

set_option linter.unusedVariables false
theorem own : ownKnob Tryz.prog.godebug = none := by kernel_rfl
theorem laidOut : laidOutB Tryz.prog = true := by kernel_rfl

set_option maxRecDepth 100000 in
theorem lifted (os : Os) (started : os.Started) (H : Type) (enc : TypeId × Value → H) :
    ReturnsInHanded {} Tryz.checked os 7 .any (Rows.fnExactOrphanInstancesSpec.pre6 enc Tryz.prog Tryz.f7 Rows.fnExactOrphanInstancesRow.domain false) (Rows.fnExactOrphanInstancesSpec.post enc Tryz.prog Tryz.f7 false true false false) := by
  refine returnsInHanded_of_change (C := Tryz.checked) own started (by kernel_rfl) Tryz.func7
    (ChangeSpec.witness6 (enc := enc) (C := Tryz.checked) false ⟨#[], #[.agg #[.slice none 0 0]], []⟩ 8 (by kernel_rfl) (by kernel_rfl) (by kernel_rfl) (by kernel_rfl)) ?_
  intro W base args ds gs before hval0 hW hcnd _
  have hval : ∀ (j : Nat) t v, Tryz.f7.params[j]? = some t → args[j]? = some v → Value.okWide Tryz.prog W .any base t v := hval0
  have hW' := hW
  obtain ⟨p, q, hA0, hV, rfl, hfz, hnd⟩ := hW
  have hA : DataW.TrodAll enc Tryz.prog W 0 (fun _ => true) true Tryz.f7.params.toList args.toList ds p := hA0
  rw [Tryz.params7] at hA hval
  obtain ⟨v0, vs0, d0, ds0, p0, q0, hargs, rfl, rfl, h0, r0⟩ := trodAll_cons hA
  obtain ⟨rfl, rfl, rfl⟩ := trodAll_nil r0
  obtain rfl : args = #[v0] := by cases args; simp_all
  obtain ⟨rfl, rfl⟩ := trodVars_none hV
  have k0 := h0
  have lt0 : ∀ x ∈ p0, x.block < W.heap.size := by obtain ⟨m, hm⟩ := k0; exact DataW.trod_lt m _ _ _ hm
  obtain ⟨c0, rfl, -⟩ := okWide_struct Tryz.underlying24 (hval 0 24 v0 rfl rfl)
  obtain ⟨fu0, hf0⟩ := h0
  obtain ⟨ts0, ty0, rp0, -⟩ := tyOf_of_trod plainClosed fu0 24 c0.toList _ (by decide) hf0
  obtain ⟨x0, rfl⟩ := tyof_Program ty0
  clear hA0 hval0
  refine (law_FnExactOrphanInstances W x0 c0.toList rp0).mono fun e W' ⟨he, bel⟩ => ?_
  subst he
  exact ⟨_, rfl, _, _, _, [], _, [], hW', trodAll_mk1 (shut_bool Tryz.underlying4 _), (trodAll_cons_mk (Below.trod laidOut (by kernel_rfl) (of_decide_eq_true (by kernel_rfl)) k0 bel lt0) trodAll_mk0), rfl, bel.frame _, fun h => by cases h⟩

theorem over : Rows.fnExactOrphanInstancesRow.holds Tryz.pinned (OpenSpec.ofChange Rows.fnExactOrphanInstancesSpec) :=
  OpenClaim.holds_of_wide 7 Tryz.f7 rfl rfl rfl rfl rfl rfl rfl ⟨rfl, rfl, rfl, rfl, rfl⟩ rfl rfl rfl rfl rfl fnNamed Tryz.func7 factsJoin (of_decide_eq_true (by kernel_rfl)) wrapper
    (fun os started H enc _ => lifted os started H enc)

theorem proved : Rows.FnExactOrphanInstancesSaid := over
#print axioms proved

end Go.Proofs.YtnakkelglbcecaaGreat.fnExactOrphanInstancesDone
