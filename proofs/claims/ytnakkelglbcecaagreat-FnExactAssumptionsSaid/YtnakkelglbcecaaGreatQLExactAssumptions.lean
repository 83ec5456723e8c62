/- FnExactAssumptions returns true for every input, and leaves what was there as it was. No conditions. -/
import Derived.Test.YtnakkelglbcecaaGreatRows
import Derived.Test.YtnakkelglbcecaaGreatQh38f16fd3
import Derived.Test.YtnakkelglbcecaaGreatQh2288c63d
import Derived.Test.YtnakkelglbcecaaGreatQhed7a0d23
import Derived.Test.YtnakkelglbcecaaGreatQhfd791868
import Derived.ProofKit
import Derived.OpenShut
import Derived.ShutString
import Derived.ChangeOld
import Derived.Test.YtnakkelglbcecaaGreatQJExactAssumptions
import Derived.Test.YtnakkelglbcecaaGreatQh3fedf622
import Derived.Test.YtnakkelglbcecaaGreatQh11c4fea4
set_option linter.unusedSimpArgs false
set_option linter.unusedVariables false
namespace Go.Proofs.YtnakkelglbcecaaGreat.fnExactAssumptionsDone
open Go.Proofs Go.Proofs.YtnakkelglbcecaaGreat Go.ChangeShapes Go.WideShapes Go.ChangeAt Go.RowKit
open Go.ChangeMaps (open_string shut_string)

theorem obchg {S : Nat → Prop} {w w' : World} {g : Nat} {t : TypeId} {cs : Array Value} (h : OB w g t cs) (hc : Chg S w w') (hn : ¬ S g) : OB w' g t cs := (hc.block g h.lt hn).trans h
set_option maxRecDepth 100000 in
set_option maxHeartbeats 8000000 in
theorem law_FnExactAssumptions (w : World) (x0 : GProgram) (cs0 : List Value) (hr0 : RepL w x0.tr cs0) (x1 : List GBound) (s1 : Value) (hr1 : Rep w (.row 4 (GBound.trs x1)) s1) :
    Calls Tryz.prog 9 #[.agg ⟨cs0⟩, s1] w fun e w' => e = .returned (.bool true) ∧ Below w.heap.size w w' := by
  have HL0 : Hid (cs0.length = 1) := by rw [← hr0.length, GProgram.tr_len]; rfl
  have HI0 : Hid ((Tryz.prog.info? 24).map (·.size) = some cs0.length) := by rw [HL0.out]; exact isz24
  have HR0 := Lib.hid hr0
  clear hr0
  obtain ⟨sa1, sc1, rfl, hsl1, hsm1⟩ := hr1.shape
  rw [GBound.trs_len] at *
  unfold maxLen at hsm1
  have HR1 := Lib.hid hr1
  clear hr1
  go_enter Tryz.func9, Tryz.ntmps9
  go_wp2_with (first
    | (refine wpList_load_rep rfl 24 (.tmp 2) rfl (w.heap.size) 0 rfl cs0 _ Tryz.underlying24 HI0.out (OB.cells0 (OB.new w _ _)) ?_))
  refine (szProgram_all x0 _ _ _ (HR0.out.ext (Ext.alloc (Ext.refl _) _)) (by omega) (by omega)).mono ?_; rintro e w1 ⟨r1, rfl, hw1, ra1, rb1, rc1⟩
  have RC1 := Lib.hid rc1
  clear rc1
  have Fp0_1 := Lib.hid ((OB.new w _ _).ext hw1)
  have X1 := Lib.hid (Ext.trans (Ext.alloc (Ext.refl _) _) hw1)
  have z1 : w.heap.size + 1 ≤ w1.heap.size := (by have h1 := hw1.size; simp only [World.size_alloc] at h1; omega)
  clear hw1
  go_wp2_with (first
    | (refine wpList_load_rep rfl 24 (.tmp 2) rfl (w.heap.size) 0 rfl cs0 _ Tryz.underlying24 HI0.out (OB.cells0 (Fp0_1.out)) ?_))
  · go_ret
    exact ⟨rfl, X1.out⟩
  refine (szBoundS_all x1 _ _ _ (HR1.out.ext X1.out) (by omega) (by omega)).mono ?_; rintro e w2 ⟨r2, rfl, hw2, ra2, rb2, rc2⟩
  have RC2 := Lib.hid rc2
  clear rc2
  have Fp0_2 := Lib.hid ((Fp0_1.out).ext hw2)
  have X2 := Lib.hid (Ext.trans X1.out hw2)
  have z2 : w1.heap.size ≤ w2.heap.size := hw2.size
  clear hw2
  go_wp2_with (first
    | (refine wpList_load_rep rfl 24 (.tmp 2) rfl (w.heap.size) 0 rfl cs0 _ Tryz.underlying24 HI0.out (OB.cells0 (Fp0_2.out)) ?_))
  · go_ret
    exact ⟨rfl, X2.out⟩
  have hb0 := RC1.out (by omega)
  have hb1 := RC2.out (by omega)
  simp only [Tr.bulk, GBound.trs_len] at hb1
  refine (toProgram_all x0 _ _ (HR0.out.ext X2.out) (by omega)).mono ?_; rintro e w3 ⟨t3, rfl, hw3, ho3⟩
  have HO3 := Lib.hid ho3
  have HT3 : Hid (t3.length = 1) := (by rw [ho3.1]; exact GProgram.tr_len _)
  have HJ3 : Hid ((Tryz.prog.info? 31).map (·.size) = some t3.length) := (by rw [HT3.out]; exact isz31)
  clear ho3
  have Fp0_3 := Lib.hid ((Fp0_2.out).ext hw3)
  have X3 := Lib.hid (Ext.trans X2.out hw3)
  have z3 : w2.heap.size ≤ w3.heap.size := hw3.size
  clear hw3
  go_wp2_with (first
    | (refine wpList_load_rep rfl 24 (.tmp 2) rfl (w.heap.size) 0 rfl cs0 _ Tryz.underlying24 HI0.out (OB.cells0 (Fp0_3.out)) ?_))
  refine (toBoundS_all x1 _ _ (HR1.out.ext X3.out) (by rw [GBound.trs_len]; omega)).mono ?_; rintro e w4 ⟨tv4, rfl, hw4, ho4⟩
  have HO4 := Lib.hid ho4
  obtain ⟨ta4, tc4, hv4, -, -⟩ := HO4.out.rep.shape
  rw [GBound.trs_len] at hv4
  subst hv4
  clear ho4
  have Fp0_4 := Lib.hid ((Fp0_3.out).ext hw4)
  have Ft3_4 := Lib.hid ((HO3.out).ext hw4)
  have X4 := Lib.hid (Ext.trans X3.out hw4)
  have z4 : w3.heap.size ≤ w4.heap.size := hw4.size
  clear hw4
  go_wp2_with (first
    | (refine wpList_load_rep rfl 24 (.tmp 2) rfl (w.heap.size) 0 rfl cs0 _ Tryz.underlying24 HI0.out (OB.cells0 (Fp0_4.out)) ?_))
  refine (assumP_spec x0 x1 _ _ _ ((Ft3_4.out).rep) ((HO4.out).rep) (by have := GProgram.allSup_bulk x0; omega) (mul_of_sum (by have := GProgram.allSup_bulk x0; omega)) (fun b hb => by have := GBound.ty_all x1 b hb; omega)).mono ?_; rintro e w5 ⟨tv5, rfl, hw5, ho5⟩
  have HO5 := Lib.hid ho5
  obtain ⟨ta5, tc5, hv5, -, -⟩ := HO5.out.shape
  rw [GAssumption.trs_len] at hv5
  subst hv5
  clear ho5
  have Fp0_5 := Lib.hid ((Fp0_4.out).ext hw5)
  have Ft3_5 := Lib.hid ((Ft3_4.out).ext hw5)
  have Ft4_5 := Lib.hid ((HO4.out).ext hw5)
  have X5 := Lib.hid (Ext.trans X4.out hw5)
  have z5 : w4.heap.size ≤ w5.heap.size := hw5.size
  clear hw5
  go_wp2_with (first
    | (refine wpList_load_rep rfl 24 (.tmp 2) rfl (w.heap.size) 0 rfl cs0 _ Tryz.underlying24 HI0.out (OB.cells0 (Fp0_5.out)) ?_))
  refine (toProgram_all x0 _ _ (HR0.out.ext X5.out) (by omega)).mono ?_; rintro e w6 ⟨t6, rfl, hw6, ho6⟩
  have HO6 := Lib.hid ho6
  have HT6 : Hid (t6.length = 1) := (by rw [ho6.1]; exact GProgram.tr_len _)
  have HJ6 : Hid ((Tryz.prog.info? 31).map (·.size) = some t6.length) := (by rw [HT6.out]; exact isz31)
  clear ho6
  have Fp0_6 := Lib.hid ((Fp0_5.out).ext hw6)
  have Ft5_6 := Lib.hid (Ext.trans (Ext.refl _) hw6)
  have X6 := Lib.hid (Ext.trans X5.out hw6)
  have z6 : w5.heap.size ≤ w6.heap.size := hw6.size
  clear hw6
  go_wp2_with (first
    | (refine wpList_store_rep rfl 31 (.tmp 7) (.tmp 30) rfl w6.heap.size 0 rfl t6 rfl 31 _ (OB.new w6 _ _) HJ6.out (by rw [HT6.out]; exact Nat.le_refl _) (HO6.out.rep.one) ?_; intro w7 hob hgb hzb; rw [splice_whole (by rw [HT6.out]; rfl)] at hob; have hw7 := grown_ext (.alloc (.refl w6) _) hgb (Nat.le_refl _); have Fp0_7 := Lib.hid ((Fp0_6.out).ext hw7); have Ft5_7 := Lib.hid (Ext.trans Ft5_6.out hw7); have Ft6_7 := Lib.hid ((HO6.out).ext hw7); have X7 := Lib.hid (Ext.trans X6.out hw7); have z7 : w6.heap.size ≤ w7.heap.size := hw7.size; have Fb7_7 := Lib.hid hob; have zs7 : w6.heap.size < w7.heap.size := hob.lt; clear hob hgb hzb hw7)
    | (refine wpList_load_rep rfl 24 (.tmp 2) rfl (w.heap.size) 0 rfl cs0 _ Tryz.underlying24 HI0.out (OB.cells0 (Fp0_7.out)) ?_)
    | (refine wpList_load_rep rfl 31 (.tmp 7) rfl (w6.heap.size) 0 rfl t6 _ Tryz.underlying31 HJ6.out (OB.cells0 (Fb7_7.out)) ?_))
  refine (toBoundS_all x1 _ _ (HR1.out.ext X7.out) (by rw [GBound.trs_len]; omega)).mono ?_; rintro e w8 ⟨tv8, rfl, hw8, ho8⟩
  have HO8 := Lib.hid ho8
  obtain ⟨ta8, tc8, hv8, -, -⟩ := HO8.out.rep.shape
  rw [GBound.trs_len] at hv8
  subst hv8
  clear ho8
  have Fp0_8 := Lib.hid ((Fp0_7.out).ext hw8)
  have Ft5_8 := Lib.hid (Ext.trans Ft5_7.out hw8)
  have Ft6_8 := Lib.hid ((Ft6_7.out).ext hw8)
  have Fb7_8 := Lib.hid ((Fb7_7.out).ext hw8)
  have X8 := Lib.hid (Ext.trans X7.out hw8)
  have z8 : w7.heap.size ≤ w8.heap.size := hw8.size
  clear hw8
  go_wp2_with (first
    | (refine wpList_load_rep rfl 24 (.tmp 2) rfl (w.heap.size) 0 rfl cs0 _ Tryz.underlying24 HI0.out (OB.cells0 (Fp0_8.out)) ?_)
    | (refine wpList_load_rep rfl 31 (.tmp 7) rfl (w6.heap.size) 0 rfl t6 _ Tryz.underlying31 HJ6.out (OB.cells0 (Fb7_8.out)) ?_))
  refine (assumP_impl x0 x1 _ _ _ ((Ft6_8.out).rep) ((HO8.out).rep) (by have := GProgram.allSup_bulk x0; omega) (by omega) (mul_of_sum (by have := GProgram.allSup_bulk x0; omega)) (fun b hb => by have := GBound.ty_all x1 b hb; omega)).mono ?_; rintro e w9 ⟨tv9, rfl, hw9, ho9⟩
  have HO9 := Lib.hid ho9
  obtain ⟨ta9, tc9, hv9, -, -⟩ := HO9.out.rep.shape
  rw [GAssumption.trs_len] at hv9
  subst hv9
  clear ho9
  have Fp0_9 := Lib.hid ((Fp0_8.out).ext hw9)
  have Ft5_9 := Lib.hid (Ext.trans Ft5_8.out hw9)
  have Ft6_9 := Lib.hid ((Ft6_8.out).ext hw9)
  have Fb7_9 := Lib.hid ((Fb7_8.out).ext hw9)
  have Ft8_9 := Lib.hid ((HO8.out).ext hw9)
  have X9 := Lib.hid (Ext.trans X8.out hw9)
  have z9 : w8.heap.size ≤ w9.heap.size := hw9.size
  clear hw9
  go_wp2_with (first
    | (refine wpList_load_rep rfl 24 (.tmp 2) rfl (w.heap.size) 0 rfl cs0 _ Tryz.underlying24 HI0.out (OB.cells0 (Fp0_9.out)) ?_)
    | (refine wpList_load_rep rfl 31 (.tmp 7) rfl (w6.heap.size) 0 rfl t6 _ Tryz.underlying31 HJ6.out (OB.cells0 (Fb7_9.out)) ?_))
  refine (eqAssumptionS_all (x0.asms x1 x1.length) _ _ _ (HO9.out).rep (HO5.out.ext Ft5_9.out)).mono ?_; rintro e w10 ⟨rfl, hw10⟩
  have Fp0_10 := Lib.hid ((Fp0_9.out).ext hw10)
  have Ft5_10 := Lib.hid (Ext.trans Ft5_9.out hw10)
  have Ft6_10 := Lib.hid ((Ft6_9.out).ext hw10)
  have Fb7_10 := Lib.hid ((Fb7_9.out).ext hw10)
  have Ft8_10 := Lib.hid ((Ft8_9.out).ext hw10)
  have Ft9_10 := Lib.hid ((HO9.out).ext hw10)
  have X10 := Lib.hid (Ext.trans X9.out hw10)
  have z10 : w9.heap.size ≤ w10.heap.size := hw10.size
  clear hw10
  go_wp2_with (first
    | (refine wpList_load_rep rfl 24 (.tmp 2) rfl (w.heap.size) 0 rfl cs0 _ Tryz.underlying24 HI0.out (OB.cells0 (Fp0_10.out)) ?_)
    | (refine wpList_load_rep rfl 31 (.tmp 7) rfl (w6.heap.size) 0 rfl t6 _ Tryz.underlying31 HJ6.out (OB.cells0 (Fb7_10.out)) ?_))
  refine wp_region_held_drew (S := Ext w10) (by kernel_rfl) (.drew (.refl _)) (fun hHeld => ?_)
  refine wpAnyH_load_rep (i := 0) rfl (by kernel_rfl) (by kernel_rfl) (by kernel_rfl) (fun _ _ _ h => h) rfl 31 (.tmp 7) rfl (w6.heap.size) 0 rfl t6 _ Tryz.underlying31 HJ6.out (fun w hS => OB.cells0 ((Fb7_10.out).ext hS)) (by assumption) (fun _ _ _ _ h => h) ?_
  simp only [Act.put, List.getElem_toArray, List.getElem_cons_zero, List.setIfInBounds_toArray, List.set_cons_zero, List.set_cons_succ]
  refine wpAnyH_load_rep (i := 1) rfl (by kernel_rfl) (by kernel_rfl) (by kernel_rfl) (fun _ _ _ h => h) rfl 24 (.tmp 2) rfl (w.heap.size) 0 rfl cs0 _ Tryz.underlying24 HI0.out (fun w hS => OB.cells0 ((Fp0_10.out).ext hS)) (by assumption) (fun _ _ _ _ h => h) ?_
  simp only [Act.put, List.getElem_toArray, List.getElem_cons_zero, List.getElem_cons_succ, List.setIfInBounds_toArray, List.set_cons_zero, List.set_cons_succ]
  refine wpAnyH_call (i := 2) (by kernel_rfl) rfl rfl (run_call_func rfl rfl #[.agg ⟨cs0⟩] (by simp only [List.map_toArray, List.map_cons, List.map_nil, Act.eval]; rfl) Tryz.func17 (by kernel_rfl) (by kernel_rfl) _) (toProgram_all x0 _ _ (HR0.out.ext (Ext.trans X10.out (.drew (.refl _)))) (by omega)) ?_; rintro e w11 ⟨t11, rfl, hw11, ho11⟩
  have HO11 := Lib.hid ho11
  have HT11 : Hid (t11.length = 1) := (by rw [ho11.1]; exact GProgram.tr_len _)
  have HJ11 : Hid ((Tryz.prog.info? 31).map (·.size) = some t11.length) := (by rw [HT11.out]; exact isz31)
  clear ho11
  have hs11 := Ext.trans hHeld hw11
  refine ⟨_, rfl, hs11, ?_⟩
  have Fp0_11 := Lib.hid (((Fp0_10.out).ext (Ext.drew (.refl w10))).ext hw11)
  have Ft5_11 := Lib.hid (Ext.trans (Ext.trans Ft5_10.out (Ext.drew (.refl w10))) hw11)
  have Ft6_11 := Lib.hid (((Ft6_10.out).ext (Ext.drew (.refl w10))).ext hw11)
  have Fb7_11 := Lib.hid (((Fb7_10.out).ext (Ext.drew (.refl w10))).ext hw11)
  have Ft8_11 := Lib.hid (((Ft8_10.out).ext (Ext.drew (.refl w10))).ext hw11)
  have Ft9_11 := Lib.hid (((Ft9_10.out).ext (Ext.drew (.refl w10))).ext hw11)
  have X11 := Lib.hid (Ext.trans (Ext.trans X10.out (.drew (.refl _))) hw11)
  have z11 : w10.heap.size ≤ w11.heap.size := hw11.size
  simp only [Act.put, List.getElem_toArray, List.getElem_cons_zero, List.getElem_cons_succ, List.setIfInBounds_toArray, List.set_cons_zero, List.set_cons_succ]
  refine wpAnyH_call (i := 3) (by kernel_rfl) rfl rfl (run_call_func rfl rfl #[.agg ⟨t6⟩, .agg ⟨t11⟩] (by simp only [List.map_toArray, List.map_cons, List.map_nil, Act.eval]; rfl) Tryz.func20 (by kernel_rfl) (by kernel_rfl) _) (eqProgram_all x0 _ _ _ (Ft6_11.out).rep (HO11.out).rep) ?_; rintro e w12 ⟨rfl, hw12⟩
  have hs12 := Ext.trans hs11 hw12
  refine ⟨_, rfl, hs12, ?_⟩
  have Fp0_12 := Lib.hid ((Fp0_11.out).ext hw12)
  have Ft5_12 := Lib.hid (Ext.trans Ft5_11.out hw12)
  have Ft6_12 := Lib.hid ((Ft6_11.out).ext hw12)
  have Fb7_12 := Lib.hid ((Fb7_11.out).ext hw12)
  have Ft8_12 := Lib.hid ((Ft8_11.out).ext hw12)
  have Ft9_12 := Lib.hid ((Ft9_11.out).ext hw12)
  have Ft11_12 := Lib.hid ((HO11.out).ext hw12)
  have X12 := Lib.hid (Ext.trans X11.out hw12)
  have z12 : w11.heap.size ≤ w12.heap.size := hw12.size
  simp only [Act.put, List.getElem_toArray, List.getElem_cons_zero, List.getElem_cons_succ, List.setIfInBounds_toArray, List.set_cons_zero, List.set_cons_succ]
  refine wpAnyH_take (i := 4) rfl (by kernel_rfl) (by kernel_rfl) (by kernel_rfl) (fun _ _ _ h => h) (.inl ⟨rfl, fun _ _ => rfl⟩) (by assumption) ?_
  simp only [Act.put, List.getElem_toArray, List.getElem_cons_zero, List.getElem_cons_succ, List.setIfInBounds_toArray, List.set_cons_zero, List.set_cons_succ]
  refine wpAnyH_done (by kernel_rfl) ?_ _
  clear hHeld hs11 hw11 hs12 hw12
  go_wp2_with (first
    | (refine wpList_load_rep rfl 24 (.tmp 2) rfl (w.heap.size) 0 rfl cs0 _ Tryz.underlying24 HI0.out (OB.cells0 (Fp0_12.out)) ?_)
    | (refine wpList_load_rep rfl 31 (.tmp 7) rfl (w6.heap.size) 0 rfl t6 _ Tryz.underlying31 HJ6.out (OB.cells0 (Fb7_12.out)) ?_))
  refine (toBoundS_all x1 _ _ (HR1.out.ext X12.out) (by rw [GBound.trs_len]; omega)).mono ?_; rintro e w13 ⟨tv13, rfl, hw13, ho13⟩
  have HO13 := Lib.hid ho13
  obtain ⟨ta13, tc13, hv13, -, -⟩ := HO13.out.rep.shape
  rw [GBound.trs_len] at hv13
  subst hv13
  clear ho13
  have Fp0_13 := Lib.hid ((Fp0_12.out).ext hw13)
  have Ft5_13 := Lib.hid (Ext.trans Ft5_12.out hw13)
  have Ft6_13 := Lib.hid ((Ft6_12.out).ext hw13)
  have Fb7_13 := Lib.hid ((Fb7_12.out).ext hw13)
  have Ft8_13 := Lib.hid ((Ft8_12.out).ext hw13)
  have Ft9_13 := Lib.hid ((Ft9_12.out).ext hw13)
  have X13 := Lib.hid (Ext.trans X12.out hw13)
  have z13 : w12.heap.size ≤ w13.heap.size := hw13.size
  clear hw13
  go_wp2_with (first
    | (refine wpList_load_rep rfl 24 (.tmp 2) rfl (w.heap.size) 0 rfl cs0 _ Tryz.underlying24 HI0.out (OB.cells0 (Fp0_13.out)) ?_)
    | (refine wpList_load_rep rfl 31 (.tmp 7) rfl (w6.heap.size) 0 rfl t6 _ Tryz.underlying31 HJ6.out (OB.cells0 (Fb7_13.out)) ?_))
  refine (eqBoundS_all x1 _ _ _ (Ft8_13.out).rep (HO13.out).rep).mono ?_; rintro e w14 ⟨rfl, hw14⟩
  have Fp0_14 := Lib.hid ((Fp0_13.out).ext hw14)
  have Ft5_14 := Lib.hid (Ext.trans Ft5_13.out hw14)
  have Ft6_14 := Lib.hid ((Ft6_13.out).ext hw14)
  have Fb7_14 := Lib.hid ((Fb7_13.out).ext hw14)
  have Ft8_14 := Lib.hid ((Ft8_13.out).ext hw14)
  have Ft9_14 := Lib.hid ((Ft9_13.out).ext hw14)
  have Ft13_14 := Lib.hid ((HO13.out).ext hw14)
  have X14 := Lib.hid (Ext.trans X13.out hw14)
  have z14 : w13.heap.size ≤ w14.heap.size := hw14.size
  clear hw14
  go_wp2_with (first
    | (refine wpList_load_rep rfl 24 (.tmp 2) rfl (w.heap.size) 0 rfl cs0 _ Tryz.underlying24 HI0.out (OB.cells0 (Fp0_14.out)) ?_)
    | (refine wpList_load_rep rfl 31 (.tmp 7) rfl (w6.heap.size) 0 rfl t6 _ Tryz.underlying31 HJ6.out (OB.cells0 (Fb7_14.out)) ?_))
  obtain ⟨mk_t6_1, Hmk_t6_1⟩ : ∃ q, Hid (1 + Tr.topN (x0).tr = q) := ⟨_, rfl⟩
  refine (markProgram_all x0 _ _ 1 (Between w5 w6) _ (by rfl) (Ft6_14.out) (fun b hb => by have h1 := hb.1; have h2 := hb.2; omega) (by have := GProgram.top_le x0; omega)).mono ?_; rintro e w15 ⟨he, hm15, hc15⟩
  rw [Hmk_t6_1.out] at he
  subst he
  have Fp0_15 := Lib.hid (obchg (Fp0_14.out) hc15 (fun h => by have h1 := h.1; have h2 := h.2; omega))
  have Ft5_15 := Lib.hid (Chg.ext Ft5_14.out hc15 (fun b hb => by have h1 := hb.1; omega))
  have Fb7_15 := Lib.hid (obchg (Fb7_14.out) hc15 (fun h => by have h1 := h.1; have h2 := h.2; omega))
  have Ft8_15 := Lib.hid ((Ft8_14.out).keep fun b hb hl => hc15.block b hl (fun hs => by have h1 := hb.1; have h2 := hb.2; have h3 := hs.1; have h4 := hs.2; omega))
  have Ft9_15 := Lib.hid ((Ft9_14.out).keep fun b hb hl => hc15.block b hl (fun hs => by have h1 := hb.1; have h2 := hb.2; have h3 := hs.1; have h4 := hs.2; omega))
  have X15 := Lib.hid (Chg.ext X14.out hc15 (fun b hb => by have h1 := hb.1; omega))
  have z15 : w14.heap.size ≤ w15.heap.size := hc15.size
  have Ft6_15 := Lib.hid hm15
  clear hc15 hm15
  have hng15 : ¬ ((mk_t6_1 : Nat) : Int) < 0 := by omega
  go_wp2_with (first
    | (refine wpList_load_rep rfl 24 (.tmp 2) rfl (w.heap.size) 0 rfl cs0 _ Tryz.underlying24 HI0.out (OB.cells0 (Fp0_15.out)) ?_)
    | (refine wpList_load_rep rfl 31 (.tmp 7) rfl (w6.heap.size) 0 rfl t6 _ Tryz.underlying31 HJ6.out (OB.cells0 (Fb7_15.out)) ?_))
  obtain ⟨mk_t8_mk_t6_1, Hmk_t8_mk_t6_1⟩ : ∃ q, Hid (mk_t6_1 + Tr.cntE (GBound.trs x1) = q) := ⟨_, rfl⟩
  refine (markBoundS_all x1 _ _ mk_t6_1 (Between w7 w8) _ (by rfl) (Ft8_15.out) (fun b hb => by have h1 := hb.1; have h2 := hb.2; omega) (by have h0 := GProgram.top_le x0; have h1 := Hmk_t6_1.out; have h2 := GBound.cnts_le x1; omega)).mono ?_; rintro e w16 ⟨he, hm16, hc16⟩
  rw [Hmk_t8_mk_t6_1.out] at he
  subst he
  have Fp0_16 := Lib.hid (obchg (Fp0_15.out) hc16 (fun h => by have h1 := h.1; have h2 := h.2; omega))
  have Ft5_16 := Lib.hid (Chg.ext Ft5_15.out hc16 (fun b hb => by have h1 := hb.1; omega))
  have Ft6_16 := Lib.hid ((Ft6_15.out).keep fun b hb hl => hc16.block b hl (fun hs => by have h1 := hb.1; have h2 := hb.2; have h3 := hs.1; have h4 := hs.2; omega))
  have Fb7_16 := Lib.hid (obchg (Fb7_15.out) hc16 (fun h => by have h1 := h.1; have h2 := h.2; omega))
  have Ft9_16 := Lib.hid ((Ft9_15.out).keep fun b hb hl => hc16.block b hl (fun hs => by have h1 := hb.1; have h2 := hb.2; have h3 := hs.1; have h4 := hs.2; omega))
  have X16 := Lib.hid (Chg.ext X15.out hc16 (fun b hb => by have h1 := hb.1; omega))
  have z16 : w15.heap.size ≤ w16.heap.size := hc16.size
  have Ft8_16 := Lib.hid hm16
  clear hc16 hm16
  have hng16 : ¬ ((mk_t8_mk_t6_1 : Nat) : Int) < 0 := by omega
  go_wp2_with (first
    | (refine wpList_load_rep_g (by rfl) 24 (.tmp 2) rfl (w.heap.size) 0 rfl cs0 _ Tryz.underlying24 HI0.out (OB.cells0 (Fp0_16.out)) ?_)
    | (refine wpList_load_rep_g (by rfl) 31 (.tmp 7) rfl (w6.heap.size) 0 rfl t6 _ Tryz.underlying31 HJ6.out (OB.cells0 (Fb7_16.out)) ?_)
    | (refine wpList_load_rep rfl 24 (.tmp 2) rfl (w.heap.size) 0 rfl cs0 _ Tryz.underlying24 HI0.out (OB.cells0 (Fp0_16.out)) ?_)
    | (refine wpList_load_rep rfl 31 (.tmp 7) rfl (w6.heap.size) 0 rfl t6 _ Tryz.underlying31 HJ6.out (OB.cells0 (Fb7_16.out)) ?_))
  refine (eqAssumptionS_all (x0.asms x1 x1.length) _ _ _ (Ft9_16.out).rep (HO5.out.ext Ft5_16.out)).mono ?_; rintro e w17 ⟨rfl, hw17⟩
  have Fp0_17 := Lib.hid ((Fp0_16.out).ext hw17)
  have Ft5_17 := Lib.hid (Ext.trans Ft5_16.out hw17)
  have Ft6_17 := Lib.hid ((Ft6_16.out).ext hw17)
  have Fb7_17 := Lib.hid ((Fb7_16.out).ext hw17)
  have Ft8_17 := Lib.hid ((Ft8_16.out).ext hw17)
  have Ft9_17 := Lib.hid ((Ft9_16.out).ext hw17)
  have X17 := Lib.hid (Ext.trans X16.out hw17)
  have z17 : w16.heap.size ≤ w17.heap.size := hw17.size
  clear hw17
  go_wp2_with (first
    | (refine wpList_load_rep rfl 24 (.tmp 2) rfl (w.heap.size) 0 rfl cs0 _ Tryz.underlying24 HI0.out (OB.cells0 (Fp0_17.out)) ?_)
    | (refine wpList_load_rep rfl 31 (.tmp 7) rfl (w6.heap.size) 0 rfl t6 _ Tryz.underlying31 HJ6.out (OB.cells0 (Fb7_17.out)) ?_))
  obtain ⟨mk_t9_1, Hmk_t9_1⟩ : ∃ q, Hid (1 + Tr.cntE (GAssumption.trs (x0.asms x1 x1.length)) = q) := ⟨_, rfl⟩
  refine (markAssumptionS_all (x0.asms x1 x1.length) _ _ 1 (Between w8 w9) _ (by rfl) (Ft9_17.out) (fun b hb => by have h1 := hb.1; have h2 := hb.2; omega) (x0.asms_cnt x1 (by have := GProgram.allSup_bulk x0; omega) (by omega))).mono ?_; rintro e w18 ⟨he, hm18, hc18⟩
  rw [Hmk_t9_1.out] at he
  subst he
  have Fp0_18 := Lib.hid (obchg (Fp0_17.out) hc18 (fun h => by have h1 := h.1; have h2 := h.2; omega))
  have Ft5_18 := Lib.hid (Chg.ext Ft5_17.out hc18 (fun b hb => by have h1 := hb.1; omega))
  have Ft6_18 := Lib.hid ((Ft6_17.out).keep fun b hb hl => hc18.block b hl (fun hs => by have h1 := hb.1; have h2 := hb.2; have h3 := hs.1; have h4 := hs.2; omega))
  have Fb7_18 := Lib.hid (obchg (Fb7_17.out) hc18 (fun h => by have h1 := h.1; have h2 := h.2; omega))
  have Ft8_18 := Lib.hid ((Ft8_17.out).keep fun b hb hl => hc18.block b hl (fun hs => by have h1 := hb.1; have h2 := hb.2; have h3 := hs.1; have h4 := hs.2; omega))
  have X18 := Lib.hid (Chg.ext X17.out hc18 (fun b hb => by have h1 := hb.1; omega))
  have z18 : w17.heap.size ≤ w18.heap.size := hc18.size
  have Ft9_18 := Lib.hid hm18
  clear hc18 hm18
  have hng18 : ¬ ((mk_t9_1 : Nat) : Int) < 0 := by omega
  go_wp2_with (first
    | (refine wpList_load_rep rfl 24 (.tmp 2) rfl (w.heap.size) 0 rfl cs0 _ Tryz.underlying24 HI0.out (OB.cells0 (Fp0_18.out)) ?_)
    | (refine wpList_load_rep rfl 31 (.tmp 7) rfl (w6.heap.size) 0 rfl t6 _ Tryz.underlying31 HJ6.out (OB.cells0 (Fb7_18.out)) ?_))
  refine (heldAssumptionS_all (x0.asms x1 x1.length) _ _ 1 _ (by rfl) (Ft9_18.out).rep (x0.asms_cnt x1 (by have := GProgram.allSup_bulk x0; omega) (by omega))).mono ?_; rintro e w19 ⟨he, hw19⟩
  rw [Hmk_t9_1.out] at he
  subst he
  have Fp0_19 := Lib.hid ((Fp0_18.out).ext hw19)
  have Ft5_19 := Lib.hid (Ext.trans Ft5_18.out hw19)
  have Ft6_19 := Lib.hid ((Ft6_18.out).ext hw19)
  have Fb7_19 := Lib.hid ((Fb7_18.out).ext hw19)
  have Ft8_19 := Lib.hid ((Ft8_18.out).ext hw19)
  have Ft9_19 := Lib.hid ((Ft9_18.out).ext hw19)
  have X19 := Lib.hid (Ext.trans X18.out hw19)
  have z19 : w18.heap.size ≤ w19.heap.size := hw19.size
  clear hw19
  go_wp2_with (first
    | (refine wpList_load_rep rfl 24 (.tmp 2) rfl (w.heap.size) 0 rfl cs0 _ Tryz.underlying24 HI0.out (OB.cells0 (Fp0_19.out)) ?_)
    | (refine wpList_load_rep rfl 31 (.tmp 7) rfl (w6.heap.size) 0 rfl t6 _ Tryz.underlying31 HJ6.out (OB.cells0 (Fb7_19.out)) ?_))
  refine (toProgram_all x0 _ _ (HR0.out.ext X19.out) (by omega)).mono ?_; rintro e w20 ⟨t20, rfl, hw20, ho20⟩
  have HO20 := Lib.hid ho20
  have HT20 : Hid (t20.length = 1) := (by rw [ho20.1]; exact GProgram.tr_len _)
  have HJ20 : Hid ((Tryz.prog.info? 31).map (·.size) = some t20.length) := (by rw [HT20.out]; exact isz31)
  clear ho20
  have Fp0_20 := Lib.hid ((Fp0_19.out).ext hw20)
  have Ft5_20 := Lib.hid (Ext.trans Ft5_19.out hw20)
  have Ft6_20 := Lib.hid ((Ft6_19.out).ext hw20)
  have Fb7_20 := Lib.hid ((Fb7_19.out).ext hw20)
  have Ft8_20 := Lib.hid ((Ft8_19.out).ext hw20)
  have Ft9_20 := Lib.hid ((Ft9_19.out).ext hw20)
  have X20 := Lib.hid (Ext.trans X19.out hw20)
  have z20 : w19.heap.size ≤ w20.heap.size := hw20.size
  clear hw20
  go_wp2_with (first
    | (refine wpList_load_rep rfl 24 (.tmp 2) rfl (w.heap.size) 0 rfl cs0 _ Tryz.underlying24 HI0.out (OB.cells0 (Fp0_20.out)) ?_)
    | (refine wpList_load_rep rfl 31 (.tmp 7) rfl (w6.heap.size) 0 rfl t6 _ Tryz.underlying31 HJ6.out (OB.cells0 (Fb7_20.out)) ?_))
  refine (toBoundS_all x1 _ _ (HR1.out.ext X20.out) (by rw [GBound.trs_len]; omega)).mono ?_; rintro e w21 ⟨tv21, rfl, hw21, ho21⟩
  have HO21 := Lib.hid ho21
  obtain ⟨ta21, tc21, hv21, -, -⟩ := HO21.out.rep.shape
  rw [GBound.trs_len] at hv21
  subst hv21
  clear ho21
  have Fp0_21 := Lib.hid ((Fp0_20.out).ext hw21)
  have Ft5_21 := Lib.hid (Ext.trans Ft5_20.out hw21)
  have Ft6_21 := Lib.hid ((Ft6_20.out).ext hw21)
  have Fb7_21 := Lib.hid ((Fb7_20.out).ext hw21)
  have Ft8_21 := Lib.hid ((Ft8_20.out).ext hw21)
  have Ft9_21 := Lib.hid ((Ft9_20.out).ext hw21)
  have Ft20_21 := Lib.hid ((HO20.out).ext hw21)
  have X21 := Lib.hid (Ext.trans X20.out hw21)
  have z21 : w20.heap.size ≤ w21.heap.size := hw21.size
  clear hw21
  go_wp2_with (first
    | (refine wpList_load_rep rfl 24 (.tmp 2) rfl (w.heap.size) 0 rfl cs0 _ Tryz.underlying24 HI0.out (OB.cells0 (Fp0_21.out)) ?_)
    | (refine wpList_load_rep rfl 31 (.tmp 7) rfl (w6.heap.size) 0 rfl t6 _ Tryz.underlying31 HJ6.out (OB.cells0 (Fb7_21.out)) ?_))
  refine (assumP_impl x0 x1 _ _ _ ((Ft20_21.out).rep) ((HO21.out).rep) (by have := GProgram.allSup_bulk x0; omega) (by omega) (mul_of_sum (by have := GProgram.allSup_bulk x0; omega)) (fun b hb => by have := GBound.ty_all x1 b hb; omega)).mono ?_; rintro e w22 ⟨tv22, rfl, hw22, ho22⟩
  have HO22 := Lib.hid ho22
  obtain ⟨ta22, tc22, hv22, -, -⟩ := HO22.out.rep.shape
  rw [GAssumption.trs_len] at hv22
  subst hv22
  clear ho22
  have Fp0_22 := Lib.hid ((Fp0_21.out).ext hw22)
  have Ft5_22 := Lib.hid (Ext.trans Ft5_21.out hw22)
  have Ft6_22 := Lib.hid ((Ft6_21.out).ext hw22)
  have Fb7_22 := Lib.hid ((Fb7_21.out).ext hw22)
  have Ft8_22 := Lib.hid ((Ft8_21.out).ext hw22)
  have Ft9_22 := Lib.hid ((Ft9_21.out).ext hw22)
  have Ft20_22 := Lib.hid ((Ft20_21.out).ext hw22)
  have Ft21_22 := Lib.hid ((HO21.out).ext hw22)
  have X22 := Lib.hid (Ext.trans X21.out hw22)
  have z22 : w21.heap.size ≤ w22.heap.size := hw22.size
  clear hw22
  go_wp2_with (first
    | (refine wpList_load_rep rfl 24 (.tmp 2) rfl (w.heap.size) 0 rfl cs0 _ Tryz.underlying24 HI0.out (OB.cells0 (Fp0_22.out)) ?_)
    | (refine wpList_load_rep rfl 31 (.tmp 7) rfl (w6.heap.size) 0 rfl t6 _ Tryz.underlying31 HJ6.out (OB.cells0 (Fb7_22.out)) ?_))
  refine (eqAssumptionS_all (x0.asms x1 x1.length) _ _ _ (HO22.out).rep (HO5.out.ext Ft5_22.out)).mono ?_; rintro e w23 ⟨rfl, hw23⟩
  have Fp0_23 := Lib.hid ((Fp0_22.out).ext hw23)
  have Ft5_23 := Lib.hid (Ext.trans Ft5_22.out hw23)
  have Ft6_23 := Lib.hid ((Ft6_22.out).ext hw23)
  have Fb7_23 := Lib.hid ((Fb7_22.out).ext hw23)
  have Ft8_23 := Lib.hid ((Ft8_22.out).ext hw23)
  have Ft9_23 := Lib.hid ((Ft9_22.out).ext hw23)
  have Ft22_23 := Lib.hid ((HO22.out).ext hw23)
  have X23 := Lib.hid (Ext.trans X22.out hw23)
  have z23 : w22.heap.size ≤ w23.heap.size := hw23.size
  clear hw23
  go_wp2_with (first
    | (refine wpList_load_rep rfl 24 (.tmp 2) rfl (w.heap.size) 0 rfl cs0 _ Tryz.underlying24 HI0.out (OB.cells0 (Fp0_23.out)) ?_)
    | (refine wpList_load_rep rfl 31 (.tmp 7) rfl (w6.heap.size) 0 rfl t6 _ Tryz.underlying31 HJ6.out (OB.cells0 (Fb7_23.out)) ?_))
  refine (heldAssumptionS_all (x0.asms x1 x1.length) _ _ 1 _ (by rfl) (Ft9_23.out).rep (x0.asms_cnt x1 (by have := GProgram.allSup_bulk x0; omega) (by omega))).mono ?_; rintro e w24 ⟨he, hw24⟩
  rw [Hmk_t9_1.out] at he
  subst he
  have Fp0_24 := Lib.hid ((Fp0_23.out).ext hw24)
  have Ft5_24 := Lib.hid (Ext.trans Ft5_23.out hw24)
  have Ft6_24 := Lib.hid ((Ft6_23.out).ext hw24)
  have Fb7_24 := Lib.hid ((Fb7_23.out).ext hw24)
  have Ft8_24 := Lib.hid ((Ft8_23.out).ext hw24)
  have Ft9_24 := Lib.hid ((Ft9_23.out).ext hw24)
  have Ft22_24 := Lib.hid ((Ft22_23.out).ext hw24)
  have X24 := Lib.hid (Ext.trans X23.out hw24)
  have z24 : w23.heap.size ≤ w24.heap.size := hw24.size
  clear hw24
  go_wp2_with (first
    | (refine wpList_load_rep rfl 24 (.tmp 2) rfl (w.heap.size) 0 rfl cs0 _ Tryz.underlying24 HI0.out (OB.cells0 (Fp0_24.out)) ?_)
    | (refine wpList_load_rep rfl 31 (.tmp 7) rfl (w6.heap.size) 0 rfl t6 _ Tryz.underlying31 HJ6.out (OB.cells0 (Fb7_24.out)) ?_))
  go_ret
  exact ⟨rfl, X24.out⟩

set_option linter.unusedVariables false
theorem own : ownKnob Tryz.prog.godebug = none := by kernel_rfl
theorem laidOut : laidOutB Tryz.prog = true := by kernel_rfl

set_option maxRecDepth 100000 in
theorem lifted (os : Os) (started : os.Started) (H : Type) (enc : TypeId × Value → H) :
    ReturnsInHanded {} Tryz.checked os 9 .any (Rows.fnExactAssumptionsSpec.pre6 enc Tryz.prog Tryz.f9 Rows.fnExactAssumptionsRow.domain false) (Rows.fnExactAssumptionsSpec.post enc Tryz.prog Tryz.f9 false true false false) := by
  refine returnsInHanded_of_change (C := Tryz.checked) own started (by kernel_rfl) Tryz.func9
    (ChangeSpec.witness6 (enc := enc) (C := Tryz.checked) false ⟨#[], #[.agg #[.slice none 0 0], .slice none 0 0], []⟩ 8 (by kernel_rfl) (by kernel_rfl) (by kernel_rfl) (by kernel_rfl)) ?_
  intro W base args ds gs before hval0 hW hcnd _
  have hval : ∀ (j : Nat) t v, Tryz.f9.params[j]? = some t → args[j]? = some v → Value.okWide Tryz.prog W .any base t v := hval0
  have hW' := hW
  obtain ⟨p, q, hA0, hV, rfl, hfz, hnd⟩ := hW
  have hA : DataW.TrodAll enc Tryz.prog W 0 (fun _ => true) true Tryz.f9.params.toList args.toList ds p := hA0
  rw [Tryz.params9] at hA hval
  obtain ⟨v0, vs0, d0, ds0, p0, q0, hargs, rfl, rfl, h0, r0⟩ := trodAll_cons hA
  obtain ⟨v1, vs1, d1, ds1, p1, q1, rfl, rfl, rfl, h1, r1⟩ := trodAll_cons r0
  obtain ⟨rfl, rfl, rfl⟩ := trodAll_nil r1
  obtain rfl : args = #[v0, v1] := by cases args; simp_all
  obtain ⟨rfl, rfl⟩ := trodVars_none hV
  have k0 := h0
  have lt0 : ∀ x ∈ p0, x.block < W.heap.size := by obtain ⟨m, hm⟩ := k0; exact DataW.trod_lt m _ _ _ hm
  obtain ⟨c0, rfl, -⟩ := okWide_struct Tryz.underlying24 (hval 0 24 v0 rfl rfl)
  obtain ⟨fu0, hf0⟩ := h0
  obtain ⟨ts0, ty0, rp0, -⟩ := tyOf_of_trod plainClosed fu0 24 c0.toList _ (by decide) hf0
  obtain ⟨x0, rfl⟩ := tyof_Program ty0
  have k1 := h1
  have lt1 : ∀ x ∈ p1, x.block < W.heap.size := by obtain ⟨m, hm⟩ := k1; exact DataW.trod_lt m _ _ _ hm
  obtain ⟨a1, len1, cap1, rfl⟩ := okWide_slice Tryz.underlying78 (hval 1 78 v1 rfl rfl)
  obtain ⟨fu1, hf1⟩ := h1
  obtain ⟨ts1, ty1, rp1, -⟩ := tyOf_of_trod plainClosed fu1 78 _ _ (by decide) hf1
  obtain ⟨es1, rfl, me1⟩ := ty1.slice_inv Tryz.underlying78
  obtain ⟨x1, rfl⟩ := list_of (tr := GBound.tr) (es := es1) fun e he => tyof_Bound (me1 e he)
  rw [cellsOf41, ← GBound.trs_map] at rp1
  clear hA0 hval0
  refine (law_FnExactAssumptions W x0 c0.toList rp0 x1 _ rp1.1).mono fun e W' ⟨he, bel⟩ => ?_
  subst he
  exact ⟨_, rfl, _, _, _, [], _, [], hW', trodAll_mk1 (shut_bool Tryz.underlying4 _), (trodAll_cons_mk (Below.trod laidOut (by kernel_rfl) (of_decide_eq_true (by kernel_rfl)) k0 bel lt0) (trodAll_cons_mk (Below.trod laidOut (by kernel_rfl) (of_decide_eq_true (by kernel_rfl)) k1 bel lt1) trodAll_mk0)), rfl, bel.frame _, fun h => by cases h⟩

theorem over : Rows.fnExactAssumptionsRow.holds Tryz.pinned (OpenSpec.ofChange Rows.fnExactAssumptionsSpec) :=
  OpenClaim.holds_of_wide 9 Tryz.f9 rfl rfl rfl rfl rfl rfl rfl ⟨rfl, rfl, rfl, rfl, rfl⟩ rfl rfl rfl rfl rfl fnNamed Tryz.func9 factsJoin (of_decide_eq_true (by kernel_rfl)) wrapper
    (fun os started H enc _ => lifted os started H enc)

theorem proved : Rows.FnExactAssumptionsSaid := over
#print axioms proved

end Go.Proofs.YtnakkelglbcecaaGreat.fnExactAssumptionsDone
