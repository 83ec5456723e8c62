/- FnExactMoreSpecificInstances returns true for every input, and leaves what was there as it was. No conditions. -/
import Derived.Test.YtnakkelglbcecaaGreatRows
import Derived.Test.YtnakkelglbcecaaGreatQh2ecc459e
import Derived.Test.YtnakkelglbcecaaGreatQhacf58ee8
import Derived.Test.YtnakkelglbcecaaGreatQh122dace5
import Derived.Test.YtnakkelglbcecaaGreatQh92cc9345
import Derived.ProofKit
import Derived.OpenShut
import Derived.ShutString
import Derived.ChangeOld
import Derived.Test.YtnakkelglbcecaaGreatQJExactMoreSpecificInstances
import Derived.Test.YtnakkelglbcecaaGreatQh64859010
import Derived.Test.YtnakkelglbcecaaGreatQhb2f830cf
import Derived.Test.YtnakkelglbcecaaGreatQh3dd739bc
import Derived.Test.YtnakkelglbcecaaGreatQhad784d26
set_option linter.unusedSimpArgs false
set_option linter.unusedVariables false
namespace Go.Proofs.YtnakkelglbcecaaGreat.fnExactMoreSpecificInstancesDone
open Go.Proofs Go.Proofs.YtnakkelglbcecaaGreat Go.ChangeShapes Go.WideShapes Go.ChangeAt Go.RowKit
open Go.ChangeMaps (open_string shut_string)

theorem obchg {S : Nat → Prop} {w w' : World} {g : Nat} {t : TypeId} {cs : Array Value} (h : OB w g t cs) (hc : Chg S w w') (hn : ¬ S g) : OB w' g t cs := (hc.block g h.lt hn).trans h
set_option maxRecDepth 100000 in
set_option maxHeartbeats 8000000 in
theorem law_FnExactMoreSpecificInstances (w : World) (x0 : GProgram) (cs0 : List Value) (hr0 : RepL w x0.tr cs0) (x1 : GInstanceRef) (cs1 : List Value) (hr1 : RepL w x1.tr cs1) :
    Calls Tryz.prog 12 #[.agg ⟨cs0⟩, .agg ⟨cs1⟩] w fun e w' => e = .returned (.bool true) ∧ Below w.heap.size w w' := by
  have HL0 : Hid (cs0.length = 1) := by rw [← hr0.length, GProgram.tr_len]; rfl
  have HI0 : Hid ((Tryz.prog.info? 24).map (·.size) = some cs0.length) := by rw [HL0.out]; exact isz24
  have HR0 := Lib.hid hr0
  clear hr0
  have HL1 : Hid (cs1.length = 2) := by rw [← hr1.length, GInstanceRef.tr_len]; rfl
  have HI1 : Hid ((Tryz.prog.info? 26).map (·.size) = some cs1.length) := by rw [HL1.out]; exact isz26
  have HR1 := Lib.hid hr1
  clear hr1
  go_enter Tryz.func12, Tryz.ntmps12
  go_wp2_with (first
    | (refine wpList_load_rep rfl 24 (.tmp 2) rfl (w.heap.size) 0 rfl cs0 _ Tryz.underlying24 HI0.out (OB.cells0 ((Two.new w _ _ _ _).o0)) ?_)
    | (refine wpList_load_rep rfl 26 (.tmp 3) rfl (w.heap.size + 1) 0 rfl cs1 _ Tryz.underlying26 HI1.out (OB.cells0 ((Two.new w _ _ _ _).o1)) ?_))
  refine (szProgram_all x0 _ _ _ (HR0.out.ext (Ext.alloc (Ext.alloc (Ext.refl _) _) _)) (by omega) (by omega)).mono ?_
  rintro e w1 ⟨r1, rfl, hw1, ra1, rb1, rc1⟩
  have RC1 := Lib.hid rc1
  clear rc1
  have Fp0_1 := Lib.hid (((Two.new w _ _ _ _).o0).ext hw1)
  have Fp1_1 := Lib.hid (((Two.new w _ _ _ _).o1).ext hw1)
  have X1 := Lib.hid (Ext.trans (Ext.alloc (Ext.alloc (Ext.refl _) _) _) hw1)
  have z1 : w.heap.size + 2 ≤ w1.heap.size := (by have h1 := hw1.size; simp only [World.size_alloc] at h1; omega)
  clear hw1
  go_wp2_with (first
    | (refine wpList_load_rep rfl 24 (.tmp 2) rfl (w.heap.size) 0 rfl cs0 _ Tryz.underlying24 HI0.out (OB.cells0 (Fp0_1.out)) ?_)
    | (refine wpList_load_rep rfl 26 (.tmp 3) rfl (w.heap.size + 1) 0 rfl cs1 _ Tryz.underlying26 HI1.out (OB.cells0 (Fp1_1.out)) ?_))
  · go_ret
    exact ⟨rfl, X1.out⟩
  have hb0 := RC1.out (by omega)
  refine wp_region_held_drew (S := Ext w1) (by kernel_rfl) (.drew (.refl _)) (fun hHeld => ?_)
  refine wpAnyH_load_rep (i := 0) rfl (by kernel_rfl) (by kernel_rfl) (by kernel_rfl) (fun _ _ _ h => h) rfl 24 (.tmp 2) rfl (w.heap.size) 0 rfl cs0 _ Tryz.underlying24 HI0.out (fun w hS => OB.cells0 ((Fp0_1.out).ext hS)) (by assumption) (fun _ _ _ _ h => h) ?_
  simp only [Act.put, List.getElem_toArray, List.getElem_cons_zero, List.setIfInBounds_toArray, List.set_cons_zero, List.set_cons_succ]
  refine wpAnyH_load_rep (i := 2) rfl (by kernel_rfl) (by kernel_rfl) (by kernel_rfl) (fun _ _ _ h => h) rfl 26 (.tmp 3) rfl (w.heap.size + 1) 0 rfl cs1 _ Tryz.underlying26 HI1.out (fun w hS => OB.cells0 ((Fp1_1.out).ext hS)) (by assumption) (fun _ _ _ _ h => h) ?_
  simp only [Act.put, List.getElem_toArray, List.getElem_cons_zero, List.getElem_cons_succ, List.setIfInBounds_toArray, List.set_cons_zero, List.set_cons_succ]
  refine wpAnyH_call (i := 1) (by kernel_rfl) rfl rfl (run_call_func rfl rfl #[.agg ⟨cs0⟩] (by simp only [List.map_toArray, List.map_cons, List.map_nil, Act.eval]; rfl) Tryz.func17 (by kernel_rfl) (by kernel_rfl) _) (toProgram_all x0 _ _ (HR0.out.ext (Ext.trans X1.out (.drew (.refl _)))) (by omega)) ?_
  rintro e w2 ⟨t2, rfl, hw2, ho2⟩
  have HO2 := Lib.hid ho2
  have HT2 : Hid (t2.length = 1) := (by rw [ho2.1]; exact GProgram.tr_len _)
  have HJ2 : Hid ((Tryz.prog.info? 31).map (·.size) = some t2.length) := (by rw [HT2.out]; exact isz31)
  clear ho2
  have hs2 := Ext.trans hHeld hw2
  refine ⟨_, rfl, hs2, ?_⟩
  have Fp0_2 := Lib.hid (((Fp0_1.out).ext (Ext.drew (.refl w1))).ext hw2)
  have Fp1_2 := Lib.hid (((Fp1_1.out).ext (Ext.drew (.refl w1))).ext hw2)
  have X2 := Lib.hid (Ext.trans (Ext.trans X1.out (.drew (.refl _))) hw2)
  have z2 : w1.heap.size ≤ w2.heap.size := hw2.size
  simp only [Act.put, List.getElem_toArray, List.getElem_cons_zero, List.getElem_cons_succ, List.setIfInBounds_toArray, List.set_cons_zero, List.set_cons_succ]
  refine wpAnyH_call (i := 3) (by kernel_rfl) rfl rfl (run_call_func rfl rfl #[.agg ⟨cs1⟩] (by simp only [List.map_toArray, List.map_cons, List.map_nil, Act.eval]; rfl) Tryz.func18 (by kernel_rfl) (by kernel_rfl) _) (toInstanceRef_all x1 _ _ (HR1.out.ext X2.out) (by have hz0 : Tr.bulkL (GInstanceRef.tr x1) = 0 := (by cases x1; rfl); omega)) ?_
  rintro e w3 ⟨t3, rfl, hw3, ho3⟩
  have HO3 := Lib.hid ho3
  have HT3 : Hid (t3.length = 2) := (by rw [ho3.1]; exact GInstanceRef.tr_len _)
  have HJ3 : Hid ((Tryz.prog.info? 33).map (·.size) = some t3.length) := (by rw [HT3.out]; exact isz33)
  clear ho3
  have hs3 := Ext.trans hs2 hw3
  refine ⟨_, rfl, hs3, ?_⟩
  have Fp0_3 := Lib.hid ((Fp0_2.out).ext hw3)
  have Fp1_3 := Lib.hid ((Fp1_2.out).ext hw3)
  have Ft2_3 := Lib.hid ((HO2.out).ext hw3)
  have X3 := Lib.hid (Ext.trans X2.out hw3)
  have z3 : w2.heap.size ≤ w3.heap.size := hw3.size
  simp only [Act.put, List.getElem_toArray, List.getElem_cons_zero, List.getElem_cons_succ, List.setIfInBounds_toArray, List.set_cons_zero, List.set_cons_succ]
  refine wpAnyH_call (i := 4) (by kernel_rfl) rfl rfl (run_call_func rfl rfl #[.agg ⟨t2⟩, .agg ⟨t3⟩] (by simp only [List.map_toArray, List.map_cons, List.map_nil, Act.eval]; rfl) Tryz.func64 (by kernel_rfl) (by kernel_rfl) _) (relMoreSpecificInstancesP_spec x0 x1 _ _ _ ((Ft2_3.out).rep) ((HO3.out).rep) (by omega)) ?_
  rintro e w4 ⟨tv4, rfl, hw4, ho4⟩
  have HO4 := Lib.hid ho4
  obtain ⟨ta4, tc4, hv4, -, -⟩ := HO4.out.shape
  rw [GInstanceRef.trs_len] at hv4
  subst hv4
  clear ho4
  have hs4 := Ext.trans hs3 hw4
  refine ⟨_, rfl, hs4, ?_⟩
  have Fp0_4 := Lib.hid ((Fp0_3.out).ext hw4)
  have Fp1_4 := Lib.hid ((Fp1_3.out).ext hw4)
  have Ft2_4 := Lib.hid ((Ft2_3.out).ext hw4)
  have Ft3_4 := Lib.hid ((HO3.out).ext hw4)
  have X4 := Lib.hid (Ext.trans X3.out hw4)
  have z4 : w3.heap.size ≤ w4.heap.size := hw4.size
  simp only [Act.put, List.getElem_toArray, List.getElem_cons_zero, List.getElem_cons_succ, List.setIfInBounds_toArray, List.set_cons_zero, List.set_cons_succ]
  refine wpAnyH_take (i := 5) rfl (by kernel_rfl) (by kernel_rfl) (by kernel_rfl) (fun _ _ _ h => h) (.inl ⟨rfl, fun _ _ => rfl⟩) (by assumption) ?_
  simp only [Act.put, List.getElem_toArray, List.getElem_cons_zero, List.getElem_cons_succ, List.setIfInBounds_toArray, List.set_cons_zero, List.set_cons_succ]
  refine wpAnyH_done (by kernel_rfl) ?_ _
  clear hHeld hs2 hw2 hs3 hw3 hs4 hw4
  go_wp2_with (first
    | (refine wpList_load_rep rfl 24 (.tmp 2) rfl (w.heap.size) 0 rfl cs0 _ Tryz.underlying24 HI0.out (OB.cells0 (Fp0_4.out)) ?_)
    | (refine wpList_load_rep rfl 26 (.tmp 3) rfl (w.heap.size + 1) 0 rfl cs1 _ Tryz.underlying26 HI1.out (OB.cells0 (Fp1_4.out)) ?_))
  refine (toProgram_all x0 _ _ (HR0.out.ext X4.out) (by omega)).mono ?_
  rintro e w5 ⟨t5, rfl, hw5, ho5⟩
  have HO5 := Lib.hid ho5
  have HT5 : Hid (t5.length = 1) := (by rw [ho5.1]; exact GProgram.tr_len _)
  have HJ5 : Hid ((Tryz.prog.info? 31).map (·.size) = some t5.length) := (by rw [HT5.out]; exact isz31)
  clear ho5
  have Fp0_5 := Lib.hid ((Fp0_4.out).ext hw5)
  have Fp1_5 := Lib.hid ((Fp1_4.out).ext hw5)
  have Ft4_5 := Lib.hid (Ext.trans (Ext.refl _) hw5)
  have X5 := Lib.hid (Ext.trans X4.out hw5)
  have z5 : w4.heap.size ≤ w5.heap.size := hw5.size
  clear hw5
  go_wp2_with (first
    | (refine wpList_store_rep rfl 31 (.tmp 7) (.tmp 24) rfl w5.heap.size 0 rfl t5 rfl 31 _ (OB.new w5 _ _) HJ5.out (by rw [HT5.out]; exact Nat.le_refl _) (HO5.out.rep.one) ?_; intro w6 hob hgb hzb; rw [splice_whole (by rw [HT5.out]; rfl)] at hob; have hw6 := grown_ext (.alloc (.refl w5) _) hgb (Nat.le_refl _); have Fp0_6 := Lib.hid ((Fp0_5.out).ext hw6); have Fp1_6 := Lib.hid ((Fp1_5.out).ext hw6); have Ft4_6 := Lib.hid (Ext.trans Ft4_5.out hw6); have Ft5_6 := Lib.hid ((HO5.out).ext hw6); have X6 := Lib.hid (Ext.trans X5.out hw6); have z6 : w5.heap.size ≤ w6.heap.size := hw6.size; have Fb6_6 := Lib.hid hob; have zs6 : w5.heap.size < w6.heap.size := hob.lt; clear hob hgb hzb hw6)
    | (refine wpList_load_rep rfl 24 (.tmp 2) rfl (w.heap.size) 0 rfl cs0 _ Tryz.underlying24 HI0.out (OB.cells0 (Fp0_6.out)) ?_)
    | (refine wpList_load_rep rfl 26 (.tmp 3) rfl (w.heap.size + 1) 0 rfl cs1 _ Tryz.underlying26 HI1.out (OB.cells0 (Fp1_6.out)) ?_)
    | (refine wpList_load_rep rfl 31 (.tmp 7) rfl (w5.heap.size) 0 rfl t5 _ Tryz.underlying31 HJ5.out (OB.cells0 (Fb6_6.out)) ?_))
  refine wp_region_held_drew (S := Ext w6) (by kernel_rfl) (.drew (.refl _)) (fun hHeld => ?_)
  refine wpAnyH_load_rep (i := 0) rfl (by kernel_rfl) (by kernel_rfl) (by kernel_rfl) (fun _ _ _ h => h) rfl 31 (.tmp 7) rfl (w5.heap.size) 0 rfl t5 _ Tryz.underlying31 HJ5.out (fun w hS => OB.cells0 ((Fb6_6.out).ext hS)) (by assumption) (fun _ _ _ _ h => h) ?_
  simp only [Act.put, List.getElem_toArray, List.getElem_cons_zero, List.setIfInBounds_toArray, List.set_cons_zero, List.set_cons_succ]
  refine wpAnyH_load_rep (i := 1) rfl (by kernel_rfl) (by kernel_rfl) (by kernel_rfl) (fun _ _ _ h => h) rfl 26 (.tmp 3) rfl (w.heap.size + 1) 0 rfl cs1 _ Tryz.underlying26 HI1.out (fun w hS => OB.cells0 ((Fp1_6.out).ext hS)) (by assumption) (fun _ _ _ _ h => h) ?_
  simp only [Act.put, List.getElem_toArray, List.getElem_cons_zero, List.getElem_cons_succ, List.setIfInBounds_toArray, List.set_cons_zero, List.set_cons_succ]
  refine wpAnyH_call (i := 2) (by kernel_rfl) rfl rfl (run_call_func rfl rfl #[.agg ⟨cs1⟩] (by simp only [List.map_toArray, List.map_cons, List.map_nil, Act.eval]; rfl) Tryz.func18 (by kernel_rfl) (by kernel_rfl) _) (toInstanceRef_all x1 _ _ (HR1.out.ext (Ext.trans X6.out (.drew (.refl _)))) (by have hz0 : Tr.bulkL (GInstanceRef.tr x1) = 0 := (by cases x1; rfl); omega)) ?_
  rintro e w7 ⟨t7, rfl, hw7, ho7⟩
  have HO7 := Lib.hid ho7
  have HT7 : Hid (t7.length = 2) := (by rw [ho7.1]; exact GInstanceRef.tr_len _)
  have HJ7 : Hid ((Tryz.prog.info? 33).map (·.size) = some t7.length) := (by rw [HT7.out]; exact isz33)
  clear ho7
  have hs7 := Ext.trans hHeld hw7
  refine ⟨_, rfl, hs7, ?_⟩
  have Fp0_7 := Lib.hid (((Fp0_6.out).ext (Ext.drew (.refl w6))).ext hw7)
  have Fp1_7 := Lib.hid (((Fp1_6.out).ext (Ext.drew (.refl w6))).ext hw7)
  have Ft4_7 := Lib.hid (Ext.trans (Ext.trans Ft4_6.out (Ext.drew (.refl w6))) hw7)
  have Ft5_7 := Lib.hid (((Ft5_6.out).ext (Ext.drew (.refl w6))).ext hw7)
  have Fb6_7 := Lib.hid (((Fb6_6.out).ext (Ext.drew (.refl w6))).ext hw7)
  have X7 := Lib.hid (Ext.trans (Ext.trans X6.out (.drew (.refl _))) hw7)
  have z7 : w6.heap.size ≤ w7.heap.size := hw7.size
  simp only [Act.put, List.getElem_toArray, List.getElem_cons_zero, List.getElem_cons_succ, List.setIfInBounds_toArray, List.set_cons_zero, List.set_cons_succ]
  refine wpAnyH_call (i := 3) (by kernel_rfl) rfl rfl (run_call_func rfl rfl #[.agg ⟨t5⟩, .agg ⟨t7⟩] (by simp only [List.map_toArray, List.map_cons, List.map_nil, Act.eval]; rfl) Tryz.func65 (by kernel_rfl) (by kernel_rfl) _) (relMoreSpecificInstancesP_impl x0 x1 _ _ _ ((Ft5_7.out).rep) ((HO7.out).rep) (by omega)) ?_
  rintro e w8 ⟨tv8, rfl, hw8, ho8⟩
  have HO8 := Lib.hid ho8
  obtain ⟨ta8, tc8, hv8, -, -⟩ := HO8.out.rep.shape
  rw [GInstanceRef.trs_len] at hv8
  subst hv8
  clear ho8
  have hs8 := Ext.trans hs7 hw8
  refine ⟨_, rfl, hs8, ?_⟩
  have Fp0_8 := Lib.hid ((Fp0_7.out).ext hw8)
  have Fp1_8 := Lib.hid ((Fp1_7.out).ext hw8)
  have Ft4_8 := Lib.hid (Ext.trans Ft4_7.out hw8)
  have Ft5_8 := Lib.hid ((Ft5_7.out).ext hw8)
  have Fb6_8 := Lib.hid ((Fb6_7.out).ext hw8)
  have Ft7_8 := Lib.hid ((HO7.out).ext hw8)
  have X8 := Lib.hid (Ext.trans X7.out hw8)
  have z8 : w7.heap.size ≤ w8.heap.size := hw8.size
  simp only [Act.put, List.getElem_toArray, List.getElem_cons_zero, List.getElem_cons_succ, List.setIfInBounds_toArray, List.set_cons_zero, List.set_cons_succ]
  refine wpAnyH_take (i := 4) rfl (by kernel_rfl) (by kernel_rfl) (by kernel_rfl) (fun _ _ _ h => h) (.inl ⟨rfl, fun _ _ => rfl⟩) (by assumption) ?_
  simp only [Act.put, List.getElem_toArray, List.getElem_cons_zero, List.getElem_cons_succ, List.setIfInBounds_toArray, List.set_cons_zero, List.set_cons_succ]
  refine wpAnyH_done (by kernel_rfl) ?_ _
  clear hHeld hs7 hw7 hs8 hw8
  go_wp2_with (first
    | (refine wpList_load_rep rfl 24 (.tmp 2) rfl (w.heap.size) 0 rfl cs0 _ Tryz.underlying24 HI0.out (OB.cells0 (Fp0_8.out)) ?_)
    | (refine wpList_load_rep rfl 26 (.tmp 3) rfl (w.heap.size + 1) 0 rfl cs1 _ Tryz.underlying26 HI1.out (OB.cells0 (Fp1_8.out)) ?_)
    | (refine wpList_load_rep rfl 31 (.tmp 7) rfl (w5.heap.size) 0 rfl t5 _ Tryz.underlying31 HJ5.out (OB.cells0 (Fb6_8.out)) ?_))
  refine (eqInstanceRefS_all (x0.relOf x1 (fun x y => matchB x y)) _ _ _ (HO8.out).rep (HO4.out.ext Ft4_8.out)).mono ?_
  rintro e w9 ⟨rfl, hw9⟩
  have Fp0_9 := Lib.hid ((Fp0_8.out).ext hw9)
  have Fp1_9 := Lib.hid ((Fp1_8.out).ext hw9)
  have Ft4_9 := Lib.hid (Ext.trans Ft4_8.out hw9)
  have Ft5_9 := Lib.hid ((Ft5_8.out).ext hw9)
  have Fb6_9 := Lib.hid ((Fb6_8.out).ext hw9)
  have Ft8_9 := Lib.hid ((HO8.out).ext hw9)
  have X9 := Lib.hid (Ext.trans X8.out hw9)
  have z9 : w8.heap.size ≤ w9.heap.size := hw9.size
  clear hw9
  go_wp2_with (first
    | (refine wpList_load_rep rfl 24 (.tmp 2) rfl (w.heap.size) 0 rfl cs0 _ Tryz.underlying24 HI0.out (OB.cells0 (Fp0_9.out)) ?_)
    | (refine wpList_load_rep rfl 26 (.tmp 3) rfl (w.heap.size + 1) 0 rfl cs1 _ Tryz.underlying26 HI1.out (OB.cells0 (Fp1_9.out)) ?_)
    | (refine wpList_load_rep rfl 31 (.tmp 7) rfl (w5.heap.size) 0 rfl t5 _ Tryz.underlying31 HJ5.out (OB.cells0 (Fb6_9.out)) ?_))
  refine wp_region_held_drew (S := Ext w9) (by kernel_rfl) (.drew (.refl _)) (fun hHeld => ?_)
  refine wpAnyH_load_rep (i := 0) rfl (by kernel_rfl) (by kernel_rfl) (by kernel_rfl) (fun _ _ _ h => h) rfl 31 (.tmp 7) rfl (w5.heap.size) 0 rfl t5 _ Tryz.underlying31 HJ5.out (fun w hS => OB.cells0 ((Fb6_9.out).ext hS)) (by assumption) (fun _ _ _ _ h => h) ?_
  simp only [Act.put, List.getElem_toArray, List.getElem_cons_zero, List.setIfInBounds_toArray, List.set_cons_zero, List.set_cons_succ]
  refine wpAnyH_load_rep (i := 1) rfl (by kernel_rfl) (by kernel_rfl) (by kernel_rfl) (fun _ _ _ h => h) rfl 24 (.tmp 2) rfl (w.heap.size) 0 rfl cs0 _ Tryz.underlying24 HI0.out (fun w hS => OB.cells0 ((Fp0_9.out).ext hS)) (by assumption) (fun _ _ _ _ h => h) ?_
  simp only [Act.put, List.getElem_toArray, List.getElem_cons_zero, List.getElem_cons_succ, List.setIfInBounds_toArray, List.set_cons_zero, List.set_cons_succ]
  refine wpAnyH_call (i := 2) (by kernel_rfl) rfl rfl (run_call_func rfl rfl #[.agg ⟨cs0⟩] (by simp only [List.map_toArray, List.map_cons, List.map_nil, Act.eval]; rfl) Tryz.func17 (by kernel_rfl) (by kernel_rfl) _) (toProgram_all x0 _ _ (HR0.out.ext (Ext.trans X9.out (.drew (.refl _)))) (by omega)) ?_
  rintro e w10 ⟨t10, rfl, hw10, ho10⟩
  have HO10 := Lib.hid ho10
  have HT10 : Hid (t10.length = 1) := (by rw [ho10.1]; exact GProgram.tr_len _)
  have HJ10 : Hid ((Tryz.prog.info? 31).map (·.size) = some t10.length) := (by rw [HT10.out]; exact isz31)
  clear ho10
  have hs10 := Ext.trans hHeld hw10
  refine ⟨_, rfl, hs10, ?_⟩
  have Fp0_10 := Lib.hid (((Fp0_9.out).ext (Ext.drew (.refl w9))).ext hw10)
  have Fp1_10 := Lib.hid (((Fp1_9.out).ext (Ext.drew (.refl w9))).ext hw10)
  have Ft4_10 := Lib.hid (Ext.trans (Ext.trans Ft4_9.out (Ext.drew (.refl w9))) hw10)
  have Ft5_10 := Lib.hid (((Ft5_9.out).ext (Ext.drew (.refl w9))).ext hw10)
  have Fb6_10 := Lib.hid (((Fb6_9.out).ext (Ext.drew (.refl w9))).ext hw10)
  have Ft8_10 := Lib.hid (((Ft8_9.out).ext (Ext.drew (.refl w9))).ext hw10)
  have X10 := Lib.hid (Ext.trans (Ext.trans X9.out (.drew (.refl _))) hw10)
  have z10 : w9.heap.size ≤ w10.heap.size := hw10.size
  simp only [Act.put, List.getElem_toArray, List.getElem_cons_zero, List.getElem_cons_succ, List.setIfInBounds_toArray, List.set_cons_zero, List.set_cons_succ]
  refine wpAnyH_call (i := 3) (by kernel_rfl) rfl rfl (run_call_func rfl rfl #[.agg ⟨t5⟩, .agg ⟨t10⟩] (by simp only [List.map_toArray, List.map_cons, List.map_nil, Act.eval]; rfl) Tryz.func20 (by kernel_rfl) (by kernel_rfl) _) (eqProgram_all x0 _ _ _ (Ft5_10.out).rep (HO10.out).rep) ?_
  rintro e w11 ⟨rfl, hw11⟩
  have hs11 := Ext.trans hs10 hw11
  refine ⟨_, rfl, hs11, ?_⟩
  have Fp0_11 := Lib.hid ((Fp0_10.out).ext hw11)
  have Fp1_11 := Lib.hid ((Fp1_10.out).ext hw11)
  have Ft4_11 := Lib.hid (Ext.trans Ft4_10.out hw11)
  have Ft5_11 := Lib.hid ((Ft5_10.out).ext hw11)
  have Fb6_11 := Lib.hid ((Fb6_10.out).ext hw11)
  have Ft8_11 := Lib.hid ((Ft8_10.out).ext hw11)
  have Ft10_11 := Lib.hid ((HO10.out).ext hw11)
  have X11 := Lib.hid (Ext.trans X10.out hw11)
  have z11 : w10.heap.size ≤ w11.heap.size := hw11.size
  simp only [Act.put, List.getElem_toArray, List.getElem_cons_zero, List.getElem_cons_succ, List.setIfInBounds_toArray, List.set_cons_zero, List.set_cons_succ]
  refine wpAnyH_take (i := 4) rfl (by kernel_rfl) (by kernel_rfl) (by kernel_rfl) (fun _ _ _ h => h) (.inl ⟨rfl, fun _ _ => rfl⟩) (by assumption) ?_
  simp only [Act.put, List.getElem_toArray, List.getElem_cons_zero, List.getElem_cons_succ, List.setIfInBounds_toArray, List.set_cons_zero, List.set_cons_succ]
  refine wpAnyH_done (by kernel_rfl) ?_ _
  clear hHeld hs10 hw10 hs11 hw11
  go_wp2_with (first
    | (refine wpList_load_rep rfl 24 (.tmp 2) rfl (w.heap.size) 0 rfl cs0 _ Tryz.underlying24 HI0.out (OB.cells0 (Fp0_11.out)) ?_)
    | (refine wpList_load_rep rfl 26 (.tmp 3) rfl (w.heap.size + 1) 0 rfl cs1 _ Tryz.underlying26 HI1.out (OB.cells0 (Fp1_11.out)) ?_)
    | (refine wpList_load_rep rfl 31 (.tmp 7) rfl (w5.heap.size) 0 rfl t5 _ Tryz.underlying31 HJ5.out (OB.cells0 (Fb6_11.out)) ?_))
  obtain ⟨mk_t5_1, Hmk_t5_1⟩ : ∃ q, Hid (1 + Tr.topN (x0).tr = q) := ⟨_, rfl⟩
  refine (markProgram_all x0 _ _ 1 (Between w4 w5) _ (by rfl) (Ft5_11.out) (fun b hb => by have h1 := hb.1; have h2 := hb.2; omega) (by have := GProgram.top_le x0; omega)).mono ?_
  rintro e w12 ⟨he, hm12, hc12⟩
  rw [Hmk_t5_1.out] at he
  subst he
  have Fp0_12 := Lib.hid (obchg (Fp0_11.out) hc12 (fun h => by have h1 := h.1; have h2 := h.2; omega))
  have Fp1_12 := Lib.hid (obchg (Fp1_11.out) hc12 (fun h => by have h1 := h.1; have h2 := h.2; omega))
  have Ft4_12 := Lib.hid (Chg.ext Ft4_11.out hc12 (fun b hb => by have h1 := hb.1; omega))
  have Fb6_12 := Lib.hid (obchg (Fb6_11.out) hc12 (fun h => by have h1 := h.1; have h2 := h.2; omega))
  have Ft8_12 := Lib.hid ((Ft8_11.out).keep fun b hb hl => hc12.block b hl (fun hs => by have h1 := hb.1; have h2 := hb.2; have h3 := hs.1; have h4 := hs.2; omega))
  have X12 := Lib.hid (Chg.ext X11.out hc12 (fun b hb => by have h1 := hb.1; omega))
  have z12 : w11.heap.size ≤ w12.heap.size := hc12.size
  have Ft5_12 := Lib.hid hm12
  clear hc12 hm12
  have hng12 : ¬ ((mk_t5_1 : Nat) : Int) < 0 := by omega
  go_wp2_with (first
    | (refine wpList_load_rep_g (by rfl) 24 (.tmp 2) rfl (w.heap.size) 0 rfl cs0 _ Tryz.underlying24 HI0.out (OB.cells0 (Fp0_12.out)) ?_)
    | (refine wpList_load_rep_g (by rfl) 26 (.tmp 3) rfl (w.heap.size + 1) 0 rfl cs1 _ Tryz.underlying26 HI1.out (OB.cells0 (Fp1_12.out)) ?_)
    | (refine wpList_load_rep_g (by rfl) 31 (.tmp 7) rfl (w5.heap.size) 0 rfl t5 _ Tryz.underlying31 HJ5.out (OB.cells0 (Fb6_12.out)) ?_)
    | (refine wpList_load_rep rfl 24 (.tmp 2) rfl (w.heap.size) 0 rfl cs0 _ Tryz.underlying24 HI0.out (OB.cells0 (Fp0_12.out)) ?_)
    | (refine wpList_load_rep rfl 26 (.tmp 3) rfl (w.heap.size + 1) 0 rfl cs1 _ Tryz.underlying26 HI1.out (OB.cells0 (Fp1_12.out)) ?_)
    | (refine wpList_load_rep rfl 31 (.tmp 7) rfl (w5.heap.size) 0 rfl t5 _ Tryz.underlying31 HJ5.out (OB.cells0 (Fb6_12.out)) ?_))
  refine (eqInstanceRefS_all (x0.relOf x1 (fun x y => matchB x y)) _ _ _ (Ft8_12.out).rep (HO4.out.ext Ft4_12.out)).mono ?_
  rintro e w13 ⟨rfl, hw13⟩
  have Fp0_13 := Lib.hid ((Fp0_12.out).ext hw13)
  have Fp1_13 := Lib.hid ((Fp1_12.out).ext hw13)
  have Ft4_13 := Lib.hid (Ext.trans Ft4_12.out hw13)
  have Ft5_13 := Lib.hid ((Ft5_12.out).ext hw13)
  have Fb6_13 := Lib.hid ((Fb6_12.out).ext hw13)
  have Ft8_13 := Lib.hid ((Ft8_12.out).ext hw13)
  have X13 := Lib.hid (Ext.trans X12.out hw13)
  have z13 : w12.heap.size ≤ w13.heap.size := hw13.size
  clear hw13
  go_wp2_with (first
    | (refine wpList_load_rep rfl 24 (.tmp 2) rfl (w.heap.size) 0 rfl cs0 _ Tryz.underlying24 HI0.out (OB.cells0 (Fp0_13.out)) ?_)
    | (refine wpList_load_rep rfl 26 (.tmp 3) rfl (w.heap.size + 1) 0 rfl cs1 _ Tryz.underlying26 HI1.out (OB.cells0 (Fp1_13.out)) ?_)
    | (refine wpList_load_rep rfl 31 (.tmp 7) rfl (w5.heap.size) 0 rfl t5 _ Tryz.underlying31 HJ5.out (OB.cells0 (Fb6_13.out)) ?_))
  obtain ⟨mk_t8_1, Hmk_t8_1⟩ : ∃ q, Hid (1 + Tr.cntE (GInstanceRef.trs (x0.relOf x1 (fun x y => matchB x y))) = q) := ⟨_, rfl⟩
  refine (markInstanceRefS_all (x0.relOf x1 (fun x y => matchB x y)) _ _ 1 (Between w7 w8) _ (by rfl) (Ft8_13.out) (fun b hb => by have h1 := hb.1; have h2 := hb.2; omega) (by rw [refCnt]; have h1 := x0.relOf_len x1 (fun x y => matchB x y); have h2 := x0.allRefs_bulk; omega)).mono ?_
  rintro e w14 ⟨he, hm14, hc14⟩
  rw [Hmk_t8_1.out] at he
  subst he
  have Fp0_14 := Lib.hid (obchg (Fp0_13.out) hc14 (fun h => by have h1 := h.1; have h2 := h.2; omega))
  have Fp1_14 := Lib.hid (obchg (Fp1_13.out) hc14 (fun h => by have h1 := h.1; have h2 := h.2; omega))
  have Ft4_14 := Lib.hid (Chg.ext Ft4_13.out hc14 (fun b hb => by have h1 := hb.1; omega))
  have Ft5_14 := Lib.hid ((Ft5_13.out).keep fun b hb hl => hc14.block b hl (fun hs => by have h1 := hb.1; have h2 := hb.2; have h3 := hs.1; have h4 := hs.2; omega))
  have Fb6_14 := Lib.hid (obchg (Fb6_13.out) hc14 (fun h => by have h1 := h.1; have h2 := h.2; omega))
  have X14 := Lib.hid (Chg.ext X13.out hc14 (fun b hb => by have h1 := hb.1; omega))
  have z14 : w13.heap.size ≤ w14.heap.size := hc14.size
  have Ft8_14 := Lib.hid hm14
  clear hc14 hm14
  have hng14 : ¬ ((mk_t8_1 : Nat) : Int) < 0 := by omega
  go_wp2_with (first
    | (refine wpList_load_rep rfl 24 (.tmp 2) rfl (w.heap.size) 0 rfl cs0 _ Tryz.underlying24 HI0.out (OB.cells0 (Fp0_14.out)) ?_)
    | (refine wpList_load_rep rfl 26 (.tmp 3) rfl (w.heap.size + 1) 0 rfl cs1 _ Tryz.underlying26 HI1.out (OB.cells0 (Fp1_14.out)) ?_)
    | (refine wpList_load_rep rfl 31 (.tmp 7) rfl (w5.heap.size) 0 rfl t5 _ Tryz.underlying31 HJ5.out (OB.cells0 (Fb6_14.out)) ?_))
  refine (heldInstanceRefS_all (x0.relOf x1 (fun x y => matchB x y)) _ _ 1 _ (by rfl) (Ft8_14.out).rep (by rw [refCnt]; have h1 := x0.relOf_len x1 (fun x y => matchB x y); have h2 := x0.allRefs_bulk; omega)).mono ?_
  rintro e w15 ⟨he, hw15⟩
  rw [Hmk_t8_1.out] at he
  subst he
  have Fp0_15 := Lib.hid ((Fp0_14.out).ext hw15)
  have Fp1_15 := Lib.hid ((Fp1_14.out).ext hw15)
  have Ft4_15 := Lib.hid (Ext.trans Ft4_14.out hw15)
  have Ft5_15 := Lib.hid ((Ft5_14.out).ext hw15)
  have Fb6_15 := Lib.hid ((Fb6_14.out).ext hw15)
  have Ft8_15 := Lib.hid ((Ft8_14.out).ext hw15)
  have X15 := Lib.hid (Ext.trans X14.out hw15)
  have z15 : w14.heap.size ≤ w15.heap.size := hw15.size
  clear hw15
  go_wp2_with (first
    | (refine wpList_load_rep rfl 24 (.tmp 2) rfl (w.heap.size) 0 rfl cs0 _ Tryz.underlying24 HI0.out (OB.cells0 (Fp0_15.out)) ?_)
    | (refine wpList_load_rep rfl 26 (.tmp 3) rfl (w.heap.size + 1) 0 rfl cs1 _ Tryz.underlying26 HI1.out (OB.cells0 (Fp1_15.out)) ?_)
    | (refine wpList_load_rep rfl 31 (.tmp 7) rfl (w5.heap.size) 0 rfl t5 _ Tryz.underlying31 HJ5.out (OB.cells0 (Fb6_15.out)) ?_))
  refine wp_region_held_drew (S := Ext w15) (by kernel_rfl) (.drew (.refl _)) (fun hHeld => ?_)
  refine wpAnyH_load_rep (i := 0) rfl (by kernel_rfl) (by kernel_rfl) (by kernel_rfl) (fun _ _ _ h => h) rfl 24 (.tmp 2) rfl (w.heap.size) 0 rfl cs0 _ Tryz.underlying24 HI0.out (fun w hS => OB.cells0 ((Fp0_15.out).ext hS)) (by assumption) (fun _ _ _ _ h => h) ?_
  simp only [Act.put, List.getElem_toArray, List.getElem_cons_zero, List.setIfInBounds_toArray, List.set_cons_zero, List.set_cons_succ]
  refine wpAnyH_load_rep (i := 2) rfl (by kernel_rfl) (by kernel_rfl) (by kernel_rfl) (fun _ _ _ h => h) rfl 26 (.tmp 3) rfl (w.heap.size + 1) 0 rfl cs1 _ Tryz.underlying26 HI1.out (fun w hS => OB.cells0 ((Fp1_15.out).ext hS)) (by assumption) (fun _ _ _ _ h => h) ?_
  simp only [Act.put, List.getElem_toArray, List.getElem_cons_zero, List.getElem_cons_succ, List.setIfInBounds_toArray, List.set_cons_zero, List.set_cons_succ]
  refine wpAnyH_call (i := 1) (by kernel_rfl) rfl rfl (run_call_func rfl rfl #[.agg ⟨cs0⟩] (by simp only [List.map_toArray, List.map_cons, List.map_nil, Act.eval]; rfl) Tryz.func17 (by kernel_rfl) (by kernel_rfl) _) (toProgram_all x0 _ _ (HR0.out.ext (Ext.trans X15.out (.drew (.refl _)))) (by omega)) ?_
  rintro e w16 ⟨t16, rfl, hw16, ho16⟩
  have HO16 := Lib.hid ho16
  have HT16 : Hid (t16.length = 1) := (by rw [ho16.1]; exact GProgram.tr_len _)
  have HJ16 : Hid ((Tryz.prog.info? 31).map (·.size) = some t16.length) := (by rw [HT16.out]; exact isz31)
  clear ho16
  have hs16 := Ext.trans hHeld hw16
  refine ⟨_, rfl, hs16, ?_⟩
  have Fp0_16 := Lib.hid (((Fp0_15.out).ext (Ext.drew (.refl w15))).ext hw16)
  have Fp1_16 := Lib.hid (((Fp1_15.out).ext (Ext.drew (.refl w15))).ext hw16)
  have Ft4_16 := Lib.hid (Ext.trans (Ext.trans Ft4_15.out (Ext.drew (.refl w15))) hw16)
  have Ft5_16 := Lib.hid (((Ft5_15.out).ext (Ext.drew (.refl w15))).ext hw16)
  have Fb6_16 := Lib.hid (((Fb6_15.out).ext (Ext.drew (.refl w15))).ext hw16)
  have Ft8_16 := Lib.hid (((Ft8_15.out).ext (Ext.drew (.refl w15))).ext hw16)
  have X16 := Lib.hid (Ext.trans (Ext.trans X15.out (.drew (.refl _))) hw16)
  have z16 : w15.heap.size ≤ w16.heap.size := hw16.size
  simp only [Act.put, List.getElem_toArray, List.getElem_cons_zero, List.getElem_cons_succ, List.setIfInBounds_toArray, List.set_cons_zero, List.set_cons_succ]
  refine wpAnyH_call (i := 3) (by kernel_rfl) rfl rfl (run_call_func rfl rfl #[.agg ⟨cs1⟩] (by simp only [List.map_toArray, List.map_cons, List.map_nil, Act.eval]; rfl) Tryz.func18 (by kernel_rfl) (by kernel_rfl) _) (toInstanceRef_all x1 _ _ (HR1.out.ext X16.out) (by have hz0 : Tr.bulkL (GInstanceRef.tr x1) = 0 := (by cases x1; rfl); omega)) ?_
  rintro e w17 ⟨t17, rfl, hw17, ho17⟩
  have HO17 := Lib.hid ho17
  have HT17 : Hid (t17.length = 2) := (by rw [ho17.1]; exact GInstanceRef.tr_len _)
  have HJ17 : Hid ((Tryz.prog.info? 33).map (·.size) = some t17.length) := (by rw [HT17.out]; exact isz33)
  clear ho17
  have hs17 := Ext.trans hs16 hw17
  refine ⟨_, rfl, hs17, ?_⟩
  have Fp0_17 := Lib.hid ((Fp0_16.out).ext hw17)
  have Fp1_17 := Lib.hid ((Fp1_16.out).ext hw17)
  have Ft4_17 := Lib.hid (Ext.trans Ft4_16.out hw17)
  have Ft5_17 := Lib.hid ((Ft5_16.out).ext hw17)
  have Fb6_17 := Lib.hid ((Fb6_16.out).ext hw17)
  have Ft8_17 := Lib.hid ((Ft8_16.out).ext hw17)
  have Ft16_17 := Lib.hid ((HO16.out).ext hw17)
  have X17 := Lib.hid (Ext.trans X16.out hw17)
  have z17 : w16.heap.size ≤ w17.heap.size := hw17.size
  simp only [Act.put, List.getElem_toArray, List.getElem_cons_zero, List.getElem_cons_succ, List.setIfInBounds_toArray, List.set_cons_zero, List.set_cons_succ]
  refine wpAnyH_call (i := 4) (by kernel_rfl) rfl rfl (run_call_func rfl rfl #[.agg ⟨t16⟩, .agg ⟨t17⟩] (by simp only [List.map_toArray, List.map_cons, List.map_nil, Act.eval]; rfl) Tryz.func65 (by kernel_rfl) (by kernel_rfl) _) (relMoreSpecificInstancesP_impl x0 x1 _ _ _ ((Ft16_17.out).rep) ((HO17.out).rep) (by omega)) ?_
  rintro e w18 ⟨tv18, rfl, hw18, ho18⟩
  have HO18 := Lib.hid ho18
  obtain ⟨ta18, tc18, hv18, -, -⟩ := HO18.out.rep.shape
  rw [GInstanceRef.trs_len] at hv18
  subst hv18
  clear ho18
  have hs18 := Ext.trans hs17 hw18
  refine ⟨_, rfl, hs18, ?_⟩
  have Fp0_18 := Lib.hid ((Fp0_17.out).ext hw18)
  have Fp1_18 := Lib.hid ((Fp1_17.out).ext hw18)
  have Ft4_18 := Lib.hid (Ext.trans Ft4_17.out hw18)
  have Ft5_18 := Lib.hid ((Ft5_17.out).ext hw18)
  have Fb6_18 := Lib.hid ((Fb6_17.out).ext hw18)
  have Ft8_18 := Lib.hid ((Ft8_17.out).ext hw18)
  have Ft16_18 := Lib.hid ((Ft16_17.out).ext hw18)
  have Ft17_18 := Lib.hid ((HO17.out).ext hw18)
  have X18 := Lib.hid (Ext.trans X17.out hw18)
  have z18 : w17.heap.size ≤ w18.heap.size := hw18.size
  simp only [Act.put, List.getElem_toArray, List.getElem_cons_zero, List.getElem_cons_succ, List.setIfInBounds_toArray, List.set_cons_zero, List.set_cons_succ]
  refine wpAnyH_take (i := 5) rfl (by kernel_rfl) (by kernel_rfl) (by kernel_rfl) (fun _ _ _ h => h) (.inl ⟨rfl, fun _ _ => rfl⟩) (by assumption) ?_
  simp only [Act.put, List.getElem_toArray, List.getElem_cons_zero, List.getElem_cons_succ, List.setIfInBounds_toArray, List.set_cons_zero, List.set_cons_succ]
  refine wpAnyH_done (by kernel_rfl) ?_ _
  clear hHeld hs16 hw16 hs17 hw17 hs18 hw18
  go_wp2_with (first
    | (refine wpList_load_rep rfl 24 (.tmp 2) rfl (w.heap.size) 0 rfl cs0 _ Tryz.underlying24 HI0.out (OB.cells0 (Fp0_18.out)) ?_)
    | (refine wpList_load_rep rfl 26 (.tmp 3) rfl (w.heap.size + 1) 0 rfl cs1 _ Tryz.underlying26 HI1.out (OB.cells0 (Fp1_18.out)) ?_)
    | (refine wpList_load_rep rfl 31 (.tmp 7) rfl (w5.heap.size) 0 rfl t5 _ Tryz.underlying31 HJ5.out (OB.cells0 (Fb6_18.out)) ?_))
  refine (eqInstanceRefS_all (x0.relOf x1 (fun x y => matchB x y)) _ _ _ (HO18.out).rep (HO4.out.ext Ft4_18.out)).mono ?_
  rintro e w19 ⟨rfl, hw19⟩
  have Fp0_19 := Lib.hid ((Fp0_18.out).ext hw19)
  have Fp1_19 := Lib.hid ((Fp1_18.out).ext hw19)
  have Ft4_19 := Lib.hid (Ext.trans Ft4_18.out hw19)
  have Ft5_19 := Lib.hid ((Ft5_18.out).ext hw19)
  have Fb6_19 := Lib.hid ((Fb6_18.out).ext hw19)
  have Ft8_19 := Lib.hid ((Ft8_18.out).ext hw19)
  have Ft18_19 := Lib.hid ((HO18.out).ext hw19)
  have X19 := Lib.hid (Ext.trans X18.out hw19)
  have z19 : w18.heap.size ≤ w19.heap.size := hw19.size
  clear hw19
  go_wp2_with (first
    | (refine wpList_load_rep rfl 24 (.tmp 2) rfl (w.heap.size) 0 rfl cs0 _ Tryz.underlying24 HI0.out (OB.cells0 (Fp0_19.out)) ?_)
    | (refine wpList_load_rep rfl 26 (.tmp 3) rfl (w.heap.size + 1) 0 rfl cs1 _ Tryz.underlying26 HI1.out (OB.cells0 (Fp1_19.out)) ?_)
    | (refine wpList_load_rep rfl 31 (.tmp 7) rfl (w5.heap.size) 0 rfl t5 _ Tryz.underlying31 HJ5.out (OB.cells0 (Fb6_19.out)) ?_))
  refine (heldInstanceRefS_all (x0.relOf x1 (fun x y => matchB x y)) _ _ 1 _ (by rfl) (Ft8_19.out).rep (by rw [refCnt]; have h1 := x0.relOf_len x1 (fun x y => matchB x y); have h2 := x0.allRefs_bulk; omega)).mono ?_
  rintro e w20 ⟨he, hw20⟩
  rw [Hmk_t8_1.out] at he
  subst he
  have Fp0_20 := Lib.hid ((Fp0_19.out).ext hw20)
  have Fp1_20 := Lib.hid ((Fp1_19.out).ext hw20)
  have Ft4_20 := Lib.hid (Ext.trans Ft4_19.out hw20)
  have Ft5_20 := Lib.hid ((Ft5_19.out).ext hw20)
  have Fb6_20 := Lib.hid ((Fb6_19.out).ext hw20)
  have Ft8_20 := Lib.hid ((Ft8_19.out).ext hw20)
  have Ft18_20 := Lib.hid ((Ft18_19.out).ext hw20)
  have X20 := Lib.hid (Ext.trans X19.out hw20)
  have z20 : w19.heap.size ≤ w20.heap.size := hw20.size
  clear hw20
  go_wp2_with (first
    | (refine wpList_load_rep rfl 24 (.tmp 2) rfl (w.heap.size) 0 rfl cs0 _ Tryz.underlying24 HI0.out (OB.cells0 (Fp0_20.out)) ?_)
    | (refine wpList_load_rep rfl 26 (.tmp 3) rfl (w.heap.size + 1) 0 rfl cs1 _ Tryz.underlying26 HI1.out (OB.cells0 (Fp1_20.out)) ?_)
    | (refine wpList_load_rep rfl 31 (.tmp 7) rfl (w5.heap.size) 0 rfl t5 _ Tryz.underlying31 HJ5.out (OB.cells0 (Fb6_20.out)) ?_))
  go_ret
  exact ⟨rfl, X20.out⟩

set_option linter.unusedVariables false
theorem own : ownKnob Tryz.prog.godebug = none := by kernel_rfl
theorem laidOut : laidOutB Tryz.prog = true := by kernel_rfl

set_option maxRecDepth 100000 in
theorem lifted (os : Os) (started : os.Started) (H : Type) (enc : TypeId × Value → H) :
    ReturnsInHanded {} Tryz.checked os 12 .any (Rows.fnExactMoreSpecificInstancesSpec.pre6 enc Tryz.prog Tryz.f12 Rows.fnExactMoreSpecificInstancesRow.domain false) (Rows.fnExactMoreSpecificInstancesSpec.post enc Tryz.prog Tryz.f12 false true false false) := by
  refine returnsInHanded_of_change (C := Tryz.checked) own started (by kernel_rfl) Tryz.func12
    (ChangeSpec.witness6 (enc := enc) (C := Tryz.checked) false ⟨#[], #[.agg #[.slice none 0 0], .agg #[.int .i64 0, .int .i64 0]], []⟩ 8 (by kernel_rfl) (by kernel_rfl) (by kernel_rfl) (by kernel_rfl)) ?_
  intro W base args ds gs before hval0 hW hcnd _
  have hval : ∀ (j : Nat) t v, Tryz.f12.params[j]? = some t → args[j]? = some v → Value.okWide Tryz.prog W .any base t v := hval0
  have hW' := hW
  obtain ⟨p, q, hA0, hV, rfl, hfz, hnd⟩ := hW
  have hA : DataW.TrodAll enc Tryz.prog W 0 (fun _ => true) true Tryz.f12.params.toList args.toList ds p := hA0
  rw [Tryz.params12] at hA hval
  obtain ⟨v0, vs0, d0, ds0, p0, q0, hargs, rfl, rfl, h0, r0⟩ := trodAll_cons hA
  obtain ⟨v1, vs1, d1, ds1, p1, q1, rfl, rfl, rfl, h1, r1⟩ := trodAll_cons r0
  obtain ⟨rfl, rfl, rfl⟩ := trodAll_nil r1
  obtain rfl : args = #[v0, v1] := by cases args; simp_all
  obtain ⟨rfl, rfl⟩ := trodVars_none hV
  have k0 := h0
  have lt0 : ∀ x ∈ p0, x.block < W.heap.size := by obtain ⟨m, hm⟩ := k0; exact DataW.trod_lt m _ _ _ hm
  obtain ⟨c0, rfl, -⟩ := okWide_struct Tryz.underlying24 (hval 0 24 v0 rfl rfl)
  obtain ⟨fu0, hf0⟩ := h0
  obtain ⟨ts0, ty0, rp0, -⟩ := tyOf_of_trod plainClosed fu0 24 c0.toList _ (by decide) hf0
  obtain ⟨x0, rfl⟩ := tyof_Program ty0
  have k1 := h1
  have lt1 : ∀ x ∈ p1, x.block < W.heap.size := by obtain ⟨m, hm⟩ := k1; exact DataW.trod_lt m _ _ _ hm
  obtain ⟨c1, rfl, -⟩ := okWide_struct Tryz.underlying26 (hval 1 26 v1 rfl rfl)
  obtain ⟨fu1, hf1⟩ := h1
  obtain ⟨ts1, ty1, rp1, -⟩ := tyOf_of_trod plainClosed fu1 26 c1.toList _ (by decide) hf1
  obtain ⟨x1, rfl⟩ := tyof_InstanceRef ty1
  clear hA0 hval0
  refine (law_FnExactMoreSpecificInstances W x0 c0.toList rp0 x1 c1.toList rp1).mono fun e W' ⟨he, bel⟩ => ?_
  subst he
  exact ⟨_, rfl, _, _, _, [], _, [], hW', trodAll_mk1 (shut_bool Tryz.underlying4 _), (trodAll_cons_mk (Below.trod laidOut (by kernel_rfl) (of_decide_eq_true (by kernel_rfl)) k0 bel lt0) (trodAll_cons_mk (Below.trod laidOut (by kernel_rfl) (of_decide_eq_true (by kernel_rfl)) k1 bel lt1) trodAll_mk0)), rfl, bel.frame _, fun h => by cases h⟩

theorem over : Rows.fnExactMoreSpecificInstancesRow.holds Tryz.pinned (OpenSpec.ofChange Rows.fnExactMoreSpecificInstancesSpec) :=
  OpenClaim.holds_of_wide 12 Tryz.f12 rfl rfl rfl rfl rfl rfl rfl ⟨rfl, rfl, rfl, rfl, rfl⟩ rfl rfl rfl rfl rfl fnNamed Tryz.func12 factsJoin (of_decide_eq_true (by kernel_rfl)) wrapper
    (fun os started H enc _ => lifted os started H enc)

theorem proved : Rows.FnExactMoreSpecificInstancesSaid := over
#print axioms proved

end Go.Proofs.YtnakkelglbcecaaGreat.fnExactMoreSpecificInstancesDone
