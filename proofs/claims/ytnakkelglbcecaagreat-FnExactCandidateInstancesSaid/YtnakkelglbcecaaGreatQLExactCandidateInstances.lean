/- FnExactCandidateInstances returns true for every input, and leaves what was there as it was. No conditions. -/
import Derived.Test.YtnakkelglbcecaaGreatRows
import Derived.Test.YtnakkelglbcecaaGreatQhda914828
import Derived.Test.YtnakkelglbcecaaGreatQh29a0584e
import Derived.Test.YtnakkelglbcecaaGreatQh00f6734b
import Derived.Test.YtnakkelglbcecaaGreatQha2c572e6
import Derived.ProofKit
import Derived.OpenShut
import Derived.ShutString
import Derived.ChangeOld
import Derived.Test.YtnakkelglbcecaaGreatQJExactCandidateInstances
import Derived.Test.YtnakkelglbcecaaGreatQhe9db8441
import Derived.Test.YtnakkelglbcecaaGreatQh2378fee1
set_option linter.unusedSimpArgs false
set_option linter.unusedVariables false
namespace Go.Proofs.YtnakkelglbcecaaGreat.fnExactCandidateInstancesDone
open Go.Proofs Go.Proofs.YtnakkelglbcecaaGreat Go.ChangeShapes Go.WideShapes Go.ChangeAt Go.RowKit
open Go.ChangeMaps (open_string shut_string)

theorem obchg {S : Nat → Prop} {w w' : World} {g : Nat} {t : TypeId} {cs : Array Value} (h : OB w g t cs) (hc : Chg S w w') (hn : ¬ S g) : OB w' g t cs := (hc.block g h.lt hn).trans h
set_option maxRecDepth 100000 in
set_option maxHeartbeats 8000000 in
theorem law_FnExactCandidateInstances (w : World) (x0 : GProgram) (cs0 : List Value) (hr0 : RepL w x0.tr cs0) (x1 : GBound) (cs1 : List Value) (hr1 : RepL w x1.tr cs1) :
    Calls Tryz.prog 10 #[.agg ⟨cs0⟩, .agg ⟨cs1⟩] w fun e w' => e = .returned (.bool true) ∧ Below w.heap.size w w' := by
  have HL0 : Hid (cs0.length = 1) := by rw [← hr0.length, GProgram.tr_len]; rfl
  have HI0 : Hid ((Tryz.prog.info? 24).map (·.size) = some cs0.length) := by rw [HL0.out]; exact isz24
  have HR0 := Lib.hid hr0
  clear hr0
  have HL1 : Hid (cs1.length = 4) := by rw [← hr1.length, GBound.tr_len]; rfl
  have HI1 : Hid ((Tryz.prog.info? 41).map (·.size) = some cs1.length) := by rw [HL1.out]; exact isz41
  have HR1 := Lib.hid hr1
  clear hr1
  go_enter Tryz.func10, Tryz.ntmps10
  go_wp2_with (first
    | (refine wpList_load_rep rfl 24 (.tmp 2) rfl (w.heap.size) 0 rfl cs0 _ Tryz.underlying24 HI0.out (OB.cells0 ((Two.new w _ _ _ _).o0)) ?_)
    | (refine wpList_load_rep rfl 41 (.tmp 3) rfl (w.heap.size + 1) 0 rfl cs1 _ Tryz.underlying41 HI1.out (OB.cells0 ((Two.new w _ _ _ _).o1)) ?_))
  refine (szProgram_all x0 _ _ _ (HR0.out.ext (Ext.alloc (Ext.alloc (Ext.refl _) _) _)) (by omega) (by omega)).mono ?_
  rintro e w1 ⟨r1, rfl, hw1, ra1, rb1, rc1⟩
  have RC1 := Lib.hid rc1
  clear rc1
  have Fp0_1 := Lib.hid (((Two.new w _ _ _ _).o0).ext hw1)
  have Fp1_1 := Lib.hid (((Two.new w _ _ _ _).o1).ext hw1)
  have X1 := Lib.hid (Ext.trans (Ext.alloc (Ext.alloc (Ext.refl _) _) _) hw1)
  have z1 : w.heap.size + 2 ≤ w1.heap.size := (by have h1 := hw1.size; simp only [World.size_alloc] at h1; omega)
  clear hw1
  go_wp2_with (first
    | (refine wpList_load_rep rfl 24 (.tmp 2) rfl (w.heap.size) 0 rfl cs0 _ Tryz.underlying24 HI0.out (OB.cells0 (Fp0_1.out)) ?_)
    | (refine wpList_load_rep rfl 41 (.tmp 3) rfl (w.heap.size + 1) 0 rfl cs1 _ Tryz.underlying41 HI1.out (OB.cells0 (Fp1_1.out)) ?_))
  · go_ret
    exact ⟨rfl, X1.out⟩
  refine (szBound_all x1 _ _ _ (HR1.out.ext X1.out) (by omega) (by omega)).mono ?_
  rintro e w2 ⟨r2, rfl, hw2, ra2, rb2, rc2⟩
  have RC2 := Lib.hid rc2
  clear rc2
  have Fp0_2 := Lib.hid ((Fp0_1.out).ext hw2)
  have Fp1_2 := Lib.hid ((Fp1_1.out).ext hw2)
  have X2 := Lib.hid (Ext.trans X1.out hw2)
  have z2 : w1.heap.size ≤ w2.heap.size := hw2.size
  clear hw2
  go_wp2_with (first
    | (refine wpList_load_rep rfl 24 (.tmp 2) rfl (w.heap.size) 0 rfl cs0 _ Tryz.underlying24 HI0.out (OB.cells0 (Fp0_2.out)) ?_)
    | (refine wpList_load_rep rfl 41 (.tmp 3) rfl (w.heap.size + 1) 0 rfl cs1 _ Tryz.underlying41 HI1.out (OB.cells0 (Fp1_2.out)) ?_))
  · go_ret
    exact ⟨rfl, X2.out⟩
  have hb0 := RC1.out (by omega)
  have hb1 := RC2.out (by omega)
  refine wp_region_held_drew (S := Ext w2) (by kernel_rfl) (.drew (.refl _)) (fun hHeld => ?_)
  refine wpAnyH_load_rep (i := 0) rfl (by kernel_rfl) (by kernel_rfl) (by kernel_rfl) (fun _ _ _ h => h) rfl 24 (.tmp 2) rfl (w.heap.size) 0 rfl cs0 _ Tryz.underlying24 HI0.out (fun w hS => OB.cells0 ((Fp0_2.out).ext hS)) (by assumption) (fun _ _ _ _ h => h) ?_
  simp only [Act.put, List.getElem_toArray, List.getElem_cons_zero, List.setIfInBounds_toArray, List.set_cons_zero, List.set_cons_succ]
  refine wpAnyH_load_rep (i := 2) rfl (by kernel_rfl) (by kernel_rfl) (by kernel_rfl) (fun _ _ _ h => h) rfl 41 (.tmp 3) rfl (w.heap.size + 1) 0 rfl cs1 _ Tryz.underlying41 HI1.out (fun w hS => OB.cells0 ((Fp1_2.out).ext hS)) (by assumption) (fun _ _ _ _ h => h) ?_
  simp only [Act.put, List.getElem_toArray, List.getElem_cons_zero, List.getElem_cons_succ, List.setIfInBounds_toArray, List.set_cons_zero, List.set_cons_succ]
  refine wpAnyH_call (i := 1) (by kernel_rfl) rfl rfl (run_call_func rfl rfl #[.agg ⟨cs0⟩] (by simp only [List.map_toArray, List.map_cons, List.map_nil, Act.eval]; rfl) Tryz.func17 (by kernel_rfl) (by kernel_rfl) _) (toProgram_all x0 _ _ (HR0.out.ext (Ext.trans X2.out (.drew (.refl _)))) (by omega)) ?_
  rintro e w3 ⟨t3, rfl, hw3, ho3⟩
  have HO3 := Lib.hid ho3
  have HT3 : Hid (t3.length = 1) := (by rw [ho3.1]; exact GProgram.tr_len _)
  have HJ3 : Hid ((Tryz.prog.info? 31).map (·.size) = some t3.length) := (by rw [HT3.out]; exact isz31)
  clear ho3
  have hs3 := Ext.trans hHeld hw3
  refine ⟨_, rfl, hs3, ?_⟩
  have Fp0_3 := Lib.hid (((Fp0_2.out).ext (Ext.drew (.refl w2))).ext hw3)
  have Fp1_3 := Lib.hid (((Fp1_2.out).ext (Ext.drew (.refl w2))).ext hw3)
  have X3 := Lib.hid (Ext.trans (Ext.trans X2.out (.drew (.refl _))) hw3)
  have z3 : w2.heap.size ≤ w3.heap.size := hw3.size
  simp only [Act.put, List.getElem_toArray, List.getElem_cons_zero, List.getElem_cons_succ, List.setIfInBounds_toArray, List.set_cons_zero, List.set_cons_succ]
  refine wpAnyH_call (i := 3) (by kernel_rfl) rfl rfl (run_call_func rfl rfl #[.agg ⟨cs1⟩] (by simp only [List.map_toArray, List.map_cons, List.map_nil, Act.eval]; rfl) Tryz.func23 (by kernel_rfl) (by kernel_rfl) _) (toBound_all x1 _ _ (HR1.out.ext X3.out) (by omega)) ?_
  rintro e w4 ⟨t4, rfl, hw4, ho4⟩
  have HO4 := Lib.hid ho4
  have HT4 : Hid (t4.length = 4) := (by rw [ho4.1]; exact GBound.tr_len _)
  have HJ4 : Hid ((Tryz.prog.info? 49).map (·.size) = some t4.length) := (by rw [HT4.out]; exact isz49)
  clear ho4
  have hs4 := Ext.trans hs3 hw4
  refine ⟨_, rfl, hs4, ?_⟩
  have Fp0_4 := Lib.hid ((Fp0_3.out).ext hw4)
  have Fp1_4 := Lib.hid ((Fp1_3.out).ext hw4)
  have Ft3_4 := Lib.hid ((HO3.out).ext hw4)
  have X4 := Lib.hid (Ext.trans X3.out hw4)
  have z4 : w3.heap.size ≤ w4.heap.size := hw4.size
  simp only [Act.put, List.getElem_toArray, List.getElem_cons_zero, List.getElem_cons_succ, List.setIfInBounds_toArray, List.set_cons_zero, List.set_cons_succ]
  refine wpAnyH_call (i := 4) (by kernel_rfl) rfl rfl (run_call_func rfl rfl #[.agg ⟨t3⟩, .agg ⟨t4⟩] (by simp only [List.map_toArray, List.map_cons, List.map_nil, Act.eval]; rfl) Tryz.func59 (by kernel_rfl) (by kernel_rfl) _) (candsP_spec x0 x1 _ _ _ ((Ft3_4.out).rep) ((HO4.out).rep) (by have := x0.allRefs_bulk; omega) (fun o => by have := x0.inst_head_bulk o; omega) (by have := x1.ty_bulk; omega)) ?_
  rintro e w5 ⟨tv5, rfl, hw5, ho5⟩
  have HO5 := Lib.hid ho5
  obtain ⟨ta5, tc5, hv5, -, -⟩ := HO5.out.shape
  rw [GInstanceRef.trs_len] at hv5
  subst hv5
  clear ho5
  have hs5 := Ext.trans hs4 hw5
  refine ⟨_, rfl, hs5, ?_⟩
  have Fp0_5 := Lib.hid ((Fp0_4.out).ext hw5)
  have Fp1_5 := Lib.hid ((Fp1_4.out).ext hw5)
  have Ft3_5 := Lib.hid ((Ft3_4.out).ext hw5)
  have Ft4_5 := Lib.hid ((HO4.out).ext hw5)
  have X5 := Lib.hid (Ext.trans X4.out hw5)
  have z5 : w4.heap.size ≤ w5.heap.size := hw5.size
  simp only [Act.put, List.getElem_toArray, List.getElem_cons_zero, List.getElem_cons_succ, List.setIfInBounds_toArray, List.set_cons_zero, List.set_cons_succ]
  refine wpAnyH_take (i := 5) rfl (by kernel_rfl) (by kernel_rfl) (by kernel_rfl) (fun _ _ _ h => h) (.inl ⟨rfl, fun _ _ => rfl⟩) (by assumption) ?_
  simp only [Act.put, List.getElem_toArray, List.getElem_cons_zero, List.getElem_cons_succ, List.setIfInBounds_toArray, List.set_cons_zero, List.set_cons_succ]
  refine wpAnyH_done (by kernel_rfl) ?_ _
  clear hHeld hs3 hw3 hs4 hw4 hs5 hw5
  go_wp2_with (first
    | (refine wpList_load_rep rfl 24 (.tmp 2) rfl (w.heap.size) 0 rfl cs0 _ Tryz.underlying24 HI0.out (OB.cells0 (Fp0_5.out)) ?_)
    | (refine wpList_load_rep rfl 41 (.tmp 3) rfl (w.heap.size + 1) 0 rfl cs1 _ Tryz.underlying41 HI1.out (OB.cells0 (Fp1_5.out)) ?_))
  refine (toProgram_all x0 _ _ (HR0.out.ext X5.out) (by omega)).mono ?_
  rintro e w6 ⟨t6, rfl, hw6, ho6⟩
  have HO6 := Lib.hid ho6
  have HT6 : Hid (t6.length = 1) := (by rw [ho6.1]; exact GProgram.tr_len _)
  have HJ6 : Hid ((Tryz.prog.info? 31).map (·.size) = some t6.length) := (by rw [HT6.out]; exact isz31)
  clear ho6
  have Fp0_6 := Lib.hid ((Fp0_5.out).ext hw6)
  have Fp1_6 := Lib.hid ((Fp1_5.out).ext hw6)
  have Ft5_6 := Lib.hid (Ext.trans (Ext.refl _) hw6)
  have X6 := Lib.hid (Ext.trans X5.out hw6)
  have z6 : w5.heap.size ≤ w6.heap.size := hw6.size
  clear hw6
  go_wp2_with (first
    | (refine wpList_store_rep rfl 31 (.tmp 7) (.tmp 30) rfl w6.heap.size 0 rfl t6 rfl 31 _ (OB.new w6 _ _) HJ6.out (by rw [HT6.out]; exact Nat.le_refl _) (HO6.out.rep.one) ?_; intro w7 hob hgb hzb; rw [splice_whole (by rw [HT6.out]; rfl)] at hob; have hw7 := grown_ext (.alloc (.refl w6) _) hgb (Nat.le_refl _); have Fp0_7 := Lib.hid ((Fp0_6.out).ext hw7); have Fp1_7 := Lib.hid ((Fp1_6.out).ext hw7); have Ft5_7 := Lib.hid (Ext.trans Ft5_6.out hw7); have Ft6_7 := Lib.hid ((HO6.out).ext hw7); have X7 := Lib.hid (Ext.trans X6.out hw7); have z7 : w6.heap.size ≤ w7.heap.size := hw7.size; have Fb7_7 := Lib.hid hob; have zs7 : w6.heap.size < w7.heap.size := hob.lt; clear hob hgb hzb hw7)
    | (refine wpList_load_rep rfl 24 (.tmp 2) rfl (w.heap.size) 0 rfl cs0 _ Tryz.underlying24 HI0.out (OB.cells0 (Fp0_7.out)) ?_)
    | (refine wpList_load_rep rfl 41 (.tmp 3) rfl (w.heap.size + 1) 0 rfl cs1 _ Tryz.underlying41 HI1.out (OB.cells0 (Fp1_7.out)) ?_)
    | (refine wpList_load_rep rfl 31 (.tmp 7) rfl (w6.heap.size) 0 rfl t6 _ Tryz.underlying31 HJ6.out (OB.cells0 (Fb7_7.out)) ?_))
  refine (toBound_all x1 _ _ (HR1.out.ext X7.out) (by omega)).mono ?_
  rintro e w8 ⟨t8, rfl, hw8, ho8⟩
  have HO8 := Lib.hid ho8
  have HT8 : Hid (t8.length = 4) := (by rw [ho8.1]; exact GBound.tr_len _)
  have HJ8 : Hid ((Tryz.prog.info? 49).map (·.size) = some t8.length) := (by rw [HT8.out]; exact isz49)
  clear ho8
  have Fp0_8 := Lib.hid ((Fp0_7.out).ext hw8)
  have Fp1_8 := Lib.hid ((Fp1_7.out).ext hw8)
  have Ft5_8 := Lib.hid (Ext.trans Ft5_7.out hw8)
  have Ft6_8 := Lib.hid ((Ft6_7.out).ext hw8)
  have Fb7_8 := Lib.hid ((Fb7_7.out).ext hw8)
  have X8 := Lib.hid (Ext.trans X7.out hw8)
  have z8 : w7.heap.size ≤ w8.heap.size := hw8.size
  clear hw8
  go_wp2_with (first
    | (refine wpList_store_rep rfl 49 (.tmp 8) (.tmp 32) rfl w8.heap.size 0 rfl t8 rfl 49 _ (OB.new w8 _ _) HJ8.out (by rw [HT8.out]; exact Nat.le_refl _) (HO8.out.rep.one) ?_; intro w9 hob hgb hzb; rw [splice_whole (by rw [HT8.out]; rfl)] at hob; have hw9 := grown_ext (.alloc (.refl w8) _) hgb (Nat.le_refl _); have Fp0_9 := Lib.hid ((Fp0_8.out).ext hw9); have Fp1_9 := Lib.hid ((Fp1_8.out).ext hw9); have Ft5_9 := Lib.hid (Ext.trans Ft5_8.out hw9); have Ft6_9 := Lib.hid ((Ft6_8.out).ext hw9); have Fb7_9 := Lib.hid ((Fb7_8.out).ext hw9); have Ft8_9 := Lib.hid ((HO8.out).ext hw9); have X9 := Lib.hid (Ext.trans X8.out hw9); have z9 : w8.heap.size ≤ w9.heap.size := hw9.size; have Fb9_9 := Lib.hid hob; have zs9 : w8.heap.size < w9.heap.size := hob.lt; clear hob hgb hzb hw9)
    | (refine wpList_load_rep rfl 24 (.tmp 2) rfl (w.heap.size) 0 rfl cs0 _ Tryz.underlying24 HI0.out (OB.cells0 (Fp0_9.out)) ?_)
    | (refine wpList_load_rep rfl 41 (.tmp 3) rfl (w.heap.size + 1) 0 rfl cs1 _ Tryz.underlying41 HI1.out (OB.cells0 (Fp1_9.out)) ?_)
    | (refine wpList_load_rep rfl 31 (.tmp 7) rfl (w6.heap.size) 0 rfl t6 _ Tryz.underlying31 HJ6.out (OB.cells0 (Fb7_9.out)) ?_)
    | (refine wpList_load_rep rfl 49 (.tmp 8) rfl (w8.heap.size) 0 rfl t8 _ Tryz.underlying49 HJ8.out (OB.cells0 (Fb9_9.out)) ?_))
  refine (candsP_impl x0 x1 _ _ _ ((Ft6_9.out).rep) ((Ft8_9.out).rep) (by have := x0.allRefs_bulk; omega) (fun o => by have := x0.inst_head_bulk o; omega) (by have := x1.ty_bulk; omega)).mono ?_
  rintro e w10 ⟨tv10, rfl, hw10, ho10⟩
  have HO10 := Lib.hid ho10
  obtain ⟨ta10, tc10, hv10, -, -⟩ := HO10.out.rep.shape
  rw [GInstanceRef.trs_len] at hv10
  subst hv10
  clear ho10
  have Fp0_10 := Lib.hid ((Fp0_9.out).ext hw10)
  have Fp1_10 := Lib.hid ((Fp1_9.out).ext hw10)
  have Ft5_10 := Lib.hid (Ext.trans Ft5_9.out hw10)
  have Ft6_10 := Lib.hid ((Ft6_9.out).ext hw10)
  have Fb7_10 := Lib.hid ((Fb7_9.out).ext hw10)
  have Ft8_10 := Lib.hid ((Ft8_9.out).ext hw10)
  have Fb9_10 := Lib.hid ((Fb9_9.out).ext hw10)
  have X10 := Lib.hid (Ext.trans X9.out hw10)
  have z10 : w9.heap.size ≤ w10.heap.size := hw10.size
  clear hw10
  go_wp2_with (first
    | (refine wpList_load_rep rfl 24 (.tmp 2) rfl (w.heap.size) 0 rfl cs0 _ Tryz.underlying24 HI0.out (OB.cells0 (Fp0_10.out)) ?_)
    | (refine wpList_load_rep rfl 41 (.tmp 3) rfl (w.heap.size + 1) 0 rfl cs1 _ Tryz.underlying41 HI1.out (OB.cells0 (Fp1_10.out)) ?_)
    | (refine wpList_load_rep rfl 31 (.tmp 7) rfl (w6.heap.size) 0 rfl t6 _ Tryz.underlying31 HJ6.out (OB.cells0 (Fb7_10.out)) ?_)
    | (refine wpList_load_rep rfl 49 (.tmp 8) rfl (w8.heap.size) 0 rfl t8 _ Tryz.underlying49 HJ8.out (OB.cells0 (Fb9_10.out)) ?_))
  refine (eqInstanceRefS_all (x0.allRefs.filter fun o => x0.cand x1 o) _ _ _ (HO10.out).rep (HO5.out.ext Ft5_10.out)).mono ?_
  rintro e w11 ⟨rfl, hw11⟩
  have Fp0_11 := Lib.hid ((Fp0_10.out).ext hw11)
  have Fp1_11 := Lib.hid ((Fp1_10.out).ext hw11)
  have Ft5_11 := Lib.hid (Ext.trans Ft5_10.out hw11)
  have Ft6_11 := Lib.hid ((Ft6_10.out).ext hw11)
  have Fb7_11 := Lib.hid ((Fb7_10.out).ext hw11)
  have Ft8_11 := Lib.hid ((Ft8_10.out).ext hw11)
  have Fb9_11 := Lib.hid ((Fb9_10.out).ext hw11)
  have Ft10_11 := Lib.hid ((HO10.out).ext hw11)
  have X11 := Lib.hid (Ext.trans X10.out hw11)
  have z11 : w10.heap.size ≤ w11.heap.size := hw11.size
  clear hw11
  go_wp2_with (first
    | (refine wpList_load_rep rfl 24 (.tmp 2) rfl (w.heap.size) 0 rfl cs0 _ Tryz.underlying24 HI0.out (OB.cells0 (Fp0_11.out)) ?_)
    | (refine wpList_load_rep rfl 41 (.tmp 3) rfl (w.heap.size + 1) 0 rfl cs1 _ Tryz.underlying41 HI1.out (OB.cells0 (Fp1_11.out)) ?_)
    | (refine wpList_load_rep rfl 31 (.tmp 7) rfl (w6.heap.size) 0 rfl t6 _ Tryz.underlying31 HJ6.out (OB.cells0 (Fb7_11.out)) ?_)
    | (refine wpList_load_rep rfl 49 (.tmp 8) rfl (w8.heap.size) 0 rfl t8 _ Tryz.underlying49 HJ8.out (OB.cells0 (Fb9_11.out)) ?_))
  refine wp_region_held_drew (S := Ext w11) (by kernel_rfl) (.drew (.refl _)) (fun hHeld => ?_)
  refine wpAnyH_load_rep (i := 0) rfl (by kernel_rfl) (by kernel_rfl) (by kernel_rfl) (fun _ _ _ h => h) rfl 31 (.tmp 7) rfl (w6.heap.size) 0 rfl t6 _ Tryz.underlying31 HJ6.out (fun w hS => OB.cells0 ((Fb7_11.out).ext hS)) (by assumption) (fun _ _ _ _ h => h) ?_
  simp only [Act.put, List.getElem_toArray, List.getElem_cons_zero, List.setIfInBounds_toArray, List.set_cons_zero, List.set_cons_succ]
  refine wpAnyH_load_rep (i := 1) rfl (by kernel_rfl) (by kernel_rfl) (by kernel_rfl) (fun _ _ _ h => h) rfl 24 (.tmp 2) rfl (w.heap.size) 0 rfl cs0 _ Tryz.underlying24 HI0.out (fun w hS => OB.cells0 ((Fp0_11.out).ext hS)) (by assumption) (fun _ _ _ _ h => h) ?_
  simp only [Act.put, List.getElem_toArray, List.getElem_cons_zero, List.getElem_cons_succ, List.setIfInBounds_toArray, List.set_cons_zero, List.set_cons_succ]
  refine wpAnyH_call (i := 2) (by kernel_rfl) rfl rfl (run_call_func rfl rfl #[.agg ⟨cs0⟩] (by simp only [List.map_toArray, List.map_cons, List.map_nil, Act.eval]; rfl) Tryz.func17 (by kernel_rfl) (by kernel_rfl) _) (toProgram_all x0 _ _ (HR0.out.ext (Ext.trans X11.out (.drew (.refl _)))) (by omega)) ?_
  rintro e w12 ⟨t12, rfl, hw12, ho12⟩
  have HO12 := Lib.hid ho12
  have HT12 : Hid (t12.length = 1) := (by rw [ho12.1]; exact GProgram.tr_len _)
  have HJ12 : Hid ((Tryz.prog.info? 31).map (·.size) = some t12.length) := (by rw [HT12.out]; exact isz31)
  clear ho12
  have hs12 := Ext.trans hHeld hw12
  refine ⟨_, rfl, hs12, ?_⟩
  have Fp0_12 := Lib.hid (((Fp0_11.out).ext (Ext.drew (.refl w11))).ext hw12)
  have Fp1_12 := Lib.hid (((Fp1_11.out).ext (Ext.drew (.refl w11))).ext hw12)
  have Ft5_12 := Lib.hid (Ext.trans (Ext.trans Ft5_11.out (Ext.drew (.refl w11))) hw12)
  have Ft6_12 := Lib.hid (((Ft6_11.out).ext (Ext.drew (.refl w11))).ext hw12)
  have Fb7_12 := Lib.hid (((Fb7_11.out).ext (Ext.drew (.refl w11))).ext hw12)
  have Ft8_12 := Lib.hid (((Ft8_11.out).ext (Ext.drew (.refl w11))).ext hw12)
  have Fb9_12 := Lib.hid (((Fb9_11.out).ext (Ext.drew (.refl w11))).ext hw12)
  have Ft10_12 := Lib.hid (((Ft10_11.out).ext (Ext.drew (.refl w11))).ext hw12)
  have X12 := Lib.hid (Ext.trans (Ext.trans X11.out (.drew (.refl _))) hw12)
  have z12 : w11.heap.size ≤ w12.heap.size := hw12.size
  simp only [Act.put, List.getElem_toArray, List.getElem_cons_zero, List.getElem_cons_succ, List.setIfInBounds_toArray, List.set_cons_zero, List.set_cons_succ]
  refine wpAnyH_call (i := 3) (by kernel_rfl) rfl rfl (run_call_func rfl rfl #[.agg ⟨t6⟩, .agg ⟨t12⟩] (by simp only [List.map_toArray, List.map_cons, List.map_nil, Act.eval]; rfl) Tryz.func20 (by kernel_rfl) (by kernel_rfl) _) (eqProgram_all x0 _ _ _ (Ft6_12.out).rep (HO12.out).rep) ?_
  rintro e w13 ⟨rfl, hw13⟩
  have hs13 := Ext.trans hs12 hw13
  refine ⟨_, rfl, hs13, ?_⟩
  have Fp0_13 := Lib.hid ((Fp0_12.out).ext hw13)
  have Fp1_13 := Lib.hid ((Fp1_12.out).ext hw13)
  have Ft5_13 := Lib.hid (Ext.trans Ft5_12.out hw13)
  have Ft6_13 := Lib.hid ((Ft6_12.out).ext hw13)
  have Fb7_13 := Lib.hid ((Fb7_12.out).ext hw13)
  have Ft8_13 := Lib.hid ((Ft8_12.out).ext hw13)
  have Fb9_13 := Lib.hid ((Fb9_12.out).ext hw13)
  have Ft10_13 := Lib.hid ((Ft10_12.out).ext hw13)
  have Ft12_13 := Lib.hid ((HO12.out).ext hw13)
  have X13 := Lib.hid (Ext.trans X12.out hw13)
  have z13 : w12.heap.size ≤ w13.heap.size := hw13.size
  simp only [Act.put, List.getElem_toArray, List.getElem_cons_zero, List.getElem_cons_succ, List.setIfInBounds_toArray, List.set_cons_zero, List.set_cons_succ]
  refine wpAnyH_take (i := 4) rfl (by kernel_rfl) (by kernel_rfl) (by kernel_rfl) (fun _ _ _ h => h) (.inl ⟨rfl, fun _ _ => rfl⟩) (by assumption) ?_
  simp only [Act.put, List.getElem_toArray, List.getElem_cons_zero, List.getElem_cons_succ, List.setIfInBounds_toArray, List.set_cons_zero, List.set_cons_succ]
  refine wpAnyH_done (by kernel_rfl) ?_ _
  clear hHeld hs12 hw12 hs13 hw13
  go_wp2_with (first
    | (refine wpList_load_rep rfl 24 (.tmp 2) rfl (w.heap.size) 0 rfl cs0 _ Tryz.underlying24 HI0.out (OB.cells0 (Fp0_13.out)) ?_)
    | (refine wpList_load_rep rfl 41 (.tmp 3) rfl (w.heap.size + 1) 0 rfl cs1 _ Tryz.underlying41 HI1.out (OB.cells0 (Fp1_13.out)) ?_)
    | (refine wpList_load_rep rfl 31 (.tmp 7) rfl (w6.heap.size) 0 rfl t6 _ Tryz.underlying31 HJ6.out (OB.cells0 (Fb7_13.out)) ?_)
    | (refine wpList_load_rep rfl 49 (.tmp 8) rfl (w8.heap.size) 0 rfl t8 _ Tryz.underlying49 HJ8.out (OB.cells0 (Fb9_13.out)) ?_))
  refine wp_region_held_drew (S := Ext w13) (by kernel_rfl) (.drew (.refl _)) (fun hHeld => ?_)
  refine wpAnyH_load_rep (i := 0) rfl (by kernel_rfl) (by kernel_rfl) (by kernel_rfl) (fun _ _ _ h => h) rfl 49 (.tmp 8) rfl (w8.heap.size) 0 rfl t8 _ Tryz.underlying49 HJ8.out (fun w hS => OB.cells0 ((Fb9_13.out).ext hS)) (by assumption) (fun _ _ _ _ h => h) ?_
  simp only [Act.put, List.getElem_toArray, List.getElem_cons_zero, List.setIfInBounds_toArray, List.set_cons_zero, List.set_cons_succ]
  refine wpAnyH_load_rep (i := 1) rfl (by kernel_rfl) (by kernel_rfl) (by kernel_rfl) (fun _ _ _ h => h) rfl 41 (.tmp 3) rfl (w.heap.size + 1) 0 rfl cs1 _ Tryz.underlying41 HI1.out (fun w hS => OB.cells0 ((Fp1_13.out).ext hS)) (by assumption) (fun _ _ _ _ h => h) ?_
  simp only [Act.put, List.getElem_toArray, List.getElem_cons_zero, List.getElem_cons_succ, List.setIfInBounds_toArray, List.set_cons_zero, List.set_cons_succ]
  refine wpAnyH_call (i := 2) (by kernel_rfl) rfl rfl (run_call_func rfl rfl #[.agg ⟨cs1⟩] (by simp only [List.map_toArray, List.map_cons, List.map_nil, Act.eval]; rfl) Tryz.func23 (by kernel_rfl) (by kernel_rfl) _) (toBound_all x1 _ _ (HR1.out.ext (Ext.trans X13.out (.drew (.refl _)))) (by omega)) ?_
  rintro e w14 ⟨t14, rfl, hw14, ho14⟩
  have HO14 := Lib.hid ho14
  have HT14 : Hid (t14.length = 4) := (by rw [ho14.1]; exact GBound.tr_len _)
  have HJ14 : Hid ((Tryz.prog.info? 49).map (·.size) = some t14.length) := (by rw [HT14.out]; exact isz49)
  clear ho14
  have hs14 := Ext.trans hHeld hw14
  refine ⟨_, rfl, hs14, ?_⟩
  have Fp0_14 := Lib.hid (((Fp0_13.out).ext (Ext.drew (.refl w13))).ext hw14)
  have Fp1_14 := Lib.hid (((Fp1_13.out).ext (Ext.drew (.refl w13))).ext hw14)
  have Ft5_14 := Lib.hid (Ext.trans (Ext.trans Ft5_13.out (Ext.drew (.refl w13))) hw14)
  have Ft6_14 := Lib.hid (((Ft6_13.out).ext (Ext.drew (.refl w13))).ext hw14)
  have Fb7_14 := Lib.hid (((Fb7_13.out).ext (Ext.drew (.refl w13))).ext hw14)
  have Ft8_14 := Lib.hid (((Ft8_13.out).ext (Ext.drew (.refl w13))).ext hw14)
  have Fb9_14 := Lib.hid (((Fb9_13.out).ext (Ext.drew (.refl w13))).ext hw14)
  have Ft10_14 := Lib.hid (((Ft10_13.out).ext (Ext.drew (.refl w13))).ext hw14)
  have X14 := Lib.hid (Ext.trans (Ext.trans X13.out (.drew (.refl _))) hw14)
  have z14 : w13.heap.size ≤ w14.heap.size := hw14.size
  simp only [Act.put, List.getElem_toArray, List.getElem_cons_zero, List.getElem_cons_succ, List.setIfInBounds_toArray, List.set_cons_zero, List.set_cons_succ]
  refine wpAnyH_call (i := 3) (by kernel_rfl) rfl rfl (run_call_func rfl rfl #[.agg ⟨t8⟩, .agg ⟨t14⟩] (by simp only [List.map_toArray, List.map_cons, List.map_nil, Act.eval]; rfl) Tryz.func26 (by kernel_rfl) (by kernel_rfl) _) (eqBound_all x1 _ _ _ (Ft8_14.out).rep (HO14.out).rep) ?_
  rintro e w15 ⟨rfl, hw15⟩
  have hs15 := Ext.trans hs14 hw15
  refine ⟨_, rfl, hs15, ?_⟩
  have Fp0_15 := Lib.hid ((Fp0_14.out).ext hw15)
  have Fp1_15 := Lib.hid ((Fp1_14.out).ext hw15)
  have Ft5_15 := Lib.hid (Ext.trans Ft5_14.out hw15)
  have Ft6_15 := Lib.hid ((Ft6_14.out).ext hw15)
  have Fb7_15 := Lib.hid ((Fb7_14.out).ext hw15)
  have Ft8_15 := Lib.hid ((Ft8_14.out).ext hw15)
  have Fb9_15 := Lib.hid ((Fb9_14.out).ext hw15)
  have Ft10_15 := Lib.hid ((Ft10_14.out).ext hw15)
  have Ft14_15 := Lib.hid ((HO14.out).ext hw15)
  have X15 := Lib.hid (Ext.trans X14.out hw15)
  have z15 : w14.heap.size ≤ w15.heap.size := hw15.size
  simp only [Act.put, List.getElem_toArray, List.getElem_cons_zero, List.getElem_cons_succ, List.setIfInBounds_toArray, List.set_cons_zero, List.set_cons_succ]
  refine wpAnyH_take (i := 4) rfl (by kernel_rfl) (by kernel_rfl) (by kernel_rfl) (fun _ _ _ h => h) (.inl ⟨rfl, fun _ _ => rfl⟩) (by assumption) ?_
  simp only [Act.put, List.getElem_toArray, List.getElem_cons_zero, List.getElem_cons_succ, List.setIfInBounds_toArray, List.set_cons_zero, List.set_cons_succ]
  refine wpAnyH_done (by kernel_rfl) ?_ _
  clear hHeld hs14 hw14 hs15 hw15
  go_wp2_with (first
    | (refine wpList_load_rep rfl 24 (.tmp 2) rfl (w.heap.size) 0 rfl cs0 _ Tryz.underlying24 HI0.out (OB.cells0 (Fp0_15.out)) ?_)
    | (refine wpList_load_rep rfl 41 (.tmp 3) rfl (w.heap.size + 1) 0 rfl cs1 _ Tryz.underlying41 HI1.out (OB.cells0 (Fp1_15.out)) ?_)
    | (refine wpList_load_rep rfl 31 (.tmp 7) rfl (w6.heap.size) 0 rfl t6 _ Tryz.underlying31 HJ6.out (OB.cells0 (Fb7_15.out)) ?_)
    | (refine wpList_load_rep rfl 49 (.tmp 8) rfl (w8.heap.size) 0 rfl t8 _ Tryz.underlying49 HJ8.out (OB.cells0 (Fb9_15.out)) ?_))
  obtain ⟨mk_t6_1, Hmk_t6_1⟩ : ∃ q, Hid (1 + Tr.topN (x0).tr = q) := ⟨_, rfl⟩
  refine (markProgram_all x0 _ _ 1 (Between w5 w6) _ (by rfl) (Ft6_15.out) (fun b hb => by have h1 := hb.1; have h2 := hb.2; omega) (by have := GProgram.top_le x0; omega)).mono ?_
  rintro e w16 ⟨he, hm16, hc16⟩
  rw [Hmk_t6_1.out] at he
  subst he
  have Fp0_16 := Lib.hid (obchg (Fp0_15.out) hc16 (fun h => by have h1 := h.1; have h2 := h.2; omega))
  have Fp1_16 := Lib.hid (obchg (Fp1_15.out) hc16 (fun h => by have h1 := h.1; have h2 := h.2; omega))
  have Ft5_16 := Lib.hid (Chg.ext Ft5_15.out hc16 (fun b hb => by have h1 := hb.1; omega))
  have Fb7_16 := Lib.hid (obchg (Fb7_15.out) hc16 (fun h => by have h1 := h.1; have h2 := h.2; omega))
  have Ft8_16 := Lib.hid ((Ft8_15.out).keep fun b hb hl => hc16.block b hl (fun hs => by have h1 := hb.1; have h2 := hb.2; have h3 := hs.1; have h4 := hs.2; omega))
  have Fb9_16 := Lib.hid (obchg (Fb9_15.out) hc16 (fun h => by have h1 := h.1; have h2 := h.2; omega))
  have Ft10_16 := Lib.hid ((Ft10_15.out).keep fun b hb hl => hc16.block b hl (fun hs => by have h1 := hb.1; have h2 := hb.2; have h3 := hs.1; have h4 := hs.2; omega))
  have X16 := Lib.hid (Chg.ext X15.out hc16 (fun b hb => by have h1 := hb.1; omega))
  have z16 : w15.heap.size ≤ w16.heap.size := hc16.size
  have Ft6_16 := Lib.hid hm16
  clear hc16 hm16
  have hng16 : ¬ ((mk_t6_1 : Nat) : Int) < 0 := by omega
  go_wp2_with (first
    | (refine wpList_load_rep rfl 24 (.tmp 2) rfl (w.heap.size) 0 rfl cs0 _ Tryz.underlying24 HI0.out (OB.cells0 (Fp0_16.out)) ?_)
    | (refine wpList_load_rep rfl 41 (.tmp 3) rfl (w.heap.size + 1) 0 rfl cs1 _ Tryz.underlying41 HI1.out (OB.cells0 (Fp1_16.out)) ?_)
    | (refine wpList_load_rep rfl 31 (.tmp 7) rfl (w6.heap.size) 0 rfl t6 _ Tryz.underlying31 HJ6.out (OB.cells0 (Fb7_16.out)) ?_)
    | (refine wpList_load_rep rfl 49 (.tmp 8) rfl (w8.heap.size) 0 rfl t8 _ Tryz.underlying49 HJ8.out (OB.cells0 (Fb9_16.out)) ?_))
  obtain ⟨mk_t8_mk_t6_1, Hmk_t8_mk_t6_1⟩ : ∃ q, Hid (mk_t6_1 + Tr.topN (x1).tr = q) := ⟨_, rfl⟩
  refine (markBound_all x1 _ _ mk_t6_1 (Between w7 w8) _ (by rfl) (Ft8_16.out) (fun b hb => by have h1 := hb.1; have h2 := hb.2; omega) (by have h0 := GProgram.top_le x0; have h1 := Hmk_t6_1.out; have h2 := Tr.topN_cnt x1.tr; have h3 := GBound.cnt_le x1; omega)).mono ?_
  rintro e w17 ⟨he, hm17, hc17⟩
  rw [Hmk_t8_mk_t6_1.out] at he
  subst he
  have Fp0_17 := Lib.hid (obchg (Fp0_16.out) hc17 (fun h => by have h1 := h.1; have h2 := h.2; omega))
  have Fp1_17 := Lib.hid (obchg (Fp1_16.out) hc17 (fun h => by have h1 := h.1; have h2 := h.2; omega))
  have Ft5_17 := Lib.hid (Chg.ext Ft5_16.out hc17 (fun b hb => by have h1 := hb.1; omega))
  have Ft6_17 := Lib.hid ((Ft6_16.out).keep fun b hb hl => hc17.block b hl (fun hs => by have h1 := hb.1; have h2 := hb.2; have h3 := hs.1; have h4 := hs.2; omega))
  have Fb7_17 := Lib.hid (obchg (Fb7_16.out) hc17 (fun h => by have h1 := h.1; have h2 := h.2; omega))
  have Fb9_17 := Lib.hid (obchg (Fb9_16.out) hc17 (fun h => by have h1 := h.1; have h2 := h.2; omega))
  have Ft10_17 := Lib.hid ((Ft10_16.out).keep fun b hb hl => hc17.block b hl (fun hs => by have h1 := hb.1; have h2 := hb.2; have h3 := hs.1; have h4 := hs.2; omega))
  have X17 := Lib.hid (Chg.ext X16.out hc17 (fun b hb => by have h1 := hb.1; omega))
  have z17 : w16.heap.size ≤ w17.heap.size := hc17.size
  have Ft8_17 := Lib.hid hm17
  clear hc17 hm17
  have hng17 : ¬ ((mk_t8_mk_t6_1 : Nat) : Int) < 0 := by omega
  go_wp2_with (first
    | (refine wpList_load_rep_g (by rfl) 24 (.tmp 2) rfl (w.heap.size) 0 rfl cs0 _ Tryz.underlying24 HI0.out (OB.cells0 (Fp0_17.out)) ?_)
    | (refine wpList_load_rep_g (by rfl) 41 (.tmp 3) rfl (w.heap.size + 1) 0 rfl cs1 _ Tryz.underlying41 HI1.out (OB.cells0 (Fp1_17.out)) ?_)
    | (refine wpList_load_rep_g (by rfl) 31 (.tmp 7) rfl (w6.heap.size) 0 rfl t6 _ Tryz.underlying31 HJ6.out (OB.cells0 (Fb7_17.out)) ?_)
    | (refine wpList_load_rep_g (by rfl) 49 (.tmp 8) rfl (w8.heap.size) 0 rfl t8 _ Tryz.underlying49 HJ8.out (OB.cells0 (Fb9_17.out)) ?_)
    | (refine wpList_load_rep rfl 24 (.tmp 2) rfl (w.heap.size) 0 rfl cs0 _ Tryz.underlying24 HI0.out (OB.cells0 (Fp0_17.out)) ?_)
    | (refine wpList_load_rep rfl 41 (.tmp 3) rfl (w.heap.size + 1) 0 rfl cs1 _ Tryz.underlying41 HI1.out (OB.cells0 (Fp1_17.out)) ?_)
    | (refine wpList_load_rep rfl 31 (.tmp 7) rfl (w6.heap.size) 0 rfl t6 _ Tryz.underlying31 HJ6.out (OB.cells0 (Fb7_17.out)) ?_)
    | (refine wpList_load_rep rfl 49 (.tmp 8) rfl (w8.heap.size) 0 rfl t8 _ Tryz.underlying49 HJ8.out (OB.cells0 (Fb9_17.out)) ?_))
  refine (eqInstanceRefS_all (x0.allRefs.filter fun o => x0.cand x1 o) _ _ _ (Ft10_17.out).rep (HO5.out.ext Ft5_17.out)).mono ?_
  rintro e w18 ⟨rfl, hw18⟩
  have Fp0_18 := Lib.hid ((Fp0_17.out).ext hw18)
  have Fp1_18 := Lib.hid ((Fp1_17.out).ext hw18)
  have Ft5_18 := Lib.hid (Ext.trans Ft5_17.out hw18)
  have Ft6_18 := Lib.hid ((Ft6_17.out).ext hw18)
  have Fb7_18 := Lib.hid ((Fb7_17.out).ext hw18)
  have Ft8_18 := Lib.hid ((Ft8_17.out).ext hw18)
  have Fb9_18 := Lib.hid ((Fb9_17.out).ext hw18)
  have Ft10_18 := Lib.hid ((Ft10_17.out).ext hw18)
  have X18 := Lib.hid (Ext.trans X17.out hw18)
  have z18 : w17.heap.size ≤ w18.heap.size := hw18.size
  clear hw18
  go_wp2_with (first
    | (refine wpList_load_rep rfl 24 (.tmp 2) rfl (w.heap.size) 0 rfl cs0 _ Tryz.underlying24 HI0.out (OB.cells0 (Fp0_18.out)) ?_)
    | (refine wpList_load_rep rfl 41 (.tmp 3) rfl (w.heap.size + 1) 0 rfl cs1 _ Tryz.underlying41 HI1.out (OB.cells0 (Fp1_18.out)) ?_)
    | (refine wpList_load_rep rfl 31 (.tmp 7) rfl (w6.heap.size) 0 rfl t6 _ Tryz.underlying31 HJ6.out (OB.cells0 (Fb7_18.out)) ?_)
    | (refine wpList_load_rep rfl 49 (.tmp 8) rfl (w8.heap.size) 0 rfl t8 _ Tryz.underlying49 HJ8.out (OB.cells0 (Fb9_18.out)) ?_))
  obtain ⟨mk_t10_1, Hmk_t10_1⟩ : ∃ q, Hid (1 + Tr.cntE (GInstanceRef.trs (x0.allRefs.filter fun o => x0.cand x1 o)) = q) := ⟨_, rfl⟩
  refine (markInstanceRefS_all (x0.allRefs.filter fun o => x0.cand x1 o) _ _ 1 (Between w9 w10) _ (by rfl) (Ft10_18.out) (fun b hb => by have h1 := hb.1; have h2 := hb.2; omega) (by rw [refCnt]; have h1 := List.length_filter_le (fun o => x0.cand x1 o) x0.allRefs; have h2 := x0.allRefs_bulk; omega)).mono ?_
  rintro e w19 ⟨he, hm19, hc19⟩
  rw [Hmk_t10_1.out] at he
  subst he
  have Fp0_19 := Lib.hid (obchg (Fp0_18.out) hc19 (fun h => by have h1 := h.1; have h2 := h.2; omega))
  have Fp1_19 := Lib.hid (obchg (Fp1_18.out) hc19 (fun h => by have h1 := h.1; have h2 := h.2; omega))
  have Ft5_19 := Lib.hid (Chg.ext Ft5_18.out hc19 (fun b hb => by have h1 := hb.1; omega))
  have Ft6_19 := Lib.hid ((Ft6_18.out).keep fun b hb hl => hc19.block b hl (fun hs => by have h1 := hb.1; have h2 := hb.2; have h3 := hs.1; have h4 := hs.2; omega))
  have Fb7_19 := Lib.hid (obchg (Fb7_18.out) hc19 (fun h => by have h1 := h.1; have h2 := h.2; omega))
  have Ft8_19 := Lib.hid ((Ft8_18.out).keep fun b hb hl => hc19.block b hl (fun hs => by have h1 := hb.1; have h2 := hb.2; have h3 := hs.1; have h4 := hs.2; omega))
  have Fb9_19 := Lib.hid (obchg (Fb9_18.out) hc19 (fun h => by have h1 := h.1; have h2 := h.2; omega))
  have X19 := Lib.hid (Chg.ext X18.out hc19 (fun b hb => by have h1 := hb.1; omega))
  have z19 : w18.heap.size ≤ w19.heap.size := hc19.size
  have Ft10_19 := Lib.hid hm19
  clear hc19 hm19
  have hng19 : ¬ ((mk_t10_1 : Nat) : Int) < 0 := by omega
  go_wp2_with (first
    | (refine wpList_load_rep rfl 24 (.tmp 2) rfl (w.heap.size) 0 rfl cs0 _ Tryz.underlying24 HI0.out (OB.cells0 (Fp0_19.out)) ?_)
    | (refine wpList_load_rep rfl 41 (.tmp 3) rfl (w.heap.size + 1) 0 rfl cs1 _ Tryz.underlying41 HI1.out (OB.cells0 (Fp1_19.out)) ?_)
    | (refine wpList_load_rep rfl 31 (.tmp 7) rfl (w6.heap.size) 0 rfl t6 _ Tryz.underlying31 HJ6.out (OB.cells0 (Fb7_19.out)) ?_)
    | (refine wpList_load_rep rfl 49 (.tmp 8) rfl (w8.heap.size) 0 rfl t8 _ Tryz.underlying49 HJ8.out (OB.cells0 (Fb9_19.out)) ?_))
  refine (heldInstanceRefS_all (x0.allRefs.filter fun o => x0.cand x1 o) _ _ 1 _ (by rfl) (Ft10_19.out).rep (by rw [refCnt]; have h1 := List.length_filter_le (fun o => x0.cand x1 o) x0.allRefs; have h2 := x0.allRefs_bulk; omega)).mono ?_
  rintro e w20 ⟨he, hw20⟩
  rw [Hmk_t10_1.out] at he
  subst he
  have Fp0_20 := Lib.hid ((Fp0_19.out).ext hw20)
  have Fp1_20 := Lib.hid ((Fp1_19.out).ext hw20)
  have Ft5_20 := Lib.hid (Ext.trans Ft5_19.out hw20)
  have Ft6_20 := Lib.hid ((Ft6_19.out).ext hw20)
  have Fb7_20 := Lib.hid ((Fb7_19.out).ext hw20)
  have Ft8_20 := Lib.hid ((Ft8_19.out).ext hw20)
  have Fb9_20 := Lib.hid ((Fb9_19.out).ext hw20)
  have Ft10_20 := Lib.hid ((Ft10_19.out).ext hw20)
  have X20 := Lib.hid (Ext.trans X19.out hw20)
  have z20 : w19.heap.size ≤ w20.heap.size := hw20.size
  clear hw20
  go_wp2_with (first
    | (refine wpList_load_rep rfl 24 (.tmp 2) rfl (w.heap.size) 0 rfl cs0 _ Tryz.underlying24 HI0.out (OB.cells0 (Fp0_20.out)) ?_)
    | (refine wpList_load_rep rfl 41 (.tmp 3) rfl (w.heap.size + 1) 0 rfl cs1 _ Tryz.underlying41 HI1.out (OB.cells0 (Fp1_20.out)) ?_)
    | (refine wpList_load_rep rfl 31 (.tmp 7) rfl (w6.heap.size) 0 rfl t6 _ Tryz.underlying31 HJ6.out (OB.cells0 (Fb7_20.out)) ?_)
    | (refine wpList_load_rep rfl 49 (.tmp 8) rfl (w8.heap.size) 0 rfl t8 _ Tryz.underlying49 HJ8.out (OB.cells0 (Fb9_20.out)) ?_))
  refine wp_region_held_drew (S := Ext w20) (by kernel_rfl) (.drew (.refl _)) (fun hHeld => ?_)
  refine wpAnyH_load_rep (i := 0) rfl (by kernel_rfl) (by kernel_rfl) (by kernel_rfl) (fun _ _ _ h => h) rfl 24 (.tmp 2) rfl (w.heap.size) 0 rfl cs0 _ Tryz.underlying24 HI0.out (fun w hS => OB.cells0 ((Fp0_20.out).ext hS)) (by assumption) (fun _ _ _ _ h => h) ?_
  simp only [Act.put, List.getElem_toArray, List.getElem_cons_zero, List.setIfInBounds_toArray, List.set_cons_zero, List.set_cons_succ]
  refine wpAnyH_load_rep (i := 2) rfl (by kernel_rfl) (by kernel_rfl) (by kernel_rfl) (fun _ _ _ h => h) rfl 41 (.tmp 3) rfl (w.heap.size + 1) 0 rfl cs1 _ Tryz.underlying41 HI1.out (fun w hS => OB.cells0 ((Fp1_20.out).ext hS)) (by assumption) (fun _ _ _ _ h => h) ?_
  simp only [Act.put, List.getElem_toArray, List.getElem_cons_zero, List.getElem_cons_succ, List.setIfInBounds_toArray, List.set_cons_zero, List.set_cons_succ]
  refine wpAnyH_call (i := 1) (by kernel_rfl) rfl rfl (run_call_func rfl rfl #[.agg ⟨cs0⟩] (by simp only [List.map_toArray, List.map_cons, List.map_nil, Act.eval]; rfl) Tryz.func17 (by kernel_rfl) (by kernel_rfl) _) (toProgram_all x0 _ _ (HR0.out.ext (Ext.trans X20.out (.drew (.refl _)))) (by omega)) ?_
  rintro e w21 ⟨t21, rfl, hw21, ho21⟩
  have HO21 := Lib.hid ho21
  have HT21 : Hid (t21.length = 1) := (by rw [ho21.1]; exact GProgram.tr_len _)
  have HJ21 : Hid ((Tryz.prog.info? 31).map (·.size) = some t21.length) := (by rw [HT21.out]; exact isz31)
  clear ho21
  have hs21 := Ext.trans hHeld hw21
  refine ⟨_, rfl, hs21, ?_⟩
  have Fp0_21 := Lib.hid (((Fp0_20.out).ext (Ext.drew (.refl w20))).ext hw21)
  have Fp1_21 := Lib.hid (((Fp1_20.out).ext (Ext.drew (.refl w20))).ext hw21)
  have Ft5_21 := Lib.hid (Ext.trans (Ext.trans Ft5_20.out (Ext.drew (.refl w20))) hw21)
  have Ft6_21 := Lib.hid (((Ft6_20.out).ext (Ext.drew (.refl w20))).ext hw21)
  have Fb7_21 := Lib.hid (((Fb7_20.out).ext (Ext.drew (.refl w20))).ext hw21)
  have Ft8_21 := Lib.hid (((Ft8_20.out).ext (Ext.drew (.refl w20))).ext hw21)
  have Fb9_21 := Lib.hid (((Fb9_20.out).ext (Ext.drew (.refl w20))).ext hw21)
  have Ft10_21 := Lib.hid (((Ft10_20.out).ext (Ext.drew (.refl w20))).ext hw21)
  have X21 := Lib.hid (Ext.trans (Ext.trans X20.out (.drew (.refl _))) hw21)
  have z21 : w20.heap.size ≤ w21.heap.size := hw21.size
  simp only [Act.put, List.getElem_toArray, List.getElem_cons_zero, List.getElem_cons_succ, List.setIfInBounds_toArray, List.set_cons_zero, List.set_cons_succ]
  refine wpAnyH_call (i := 3) (by kernel_rfl) rfl rfl (run_call_func rfl rfl #[.agg ⟨cs1⟩] (by simp only [List.map_toArray, List.map_cons, List.map_nil, Act.eval]; rfl) Tryz.func23 (by kernel_rfl) (by kernel_rfl) _) (toBound_all x1 _ _ (HR1.out.ext X21.out) (by omega)) ?_
  rintro e w22 ⟨t22, rfl, hw22, ho22⟩
  have HO22 := Lib.hid ho22
  have HT22 : Hid (t22.length = 4) := (by rw [ho22.1]; exact GBound.tr_len _)
  have HJ22 : Hid ((Tryz.prog.info? 49).map (·.size) = some t22.length) := (by rw [HT22.out]; exact isz49)
  clear ho22
  have hs22 := Ext.trans hs21 hw22
  refine ⟨_, rfl, hs22, ?_⟩
  have Fp0_22 := Lib.hid ((Fp0_21.out).ext hw22)
  have Fp1_22 := Lib.hid ((Fp1_21.out).ext hw22)
  have Ft5_22 := Lib.hid (Ext.trans Ft5_21.out hw22)
  have Ft6_22 := Lib.hid ((Ft6_21.out).ext hw22)
  have Fb7_22 := Lib.hid ((Fb7_21.out).ext hw22)
  have Ft8_22 := Lib.hid ((Ft8_21.out).ext hw22)
  have Fb9_22 := Lib.hid ((Fb9_21.out).ext hw22)
  have Ft10_22 := Lib.hid ((Ft10_21.out).ext hw22)
  have Ft21_22 := Lib.hid ((HO21.out).ext hw22)
  have X22 := Lib.hid (Ext.trans X21.out hw22)
  have z22 : w21.heap.size ≤ w22.heap.size := hw22.size
  simp only [Act.put, List.getElem_toArray, List.getElem_cons_zero, List.getElem_cons_succ, List.setIfInBounds_toArray, List.set_cons_zero, List.set_cons_succ]
  refine wpAnyH_call (i := 4) (by kernel_rfl) rfl rfl (run_call_func rfl rfl #[.agg ⟨t21⟩, .agg ⟨t22⟩] (by simp only [List.map_toArray, List.map_cons, List.map_nil, Act.eval]; rfl) Tryz.func60 (by kernel_rfl) (by kernel_rfl) _) (candsP_impl x0 x1 _ _ _ ((Ft21_22.out).rep) ((HO22.out).rep) (by have := x0.allRefs_bulk; omega) (fun o => by have := x0.inst_head_bulk o; omega) (by have := x1.ty_bulk; omega)) ?_
  rintro e w23 ⟨tv23, rfl, hw23, ho23⟩
  have HO23 := Lib.hid ho23
  obtain ⟨ta23, tc23, hv23, -, -⟩ := HO23.out.rep.shape
  rw [GInstanceRef.trs_len] at hv23
  subst hv23
  clear ho23
  have hs23 := Ext.trans hs22 hw23
  refine ⟨_, rfl, hs23, ?_⟩
  have Fp0_23 := Lib.hid ((Fp0_22.out).ext hw23)
  have Fp1_23 := Lib.hid ((Fp1_22.out).ext hw23)
  have Ft5_23 := Lib.hid (Ext.trans Ft5_22.out hw23)
  have Ft6_23 := Lib.hid ((Ft6_22.out).ext hw23)
  have Fb7_23 := Lib.hid ((Fb7_22.out).ext hw23)
  have Ft8_23 := Lib.hid ((Ft8_22.out).ext hw23)
  have Fb9_23 := Lib.hid ((Fb9_22.out).ext hw23)
  have Ft10_23 := Lib.hid ((Ft10_22.out).ext hw23)
  have Ft21_23 := Lib.hid ((Ft21_22.out).ext hw23)
  have Ft22_23 := Lib.hid ((HO22.out).ext hw23)
  have X23 := Lib.hid (Ext.trans X22.out hw23)
  have z23 : w22.heap.size ≤ w23.heap.size := hw23.size
  simp only [Act.put, List.getElem_toArray, List.getElem_cons_zero, List.getElem_cons_succ, List.setIfInBounds_toArray, List.set_cons_zero, List.set_cons_succ]
  refine wpAnyH_take (i := 5) rfl (by kernel_rfl) (by kernel_rfl) (by kernel_rfl) (fun _ _ _ h => h) (.inl ⟨rfl, fun _ _ => rfl⟩) (by assumption) ?_
  simp only [Act.put, List.getElem_toArray, List.getElem_cons_zero, List.getElem_cons_succ, List.setIfInBounds_toArray, List.set_cons_zero, List.set_cons_succ]
  refine wpAnyH_done (by kernel_rfl) ?_ _
  clear hHeld hs21 hw21 hs22 hw22 hs23 hw23
  go_wp2_with (first
    | (refine wpList_load_rep rfl 24 (.tmp 2) rfl (w.heap.size) 0 rfl cs0 _ Tryz.underlying24 HI0.out (OB.cells0 (Fp0_23.out)) ?_)
    | (refine wpList_load_rep rfl 41 (.tmp 3) rfl (w.heap.size + 1) 0 rfl cs1 _ Tryz.underlying41 HI1.out (OB.cells0 (Fp1_23.out)) ?_)
    | (refine wpList_load_rep rfl 31 (.tmp 7) rfl (w6.heap.size) 0 rfl t6 _ Tryz.underlying31 HJ6.out (OB.cells0 (Fb7_23.out)) ?_)
    | (refine wpList_load_rep rfl 49 (.tmp 8) rfl (w8.heap.size) 0 rfl t8 _ Tryz.underlying49 HJ8.out (OB.cells0 (Fb9_23.out)) ?_))
  refine (eqInstanceRefS_all (x0.allRefs.filter fun o => x0.cand x1 o) _ _ _ (HO23.out).rep (HO5.out.ext Ft5_23.out)).mono ?_
  rintro e w24 ⟨rfl, hw24⟩
  have Fp0_24 := Lib.hid ((Fp0_23.out).ext hw24)
  have Fp1_24 := Lib.hid ((Fp1_23.out).ext hw24)
  have Ft5_24 := Lib.hid (Ext.trans Ft5_23.out hw24)
  have Ft6_24 := Lib.hid ((Ft6_23.out).ext hw24)
  have Fb7_24 := Lib.hid ((Fb7_23.out).ext hw24)
  have Ft8_24 := Lib.hid ((Ft8_23.out).ext hw24)
  have Fb9_24 := Lib.hid ((Fb9_23.out).ext hw24)
  have Ft10_24 := Lib.hid ((Ft10_23.out).ext hw24)
  have Ft23_24 := Lib.hid ((HO23.out).ext hw24)
  have X24 := Lib.hid (Ext.trans X23.out hw24)
  have z24 : w23.heap.size ≤ w24.heap.size := hw24.size
  clear hw24
  go_wp2_with (first
    | (refine wpList_load_rep rfl 24 (.tmp 2) rfl (w.heap.size) 0 rfl cs0 _ Tryz.underlying24 HI0.out (OB.cells0 (Fp0_24.out)) ?_)
    | (refine wpList_load_rep rfl 41 (.tmp 3) rfl (w.heap.size + 1) 0 rfl cs1 _ Tryz.underlying41 HI1.out (OB.cells0 (Fp1_24.out)) ?_)
    | (refine wpList_load_rep rfl 31 (.tmp 7) rfl (w6.heap.size) 0 rfl t6 _ Tryz.underlying31 HJ6.out (OB.cells0 (Fb7_24.out)) ?_)
    | (refine wpList_load_rep rfl 49 (.tmp 8) rfl (w8.heap.size) 0 rfl t8 _ Tryz.underlying49 HJ8.out (OB.cells0 (Fb9_24.out)) ?_))
  refine (heldInstanceRefS_all (x0.allRefs.filter fun o => x0.cand x1 o) _ _ 1 _ (by rfl) (Ft10_24.out).rep (by rw [refCnt]; have h1 := List.length_filter_le (fun o => x0.cand x1 o) x0.allRefs; have h2 := x0.allRefs_bulk; omega)).mono ?_
  rintro e w25 ⟨he, hw25⟩
  rw [Hmk_t10_1.out] at he
  subst he
  have Fp0_25 := Lib.hid ((Fp0_24.out).ext hw25)
  have Fp1_25 := Lib.hid ((Fp1_24.out).ext hw25)
  have Ft5_25 := Lib.hid (Ext.trans Ft5_24.out hw25)
  have Ft6_25 := Lib.hid ((Ft6_24.out).ext hw25)
  have Fb7_25 := Lib.hid ((Fb7_24.out).ext hw25)
  have Ft8_25 := Lib.hid ((Ft8_24.out).ext hw25)
  have Fb9_25 := Lib.hid ((Fb9_24.out).ext hw25)
  have Ft10_25 := Lib.hid ((Ft10_24.out).ext hw25)
  have Ft23_25 := Lib.hid ((Ft23_24.out).ext hw25)
  have X25 := Lib.hid (Ext.trans X24.out hw25)
  have z25 : w24.heap.size ≤ w25.heap.size := hw25.size
  clear hw25
  go_wp2_with (first
    | (refine wpList_load_rep rfl 24 (.tmp 2) rfl (w.heap.size) 0 rfl cs0 _ Tryz.underlying24 HI0.out (OB.cells0 (Fp0_25.out)) ?_)
    | (refine wpList_load_rep rfl 41 (.tmp 3) rfl (w.heap.size + 1) 0 rfl cs1 _ Tryz.underlying41 HI1.out (OB.cells0 (Fp1_25.out)) ?_)
    | (refine wpList_load_rep rfl 31 (.tmp 7) rfl (w6.heap.size) 0 rfl t6 _ Tryz.underlying31 HJ6.out (OB.cells0 (Fb7_25.out)) ?_)
    | (refine wpList_load_rep rfl 49 (.tmp 8) rfl (w8.heap.size) 0 rfl t8 _ Tryz.underlying49 HJ8.out (OB.cells0 (Fb9_25.out)) ?_))
  go_ret
  exact ⟨rfl, X25.out⟩

set_option linter.unusedVariables false
theorem own : ownKnob Tryz.prog.godebug = none := by kernel_rfl
theorem laidOut : laidOutB Tryz.prog = true := by kernel_rfl

set_option maxRecDepth 100000 in
theorem lifted (os : Os) (started : os.Started) (H : Type) (enc : TypeId × Value → H) :
    ReturnsInHanded {} Tryz.checked os 10 .any (Rows.fnExactCandidateInstancesSpec.pre6 enc Tryz.prog Tryz.f10 Rows.fnExactCandidateInstancesRow.domain false) (Rows.fnExactCandidateInstancesSpec.post enc Tryz.prog Tryz.f10 false true false false) := by
  refine returnsInHanded_of_change (C := Tryz.checked) own started (by kernel_rfl) Tryz.func10
    (ChangeSpec.witness6 (enc := enc) (C := Tryz.checked) false ⟨#[], #[.agg #[.slice none 0 0], .agg #[.string ⟨#[]⟩, .int .i64 0, .string ⟨#[]⟩, .slice none 0 0]], []⟩ 8 (by kernel_rfl) (by kernel_rfl) (by kernel_rfl) (by kernel_rfl)) ?_
  intro W base args ds gs before hval0 hW hcnd _
  have hval : ∀ (j : Nat) t v, Tryz.f10.params[j]? = some t → args[j]? = some v → Value.okWide Tryz.prog W .any base t v := hval0
  have hW' := hW
  obtain ⟨p, q, hA0, hV, rfl, hfz, hnd⟩ := hW
  have hA : DataW.TrodAll enc Tryz.prog W 0 (fun _ => true) true Tryz.f10.params.toList args.toList ds p := hA0
  rw [Tryz.params10] at hA hval
  obtain ⟨v0, vs0, d0, ds0, p0, q0, hargs, rfl, rfl, h0, r0⟩ := trodAll_cons hA
  obtain ⟨v1, vs1, d1, ds1, p1, q1, rfl, rfl, rfl, h1, r1⟩ := trodAll_cons r0
  obtain ⟨rfl, rfl, rfl⟩ := trodAll_nil r1
  obtain rfl : args = #[v0, v1] := by cases args; simp_all
  obtain ⟨rfl, rfl⟩ := trodVars_none hV
  have k0 := h0
  have lt0 : ∀ x ∈ p0, x.block < W.heap.size := by obtain ⟨m, hm⟩ := k0; exact DataW.trod_lt m _ _ _ hm
  obtain ⟨c0, rfl, -⟩ := okWide_struct Tryz.underlying24 (hval 0 24 v0 rfl rfl)
  obtain ⟨fu0, hf0⟩ := h0
  obtain ⟨ts0, ty0, rp0, -⟩ := tyOf_of_trod plainClosed fu0 24 c0.toList _ (by decide) hf0
  obtain ⟨x0, rfl⟩ := tyof_Program ty0
  have k1 := h1
  have lt1 : ∀ x ∈ p1, x.block < W.heap.size := by obtain ⟨m, hm⟩ := k1; exact DataW.trod_lt m _ _ _ hm
  obtain ⟨c1, rfl, -⟩ := okWide_struct Tryz.underlying41 (hval 1 41 v1 rfl rfl)
  obtain ⟨fu1, hf1⟩ := h1
  obtain ⟨ts1, ty1, rp1, -⟩ := tyOf_of_trod plainClosed fu1 41 c1.toList _ (by decide) hf1
  obtain ⟨x1, rfl⟩ := tyof_Bound ty1
  clear hA0 hval0
  refine (law_FnExactCandidateInstances W x0 c0.toList rp0 x1 c1.toList rp1).mono fun e W' ⟨he, bel⟩ => ?_
  subst he
  exact ⟨_, rfl, _, _, _, [], _, [], hW', trodAll_mk1 (shut_bool Tryz.underlying4 _), (trodAll_cons_mk (Below.trod laidOut (by kernel_rfl) (of_decide_eq_true (by kernel_rfl)) k0 bel lt0) (trodAll_cons_mk (Below.trod laidOut (by kernel_rfl) (of_decide_eq_true (by kernel_rfl)) k1 bel lt1) trodAll_mk0)), rfl, bel.frame _, fun h => by cases h⟩

theorem over : Rows.fnExactCandidateInstancesRow.holds Tryz.pinned (OpenSpec.ofChange Rows.fnExactCandidateInstancesSpec) :=
  OpenClaim.holds_of_wide 10 Tryz.f10 rfl rfl rfl rfl rfl rfl rfl ⟨rfl, rfl, rfl, rfl, rfl⟩ rfl rfl rfl rfl rfl fnNamed Tryz.func10 factsJoin (of_decide_eq_true (by kernel_rfl)) wrapper
    (fun os started H enc _ => lifted os started H enc)

theorem proved : Rows.FnExactCandidateInstancesSaid := over
#print axioms proved

end Go.Proofs.YtnakkelglbcecaaGreat.fnExactCandidateInstancesDone
