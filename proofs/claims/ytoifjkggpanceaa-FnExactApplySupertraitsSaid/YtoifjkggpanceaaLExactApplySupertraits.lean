/- FnExactApplySupertraits returns true for every input, and leaves what was there as it was. No conditions. -/
import Derived.Test.YtoifjkggpanceaaRows
import Derived.Test.YtoifjkggpanceaaTyped
import Derived.Test.YtoifjkggpanceaaBAll
import Derived.Test.YtoifjkggpanceaaReg
import Derived.Test.YtoifjkggpanceaaMarks
import Derived.Test.YtoifjkggpanceaaApply
import Derived.ProofKit
import Derived.OpenShut
import Derived.ShutString
import Derived.ChangeOld
import Derived.Test.YtoifjkggpanceaaJExactApplySupertraits
namespace Go.Proofs.Ytoifjkggpanceaa.fnExactApplySupertraitsDone
open Go.Proofs Go.Proofs.Ytoifjkggpanceaa Go.ChangeShapes Go.WideShapes Go.ChangeAt Go.RowKit
open Go.ChangeMaps (open_string shut_string)

theorem obchg {S : Nat → Prop} {w w' : World} {g : Nat} {t : TypeId} {cs : Array Value} (h : OB w g t cs) (hc : Chg S w w') (hn : ¬ S g) : OB w' g t cs := (hc.block g h.lt hn).trans h
set_option maxRecDepth 100000 in
set_option maxHeartbeats 8000000 in
theorem law_FnExactApplySupertraits (w : World) (x0 : GEvidence) (cs0 : List Value) (hr0 : RepL w x0.tr cs0) (x1 : List Int) (s1 : Value) (hr1 : Rep w (.row 1 (intTrs x1)) s1) :
    Calls Try.prog 4 #[.agg ⟨cs0⟩, s1] w fun e w' => e = .returned (.bool true) ∧ Below w.heap.size w w' := by
  have HL0 : Hid (cs0.length = 5) := by rw [← hr0.length, GEvidence.tr_len]; rfl
  have HI0 : Hid ((Try.prog.info? 44).map (·.size) = some cs0.length) := by rw [HL0.out]; exact isz44
  have HR0 := Lib.hid hr0
  clear hr0
  obtain ⟨sa1, sc1, rfl, hsl1, hsm1⟩ := hr1.shape
  rw [intTrs_len] at *
  unfold maxLen at hsm1
  have HR1 := Lib.hid hr1
  clear hr1
  go_enter Try.func4, Try.ntmps4
  go_wp2_with (first
    | (refine wpList_load_rep rfl 44 (.tmp 2) rfl (w.heap.size) 0 rfl cs0 _ Try.underlying44 HI0.out (OB.cells0 (OB.new w _ _)) ?_))
  · go_ret
    exact ⟨rfl, (Ext.alloc (Ext.refl _) _)⟩
  refine (szEvidence_all x0 _ _ _ (HR0.out.ext (Ext.alloc (Ext.refl _) _)) (by omega) (by omega)).mono ?_
  rintro e w1 ⟨r1, rfl, hw1, ra1, rb1, rc1⟩
  have RC1 := Lib.hid rc1
  clear rc1
  have Fp0_1 := Lib.hid ((OB.new w _ _).ext hw1)
  have X1 := Lib.hid (Ext.trans (Ext.alloc (Ext.refl _) _) hw1)
  have z1 : w.heap.size + 1 ≤ w1.heap.size := (by have h1 := hw1.size; simp only [World.size_alloc] at h1; omega)
  clear hw1
  go_wp2_with (first
    | (refine wpList_load_rep rfl 44 (.tmp 2) rfl (w.heap.size) 0 rfl cs0 _ Try.underlying44 HI0.out (OB.cells0 (Fp0_1.out)) ?_))
  · go_ret
    exact ⟨rfl, X1.out⟩
  have hb0 := RC1.out (by omega)
  refine (toEvidence_all x0 _ _ (HR0.out.ext X1.out) (by omega)).mono ?_
  rintro e w2 ⟨t2, rfl, hw2, ho2⟩
  have HO2 := Lib.hid ho2
  have HT2 : Hid (t2.length = 5) := (by rw [ho2.1]; exact GEvidence.tr_len _)
  have HJ2 : Hid ((Try.prog.info? 50).map (·.size) = some t2.length) := (by rw [HT2.out]; exact isz50)
  clear ho2
  have Fp0_2 := Lib.hid ((Fp0_1.out).ext hw2)
  have X2 := Lib.hid (Ext.trans X1.out hw2)
  have z2 : w1.heap.size ≤ w2.heap.size := hw2.size
  clear hw2
  go_wp2_with (first
    | (refine wpList_load_rep rfl 44 (.tmp 2) rfl (w.heap.size) 0 rfl cs0 _ Try.underlying44 HI0.out (OB.cells0 (Fp0_2.out)) ?_))
  refine (toIntS_all x1 _ _ (HR1.out.ext X2.out) (by rw [intTrs_len, intTrs_bulk]; omega)).mono ?_
  rintro e w3 ⟨tv3, rfl, hw3, ho3⟩
  have HO3 := Lib.hid ho3
  obtain ⟨ta3, tc3, hv3, -, -⟩ := HO3.out.rep.shape
  rw [intTrs_len] at hv3
  subst hv3
  clear ho3
  have Fp0_3 := Lib.hid ((Fp0_2.out).ext hw3)
  have Ft2_3 := Lib.hid ((HO2.out).ext hw3)
  have X3 := Lib.hid (Ext.trans X2.out hw3)
  have z3 : w2.heap.size ≤ w3.heap.size := hw3.size
  clear hw3
  go_wp2_with (first
    | (refine wpList_load_rep rfl 44 (.tmp 2) rfl (w.heap.size) 0 rfl cs0 _ Try.underlying44 HI0.out (OB.cells0 (Fp0_3.out)) ?_))
  refine (apply_spec x0 x1 _ _ _ ((Ft2_3.out).rep) ((HO3.out).rep) (by omega)).mono ?_
  rintro e w4 ⟨t4, rfl, hw4, ho4⟩
  have HO4 := Lib.hid ho4
  have HT4 : Hid (t4.length = 5) := (by rw [ho4.1]; exact GEvidence.tr_len _)
  have HJ4 : Hid ((Try.prog.info? 50).map (·.size) = some t4.length) := (by rw [HT4.out]; exact isz50)
  clear ho4
  have Fp0_4 := Lib.hid ((Fp0_3.out).ext hw4)
  have Ft2_4 := Lib.hid ((Ft2_3.out).ext hw4)
  have Ft3_4 := Lib.hid ((HO3.out).ext hw4)
  have X4 := Lib.hid (Ext.trans X3.out hw4)
  have z4 : w3.heap.size ≤ w4.heap.size := hw4.size
  clear hw4
  go_wp2_with (first
    | (refine wpList_store_rep rfl 50 (.tmp 6) (.tmp 26) rfl w4.heap.size 0 rfl t4 rfl 50 _ (OB.new w4 _ _) HJ4.out (by rw [HT4.out]; exact Nat.le_refl _) (HO4.out.rep.one) ?_; intro w5 hob hgb hzb; rw [splice_whole (by rw [HT4.out]; rfl)] at hob; have hw5 := grown_ext (.alloc (.refl w4) _) hgb (Nat.le_refl _); have Fp0_5 := Lib.hid ((Fp0_4.out).ext hw5); have Ft4_5 := Lib.hid ((HO4.out).ext hw5); have X5 := Lib.hid (Ext.trans X4.out hw5); have z5 : w4.heap.size ≤ w5.heap.size := hw5.size; have Fb5_5 := Lib.hid hob; have zs5 : w4.heap.size < w5.heap.size := hob.lt; clear hob hgb hzb hw5)
    | (refine wpList_load_rep rfl 44 (.tmp 2) rfl (w.heap.size) 0 rfl cs0 _ Try.underlying44 HI0.out (OB.cells0 (Fp0_5.out)) ?_)
    | (refine wpList_load_rep rfl 50 (.tmp 6) rfl (w4.heap.size) 0 rfl t4 _ Try.underlying50 HJ4.out (OB.cells0 (Fb5_5.out)) ?_))
  refine (toEvidence_all x0 _ _ (HR0.out.ext X5.out) (by omega)).mono ?_
  rintro e w6 ⟨t6, rfl, hw6, ho6⟩
  have HO6 := Lib.hid ho6
  have HT6 : Hid (t6.length = 5) := (by rw [ho6.1]; exact GEvidence.tr_len _)
  have HJ6 : Hid ((Try.prog.info? 50).map (·.size) = some t6.length) := (by rw [HT6.out]; exact isz50)
  clear ho6
  have Fp0_6 := Lib.hid ((Fp0_5.out).ext hw6)
  have Ft4_6 := Lib.hid ((Ft4_5.out).ext hw6)
  have Fb5_6 := Lib.hid ((Fb5_5.out).ext hw6)
  have X6 := Lib.hid (Ext.trans X5.out hw6)
  have z6 : w5.heap.size ≤ w6.heap.size := hw6.size
  clear hw6
  go_wp2_with (first
    | (refine wpList_store_rep rfl 50 (.tmp 7) (.tmp 28) rfl w6.heap.size 0 rfl t6 rfl 50 _ (OB.new w6 _ _) HJ6.out (by rw [HT6.out]; exact Nat.le_refl _) (HO6.out.rep.one) ?_; intro w7 hob hgb hzb; rw [splice_whole (by rw [HT6.out]; rfl)] at hob; have hw7 := grown_ext (.alloc (.refl w6) _) hgb (Nat.le_refl _); have Fp0_7 := Lib.hid ((Fp0_6.out).ext hw7); have Ft4_7 := Lib.hid ((Ft4_6.out).ext hw7); have Fb5_7 := Lib.hid ((Fb5_6.out).ext hw7); have Ft6_7 := Lib.hid ((HO6.out).ext hw7); have X7 := Lib.hid (Ext.trans X6.out hw7); have z7 : w6.heap.size ≤ w7.heap.size := hw7.size; have Fb7_7 := Lib.hid hob; have zs7 : w6.heap.size < w7.heap.size := hob.lt; clear hob hgb hzb hw7)
    | (refine wpList_load_rep rfl 44 (.tmp 2) rfl (w.heap.size) 0 rfl cs0 _ Try.underlying44 HI0.out (OB.cells0 (Fp0_7.out)) ?_)
    | (refine wpList_load_rep rfl 50 (.tmp 6) rfl (w4.heap.size) 0 rfl t4 _ Try.underlying50 HJ4.out (OB.cells0 (Fb5_7.out)) ?_)
    | (refine wpList_load_rep rfl 50 (.tmp 7) rfl (w6.heap.size) 0 rfl t6 _ Try.underlying50 HJ6.out (OB.cells0 (Fb7_7.out)) ?_))
  refine (toIntS_all x1 _ _ (HR1.out.ext X7.out) (by rw [intTrs_len, intTrs_bulk]; omega)).mono ?_
  rintro e w8 ⟨tv8, rfl, hw8, ho8⟩
  have HO8 := Lib.hid ho8
  obtain ⟨ta8, tc8, hv8, -, -⟩ := HO8.out.rep.shape
  rw [intTrs_len] at hv8
  subst hv8
  clear ho8
  have Fp0_8 := Lib.hid ((Fp0_7.out).ext hw8)
  have Ft4_8 := Lib.hid ((Ft4_7.out).ext hw8)
  have Fb5_8 := Lib.hid ((Fb5_7.out).ext hw8)
  have Ft6_8 := Lib.hid ((Ft6_7.out).ext hw8)
  have Fb7_8 := Lib.hid ((Fb7_7.out).ext hw8)
  have X8 := Lib.hid (Ext.trans X7.out hw8)
  have z8 : w7.heap.size ≤ w8.heap.size := hw8.size
  clear hw8
  go_wp2_with (first
    | (refine wpList_load_rep rfl 44 (.tmp 2) rfl (w.heap.size) 0 rfl cs0 _ Try.underlying44 HI0.out (OB.cells0 (Fp0_8.out)) ?_)
    | (refine wpList_load_rep rfl 50 (.tmp 6) rfl (w4.heap.size) 0 rfl t4 _ Try.underlying50 HJ4.out (OB.cells0 (Fb5_8.out)) ?_)
    | (refine wpList_load_rep rfl 50 (.tmp 7) rfl (w6.heap.size) 0 rfl t6 _ Try.underlying50 HJ6.out (OB.cells0 (Fb7_8.out)) ?_))
  refine (apply_impl x0 x1 _ _ _ ((Ft6_8.out).rep) ((HO8.out).rep) (by omega)).mono ?_
  rintro e w9 ⟨t9, rfl, hw9, ho9⟩
  have HO9 := Lib.hid ho9
  have HT9 : Hid (t9.length = 5) := (by rw [ho9.1]; exact GEvidence.tr_len _)
  have HJ9 : Hid ((Try.prog.info? 50).map (·.size) = some t9.length) := (by rw [HT9.out]; exact isz50)
  clear ho9
  have Fp0_9 := Lib.hid ((Fp0_8.out).ext hw9)
  have Ft4_9 := Lib.hid ((Ft4_8.out).ext hw9)
  have Fb5_9 := Lib.hid ((Fb5_8.out).ext hw9)
  have Ft6_9 := Lib.hid ((Ft6_8.out).ext hw9)
  have Fb7_9 := Lib.hid ((Fb7_8.out).ext hw9)
  have Ft8_9 := Lib.hid ((HO8.out).ext hw9)
  have X9 := Lib.hid (Ext.trans X8.out hw9)
  have z9 : w8.heap.size ≤ w9.heap.size := hw9.size
  clear hw9
  go_wp2_with (first
    | (refine wpList_store_rep rfl 50 (.tmp 9) (.tmp 33) rfl w9.heap.size 0 rfl t9 rfl 50 _ (OB.new w9 _ _) HJ9.out (by rw [HT9.out]; exact Nat.le_refl _) (HO9.out.rep.one) ?_; intro w10 hob hgb hzb; rw [splice_whole (by rw [HT9.out]; rfl)] at hob; have hw10 := grown_ext (.alloc (.refl w9) _) hgb (Nat.le_refl _); have Fp0_10 := Lib.hid ((Fp0_9.out).ext hw10); have Ft4_10 := Lib.hid ((Ft4_9.out).ext hw10); have Fb5_10 := Lib.hid ((Fb5_9.out).ext hw10); have Ft6_10 := Lib.hid ((Ft6_9.out).ext hw10); have Fb7_10 := Lib.hid ((Fb7_9.out).ext hw10); have Ft8_10 := Lib.hid ((Ft8_9.out).ext hw10); have Ft9_10 := Lib.hid ((HO9.out).ext hw10); have X10 := Lib.hid (Ext.trans X9.out hw10); have z10 : w9.heap.size ≤ w10.heap.size := hw10.size; have Fb10_10 := Lib.hid hob; have zs10 : w9.heap.size < w10.heap.size := hob.lt; clear hob hgb hzb hw10)
    | (refine wpList_load_rep rfl 44 (.tmp 2) rfl (w.heap.size) 0 rfl cs0 _ Try.underlying44 HI0.out (OB.cells0 (Fp0_10.out)) ?_)
    | (refine wpList_load_rep rfl 50 (.tmp 6) rfl (w4.heap.size) 0 rfl t4 _ Try.underlying50 HJ4.out (OB.cells0 (Fb5_10.out)) ?_)
    | (refine wpList_load_rep rfl 50 (.tmp 7) rfl (w6.heap.size) 0 rfl t6 _ Try.underlying50 HJ6.out (OB.cells0 (Fb7_10.out)) ?_)
    | (refine wpList_load_rep rfl 50 (.tmp 9) rfl (w9.heap.size) 0 rfl t9 _ Try.underlying50 HJ9.out (OB.cells0 (Fb10_10.out)) ?_))
  refine (eqEvidence_all (GEvidence.lift x0 x1) _ _ _ (Ft9_10.out).rep (Ft4_10.out).rep).mono ?_
  rintro e w11 ⟨rfl, hw11⟩
  have Fp0_11 := Lib.hid ((Fp0_10.out).ext hw11)
  have Ft4_11 := Lib.hid ((Ft4_10.out).ext hw11)
  have Fb5_11 := Lib.hid ((Fb5_10.out).ext hw11)
  have Ft6_11 := Lib.hid ((Ft6_10.out).ext hw11)
  have Fb7_11 := Lib.hid ((Fb7_10.out).ext hw11)
  have Ft8_11 := Lib.hid ((Ft8_10.out).ext hw11)
  have Ft9_11 := Lib.hid ((Ft9_10.out).ext hw11)
  have Fb10_11 := Lib.hid ((Fb10_10.out).ext hw11)
  have X11 := Lib.hid (Ext.trans X10.out hw11)
  have z11 : w10.heap.size ≤ w11.heap.size := hw11.size
  clear hw11
  go_wp2_with (first
    | (refine wpList_load_rep rfl 44 (.tmp 2) rfl (w.heap.size) 0 rfl cs0 _ Try.underlying44 HI0.out (OB.cells0 (Fp0_11.out)) ?_)
    | (refine wpList_load_rep rfl 50 (.tmp 6) rfl (w4.heap.size) 0 rfl t4 _ Try.underlying50 HJ4.out (OB.cells0 (Fb5_11.out)) ?_)
    | (refine wpList_load_rep rfl 50 (.tmp 7) rfl (w6.heap.size) 0 rfl t6 _ Try.underlying50 HJ6.out (OB.cells0 (Fb7_11.out)) ?_)
    | (refine wpList_load_rep rfl 50 (.tmp 9) rfl (w9.heap.size) 0 rfl t9 _ Try.underlying50 HJ9.out (OB.cells0 (Fb10_11.out)) ?_))
  refine wp_region_held_drew (S := Ext w11) (by kernel_rfl) (.drew (.refl _)) (fun hHeld => ?_)
  refine wpAnyH_load_rep (i := 0) rfl (by kernel_rfl) (by kernel_rfl) (by kernel_rfl) (fun _ _ _ h => h) rfl 50 (.tmp 7) rfl (w6.heap.size) 0 rfl t6 _ Try.underlying50 HJ6.out (fun w hS => OB.cells0 ((Fb7_11.out).ext hS)) (by assumption) (fun _ _ _ _ h => h) ?_
  simp only [Act.put, List.getElem_toArray, List.getElem_cons_zero, List.setIfInBounds_toArray, List.set_cons_zero, List.set_cons_succ]
  refine wpAnyH_load_rep (i := 1) rfl (by kernel_rfl) (by kernel_rfl) (by kernel_rfl) (fun _ _ _ h => h) rfl 44 (.tmp 2) rfl (w.heap.size) 0 rfl cs0 _ Try.underlying44 HI0.out (fun w hS => OB.cells0 ((Fp0_11.out).ext hS)) (by assumption) (fun _ _ _ _ h => h) ?_
  simp only [Act.put, List.getElem_toArray, List.getElem_cons_zero, List.getElem_cons_succ, List.setIfInBounds_toArray, List.set_cons_zero, List.set_cons_succ]
  refine wpAnyH_call (i := 2) (by kernel_rfl) rfl rfl (run_call_func rfl rfl #[.agg ⟨cs0⟩] (by simp only [List.map_toArray, List.map_cons, List.map_nil, Act.eval]; rfl) Try.func25 (by kernel_rfl) (by kernel_rfl) _) (toEvidence_all x0 _ _ (HR0.out.ext (Ext.trans X11.out (.drew (.refl _)))) (by omega)) ?_
  rintro e w12 ⟨t12, rfl, hw12, ho12⟩
  have HO12 := Lib.hid ho12
  have HT12 : Hid (t12.length = 5) := (by rw [ho12.1]; exact GEvidence.tr_len _)
  have HJ12 : Hid ((Try.prog.info? 50).map (·.size) = some t12.length) := (by rw [HT12.out]; exact isz50)
  clear ho12
  have hs12 := Ext.trans hHeld hw12
  refine ⟨_, rfl, hs12, ?_⟩
  have Fp0_12 := Lib.hid (((Fp0_11.out).ext (Ext.drew (.refl w11))).ext hw12)
  have Ft4_12 := Lib.hid (((Ft4_11.out).ext (Ext.drew (.refl w11))).ext hw12)
  have Fb5_12 := Lib.hid (((Fb5_11.out).ext (Ext.drew (.refl w11))).ext hw12)
  have Ft6_12 := Lib.hid (((Ft6_11.out).ext (Ext.drew (.refl w11))).ext hw12)
  have Fb7_12 := Lib.hid (((Fb7_11.out).ext (Ext.drew (.refl w11))).ext hw12)
  have Ft8_12 := Lib.hid (((Ft8_11.out).ext (Ext.drew (.refl w11))).ext hw12)
  have Ft9_12 := Lib.hid (((Ft9_11.out).ext (Ext.drew (.refl w11))).ext hw12)
  have Fb10_12 := Lib.hid (((Fb10_11.out).ext (Ext.drew (.refl w11))).ext hw12)
  have X12 := Lib.hid (Ext.trans (Ext.trans X11.out (.drew (.refl _))) hw12)
  have z12 : w11.heap.size ≤ w12.heap.size := hw12.size
  simp only [Act.put, List.getElem_toArray, List.getElem_cons_zero, List.getElem_cons_succ, List.setIfInBounds_toArray, List.set_cons_zero, List.set_cons_succ]
  refine wpAnyH_call (i := 3) (by kernel_rfl) rfl rfl (run_call_func rfl rfl #[.agg ⟨t6⟩, .agg ⟨t12⟩] (by simp only [List.map_toArray, List.map_cons, List.map_nil, Act.eval]; rfl) Try.func28 (by kernel_rfl) (by kernel_rfl) _) (eqEvidence_all x0 _ _ _ (Ft6_12.out).rep (HO12.out).rep) ?_
  rintro e w13 ⟨rfl, hw13⟩
  have hs13 := Ext.trans hs12 hw13
  refine ⟨_, rfl, hs13, ?_⟩
  have Fp0_13 := Lib.hid ((Fp0_12.out).ext hw13)
  have Ft4_13 := Lib.hid ((Ft4_12.out).ext hw13)
  have Fb5_13 := Lib.hid ((Fb5_12.out).ext hw13)
  have Ft6_13 := Lib.hid ((Ft6_12.out).ext hw13)
  have Fb7_13 := Lib.hid ((Fb7_12.out).ext hw13)
  have Ft8_13 := Lib.hid ((Ft8_12.out).ext hw13)
  have Ft9_13 := Lib.hid ((Ft9_12.out).ext hw13)
  have Fb10_13 := Lib.hid ((Fb10_12.out).ext hw13)
  have Ft12_13 := Lib.hid ((HO12.out).ext hw13)
  have X13 := Lib.hid (Ext.trans X12.out hw13)
  have z13 : w12.heap.size ≤ w13.heap.size := hw13.size
  simp only [Act.put, List.getElem_toArray, List.getElem_cons_zero, List.getElem_cons_succ, List.setIfInBounds_toArray, List.set_cons_zero, List.set_cons_succ]
  refine wpAnyH_take (i := 4) rfl (by kernel_rfl) (by kernel_rfl) (by kernel_rfl) (fun _ _ _ h => h) (.inl ⟨rfl, fun _ _ => rfl⟩) (by assumption) ?_
  simp only [Act.put, List.getElem_toArray, List.getElem_cons_zero, List.getElem_cons_succ, List.setIfInBounds_toArray, List.set_cons_zero, List.set_cons_succ]
  refine wpAnyH_done (by kernel_rfl) ?_ _
  clear hHeld hs12 hw12 hs13 hw13
  go_wp2_with (first
    | (refine wpList_load_rep rfl 44 (.tmp 2) rfl (w.heap.size) 0 rfl cs0 _ Try.underlying44 HI0.out (OB.cells0 (Fp0_13.out)) ?_)
    | (refine wpList_load_rep rfl 50 (.tmp 6) rfl (w4.heap.size) 0 rfl t4 _ Try.underlying50 HJ4.out (OB.cells0 (Fb5_13.out)) ?_)
    | (refine wpList_load_rep rfl 50 (.tmp 7) rfl (w6.heap.size) 0 rfl t6 _ Try.underlying50 HJ6.out (OB.cells0 (Fb7_13.out)) ?_)
    | (refine wpList_load_rep rfl 50 (.tmp 9) rfl (w9.heap.size) 0 rfl t9 _ Try.underlying50 HJ9.out (OB.cells0 (Fb10_13.out)) ?_))
  refine (toIntS_all x1 _ _ (HR1.out.ext X13.out) (by rw [intTrs_len, intTrs_bulk]; omega)).mono ?_
  rintro e w14 ⟨tv14, rfl, hw14, ho14⟩
  have HO14 := Lib.hid ho14
  obtain ⟨ta14, tc14, hv14, -, -⟩ := HO14.out.rep.shape
  rw [intTrs_len] at hv14
  subst hv14
  clear ho14
  have Fp0_14 := Lib.hid ((Fp0_13.out).ext hw14)
  have Ft4_14 := Lib.hid ((Ft4_13.out).ext hw14)
  have Fb5_14 := Lib.hid ((Fb5_13.out).ext hw14)
  have Ft6_14 := Lib.hid ((Ft6_13.out).ext hw14)
  have Fb7_14 := Lib.hid ((Fb7_13.out).ext hw14)
  have Ft8_14 := Lib.hid ((Ft8_13.out).ext hw14)
  have Ft9_14 := Lib.hid ((Ft9_13.out).ext hw14)
  have Fb10_14 := Lib.hid ((Fb10_13.out).ext hw14)
  have X14 := Lib.hid (Ext.trans X13.out hw14)
  have z14 : w13.heap.size ≤ w14.heap.size := hw14.size
  clear hw14
  go_wp2_with (first
    | (refine wpList_load_rep rfl 44 (.tmp 2) rfl (w.heap.size) 0 rfl cs0 _ Try.underlying44 HI0.out (OB.cells0 (Fp0_14.out)) ?_)
    | (refine wpList_load_rep rfl 50 (.tmp 6) rfl (w4.heap.size) 0 rfl t4 _ Try.underlying50 HJ4.out (OB.cells0 (Fb5_14.out)) ?_)
    | (refine wpList_load_rep rfl 50 (.tmp 7) rfl (w6.heap.size) 0 rfl t6 _ Try.underlying50 HJ6.out (OB.cells0 (Fb7_14.out)) ?_)
    | (refine wpList_load_rep rfl 50 (.tmp 9) rfl (w9.heap.size) 0 rfl t9 _ Try.underlying50 HJ9.out (OB.cells0 (Fb10_14.out)) ?_))
  refine (eqIntS_all x1 _ _ _ (Ft8_14.out).rep (HO14.out).rep).mono ?_
  rintro e w15 ⟨rfl, hw15⟩
  have Fp0_15 := Lib.hid ((Fp0_14.out).ext hw15)
  have Ft4_15 := Lib.hid ((Ft4_14.out).ext hw15)
  have Fb5_15 := Lib.hid ((Fb5_14.out).ext hw15)
  have Ft6_15 := Lib.hid ((Ft6_14.out).ext hw15)
  have Fb7_15 := Lib.hid ((Fb7_14.out).ext hw15)
  have Ft8_15 := Lib.hid ((Ft8_14.out).ext hw15)
  have Ft9_15 := Lib.hid ((Ft9_14.out).ext hw15)
  have Fb10_15 := Lib.hid ((Fb10_14.out).ext hw15)
  have Ft14_15 := Lib.hid ((HO14.out).ext hw15)
  have X15 := Lib.hid (Ext.trans X14.out hw15)
  have z15 : w14.heap.size ≤ w15.heap.size := hw15.size
  clear hw15
  go_wp2_with (first
    | (refine wpList_load_rep rfl 44 (.tmp 2) rfl (w.heap.size) 0 rfl cs0 _ Try.underlying44 HI0.out (OB.cells0 (Fp0_15.out)) ?_)
    | (refine wpList_load_rep rfl 50 (.tmp 6) rfl (w4.heap.size) 0 rfl t4 _ Try.underlying50 HJ4.out (OB.cells0 (Fb5_15.out)) ?_)
    | (refine wpList_load_rep rfl 50 (.tmp 7) rfl (w6.heap.size) 0 rfl t6 _ Try.underlying50 HJ6.out (OB.cells0 (Fb7_15.out)) ?_)
    | (refine wpList_load_rep rfl 50 (.tmp 9) rfl (w9.heap.size) 0 rfl t9 _ Try.underlying50 HJ9.out (OB.cells0 (Fb10_15.out)) ?_))
  obtain ⟨mk_t6_1, Hmk_t6_1⟩ : ∃ q, Hid (1 + Tr.topN (x0).tr = q) := ⟨_, rfl⟩
  refine (markEvidence_all x0 _ _ 1 (Between w5 w6) _ (by rfl) (Ft6_15.out) (fun b hb => by have h1 := hb.1; have h2 := hb.2; omega) (by have := GEvidence.top_bulk x0; omega)).mono ?_
  rintro e w16 ⟨he, hm16, hc16⟩
  rw [Hmk_t6_1.out] at he
  subst he
  have Fp0_16 := Lib.hid (obchg (Fp0_15.out) hc16 (fun h => by have h1 := h.1; have h2 := h.2; omega))
  have Ft4_16 := Lib.hid ((Ft4_15.out).keep fun b hb hl => hc16.block b hl (fun hs => by have h1 := hb.1; have h2 := hb.2; have h3 := hs.1; have h4 := hs.2; omega))
  have Fb5_16 := Lib.hid (obchg (Fb5_15.out) hc16 (fun h => by have h1 := h.1; have h2 := h.2; omega))
  have Fb7_16 := Lib.hid (obchg (Fb7_15.out) hc16 (fun h => by have h1 := h.1; have h2 := h.2; omega))
  have Ft8_16 := Lib.hid ((Ft8_15.out).keep fun b hb hl => hc16.block b hl (fun hs => by have h1 := hb.1; have h2 := hb.2; have h3 := hs.1; have h4 := hs.2; omega))
  have Ft9_16 := Lib.hid ((Ft9_15.out).keep fun b hb hl => hc16.block b hl (fun hs => by have h1 := hb.1; have h2 := hb.2; have h3 := hs.1; have h4 := hs.2; omega))
  have Fb10_16 := Lib.hid (obchg (Fb10_15.out) hc16 (fun h => by have h1 := h.1; have h2 := h.2; omega))
  have X16 := Lib.hid (Chg.ext X15.out hc16 (fun b hb => by have h1 := hb.1; omega))
  have z16 : w15.heap.size ≤ w16.heap.size := hc16.size
  have Ft6_16 := Lib.hid hm16
  clear hc16 hm16
  have hng16 : ¬ ((mk_t6_1 : Nat) : Int) < 0 := by omega
  go_wp2_with (first
    | (refine wpList_load_rep rfl 44 (.tmp 2) rfl (w.heap.size) 0 rfl cs0 _ Try.underlying44 HI0.out (OB.cells0 (Fp0_16.out)) ?_)
    | (refine wpList_load_rep rfl 50 (.tmp 6) rfl (w4.heap.size) 0 rfl t4 _ Try.underlying50 HJ4.out (OB.cells0 (Fb5_16.out)) ?_)
    | (refine wpList_load_rep rfl 50 (.tmp 7) rfl (w6.heap.size) 0 rfl t6 _ Try.underlying50 HJ6.out (OB.cells0 (Fb7_16.out)) ?_)
    | (refine wpList_load_rep rfl 50 (.tmp 9) rfl (w9.heap.size) 0 rfl t9 _ Try.underlying50 HJ9.out (OB.cells0 (Fb10_16.out)) ?_))
  obtain ⟨mk_t8_mk_t6_1, Hmk_t8_mk_t6_1⟩ : ∃ q, Hid (mk_t6_1 + Tr.cntE (intTrs x1) = q) := ⟨_, rfl⟩
  refine (markIntS_all x1 _ _ mk_t6_1 (Between w7 w8) _ (by rfl) (Ft8_16.out) (fun b hb => by have h1 := hb.1; have h2 := hb.2; omega) (by have h0 := GEvidence.top_bulk x0; have h1 := Hmk_t6_1.out; have h2 := intTrs_cnt x1; omega)).mono ?_
  rintro e w17 ⟨he, hm17, hc17⟩
  rw [Hmk_t8_mk_t6_1.out] at he
  subst he
  have Fp0_17 := Lib.hid (obchg (Fp0_16.out) hc17 (fun h => by have h1 := h.1; have h2 := h.2; omega))
  have Ft4_17 := Lib.hid ((Ft4_16.out).keep fun b hb hl => hc17.block b hl (fun hs => by have h1 := hb.1; have h2 := hb.2; have h3 := hs.1; have h4 := hs.2; omega))
  have Fb5_17 := Lib.hid (obchg (Fb5_16.out) hc17 (fun h => by have h1 := h.1; have h2 := h.2; omega))
  have Ft6_17 := Lib.hid ((Ft6_16.out).keep fun b hb hl => hc17.block b hl (fun hs => by have h1 := hb.1; have h2 := hb.2; have h3 := hs.1; have h4 := hs.2; omega))
  have Fb7_17 := Lib.hid (obchg (Fb7_16.out) hc17 (fun h => by have h1 := h.1; have h2 := h.2; omega))
  have Ft9_17 := Lib.hid ((Ft9_16.out).keep fun b hb hl => hc17.block b hl (fun hs => by have h1 := hb.1; have h2 := hb.2; have h3 := hs.1; have h4 := hs.2; omega))
  have Fb10_17 := Lib.hid (obchg (Fb10_16.out) hc17 (fun h => by have h1 := h.1; have h2 := h.2; omega))
  have X17 := Lib.hid (Chg.ext X16.out hc17 (fun b hb => by have h1 := hb.1; omega))
  have z17 : w16.heap.size ≤ w17.heap.size := hc17.size
  have Ft8_17 := Lib.hid hm17
  clear hc17 hm17
  have hng17 : ¬ ((mk_t8_mk_t6_1 : Nat) : Int) < 0 := by omega
  go_wp2_with (first
    | (refine wpList_load_rep_g (by rfl) 44 (.tmp 2) rfl (w.heap.size) 0 rfl cs0 _ Try.underlying44 HI0.out (OB.cells0 (Fp0_17.out)) ?_)
    | (refine wpList_load_rep_g (by rfl) 50 (.tmp 6) rfl (w4.heap.size) 0 rfl t4 _ Try.underlying50 HJ4.out (OB.cells0 (Fb5_17.out)) ?_)
    | (refine wpList_load_rep_g (by rfl) 50 (.tmp 7) rfl (w6.heap.size) 0 rfl t6 _ Try.underlying50 HJ6.out (OB.cells0 (Fb7_17.out)) ?_)
    | (refine wpList_load_rep_g (by rfl) 50 (.tmp 9) rfl (w9.heap.size) 0 rfl t9 _ Try.underlying50 HJ9.out (OB.cells0 (Fb10_17.out)) ?_)
    | (refine wpList_load_rep rfl 44 (.tmp 2) rfl (w.heap.size) 0 rfl cs0 _ Try.underlying44 HI0.out (OB.cells0 (Fp0_17.out)) ?_)
    | (refine wpList_load_rep rfl 50 (.tmp 6) rfl (w4.heap.size) 0 rfl t4 _ Try.underlying50 HJ4.out (OB.cells0 (Fb5_17.out)) ?_)
    | (refine wpList_load_rep rfl 50 (.tmp 7) rfl (w6.heap.size) 0 rfl t6 _ Try.underlying50 HJ6.out (OB.cells0 (Fb7_17.out)) ?_)
    | (refine wpList_load_rep rfl 50 (.tmp 9) rfl (w9.heap.size) 0 rfl t9 _ Try.underlying50 HJ9.out (OB.cells0 (Fb10_17.out)) ?_))
  refine (eqEvidence_all (GEvidence.lift x0 x1) _ _ _ (Ft9_17.out).rep (Ft4_17.out).rep).mono ?_
  rintro e w18 ⟨rfl, hw18⟩
  have Fp0_18 := Lib.hid ((Fp0_17.out).ext hw18)
  have Ft4_18 := Lib.hid ((Ft4_17.out).ext hw18)
  have Fb5_18 := Lib.hid ((Fb5_17.out).ext hw18)
  have Ft6_18 := Lib.hid ((Ft6_17.out).ext hw18)
  have Fb7_18 := Lib.hid ((Fb7_17.out).ext hw18)
  have Ft8_18 := Lib.hid ((Ft8_17.out).ext hw18)
  have Ft9_18 := Lib.hid ((Ft9_17.out).ext hw18)
  have Fb10_18 := Lib.hid ((Fb10_17.out).ext hw18)
  have X18 := Lib.hid (Ext.trans X17.out hw18)
  have z18 : w17.heap.size ≤ w18.heap.size := hw18.size
  clear hw18
  go_wp2_with (first
    | (refine wpList_load_rep rfl 44 (.tmp 2) rfl (w.heap.size) 0 rfl cs0 _ Try.underlying44 HI0.out (OB.cells0 (Fp0_18.out)) ?_)
    | (refine wpList_load_rep rfl 50 (.tmp 6) rfl (w4.heap.size) 0 rfl t4 _ Try.underlying50 HJ4.out (OB.cells0 (Fb5_18.out)) ?_)
    | (refine wpList_load_rep rfl 50 (.tmp 7) rfl (w6.heap.size) 0 rfl t6 _ Try.underlying50 HJ6.out (OB.cells0 (Fb7_18.out)) ?_)
    | (refine wpList_load_rep rfl 50 (.tmp 9) rfl (w9.heap.size) 0 rfl t9 _ Try.underlying50 HJ9.out (OB.cells0 (Fb10_18.out)) ?_))
  obtain ⟨mk_t9_1, Hmk_t9_1⟩ : ∃ q, Hid (1 + Tr.topN ((GEvidence.lift x0 x1)).tr = q) := ⟨_, rfl⟩
  refine (markEvidence_all (GEvidence.lift x0 x1) _ _ 1 (Between w8 w9) _ (by rfl) (Ft9_18.out) (fun b hb => by have h1 := hb.1; have h2 := hb.2; omega) (by have := GEvidence.top_lift x0 x1; have := GEvidence.top_bulk x0; omega)).mono ?_
  rintro e w19 ⟨he, hm19, hc19⟩
  rw [Hmk_t9_1.out] at he
  subst he
  have Fp0_19 := Lib.hid (obchg (Fp0_18.out) hc19 (fun h => by have h1 := h.1; have h2 := h.2; omega))
  have Ft4_19 := Lib.hid ((Ft4_18.out).keep fun b hb hl => hc19.block b hl (fun hs => by have h1 := hb.1; have h2 := hb.2; have h3 := hs.1; have h4 := hs.2; omega))
  have Fb5_19 := Lib.hid (obchg (Fb5_18.out) hc19 (fun h => by have h1 := h.1; have h2 := h.2; omega))
  have Ft6_19 := Lib.hid ((Ft6_18.out).keep fun b hb hl => hc19.block b hl (fun hs => by have h1 := hb.1; have h2 := hb.2; have h3 := hs.1; have h4 := hs.2; omega))
  have Fb7_19 := Lib.hid (obchg (Fb7_18.out) hc19 (fun h => by have h1 := h.1; have h2 := h.2; omega))
  have Ft8_19 := Lib.hid ((Ft8_18.out).keep fun b hb hl => hc19.block b hl (fun hs => by have h1 := hb.1; have h2 := hb.2; have h3 := hs.1; have h4 := hs.2; omega))
  have Fb10_19 := Lib.hid (obchg (Fb10_18.out) hc19 (fun h => by have h1 := h.1; have h2 := h.2; omega))
  have X19 := Lib.hid (Chg.ext X18.out hc19 (fun b hb => by have h1 := hb.1; omega))
  have z19 : w18.heap.size ≤ w19.heap.size := hc19.size
  have Ft9_19 := Lib.hid hm19
  clear hc19 hm19
  have hng19 : ¬ ((mk_t9_1 : Nat) : Int) < 0 := by omega
  go_wp2_with (first
    | (refine wpList_load_rep rfl 44 (.tmp 2) rfl (w.heap.size) 0 rfl cs0 _ Try.underlying44 HI0.out (OB.cells0 (Fp0_19.out)) ?_)
    | (refine wpList_load_rep rfl 50 (.tmp 6) rfl (w4.heap.size) 0 rfl t4 _ Try.underlying50 HJ4.out (OB.cells0 (Fb5_19.out)) ?_)
    | (refine wpList_load_rep rfl 50 (.tmp 7) rfl (w6.heap.size) 0 rfl t6 _ Try.underlying50 HJ6.out (OB.cells0 (Fb7_19.out)) ?_)
    | (refine wpList_load_rep rfl 50 (.tmp 9) rfl (w9.heap.size) 0 rfl t9 _ Try.underlying50 HJ9.out (OB.cells0 (Fb10_19.out)) ?_))
  refine (heldEvidence_all (GEvidence.lift x0 x1) _ _ 1 _ (by rfl) (Ft9_19.out).rep (by have := GEvidence.top_lift x0 x1; have := GEvidence.top_bulk x0; omega)).mono ?_
  rintro e w20 ⟨he, hw20⟩
  rw [Hmk_t9_1.out] at he
  subst he
  have Fp0_20 := Lib.hid ((Fp0_19.out).ext hw20)
  have Ft4_20 := Lib.hid ((Ft4_19.out).ext hw20)
  have Fb5_20 := Lib.hid ((Fb5_19.out).ext hw20)
  have Ft6_20 := Lib.hid ((Ft6_19.out).ext hw20)
  have Fb7_20 := Lib.hid ((Fb7_19.out).ext hw20)
  have Ft8_20 := Lib.hid ((Ft8_19.out).ext hw20)
  have Ft9_20 := Lib.hid ((Ft9_19.out).ext hw20)
  have Fb10_20 := Lib.hid ((Fb10_19.out).ext hw20)
  have X20 := Lib.hid (Ext.trans X19.out hw20)
  have z20 : w19.heap.size ≤ w20.heap.size := hw20.size
  clear hw20
  go_wp2_with (first
    | (refine wpList_load_rep rfl 44 (.tmp 2) rfl (w.heap.size) 0 rfl cs0 _ Try.underlying44 HI0.out (OB.cells0 (Fp0_20.out)) ?_)
    | (refine wpList_load_rep rfl 50 (.tmp 6) rfl (w4.heap.size) 0 rfl t4 _ Try.underlying50 HJ4.out (OB.cells0 (Fb5_20.out)) ?_)
    | (refine wpList_load_rep rfl 50 (.tmp 7) rfl (w6.heap.size) 0 rfl t6 _ Try.underlying50 HJ6.out (OB.cells0 (Fb7_20.out)) ?_)
    | (refine wpList_load_rep rfl 50 (.tmp 9) rfl (w9.heap.size) 0 rfl t9 _ Try.underlying50 HJ9.out (OB.cells0 (Fb10_20.out)) ?_))
  refine (toEvidence_all x0 _ _ (HR0.out.ext X20.out) (by omega)).mono ?_
  rintro e w21 ⟨t21, rfl, hw21, ho21⟩
  have HO21 := Lib.hid ho21
  have HT21 : Hid (t21.length = 5) := (by rw [ho21.1]; exact GEvidence.tr_len _)
  have HJ21 : Hid ((Try.prog.info? 50).map (·.size) = some t21.length) := (by rw [HT21.out]; exact isz50)
  clear ho21
  have Fp0_21 := Lib.hid ((Fp0_20.out).ext hw21)
  have Ft4_21 := Lib.hid ((Ft4_20.out).ext hw21)
  have Fb5_21 := Lib.hid ((Fb5_20.out).ext hw21)
  have Ft6_21 := Lib.hid ((Ft6_20.out).ext hw21)
  have Fb7_21 := Lib.hid ((Fb7_20.out).ext hw21)
  have Ft8_21 := Lib.hid ((Ft8_20.out).ext hw21)
  have Ft9_21 := Lib.hid ((Ft9_20.out).ext hw21)
  have Fb10_21 := Lib.hid ((Fb10_20.out).ext hw21)
  have X21 := Lib.hid (Ext.trans X20.out hw21)
  have z21 : w20.heap.size ≤ w21.heap.size := hw21.size
  clear hw21
  go_wp2_with (first
    | (refine wpList_load_rep rfl 44 (.tmp 2) rfl (w.heap.size) 0 rfl cs0 _ Try.underlying44 HI0.out (OB.cells0 (Fp0_21.out)) ?_)
    | (refine wpList_load_rep rfl 50 (.tmp 6) rfl (w4.heap.size) 0 rfl t4 _ Try.underlying50 HJ4.out (OB.cells0 (Fb5_21.out)) ?_)
    | (refine wpList_load_rep rfl 50 (.tmp 7) rfl (w6.heap.size) 0 rfl t6 _ Try.underlying50 HJ6.out (OB.cells0 (Fb7_21.out)) ?_)
    | (refine wpList_load_rep rfl 50 (.tmp 9) rfl (w9.heap.size) 0 rfl t9 _ Try.underlying50 HJ9.out (OB.cells0 (Fb10_21.out)) ?_))
  refine (toIntS_all x1 _ _ (HR1.out.ext X21.out) (by rw [intTrs_len, intTrs_bulk]; omega)).mono ?_
  rintro e w22 ⟨tv22, rfl, hw22, ho22⟩
  have HO22 := Lib.hid ho22
  obtain ⟨ta22, tc22, hv22, -, -⟩ := HO22.out.rep.shape
  rw [intTrs_len] at hv22
  subst hv22
  clear ho22
  have Fp0_22 := Lib.hid ((Fp0_21.out).ext hw22)
  have Ft4_22 := Lib.hid ((Ft4_21.out).ext hw22)
  have Fb5_22 := Lib.hid ((Fb5_21.out).ext hw22)
  have Ft6_22 := Lib.hid ((Ft6_21.out).ext hw22)
  have Fb7_22 := Lib.hid ((Fb7_21.out).ext hw22)
  have Ft8_22 := Lib.hid ((Ft8_21.out).ext hw22)
  have Ft9_22 := Lib.hid ((Ft9_21.out).ext hw22)
  have Fb10_22 := Lib.hid ((Fb10_21.out).ext hw22)
  have Ft21_22 := Lib.hid ((HO21.out).ext hw22)
  have X22 := Lib.hid (Ext.trans X21.out hw22)
  have z22 : w21.heap.size ≤ w22.heap.size := hw22.size
  clear hw22
  go_wp2_with (first
    | (refine wpList_load_rep rfl 44 (.tmp 2) rfl (w.heap.size) 0 rfl cs0 _ Try.underlying44 HI0.out (OB.cells0 (Fp0_22.out)) ?_)
    | (refine wpList_load_rep rfl 50 (.tmp 6) rfl (w4.heap.size) 0 rfl t4 _ Try.underlying50 HJ4.out (OB.cells0 (Fb5_22.out)) ?_)
    | (refine wpList_load_rep rfl 50 (.tmp 7) rfl (w6.heap.size) 0 rfl t6 _ Try.underlying50 HJ6.out (OB.cells0 (Fb7_22.out)) ?_)
    | (refine wpList_load_rep rfl 50 (.tmp 9) rfl (w9.heap.size) 0 rfl t9 _ Try.underlying50 HJ9.out (OB.cells0 (Fb10_22.out)) ?_))
  refine (apply_impl x0 x1 _ _ _ ((Ft21_22.out).rep) ((HO22.out).rep) (by omega)).mono ?_
  rintro e w23 ⟨t23, rfl, hw23, ho23⟩
  have HO23 := Lib.hid ho23
  have HT23 : Hid (t23.length = 5) := (by rw [ho23.1]; exact GEvidence.tr_len _)
  have HJ23 : Hid ((Try.prog.info? 50).map (·.size) = some t23.length) := (by rw [HT23.out]; exact isz50)
  clear ho23
  have Fp0_23 := Lib.hid ((Fp0_22.out).ext hw23)
  have Ft4_23 := Lib.hid ((Ft4_22.out).ext hw23)
  have Fb5_23 := Lib.hid ((Fb5_22.out).ext hw23)
  have Ft6_23 := Lib.hid ((Ft6_22.out).ext hw23)
  have Fb7_23 := Lib.hid ((Fb7_22.out).ext hw23)
  have Ft8_23 := Lib.hid ((Ft8_22.out).ext hw23)
  have Ft9_23 := Lib.hid ((Ft9_22.out).ext hw23)
  have Fb10_23 := Lib.hid ((Fb10_22.out).ext hw23)
  have Ft21_23 := Lib.hid ((Ft21_22.out).ext hw23)
  have Ft22_23 := Lib.hid ((HO22.out).ext hw23)
  have X23 := Lib.hid (Ext.trans X22.out hw23)
  have z23 : w22.heap.size ≤ w23.heap.size := hw23.size
  clear hw23
  go_wp2_with (first
    | (refine wpList_store_rep rfl 50 (.tmp 13) (.tmp 77) rfl w23.heap.size 0 rfl t23 rfl 50 _ (OB.new w23 _ _) HJ23.out (by rw [HT23.out]; exact Nat.le_refl _) (HO23.out.rep.one) ?_; intro w24 hob hgb hzb; rw [splice_whole (by rw [HT23.out]; rfl)] at hob; have hw24 := grown_ext (.alloc (.refl w23) _) hgb (Nat.le_refl _); have Fp0_24 := Lib.hid ((Fp0_23.out).ext hw24); have Ft4_24 := Lib.hid ((Ft4_23.out).ext hw24); have Fb5_24 := Lib.hid ((Fb5_23.out).ext hw24); have Ft6_24 := Lib.hid ((Ft6_23.out).ext hw24); have Fb7_24 := Lib.hid ((Fb7_23.out).ext hw24); have Ft8_24 := Lib.hid ((Ft8_23.out).ext hw24); have Ft9_24 := Lib.hid ((Ft9_23.out).ext hw24); have Fb10_24 := Lib.hid ((Fb10_23.out).ext hw24); have Ft23_24 := Lib.hid ((HO23.out).ext hw24); have X24 := Lib.hid (Ext.trans X23.out hw24); have z24 : w23.heap.size ≤ w24.heap.size := hw24.size; have Fb24_24 := Lib.hid hob; have zs24 : w23.heap.size < w24.heap.size := hob.lt; clear hob hgb hzb hw24)
    | (refine wpList_load_rep rfl 44 (.tmp 2) rfl (w.heap.size) 0 rfl cs0 _ Try.underlying44 HI0.out (OB.cells0 (Fp0_24.out)) ?_)
    | (refine wpList_load_rep rfl 50 (.tmp 6) rfl (w4.heap.size) 0 rfl t4 _ Try.underlying50 HJ4.out (OB.cells0 (Fb5_24.out)) ?_)
    | (refine wpList_load_rep rfl 50 (.tmp 7) rfl (w6.heap.size) 0 rfl t6 _ Try.underlying50 HJ6.out (OB.cells0 (Fb7_24.out)) ?_)
    | (refine wpList_load_rep rfl 50 (.tmp 9) rfl (w9.heap.size) 0 rfl t9 _ Try.underlying50 HJ9.out (OB.cells0 (Fb10_24.out)) ?_)
    | (refine wpList_load_rep rfl 50 (.tmp 13) rfl (w23.heap.size) 0 rfl t23 _ Try.underlying50 HJ23.out (OB.cells0 (Fb24_24.out)) ?_))
  refine (eqEvidence_all (GEvidence.lift x0 x1) _ _ _ (Ft23_24.out).rep (Ft4_24.out).rep).mono ?_
  rintro e w25 ⟨rfl, hw25⟩
  have Fp0_25 := Lib.hid ((Fp0_24.out).ext hw25)
  have Ft4_25 := Lib.hid ((Ft4_24.out).ext hw25)
  have Fb5_25 := Lib.hid ((Fb5_24.out).ext hw25)
  have Ft6_25 := Lib.hid ((Ft6_24.out).ext hw25)
  have Fb7_25 := Lib.hid ((Fb7_24.out).ext hw25)
  have Ft8_25 := Lib.hid ((Ft8_24.out).ext hw25)
  have Ft9_25 := Lib.hid ((Ft9_24.out).ext hw25)
  have Fb10_25 := Lib.hid ((Fb10_24.out).ext hw25)
  have Ft23_25 := Lib.hid ((Ft23_24.out).ext hw25)
  have Fb24_25 := Lib.hid ((Fb24_24.out).ext hw25)
  have X25 := Lib.hid (Ext.trans X24.out hw25)
  have z25 : w24.heap.size ≤ w25.heap.size := hw25.size
  clear hw25
  go_wp2_with (first
    | (refine wpList_load_rep rfl 44 (.tmp 2) rfl (w.heap.size) 0 rfl cs0 _ Try.underlying44 HI0.out (OB.cells0 (Fp0_25.out)) ?_)
    | (refine wpList_load_rep rfl 50 (.tmp 6) rfl (w4.heap.size) 0 rfl t4 _ Try.underlying50 HJ4.out (OB.cells0 (Fb5_25.out)) ?_)
    | (refine wpList_load_rep rfl 50 (.tmp 7) rfl (w6.heap.size) 0 rfl t6 _ Try.underlying50 HJ6.out (OB.cells0 (Fb7_25.out)) ?_)
    | (refine wpList_load_rep rfl 50 (.tmp 9) rfl (w9.heap.size) 0 rfl t9 _ Try.underlying50 HJ9.out (OB.cells0 (Fb10_25.out)) ?_)
    | (refine wpList_load_rep rfl 50 (.tmp 13) rfl (w23.heap.size) 0 rfl t23 _ Try.underlying50 HJ23.out (OB.cells0 (Fb24_25.out)) ?_))
  refine (heldEvidence_all (GEvidence.lift x0 x1) _ _ 1 _ (by rfl) (Ft9_25.out).rep (by have := GEvidence.top_lift x0 x1; have := GEvidence.top_bulk x0; omega)).mono ?_
  rintro e w26 ⟨he, hw26⟩
  rw [Hmk_t9_1.out] at he
  subst he
  have Fp0_26 := Lib.hid ((Fp0_25.out).ext hw26)
  have Ft4_26 := Lib.hid ((Ft4_25.out).ext hw26)
  have Fb5_26 := Lib.hid ((Fb5_25.out).ext hw26)
  have Ft6_26 := Lib.hid ((Ft6_25.out).ext hw26)
  have Fb7_26 := Lib.hid ((Fb7_25.out).ext hw26)
  have Ft8_26 := Lib.hid ((Ft8_25.out).ext hw26)
  have Ft9_26 := Lib.hid ((Ft9_25.out).ext hw26)
  have Fb10_26 := Lib.hid ((Fb10_25.out).ext hw26)
  have Ft23_26 := Lib.hid ((Ft23_25.out).ext hw26)
  have Fb24_26 := Lib.hid ((Fb24_25.out).ext hw26)
  have X26 := Lib.hid (Ext.trans X25.out hw26)
  have z26 : w25.heap.size ≤ w26.heap.size := hw26.size
  clear hw26
  go_wp2_with (first
    | (refine wpList_load_rep rfl 44 (.tmp 2) rfl (w.heap.size) 0 rfl cs0 _ Try.underlying44 HI0.out (OB.cells0 (Fp0_26.out)) ?_)
    | (refine wpList_load_rep rfl 50 (.tmp 6) rfl (w4.heap.size) 0 rfl t4 _ Try.underlying50 HJ4.out (OB.cells0 (Fb5_26.out)) ?_)
    | (refine wpList_load_rep rfl 50 (.tmp 7) rfl (w6.heap.size) 0 rfl t6 _ Try.underlying50 HJ6.out (OB.cells0 (Fb7_26.out)) ?_)
    | (refine wpList_load_rep rfl 50 (.tmp 9) rfl (w9.heap.size) 0 rfl t9 _ Try.underlying50 HJ9.out (OB.cells0 (Fb10_26.out)) ?_)
    | (refine wpList_load_rep rfl 50 (.tmp 13) rfl (w23.heap.size) 0 rfl t23 _ Try.underlying50 HJ23.out (OB.cells0 (Fb24_26.out)) ?_))
  go_ret
  exact ⟨rfl, X26.out⟩

set_option linter.unusedVariables false
theorem own : ownKnob Try.prog.godebug = none := by kernel_rfl
theorem laidOut : laidOutB Try.prog = true := by kernel_rfl

set_option maxRecDepth 100000 in
theorem lifted (os : Os) (started : os.Started) (H : Type) (enc : TypeId × Value → H) :
    ReturnsInHanded {} Try.checked os 4 .any (Rows.fnExactApplySupertraitsSpec.pre6 enc Try.prog Try.f4 Rows.fnExactApplySupertraitsRow.domain false) (Rows.fnExactApplySupertraitsSpec.post enc Try.prog Try.f4 false true false false) := by
  refine returnsInHanded_of_change (C := Try.checked) own started (by kernel_rfl) Try.func4
    (ChangeSpec.witness6 (enc := enc) (C := Try.checked) false ⟨#[], #[.agg #[.int .i64 0, .int .i64 0, .int .i64 0, .int .i64 0, .slice none 0 0], .slice none 0 0], []⟩ 8 (by kernel_rfl) (by kernel_rfl) (by kernel_rfl) (by kernel_rfl)) ?_
  intro W base args ds gs before hval0 hW hcnd _
  have hval : ∀ (j : Nat) t v, Try.f4.params[j]? = some t → args[j]? = some v → Value.okWide Try.prog W .any base t v := hval0
  have hW' := hW
  obtain ⟨p, q, hA0, hV, rfl, hfz, hnd⟩ := hW
  have hA : DataW.TrodAll enc Try.prog W 0 (fun _ => true) true Try.f4.params.toList args.toList ds p := hA0
  rw [Try.params4] at hA hval
  obtain ⟨v0, vs0, d0, ds0, p0, q0, hargs, rfl, rfl, h0, r0⟩ := trodAll_cons hA
  obtain ⟨v1, vs1, d1, ds1, p1, q1, rfl, rfl, rfl, h1, r1⟩ := trodAll_cons r0
  obtain ⟨rfl, rfl, rfl⟩ := trodAll_nil r1
  obtain rfl : args = #[v0, v1] := by cases args; simp_all
  obtain ⟨rfl, rfl⟩ := trodVars_none hV
  have k0 := h0
  have lt0 : ∀ x ∈ p0, x.block < W.heap.size := by obtain ⟨m, hm⟩ := k0; exact DataW.trod_lt m _ _ _ hm
  obtain ⟨c0, rfl, -⟩ := okWide_struct Try.underlying44 (hval 0 44 v0 rfl rfl)
  obtain ⟨fu0, hf0⟩ := h0
  obtain ⟨ts0, ty0, rp0, -⟩ := tyOf_of_trod plainClosed fu0 44 c0.toList _ (by decide) hf0
  obtain ⟨x0, rfl⟩ := tyof_Evidence ty0
  have k1 := h1
  have lt1 : ∀ x ∈ p1, x.block < W.heap.size := by obtain ⟨m, hm⟩ := k1; exact DataW.trod_lt m _ _ _ hm
  obtain ⟨a1, len1, cap1, rfl⟩ := okWide_slice Try.underlying45 (hval 1 45 v1 rfl rfl)
  obtain ⟨fu1, hf1⟩ := h1
  obtain ⟨ts1, ty1, rp1, -⟩ := tyOf_of_trod plainClosed fu1 45 _ _ (by decide) hf1
  obtain ⟨es1, rfl, me1⟩ := ty1.slice_inv Try.underlying45
  obtain ⟨x1, rfl⟩ := list_of (tr := fun s => [Tr.leaf (.int .i64 s)]) (es := es1) fun e he => (me1 e he).int_inv Try.underlying3
  rw [cellsOf3] at rp1
  clear hA0 hval0
  refine (law_FnExactApplySupertraits W x0 c0.toList rp0 x1 _ rp1.1).mono fun e W' ⟨he, bel⟩ => ?_
  subst he
  exact ⟨_, rfl, _, _, _, [], _, [], hW', trodAll_mk1 (shut_bool Try.underlying4 _), (trodAll_cons_mk (Below.trod laidOut (by kernel_rfl) (of_decide_eq_true (by kernel_rfl)) k0 bel lt0) (trodAll_cons_mk (Below.trod laidOut (by kernel_rfl) (of_decide_eq_true (by kernel_rfl)) k1 bel lt1) trodAll_mk0)), rfl, bel.frame _, fun h => by cases h⟩

theorem over : Rows.fnExactApplySupertraitsRow.holds Try.pinned (OpenSpec.ofChange Rows.fnExactApplySupertraitsSpec) :=
  OpenClaim.holds_of_wide 4 Try.f4 rfl rfl rfl rfl rfl rfl rfl ⟨rfl, rfl, rfl, rfl, rfl⟩ rfl rfl rfl rfl rfl fnNamed Try.func4 factsJoin (of_decide_eq_true (by kernel_rfl)) wrapper
    (fun os started H enc _ => lifted os started H enc)

theorem proved : Rows.FnExactApplySupertraitsSaid := over
#print axioms proved

end Go.Proofs.Ytoifjkggpanceaa.fnExactApplySupertraitsDone
