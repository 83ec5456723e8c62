/- FnExactHomePackage returns true for every input, and leaves what was there as it was. No conditions. -/
import Derived.Test.YtnakkelglbcecaaRows
import Derived.Test.YtnakkelglbcecaaTyped
import Derived.Test.YtnakkelglbcecaaBAll
import Derived.Test.YtnakkelglbcecaaReg
import Derived.Test.YtnakkelglbcecaaPmHomeZ
import Derived.ProofKit
import Derived.OpenShut
import Derived.ShutString
import Derived.ChangeOld
import Derived.Test.YtnakkelglbcecaaJExactHomePackage
namespace Go.Proofs.Ytnakkelglbcecaa.fnExactHomePackageDone
open Go.Proofs Go.Proofs.Ytnakkelglbcecaa Go.ChangeShapes Go.WideShapes Go.ChangeAt Go.RowKit
open Go.ChangeMaps (open_string shut_string)

set_option maxRecDepth 100000 in
set_option maxHeartbeats 4000000 in
theorem law_FnExactHomePackage (w : World) (x0 : GProgram) (cs0 : List Value) (hr0 : RepL w x0.tr cs0) (x1 : GType) (cs1 : List Value) (hr1 : RepL w x1.tr cs1) :
    Calls Try.prog 3 #[.agg ⟨cs0⟩, .agg ⟨cs1⟩] w fun e w' => e = .returned (.bool true) ∧ Below w.heap.size w w' := by
  have HR0 := Lib.hid hr0
  have HL0 : Hid (cs0.length = 1) := by rw [← hr0.length, GProgram.tr_len]; rfl
  have HI0_24 : Hid ((Try.prog.info? 24).map (·.size) = some cs0.length) := by rw [HL0.out]; exact isz24
  have HI0_33 : Hid ((Try.prog.info? 33).map (·.size) = some cs0.length) := by rw [HL0.out]; exact isz33
  clear hr0
  have HR1 := Lib.hid hr1
  have HL1 : Hid (cs1.length = 3) := by rw [← hr1.length, GType.tr_len]; rfl
  have HI1_27 : Hid ((Try.prog.info? 27).map (·.size) = some cs1.length) := by rw [HL1.out]; exact isz27
  have HI1_37 : Hid ((Try.prog.info? 37).map (·.size) = some cs1.length) := by rw [HL1.out]; exact isz37
  clear hr1
  go_enter Try.func3, Try.ntmps3
  go_wp2_with (first
    | (refine wpList_load_rep rfl 24 (.tmp 2) rfl (w.heap.size) 0 rfl cs0 _ Try.underlying24 HI0_24.out (OB.cells0 ((Two.new w _ _ _ _).o0)) ?_)
    | (refine wpList_load_rep rfl 27 (.tmp 3) rfl (w.heap.size + 1) 0 rfl cs1 _ Try.underlying27 HI1_27.out (OB.cells0 ((Two.new w _ _ _ _).o1)) ?_))
  refine (szProgram_all x0 _ _ _ (HR0.out.ext (.alloc (.alloc (.refl _) _) _)) (by omega) (by omega)).mono ?_
  rintro e w1 ⟨r1, rfl, hw1, ra1, rb1, rc1⟩
  have RC1 := Lib.hid rc1
  clear rc1
  have op0_1 := Lib.hid (((Two.new w _ _ _ _).o0).ext hw1)
  have op1_1 := Lib.hid (((Two.new w _ _ _ _).o1).ext hw1)
  have HW1 := Lib.hid hw1
  clear hw1
  go_wp2_with (first
    | (refine wpList_load_rep rfl 24 (.tmp 2) rfl (w.heap.size) 0 rfl cs0 _ Try.underlying24 HI0_24.out (OB.cells0 (op0_1.out)) ?_)
    | (refine wpList_load_rep rfl 27 (.tmp 3) rfl (w.heap.size + 1) 0 rfl cs1 _ Try.underlying27 HI1_27.out (OB.cells0 (op1_1.out)) ?_))
  · go_ret
    exact ⟨rfl, (Ext.trans (.alloc (.alloc (.refl _) _) _) HW1.out)⟩
  refine (szType_all x1 _ _ _ (HR1.out.ext (Ext.trans (.alloc (.alloc (.refl _) _) _) HW1.out)) (by omega) (by omega)).mono ?_
  rintro e w2 ⟨r2, rfl, hw2, ra2, rb2, rc2⟩
  have RC2 := Lib.hid rc2
  clear rc2
  have op0_2 := Lib.hid ((op0_1.out).ext hw2)
  have op1_2 := Lib.hid ((op1_1.out).ext hw2)
  have HW2 := Lib.hid hw2
  clear hw2
  go_wp2_with (first
    | (refine wpList_load_rep rfl 24 (.tmp 2) rfl (w.heap.size) 0 rfl cs0 _ Try.underlying24 HI0_24.out (OB.cells0 (op0_2.out)) ?_)
    | (refine wpList_load_rep rfl 27 (.tmp 3) rfl (w.heap.size + 1) 0 rfl cs1 _ Try.underlying27 HI1_27.out (OB.cells0 (op1_2.out)) ?_))
  · go_ret
    exact ⟨rfl, (Ext.trans (Ext.trans (.alloc (.alloc (.refl _) _) _) HW1.out) HW2.out)⟩
  have hb0 := RC1.out (by omega)
  have hb1 := RC2.out (by omega)
  refine wp_region_held_drew (S := Ext w2) (by kernel_rfl) (.drew (.refl _)) (fun hHeld => ?_)
  refine wpAnyH_load_rep (i := 0) rfl (by kernel_rfl) (by kernel_rfl) (by kernel_rfl) (fun _ _ _ h => h) rfl 24 (.tmp 2) rfl (w.heap.size) 0 rfl cs0 _ Try.underlying24 HI0_24.out (fun w hS => OB.cells0 ((op0_2.out).ext hS)) (by assumption) (fun _ _ _ _ h => h) ?_
  simp only [Act.put, List.getElem_toArray, List.getElem_cons_zero, List.setIfInBounds_toArray, List.set_cons_zero, List.set_cons_succ]
  refine wpAnyH_load_rep (i := 2) rfl (by kernel_rfl) (by kernel_rfl) (by kernel_rfl) (fun _ _ _ h => h) rfl 27 (.tmp 3) rfl (w.heap.size + 1) 0 rfl cs1 _ Try.underlying27 HI1_27.out (fun w hS => OB.cells0 ((op1_2.out).ext hS)) (by assumption) (fun _ _ _ _ h => h) ?_
  simp only [Act.put, List.getElem_toArray, List.getElem_cons_zero, List.getElem_cons_succ, List.setIfInBounds_toArray, List.set_cons_zero, List.set_cons_succ]
  have op0_3 := Lib.hid ((op0_2.out).ext (Ext.drew (.refl w2)))
  have op1_3 := Lib.hid ((op1_2.out).ext (Ext.drew (.refl w2)))
  refine wpAnyH_call (i := 1) (by kernel_rfl) rfl rfl (run_call_func rfl rfl #[.agg ⟨cs0⟩] (by simp only [List.map_toArray, List.map_cons, List.map_nil, Act.eval]; rfl) Try.func8 (by kernel_rfl) (by kernel_rfl) _) (toProgram_all x0 _ _ (HR0.out.ext (Ext.trans (Ext.trans (Ext.trans (.alloc (.alloc (.refl _) _) _) HW1.out) HW2.out) (.drew (.refl _)))) (by omega)) ?_
  rintro e w4 ⟨t4, rfl, hw4, ho4⟩
  have HO4 := Lib.hid ho4
  have HTL4 : Hid (t4.length = 1) := by rw [ho4.1, GProgram.tr_len]; rfl
  clear ho4
  refine ⟨_, rfl, Ext.trans hHeld hw4, ?_⟩
  have hs4 := Ext.trans hHeld hw4
  have op0_4 := Lib.hid ((op0_3.out).ext hw4)
  have op1_4 := Lib.hid ((op1_3.out).ext hw4)
  have HW4 := Lib.hid hw4
  clear hw4
  simp only [Act.put, List.getElem_toArray, List.getElem_cons_zero, List.getElem_cons_succ, List.setIfInBounds_toArray, List.set_cons_zero, List.set_cons_succ]
  refine wpAnyH_call (i := 3) (by kernel_rfl) rfl rfl (run_call_func rfl rfl #[.agg ⟨cs1⟩] (by simp only [List.map_toArray, List.map_cons, List.map_nil, Act.eval]; rfl) Try.func9 (by kernel_rfl) (by kernel_rfl) _) (toType_all x1 _ _ (HR1.out.ext (Ext.trans (Ext.trans (Ext.trans (Ext.trans (.alloc (.alloc (.refl _) _) _) HW1.out) HW2.out) (.drew (.refl _))) HW4.out)) (by omega)) ?_
  rintro e w5 ⟨t5, rfl, hw5, ho5⟩
  have HO5 := Lib.hid ho5
  have HTL5 : Hid (t5.length = 3) := by rw [ho5.1, GType.tr_len]; rfl
  clear ho5
  refine ⟨_, rfl, Ext.trans hs4 hw5, ?_⟩
  have hs5 := Ext.trans hs4 hw5
  have op0_5 := Lib.hid ((op0_4.out).ext hw5)
  have op1_5 := Lib.hid ((op1_4.out).ext hw5)
  have T4_5 := Lib.hid ((HO4.out.rep).ext hw5)
  have HW5 := Lib.hid hw5
  clear hw5
  simp only [Act.put, List.getElem_toArray, List.getElem_cons_zero, List.getElem_cons_succ, List.setIfInBounds_toArray, List.set_cons_zero, List.set_cons_succ]
  refine wpAnyH_call (i := 4) (by kernel_rfl) rfl rfl (run_call_func rfl rfl #[.agg ⟨t4⟩, .agg ⟨t5⟩] (by simp only [List.map_toArray, List.map_cons, List.map_nil, Act.eval]; rfl) Try.func7 (by kernel_rfl) (by kernel_rfl) _) (homePlain_spec x0 x1 _ _ _ (T4_5.out) (HO5.out.rep)) ?_
  rintro e w6 ⟨rfl, hw6⟩
  refine ⟨_, rfl, Ext.trans hs5 hw6, ?_⟩
  have hs6 := Ext.trans hs5 hw6
  have op0_6 := Lib.hid ((op0_5.out).ext hw6)
  have op1_6 := Lib.hid ((op1_5.out).ext hw6)
  have T4_6 := Lib.hid ((T4_5.out).ext hw6)
  have T5_6 := Lib.hid ((HO5.out.rep).ext hw6)
  have HW6 := Lib.hid hw6
  clear hw6
  simp only [Act.put, List.getElem_toArray, List.getElem_cons_zero, List.getElem_cons_succ, List.setIfInBounds_toArray, List.set_cons_zero, List.set_cons_succ]
  refine wpAnyH_take (i := 5) rfl (by kernel_rfl) (by kernel_rfl) (by kernel_rfl) (fun _ _ _ h => h) (.inl ⟨rfl, fun _ _ => rfl⟩) (by assumption) ?_
  simp only [Act.put, List.getElem_toArray, List.getElem_cons_zero, List.getElem_cons_succ, List.setIfInBounds_toArray, List.set_cons_zero, List.set_cons_succ]
  refine wpAnyH_done (by kernel_rfl) ?_ _
  clear hHeld hs4 hs5 hs6
  go_wp2_with (first
    | (refine wpList_load_rep rfl 24 (.tmp 2) rfl (w.heap.size) 0 rfl cs0 _ Try.underlying24 HI0_24.out (OB.cells0 (op0_6.out)) ?_)
    | (refine wpList_load_rep rfl 27 (.tmp 3) rfl (w.heap.size + 1) 0 rfl cs1 _ Try.underlying27 HI1_27.out (OB.cells0 (op1_6.out)) ?_))
  refine (toProgram_all x0 _ _ (HR0.out.ext (Ext.trans (Ext.trans (Ext.trans (Ext.trans (Ext.trans (Ext.trans (.alloc (.alloc (.refl _) _) _) HW1.out) HW2.out) (.drew (.refl _))) HW4.out) HW5.out) HW6.out)) (by omega)).mono ?_
  rintro e w7 ⟨t7, rfl, hw7, ho7⟩
  have HO7 := Lib.hid ho7
  have HTL7 : Hid (t7.length = 1) := by rw [ho7.1, GProgram.tr_len]; rfl
  clear ho7
  have op0_7 := Lib.hid ((op0_6.out).ext hw7)
  have op1_7 := Lib.hid ((op1_6.out).ext hw7)
  have T4_7 := Lib.hid ((T4_6.out).ext hw7)
  have T5_7 := Lib.hid ((T5_6.out).ext hw7)
  have HW7 := Lib.hid hw7
  clear hw7
  have HJ7 : Hid ((Try.prog.info? 33).map (·.size) = some t7.length) := by rw [HTL7.out]; exact isz33
  go_wp2_with (first
    | (refine wpList_load_rep rfl 24 (.tmp 2) rfl (w.heap.size) 0 rfl cs0 _ Try.underlying24 HI0_24.out (OB.cells0 (op0_8.out)) ?_)
    | (refine wpList_load_rep rfl 27 (.tmp 3) rfl (w.heap.size + 1) 0 rfl cs1 _ Try.underlying27 HI1_27.out (OB.cells0 (op1_8.out)) ?_)
    | (refine wpList_load_rep rfl 33 (.tmp 7) rfl (w7.heap.size) 0 rfl t7 _ Try.underlying33 HJ7.out (OB.cells0 (HOB8.out)) ?_)
    | (refine wpList_store_rep rfl 33 (.tmp 7) _ rfl w7.heap.size 0 rfl t7 rfl 33 _ (OB.new w7 _ _) HJ7.out (by rw [HTL7.out]; exact Nat.le_refl _) HO7.out.rep.one ?_; intro w8 hob hgb hzb; rw [splice_whole (by rw [HTL7.out]; rfl)] at hob; have HOB8 := Lib.hid hob; have HW8 := Lib.hid (grown_ext (.alloc (.refl w7) _) hgb (Nat.le_refl _)); clear hob hgb hzb; have op0_8 := Lib.hid ((op0_7.out).ext HW8.out); have op1_8 := Lib.hid ((op1_7.out).ext HW8.out); have T4_8 := Lib.hid ((T4_7.out).ext HW8.out); have T5_8 := Lib.hid ((T5_7.out).ext HW8.out); have T7_8 := Lib.hid ((HO7.out.rep).ext HW8.out)))
  refine (toType_all x1 _ _ (HR1.out.ext (Ext.trans (Ext.trans (Ext.trans (Ext.trans (Ext.trans (Ext.trans (Ext.trans (Ext.trans (.alloc (.alloc (.refl _) _) _) HW1.out) HW2.out) (.drew (.refl _))) HW4.out) HW5.out) HW6.out) HW7.out) HW8.out)) (by omega)).mono ?_
  rintro e w9 ⟨t9, rfl, hw9, ho9⟩
  have HO9 := Lib.hid ho9
  have HTL9 : Hid (t9.length = 3) := by rw [ho9.1, GType.tr_len]; rfl
  clear ho9
  have op0_9 := Lib.hid ((op0_8.out).ext hw9)
  have op1_9 := Lib.hid ((op1_8.out).ext hw9)
  have ox0_9 := Lib.hid ((HOB8.out).ext hw9)
  have T4_9 := Lib.hid ((T4_8.out).ext hw9)
  have T5_9 := Lib.hid ((T5_8.out).ext hw9)
  have T7_9 := Lib.hid ((T7_8.out).ext hw9)
  have HW9 := Lib.hid hw9
  clear hw9
  have HJ9 : Hid ((Try.prog.info? 37).map (·.size) = some t9.length) := by rw [HTL9.out]; exact isz37
  go_wp2_with (first
    | (refine wpList_load_rep rfl 24 (.tmp 2) rfl (w.heap.size) 0 rfl cs0 _ Try.underlying24 HI0_24.out (OB.cells0 (op0_10.out)) ?_)
    | (refine wpList_load_rep rfl 27 (.tmp 3) rfl (w.heap.size + 1) 0 rfl cs1 _ Try.underlying27 HI1_27.out (OB.cells0 (op1_10.out)) ?_)
    | (refine wpList_load_rep rfl 33 (.tmp 7) rfl (w7.heap.size) 0 rfl t7 _ Try.underlying33 HJ7.out (OB.cells0 (ox0_10.out)) ?_)
    | (refine wpList_load_rep rfl 37 (.tmp 8) rfl (w9.heap.size) 0 rfl t9 _ Try.underlying37 HJ9.out (OB.cells0 (HOB10.out)) ?_)
    | (refine wpList_store_rep rfl 37 (.tmp 8) _ rfl w9.heap.size 0 rfl t9 rfl 37 _ (OB.new w9 _ _) HJ9.out (by rw [HTL9.out]; exact Nat.le_refl _) HO9.out.rep.one ?_; intro w10 hob hgb hzb; rw [splice_whole (by rw [HTL9.out]; rfl)] at hob; have HOB10 := Lib.hid hob; have HW10 := Lib.hid (grown_ext (.alloc (.refl w9) _) hgb (Nat.le_refl _)); clear hob hgb hzb; have op0_10 := Lib.hid ((op0_9.out).ext HW10.out); have op1_10 := Lib.hid ((op1_9.out).ext HW10.out); have ox0_10 := Lib.hid ((ox0_9.out).ext HW10.out); have T4_10 := Lib.hid ((T4_9.out).ext HW10.out); have T5_10 := Lib.hid ((T5_9.out).ext HW10.out); have T7_10 := Lib.hid ((T7_9.out).ext HW10.out); have T9_10 := Lib.hid ((HO9.out.rep).ext HW10.out)))
  refine (homePlain_impl x0 x1 _ _ _ (T7_10.out) (T9_10.out)).mono ?_
  rintro e w11 ⟨rfl, hw11⟩
  have op0_11 := Lib.hid ((op0_10.out).ext hw11)
  have op1_11 := Lib.hid ((op1_10.out).ext hw11)
  have ox0_11 := Lib.hid ((ox0_10.out).ext hw11)
  have ox1_11 := Lib.hid ((HOB10.out).ext hw11)
  have T4_11 := Lib.hid ((T4_10.out).ext hw11)
  have T5_11 := Lib.hid ((T5_10.out).ext hw11)
  have T7_11 := Lib.hid ((T7_10.out).ext hw11)
  have T9_11 := Lib.hid ((T9_10.out).ext hw11)
  have HW11 := Lib.hid hw11
  clear hw11
  go_wp2_with (first
    | (refine wpList_load_rep rfl 24 (.tmp 2) rfl (w.heap.size) 0 rfl cs0 _ Try.underlying24 HI0_24.out (OB.cells0 (op0_11.out)) ?_)
    | (refine wpList_load_rep rfl 27 (.tmp 3) rfl (w.heap.size + 1) 0 rfl cs1 _ Try.underlying27 HI1_27.out (OB.cells0 (op1_11.out)) ?_)
    | (refine wpList_load_rep rfl 33 (.tmp 7) rfl (w7.heap.size) 0 rfl t7 _ Try.underlying33 HJ7.out (OB.cells0 (ox0_11.out)) ?_)
    | (refine wpList_load_rep rfl 37 (.tmp 8) rfl (w9.heap.size) 0 rfl t9 _ Try.underlying37 HJ9.out (OB.cells0 (ox1_11.out)) ?_))
  refine wp_region_held_drew (S := Ext w11) (by kernel_rfl) (.drew (.refl _)) (fun hHeld => ?_)
  refine wpAnyH_load_rep (i := 0) rfl (by kernel_rfl) (by kernel_rfl) (by kernel_rfl) (fun _ _ _ h => h) rfl 33 (.tmp 7) rfl (w7.heap.size) 0 rfl t7 _ Try.underlying33 HJ7.out (fun w hS => OB.cells0 ((ox0_11.out).ext hS)) (by assumption) (fun _ _ _ _ h => h) ?_
  simp only [Act.put, List.getElem_toArray, List.getElem_cons_zero, List.setIfInBounds_toArray, List.set_cons_zero, List.set_cons_succ]
  refine wpAnyH_load_rep (i := 1) rfl (by kernel_rfl) (by kernel_rfl) (by kernel_rfl) (fun _ _ _ h => h) rfl 24 (.tmp 2) rfl (w.heap.size) 0 rfl cs0 _ Try.underlying24 HI0_24.out (fun w hS => OB.cells0 ((op0_11.out).ext hS)) (by assumption) (fun _ _ _ _ h => h) ?_
  simp only [Act.put, List.getElem_toArray, List.getElem_cons_zero, List.getElem_cons_succ, List.setIfInBounds_toArray, List.set_cons_zero, List.set_cons_succ]
  have op0_12 := Lib.hid ((op0_11.out).ext (Ext.drew (.refl w11)))
  have op1_12 := Lib.hid ((op1_11.out).ext (Ext.drew (.refl w11)))
  have ox0_12 := Lib.hid ((ox0_11.out).ext (Ext.drew (.refl w11)))
  have ox1_12 := Lib.hid ((ox1_11.out).ext (Ext.drew (.refl w11)))
  have T4_12 := Lib.hid ((T4_11.out).ext (Ext.drew (.refl w11)))
  have T5_12 := Lib.hid ((T5_11.out).ext (Ext.drew (.refl w11)))
  have T7_12 := Lib.hid ((T7_11.out).ext (Ext.drew (.refl w11)))
  have T9_12 := Lib.hid ((T9_11.out).ext (Ext.drew (.refl w11)))
  refine wpAnyH_call (i := 2) (by kernel_rfl) rfl rfl (run_call_func rfl rfl #[.agg ⟨cs0⟩] (by simp only [List.map_toArray, List.map_cons, List.map_nil, Act.eval]; rfl) Try.func8 (by kernel_rfl) (by kernel_rfl) _) (toProgram_all x0 _ _ (HR0.out.ext (Ext.trans (Ext.trans (Ext.trans (Ext.trans (Ext.trans (Ext.trans (Ext.trans (Ext.trans (Ext.trans (Ext.trans (Ext.trans (Ext.trans (.alloc (.alloc (.refl _) _) _) HW1.out) HW2.out) (.drew (.refl _))) HW4.out) HW5.out) HW6.out) HW7.out) HW8.out) HW9.out) HW10.out) HW11.out) (.drew (.refl _)))) (by omega)) ?_
  rintro e w13 ⟨t13, rfl, hw13, ho13⟩
  have HO13 := Lib.hid ho13
  have HTL13 : Hid (t13.length = 1) := by rw [ho13.1, GProgram.tr_len]; rfl
  clear ho13
  refine ⟨_, rfl, Ext.trans hHeld hw13, ?_⟩
  have hs13 := Ext.trans hHeld hw13
  have op0_13 := Lib.hid ((op0_12.out).ext hw13)
  have op1_13 := Lib.hid ((op1_12.out).ext hw13)
  have ox0_13 := Lib.hid ((ox0_12.out).ext hw13)
  have ox1_13 := Lib.hid ((ox1_12.out).ext hw13)
  have T4_13 := Lib.hid ((T4_12.out).ext hw13)
  have T5_13 := Lib.hid ((T5_12.out).ext hw13)
  have T7_13 := Lib.hid ((T7_12.out).ext hw13)
  have T9_13 := Lib.hid ((T9_12.out).ext hw13)
  have HW13 := Lib.hid hw13
  clear hw13
  simp only [Act.put, List.getElem_toArray, List.getElem_cons_zero, List.getElem_cons_succ, List.setIfInBounds_toArray, List.set_cons_zero, List.set_cons_succ]
  refine wpAnyH_call (i := 3) (by kernel_rfl) rfl rfl (run_call_func rfl rfl #[.agg ⟨t7⟩, .agg ⟨t13⟩] (by simp only [List.map_toArray, List.map_cons, List.map_nil, Act.eval]; rfl) Try.func11 (by kernel_rfl) (by kernel_rfl) _) (eqProgram_all x0 _ _ _ (T7_13.out) (HO13.out.rep)) ?_
  rintro e w14 ⟨rfl, hw14⟩
  refine ⟨_, rfl, Ext.trans hs13 hw14, ?_⟩
  have hs14 := Ext.trans hs13 hw14
  have op0_14 := Lib.hid ((op0_13.out).ext hw14)
  have op1_14 := Lib.hid ((op1_13.out).ext hw14)
  have ox0_14 := Lib.hid ((ox0_13.out).ext hw14)
  have ox1_14 := Lib.hid ((ox1_13.out).ext hw14)
  have T4_14 := Lib.hid ((T4_13.out).ext hw14)
  have T5_14 := Lib.hid ((T5_13.out).ext hw14)
  have T7_14 := Lib.hid ((T7_13.out).ext hw14)
  have T9_14 := Lib.hid ((T9_13.out).ext hw14)
  have T13_14 := Lib.hid ((HO13.out.rep).ext hw14)
  have HW14 := Lib.hid hw14
  clear hw14
  simp only [Act.put, List.getElem_toArray, List.getElem_cons_zero, List.getElem_cons_succ, List.setIfInBounds_toArray, List.set_cons_zero, List.set_cons_succ]
  refine wpAnyH_take (i := 4) rfl (by kernel_rfl) (by kernel_rfl) (by kernel_rfl) (fun _ _ _ h => h) (.inl ⟨rfl, fun _ _ => rfl⟩) (by assumption) ?_
  simp only [Act.put, List.getElem_toArray, List.getElem_cons_zero, List.getElem_cons_succ, List.setIfInBounds_toArray, List.set_cons_zero, List.set_cons_succ]
  refine wpAnyH_done (by kernel_rfl) ?_ _
  clear hHeld hs13 hs14
  go_wp2_with (first
    | (refine wpList_load_rep rfl 24 (.tmp 2) rfl (w.heap.size) 0 rfl cs0 _ Try.underlying24 HI0_24.out (OB.cells0 (op0_14.out)) ?_)
    | (refine wpList_load_rep rfl 27 (.tmp 3) rfl (w.heap.size + 1) 0 rfl cs1 _ Try.underlying27 HI1_27.out (OB.cells0 (op1_14.out)) ?_)
    | (refine wpList_load_rep rfl 33 (.tmp 7) rfl (w7.heap.size) 0 rfl t7 _ Try.underlying33 HJ7.out (OB.cells0 (ox0_14.out)) ?_)
    | (refine wpList_load_rep rfl 37 (.tmp 8) rfl (w9.heap.size) 0 rfl t9 _ Try.underlying37 HJ9.out (OB.cells0 (ox1_14.out)) ?_))
  refine wp_region_held_drew (S := Ext w14) (by kernel_rfl) (.drew (.refl _)) (fun hHeld => ?_)
  refine wpAnyH_load_rep (i := 0) rfl (by kernel_rfl) (by kernel_rfl) (by kernel_rfl) (fun _ _ _ h => h) rfl 37 (.tmp 8) rfl (w9.heap.size) 0 rfl t9 _ Try.underlying37 HJ9.out (fun w hS => OB.cells0 ((ox1_14.out).ext hS)) (by assumption) (fun _ _ _ _ h => h) ?_
  simp only [Act.put, List.getElem_toArray, List.getElem_cons_zero, List.setIfInBounds_toArray, List.set_cons_zero, List.set_cons_succ]
  refine wpAnyH_load_rep (i := 1) rfl (by kernel_rfl) (by kernel_rfl) (by kernel_rfl) (fun _ _ _ h => h) rfl 27 (.tmp 3) rfl (w.heap.size + 1) 0 rfl cs1 _ Try.underlying27 HI1_27.out (fun w hS => OB.cells0 ((op1_14.out).ext hS)) (by assumption) (fun _ _ _ _ h => h) ?_
  simp only [Act.put, List.getElem_toArray, List.getElem_cons_zero, List.getElem_cons_succ, List.setIfInBounds_toArray, List.set_cons_zero, List.set_cons_succ]
  have op0_15 := Lib.hid ((op0_14.out).ext (Ext.drew (.refl w14)))
  have op1_15 := Lib.hid ((op1_14.out).ext (Ext.drew (.refl w14)))
  have ox0_15 := Lib.hid ((ox0_14.out).ext (Ext.drew (.refl w14)))
  have ox1_15 := Lib.hid ((ox1_14.out).ext (Ext.drew (.refl w14)))
  have T4_15 := Lib.hid ((T4_14.out).ext (Ext.drew (.refl w14)))
  have T5_15 := Lib.hid ((T5_14.out).ext (Ext.drew (.refl w14)))
  have T7_15 := Lib.hid ((T7_14.out).ext (Ext.drew (.refl w14)))
  have T9_15 := Lib.hid ((T9_14.out).ext (Ext.drew (.refl w14)))
  have T13_15 := Lib.hid ((T13_14.out).ext (Ext.drew (.refl w14)))
  refine wpAnyH_call (i := 2) (by kernel_rfl) rfl rfl (run_call_func rfl rfl #[.agg ⟨cs1⟩] (by simp only [List.map_toArray, List.map_cons, List.map_nil, Act.eval]; rfl) Try.func9 (by kernel_rfl) (by kernel_rfl) _) (toType_all x1 _ _ (HR1.out.ext (Ext.trans (Ext.trans (Ext.trans (Ext.trans (Ext.trans (Ext.trans (Ext.trans (Ext.trans (Ext.trans (Ext.trans (Ext.trans (Ext.trans (Ext.trans (Ext.trans (Ext.trans (.alloc (.alloc (.refl _) _) _) HW1.out) HW2.out) (.drew (.refl _))) HW4.out) HW5.out) HW6.out) HW7.out) HW8.out) HW9.out) HW10.out) HW11.out) (.drew (.refl _))) HW13.out) HW14.out) (.drew (.refl _)))) (by omega)) ?_
  rintro e w16 ⟨t16, rfl, hw16, ho16⟩
  have HO16 := Lib.hid ho16
  have HTL16 : Hid (t16.length = 3) := by rw [ho16.1, GType.tr_len]; rfl
  clear ho16
  refine ⟨_, rfl, Ext.trans hHeld hw16, ?_⟩
  have hs16 := Ext.trans hHeld hw16
  have op0_16 := Lib.hid ((op0_15.out).ext hw16)
  have op1_16 := Lib.hid ((op1_15.out).ext hw16)
  have ox0_16 := Lib.hid ((ox0_15.out).ext hw16)
  have ox1_16 := Lib.hid ((ox1_15.out).ext hw16)
  have T4_16 := Lib.hid ((T4_15.out).ext hw16)
  have T5_16 := Lib.hid ((T5_15.out).ext hw16)
  have T7_16 := Lib.hid ((T7_15.out).ext hw16)
  have T9_16 := Lib.hid ((T9_15.out).ext hw16)
  have T13_16 := Lib.hid ((T13_15.out).ext hw16)
  have HW16 := Lib.hid hw16
  clear hw16
  simp only [Act.put, List.getElem_toArray, List.getElem_cons_zero, List.getElem_cons_succ, List.setIfInBounds_toArray, List.set_cons_zero, List.set_cons_succ]
  refine wpAnyH_call (i := 3) (by kernel_rfl) rfl rfl (run_call_func rfl rfl #[.agg ⟨t9⟩, .agg ⟨t16⟩] (by simp only [List.map_toArray, List.map_cons, List.map_nil, Act.eval]; rfl) Try.func12 (by kernel_rfl) (by kernel_rfl) _) (eqType_all x1 _ _ _ (T9_16.out) (HO16.out.rep)) ?_
  rintro e w17 ⟨rfl, hw17⟩
  refine ⟨_, rfl, Ext.trans hs16 hw17, ?_⟩
  have hs17 := Ext.trans hs16 hw17
  have op0_17 := Lib.hid ((op0_16.out).ext hw17)
  have op1_17 := Lib.hid ((op1_16.out).ext hw17)
  have ox0_17 := Lib.hid ((ox0_16.out).ext hw17)
  have ox1_17 := Lib.hid ((ox1_16.out).ext hw17)
  have T4_17 := Lib.hid ((T4_16.out).ext hw17)
  have T5_17 := Lib.hid ((T5_16.out).ext hw17)
  have T7_17 := Lib.hid ((T7_16.out).ext hw17)
  have T9_17 := Lib.hid ((T9_16.out).ext hw17)
  have T13_17 := Lib.hid ((T13_16.out).ext hw17)
  have T16_17 := Lib.hid ((HO16.out.rep).ext hw17)
  have HW17 := Lib.hid hw17
  clear hw17
  simp only [Act.put, List.getElem_toArray, List.getElem_cons_zero, List.getElem_cons_succ, List.setIfInBounds_toArray, List.set_cons_zero, List.set_cons_succ]
  refine wpAnyH_take (i := 4) rfl (by kernel_rfl) (by kernel_rfl) (by kernel_rfl) (fun _ _ _ h => h) (.inl ⟨rfl, fun _ _ => rfl⟩) (by assumption) ?_
  simp only [Act.put, List.getElem_toArray, List.getElem_cons_zero, List.getElem_cons_succ, List.setIfInBounds_toArray, List.set_cons_zero, List.set_cons_succ]
  refine wpAnyH_done (by kernel_rfl) ?_ _
  clear hHeld hs16 hs17
  go_wp2_with (first
    | (refine wpList_load_rep rfl 24 (.tmp 2) rfl (w.heap.size) 0 rfl cs0 _ Try.underlying24 HI0_24.out (OB.cells0 (op0_17.out)) ?_)
    | (refine wpList_load_rep rfl 27 (.tmp 3) rfl (w.heap.size + 1) 0 rfl cs1 _ Try.underlying27 HI1_27.out (OB.cells0 (op1_17.out)) ?_)
    | (refine wpList_load_rep rfl 33 (.tmp 7) rfl (w7.heap.size) 0 rfl t7 _ Try.underlying33 HJ7.out (OB.cells0 (ox0_17.out)) ?_)
    | (refine wpList_load_rep rfl 37 (.tmp 8) rfl (w9.heap.size) 0 rfl t9 _ Try.underlying37 HJ9.out (OB.cells0 (ox1_17.out)) ?_))
  go_ret
  exact ⟨rfl, (Ext.trans (Ext.trans (Ext.trans (Ext.trans (Ext.trans (Ext.trans (Ext.trans (Ext.trans (Ext.trans (Ext.trans (Ext.trans (Ext.trans (Ext.trans (Ext.trans (Ext.trans (Ext.trans (Ext.trans (.alloc (.alloc (.refl _) _) _) HW1.out) HW2.out) (.drew (.refl _))) HW4.out) HW5.out) HW6.out) HW7.out) HW8.out) HW9.out) HW10.out) HW11.out) (.drew (.refl _))) HW13.out) HW14.out) (.drew (.refl _))) HW16.out) HW17.out)⟩

set_option linter.unusedVariables false
theorem own : ownKnob Try.prog.godebug = none := by kernel_rfl
theorem laidOut : laidOutB Try.prog = true := by kernel_rfl

set_option maxRecDepth 100000 in
theorem lifted (os : Os) (started : os.Started) (H : Type) (enc : TypeId × Value → H) :
    ReturnsInHanded {} Try.checked os 3 .any (Rows.fnExactHomePackageSpec.pre6 enc Try.prog Try.f3 Rows.fnExactHomePackageRow.domain false) (Rows.fnExactHomePackageSpec.post enc Try.prog Try.f3 false true false false) := by
  refine returnsInHanded_of_change (C := Try.checked) own started (by kernel_rfl) Try.func3
    (ChangeSpec.witness6 (enc := enc) (C := Try.checked) false ⟨#[], #[.agg #[.slice none 0 0], .agg #[.int .i64 0, .string ⟨#[]⟩, .slice none 0 0]], []⟩ 8 (by kernel_rfl) (by kernel_rfl) (by kernel_rfl) (by kernel_rfl)) ?_
  intro W base args ds gs before hval0 hW hcnd _
  have hval : ∀ (j : Nat) t v, Try.f3.params[j]? = some t → args[j]? = some v → Value.okWide Try.prog W .any base t v := hval0
  have hW' := hW
  obtain ⟨p, q, hA0, hV, rfl, hfz, hnd⟩ := hW
  have hA : DataW.TrodAll enc Try.prog W 0 (fun _ => true) true Try.f3.params.toList args.toList ds p := hA0
  rw [Try.params3] at hA hval
  obtain ⟨v0, vs0, d0, ds0, p0, q0, hargs, rfl, rfl, h0, r0⟩ := trodAll_cons hA
  obtain ⟨v1, vs1, d1, ds1, p1, q1, rfl, rfl, rfl, h1, r1⟩ := trodAll_cons r0
  obtain ⟨rfl, rfl, rfl⟩ := trodAll_nil r1
  obtain rfl : args = #[v0, v1] := by cases args; simp_all
  obtain ⟨rfl, rfl⟩ := trodVars_none hV
  have k0 := h0
  have lt0 : ∀ x ∈ p0, x.block < W.heap.size := by obtain ⟨m, hm⟩ := k0; exact DataW.trod_lt m _ _ _ hm
  obtain ⟨c0, rfl, -⟩ := okWide_struct Try.underlying24 (hval 0 24 v0 rfl rfl)
  obtain ⟨fu0, hf0⟩ := h0
  obtain ⟨ts0, ty0, rp0, -⟩ := tyOf_of_trod plainClosed fu0 24 c0.toList _ (by decide) hf0
  obtain ⟨x0, rfl⟩ := tyof_Program ty0
  have k1 := h1
  have lt1 : ∀ x ∈ p1, x.block < W.heap.size := by obtain ⟨m, hm⟩ := k1; exact DataW.trod_lt m _ _ _ hm
  obtain ⟨c1, rfl, -⟩ := okWide_struct Try.underlying27 (hval 1 27 v1 rfl rfl)
  obtain ⟨fu1, hf1⟩ := h1
  obtain ⟨ts1, ty1, rp1, -⟩ := tyOf_of_trod plainClosed fu1 27 c1.toList _ (by decide) hf1
  obtain ⟨x1, rfl⟩ := tyof_Type ty1
  clear hA0 hval0
  refine (law_FnExactHomePackage W x0 c0.toList rp0 x1 c1.toList rp1).mono fun e W' ⟨he, bel⟩ => ?_
  subst he
  exact ⟨_, rfl, _, _, _, [], _, [], hW', trodAll_mk1 (shut_bool Try.underlying4 _), (trodAll_cons_mk (Below.trod laidOut (by kernel_rfl) (of_decide_eq_true (by kernel_rfl)) k0 bel lt0) (trodAll_cons_mk (Below.trod laidOut (by kernel_rfl) (of_decide_eq_true (by kernel_rfl)) k1 bel lt1) trodAll_mk0)), rfl, bel.frame _, fun h => by cases h⟩

theorem over : Rows.fnExactHomePackageRow.holds Try.pinned (OpenSpec.ofChange Rows.fnExactHomePackageSpec) :=
  OpenClaim.holds_of_wide 3 Try.f3 rfl rfl rfl rfl rfl rfl rfl ⟨rfl, rfl, rfl, rfl, rfl⟩ rfl rfl rfl rfl rfl fnNamed Try.func3 factsJoin (of_decide_eq_true (by kernel_rfl)) wrapper
    (fun os started H enc _ => lifted os started H enc)

theorem proved : Rows.FnExactHomePackageSaid := over
#print axioms proved

end Go.Proofs.Ytnakkelglbcecaa.fnExactHomePackageDone
