/- FnExactSatisfiesOrphanRule returns true for every input, and leaves what was there as it was. No conditions. -/
import Derived.Test.YtnakkelglbcecaaGreatRows
import Derived.Test.YtnakkelglbcecaaGreatTyped
import Derived.Test.YtnakkelglbcecaaGreatBAll
import Derived.Test.YtnakkelglbcecaaGreatReg
import Derived.Test.YtnakkelglbcecaaGreatPmOrphZ
import Derived.ProofKit
import Derived.OpenShut
import Derived.ShutString
import Derived.ChangeOld
import Derived.Test.YtnakkelglbcecaaGreatJExactSatisfiesOrphanRule
namespace Go.Proofs.YtnakkelglbcecaaGreat.fnExactSatisfiesOrphanRuleDone
open Go.Proofs Go.Proofs.YtnakkelglbcecaaGreat Go.ChangeShapes Go.WideShapes Go.ChangeAt Go.RowKit
open Go.ChangeMaps (open_string shut_string)

set_option maxRecDepth 100000 in
set_option maxHeartbeats 4000000 in
theorem law_FnExactSatisfiesOrphanRule (w : World) (x0 : GProgram) (cs0 : List Value) (hr0 : RepL w x0.tr cs0) (x1 : GInstanceRef) (cs1 : List Value) (hr1 : RepL w x1.tr cs1) :
    Calls Tryz.prog 3 #[.agg ⟨cs0⟩, .agg ⟨cs1⟩] w fun e w' => e = .returned (.bool true) ∧ Below w.heap.size w w' := by
  have HR0 := Lib.hid hr0
  have HL0 : Hid (cs0.length = 1) := by rw [← hr0.length, GProgram.tr_len]; rfl
  have HI0_24 : Hid ((Tryz.prog.info? 24).map (·.size) = some cs0.length) := by rw [HL0.out]; exact isz24
  have HI0_31 : Hid ((Tryz.prog.info? 31).map (·.size) = some cs0.length) := by rw [HL0.out]; exact isz31
  clear hr0
  have HR1 := Lib.hid hr1
  have HL1 : Hid (cs1.length = 2) := by rw [← hr1.length, GInstanceRef.tr_len]; rfl
  have HI1_26 : Hid ((Tryz.prog.info? 26).map (·.size) = some cs1.length) := by rw [HL1.out]; exact isz26
  have HI1_33 : Hid ((Tryz.prog.info? 33).map (·.size) = some cs1.length) := by rw [HL1.out]; exact isz33
  have hbz1 : Tr.bulkL x1.tr ≤ 1048576 := by rw [GInstanceRef.tr_cs]; simp [GInstanceRef.cs, Tr.bulkL, Tr.bulk]
  clear hr1
  go_enter Tryz.func3, Tryz.ntmps3
  go_wp2_with (first
    | (refine wpList_load_rep rfl 24 (.tmp 2) rfl (w.heap.size) 0 rfl cs0 _ Tryz.underlying24 HI0_24.out (OB.cells0 ((Two.new w _ _ _ _).o0)) ?_)
    | (refine wpList_load_rep rfl 26 (.tmp 3) rfl (w.heap.size + 1) 0 rfl cs1 _ Tryz.underlying26 HI1_26.out (OB.cells0 ((Two.new w _ _ _ _).o1)) ?_))
  refine (szProgram_all x0 _ _ _ (HR0.out.ext (.alloc (.alloc (.refl _) _) _)) (by omega) (by omega)).mono ?_
  rintro e w1 ⟨r1, rfl, hw1, ra1, rb1, rc1⟩
  have RC1 := Lib.hid rc1
  clear rc1
  have op0_1 := Lib.hid (((Two.new w _ _ _ _).o0).ext hw1)
  have op1_1 := Lib.hid (((Two.new w _ _ _ _).o1).ext hw1)
  have HW1 := Lib.hid hw1
  clear hw1
  go_wp2_with (first
    | (refine wpList_load_rep rfl 24 (.tmp 2) rfl (w.heap.size) 0 rfl cs0 _ Tryz.underlying24 HI0_24.out (OB.cells0 (op0_1.out)) ?_)
    | (refine wpList_load_rep rfl 26 (.tmp 3) rfl (w.heap.size + 1) 0 rfl cs1 _ Tryz.underlying26 HI1_26.out (OB.cells0 (op1_1.out)) ?_))
  · go_ret
    exact ⟨rfl, (Ext.trans (.alloc (.alloc (.refl _) _) _) HW1.out)⟩
  have hb0 := RC1.out (by omega)
  refine wp_region_held_drew (S := Ext w1) (by kernel_rfl) (.drew (.refl _)) (fun hHeld => ?_)
  refine wpAnyH_load_rep (i := 0) rfl (by kernel_rfl) (by kernel_rfl) (by kernel_rfl) (fun _ _ _ h => h) rfl 24 (.tmp 2) rfl (w.heap.size) 0 rfl cs0 _ Tryz.underlying24 HI0_24.out (fun w hS => OB.cells0 ((op0_1.out).ext hS)) (by assumption) (fun _ _ _ _ h => h) ?_
  simp only [Act.put, Act.eval, List.getElem_toArray, List.getElem_cons_zero, List.setIfInBounds_toArray, List.set_cons_zero, List.set_cons_succ]
  refine wpAnyH_load_rep (i := 2) rfl (by kernel_rfl) (by kernel_rfl) (by kernel_rfl) (fun _ _ _ h => h) rfl 26 (.tmp 3) rfl (w.heap.size + 1) 0 rfl cs1 _ Tryz.underlying26 HI1_26.out (fun w hS => OB.cells0 ((op1_1.out).ext hS)) (by assumption) (fun _ _ _ _ h => h) ?_
  simp only [Act.put, Act.eval, List.getElem_toArray, List.getElem_cons_zero, List.getElem_cons_succ, List.setIfInBounds_toArray, List.set_cons_zero, List.set_cons_succ]
  have op0_2 := Lib.hid ((op0_1.out).ext (Ext.drew (.refl w1)))
  have op1_2 := Lib.hid ((op1_1.out).ext (Ext.drew (.refl w1)))
  refine wpAnyH_call (i := 1) (by kernel_rfl) rfl rfl (run_call_func rfl rfl #[.agg ⟨cs0⟩] (by simp only [List.map_toArray, List.map_cons, List.map_nil, Act.eval]; rfl) Tryz.func17 (by kernel_rfl) (by kernel_rfl) _) (toProgram_all x0 _ _ (HR0.out.ext (Ext.trans (Ext.trans (.alloc (.alloc (.refl _) _) _) HW1.out) (.drew (.refl _)))) (by omega)) ?_
  rintro e w3 ⟨t3, rfl, hw3, ho3⟩
  have HO3 := Lib.hid ho3
  have HTL3 : Hid (t3.length = 1) := by rw [ho3.1, GProgram.tr_len]; rfl
  clear ho3
  refine ⟨_, rfl, Ext.trans hHeld hw3, ?_⟩
  have hs3 := Ext.trans hHeld hw3
  have op0_3 := Lib.hid ((op0_2.out).ext hw3)
  have op1_3 := Lib.hid ((op1_2.out).ext hw3)
  have HW3 := Lib.hid hw3
  clear hw3
  simp only [Act.put, List.getElem_toArray, List.getElem_cons_zero, List.getElem_cons_succ, List.setIfInBounds_toArray, List.set_cons_zero, List.set_cons_succ]
  refine wpAnyH_call (i := 3) (by kernel_rfl) rfl rfl (run_call_func rfl rfl #[.agg ⟨cs1⟩] (by simp only [List.map_toArray, List.map_cons, List.map_nil, Act.eval]; rfl) Tryz.func18 (by kernel_rfl) (by kernel_rfl) _) (toInstanceRef_all x1 _ _ (HR1.out.ext (Ext.trans (Ext.trans (Ext.trans (.alloc (.alloc (.refl _) _) _) HW1.out) (.drew (.refl _))) HW3.out)) (by omega)) ?_
  rintro e w4 ⟨t4, rfl, hw4, ho4⟩
  have HO4 := Lib.hid ho4
  have HTL4 : Hid (t4.length = 2) := by rw [ho4.1, GInstanceRef.tr_len]; rfl
  clear ho4
  refine ⟨_, rfl, Ext.trans hs3 hw4, ?_⟩
  have hs4 := Ext.trans hs3 hw4
  have op0_4 := Lib.hid ((op0_3.out).ext hw4)
  have op1_4 := Lib.hid ((op1_3.out).ext hw4)
  have T3_4 := Lib.hid ((HO3.out.rep).ext hw4)
  have HW4 := Lib.hid hw4
  clear hw4
  simp only [Act.put, List.getElem_toArray, List.getElem_cons_zero, List.getElem_cons_succ, List.setIfInBounds_toArray, List.set_cons_zero, List.set_cons_succ]
  refine wpAnyH_call (i := 4) (by kernel_rfl) rfl rfl (run_call_func rfl rfl #[.agg ⟨t3⟩, .agg ⟨t4⟩] (by simp only [List.map_toArray, List.map_cons, List.map_nil, Act.eval]; rfl) Tryz.func16 (by kernel_rfl) (by kernel_rfl) _) (orphanPlain_spec x0 x1 _ _ _ (T3_4.out) (HO4.out.rep)) ?_
  rintro e w5 ⟨rfl, hw5⟩
  refine ⟨_, rfl, Ext.trans hs4 hw5, ?_⟩
  have hs5 := Ext.trans hs4 hw5
  have op0_5 := Lib.hid ((op0_4.out).ext hw5)
  have op1_5 := Lib.hid ((op1_4.out).ext hw5)
  have T3_5 := Lib.hid ((T3_4.out).ext hw5)
  have T4_5 := Lib.hid ((HO4.out.rep).ext hw5)
  have HW5 := Lib.hid hw5
  clear hw5
  simp only [Act.put, List.getElem_toArray, List.getElem_cons_zero, List.getElem_cons_succ, List.setIfInBounds_toArray, List.set_cons_zero, List.set_cons_succ]
  refine wpAnyH_take (i := 5) rfl (by kernel_rfl) (by kernel_rfl) (by kernel_rfl) (fun _ _ _ h => h) (.inl ⟨rfl, fun _ _ => rfl⟩) (by assumption) ?_
  simp only [Act.put, Act.eval, List.getElem_toArray, List.getElem_cons_zero, List.getElem_cons_succ, List.setIfInBounds_toArray, List.set_cons_zero, List.set_cons_succ]
  refine wpAnyH_done (by kernel_rfl) ?_ _
  clear hHeld hs3 hs4 hs5
  go_wp2_with (first
    | (refine wpList_load_rep rfl 24 (.tmp 2) rfl (w.heap.size) 0 rfl cs0 _ Tryz.underlying24 HI0_24.out (OB.cells0 (op0_5.out)) ?_)
    | (refine wpList_load_rep rfl 26 (.tmp 3) rfl (w.heap.size + 1) 0 rfl cs1 _ Tryz.underlying26 HI1_26.out (OB.cells0 (op1_5.out)) ?_))
  refine (toProgram_all x0 _ _ (HR0.out.ext (Ext.trans (Ext.trans (Ext.trans (Ext.trans (Ext.trans (.alloc (.alloc (.refl _) _) _) HW1.out) (.drew (.refl _))) HW3.out) HW4.out) HW5.out)) (by omega)).mono ?_
  rintro e w6 ⟨t6, rfl, hw6, ho6⟩
  have HO6 := Lib.hid ho6
  have HTL6 : Hid (t6.length = 1) := by rw [ho6.1, GProgram.tr_len]; rfl
  clear ho6
  have op0_6 := Lib.hid ((op0_5.out).ext hw6)
  have op1_6 := Lib.hid ((op1_5.out).ext hw6)
  have T3_6 := Lib.hid ((T3_5.out).ext hw6)
  have T4_6 := Lib.hid ((T4_5.out).ext hw6)
  have HW6 := Lib.hid hw6
  clear hw6
  have HJ6 : Hid ((Tryz.prog.info? 31).map (·.size) = some t6.length) := by rw [HTL6.out]; exact isz31
  go_wp2_with (first
    | (refine wpList_load_rep rfl 24 (.tmp 2) rfl (w.heap.size) 0 rfl cs0 _ Tryz.underlying24 HI0_24.out (OB.cells0 (op0_7.out)) ?_)
    | (refine wpList_load_rep rfl 26 (.tmp 3) rfl (w.heap.size + 1) 0 rfl cs1 _ Tryz.underlying26 HI1_26.out (OB.cells0 (op1_7.out)) ?_)
    | (refine wpList_load_rep rfl 31 (.tmp 7) rfl (w6.heap.size) 0 rfl t6 _ Tryz.underlying31 HJ6.out (OB.cells0 (HOB7.out)) ?_)
    | (refine wpList_store_rep rfl 31 (.tmp 7) _ rfl w6.heap.size 0 rfl t6 rfl 31 _ (OB.new w6 _ _) HJ6.out (by rw [HTL6.out]; exact Nat.le_refl _) HO6.out.rep.one ?_; intro w7 hob hgb hzb; rw [splice_whole (by rw [HTL6.out]; rfl)] at hob; have HOB7 := Lib.hid hob; have HW7 := Lib.hid (grown_ext (.alloc (.refl w6) _) hgb (Nat.le_refl _)); clear hob hgb hzb; have op0_7 := Lib.hid ((op0_6.out).ext HW7.out); have op1_7 := Lib.hid ((op1_6.out).ext HW7.out); have T3_7 := Lib.hid ((T3_6.out).ext HW7.out); have T4_7 := Lib.hid ((T4_6.out).ext HW7.out); have T6_7 := Lib.hid ((HO6.out.rep).ext HW7.out)))
  refine wp_region_held_drew (S := Ext w7) (by kernel_rfl) (.drew (.refl _)) (fun hHeld => ?_)
  refine wpAnyH_load_rep (i := 0) rfl (by kernel_rfl) (by kernel_rfl) (by kernel_rfl) (fun _ _ _ h => h) rfl 31 (.tmp 7) rfl (w6.heap.size) 0 rfl t6 _ Tryz.underlying31 HJ6.out (fun w hS => OB.cells0 ((HOB7.out).ext hS)) (by assumption) (fun _ _ _ _ h => h) ?_
  simp only [Act.put, Act.eval, List.getElem_toArray, List.getElem_cons_zero, List.setIfInBounds_toArray, List.set_cons_zero, List.set_cons_succ]
  refine wpAnyH_load_rep (i := 1) rfl (by kernel_rfl) (by kernel_rfl) (by kernel_rfl) (fun _ _ _ h => h) rfl 26 (.tmp 3) rfl (w.heap.size + 1) 0 rfl cs1 _ Tryz.underlying26 HI1_26.out (fun w hS => OB.cells0 ((op1_7.out).ext hS)) (by assumption) (fun _ _ _ _ h => h) ?_
  simp only [Act.put, Act.eval, List.getElem_toArray, List.getElem_cons_zero, List.getElem_cons_succ, List.setIfInBounds_toArray, List.set_cons_zero, List.set_cons_succ]
  have op0_8 := Lib.hid ((op0_7.out).ext (Ext.drew (.refl w7)))
  have op1_8 := Lib.hid ((op1_7.out).ext (Ext.drew (.refl w7)))
  have ox0_8 := Lib.hid ((HOB7.out).ext (Ext.drew (.refl w7)))
  have T3_8 := Lib.hid ((T3_7.out).ext (Ext.drew (.refl w7)))
  have T4_8 := Lib.hid ((T4_7.out).ext (Ext.drew (.refl w7)))
  have T6_8 := Lib.hid ((T6_7.out).ext (Ext.drew (.refl w7)))
  refine wpAnyH_call (i := 2) (by kernel_rfl) rfl rfl (run_call_func rfl rfl #[.agg ⟨cs1⟩] (by simp only [List.map_toArray, List.map_cons, List.map_nil, Act.eval]; rfl) Tryz.func18 (by kernel_rfl) (by kernel_rfl) _) (toInstanceRef_all x1 _ _ (HR1.out.ext (Ext.trans (Ext.trans (Ext.trans (Ext.trans (Ext.trans (Ext.trans (Ext.trans (Ext.trans (.alloc (.alloc (.refl _) _) _) HW1.out) (.drew (.refl _))) HW3.out) HW4.out) HW5.out) HW6.out) HW7.out) (.drew (.refl _)))) (by omega)) ?_
  rintro e w9 ⟨t9, rfl, hw9, ho9⟩
  have HO9 := Lib.hid ho9
  have HTL9 : Hid (t9.length = 2) := by rw [ho9.1, GInstanceRef.tr_len]; rfl
  clear ho9
  refine ⟨_, rfl, Ext.trans hHeld hw9, ?_⟩
  have hs9 := Ext.trans hHeld hw9
  have op0_9 := Lib.hid ((op0_8.out).ext hw9)
  have op1_9 := Lib.hid ((op1_8.out).ext hw9)
  have ox0_9 := Lib.hid ((ox0_8.out).ext hw9)
  have T3_9 := Lib.hid ((T3_8.out).ext hw9)
  have T4_9 := Lib.hid ((T4_8.out).ext hw9)
  have T6_9 := Lib.hid ((T6_8.out).ext hw9)
  have HW9 := Lib.hid hw9
  clear hw9
  simp only [Act.put, List.getElem_toArray, List.getElem_cons_zero, List.getElem_cons_succ, List.setIfInBounds_toArray, List.set_cons_zero, List.set_cons_succ]
  refine wpAnyH_call (i := 3) (by kernel_rfl) rfl rfl (run_call_func rfl rfl #[.agg ⟨t6⟩, .agg ⟨t9⟩] (by simp only [List.map_toArray, List.map_cons, List.map_nil, Act.eval]; rfl) Tryz.func19 (by kernel_rfl) (by kernel_rfl) _) (orphanPlain_impl x0 x1 _ _ _ (T6_9.out) (HO9.out.rep)) ?_
  rintro e w10 ⟨rfl, hw10⟩
  refine ⟨_, rfl, Ext.trans hs9 hw10, ?_⟩
  have hs10 := Ext.trans hs9 hw10
  have op0_10 := Lib.hid ((op0_9.out).ext hw10)
  have op1_10 := Lib.hid ((op1_9.out).ext hw10)
  have ox0_10 := Lib.hid ((ox0_9.out).ext hw10)
  have T3_10 := Lib.hid ((T3_9.out).ext hw10)
  have T4_10 := Lib.hid ((T4_9.out).ext hw10)
  have T6_10 := Lib.hid ((T6_9.out).ext hw10)
  have T9_10 := Lib.hid ((HO9.out.rep).ext hw10)
  have HW10 := Lib.hid hw10
  clear hw10
  simp only [Act.put, List.getElem_toArray, List.getElem_cons_zero, List.getElem_cons_succ, List.setIfInBounds_toArray, List.set_cons_zero, List.set_cons_succ]
  refine wpAnyH_take (i := 4) rfl (by kernel_rfl) (by kernel_rfl) (by kernel_rfl) (fun _ _ _ h => h) (.inl ⟨rfl, fun _ _ => rfl⟩) (by assumption) ?_
  simp only [Act.put, Act.eval, List.getElem_toArray, List.getElem_cons_zero, List.getElem_cons_succ, List.setIfInBounds_toArray, List.set_cons_zero, List.set_cons_succ]
  refine wpAnyH_done (by kernel_rfl) ?_ _
  clear hHeld hs9 hs10
  go_wp2_with (first
    | (refine wpList_load_rep rfl 24 (.tmp 2) rfl (w.heap.size) 0 rfl cs0 _ Tryz.underlying24 HI0_24.out (OB.cells0 (op0_10.out)) ?_)
    | (refine wpList_load_rep rfl 26 (.tmp 3) rfl (w.heap.size + 1) 0 rfl cs1 _ Tryz.underlying26 HI1_26.out (OB.cells0 (op1_10.out)) ?_)
    | (refine wpList_load_rep rfl 31 (.tmp 7) rfl (w6.heap.size) 0 rfl t6 _ Tryz.underlying31 HJ6.out (OB.cells0 (ox0_10.out)) ?_))
  refine wp_region_held_drew (S := Ext w10) (by kernel_rfl) (.drew (.refl _)) (fun hHeld => ?_)
  refine wpAnyH_load_rep (i := 0) rfl (by kernel_rfl) (by kernel_rfl) (by kernel_rfl) (fun _ _ _ h => h) rfl 31 (.tmp 7) rfl (w6.heap.size) 0 rfl t6 _ Tryz.underlying31 HJ6.out (fun w hS => OB.cells0 ((ox0_10.out).ext hS)) (by assumption) (fun _ _ _ _ h => h) ?_
  simp only [Act.put, Act.eval, List.getElem_toArray, List.getElem_cons_zero, List.setIfInBounds_toArray, List.set_cons_zero, List.set_cons_succ]
  refine wpAnyH_load_rep (i := 1) rfl (by kernel_rfl) (by kernel_rfl) (by kernel_rfl) (fun _ _ _ h => h) rfl 24 (.tmp 2) rfl (w.heap.size) 0 rfl cs0 _ Tryz.underlying24 HI0_24.out (fun w hS => OB.cells0 ((op0_10.out).ext hS)) (by assumption) (fun _ _ _ _ h => h) ?_
  simp only [Act.put, Act.eval, List.getElem_toArray, List.getElem_cons_zero, List.getElem_cons_succ, List.setIfInBounds_toArray, List.set_cons_zero, List.set_cons_succ]
  have op0_11 := Lib.hid ((op0_10.out).ext (Ext.drew (.refl w10)))
  have op1_11 := Lib.hid ((op1_10.out).ext (Ext.drew (.refl w10)))
  have ox0_11 := Lib.hid ((ox0_10.out).ext (Ext.drew (.refl w10)))
  have T3_11 := Lib.hid ((T3_10.out).ext (Ext.drew (.refl w10)))
  have T4_11 := Lib.hid ((T4_10.out).ext (Ext.drew (.refl w10)))
  have T6_11 := Lib.hid ((T6_10.out).ext (Ext.drew (.refl w10)))
  have T9_11 := Lib.hid ((T9_10.out).ext (Ext.drew (.refl w10)))
  refine wpAnyH_call (i := 2) (by kernel_rfl) rfl rfl (run_call_func rfl rfl #[.agg ⟨cs0⟩] (by simp only [List.map_toArray, List.map_cons, List.map_nil, Act.eval]; rfl) Tryz.func17 (by kernel_rfl) (by kernel_rfl) _) (toProgram_all x0 _ _ (HR0.out.ext (Ext.trans (Ext.trans (Ext.trans (Ext.trans (Ext.trans (Ext.trans (Ext.trans (Ext.trans (Ext.trans (Ext.trans (Ext.trans (.alloc (.alloc (.refl _) _) _) HW1.out) (.drew (.refl _))) HW3.out) HW4.out) HW5.out) HW6.out) HW7.out) (.drew (.refl _))) HW9.out) HW10.out) (.drew (.refl _)))) (by omega)) ?_
  rintro e w12 ⟨t12, rfl, hw12, ho12⟩
  have HO12 := Lib.hid ho12
  have HTL12 : Hid (t12.length = 1) := by rw [ho12.1, GProgram.tr_len]; rfl
  clear ho12
  refine ⟨_, rfl, Ext.trans hHeld hw12, ?_⟩
  have hs12 := Ext.trans hHeld hw12
  have op0_12 := Lib.hid ((op0_11.out).ext hw12)
  have op1_12 := Lib.hid ((op1_11.out).ext hw12)
  have ox0_12 := Lib.hid ((ox0_11.out).ext hw12)
  have T3_12 := Lib.hid ((T3_11.out).ext hw12)
  have T4_12 := Lib.hid ((T4_11.out).ext hw12)
  have T6_12 := Lib.hid ((T6_11.out).ext hw12)
  have T9_12 := Lib.hid ((T9_11.out).ext hw12)
  have HW12 := Lib.hid hw12
  clear hw12
  simp only [Act.put, List.getElem_toArray, List.getElem_cons_zero, List.getElem_cons_succ, List.setIfInBounds_toArray, List.set_cons_zero, List.set_cons_succ]
  refine wpAnyH_call (i := 3) (by kernel_rfl) rfl rfl (run_call_func rfl rfl #[.agg ⟨t6⟩, .agg ⟨t12⟩] (by simp only [List.map_toArray, List.map_cons, List.map_nil, Act.eval]; rfl) Tryz.func20 (by kernel_rfl) (by kernel_rfl) _) (eqProgram_all x0 _ _ _ (T6_12.out) (HO12.out.rep)) ?_
  rintro e w13 ⟨rfl, hw13⟩
  refine ⟨_, rfl, Ext.trans hs12 hw13, ?_⟩
  have hs13 := Ext.trans hs12 hw13
  have op0_13 := Lib.hid ((op0_12.out).ext hw13)
  have op1_13 := Lib.hid ((op1_12.out).ext hw13)
  have ox0_13 := Lib.hid ((ox0_12.out).ext hw13)
  have T3_13 := Lib.hid ((T3_12.out).ext hw13)
  have T4_13 := Lib.hid ((T4_12.out).ext hw13)
  have T6_13 := Lib.hid ((T6_12.out).ext hw13)
  have T9_13 := Lib.hid ((T9_12.out).ext hw13)
  have T12_13 := Lib.hid ((HO12.out.rep).ext hw13)
  have HW13 := Lib.hid hw13
  clear hw13
  simp only [Act.put, List.getElem_toArray, List.getElem_cons_zero, List.getElem_cons_succ, List.setIfInBounds_toArray, List.set_cons_zero, List.set_cons_succ]
  refine wpAnyH_take (i := 4) rfl (by kernel_rfl) (by kernel_rfl) (by kernel_rfl) (fun _ _ _ h => h) (.inl ⟨rfl, fun _ _ => rfl⟩) (by assumption) ?_
  simp only [Act.put, Act.eval, List.getElem_toArray, List.getElem_cons_zero, List.getElem_cons_succ, List.setIfInBounds_toArray, List.set_cons_zero, List.set_cons_succ]
  refine wpAnyH_done (by kernel_rfl) ?_ _
  clear hHeld hs12 hs13
  go_wp2_with (first
    | (refine wpList_load_rep rfl 24 (.tmp 2) rfl (w.heap.size) 0 rfl cs0 _ Tryz.underlying24 HI0_24.out (OB.cells0 (op0_13.out)) ?_)
    | (refine wpList_load_rep rfl 26 (.tmp 3) rfl (w.heap.size + 1) 0 rfl cs1 _ Tryz.underlying26 HI1_26.out (OB.cells0 (op1_13.out)) ?_)
    | (refine wpList_load_rep rfl 31 (.tmp 7) rfl (w6.heap.size) 0 rfl t6 _ Tryz.underlying31 HJ6.out (OB.cells0 (ox0_13.out)) ?_))
  go_ret
  exact ⟨rfl, (Ext.trans (Ext.trans (Ext.trans (Ext.trans (Ext.trans (Ext.trans (Ext.trans (Ext.trans (Ext.trans (Ext.trans (Ext.trans (Ext.trans (Ext.trans (.alloc (.alloc (.refl _) _) _) HW1.out) (.drew (.refl _))) HW3.out) HW4.out) HW5.out) HW6.out) HW7.out) (.drew (.refl _))) HW9.out) HW10.out) (.drew (.refl _))) HW12.out) HW13.out)⟩

set_option linter.unusedVariables false
theorem own : ownKnob Tryz.prog.godebug = none := by kernel_rfl
theorem laidOut : laidOutB Tryz.prog = true := by kernel_rfl

set_option maxRecDepth 100000 in
theorem lifted (os : Os) (started : os.Started) (H : Type) (enc : TypeId × Value → H) :
    ReturnsInHanded {} Tryz.checked os 3 .any (Rows.fnExactSatisfiesOrphanRuleSpec.pre6 enc Tryz.prog Tryz.f3 Rows.fnExactSatisfiesOrphanRuleRow.domain false) (Rows.fnExactSatisfiesOrphanRuleSpec.post enc Tryz.prog Tryz.f3 false true false false) := by
  refine returnsInHanded_of_change (C := Tryz.checked) own started (by kernel_rfl) Tryz.func3
    (ChangeSpec.witness6 (enc := enc) (C := Tryz.checked) false ⟨#[], #[.agg #[.slice none 0 0], .agg #[.int .i64 0, .int .i64 0]], []⟩ 8 (by kernel_rfl) (by kernel_rfl) (by kernel_rfl) (by kernel_rfl)) ?_
  intro W base args ds gs before hval0 hW hcnd _
  have hval : ∀ (j : Nat) t v, Tryz.f3.params[j]? = some t → args[j]? = some v → Value.okWide Tryz.prog W .any base t v := hval0
  have hW' := hW
  obtain ⟨p, q, hA0, hV, rfl, hfz, hnd⟩ := hW
  have hA : DataW.TrodAll enc Tryz.prog W 0 (fun _ => true) true Tryz.f3.params.toList args.toList ds p := hA0
  rw [Tryz.params3] at hA hval
  obtain ⟨v0, vs0, d0, ds0, p0, q0, hargs, rfl, rfl, h0, r0⟩ := trodAll_cons hA
  obtain ⟨v1, vs1, d1, ds1, p1, q1, rfl, rfl, rfl, h1, r1⟩ := trodAll_cons r0
  obtain ⟨rfl, rfl, rfl⟩ := trodAll_nil r1
  obtain rfl : args = #[v0, v1] := by cases args; simp_all
  obtain ⟨rfl, rfl⟩ := trodVars_none hV
  have k0 := h0
  have lt0 : ∀ x ∈ p0, x.block < W.heap.size := by obtain ⟨m, hm⟩ := k0; exact DataW.trod_lt m _ _ _ hm
  obtain ⟨c0, rfl, -⟩ := okWide_struct Tryz.underlying24 (hval 0 24 v0 rfl rfl)
  obtain ⟨fu0, hf0⟩ := h0
  obtain ⟨ts0, ty0, rp0, -⟩ := tyOf_of_trod plainClosed fu0 24 c0.toList _ (by decide) hf0
  obtain ⟨x0, rfl⟩ := tyof_Program ty0
  have k1 := h1
  have lt1 : ∀ x ∈ p1, x.block < W.heap.size := by obtain ⟨m, hm⟩ := k1; exact DataW.trod_lt m _ _ _ hm
  obtain ⟨c1, rfl, -⟩ := okWide_struct Tryz.underlying26 (hval 1 26 v1 rfl rfl)
  obtain ⟨fu1, hf1⟩ := h1
  obtain ⟨ts1, ty1, rp1, -⟩ := tyOf_of_trod plainClosed fu1 26 c1.toList _ (by decide) hf1
  obtain ⟨x1, rfl⟩ := tyof_InstanceRef ty1
  clear hA0 hval0
  refine (law_FnExactSatisfiesOrphanRule W x0 c0.toList rp0 x1 c1.toList rp1).mono fun e W' ⟨he, bel⟩ => ?_
  subst he
  exact ⟨_, rfl, _, _, _, [], _, [], hW', trodAll_mk1 (shut_bool Tryz.underlying4 _), (trodAll_cons_mk (Below.trod laidOut (by kernel_rfl) (of_decide_eq_true (by kernel_rfl)) k0 bel lt0) (trodAll_cons_mk (Below.trod laidOut (by kernel_rfl) (of_decide_eq_true (by kernel_rfl)) k1 bel lt1) trodAll_mk0)), rfl, bel.frame _, fun h => by cases h⟩

theorem over : Rows.fnExactSatisfiesOrphanRuleRow.holds Tryz.pinned (OpenSpec.ofChange Rows.fnExactSatisfiesOrphanRuleSpec) :=
  OpenClaim.holds_of_wide 3 Tryz.f3 rfl rfl rfl rfl rfl rfl rfl ⟨rfl, rfl, rfl, rfl, rfl⟩ rfl rfl rfl rfl rfl fnNamed Tryz.func3 factsJoin (of_decide_eq_true (by kernel_rfl)) wrapper
    (fun os started H enc _ => lifted os started H enc)

theorem proved : Rows.FnExactSatisfiesOrphanRuleSaid := over
#print axioms proved

end Go.Proofs.YtnakkelglbcecaaGreat.fnExactSatisfiesOrphanRuleDone
