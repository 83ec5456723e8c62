/- FnExactFindAssumption returns true for every input, and leaves what was there as it was. No conditions. -/
import Derived.Test.YtoifjkggpanceaaRows
import Derived.Test.YtoifjkggpanceaaTyped
import Derived.Test.YtoifjkggpanceaaBAll
import Derived.Test.YtoifjkggpanceaaReg
import Derived.Test.YtoifjkggpanceaaFind
import Derived.ProofKit
import Derived.OpenShut
import Derived.ShutString
import Derived.ChangeOld
namespace Go.Proofs.Ytoifjkggpanceaa.fnExactFindAssumptionDone
open Go.Proofs Go.Proofs.Ytoifjkggpanceaa Go.ChangeShapes Go.WideShapes Go.ChangeAt Go.RowKit
open Go.ChangeMaps (open_string shut_string)

set_option maxRecDepth 100000 in
set_option maxHeartbeats 4000000 in
theorem law_FnExactFindAssumption (w : World) (x0 : List GAssumption) (s0 : Value) (hr0 : Rep w (.row 6 (GAssumption.trs x0)) s0) (x1 : GBound) (cs1 : List Value) (hr1 : RepL w x1.tr cs1) :
    Calls Try.prog 6 #[s0, .agg ⟨cs1⟩] w fun e w' => e = .returned (.bool true) ∧ Below w.heap.size w w' := by
  have HR0 := Lib.hid hr0
  obtain ⟨sa0, sc0, rfl, -, -⟩ := HR0.out.shape
  clear hr0
  have HR1 := Lib.hid hr1
  have HL1 : Hid (cs1.length = 4) := by rw [← hr1.length, GBound.tr_len]; rfl
  have HI1_26 : Hid ((Try.prog.info? 26).map (·.size) = some cs1.length) := by rw [HL1.out]; exact isz26
  have HI1_34 : Hid ((Try.prog.info? 34).map (·.size) = some cs1.length) := by rw [HL1.out]; exact isz34
  clear hr1
  go_enter Try.func6, Try.ntmps6
  go_wp2_with (refine wpList_load_rep rfl 26 (.tmp 3) rfl (w.heap.size) 0 rfl cs1 _ Try.underlying26 HI1_26.out (OB.cells0 (OB.new w _ _)) ?_)
  refine (szAssumptionS_all x0 _ _ _ (HR0.out.ext (.alloc (.refl _) _)) (by omega) (by omega)).mono ?_
  rintro e w1 ⟨r1, rfl, hw1, ra1, rb1, rc1⟩
  have RC1 := Lib.hid rc1
  clear rc1
  have op1_1 := Lib.hid ((OB.new w _ _).ext hw1)
  have HW1 := Lib.hid hw1
  clear hw1
  go_wp2_with (refine wpList_load_rep rfl 26 (.tmp 3) rfl (w.heap.size) 0 rfl cs1 _ Try.underlying26 HI1_26.out (OB.cells0 (op1_1.out)) ?_)
  · go_ret
    exact ⟨rfl, (Ext.trans (.alloc (.refl _) _) HW1.out)⟩
  refine (szBound_all x1 _ _ _ (HR1.out.ext (Ext.trans (.alloc (.refl _) _) HW1.out)) (by omega) (by omega)).mono ?_
  rintro e w2 ⟨r2, rfl, hw2, ra2, rb2, rc2⟩
  have RC2 := Lib.hid rc2
  clear rc2
  have op1_2 := Lib.hid ((op1_1.out).ext hw2)
  have HW2 := Lib.hid hw2
  clear hw2
  go_wp2_with (refine wpList_load_rep rfl 26 (.tmp 3) rfl (w.heap.size) 0 rfl cs1 _ Try.underlying26 HI1_26.out (OB.cells0 (op1_2.out)) ?_)
  · go_ret
    exact ⟨rfl, (Ext.trans (Ext.trans (.alloc (.refl _) _) HW1.out) HW2.out)⟩
  have hb0 := RC1.out (by omega)
  simp only [Tr.bulk] at hb0
  have hb1 := RC2.out (by omega)
  refine wp_region_held_drew (S := Ext w2) (by kernel_rfl) (.drew (.refl _)) (fun hHeld => ?_)
  refine wpAnyH_take (i := 0) rfl (by kernel_rfl) (by kernel_rfl) (by kernel_rfl) (fun _ _ _ h => h) (.inl ⟨rfl, fun _ _ => rfl⟩) (by assumption) ?_
  simp only [Act.put, List.getElem_toArray, List.getElem_cons_zero, List.getElem_cons_succ, List.setIfInBounds_toArray, List.set_cons_zero, List.set_cons_succ]
  refine wpAnyH_load_rep (i := 2) rfl (by kernel_rfl) (by kernel_rfl) (by kernel_rfl) (fun _ _ _ h => h) rfl 26 (.tmp 3) rfl (w.heap.size) 0 rfl cs1 _ Try.underlying26 HI1_26.out (fun w hS => OB.cells0 ((op1_2.out).ext hS)) (by assumption) (fun _ _ _ _ h => h) ?_
  simp only [Act.put, List.getElem_toArray, List.getElem_cons_zero, List.getElem_cons_succ, List.setIfInBounds_toArray, List.set_cons_zero, List.set_cons_succ]
  have op1_3 := Lib.hid ((op1_2.out).ext (Ext.drew (.refl w2)))
  refine wpAnyH_call (i := 1) (by kernel_rfl) rfl rfl (run_call_func rfl rfl #[.slice sa0 (GAssumption.trs x0).length sc0] (by simp only [List.map_toArray, List.map_cons, List.map_nil, Act.eval]; rfl) Try.func46 (by kernel_rfl) (by kernel_rfl) _) (toAssumptionS_all x0 _ _ (HR0.out.ext (Ext.trans (Ext.trans (Ext.trans (.alloc (.refl _) _) HW1.out) HW2.out) (.drew (.refl _)))) (by omega)) ?_
  rintro e w4 ⟨t4, rfl, hw4, ho4⟩
  have HO4 := Lib.hid ho4
  obtain ⟨ta4, tc4, rfl, -, -⟩ := HO4.out.rep.shape
  clear ho4
  refine ⟨_, rfl, Ext.trans hHeld hw4, ?_⟩
  have hs4 := Ext.trans hHeld hw4
  have op1_4 := Lib.hid ((op1_3.out).ext hw4)
  have HW4 := Lib.hid hw4
  clear hw4
  simp only [Act.put, List.getElem_toArray, List.getElem_cons_zero, List.getElem_cons_succ, List.setIfInBounds_toArray, List.set_cons_zero, List.set_cons_succ]
  refine wpAnyH_call (i := 3) (by kernel_rfl) rfl rfl (run_call_func rfl rfl #[.agg ⟨cs1⟩] (by simp only [List.map_toArray, List.map_cons, List.map_nil, Act.eval]; rfl) Try.func18 (by kernel_rfl) (by kernel_rfl) _) (toBound_all x1 _ _ (HR1.out.ext (Ext.trans (Ext.trans (Ext.trans (Ext.trans (.alloc (.refl _) _) HW1.out) HW2.out) (.drew (.refl _))) HW4.out)) (by omega)) ?_
  rintro e w5 ⟨t5, rfl, hw5, ho5⟩
  have HO5 := Lib.hid ho5
  have HTL5 : Hid (t5.length = 4) := by rw [ho5.1, GBound.tr_len]; rfl
  clear ho5
  refine ⟨_, rfl, Ext.trans hs4 hw5, ?_⟩
  have hs5 := Ext.trans hs4 hw5
  have op1_5 := Lib.hid ((op1_4.out).ext hw5)
  have T4_5 := Lib.hid ((HO4.out.rep).ext hw5)
  have HW5 := Lib.hid hw5
  clear hw5
  simp only [Act.put, List.getElem_toArray, List.getElem_cons_zero, List.getElem_cons_succ, List.setIfInBounds_toArray, List.set_cons_zero, List.set_cons_succ]
  refine wpAnyH_call (i := 4) (by kernel_rfl) rfl rfl (run_call_func rfl rfl #[.slice ta4 (GAssumption.trs x0).length tc4, .agg ⟨t5⟩] (by simp only [List.map_toArray, List.map_cons, List.map_nil, Act.eval]; rfl) Try.func45 (by kernel_rfl) (by kernel_rfl) _) (findAssumption_spec x0 x1 _ _ _ (T4_5.out) (HO5.out.rep)) ?_
  rintro e w6 ⟨rfl, hw6⟩
  refine ⟨_, rfl, Ext.trans hs5 hw6, ?_⟩
  have hs6 := Ext.trans hs5 hw6
  have op1_6 := Lib.hid ((op1_5.out).ext hw6)
  have T4_6 := Lib.hid ((T4_5.out).ext hw6)
  have T5_6 := Lib.hid ((HO5.out.rep).ext hw6)
  have HW6 := Lib.hid hw6
  clear hw6
  simp only [Act.put, List.getElem_toArray, List.getElem_cons_zero, List.getElem_cons_succ, List.setIfInBounds_toArray, List.set_cons_zero, List.set_cons_succ]
  refine wpAnyH_take (i := 5) rfl (by kernel_rfl) (by kernel_rfl) (by kernel_rfl) (fun _ _ _ h => h) (.inl ⟨rfl, fun _ _ => rfl⟩) (by assumption) ?_
  simp only [Act.put, List.getElem_toArray, List.getElem_cons_zero, List.getElem_cons_succ, List.setIfInBounds_toArray, List.set_cons_zero, List.set_cons_succ]
  refine wpAnyH_done (by kernel_rfl) ?_ _
  clear hHeld hs4 hs5 hs6
  go_wp2_with (refine wpList_load_rep rfl 26 (.tmp 3) rfl (w.heap.size) 0 rfl cs1 _ Try.underlying26 HI1_26.out (OB.cells0 (op1_6.out)) ?_)
  refine (toAssumptionS_all x0 _ _ (HR0.out.ext (Ext.trans (Ext.trans (Ext.trans (Ext.trans (Ext.trans (Ext.trans (.alloc (.refl _) _) HW1.out) HW2.out) (.drew (.refl _))) HW4.out) HW5.out) HW6.out)) (by omega)).mono ?_
  rintro e w7 ⟨t7, rfl, hw7, ho7⟩
  have HO7 := Lib.hid ho7
  obtain ⟨ta7, tc7, rfl, -, -⟩ := HO7.out.rep.shape
  clear ho7
  have op1_7 := Lib.hid ((op1_6.out).ext hw7)
  have T4_7 := Lib.hid ((T4_6.out).ext hw7)
  have T5_7 := Lib.hid ((T5_6.out).ext hw7)
  have HW7 := Lib.hid hw7
  clear hw7
  go_wp2_with (refine wpList_load_rep rfl 26 (.tmp 3) rfl (w.heap.size) 0 rfl cs1 _ Try.underlying26 HI1_26.out (OB.cells0 (op1_7.out)) ?_)
  refine (toBound_all x1 _ _ (HR1.out.ext (Ext.trans (Ext.trans (Ext.trans (Ext.trans (Ext.trans (Ext.trans (Ext.trans (.alloc (.refl _) _) HW1.out) HW2.out) (.drew (.refl _))) HW4.out) HW5.out) HW6.out) HW7.out)) (by omega)).mono ?_
  rintro e w8 ⟨t8, rfl, hw8, ho8⟩
  have HO8 := Lib.hid ho8
  have HTL8 : Hid (t8.length = 4) := by rw [ho8.1, GBound.tr_len]; rfl
  clear ho8
  have op1_8 := Lib.hid ((op1_7.out).ext hw8)
  have T4_8 := Lib.hid ((T4_7.out).ext hw8)
  have T5_8 := Lib.hid ((T5_7.out).ext hw8)
  have T7_8 := Lib.hid ((HO7.out.rep).ext hw8)
  have HW8 := Lib.hid hw8
  clear hw8
  have HJ8 : Hid ((Try.prog.info? 34).map (·.size) = some t8.length) := by rw [HTL8.out]; exact isz34
  go_wp2_with (first
    | (refine wpList_load_rep rfl 26 (.tmp 3) rfl (w.heap.size) 0 rfl cs1 _ Try.underlying26 HI1_26.out (OB.cells0 (op1_9.out)) ?_)
    | (refine wpList_load_rep rfl 34 (.tmp 8) rfl (w8.heap.size) 0 rfl t8 _ Try.underlying34 HJ8.out (OB.cells0 (HOB9.out)) ?_)
    | (refine wpList_store_rep rfl 34 (.tmp 8) _ rfl w8.heap.size 0 rfl t8 rfl 34 _ (OB.new w8 _ _) HJ8.out (by rw [HTL8.out]; exact Nat.le_refl _) HO8.out.rep.one ?_; intro w9 hob hgb hzb; rw [splice_whole (by rw [HTL8.out]; rfl)] at hob; have HOB9 := Lib.hid hob; have HW9 := Lib.hid (grown_ext (.alloc (.refl w8) _) hgb (Nat.le_refl _)); clear hob hgb hzb; have op1_9 := Lib.hid ((op1_8.out).ext HW9.out); have T4_9 := Lib.hid ((T4_8.out).ext HW9.out); have T5_9 := Lib.hid ((T5_8.out).ext HW9.out); have T7_9 := Lib.hid ((T7_8.out).ext HW9.out); have T8_9 := Lib.hid ((HO8.out.rep).ext HW9.out)))
  refine (findAssumption_impl x0 x1 _ _ _ (T7_9.out) (T8_9.out)).mono ?_
  rintro e w10 ⟨rfl, hw10⟩
  have op1_10 := Lib.hid ((op1_9.out).ext hw10)
  have ox1_10 := Lib.hid ((HOB9.out).ext hw10)
  have T4_10 := Lib.hid ((T4_9.out).ext hw10)
  have T5_10 := Lib.hid ((T5_9.out).ext hw10)
  have T7_10 := Lib.hid ((T7_9.out).ext hw10)
  have T8_10 := Lib.hid ((T8_9.out).ext hw10)
  have HW10 := Lib.hid hw10
  clear hw10
  go_wp2_with (first
    | (refine wpList_load_rep rfl 26 (.tmp 3) rfl (w.heap.size) 0 rfl cs1 _ Try.underlying26 HI1_26.out (OB.cells0 (op1_10.out)) ?_)
    | (refine wpList_load_rep rfl 34 (.tmp 8) rfl (w8.heap.size) 0 rfl t8 _ Try.underlying34 HJ8.out (OB.cells0 (ox1_10.out)) ?_))
  refine (toAssumptionS_all x0 _ _ (HR0.out.ext (Ext.trans (Ext.trans (Ext.trans (Ext.trans (Ext.trans (Ext.trans (Ext.trans (Ext.trans (Ext.trans (Ext.trans (.alloc (.refl _) _) HW1.out) HW2.out) (.drew (.refl _))) HW4.out) HW5.out) HW6.out) HW7.out) HW8.out) HW9.out) HW10.out)) (by omega)).mono ?_
  rintro e w11 ⟨t11, rfl, hw11, ho11⟩
  have HO11 := Lib.hid ho11
  obtain ⟨ta11, tc11, rfl, -, -⟩ := HO11.out.rep.shape
  clear ho11
  have op1_11 := Lib.hid ((op1_10.out).ext hw11)
  have ox1_11 := Lib.hid ((ox1_10.out).ext hw11)
  have T4_11 := Lib.hid ((T4_10.out).ext hw11)
  have T5_11 := Lib.hid ((T5_10.out).ext hw11)
  have T7_11 := Lib.hid ((T7_10.out).ext hw11)
  have T8_11 := Lib.hid ((T8_10.out).ext hw11)
  have HW11 := Lib.hid hw11
  clear hw11
  go_wp2_with (first
    | (refine wpList_load_rep rfl 26 (.tmp 3) rfl (w.heap.size) 0 rfl cs1 _ Try.underlying26 HI1_26.out (OB.cells0 (op1_11.out)) ?_)
    | (refine wpList_load_rep rfl 34 (.tmp 8) rfl (w8.heap.size) 0 rfl t8 _ Try.underlying34 HJ8.out (OB.cells0 (ox1_11.out)) ?_))
  refine (eqAssumptionS_all x0 _ _ _ (T7_11.out) (HO11.out.rep)).mono ?_
  rintro e w12 ⟨rfl, hw12⟩
  have op1_12 := Lib.hid ((op1_11.out).ext hw12)
  have ox1_12 := Lib.hid ((ox1_11.out).ext hw12)
  have T4_12 := Lib.hid ((T4_11.out).ext hw12)
  have T5_12 := Lib.hid ((T5_11.out).ext hw12)
  have T7_12 := Lib.hid ((T7_11.out).ext hw12)
  have T8_12 := Lib.hid ((T8_11.out).ext hw12)
  have T11_12 := Lib.hid ((HO11.out.rep).ext hw12)
  have HW12 := Lib.hid hw12
  clear hw12
  go_wp2_with (first
    | (refine wpList_load_rep rfl 26 (.tmp 3) rfl (w.heap.size) 0 rfl cs1 _ Try.underlying26 HI1_26.out (OB.cells0 (op1_12.out)) ?_)
    | (refine wpList_load_rep rfl 34 (.tmp 8) rfl (w8.heap.size) 0 rfl t8 _ Try.underlying34 HJ8.out (OB.cells0 (ox1_12.out)) ?_))
  refine wp_region_held_drew (S := Ext w12) (by kernel_rfl) (.drew (.refl _)) (fun hHeld => ?_)
  refine wpAnyH_load_rep (i := 0) rfl (by kernel_rfl) (by kernel_rfl) (by kernel_rfl) (fun _ _ _ h => h) rfl 34 (.tmp 8) rfl (w8.heap.size) 0 rfl t8 _ Try.underlying34 HJ8.out (fun w hS => OB.cells0 ((ox1_12.out).ext hS)) (by assumption) (fun _ _ _ _ h => h) ?_
  simp only [Act.put, List.getElem_toArray, List.getElem_cons_zero, List.getElem_cons_succ, List.setIfInBounds_toArray, List.set_cons_zero, List.set_cons_succ]
  refine wpAnyH_load_rep (i := 1) rfl (by kernel_rfl) (by kernel_rfl) (by kernel_rfl) (fun _ _ _ h => h) rfl 26 (.tmp 3) rfl (w.heap.size) 0 rfl cs1 _ Try.underlying26 HI1_26.out (fun w hS => OB.cells0 ((op1_12.out).ext hS)) (by assumption) (fun _ _ _ _ h => h) ?_
  simp only [Act.put, List.getElem_toArray, List.getElem_cons_zero, List.getElem_cons_succ, List.setIfInBounds_toArray, List.set_cons_zero, List.set_cons_succ]
  have op1_13 := Lib.hid ((op1_12.out).ext (Ext.drew (.refl w12)))
  have ox1_13 := Lib.hid ((ox1_12.out).ext (Ext.drew (.refl w12)))
  have T4_13 := Lib.hid ((T4_12.out).ext (Ext.drew (.refl w12)))
  have T5_13 := Lib.hid ((T5_12.out).ext (Ext.drew (.refl w12)))
  have T7_13 := Lib.hid ((T7_12.out).ext (Ext.drew (.refl w12)))
  have T8_13 := Lib.hid ((T8_12.out).ext (Ext.drew (.refl w12)))
  have T11_13 := Lib.hid ((T11_12.out).ext (Ext.drew (.refl w12)))
  refine wpAnyH_call (i := 2) (by kernel_rfl) rfl rfl (run_call_func rfl rfl #[.agg ⟨cs1⟩] (by simp only [List.map_toArray, List.map_cons, List.map_nil, Act.eval]; rfl) Try.func18 (by kernel_rfl) (by kernel_rfl) _) (toBound_all x1 _ _ (HR1.out.ext (Ext.trans (Ext.trans (Ext.trans (Ext.trans (Ext.trans (Ext.trans (Ext.trans (Ext.trans (Ext.trans (Ext.trans (Ext.trans (Ext.trans (Ext.trans (.alloc (.refl _) _) HW1.out) HW2.out) (.drew (.refl _))) HW4.out) HW5.out) HW6.out) HW7.out) HW8.out) HW9.out) HW10.out) HW11.out) HW12.out) (.drew (.refl _)))) (by omega)) ?_
  rintro e w14 ⟨t14, rfl, hw14, ho14⟩
  have HO14 := Lib.hid ho14
  have HTL14 : Hid (t14.length = 4) := by rw [ho14.1, GBound.tr_len]; rfl
  clear ho14
  refine ⟨_, rfl, Ext.trans hHeld hw14, ?_⟩
  have hs14 := Ext.trans hHeld hw14
  have op1_14 := Lib.hid ((op1_13.out).ext hw14)
  have ox1_14 := Lib.hid ((ox1_13.out).ext hw14)
  have T4_14 := Lib.hid ((T4_13.out).ext hw14)
  have T5_14 := Lib.hid ((T5_13.out).ext hw14)
  have T7_14 := Lib.hid ((T7_13.out).ext hw14)
  have T8_14 := Lib.hid ((T8_13.out).ext hw14)
  have T11_14 := Lib.hid ((T11_13.out).ext hw14)
  have HW14 := Lib.hid hw14
  clear hw14
  simp only [Act.put, List.getElem_toArray, List.getElem_cons_zero, List.getElem_cons_succ, List.setIfInBounds_toArray, List.set_cons_zero, List.set_cons_succ]
  refine wpAnyH_call (i := 3) (by kernel_rfl) rfl rfl (run_call_func rfl rfl #[.agg ⟨t8⟩, .agg ⟨t14⟩] (by simp only [List.map_toArray, List.map_cons, List.map_nil, Act.eval]; rfl) Try.func21 (by kernel_rfl) (by kernel_rfl) _) (eqBound_all x1 _ _ _ (T8_14.out) (HO14.out.rep)) ?_
  rintro e w15 ⟨rfl, hw15⟩
  refine ⟨_, rfl, Ext.trans hs14 hw15, ?_⟩
  have hs15 := Ext.trans hs14 hw15
  have op1_15 := Lib.hid ((op1_14.out).ext hw15)
  have ox1_15 := Lib.hid ((ox1_14.out).ext hw15)
  have T4_15 := Lib.hid ((T4_14.out).ext hw15)
  have T5_15 := Lib.hid ((T5_14.out).ext hw15)
  have T7_15 := Lib.hid ((T7_14.out).ext hw15)
  have T8_15 := Lib.hid ((T8_14.out).ext hw15)
  have T11_15 := Lib.hid ((T11_14.out).ext hw15)
  have T14_15 := Lib.hid ((HO14.out.rep).ext hw15)
  have HW15 := Lib.hid hw15
  clear hw15
  simp only [Act.put, List.getElem_toArray, List.getElem_cons_zero, List.getElem_cons_succ, List.setIfInBounds_toArray, List.set_cons_zero, List.set_cons_succ]
  refine wpAnyH_take (i := 4) rfl (by kernel_rfl) (by kernel_rfl) (by kernel_rfl) (fun _ _ _ h => h) (.inl ⟨rfl, fun _ _ => rfl⟩) (by assumption) ?_
  simp only [Act.put, List.getElem_toArray, List.getElem_cons_zero, List.getElem_cons_succ, List.setIfInBounds_toArray, List.set_cons_zero, List.set_cons_succ]
  refine wpAnyH_done (by kernel_rfl) ?_ _
  clear hHeld hs14 hs15
  go_wp2_with (first
    | (refine wpList_load_rep rfl 26 (.tmp 3) rfl (w.heap.size) 0 rfl cs1 _ Try.underlying26 HI1_26.out (OB.cells0 (op1_15.out)) ?_)
    | (refine wpList_load_rep rfl 34 (.tmp 8) rfl (w8.heap.size) 0 rfl t8 _ Try.underlying34 HJ8.out (OB.cells0 (ox1_15.out)) ?_))
  go_ret
  exact ⟨rfl, (Ext.trans (Ext.trans (Ext.trans (Ext.trans (Ext.trans (Ext.trans (Ext.trans (Ext.trans (Ext.trans (Ext.trans (Ext.trans (Ext.trans (Ext.trans (Ext.trans (Ext.trans (.alloc (.refl _) _) HW1.out) HW2.out) (.drew (.refl _))) HW4.out) HW5.out) HW6.out) HW7.out) HW8.out) HW9.out) HW10.out) HW11.out) HW12.out) (.drew (.refl _))) HW14.out) HW15.out)⟩

set_option linter.unusedVariables false
theorem own : ownKnob Try.prog.godebug = none := by kernel_rfl
theorem laidOut : laidOutB Try.prog = true := by kernel_rfl

set_option maxRecDepth 100000 in
theorem lifted (os : Os) (started : os.Started) (H : Type) (enc : TypeId × Value → H) :
    ReturnsInHanded {} Try.checked os 6 .any (Rows.fnExactFindAssumptionSpec.pre6 enc Try.prog Try.f6 Rows.fnExactFindAssumptionRow.domain false) (Rows.fnExactFindAssumptionSpec.post enc Try.prog Try.f6 false true false false) := by
  refine returnsInHanded_of_change (C := Try.checked) own started (by kernel_rfl) Try.func6
    (ChangeSpec.witness6 (enc := enc) (C := Try.checked) false ⟨#[], #[.slice none 0 0, .agg #[.string ⟨#[]⟩, .int .i64 0, .string ⟨#[]⟩, .slice none 0 0]], []⟩ 8 (by kernel_rfl) (by kernel_rfl) (by kernel_rfl) (by kernel_rfl)) ?_
  intro W base args ds gs before hval0 hW hcnd _
  have hval : ∀ (j : Nat) t v, Try.f6.params[j]? = some t → args[j]? = some v → Value.okWide Try.prog W .any base t v := hval0
  have hW' := hW
  obtain ⟨p, q, hA0, hV, rfl, hfz, hnd⟩ := hW
  have hA : DataW.TrodAll enc Try.prog W 0 (fun _ => true) true Try.f6.params.toList args.toList ds p := hA0
  rw [Try.params6] at hA hval
  obtain ⟨v0, vs0, d0, ds0, p0, q0, hargs, rfl, rfl, h0, r0⟩ := trodAll_cons hA
  obtain ⟨v1, vs1, d1, ds1, p1, q1, rfl, rfl, rfl, h1, r1⟩ := trodAll_cons r0
  obtain ⟨rfl, rfl, rfl⟩ := trodAll_nil r1
  obtain rfl : args = #[v0, v1] := by cases args; simp_all
  obtain ⟨rfl, rfl⟩ := trodVars_none hV
  have k0 := h0
  have lt0 : ∀ x ∈ p0, x.block < W.heap.size := by obtain ⟨m, hm⟩ := k0; exact DataW.trod_lt m _ _ _ hm
  obtain ⟨a0, len0, cap0, rfl⟩ := okWide_slice Try.underlying79 (hval 0 79 v0 rfl rfl)
  obtain ⟨fu0, hf0⟩ := h0
  obtain ⟨ts0, ty0, rp0, -⟩ := tyOf_of_trod plainClosed fu0 79 _ _ (by decide) hf0
  obtain ⟨es0, rfl, me0⟩ := ty0.slice_inv Try.underlying79
  obtain ⟨x0, rfl⟩ := list_of (tr := GAssumption.tr) (es := es0) fun e he => tyof_Assumption (me0 e he)
  rw [cellsOf157, ← GAssumption.trs_map] at rp0
  have k1 := h1
  have lt1 : ∀ x ∈ p1, x.block < W.heap.size := by obtain ⟨m, hm⟩ := k1; exact DataW.trod_lt m _ _ _ hm
  obtain ⟨c1, rfl, -⟩ := okWide_struct Try.underlying26 (hval 1 26 v1 rfl rfl)
  obtain ⟨fu1, hf1⟩ := h1
  obtain ⟨ts1, ty1, rp1, -⟩ := tyOf_of_trod plainClosed fu1 26 c1.toList _ (by decide) hf1
  obtain ⟨x1, rfl⟩ := tyof_Bound ty1
  clear hA0 hval0
  refine (law_FnExactFindAssumption W x0 _ rp0.1 x1 c1.toList rp1).mono fun e W' ⟨he, bel⟩ => ?_
  subst he
  exact ⟨_, rfl, _, _, _, [], _, [], hW', trodAll_mk1 (shut_bool Try.underlying4 _), (trodAll_cons_mk (Below.trod laidOut (by kernel_rfl) (of_decide_eq_true (by kernel_rfl)) k0 bel lt0) (trodAll_cons_mk (Below.trod laidOut (by kernel_rfl) (of_decide_eq_true (by kernel_rfl)) k1 bel lt1) trodAll_mk0)), rfl, bel.frame _, fun h => by cases h⟩

theorem fnNamed : Try.pinned.checked.prog.funcNamed Rows.fnExactFindAssumptionRow.func = some 6 := by kernel_rfl
theorem factsJoin : joinedFacts Try.pinned.checked.prog 6 Try.f6 Rows.fnExactFindAssumptionSpec Rows.fnExactFindAssumptionRow = true := by kernel_rfl
theorem wrapper : Try.f6.isWrapper Try.pinned.checked.prog Rows.fnExactFindAssumptionRow.wrapper Rows.fnExactFindAssumptionRow.mainSum := (by unfold Func.isWrapper; first | (rw [if_pos (by decide +kernel)]; kernel_rfl) | (rw [if_neg (by decide +kernel)]; exact ⟨rfl, rfl⟩))
theorem over : Rows.fnExactFindAssumptionRow.holds Try.pinned (OpenSpec.ofChange Rows.fnExactFindAssumptionSpec) :=
  OpenClaim.holds_of_wide 6 Try.f6 rfl rfl rfl rfl rfl rfl rfl ⟨rfl, rfl, rfl, rfl, rfl⟩ rfl rfl rfl rfl rfl fnNamed Try.func6 factsJoin (of_decide_eq_true (by kernel_rfl)) wrapper
    (fun os started H enc _ => lifted os started H enc)

theorem proved : Rows.FnExactFindAssumptionSaid := over
#print axioms proved

end Go.Proofs.Ytoifjkggpanceaa.fnExactFindAssumptionDone
