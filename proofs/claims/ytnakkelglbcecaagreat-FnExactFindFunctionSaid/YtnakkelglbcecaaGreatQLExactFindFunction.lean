/- FnExactFindFunction returns true for every input, and leaves what was there as it was. No conditions. -/
import Derived.Test.YtnakkelglbcecaaGreatRows
import Derived.Test.YtnakkelglbcecaaGreatQhd8db69fa
import Derived.Test.YtnakkelglbcecaaGreatQh040be154
import Derived.Test.YtnakkelglbcecaaGreatQh811198d3
import Derived.Test.YtnakkelglbcecaaGreatQh1e02a046
import Derived.Test.YtnakkelglbcecaaGreatQh04595d0f
import Derived.ProofKit
import Derived.OpenShut
import Derived.ShutString
import Derived.ChangeOld
import Derived.Test.YtnakkelglbcecaaGreatQJExactFindFunction
import Derived.Test.YtnakkelglbcecaaGreatQh53efcb64
set_option linter.unusedSimpArgs false
set_option linter.unusedVariables false
namespace Go.Proofs.YtnakkelglbcecaaGreat.fnExactFindFunctionDone
open Go.Proofs Go.Proofs.YtnakkelglbcecaaGreat Go.ChangeShapes Go.WideShapes Go.ChangeAt Go.RowKit
open Go.ChangeMaps (open_string shut_string)

theorem obchg {S : Nat → Prop} {w w' : World} {g : Nat} {t : TypeId} {cs : Array Value} (h : OB w g t cs) (hc : Chg S w w') (hn : ¬ S g) : OB w' g t cs := (hc.block g h.lt hn).trans h
set_option maxRecDepth 100000 in
set_option maxHeartbeats 8000000 in
theorem law_FnExactFindFunction (w : World) (x0 : GProgram) (cs0 : List Value) (hr0 : RepL w x0.tr cs0) (x1 : ByteArray) (hx1 : x1.size ≤ 9223372036854775807) :
    Calls Tryz.prog 14 #[.agg ⟨cs0⟩, .string x1] w fun e w' => e = .returned (.bool true) ∧ Below w.heap.size w w' := by
  have HL0 : Hid (cs0.length = 1) := by rw [← hr0.length, GProgram.tr_len]; rfl
  have HI0 : Hid ((Tryz.prog.info? 24).map (·.size) = some cs0.length) := by rw [HL0.out]; exact isz24
  have HR0 := Lib.hid hr0
  clear hr0
  go_enter Tryz.func14, Tryz.ntmps14
  go_wp2_with (first
    | (refine wpList_load_rep rfl 24 (.tmp 2) rfl (w.heap.size) 0 rfl cs0 _ Tryz.underlying24 HI0.out (OB.cells0 (OB.new w _ _)) ?_))
  · go_ret
    exact ⟨rfl, (Ext.alloc (Ext.refl _) _)⟩
  refine (szProgram_all x0 _ _ _ (HR0.out.ext (Ext.alloc (Ext.refl _) _)) (by omega) (by omega)).mono ?_; rintro e w1 ⟨r1, rfl, hw1, ra1, rb1, rc1⟩
  have RC1 := Lib.hid rc1
  clear rc1
  have Fp0_1 := Lib.hid ((OB.new w _ _).ext hw1)
  have X1 := Lib.hid (Ext.trans (Ext.alloc (Ext.refl _) _) hw1)
  have z1 : w.heap.size + 1 ≤ w1.heap.size := (by have h1 := hw1.size; simp only [World.size_alloc] at h1; omega)
  clear hw1
  go_wp2_with (first
    | (refine wpList_load_rep rfl 24 (.tmp 2) rfl (w.heap.size) 0 rfl cs0 _ Tryz.underlying24 HI0.out (OB.cells0 (Fp0_1.out)) ?_))
  · go_ret
    exact ⟨rfl, X1.out⟩
  have hb0 := RC1.out (by omega)
  refine (toProgram_all x0 _ _ (HR0.out.ext X1.out) (by omega)).mono ?_; rintro e w2 ⟨t2, rfl, hw2, ho2⟩
  have HO2 := Lib.hid ho2
  have HT2 : Hid (t2.length = 1) := (by rw [ho2.1]; exact GProgram.tr_len _)
  have HJ2 : Hid ((Tryz.prog.info? 31).map (·.size) = some t2.length) := (by rw [HT2.out]; exact isz31)
  clear ho2
  have Fp0_2 := Lib.hid ((Fp0_1.out).ext hw2)
  have X2 := Lib.hid (Ext.trans X1.out hw2)
  have z2 : w1.heap.size ≤ w2.heap.size := hw2.size
  clear hw2
  go_wp2_with (first
    | (refine wpList_load_rep rfl 24 (.tmp 2) rfl (w.heap.size) 0 rfl cs0 _ Tryz.underlying24 HI0.out (OB.cells0 (Fp0_2.out)) ?_))
  refine (findFP_spec x0 x1 _ _ ((HO2.out).rep) (by unfold maxLen; omega) (by have := x0.fn_bulk x1; omega)).mono ?_; rintro e w3 ⟨t3, rfl, hw3, ho3⟩
  have HO3 := Lib.hid ho3
  have HT3 : Hid (t3.length = 16) := (by rw [← ho3.length]; exact GFunction.tr_len _)
  have HJ3 : Hid ((Tryz.prog.info? 105).map (·.size) = some t3.length) := (by rw [HT3.out]; exact isz105)
  clear ho3
  have Fp0_3 := Lib.hid ((Fp0_2.out).ext hw3)
  have Ft2_3 := Lib.hid ((HO2.out).ext hw3)
  have X3 := Lib.hid (Ext.trans X2.out hw3)
  have z3 : w2.heap.size ≤ w3.heap.size := hw3.size
  clear hw3
  go_wp2_with (first
    | (refine wpList_store_rep rfl 105 (.tmp 6) (.tmp 32) rfl w3.heap.size 0 rfl t3 rfl 105 _ (OB.new w3 _ _) HJ3.out (by rw [HT3.out]; exact Nat.le_refl _) (HO3.out.one) ?_; intro w4 hob hgb hzb; rw [splice_whole (by rw [HT3.out]; rfl)] at hob; have hw4 := grown_ext (.alloc (.refl w3) _) hgb (Nat.le_refl _); have Fp0_4 := Lib.hid ((Fp0_3.out).ext hw4); have Ft3_4 := Lib.hid (Ext.trans (Ext.refl _) hw4); have X4 := Lib.hid (Ext.trans X3.out hw4); have z4 : w3.heap.size ≤ w4.heap.size := hw4.size; have Fb4_4 := Lib.hid hob; have zs4 : w3.heap.size < w4.heap.size := hob.lt; clear hob hgb hzb hw4)
    | (refine wpList_load_rep rfl 24 (.tmp 2) rfl (w.heap.size) 0 rfl cs0 _ Tryz.underlying24 HI0.out (OB.cells0 (Fp0_4.out)) ?_)
    | (refine wpList_load_rep rfl 105 (.tmp 6) rfl (w3.heap.size) 0 rfl t3 _ Tryz.underlying105 HJ3.out (OB.cells0 (Fb4_4.out)) ?_))
  refine (toProgram_all x0 _ _ (HR0.out.ext X4.out) (by omega)).mono ?_; rintro e w5 ⟨t5, rfl, hw5, ho5⟩
  have HO5 := Lib.hid ho5
  have HT5 : Hid (t5.length = 1) := (by rw [ho5.1]; exact GProgram.tr_len _)
  have HJ5 : Hid ((Tryz.prog.info? 31).map (·.size) = some t5.length) := (by rw [HT5.out]; exact isz31)
  clear ho5
  have Fp0_5 := Lib.hid ((Fp0_4.out).ext hw5)
  have Ft3_5 := Lib.hid (Ext.trans Ft3_4.out hw5)
  have Fb4_5 := Lib.hid ((Fb4_4.out).ext hw5)
  have X5 := Lib.hid (Ext.trans X4.out hw5)
  have z5 : w4.heap.size ≤ w5.heap.size := hw5.size
  clear hw5
  go_wp2_with (first
    | (refine wpList_store_rep rfl 31 (.tmp 9) (.tmp 36) rfl w5.heap.size 0 rfl t5 rfl 31 _ (OB.new w5 _ _) HJ5.out (by rw [HT5.out]; exact Nat.le_refl _) (HO5.out.rep.one) ?_; intro w6 hob hgb hzb; rw [splice_whole (by rw [HT5.out]; rfl)] at hob; have hw6 := grown_ext (.alloc (.refl w5) _) hgb (Nat.le_refl _); have Fp0_6 := Lib.hid ((Fp0_5.out).ext hw6); have Ft3_6 := Lib.hid (Ext.trans Ft3_5.out hw6); have Fb4_6 := Lib.hid ((Fb4_5.out).ext hw6); have Ft5_6 := Lib.hid ((HO5.out).ext hw6); have X6 := Lib.hid (Ext.trans X5.out hw6); have z6 : w5.heap.size ≤ w6.heap.size := hw6.size; have Fb6_6 := Lib.hid hob; have zs6 : w5.heap.size < w6.heap.size := hob.lt; clear hob hgb hzb hw6)
    | (refine wpList_load_rep rfl 24 (.tmp 2) rfl (w.heap.size) 0 rfl cs0 _ Tryz.underlying24 HI0.out (OB.cells0 (Fp0_6.out)) ?_)
    | (refine wpList_load_rep rfl 105 (.tmp 6) rfl (w3.heap.size) 0 rfl t3 _ Tryz.underlying105 HJ3.out (OB.cells0 (Fb4_6.out)) ?_)
    | (refine wpList_load_rep rfl 31 (.tmp 9) rfl (w5.heap.size) 0 rfl t5 _ Tryz.underlying31 HJ5.out (OB.cells0 (Fb6_6.out)) ?_))
  refine (findFP_impl x0 x1 _ _ ((Ft5_6.out).rep) (by unfold maxLen; omega) (by have := x0.fn_bulk x1; omega)).mono ?_; rintro e w7 ⟨t7, rfl, hw7, ho7⟩
  have HO7 := Lib.hid ho7
  have HT7 : Hid (t7.length = 16) := (by rw [ho7.1]; exact GFunction.tr_len _)
  have HJ7 : Hid ((Tryz.prog.info? 105).map (·.size) = some t7.length) := (by rw [HT7.out]; exact isz105)
  clear ho7
  have Fp0_7 := Lib.hid ((Fp0_6.out).ext hw7)
  have Ft3_7 := Lib.hid (Ext.trans Ft3_6.out hw7)
  have Fb4_7 := Lib.hid ((Fb4_6.out).ext hw7)
  have Ft5_7 := Lib.hid ((Ft5_6.out).ext hw7)
  have Fb6_7 := Lib.hid ((Fb6_6.out).ext hw7)
  have X7 := Lib.hid (Ext.trans X6.out hw7)
  have z7 : w6.heap.size ≤ w7.heap.size := hw7.size
  clear hw7
  go_wp2_with (first
    | (refine wpList_store_rep rfl 105 (.tmp 10) (.tmp 41) rfl w7.heap.size 0 rfl t7 rfl 105 _ (OB.new w7 _ _) HJ7.out (by rw [HT7.out]; exact Nat.le_refl _) (HO7.out.rep.one) ?_; intro w8 hob hgb hzb; rw [splice_whole (by rw [HT7.out]; rfl)] at hob; have hw8 := grown_ext (.alloc (.refl w7) _) hgb (Nat.le_refl _); have Fp0_8 := Lib.hid ((Fp0_7.out).ext hw8); have Ft3_8 := Lib.hid (Ext.trans Ft3_7.out hw8); have Fb4_8 := Lib.hid ((Fb4_7.out).ext hw8); have Ft5_8 := Lib.hid ((Ft5_7.out).ext hw8); have Fb6_8 := Lib.hid ((Fb6_7.out).ext hw8); have Ft7_8 := Lib.hid ((HO7.out).ext hw8); have X8 := Lib.hid (Ext.trans X7.out hw8); have z8 : w7.heap.size ≤ w8.heap.size := hw8.size; have Fb8_8 := Lib.hid hob; have zs8 : w7.heap.size < w8.heap.size := hob.lt; clear hob hgb hzb hw8)
    | (refine wpList_load_rep_g (by rfl) 24 (.tmp 2) rfl (w.heap.size) 0 rfl cs0 _ Tryz.underlying24 HI0.out (OB.cells0 (Fp0_8.out)) ?_)
    | (refine wpList_load_rep_g (by rfl) 105 (.tmp 6) rfl (w3.heap.size) 0 rfl t3 _ Tryz.underlying105 HJ3.out (OB.cells0 (Fb4_8.out)) ?_)
    | (refine wpList_load_rep_g (by rfl) 31 (.tmp 9) rfl (w5.heap.size) 0 rfl t5 _ Tryz.underlying31 HJ5.out (OB.cells0 (Fb6_8.out)) ?_)
    | (refine wpList_load_rep_g (by rfl) 105 (.tmp 10) rfl (w7.heap.size) 0 rfl t7 _ Tryz.underlying105 HJ7.out (OB.cells0 (Fb8_8.out)) ?_)
    | (refine wpList_store_rep rfl 105 (.tmp 10) (.tmp 41) rfl w7.heap.size 0 rfl t7 rfl 105 _ (OB.new w7 _ _) HJ7.out (by rw [HT7.out]; exact Nat.le_refl _) (HO7.out.rep.one) ?_; intro w8 hob hgb hzb; rw [splice_whole (by rw [HT7.out]; rfl)] at hob; have hw8 := grown_ext (.alloc (.refl w7) _) hgb (Nat.le_refl _); have Fp0_8 := Lib.hid ((Fp0_7.out).ext hw8); have Ft3_8 := Lib.hid (Ext.trans Ft3_7.out hw8); have Fb4_8 := Lib.hid ((Fb4_7.out).ext hw8); have Ft5_8 := Lib.hid ((Ft5_7.out).ext hw8); have Fb6_8 := Lib.hid ((Fb6_7.out).ext hw8); have Ft7_8 := Lib.hid ((HO7.out).ext hw8); have X8 := Lib.hid (Ext.trans X7.out hw8); have z8 : w7.heap.size ≤ w8.heap.size := hw8.size; have Fb8_8 := Lib.hid hob; have zs8 : w7.heap.size < w8.heap.size := hob.lt; clear hob hgb hzb hw8)
    | (refine wpList_load_rep rfl 24 (.tmp 2) rfl (w.heap.size) 0 rfl cs0 _ Tryz.underlying24 HI0.out (OB.cells0 (Fp0_8.out)) ?_)
    | (refine wpList_load_rep rfl 105 (.tmp 6) rfl (w3.heap.size) 0 rfl t3 _ Tryz.underlying105 HJ3.out (OB.cells0 (Fb4_8.out)) ?_)
    | (refine wpList_load_rep rfl 31 (.tmp 9) rfl (w5.heap.size) 0 rfl t5 _ Tryz.underlying31 HJ5.out (OB.cells0 (Fb6_8.out)) ?_)
    | (refine wpList_load_rep rfl 105 (.tmp 10) rfl (w7.heap.size) 0 rfl t7 _ Tryz.underlying105 HJ7.out (OB.cells0 (Fb8_8.out)) ?_))
  refine (eqFunction_all (oFunction (x0.functionAt x1)) _ _ _ (Ft7_8.out).rep (HO3.out.ext Ft3_8.out)).mono ?_; rintro e w9 ⟨rfl, hw9⟩
  have Fp0_9 := Lib.hid ((Fp0_8.out).ext hw9)
  have Ft3_9 := Lib.hid (Ext.trans Ft3_8.out hw9)
  have Fb4_9 := Lib.hid ((Fb4_8.out).ext hw9)
  have Ft5_9 := Lib.hid ((Ft5_8.out).ext hw9)
  have Fb6_9 := Lib.hid ((Fb6_8.out).ext hw9)
  have Ft7_9 := Lib.hid ((Ft7_8.out).ext hw9)
  have Fb8_9 := Lib.hid ((Fb8_8.out).ext hw9)
  have X9 := Lib.hid (Ext.trans X8.out hw9)
  have z9 : w8.heap.size ≤ w9.heap.size := hw9.size
  clear hw9
  go_wp2_with (first
    | (refine wpList_load_rep rfl 24 (.tmp 2) rfl (w.heap.size) 0 rfl cs0 _ Tryz.underlying24 HI0.out (OB.cells0 (Fp0_9.out)) ?_)
    | (refine wpList_load_rep rfl 105 (.tmp 6) rfl (w3.heap.size) 0 rfl t3 _ Tryz.underlying105 HJ3.out (OB.cells0 (Fb4_9.out)) ?_)
    | (refine wpList_load_rep rfl 31 (.tmp 9) rfl (w5.heap.size) 0 rfl t5 _ Tryz.underlying31 HJ5.out (OB.cells0 (Fb6_9.out)) ?_)
    | (refine wpList_load_rep rfl 105 (.tmp 10) rfl (w7.heap.size) 0 rfl t7 _ Tryz.underlying105 HJ7.out (OB.cells0 (Fb8_9.out)) ?_))
  refine wp_region_held_drew (S := Ext w9) (by kernel_rfl) (.drew (.refl _)) (fun hHeld => ?_)
  refine wpAnyH_load_rep (i := 0) rfl (by kernel_rfl) (by kernel_rfl) (by kernel_rfl) (fun _ _ _ h => h) rfl 31 (.tmp 9) rfl (w5.heap.size) 0 rfl t5 _ Tryz.underlying31 HJ5.out (fun w hS => OB.cells0 ((Fb6_9.out).ext hS)) (by assumption) (fun _ _ _ _ h => h) ?_
  simp only [Act.put, List.getElem_toArray, List.getElem_cons_zero, List.setIfInBounds_toArray, List.set_cons_zero, List.set_cons_succ]
  refine wpAnyH_load_rep (i := 1) rfl (by kernel_rfl) (by kernel_rfl) (by kernel_rfl) (fun _ _ _ h => h) rfl 24 (.tmp 2) rfl (w.heap.size) 0 rfl cs0 _ Tryz.underlying24 HI0.out (fun w hS => OB.cells0 ((Fp0_9.out).ext hS)) (by assumption) (fun _ _ _ _ h => h) ?_
  simp only [Act.put, List.getElem_toArray, List.getElem_cons_zero, List.getElem_cons_succ, List.setIfInBounds_toArray, List.set_cons_zero, List.set_cons_succ]
  refine wpAnyH_call (i := 2) (by kernel_rfl) rfl rfl (run_call_func rfl rfl #[.agg ⟨cs0⟩] (by simp only [List.map_toArray, List.map_cons, List.map_nil, Act.eval]; rfl) Tryz.func17 (by kernel_rfl) (by kernel_rfl) _) (toProgram_all x0 _ _ (HR0.out.ext (Ext.trans X9.out (.drew (.refl _)))) (by omega)) ?_; rintro e w10 ⟨t10, rfl, hw10, ho10⟩
  have HO10 := Lib.hid ho10
  have HT10 : Hid (t10.length = 1) := (by rw [ho10.1]; exact GProgram.tr_len _)
  have HJ10 : Hid ((Tryz.prog.info? 31).map (·.size) = some t10.length) := (by rw [HT10.out]; exact isz31)
  clear ho10
  have hs10 := Ext.trans hHeld hw10
  refine ⟨_, rfl, hs10, ?_⟩
  have Fp0_10 := Lib.hid (((Fp0_9.out).ext (Ext.drew (.refl w9))).ext hw10)
  have Ft3_10 := Lib.hid (Ext.trans (Ext.trans Ft3_9.out (Ext.drew (.refl w9))) hw10)
  have Fb4_10 := Lib.hid (((Fb4_9.out).ext (Ext.drew (.refl w9))).ext hw10)
  have Ft5_10 := Lib.hid (((Ft5_9.out).ext (Ext.drew (.refl w9))).ext hw10)
  have Fb6_10 := Lib.hid (((Fb6_9.out).ext (Ext.drew (.refl w9))).ext hw10)
  have Ft7_10 := Lib.hid (((Ft7_9.out).ext (Ext.drew (.refl w9))).ext hw10)
  have Fb8_10 := Lib.hid (((Fb8_9.out).ext (Ext.drew (.refl w9))).ext hw10)
  have X10 := Lib.hid (Ext.trans (Ext.trans X9.out (.drew (.refl _))) hw10)
  have z10 : w9.heap.size ≤ w10.heap.size := hw10.size
  simp only [Act.put, List.getElem_toArray, List.getElem_cons_zero, List.getElem_cons_succ, List.setIfInBounds_toArray, List.set_cons_zero, List.set_cons_succ]
  refine wpAnyH_call (i := 3) (by kernel_rfl) rfl rfl (run_call_func rfl rfl #[.agg ⟨t5⟩, .agg ⟨t10⟩] (by simp only [List.map_toArray, List.map_cons, List.map_nil, Act.eval]; rfl) Tryz.func20 (by kernel_rfl) (by kernel_rfl) _) (eqProgram_all x0 _ _ _ (Ft5_10.out).rep (HO10.out).rep) ?_; rintro e w11 ⟨rfl, hw11⟩
  have hs11 := Ext.trans hs10 hw11
  refine ⟨_, rfl, hs11, ?_⟩
  have Fp0_11 := Lib.hid ((Fp0_10.out).ext hw11)
  have Ft3_11 := Lib.hid (Ext.trans Ft3_10.out hw11)
  have Fb4_11 := Lib.hid ((Fb4_10.out).ext hw11)
  have Ft5_11 := Lib.hid ((Ft5_10.out).ext hw11)
  have Fb6_11 := Lib.hid ((Fb6_10.out).ext hw11)
  have Ft7_11 := Lib.hid ((Ft7_10.out).ext hw11)
  have Fb8_11 := Lib.hid ((Fb8_10.out).ext hw11)
  have Ft10_11 := Lib.hid ((HO10.out).ext hw11)
  have X11 := Lib.hid (Ext.trans X10.out hw11)
  have z11 : w10.heap.size ≤ w11.heap.size := hw11.size
  simp only [Act.put, List.getElem_toArray, List.getElem_cons_zero, List.getElem_cons_succ, List.setIfInBounds_toArray, List.set_cons_zero, List.set_cons_succ]
  refine wpAnyH_take (i := 4) rfl (by kernel_rfl) (by kernel_rfl) (by kernel_rfl) (fun _ _ _ h => h) (.inl ⟨rfl, fun _ _ => rfl⟩) (by assumption) ?_
  simp only [Act.put, List.getElem_toArray, List.getElem_cons_zero, List.getElem_cons_succ, List.setIfInBounds_toArray, List.set_cons_zero, List.set_cons_succ]
  refine wpAnyH_done (by kernel_rfl) ?_ _
  clear hHeld hs10 hw10 hs11 hw11
  go_wp2_with (first
    | (refine wpList_load_rep rfl 24 (.tmp 2) rfl (w.heap.size) 0 rfl cs0 _ Tryz.underlying24 HI0.out (OB.cells0 (Fp0_11.out)) ?_)
    | (refine wpList_load_rep rfl 105 (.tmp 6) rfl (w3.heap.size) 0 rfl t3 _ Tryz.underlying105 HJ3.out (OB.cells0 (Fb4_11.out)) ?_)
    | (refine wpList_load_rep rfl 31 (.tmp 9) rfl (w5.heap.size) 0 rfl t5 _ Tryz.underlying31 HJ5.out (OB.cells0 (Fb6_11.out)) ?_)
    | (refine wpList_load_rep rfl 105 (.tmp 10) rfl (w7.heap.size) 0 rfl t7 _ Tryz.underlying105 HJ7.out (OB.cells0 (Fb8_11.out)) ?_))
  obtain ⟨mk_t5_1, Hmk_t5_1⟩ : ∃ q, Hid (1 + Tr.topN (x0).tr = q) := ⟨_, rfl⟩
  refine (markProgram_all x0 _ _ 1 (Between w4 w5) _ (by rfl) (Ft5_11.out) (fun b hb => by have h1 := hb.1; have h2 := hb.2; omega) (by have := GProgram.top_le x0; omega)).mono ?_; rintro e w12 ⟨he, hm12, hc12⟩
  rw [Hmk_t5_1.out] at he
  subst he
  have Fp0_12 := Lib.hid (obchg (Fp0_11.out) hc12 (fun h => by have h1 := h.1; have h2 := h.2; omega))
  have Ft3_12 := Lib.hid (Chg.ext Ft3_11.out hc12 (fun b hb => by have h1 := hb.1; omega))
  have Fb4_12 := Lib.hid (obchg (Fb4_11.out) hc12 (fun h => by have h1 := h.1; have h2 := h.2; omega))
  have Fb6_12 := Lib.hid (obchg (Fb6_11.out) hc12 (fun h => by have h1 := h.1; have h2 := h.2; omega))
  have Ft7_12 := Lib.hid ((Ft7_11.out).keep fun b hb hl => hc12.block b hl (fun hs => by have h1 := hb.1; have h2 := hb.2; have h3 := hs.1; have h4 := hs.2; omega))
  have Fb8_12 := Lib.hid (obchg (Fb8_11.out) hc12 (fun h => by have h1 := h.1; have h2 := h.2; omega))
  have X12 := Lib.hid (Chg.ext X11.out hc12 (fun b hb => by have h1 := hb.1; omega))
  have z12 : w11.heap.size ≤ w12.heap.size := hc12.size
  have Ft5_12 := Lib.hid hm12
  clear hc12 hm12
  have hng12 : ¬ ((mk_t5_1 : Nat) : Int) < 0 := by omega
  go_wp2_with (first
    | (refine wpList_load_rep_g (by rfl) 24 (.tmp 2) rfl (w.heap.size) 0 rfl cs0 _ Tryz.underlying24 HI0.out (OB.cells0 (Fp0_12.out)) ?_)
    | (refine wpList_load_rep_g (by rfl) 105 (.tmp 6) rfl (w3.heap.size) 0 rfl t3 _ Tryz.underlying105 HJ3.out (OB.cells0 (Fb4_12.out)) ?_)
    | (refine wpList_load_rep_g (by rfl) 31 (.tmp 9) rfl (w5.heap.size) 0 rfl t5 _ Tryz.underlying31 HJ5.out (OB.cells0 (Fb6_12.out)) ?_)
    | (refine wpList_load_rep_g (by rfl) 105 (.tmp 10) rfl (w7.heap.size) 0 rfl t7 _ Tryz.underlying105 HJ7.out (OB.cells0 (Fb8_12.out)) ?_)
    | (refine wpList_load_rep rfl 24 (.tmp 2) rfl (w.heap.size) 0 rfl cs0 _ Tryz.underlying24 HI0.out (OB.cells0 (Fp0_12.out)) ?_)
    | (refine wpList_load_rep rfl 105 (.tmp 6) rfl (w3.heap.size) 0 rfl t3 _ Tryz.underlying105 HJ3.out (OB.cells0 (Fb4_12.out)) ?_)
    | (refine wpList_load_rep rfl 31 (.tmp 9) rfl (w5.heap.size) 0 rfl t5 _ Tryz.underlying31 HJ5.out (OB.cells0 (Fb6_12.out)) ?_)
    | (refine wpList_load_rep rfl 105 (.tmp 10) rfl (w7.heap.size) 0 rfl t7 _ Tryz.underlying105 HJ7.out (OB.cells0 (Fb8_12.out)) ?_))
  refine (eqFunction_all (oFunction (x0.functionAt x1)) _ _ _ (Ft7_12.out).rep (HO3.out.ext Ft3_12.out)).mono ?_; rintro e w13 ⟨rfl, hw13⟩
  have Fp0_13 := Lib.hid ((Fp0_12.out).ext hw13)
  have Ft3_13 := Lib.hid (Ext.trans Ft3_12.out hw13)
  have Fb4_13 := Lib.hid ((Fb4_12.out).ext hw13)
  have Ft5_13 := Lib.hid ((Ft5_12.out).ext hw13)
  have Fb6_13 := Lib.hid ((Fb6_12.out).ext hw13)
  have Ft7_13 := Lib.hid ((Ft7_12.out).ext hw13)
  have Fb8_13 := Lib.hid ((Fb8_12.out).ext hw13)
  have X13 := Lib.hid (Ext.trans X12.out hw13)
  have z13 : w12.heap.size ≤ w13.heap.size := hw13.size
  clear hw13
  go_wp2_with (first
    | (refine wpList_load_rep rfl 24 (.tmp 2) rfl (w.heap.size) 0 rfl cs0 _ Tryz.underlying24 HI0.out (OB.cells0 (Fp0_13.out)) ?_)
    | (refine wpList_load_rep rfl 105 (.tmp 6) rfl (w3.heap.size) 0 rfl t3 _ Tryz.underlying105 HJ3.out (OB.cells0 (Fb4_13.out)) ?_)
    | (refine wpList_load_rep rfl 31 (.tmp 9) rfl (w5.heap.size) 0 rfl t5 _ Tryz.underlying31 HJ5.out (OB.cells0 (Fb6_13.out)) ?_)
    | (refine wpList_load_rep rfl 105 (.tmp 10) rfl (w7.heap.size) 0 rfl t7 _ Tryz.underlying105 HJ7.out (OB.cells0 (Fb8_13.out)) ?_))
  obtain ⟨mk_t7_1, Hmk_t7_1⟩ : ∃ q, Hid (1 + Tr.topN ((oFunction (x0.functionAt x1))).tr = q) := ⟨_, rfl⟩
  refine (markFunction_all (oFunction (x0.functionAt x1)) _ _ 1 (Between w6 w7) _ (by rfl) (Ft7_13.out) (fun b hb => by have h1 := hb.1; have h2 := hb.2; omega) (x0.fn_top x1 (by omega))).mono ?_; rintro e w14 ⟨he, hm14, hc14⟩
  rw [Hmk_t7_1.out] at he
  subst he
  have Fp0_14 := Lib.hid (obchg (Fp0_13.out) hc14 (fun h => by have h1 := h.1; have h2 := h.2; omega))
  have Ft3_14 := Lib.hid (Chg.ext Ft3_13.out hc14 (fun b hb => by have h1 := hb.1; omega))
  have Fb4_14 := Lib.hid (obchg (Fb4_13.out) hc14 (fun h => by have h1 := h.1; have h2 := h.2; omega))
  have Ft5_14 := Lib.hid ((Ft5_13.out).keep fun b hb hl => hc14.block b hl (fun hs => by have h1 := hb.1; have h2 := hb.2; have h3 := hs.1; have h4 := hs.2; omega))
  have Fb6_14 := Lib.hid (obchg (Fb6_13.out) hc14 (fun h => by have h1 := h.1; have h2 := h.2; omega))
  have Fb8_14 := Lib.hid (obchg (Fb8_13.out) hc14 (fun h => by have h1 := h.1; have h2 := h.2; omega))
  have X14 := Lib.hid (Chg.ext X13.out hc14 (fun b hb => by have h1 := hb.1; omega))
  have z14 : w13.heap.size ≤ w14.heap.size := hc14.size
  have Ft7_14 := Lib.hid hm14
  clear hc14 hm14
  have hng14 : ¬ ((mk_t7_1 : Nat) : Int) < 0 := by omega
  go_wp2_with (first
    | (refine wpList_load_rep rfl 24 (.tmp 2) rfl (w.heap.size) 0 rfl cs0 _ Tryz.underlying24 HI0.out (OB.cells0 (Fp0_14.out)) ?_)
    | (refine wpList_load_rep rfl 105 (.tmp 6) rfl (w3.heap.size) 0 rfl t3 _ Tryz.underlying105 HJ3.out (OB.cells0 (Fb4_14.out)) ?_)
    | (refine wpList_load_rep rfl 31 (.tmp 9) rfl (w5.heap.size) 0 rfl t5 _ Tryz.underlying31 HJ5.out (OB.cells0 (Fb6_14.out)) ?_)
    | (refine wpList_load_rep rfl 105 (.tmp 10) rfl (w7.heap.size) 0 rfl t7 _ Tryz.underlying105 HJ7.out (OB.cells0 (Fb8_14.out)) ?_))
  refine (heldFunction_all (oFunction (x0.functionAt x1)) _ _ 1 _ (by rfl) (Ft7_14.out).rep (x0.fn_top x1 (by omega))).mono ?_; rintro e w15 ⟨he, hw15⟩
  rw [Hmk_t7_1.out] at he
  subst he
  have Fp0_15 := Lib.hid ((Fp0_14.out).ext hw15)
  have Ft3_15 := Lib.hid (Ext.trans Ft3_14.out hw15)
  have Fb4_15 := Lib.hid ((Fb4_14.out).ext hw15)
  have Ft5_15 := Lib.hid ((Ft5_14.out).ext hw15)
  have Fb6_15 := Lib.hid ((Fb6_14.out).ext hw15)
  have Ft7_15 := Lib.hid ((Ft7_14.out).ext hw15)
  have Fb8_15 := Lib.hid ((Fb8_14.out).ext hw15)
  have X15 := Lib.hid (Ext.trans X14.out hw15)
  have z15 : w14.heap.size ≤ w15.heap.size := hw15.size
  clear hw15
  go_wp2_with (first
    | (refine wpList_load_rep rfl 24 (.tmp 2) rfl (w.heap.size) 0 rfl cs0 _ Tryz.underlying24 HI0.out (OB.cells0 (Fp0_15.out)) ?_)
    | (refine wpList_load_rep rfl 105 (.tmp 6) rfl (w3.heap.size) 0 rfl t3 _ Tryz.underlying105 HJ3.out (OB.cells0 (Fb4_15.out)) ?_)
    | (refine wpList_load_rep rfl 31 (.tmp 9) rfl (w5.heap.size) 0 rfl t5 _ Tryz.underlying31 HJ5.out (OB.cells0 (Fb6_15.out)) ?_)
    | (refine wpList_load_rep rfl 105 (.tmp 10) rfl (w7.heap.size) 0 rfl t7 _ Tryz.underlying105 HJ7.out (OB.cells0 (Fb8_15.out)) ?_))
  refine (toProgram_all x0 _ _ (HR0.out.ext X15.out) (by omega)).mono ?_; rintro e w16 ⟨t16, rfl, hw16, ho16⟩
  have HO16 := Lib.hid ho16
  have HT16 : Hid (t16.length = 1) := (by rw [ho16.1]; exact GProgram.tr_len _)
  have HJ16 : Hid ((Tryz.prog.info? 31).map (·.size) = some t16.length) := (by rw [HT16.out]; exact isz31)
  clear ho16
  have Fp0_16 := Lib.hid ((Fp0_15.out).ext hw16)
  have Ft3_16 := Lib.hid (Ext.trans Ft3_15.out hw16)
  have Fb4_16 := Lib.hid ((Fb4_15.out).ext hw16)
  have Ft5_16 := Lib.hid ((Ft5_15.out).ext hw16)
  have Fb6_16 := Lib.hid ((Fb6_15.out).ext hw16)
  have Ft7_16 := Lib.hid ((Ft7_15.out).ext hw16)
  have Fb8_16 := Lib.hid ((Fb8_15.out).ext hw16)
  have X16 := Lib.hid (Ext.trans X15.out hw16)
  have z16 : w15.heap.size ≤ w16.heap.size := hw16.size
  clear hw16
  go_wp2_with (first
    | (refine wpList_load_rep rfl 24 (.tmp 2) rfl (w.heap.size) 0 rfl cs0 _ Tryz.underlying24 HI0.out (OB.cells0 (Fp0_16.out)) ?_)
    | (refine wpList_load_rep rfl 105 (.tmp 6) rfl (w3.heap.size) 0 rfl t3 _ Tryz.underlying105 HJ3.out (OB.cells0 (Fb4_16.out)) ?_)
    | (refine wpList_load_rep rfl 31 (.tmp 9) rfl (w5.heap.size) 0 rfl t5 _ Tryz.underlying31 HJ5.out (OB.cells0 (Fb6_16.out)) ?_)
    | (refine wpList_load_rep rfl 105 (.tmp 10) rfl (w7.heap.size) 0 rfl t7 _ Tryz.underlying105 HJ7.out (OB.cells0 (Fb8_16.out)) ?_))
  refine (findFP_impl x0 x1 _ _ ((HO16.out).rep) (by unfold maxLen; omega) (by have := x0.fn_bulk x1; omega)).mono ?_; rintro e w17 ⟨t17, rfl, hw17, ho17⟩
  have HO17 := Lib.hid ho17
  have HT17 : Hid (t17.length = 16) := (by rw [ho17.1]; exact GFunction.tr_len _)
  have HJ17 : Hid ((Tryz.prog.info? 105).map (·.size) = some t17.length) := (by rw [HT17.out]; exact isz105)
  clear ho17
  have Fp0_17 := Lib.hid ((Fp0_16.out).ext hw17)
  have Ft3_17 := Lib.hid (Ext.trans Ft3_16.out hw17)
  have Fb4_17 := Lib.hid ((Fb4_16.out).ext hw17)
  have Ft5_17 := Lib.hid ((Ft5_16.out).ext hw17)
  have Fb6_17 := Lib.hid ((Fb6_16.out).ext hw17)
  have Ft7_17 := Lib.hid ((Ft7_16.out).ext hw17)
  have Fb8_17 := Lib.hid ((Fb8_16.out).ext hw17)
  have Ft16_17 := Lib.hid ((HO16.out).ext hw17)
  have X17 := Lib.hid (Ext.trans X16.out hw17)
  have z17 : w16.heap.size ≤ w17.heap.size := hw17.size
  clear hw17
  go_wp2_with (first
    | (refine wpList_store_rep rfl 105 (.tmp 16) (.tmp 100) rfl w17.heap.size 0 rfl t17 rfl 105 _ (OB.new w17 _ _) HJ17.out (by rw [HT17.out]; exact Nat.le_refl _) (HO17.out.rep.one) ?_; intro w18 hob hgb hzb; rw [splice_whole (by rw [HT17.out]; rfl)] at hob; have hw18 := grown_ext (.alloc (.refl w17) _) hgb (Nat.le_refl _); have Fp0_18 := Lib.hid ((Fp0_17.out).ext hw18); have Ft3_18 := Lib.hid (Ext.trans Ft3_17.out hw18); have Fb4_18 := Lib.hid ((Fb4_17.out).ext hw18); have Ft5_18 := Lib.hid ((Ft5_17.out).ext hw18); have Fb6_18 := Lib.hid ((Fb6_17.out).ext hw18); have Ft7_18 := Lib.hid ((Ft7_17.out).ext hw18); have Fb8_18 := Lib.hid ((Fb8_17.out).ext hw18); have Ft17_18 := Lib.hid ((HO17.out).ext hw18); have X18 := Lib.hid (Ext.trans X17.out hw18); have z18 : w17.heap.size ≤ w18.heap.size := hw18.size; have Fb18_18 := Lib.hid hob; have zs18 : w17.heap.size < w18.heap.size := hob.lt; clear hob hgb hzb hw18)
    | (refine wpList_load_rep_g (by rfl) 24 (.tmp 2) rfl (w.heap.size) 0 rfl cs0 _ Tryz.underlying24 HI0.out (OB.cells0 (Fp0_18.out)) ?_)
    | (refine wpList_load_rep_g (by rfl) 105 (.tmp 6) rfl (w3.heap.size) 0 rfl t3 _ Tryz.underlying105 HJ3.out (OB.cells0 (Fb4_18.out)) ?_)
    | (refine wpList_load_rep_g (by rfl) 31 (.tmp 9) rfl (w5.heap.size) 0 rfl t5 _ Tryz.underlying31 HJ5.out (OB.cells0 (Fb6_18.out)) ?_)
    | (refine wpList_load_rep_g (by rfl) 105 (.tmp 10) rfl (w7.heap.size) 0 rfl t7 _ Tryz.underlying105 HJ7.out (OB.cells0 (Fb8_18.out)) ?_)
    | (refine wpList_load_rep_g (by rfl) 105 (.tmp 16) rfl (w17.heap.size) 0 rfl t17 _ Tryz.underlying105 HJ17.out (OB.cells0 (Fb18_18.out)) ?_)
    | (refine wpList_store_rep rfl 105 (.tmp 16) (.tmp 100) rfl w17.heap.size 0 rfl t17 rfl 105 _ (OB.new w17 _ _) HJ17.out (by rw [HT17.out]; exact Nat.le_refl _) (HO17.out.rep.one) ?_; intro w18 hob hgb hzb; rw [splice_whole (by rw [HT17.out]; rfl)] at hob; have hw18 := grown_ext (.alloc (.refl w17) _) hgb (Nat.le_refl _); have Fp0_18 := Lib.hid ((Fp0_17.out).ext hw18); have Ft3_18 := Lib.hid (Ext.trans Ft3_17.out hw18); have Fb4_18 := Lib.hid ((Fb4_17.out).ext hw18); have Ft5_18 := Lib.hid ((Ft5_17.out).ext hw18); have Fb6_18 := Lib.hid ((Fb6_17.out).ext hw18); have Ft7_18 := Lib.hid ((Ft7_17.out).ext hw18); have Fb8_18 := Lib.hid ((Fb8_17.out).ext hw18); have Ft17_18 := Lib.hid ((HO17.out).ext hw18); have X18 := Lib.hid (Ext.trans X17.out hw18); have z18 : w17.heap.size ≤ w18.heap.size := hw18.size; have Fb18_18 := Lib.hid hob; have zs18 : w17.heap.size < w18.heap.size := hob.lt; clear hob hgb hzb hw18)
    | (refine wpList_load_rep rfl 24 (.tmp 2) rfl (w.heap.size) 0 rfl cs0 _ Tryz.underlying24 HI0.out (OB.cells0 (Fp0_18.out)) ?_)
    | (refine wpList_load_rep rfl 105 (.tmp 6) rfl (w3.heap.size) 0 rfl t3 _ Tryz.underlying105 HJ3.out (OB.cells0 (Fb4_18.out)) ?_)
    | (refine wpList_load_rep rfl 31 (.tmp 9) rfl (w5.heap.size) 0 rfl t5 _ Tryz.underlying31 HJ5.out (OB.cells0 (Fb6_18.out)) ?_)
    | (refine wpList_load_rep rfl 105 (.tmp 10) rfl (w7.heap.size) 0 rfl t7 _ Tryz.underlying105 HJ7.out (OB.cells0 (Fb8_18.out)) ?_)
    | (refine wpList_load_rep rfl 105 (.tmp 16) rfl (w17.heap.size) 0 rfl t17 _ Tryz.underlying105 HJ17.out (OB.cells0 (Fb18_18.out)) ?_))
  refine (eqFunction_all (oFunction (x0.functionAt x1)) _ _ _ (Ft17_18.out).rep (HO3.out.ext Ft3_18.out)).mono ?_; rintro e w19 ⟨rfl, hw19⟩
  have Fp0_19 := Lib.hid ((Fp0_18.out).ext hw19)
  have Ft3_19 := Lib.hid (Ext.trans Ft3_18.out hw19)
  have Fb4_19 := Lib.hid ((Fb4_18.out).ext hw19)
  have Ft5_19 := Lib.hid ((Ft5_18.out).ext hw19)
  have Fb6_19 := Lib.hid ((Fb6_18.out).ext hw19)
  have Ft7_19 := Lib.hid ((Ft7_18.out).ext hw19)
  have Fb8_19 := Lib.hid ((Fb8_18.out).ext hw19)
  have Ft17_19 := Lib.hid ((Ft17_18.out).ext hw19)
  have Fb18_19 := Lib.hid ((Fb18_18.out).ext hw19)
  have X19 := Lib.hid (Ext.trans X18.out hw19)
  have z19 : w18.heap.size ≤ w19.heap.size := hw19.size
  clear hw19
  go_wp2_with (first
    | (refine wpList_load_rep rfl 24 (.tmp 2) rfl (w.heap.size) 0 rfl cs0 _ Tryz.underlying24 HI0.out (OB.cells0 (Fp0_19.out)) ?_)
    | (refine wpList_load_rep rfl 105 (.tmp 6) rfl (w3.heap.size) 0 rfl t3 _ Tryz.underlying105 HJ3.out (OB.cells0 (Fb4_19.out)) ?_)
    | (refine wpList_load_rep rfl 31 (.tmp 9) rfl (w5.heap.size) 0 rfl t5 _ Tryz.underlying31 HJ5.out (OB.cells0 (Fb6_19.out)) ?_)
    | (refine wpList_load_rep rfl 105 (.tmp 10) rfl (w7.heap.size) 0 rfl t7 _ Tryz.underlying105 HJ7.out (OB.cells0 (Fb8_19.out)) ?_)
    | (refine wpList_load_rep rfl 105 (.tmp 16) rfl (w17.heap.size) 0 rfl t17 _ Tryz.underlying105 HJ17.out (OB.cells0 (Fb18_19.out)) ?_))
  refine (heldFunction_all (oFunction (x0.functionAt x1)) _ _ 1 _ (by rfl) (Ft7_19.out).rep (x0.fn_top x1 (by omega))).mono ?_; rintro e w20 ⟨he, hw20⟩
  rw [Hmk_t7_1.out] at he
  subst he
  have Fp0_20 := Lib.hid ((Fp0_19.out).ext hw20)
  have Ft3_20 := Lib.hid (Ext.trans Ft3_19.out hw20)
  have Fb4_20 := Lib.hid ((Fb4_19.out).ext hw20)
  have Ft5_20 := Lib.hid ((Ft5_19.out).ext hw20)
  have Fb6_20 := Lib.hid ((Fb6_19.out).ext hw20)
  have Ft7_20 := Lib.hid ((Ft7_19.out).ext hw20)
  have Fb8_20 := Lib.hid ((Fb8_19.out).ext hw20)
  have Ft17_20 := Lib.hid ((Ft17_19.out).ext hw20)
  have Fb18_20 := Lib.hid ((Fb18_19.out).ext hw20)
  have X20 := Lib.hid (Ext.trans X19.out hw20)
  have z20 : w19.heap.size ≤ w20.heap.size := hw20.size
  clear hw20
  go_wp2_with (first
    | (refine wpList_load_rep rfl 24 (.tmp 2) rfl (w.heap.size) 0 rfl cs0 _ Tryz.underlying24 HI0.out (OB.cells0 (Fp0_20.out)) ?_)
    | (refine wpList_load_rep rfl 105 (.tmp 6) rfl (w3.heap.size) 0 rfl t3 _ Tryz.underlying105 HJ3.out (OB.cells0 (Fb4_20.out)) ?_)
    | (refine wpList_load_rep rfl 31 (.tmp 9) rfl (w5.heap.size) 0 rfl t5 _ Tryz.underlying31 HJ5.out (OB.cells0 (Fb6_20.out)) ?_)
    | (refine wpList_load_rep rfl 105 (.tmp 10) rfl (w7.heap.size) 0 rfl t7 _ Tryz.underlying105 HJ7.out (OB.cells0 (Fb8_20.out)) ?_)
    | (refine wpList_load_rep rfl 105 (.tmp 16) rfl (w17.heap.size) 0 rfl t17 _ Tryz.underlying105 HJ17.out (OB.cells0 (Fb18_20.out)) ?_))
  go_ret
  exact ⟨rfl, X20.out⟩

set_option linter.unusedVariables false
theorem own : ownKnob Tryz.prog.godebug = none := by kernel_rfl
theorem laidOut : laidOutB Tryz.prog = true := by kernel_rfl

set_option maxRecDepth 100000 in
theorem lifted (os : Os) (started : os.Started) (H : Type) (enc : TypeId × Value → H) :
    ReturnsInHanded {} Tryz.checked os 14 .any (Rows.fnExactFindFunctionSpec.pre6 enc Tryz.prog Tryz.f14 Rows.fnExactFindFunctionRow.domain false) (Rows.fnExactFindFunctionSpec.post enc Tryz.prog Tryz.f14 false true false false) := by
  refine returnsInHanded_of_change (C := Tryz.checked) own started (by kernel_rfl) Tryz.func14
    (ChangeSpec.witness6 (enc := enc) (C := Tryz.checked) false ⟨#[], #[.agg #[.slice none 0 0], .string ⟨#[]⟩], []⟩ 8 (by kernel_rfl) (by kernel_rfl) (by kernel_rfl) (by kernel_rfl)) ?_
  intro W base args ds gs before hval0 hW hcnd _
  have hval : ∀ (j : Nat) t v, Tryz.f14.params[j]? = some t → args[j]? = some v → Value.okWide Tryz.prog W .any base t v := hval0
  have hW' := hW
  obtain ⟨p, q, hA0, hV, rfl, hfz, hnd⟩ := hW
  have hA : DataW.TrodAll enc Tryz.prog W 0 (fun _ => true) true Tryz.f14.params.toList args.toList ds p := hA0
  rw [Tryz.params14] at hA hval
  obtain ⟨v0, vs0, d0, ds0, p0, q0, hargs, rfl, rfl, h0, r0⟩ := trodAll_cons hA
  obtain ⟨v1, vs1, d1, ds1, p1, q1, rfl, rfl, rfl, h1, r1⟩ := trodAll_cons r0
  obtain ⟨rfl, rfl, rfl⟩ := trodAll_nil r1
  obtain rfl : args = #[v0, v1] := by cases args; simp_all
  obtain ⟨rfl, rfl⟩ := trodVars_none hV
  have k0 := h0
  have lt0 : ∀ x ∈ p0, x.block < W.heap.size := by obtain ⟨m, hm⟩ := k0; exact DataW.trod_lt m _ _ _ hm
  obtain ⟨c0, rfl, -⟩ := okWide_struct Tryz.underlying24 (hval 0 24 v0 rfl rfl)
  obtain ⟨fu0, hf0⟩ := h0
  obtain ⟨ts0, ty0, rp0, -⟩ := tyOf_of_trod plainClosed fu0 24 c0.toList _ (by decide) hf0
  obtain ⟨x0, rfl⟩ := tyof_Program ty0
  obtain ⟨a1, rfl, rfl, rfl, w1⟩ := open_string Tryz.underlying9 (hval 1 9 v1 rfl rfl) h1
  clear hA0 hval0
  refine (law_FnExactFindFunction W x0 c0.toList rp0 a1 (by unfold maxLen at w1; omega)).mono fun e W' ⟨he, bel⟩ => ?_
  subst he
  exact ⟨_, rfl, _, _, _, [], _, [], hW', trodAll_mk1 (shut_bool Tryz.underlying4 _), (trodAll_cons_mk (Below.trod laidOut (by kernel_rfl) (of_decide_eq_true (by kernel_rfl)) k0 bel lt0) (trodAll_cons_mk (shut_string Tryz.underlying9 w1) trodAll_mk0)), rfl, bel.frame _, fun h => by cases h⟩

theorem over : Rows.fnExactFindFunctionRow.holds Tryz.pinned (OpenSpec.ofChange Rows.fnExactFindFunctionSpec) :=
  OpenClaim.holds_of_wide 14 Tryz.f14 rfl rfl rfl rfl rfl rfl rfl ⟨rfl, rfl, rfl, rfl, rfl⟩ rfl rfl rfl rfl rfl fnNamed Tryz.func14 factsJoin (of_decide_eq_true (by kernel_rfl)) wrapper
    (fun os started H enc _ => lifted os started H enc)

theorem proved : Rows.FnExactFindFunctionSaid := over
#print axioms proved

end Go.Proofs.YtnakkelglbcecaaGreat.fnExactFindFunctionDone
