/- FnExactSelectInstance returns true for every input, and leaves what was there as it was. No conditions. -/
import Derived.Test.YtnakkelglbcecaaGreatRows
import Derived.Test.YtnakkelglbcecaaGreatQhf8b74715
import Derived.Test.YtnakkelglbcecaaGreatQh3520efe5
import Derived.Test.YtnakkelglbcecaaGreatQh62d4e34f
import Derived.ProofKit
import Derived.Deep.DeepCutAuto
import Derived.OpenShut
import Derived.ShutString
import Derived.ChangeOld
import Derived.Test.YtnakkelglbcecaaGreatQJExactSelectInstance
import Derived.Test.YtnakkelglbcecaaGreatQhdb41f3a6
import Derived.Test.YtnakkelglbcecaaGreatQha75bd9d9
import Derived.Test.YtnakkelglbcecaaGreatQh6fafd6f3
import Derived.Test.YtnakkelglbcecaaGreatQh7e8064a0
set_option linter.unusedSimpArgs false
set_option linter.unusedVariables false
namespace Go.Proofs.YtnakkelglbcecaaGreat.fnExactSelectInstanceDone
open Go.Proofs Go.Proofs.YtnakkelglbcecaaGreat Go.ChangeShapes Go.WideShapes Go.ChangeAt Go.RowKit
open Go.ChangeMaps (open_string shut_string)

theorem obchg {S : Nat → Prop} {w w' : World} {g : Nat} {t : TypeId} {cs : Array Value} (h : OB w g t cs) (hc : Chg S w w') (hn : ¬ S g) : OB w' g t cs := (hc.block g h.lt hn).trans h
set_option maxRecDepth 100000 in
set_option maxHeartbeats 8000000 in
theorem law_FnExactSelectInstance (w : World) (x0 : GProgram) (cs0 : List Value) (hr0 : RepL w x0.tr cs0) (x1 : GBound) (cs1 : List Value) (hr1 : RepL w x1.tr cs1) :
    Calls Tryz.prog 4 #[.agg ⟨cs0⟩, .agg ⟨cs1⟩] w fun e w' => e = .returned (.bool true) ∧ Below w.heap.size w w' := by
  have HL0 : Hid (cs0.length = 1) := by rw [← hr0.length, GProgram.tr_len]; rfl
  have HI0 : Hid ((Tryz.prog.info? 24).map (·.size) = some cs0.length) := by rw [HL0.out]; exact isz24
  have HR0 := Lib.hid hr0
  clear hr0
  have HL1 : Hid (cs1.length = 4) := by rw [← hr1.length, GBound.tr_len]; rfl
  have HI1 : Hid ((Tryz.prog.info? 41).map (·.size) = some cs1.length) := by rw [HL1.out]; exact isz41
  have HR1 := Lib.hid hr1
  clear hr1
  go_enter Tryz.func4, Tryz.ntmps4
  go_wp2_with (first
    | (refine wpList_load_rep rfl 24 (.tmp 2) rfl (w.heap.size) 0 rfl cs0 _ Tryz.underlying24 HI0.out (OB.cells0 ((Two.new w _ _ _ _).o0)) ?_)
    | (refine wpList_load_rep rfl 41 (.tmp 3) rfl (w.heap.size + 1) 0 rfl cs1 _ Tryz.underlying41 HI1.out (OB.cells0 ((Two.new w _ _ _ _).o1)) ?_))
  refine (szProgram_all x0 _ _ _ (HR0.out.ext (Ext.alloc (Ext.alloc (Ext.refl _) _) _)) (by omega) (by omega)).mono ?_
  rintro e w1 ⟨r1, rfl, hw1, ra1, rb1, rc1⟩
  have RC1 := Lib.hid rc1
  clear rc1
  have Fp0_1 := Lib.hid (((Two.new w _ _ _ _).o0).ext hw1)
  have Fp1_1 := Lib.hid (((Two.new w _ _ _ _).o1).ext hw1)
  have X1 := Lib.hid (Ext.trans (Ext.alloc (Ext.alloc (Ext.refl _) _) _) hw1)
  have z1 : w.heap.size + 2 ≤ w1.heap.size := (by have h1 := hw1.size; simp only [World.size_alloc] at h1; omega)
  clear hw1
  go_wp2_with (first
    | (refine wpList_load_rep rfl 24 (.tmp 2) rfl (w.heap.size) 0 rfl cs0 _ Tryz.underlying24 HI0.out (OB.cells0 (Fp0_1.out)) ?_)
    | (refine wpList_load_rep rfl 41 (.tmp 3) rfl (w.heap.size + 1) 0 rfl cs1 _ Tryz.underlying41 HI1.out (OB.cells0 (Fp1_1.out)) ?_))
  · go_ret
    exact ⟨rfl, X1.out⟩
  refine (szBound_all x1 _ _ _ (HR1.out.ext X1.out) (by omega) (by omega)).mono ?_
  rintro e w2 ⟨r2, rfl, hw2, ra2, rb2, rc2⟩
  have RC2 := Lib.hid rc2
  clear rc2
  have Fp0_2 := Lib.hid ((Fp0_1.out).ext hw2)
  have Fp1_2 := Lib.hid ((Fp1_1.out).ext hw2)
  have X2 := Lib.hid (Ext.trans X1.out hw2)
  have z2 : w1.heap.size ≤ w2.heap.size := hw2.size
  clear hw2
  go_upto_region 8 with (first
    | (refine wpList_load_rep rfl 24 (.tmp 2) rfl (w.heap.size) 0 rfl cs0 _ Tryz.underlying24 HI0.out (OB.cells0 (Fp0_2.out)) ?_)
    | (refine wpList_load_rep rfl 41 (.tmp 3) rfl (w.heap.size + 1) 0 rfl cs1 _ Tryz.underlying41 HI1.out (OB.cells0 (Fp1_2.out)) ?_))
  · go_ret
    exact ⟨rfl, X2.out⟩
  have hb0 := RC1.out (by omega)
  have hb1 := RC2.out (by omega)
  go_cut [6, 7] (fun s6 s7 wx => ∃ (B : Nat) (cs : List Value), s6 = .pointer (some ⟨B, 0, none⟩) ∧ s7 = .int .i64 (x0.sel x1).2 ∧ Hid (Ext w2 wx) ∧ w2.heap.size ≤ B ∧ Hid (OB wx B 33 ⟨cs⟩) ∧ Hid (RepL wx (x0.sel x1).1.tr cs))
  case first =>
    refine wp_region_held_drew (S := Ext w2) (by kernel_rfl) (.drew (.refl _)) (fun hHeld => ?_)
    refine wpAnyH_load_rep (i := 0) rfl (by kernel_rfl) (by kernel_rfl) (by kernel_rfl) (fun _ _ _ h => h) rfl 24 (.tmp 2) rfl (w.heap.size) 0 rfl cs0 _ Tryz.underlying24 HI0.out (fun w hS => OB.cells0 ((Fp0_2.out).ext hS)) (by assumption) (fun _ _ _ _ h => h) ?_
    simp only [Act.put, List.getElem_toArray, List.getElem_cons_zero, List.setIfInBounds_toArray, List.set_cons_zero, List.set_cons_succ]
    refine wpAnyH_load_rep (i := 2) rfl (by kernel_rfl) (by kernel_rfl) (by kernel_rfl) (fun _ _ _ h => h) rfl 41 (.tmp 3) rfl (w.heap.size + 1) 0 rfl cs1 _ Tryz.underlying41 HI1.out (fun w hS => OB.cells0 ((Fp1_2.out).ext hS)) (by assumption) (fun _ _ _ _ h => h) ?_
    simp only [Act.put, List.getElem_toArray, List.getElem_cons_zero, List.getElem_cons_succ, List.setIfInBounds_toArray, List.set_cons_zero, List.set_cons_succ]
    have hzd : w2.drew.heap.size = w2.heap.size := rfl
    refine wpAnyH_all (rs := [1, 8]) (by kernel_rfl) (by simp) (fun i hi => ?_)
    rcases (by simpa using hi : i = 1 ∨ i = 8) with rfl | rfl
    · refine wpOp_call rfl rfl (run_call_func rfl rfl #[.agg ⟨cs0⟩] (by simp only [List.map_toArray, List.map_cons, List.map_nil, Act.eval]; rfl) Tryz.func17 (by kernel_rfl) (by kernel_rfl) _) (toProgram_all x0 _ _ (HR0.out.ext (Ext.trans X2.out (.drew (.refl _)))) (by omega)) ?_
      rintro e w3 ⟨t3, rfl, hw3, ho3⟩
      have HO3 := Lib.hid ho3
      have HT3 : Hid (t3.length = 1) := (by rw [ho3.1]; exact GProgram.tr_len _)
      have HJ3 : Hid ((Tryz.prog.info? 31).map (·.size) = some t3.length) := (by rw [HT3.out]; exact isz31)
      clear ho3
      have hs3 := Ext.trans hHeld hw3
      refine ⟨_, rfl, hs3, ?_⟩
      have Fp0_3 := Lib.hid (((Fp0_2.out).ext (Ext.drew (.refl w2))).ext hw3)
      have Fp1_3 := Lib.hid (((Fp1_2.out).ext (Ext.drew (.refl w2))).ext hw3)
      have X3 := Lib.hid (Ext.trans (Ext.trans X2.out (.drew (.refl _))) hw3)
      have z3 : w2.heap.size ≤ w3.heap.size := hw3.size
      simp only [Act.put, List.getElem_toArray, List.getElem_cons_zero, List.getElem_cons_succ, List.setIfInBounds_toArray, List.set_cons_zero, List.set_cons_succ]
      refine wpAnyH_all (rs := [3, 8]) (by kernel_rfl) (by simp) (fun i hi => ?_)
      rcases (by simpa using hi : i = 3 ∨ i = 8) with rfl | rfl
      · refine wpOp_call rfl rfl (run_call_func rfl rfl #[.agg ⟨cs1⟩] (by simp only [List.map_toArray, List.map_cons, List.map_nil, Act.eval]; rfl) Tryz.func23 (by kernel_rfl) (by kernel_rfl) _) (toBound_all x1 _ _ (HR1.out.ext X3.out) (by omega)) ?_
        rintro e w4 ⟨t4, rfl, hw4, ho4⟩
        have HO4 := Lib.hid ho4
        have HT4 : Hid (t4.length = 4) := (by rw [ho4.1]; exact GBound.tr_len _)
        have HJ4 : Hid ((Tryz.prog.info? 49).map (·.size) = some t4.length) := (by rw [HT4.out]; exact isz49)
        clear ho4
        have hs4 := Ext.trans hs3 hw4
        refine ⟨_, rfl, hs4, ?_⟩
        have Fp0_4 := Lib.hid ((Fp0_3.out).ext hw4)
        have Fp1_4 := Lib.hid ((Fp1_3.out).ext hw4)
        have Ft3_4 := Lib.hid ((HO3.out).ext hw4)
        have X4 := Lib.hid (Ext.trans X3.out hw4)
        have z4 : w3.heap.size ≤ w4.heap.size := hw4.size
        simp only [Act.put, List.getElem_toArray, List.getElem_cons_zero, List.getElem_cons_succ, List.setIfInBounds_toArray, List.set_cons_zero, List.set_cons_succ]
        refine wpAnyH_all (rs := [4, 8]) (by kernel_rfl) (by simp) (fun i hi => ?_)
        rcases (by simpa using hi : i = 4 ∨ i = 8) with rfl | rfl
        · refine wpOp_call rfl rfl (run_call_func rfl rfl #[.agg ⟨t3⟩, .agg ⟨t4⟩] (by simp only [List.map_toArray, List.map_cons, List.map_nil, Act.eval]; rfl) Tryz.func22 (by kernel_rfl) (by kernel_rfl) _) (selP_spec x0 x1 _ _ _ ((Ft3_4.out).rep) ((HO4.out).rep) (by omega) (by omega)) ?_
          rintro e w5 ⟨t5, rfl, hw5, ho5⟩
          have HO5 := Lib.hid ho5
          have HT5 : Hid (t5.length = 2) := (by rw [ho5.1]; exact GInstanceRef.tr_len _)
          have HJ5 : Hid ((Tryz.prog.info? 33).map (·.size) = some t5.length) := (by rw [HT5.out]; exact isz33)
          clear ho5
          have hs5 := Ext.trans hs4 hw5
          refine ⟨_, rfl, hs5, ?_⟩
          have Fp0_5 := Lib.hid ((Fp0_4.out).ext hw5)
          have Fp1_5 := Lib.hid ((Fp1_4.out).ext hw5)
          have Ft3_5 := Lib.hid ((Ft3_4.out).ext hw5)
          have Ft4_5 := Lib.hid ((HO4.out).ext hw5)
          have X5 := Lib.hid (Ext.trans X4.out hw5)
          have z5 : w4.heap.size ≤ w5.heap.size := hw5.size
          simp only [Act.put, List.getElem_toArray, List.getElem_cons_zero, List.getElem_cons_succ, List.setIfInBounds_toArray, List.set_cons_zero, List.set_cons_succ]
          refine wpAnyH_take (i := 5) rfl (by kernel_rfl) (by kernel_rfl) (by kernel_rfl) (fun _ _ _ h => h) (.inl ⟨rfl, fun _ _ => rfl⟩) (by assumption) ?_
          simp only [Act.put, List.getElem_toArray, List.getElem_cons_zero, List.getElem_cons_succ, List.setIfInBounds_toArray, List.set_cons_zero, List.set_cons_succ]
          refine wpAnyH_take (i := 6) rfl (by kernel_rfl) (by kernel_rfl) (by kernel_rfl) (fun _ _ _ h => h) (.inl ⟨rfl, fun _ _ => rfl⟩) (by assumption) ?_
          simp only [Act.put, List.getElem_toArray, List.getElem_cons_zero, List.getElem_cons_succ, List.setIfInBounds_toArray, List.set_cons_zero, List.set_cons_succ]
          refine wpAnyH_take (i := 7) rfl (by kernel_rfl) (by kernel_rfl) (by kernel_rfl) (fun _ _ _ h => h) (.inl ⟨rfl, fun _ _ => rfl⟩) (by assumption) ?_
          simp only [Act.put, List.getElem_toArray, List.getElem_cons_zero, List.getElem_cons_succ, List.setIfInBounds_toArray, List.set_cons_zero, List.set_cons_succ]
          have hs6n := Ext.trans hs5 (Ext.alloc (.refl w5) (.cells #[.int .i64 0, .int .i64 0] 33))
          refine wpAnyH_run (i := 8) (v := .pointer (some ⟨w5.heap.size, 0, none⟩)) (w' := w5.alloc (.cells #[.int .i64 0, .int .i64 0] 33)) (by kernel_rfl) rfl rfl (by simp [execOp, go_sem]) hs6n ?_
          simp only [Act.put, List.getElem_toArray, List.getElem_cons_zero, List.getElem_cons_succ, List.setIfInBounds_toArray, List.set_cons_zero, List.set_cons_succ]
          have hoba := OB.new w5 33 #[.int .i64 0, .int .i64 0]
          have hw6 := Ext.alloc (.refl w5) (.cells #[.int .i64 0, .int .i64 0] 33)
          have hga := (hs5).size
          obtain ⟨w6, hN⟩ : ∃ x, w5.alloc (.cells #[.int .i64 0, .int .i64 0] 33) = x := ⟨_, rfl⟩
          rw [hN] at hoba hw6 hs6n ⊢
          clear hN
          obtain ⟨gA, hgA⟩ : ∃ x, w5.heap.size = x := ⟨_, rfl⟩
          rw [hgA] at hoba hga ⊢
          have hla := hoba.lt
          have Fp0_6 := Lib.hid ((Fp0_5.out).ext hw6)
          have Fp1_6 := Lib.hid ((Fp1_5.out).ext hw6)
          have Ft5_6 := Lib.hid ((HO5.out).ext hw6)
          have X6 := Lib.hid (Ext.trans X5.out hw6)
          have z6 : w5.heap.size ≤ w6.heap.size := hw6.size
          refine wpAnyH_store_rep (i := 9) (by kernel_rfl) rfl rfl 33 (.tmp 6) (.tmp 28) rfl gA 0 rfl t5 rfl 33 #[.int .i64 0, .int .i64 0] (hoba) HJ5.out (by rw [HT5.out]; exact Nat.le_refl _) HO5.out.rep.one ?_
          intro w7 hob hgb hzb
          rw [splice_whole (by rw [HT5.out]; rfl)] at hob
          have hs7n := grown_ext hs6n hgb (by omega)
          refine ⟨hs7n, ?_⟩
          simp only [Act.put, List.getElem_toArray, List.getElem_cons_zero, List.getElem_cons_succ, List.setIfInBounds_toArray, List.set_cons_zero, List.set_cons_succ]
          have hor := OwnL.keep (Ft5_6.out) (w' := w7) fun x hx hxl => hgb.block x hxl (by intro h; injection h with h; have h1 := hx.1; have h2 := hx.2; omega)
          refine wpAnyH_take (i := 10) rfl (by kernel_rfl) (by kernel_rfl) (by kernel_rfl) (fun _ _ _ h => h) (.inl ⟨rfl, fun _ _ => rfl⟩) (by assumption) ?_
          simp only [Act.put, List.getElem_toArray, List.getElem_cons_zero, List.getElem_cons_succ, List.setIfInBounds_toArray, List.set_cons_zero, List.set_cons_succ]
          refine wpAnyH_done (by kernel_rfl) ?_ _
          have HSF := Lib.hid hs7n
          have HOBF := Lib.hid hob
          have HORF := Lib.hid hor.rep
          have hgf : w2.heap.size ≤ gA := by omega
          clear hob hor hgb hzb hHeld hs3 hw3 hs4 hw4 hs5 hw5
          go_wp2_with fail
          go_meet
          exact ⟨gA, t5, rfl, rfl, HSF.out, hgf, HOBF.out, HORF.out⟩
        · have hs5n := Ext.trans hs4 (Ext.alloc (.refl w4) (.cells #[.int .i64 0, .int .i64 0] 33))
          refine wpOp_run (v := .pointer (some ⟨w4.heap.size, 0, none⟩)) (w' := w4.alloc (.cells #[.int .i64 0, .int .i64 0] 33)) rfl rfl (by simp [execOp, go_sem]) ⟨hs5n, ?_⟩
          simp only [Act.put, List.getElem_toArray, List.getElem_cons_zero, List.getElem_cons_succ, List.setIfInBounds_toArray, List.set_cons_zero, List.set_cons_succ]
          have hoba := OB.new w4 33 #[.int .i64 0, .int .i64 0]
          have hw5 := Ext.alloc (.refl w4) (.cells #[.int .i64 0, .int .i64 0] 33)
          have hga := (hs4).size
          obtain ⟨w5, hN⟩ : ∃ x, w4.alloc (.cells #[.int .i64 0, .int .i64 0] 33) = x := ⟨_, rfl⟩
          rw [hN] at hoba hw5 hs5n ⊢
          clear hN
          obtain ⟨gA, hgA⟩ : ∃ x, w4.heap.size = x := ⟨_, rfl⟩
          rw [hgA] at hoba hga ⊢
          have hla := hoba.lt
          have Fp0_5 := Lib.hid ((Fp0_4.out).ext hw5)
          have Fp1_5 := Lib.hid ((Fp1_4.out).ext hw5)
          have Ft3_5 := Lib.hid ((Ft3_4.out).ext hw5)
          have Ft4_5 := Lib.hid ((HO4.out).ext hw5)
          have X5 := Lib.hid (Ext.trans X4.out hw5)
          have z5 : w4.heap.size ≤ w5.heap.size := hw5.size
          refine wpAnyH_call (i := 4) (by kernel_rfl) rfl rfl (run_call_func rfl rfl #[.agg ⟨t3⟩, .agg ⟨t4⟩] (by simp only [List.map_toArray, List.map_cons, List.map_nil, Act.eval]; rfl) Tryz.func22 (by kernel_rfl) (by kernel_rfl) _) (selP_spec x0 x1 _ _ _ ((Ft3_5.out).rep) ((Ft4_5.out).rep) (by omega) (by omega)) ?_
          rintro e w6 ⟨t6, rfl, hw6, ho6⟩
          have HO6 := Lib.hid ho6
          have HT6 : Hid (t6.length = 2) := (by rw [ho6.1]; exact GInstanceRef.tr_len _)
          have HJ6 : Hid ((Tryz.prog.info? 33).map (·.size) = some t6.length) := (by rw [HT6.out]; exact isz33)
          clear ho6
          have hs6 := Ext.trans hs5n hw6
          refine ⟨_, rfl, hs6, ?_⟩
          have Fp0_6 := Lib.hid ((Fp0_5.out).ext hw6)
          have Fp1_6 := Lib.hid ((Fp1_5.out).ext hw6)
          have Ft3_6 := Lib.hid ((Ft3_5.out).ext hw6)
          have Ft4_6 := Lib.hid ((Ft4_5.out).ext hw6)
          have Fga_6 := Lib.hid ((hoba).ext hw6)
          have X6 := Lib.hid (Ext.trans X5.out hw6)
          have z6 : w5.heap.size ≤ w6.heap.size := hw6.size
          simp only [Act.put, List.getElem_toArray, List.getElem_cons_zero, List.getElem_cons_succ, List.setIfInBounds_toArray, List.set_cons_zero, List.set_cons_succ]
          refine wpAnyH_take (i := 5) rfl (by kernel_rfl) (by kernel_rfl) (by kernel_rfl) (fun _ _ _ h => h) (.inl ⟨rfl, fun _ _ => rfl⟩) (by assumption) ?_
          simp only [Act.put, List.getElem_toArray, List.getElem_cons_zero, List.getElem_cons_succ, List.setIfInBounds_toArray, List.set_cons_zero, List.set_cons_succ]
          refine wpAnyH_take (i := 6) rfl (by kernel_rfl) (by kernel_rfl) (by kernel_rfl) (fun _ _ _ h => h) (.inl ⟨rfl, fun _ _ => rfl⟩) (by assumption) ?_
          simp only [Act.put, List.getElem_toArray, List.getElem_cons_zero, List.getElem_cons_succ, List.setIfInBounds_toArray, List.set_cons_zero, List.set_cons_succ]
          refine wpAnyH_take (i := 7) rfl (by kernel_rfl) (by kernel_rfl) (by kernel_rfl) (fun _ _ _ h => h) (.inl ⟨rfl, fun _ _ => rfl⟩) (by assumption) ?_
          simp only [Act.put, List.getElem_toArray, List.getElem_cons_zero, List.getElem_cons_succ, List.setIfInBounds_toArray, List.set_cons_zero, List.set_cons_succ]
          refine wpAnyH_store_rep (i := 9) (by kernel_rfl) rfl rfl 33 (.tmp 6) (.tmp 28) rfl gA 0 rfl t6 rfl 33 #[.int .i64 0, .int .i64 0] (Fga_6.out) HJ6.out (by rw [HT6.out]; exact Nat.le_refl _) HO6.out.rep.one ?_
          intro w7 hob hgb hzb
          rw [splice_whole (by rw [HT6.out]; rfl)] at hob
          have hs7n := grown_ext hs6 hgb (by omega)
          refine ⟨hs7n, ?_⟩
          simp only [Act.put, List.getElem_toArray, List.getElem_cons_zero, List.getElem_cons_succ, List.setIfInBounds_toArray, List.set_cons_zero, List.set_cons_succ]
          have hor := OwnL.keep (HO6.out) (w' := w7) fun x hx hxl => hgb.block x hxl (by intro h; injection h with h; have h1 := hx.1; have h2 := hx.2; omega)
          refine wpAnyH_take (i := 10) rfl (by kernel_rfl) (by kernel_rfl) (by kernel_rfl) (fun _ _ _ h => h) (.inl ⟨rfl, fun _ _ => rfl⟩) (by assumption) ?_
          simp only [Act.put, List.getElem_toArray, List.getElem_cons_zero, List.getElem_cons_succ, List.setIfInBounds_toArray, List.set_cons_zero, List.set_cons_succ]
          refine wpAnyH_done (by kernel_rfl) ?_ _
          have HSF := Lib.hid hs7n
          have HOBF := Lib.hid hob
          have HORF := Lib.hid hor.rep
          have hgf : w2.heap.size ≤ gA := by omega
          clear hob hor hgb hzb hHeld hs3 hw3 hs4 hw4 hs6 hw6
          go_wp2_with fail
          go_meet
          exact ⟨gA, t6, rfl, rfl, HSF.out, hgf, HOBF.out, HORF.out⟩
      · have hs4n := Ext.trans hs3 (Ext.alloc (.refl w3) (.cells #[.int .i64 0, .int .i64 0] 33))
        refine wpOp_run (v := .pointer (some ⟨w3.heap.size, 0, none⟩)) (w' := w3.alloc (.cells #[.int .i64 0, .int .i64 0] 33)) rfl rfl (by simp [execOp, go_sem]) ⟨hs4n, ?_⟩
        simp only [Act.put, List.getElem_toArray, List.getElem_cons_zero, List.getElem_cons_succ, List.setIfInBounds_toArray, List.set_cons_zero, List.set_cons_succ]
        have hoba := OB.new w3 33 #[.int .i64 0, .int .i64 0]
        have hw4 := Ext.alloc (.refl w3) (.cells #[.int .i64 0, .int .i64 0] 33)
        have hga := (hs3).size
        obtain ⟨w4, hN⟩ : ∃ x, w3.alloc (.cells #[.int .i64 0, .int .i64 0] 33) = x := ⟨_, rfl⟩
        rw [hN] at hoba hw4 hs4n ⊢
        clear hN
        obtain ⟨gA, hgA⟩ : ∃ x, w3.heap.size = x := ⟨_, rfl⟩
        rw [hgA] at hoba hga ⊢
        have hla := hoba.lt
        have Fp0_4 := Lib.hid ((Fp0_3.out).ext hw4)
        have Fp1_4 := Lib.hid ((Fp1_3.out).ext hw4)
        have Ft3_4 := Lib.hid ((HO3.out).ext hw4)
        have X4 := Lib.hid (Ext.trans X3.out hw4)
        have z4 : w3.heap.size ≤ w4.heap.size := hw4.size
        refine wpAnyH_call (i := 3) (by kernel_rfl) rfl rfl (run_call_func rfl rfl #[.agg ⟨cs1⟩] (by simp only [List.map_toArray, List.map_cons, List.map_nil, Act.eval]; rfl) Tryz.func23 (by kernel_rfl) (by kernel_rfl) _) (toBound_all x1 _ _ (HR1.out.ext X4.out) (by omega)) ?_
        rintro e w5 ⟨t5, rfl, hw5, ho5⟩
        have HO5 := Lib.hid ho5
        have HT5 : Hid (t5.length = 4) := (by rw [ho5.1]; exact GBound.tr_len _)
        have HJ5 : Hid ((Tryz.prog.info? 49).map (·.size) = some t5.length) := (by rw [HT5.out]; exact isz49)
        clear ho5
        have hs5 := Ext.trans hs4n hw5
        refine ⟨_, rfl, hs5, ?_⟩
        have Fp0_5 := Lib.hid ((Fp0_4.out).ext hw5)
        have Fp1_5 := Lib.hid ((Fp1_4.out).ext hw5)
        have Ft3_5 := Lib.hid ((Ft3_4.out).ext hw5)
        have Fga_5 := Lib.hid ((hoba).ext hw5)
        have X5 := Lib.hid (Ext.trans X4.out hw5)
        have z5 : w4.heap.size ≤ w5.heap.size := hw5.size
        simp only [Act.put, List.getElem_toArray, List.getElem_cons_zero, List.getElem_cons_succ, List.setIfInBounds_toArray, List.set_cons_zero, List.set_cons_succ]
        refine wpAnyH_call (i := 4) (by kernel_rfl) rfl rfl (run_call_func rfl rfl #[.agg ⟨t3⟩, .agg ⟨t5⟩] (by simp only [List.map_toArray, List.map_cons, List.map_nil, Act.eval]; rfl) Tryz.func22 (by kernel_rfl) (by kernel_rfl) _) (selP_spec x0 x1 _ _ _ ((Ft3_5.out).rep) ((HO5.out).rep) (by omega) (by omega)) ?_
        rintro e w6 ⟨t6, rfl, hw6, ho6⟩
        have HO6 := Lib.hid ho6
        have HT6 : Hid (t6.length = 2) := (by rw [ho6.1]; exact GInstanceRef.tr_len _)
        have HJ6 : Hid ((Tryz.prog.info? 33).map (·.size) = some t6.length) := (by rw [HT6.out]; exact isz33)
        clear ho6
        have hs6 := Ext.trans hs5 hw6
        refine ⟨_, rfl, hs6, ?_⟩
        have Fp0_6 := Lib.hid ((Fp0_5.out).ext hw6)
        have Fp1_6 := Lib.hid ((Fp1_5.out).ext hw6)
        have Ft3_6 := Lib.hid ((Ft3_5.out).ext hw6)
        have Fga_6 := Lib.hid ((Fga_5.out).ext hw6)
        have Ft5_6 := Lib.hid ((HO5.out).ext hw6)
        have X6 := Lib.hid (Ext.trans X5.out hw6)
        have z6 : w5.heap.size ≤ w6.heap.size := hw6.size
        simp only [Act.put, List.getElem_toArray, List.getElem_cons_zero, List.getElem_cons_succ, List.setIfInBounds_toArray, List.set_cons_zero, List.set_cons_succ]
        refine wpAnyH_take (i := 5) rfl (by kernel_rfl) (by kernel_rfl) (by kernel_rfl) (fun _ _ _ h => h) (.inl ⟨rfl, fun _ _ => rfl⟩) (by assumption) ?_
        simp only [Act.put, List.getElem_toArray, List.getElem_cons_zero, List.getElem_cons_succ, List.setIfInBounds_toArray, List.set_cons_zero, List.set_cons_succ]
        refine wpAnyH_take (i := 6) rfl (by kernel_rfl) (by kernel_rfl) (by kernel_rfl) (fun _ _ _ h => h) (.inl ⟨rfl, fun _ _ => rfl⟩) (by assumption) ?_
        simp only [Act.put, List.getElem_toArray, List.getElem_cons_zero, List.getElem_cons_succ, List.setIfInBounds_toArray, List.set_cons_zero, List.set_cons_succ]
        refine wpAnyH_take (i := 7) rfl (by kernel_rfl) (by kernel_rfl) (by kernel_rfl) (fun _ _ _ h => h) (.inl ⟨rfl, fun _ _ => rfl⟩) (by assumption) ?_
        simp only [Act.put, List.getElem_toArray, List.getElem_cons_zero, List.getElem_cons_succ, List.setIfInBounds_toArray, List.set_cons_zero, List.set_cons_succ]
        refine wpAnyH_store_rep (i := 9) (by kernel_rfl) rfl rfl 33 (.tmp 6) (.tmp 28) rfl gA 0 rfl t6 rfl 33 #[.int .i64 0, .int .i64 0] (Fga_6.out) HJ6.out (by rw [HT6.out]; exact Nat.le_refl _) HO6.out.rep.one ?_
        intro w7 hob hgb hzb
        rw [splice_whole (by rw [HT6.out]; rfl)] at hob
        have hs7n := grown_ext hs6 hgb (by omega)
        refine ⟨hs7n, ?_⟩
        simp only [Act.put, List.getElem_toArray, List.getElem_cons_zero, List.getElem_cons_succ, List.setIfInBounds_toArray, List.set_cons_zero, List.set_cons_succ]
        have hor := OwnL.keep (HO6.out) (w' := w7) fun x hx hxl => hgb.block x hxl (by intro h; injection h with h; have h1 := hx.1; have h2 := hx.2; omega)
        refine wpAnyH_take (i := 10) rfl (by kernel_rfl) (by kernel_rfl) (by kernel_rfl) (fun _ _ _ h => h) (.inl ⟨rfl, fun _ _ => rfl⟩) (by assumption) ?_
        simp only [Act.put, List.getElem_toArray, List.getElem_cons_zero, List.getElem_cons_succ, List.setIfInBounds_toArray, List.set_cons_zero, List.set_cons_succ]
        refine wpAnyH_done (by kernel_rfl) ?_ _
        have HSF := Lib.hid hs7n
        have HOBF := Lib.hid hob
        have HORF := Lib.hid hor.rep
        have hgf : w2.heap.size ≤ gA := by omega
        clear hob hor hgb hzb hHeld hs3 hw3 hs5 hw5 hs6 hw6
        go_wp2_with fail
        go_meet
        exact ⟨gA, t6, rfl, rfl, HSF.out, hgf, HOBF.out, HORF.out⟩
    · have hs3n := Ext.trans hHeld (Ext.alloc (.refl w2.drew) (.cells #[.int .i64 0, .int .i64 0] 33))
      refine wpOp_run (v := .pointer (some ⟨w2.drew.heap.size, 0, none⟩)) (w' := w2.drew.alloc (.cells #[.int .i64 0, .int .i64 0] 33)) rfl rfl (by simp [execOp, go_sem]) ⟨hs3n, ?_⟩
      simp only [Act.put, List.getElem_toArray, List.getElem_cons_zero, List.getElem_cons_succ, List.setIfInBounds_toArray, List.set_cons_zero, List.set_cons_succ]
      have hoba := OB.new w2.drew 33 #[.int .i64 0, .int .i64 0]
      have hw3 := Ext.alloc (.refl w2.drew) (.cells #[.int .i64 0, .int .i64 0] 33)
      have hga := (hHeld).size
      obtain ⟨w3, hN⟩ : ∃ x, w2.drew.alloc (.cells #[.int .i64 0, .int .i64 0] 33) = x := ⟨_, rfl⟩
      rw [hN] at hoba hw3 hs3n ⊢
      clear hN
      obtain ⟨gA, hgA⟩ : ∃ x, w2.drew.heap.size = x := ⟨_, rfl⟩
      rw [hgA] at hoba hga ⊢
      have hla := hoba.lt
      have Fp0_3 := Lib.hid (((Fp0_2.out).ext (Ext.drew (.refl w2))).ext hw3)
      have Fp1_3 := Lib.hid (((Fp1_2.out).ext (Ext.drew (.refl w2))).ext hw3)
      have X3 := Lib.hid (Ext.trans (Ext.trans X2.out (.drew (.refl _))) hw3)
      have z3 : w2.heap.size ≤ w3.heap.size := hw3.size
      refine wpAnyH_call (i := 1) (by kernel_rfl) rfl rfl (run_call_func rfl rfl #[.agg ⟨cs0⟩] (by simp only [List.map_toArray, List.map_cons, List.map_nil, Act.eval]; rfl) Tryz.func17 (by kernel_rfl) (by kernel_rfl) _) (toProgram_all x0 _ _ (HR0.out.ext X3.out) (by omega)) ?_
      rintro e w4 ⟨t4, rfl, hw4, ho4⟩
      have HO4 := Lib.hid ho4
      have HT4 : Hid (t4.length = 1) := (by rw [ho4.1]; exact GProgram.tr_len _)
      have HJ4 : Hid ((Tryz.prog.info? 31).map (·.size) = some t4.length) := (by rw [HT4.out]; exact isz31)
      clear ho4
      have hs4 := Ext.trans hs3n hw4
      refine ⟨_, rfl, hs4, ?_⟩
      have Fp0_4 := Lib.hid ((Fp0_3.out).ext hw4)
      have Fp1_4 := Lib.hid ((Fp1_3.out).ext hw4)
      have Fga_4 := Lib.hid ((hoba).ext hw4)
      have X4 := Lib.hid (Ext.trans X3.out hw4)
      have z4 : w3.heap.size ≤ w4.heap.size := hw4.size
      simp only [Act.put, List.getElem_toArray, List.getElem_cons_zero, List.getElem_cons_succ, List.setIfInBounds_toArray, List.set_cons_zero, List.set_cons_succ]
      refine wpAnyH_call (i := 3) (by kernel_rfl) rfl rfl (run_call_func rfl rfl #[.agg ⟨cs1⟩] (by simp only [List.map_toArray, List.map_cons, List.map_nil, Act.eval]; rfl) Tryz.func23 (by kernel_rfl) (by kernel_rfl) _) (toBound_all x1 _ _ (HR1.out.ext X4.out) (by omega)) ?_
      rintro e w5 ⟨t5, rfl, hw5, ho5⟩
      have HO5 := Lib.hid ho5
      have HT5 : Hid (t5.length = 4) := (by rw [ho5.1]; exact GBound.tr_len _)
      have HJ5 : Hid ((Tryz.prog.info? 49).map (·.size) = some t5.length) := (by rw [HT5.out]; exact isz49)
      clear ho5
      have hs5 := Ext.trans hs4 hw5
      refine ⟨_, rfl, hs5, ?_⟩
      have Fp0_5 := Lib.hid ((Fp0_4.out).ext hw5)
      have Fp1_5 := Lib.hid ((Fp1_4.out).ext hw5)
      have Fga_5 := Lib.hid ((Fga_4.out).ext hw5)
      have Ft4_5 := Lib.hid ((HO4.out).ext hw5)
      have X5 := Lib.hid (Ext.trans X4.out hw5)
      have z5 : w4.heap.size ≤ w5.heap.size := hw5.size
      simp only [Act.put, List.getElem_toArray, List.getElem_cons_zero, List.getElem_cons_succ, List.setIfInBounds_toArray, List.set_cons_zero, List.set_cons_succ]
      refine wpAnyH_call (i := 4) (by kernel_rfl) rfl rfl (run_call_func rfl rfl #[.agg ⟨t4⟩, .agg ⟨t5⟩] (by simp only [List.map_toArray, List.map_cons, List.map_nil, Act.eval]; rfl) Tryz.func22 (by kernel_rfl) (by kernel_rfl) _) (selP_spec x0 x1 _ _ _ ((Ft4_5.out).rep) ((HO5.out).rep) (by omega) (by omega)) ?_
      rintro e w6 ⟨t6, rfl, hw6, ho6⟩
      have HO6 := Lib.hid ho6
      have HT6 : Hid (t6.length = 2) := (by rw [ho6.1]; exact GInstanceRef.tr_len _)
      have HJ6 : Hid ((Tryz.prog.info? 33).map (·.size) = some t6.length) := (by rw [HT6.out]; exact isz33)
      clear ho6
      have hs6 := Ext.trans hs5 hw6
      refine ⟨_, rfl, hs6, ?_⟩
      have Fp0_6 := Lib.hid ((Fp0_5.out).ext hw6)
      have Fp1_6 := Lib.hid ((Fp1_5.out).ext hw6)
      have Fga_6 := Lib.hid ((Fga_5.out).ext hw6)
      have Ft4_6 := Lib.hid ((Ft4_5.out).ext hw6)
      have Ft5_6 := Lib.hid ((HO5.out).ext hw6)
      have X6 := Lib.hid (Ext.trans X5.out hw6)
      have z6 : w5.heap.size ≤ w6.heap.size := hw6.size
      simp only [Act.put, List.getElem_toArray, List.getElem_cons_zero, List.getElem_cons_succ, List.setIfInBounds_toArray, List.set_cons_zero, List.set_cons_succ]
      refine wpAnyH_take (i := 5) rfl (by kernel_rfl) (by kernel_rfl) (by kernel_rfl) (fun _ _ _ h => h) (.inl ⟨rfl, fun _ _ => rfl⟩) (by assumption) ?_
      simp only [Act.put, List.getElem_toArray, List.getElem_cons_zero, List.getElem_cons_succ, List.setIfInBounds_toArray, List.set_cons_zero, List.set_cons_succ]
      refine wpAnyH_take (i := 6) rfl (by kernel_rfl) (by kernel_rfl) (by kernel_rfl) (fun _ _ _ h => h) (.inl ⟨rfl, fun _ _ => rfl⟩) (by assumption) ?_
      simp only [Act.put, List.getElem_toArray, List.getElem_cons_zero, List.getElem_cons_succ, List.setIfInBounds_toArray, List.set_cons_zero, List.set_cons_succ]
      refine wpAnyH_take (i := 7) rfl (by kernel_rfl) (by kernel_rfl) (by kernel_rfl) (fun _ _ _ h => h) (.inl ⟨rfl, fun _ _ => rfl⟩) (by assumption) ?_
      simp only [Act.put, List.getElem_toArray, List.getElem_cons_zero, List.getElem_cons_succ, List.setIfInBounds_toArray, List.set_cons_zero, List.set_cons_succ]
      refine wpAnyH_store_rep (i := 9) (by kernel_rfl) rfl rfl 33 (.tmp 6) (.tmp 28) rfl gA 0 rfl t6 rfl 33 #[.int .i64 0, .int .i64 0] (Fga_6.out) HJ6.out (by rw [HT6.out]; exact Nat.le_refl _) HO6.out.rep.one ?_
      intro w7 hob hgb hzb
      rw [splice_whole (by rw [HT6.out]; rfl)] at hob
      have hs7n := grown_ext hs6 hgb (by omega)
      refine ⟨hs7n, ?_⟩
      simp only [Act.put, List.getElem_toArray, List.getElem_cons_zero, List.getElem_cons_succ, List.setIfInBounds_toArray, List.set_cons_zero, List.set_cons_succ]
      have hor := OwnL.keep (HO6.out) (w' := w7) fun x hx hxl => hgb.block x hxl (by intro h; injection h with h; have h1 := hx.1; have h2 := hx.2; omega)
      refine wpAnyH_take (i := 10) rfl (by kernel_rfl) (by kernel_rfl) (by kernel_rfl) (fun _ _ _ h => h) (.inl ⟨rfl, fun _ _ => rfl⟩) (by assumption) ?_
      simp only [Act.put, List.getElem_toArray, List.getElem_cons_zero, List.getElem_cons_succ, List.setIfInBounds_toArray, List.set_cons_zero, List.set_cons_succ]
      refine wpAnyH_done (by kernel_rfl) ?_ _
      have HSF := Lib.hid hs7n
      have HOBF := Lib.hid hob
      have HORF := Lib.hid hor.rep
      have hgf : w2.heap.size ≤ gA := by omega
      clear hob hor hgb hzb hHeld hs4 hw4 hs5 hw5 hs6 hw6
      go_wp2_with fail
      go_meet
      exact ⟨gA, t6, rfl, rfl, HSF.out, hgf, HOBF.out, HORF.out⟩
  obtain ⟨w3, hwe⟩ : ∃ x, x = wc := ⟨_, rfl⟩
  rw [← hwe] at hcut ⊢
  clear hwe
  obtain ⟨gB3, t3, rfl, rfl, HXC3, hgB3, HOB3, HO3⟩ := hcut
  have Fp0_3 := Lib.hid ((Fp0_2.out).ext HXC3.out)
  have Fp1_3 := Lib.hid ((Fp1_2.out).ext HXC3.out)
  have X3 := Lib.hid (Ext.trans X2.out HXC3.out)
  have z3 : w2.heap.size ≤ w3.heap.size := HXC3.out.size
  have HT3 : Hid (t3.length = 2) := (by rw [← HO3.out.length]; exact GInstanceRef.tr_len _)
  have HJ3 : Hid ((Tryz.prog.info? 33).map (·.size) = some t3.length) := (by rw [HT3.out]; exact isz33)
  go_wp2_with (first
    | (refine wpList_load_rep rfl 24 (.tmp 2) rfl (w.heap.size) 0 rfl cs0 _ Tryz.underlying24 HI0.out (OB.cells0 (Fp0_3.out)) ?_)
    | (refine wpList_load_rep rfl 41 (.tmp 3) rfl (w.heap.size + 1) 0 rfl cs1 _ Tryz.underlying41 HI1.out (OB.cells0 (Fp1_3.out)) ?_)
    | (refine wpList_load_rep rfl 33 (.tmp 6) rfl (gB3) 0 rfl t3 _ Tryz.underlying33 HJ3.out (OB.cells0 (HOB3.out)) ?_))
  refine (toProgram_all x0 _ _ (HR0.out.ext X3.out) (by omega)).mono ?_
  rintro e w4 ⟨t4, rfl, hw4, ho4⟩
  have HO4 := Lib.hid ho4
  have HT4 : Hid (t4.length = 1) := (by rw [ho4.1]; exact GProgram.tr_len _)
  have HJ4 : Hid ((Tryz.prog.info? 31).map (·.size) = some t4.length) := (by rw [HT4.out]; exact isz31)
  clear ho4
  have Fp0_4 := Lib.hid ((Fp0_3.out).ext hw4)
  have Fp1_4 := Lib.hid ((Fp1_3.out).ext hw4)
  have Ft3_4 := Lib.hid (Ext.trans (Ext.refl _) hw4)
  have Fb3_4 := Lib.hid ((HOB3.out).ext hw4)
  have X4 := Lib.hid (Ext.trans X3.out hw4)
  have z4 : w3.heap.size ≤ w4.heap.size := hw4.size
  clear hw4
  go_wp2_with (first
    | (refine wpList_store_rep rfl 31 (.tmp 8) (.tmp 31) rfl w4.heap.size 0 rfl t4 rfl 31 _ (OB.new w4 _ _) HJ4.out (by rw [HT4.out]; exact Nat.le_refl _) (HO4.out.rep.one) ?_; intro w5 hob hgb hzb; rw [splice_whole (by rw [HT4.out]; rfl)] at hob; have hw5 := grown_ext (.alloc (.refl w4) _) hgb (Nat.le_refl _); have Fp0_5 := Lib.hid ((Fp0_4.out).ext hw5); have Fp1_5 := Lib.hid ((Fp1_4.out).ext hw5); have Ft3_5 := Lib.hid (Ext.trans Ft3_4.out hw5); have Fb3_5 := Lib.hid ((Fb3_4.out).ext hw5); have Ft4_5 := Lib.hid ((HO4.out).ext hw5); have X5 := Lib.hid (Ext.trans X4.out hw5); have z5 : w4.heap.size ≤ w5.heap.size := hw5.size; have Fb5_5 := Lib.hid hob; have zs5 : w4.heap.size < w5.heap.size := hob.lt; clear hob hgb hzb hw5)
    | (refine wpList_load_rep rfl 24 (.tmp 2) rfl (w.heap.size) 0 rfl cs0 _ Tryz.underlying24 HI0.out (OB.cells0 (Fp0_5.out)) ?_)
    | (refine wpList_load_rep rfl 41 (.tmp 3) rfl (w.heap.size + 1) 0 rfl cs1 _ Tryz.underlying41 HI1.out (OB.cells0 (Fp1_5.out)) ?_)
    | (refine wpList_load_rep rfl 33 (.tmp 6) rfl (gB3) 0 rfl t3 _ Tryz.underlying33 HJ3.out (OB.cells0 (Fb3_5.out)) ?_)
    | (refine wpList_load_rep rfl 31 (.tmp 8) rfl (w4.heap.size) 0 rfl t4 _ Tryz.underlying31 HJ4.out (OB.cells0 (Fb5_5.out)) ?_))
  refine (toBound_all x1 _ _ (HR1.out.ext X5.out) (by omega)).mono ?_
  rintro e w6 ⟨t6, rfl, hw6, ho6⟩
  have HO6 := Lib.hid ho6
  have HT6 : Hid (t6.length = 4) := (by rw [ho6.1]; exact GBound.tr_len _)
  have HJ6 : Hid ((Tryz.prog.info? 49).map (·.size) = some t6.length) := (by rw [HT6.out]; exact isz49)
  clear ho6
  have Fp0_6 := Lib.hid ((Fp0_5.out).ext hw6)
  have Fp1_6 := Lib.hid ((Fp1_5.out).ext hw6)
  have Ft3_6 := Lib.hid (Ext.trans Ft3_5.out hw6)
  have Fb3_6 := Lib.hid ((Fb3_5.out).ext hw6)
  have Ft4_6 := Lib.hid ((Ft4_5.out).ext hw6)
  have Fb5_6 := Lib.hid ((Fb5_5.out).ext hw6)
  have X6 := Lib.hid (Ext.trans X5.out hw6)
  have z6 : w5.heap.size ≤ w6.heap.size := hw6.size
  clear hw6
  go_wp2_with (first
    | (refine wpList_store_rep rfl 49 (.tmp 9) (.tmp 33) rfl w6.heap.size 0 rfl t6 rfl 49 _ (OB.new w6 _ _) HJ6.out (by rw [HT6.out]; exact Nat.le_refl _) (HO6.out.rep.one) ?_; intro w7 hob hgb hzb; rw [splice_whole (by rw [HT6.out]; rfl)] at hob; have hw7 := grown_ext (.alloc (.refl w6) _) hgb (Nat.le_refl _); have Fp0_7 := Lib.hid ((Fp0_6.out).ext hw7); have Fp1_7 := Lib.hid ((Fp1_6.out).ext hw7); have Ft3_7 := Lib.hid (Ext.trans Ft3_6.out hw7); have Fb3_7 := Lib.hid ((Fb3_6.out).ext hw7); have Ft4_7 := Lib.hid ((Ft4_6.out).ext hw7); have Fb5_7 := Lib.hid ((Fb5_6.out).ext hw7); have Ft6_7 := Lib.hid ((HO6.out).ext hw7); have X7 := Lib.hid (Ext.trans X6.out hw7); have z7 : w6.heap.size ≤ w7.heap.size := hw7.size; have Fb7_7 := Lib.hid hob; have zs7 : w6.heap.size < w7.heap.size := hob.lt; clear hob hgb hzb hw7)
    | (refine wpList_load_rep rfl 24 (.tmp 2) rfl (w.heap.size) 0 rfl cs0 _ Tryz.underlying24 HI0.out (OB.cells0 (Fp0_7.out)) ?_)
    | (refine wpList_load_rep rfl 41 (.tmp 3) rfl (w.heap.size + 1) 0 rfl cs1 _ Tryz.underlying41 HI1.out (OB.cells0 (Fp1_7.out)) ?_)
    | (refine wpList_load_rep rfl 33 (.tmp 6) rfl (gB3) 0 rfl t3 _ Tryz.underlying33 HJ3.out (OB.cells0 (Fb3_7.out)) ?_)
    | (refine wpList_load_rep rfl 31 (.tmp 8) rfl (w4.heap.size) 0 rfl t4 _ Tryz.underlying31 HJ4.out (OB.cells0 (Fb5_7.out)) ?_)
    | (refine wpList_load_rep rfl 49 (.tmp 9) rfl (w6.heap.size) 0 rfl t6 _ Tryz.underlying49 HJ6.out (OB.cells0 (Fb7_7.out)) ?_))
  refine (selP_impl x0 x1 _ _ _ ((Ft4_7.out).rep) ((Ft6_7.out).rep) (by omega) (by omega)).mono ?_
  rintro e w8 ⟨t8, rfl, hw8, ho8⟩
  have HO8 := Lib.hid ho8
  have HT8 : Hid (t8.length = 2) := (by rw [ho8.1]; exact GInstanceRef.tr_len _)
  have HJ8 : Hid ((Tryz.prog.info? 33).map (·.size) = some t8.length) := (by rw [HT8.out]; exact isz33)
  clear ho8
  have Fp0_8 := Lib.hid ((Fp0_7.out).ext hw8)
  have Fp1_8 := Lib.hid ((Fp1_7.out).ext hw8)
  have Ft3_8 := Lib.hid (Ext.trans Ft3_7.out hw8)
  have Fb3_8 := Lib.hid ((Fb3_7.out).ext hw8)
  have Ft4_8 := Lib.hid ((Ft4_7.out).ext hw8)
  have Fb5_8 := Lib.hid ((Fb5_7.out).ext hw8)
  have Ft6_8 := Lib.hid ((Ft6_7.out).ext hw8)
  have Fb7_8 := Lib.hid ((Fb7_7.out).ext hw8)
  have X8 := Lib.hid (Ext.trans X7.out hw8)
  have z8 : w7.heap.size ≤ w8.heap.size := hw8.size
  clear hw8
  go_wp2_with (first
    | (refine wpList_store_rep rfl 33 (.tmp 10) (.tmp 38) rfl w8.heap.size 0 rfl t8 rfl 33 _ (OB.new w8 _ _) HJ8.out (by rw [HT8.out]; exact Nat.le_refl _) (HO8.out.rep.one) ?_; intro w9 hob hgb hzb; rw [splice_whole (by rw [HT8.out]; rfl)] at hob; have hw9 := grown_ext (.alloc (.refl w8) _) hgb (Nat.le_refl _); have Fp0_9 := Lib.hid ((Fp0_8.out).ext hw9); have Fp1_9 := Lib.hid ((Fp1_8.out).ext hw9); have Ft3_9 := Lib.hid (Ext.trans Ft3_8.out hw9); have Fb3_9 := Lib.hid ((Fb3_8.out).ext hw9); have Ft4_9 := Lib.hid ((Ft4_8.out).ext hw9); have Fb5_9 := Lib.hid ((Fb5_8.out).ext hw9); have Ft6_9 := Lib.hid ((Ft6_8.out).ext hw9); have Fb7_9 := Lib.hid ((Fb7_8.out).ext hw9); have Ft8_9 := Lib.hid ((HO8.out).ext hw9); have X9 := Lib.hid (Ext.trans X8.out hw9); have z9 : w8.heap.size ≤ w9.heap.size := hw9.size; have Fb9_9 := Lib.hid hob; have zs9 : w8.heap.size < w9.heap.size := hob.lt; clear hob hgb hzb hw9)
    | (refine wpList_load_rep_g (by rfl) 24 (.tmp 2) rfl (w.heap.size) 0 rfl cs0 _ Tryz.underlying24 HI0.out (OB.cells0 (Fp0_9.out)) ?_)
    | (refine wpList_load_rep_g (by rfl) 41 (.tmp 3) rfl (w.heap.size + 1) 0 rfl cs1 _ Tryz.underlying41 HI1.out (OB.cells0 (Fp1_9.out)) ?_)
    | (refine wpList_load_rep_g (by rfl) 33 (.tmp 6) rfl (gB3) 0 rfl t3 _ Tryz.underlying33 HJ3.out (OB.cells0 (Fb3_9.out)) ?_)
    | (refine wpList_load_rep_g (by rfl) 31 (.tmp 8) rfl (w4.heap.size) 0 rfl t4 _ Tryz.underlying31 HJ4.out (OB.cells0 (Fb5_9.out)) ?_)
    | (refine wpList_load_rep_g (by rfl) 49 (.tmp 9) rfl (w6.heap.size) 0 rfl t6 _ Tryz.underlying49 HJ6.out (OB.cells0 (Fb7_9.out)) ?_)
    | (refine wpList_load_rep_g (by rfl) 33 (.tmp 10) rfl (w8.heap.size) 0 rfl t8 _ Tryz.underlying33 HJ8.out (OB.cells0 (Fb9_9.out)) ?_)
    | (refine wpList_store_rep rfl 33 (.tmp 10) (.tmp 38) rfl w8.heap.size 0 rfl t8 rfl 33 _ (OB.new w8 _ _) HJ8.out (by rw [HT8.out]; exact Nat.le_refl _) (HO8.out.rep.one) ?_; intro w9 hob hgb hzb; rw [splice_whole (by rw [HT8.out]; rfl)] at hob; have hw9 := grown_ext (.alloc (.refl w8) _) hgb (Nat.le_refl _); have Fp0_9 := Lib.hid ((Fp0_8.out).ext hw9); have Fp1_9 := Lib.hid ((Fp1_8.out).ext hw9); have Ft3_9 := Lib.hid (Ext.trans Ft3_8.out hw9); have Fb3_9 := Lib.hid ((Fb3_8.out).ext hw9); have Ft4_9 := Lib.hid ((Ft4_8.out).ext hw9); have Fb5_9 := Lib.hid ((Fb5_8.out).ext hw9); have Ft6_9 := Lib.hid ((Ft6_8.out).ext hw9); have Fb7_9 := Lib.hid ((Fb7_8.out).ext hw9); have Ft8_9 := Lib.hid ((HO8.out).ext hw9); have X9 := Lib.hid (Ext.trans X8.out hw9); have z9 : w8.heap.size ≤ w9.heap.size := hw9.size; have Fb9_9 := Lib.hid hob; have zs9 : w8.heap.size < w9.heap.size := hob.lt; clear hob hgb hzb hw9)
    | (refine wpList_load_rep rfl 24 (.tmp 2) rfl (w.heap.size) 0 rfl cs0 _ Tryz.underlying24 HI0.out (OB.cells0 (Fp0_9.out)) ?_)
    | (refine wpList_load_rep rfl 41 (.tmp 3) rfl (w.heap.size + 1) 0 rfl cs1 _ Tryz.underlying41 HI1.out (OB.cells0 (Fp1_9.out)) ?_)
    | (refine wpList_load_rep rfl 33 (.tmp 6) rfl (gB3) 0 rfl t3 _ Tryz.underlying33 HJ3.out (OB.cells0 (Fb3_9.out)) ?_)
    | (refine wpList_load_rep rfl 31 (.tmp 8) rfl (w4.heap.size) 0 rfl t4 _ Tryz.underlying31 HJ4.out (OB.cells0 (Fb5_9.out)) ?_)
    | (refine wpList_load_rep rfl 49 (.tmp 9) rfl (w6.heap.size) 0 rfl t6 _ Tryz.underlying49 HJ6.out (OB.cells0 (Fb7_9.out)) ?_)
    | (refine wpList_load_rep rfl 33 (.tmp 10) rfl (w8.heap.size) 0 rfl t8 _ Tryz.underlying33 HJ8.out (OB.cells0 (Fb9_9.out)) ?_))
  refine (eqInstanceRef_all (x0.sel x1).1 _ _ _ (Ft8_9.out).rep (HO3.out.ext Ft3_9.out)).mono ?_
  rintro e w10 ⟨rfl, hw10⟩
  have Fp0_10 := Lib.hid ((Fp0_9.out).ext hw10)
  have Fp1_10 := Lib.hid ((Fp1_9.out).ext hw10)
  have Ft3_10 := Lib.hid (Ext.trans Ft3_9.out hw10)
  have Fb3_10 := Lib.hid ((Fb3_9.out).ext hw10)
  have Ft4_10 := Lib.hid ((Ft4_9.out).ext hw10)
  have Fb5_10 := Lib.hid ((Fb5_9.out).ext hw10)
  have Ft6_10 := Lib.hid ((Ft6_9.out).ext hw10)
  have Fb7_10 := Lib.hid ((Fb7_9.out).ext hw10)
  have Ft8_10 := Lib.hid ((Ft8_9.out).ext hw10)
  have Fb9_10 := Lib.hid ((Fb9_9.out).ext hw10)
  have X10 := Lib.hid (Ext.trans X9.out hw10)
  have z10 : w9.heap.size ≤ w10.heap.size := hw10.size
  clear hw10
  go_wp2_with (first
    | (refine wpList_load_rep rfl 24 (.tmp 2) rfl (w.heap.size) 0 rfl cs0 _ Tryz.underlying24 HI0.out (OB.cells0 (Fp0_10.out)) ?_)
    | (refine wpList_load_rep rfl 41 (.tmp 3) rfl (w.heap.size + 1) 0 rfl cs1 _ Tryz.underlying41 HI1.out (OB.cells0 (Fp1_10.out)) ?_)
    | (refine wpList_load_rep rfl 33 (.tmp 6) rfl (gB3) 0 rfl t3 _ Tryz.underlying33 HJ3.out (OB.cells0 (Fb3_10.out)) ?_)
    | (refine wpList_load_rep rfl 31 (.tmp 8) rfl (w4.heap.size) 0 rfl t4 _ Tryz.underlying31 HJ4.out (OB.cells0 (Fb5_10.out)) ?_)
    | (refine wpList_load_rep rfl 49 (.tmp 9) rfl (w6.heap.size) 0 rfl t6 _ Tryz.underlying49 HJ6.out (OB.cells0 (Fb7_10.out)) ?_)
    | (refine wpList_load_rep rfl 33 (.tmp 10) rfl (w8.heap.size) 0 rfl t8 _ Tryz.underlying33 HJ8.out (OB.cells0 (Fb9_10.out)) ?_))
  refine wp_region_held_drew (S := Ext w10) (by kernel_rfl) (.drew (.refl _)) (fun hHeld => ?_)
  refine wpAnyH_load_rep (i := 0) rfl (by kernel_rfl) (by kernel_rfl) (by kernel_rfl) (fun _ _ _ h => h) rfl 31 (.tmp 8) rfl (w4.heap.size) 0 rfl t4 _ Tryz.underlying31 HJ4.out (fun w hS => OB.cells0 ((Fb5_10.out).ext hS)) (by assumption) (fun _ _ _ _ h => h) ?_
  simp only [Act.put, List.getElem_toArray, List.getElem_cons_zero, List.setIfInBounds_toArray, List.set_cons_zero, List.set_cons_succ]
  refine wpAnyH_load_rep (i := 1) rfl (by kernel_rfl) (by kernel_rfl) (by kernel_rfl) (fun _ _ _ h => h) rfl 24 (.tmp 2) rfl (w.heap.size) 0 rfl cs0 _ Tryz.underlying24 HI0.out (fun w hS => OB.cells0 ((Fp0_10.out).ext hS)) (by assumption) (fun _ _ _ _ h => h) ?_
  simp only [Act.put, List.getElem_toArray, List.getElem_cons_zero, List.getElem_cons_succ, List.setIfInBounds_toArray, List.set_cons_zero, List.set_cons_succ]
  refine wpAnyH_call (i := 2) (by kernel_rfl) rfl rfl (run_call_func rfl rfl #[.agg ⟨cs0⟩] (by simp only [List.map_toArray, List.map_cons, List.map_nil, Act.eval]; rfl) Tryz.func17 (by kernel_rfl) (by kernel_rfl) _) (toProgram_all x0 _ _ (HR0.out.ext (Ext.trans X10.out (.drew (.refl _)))) (by omega)) ?_
  rintro e w11 ⟨t11, rfl, hw11, ho11⟩
  have HO11 := Lib.hid ho11
  have HT11 : Hid (t11.length = 1) := (by rw [ho11.1]; exact GProgram.tr_len _)
  have HJ11 : Hid ((Tryz.prog.info? 31).map (·.size) = some t11.length) := (by rw [HT11.out]; exact isz31)
  clear ho11
  have hs11 := Ext.trans hHeld hw11
  refine ⟨_, rfl, hs11, ?_⟩
  have Fp0_11 := Lib.hid (((Fp0_10.out).ext (Ext.drew (.refl w10))).ext hw11)
  have Fp1_11 := Lib.hid (((Fp1_10.out).ext (Ext.drew (.refl w10))).ext hw11)
  have Ft3_11 := Lib.hid (Ext.trans (Ext.trans Ft3_10.out (Ext.drew (.refl w10))) hw11)
  have Fb3_11 := Lib.hid (((Fb3_10.out).ext (Ext.drew (.refl w10))).ext hw11)
  have Ft4_11 := Lib.hid (((Ft4_10.out).ext (Ext.drew (.refl w10))).ext hw11)
  have Fb5_11 := Lib.hid (((Fb5_10.out).ext (Ext.drew (.refl w10))).ext hw11)
  have Ft6_11 := Lib.hid (((Ft6_10.out).ext (Ext.drew (.refl w10))).ext hw11)
  have Fb7_11 := Lib.hid (((Fb7_10.out).ext (Ext.drew (.refl w10))).ext hw11)
  have Ft8_11 := Lib.hid (((Ft8_10.out).ext (Ext.drew (.refl w10))).ext hw11)
  have Fb9_11 := Lib.hid (((Fb9_10.out).ext (Ext.drew (.refl w10))).ext hw11)
  have X11 := Lib.hid (Ext.trans (Ext.trans X10.out (.drew (.refl _))) hw11)
  have z11 : w10.heap.size ≤ w11.heap.size := hw11.size
  simp only [Act.put, List.getElem_toArray, List.getElem_cons_zero, List.getElem_cons_succ, List.setIfInBounds_toArray, List.set_cons_zero, List.set_cons_succ]
  refine wpAnyH_call (i := 3) (by kernel_rfl) rfl rfl (run_call_func rfl rfl #[.agg ⟨t4⟩, .agg ⟨t11⟩] (by simp only [List.map_toArray, List.map_cons, List.map_nil, Act.eval]; rfl) Tryz.func20 (by kernel_rfl) (by kernel_rfl) _) (eqProgram_all x0 _ _ _ (Ft4_11.out).rep (HO11.out).rep) ?_
  rintro e w12 ⟨rfl, hw12⟩
  have hs12 := Ext.trans hs11 hw12
  refine ⟨_, rfl, hs12, ?_⟩
  have Fp0_12 := Lib.hid ((Fp0_11.out).ext hw12)
  have Fp1_12 := Lib.hid ((Fp1_11.out).ext hw12)
  have Ft3_12 := Lib.hid (Ext.trans Ft3_11.out hw12)
  have Fb3_12 := Lib.hid ((Fb3_11.out).ext hw12)
  have Ft4_12 := Lib.hid ((Ft4_11.out).ext hw12)
  have Fb5_12 := Lib.hid ((Fb5_11.out).ext hw12)
  have Ft6_12 := Lib.hid ((Ft6_11.out).ext hw12)
  have Fb7_12 := Lib.hid ((Fb7_11.out).ext hw12)
  have Ft8_12 := Lib.hid ((Ft8_11.out).ext hw12)
  have Fb9_12 := Lib.hid ((Fb9_11.out).ext hw12)
  have Ft11_12 := Lib.hid ((HO11.out).ext hw12)
  have X12 := Lib.hid (Ext.trans X11.out hw12)
  have z12 : w11.heap.size ≤ w12.heap.size := hw12.size
  simp only [Act.put, List.getElem_toArray, List.getElem_cons_zero, List.getElem_cons_succ, List.setIfInBounds_toArray, List.set_cons_zero, List.set_cons_succ]
  refine wpAnyH_take (i := 4) rfl (by kernel_rfl) (by kernel_rfl) (by kernel_rfl) (fun _ _ _ h => h) (.inl ⟨rfl, fun _ _ => rfl⟩) (by assumption) ?_
  simp only [Act.put, List.getElem_toArray, List.getElem_cons_zero, List.getElem_cons_succ, List.setIfInBounds_toArray, List.set_cons_zero, List.set_cons_succ]
  refine wpAnyH_done (by kernel_rfl) ?_ _
  clear hHeld hs11 hw11 hs12 hw12
  go_wp2_with (first
    | (refine wpList_load_rep rfl 24 (.tmp 2) rfl (w.heap.size) 0 rfl cs0 _ Tryz.underlying24 HI0.out (OB.cells0 (Fp0_12.out)) ?_)
    | (refine wpList_load_rep rfl 41 (.tmp 3) rfl (w.heap.size + 1) 0 rfl cs1 _ Tryz.underlying41 HI1.out (OB.cells0 (Fp1_12.out)) ?_)
    | (refine wpList_load_rep rfl 33 (.tmp 6) rfl (gB3) 0 rfl t3 _ Tryz.underlying33 HJ3.out (OB.cells0 (Fb3_12.out)) ?_)
    | (refine wpList_load_rep rfl 31 (.tmp 8) rfl (w4.heap.size) 0 rfl t4 _ Tryz.underlying31 HJ4.out (OB.cells0 (Fb5_12.out)) ?_)
    | (refine wpList_load_rep rfl 49 (.tmp 9) rfl (w6.heap.size) 0 rfl t6 _ Tryz.underlying49 HJ6.out (OB.cells0 (Fb7_12.out)) ?_)
    | (refine wpList_load_rep rfl 33 (.tmp 10) rfl (w8.heap.size) 0 rfl t8 _ Tryz.underlying33 HJ8.out (OB.cells0 (Fb9_12.out)) ?_))
  refine wp_region_held_drew (S := Ext w12) (by kernel_rfl) (.drew (.refl _)) (fun hHeld => ?_)
  refine wpAnyH_load_rep (i := 0) rfl (by kernel_rfl) (by kernel_rfl) (by kernel_rfl) (fun _ _ _ h => h) rfl 49 (.tmp 9) rfl (w6.heap.size) 0 rfl t6 _ Tryz.underlying49 HJ6.out (fun w hS => OB.cells0 ((Fb7_12.out).ext hS)) (by assumption) (fun _ _ _ _ h => h) ?_
  simp only [Act.put, List.getElem_toArray, List.getElem_cons_zero, List.setIfInBounds_toArray, List.set_cons_zero, List.set_cons_succ]
  refine wpAnyH_load_rep (i := 1) rfl (by kernel_rfl) (by kernel_rfl) (by kernel_rfl) (fun _ _ _ h => h) rfl 41 (.tmp 3) rfl (w.heap.size + 1) 0 rfl cs1 _ Tryz.underlying41 HI1.out (fun w hS => OB.cells0 ((Fp1_12.out).ext hS)) (by assumption) (fun _ _ _ _ h => h) ?_
  simp only [Act.put, List.getElem_toArray, List.getElem_cons_zero, List.getElem_cons_succ, List.setIfInBounds_toArray, List.set_cons_zero, List.set_cons_succ]
  refine wpAnyH_call (i := 2) (by kernel_rfl) rfl rfl (run_call_func rfl rfl #[.agg ⟨cs1⟩] (by simp only [List.map_toArray, List.map_cons, List.map_nil, Act.eval]; rfl) Tryz.func23 (by kernel_rfl) (by kernel_rfl) _) (toBound_all x1 _ _ (HR1.out.ext (Ext.trans X12.out (.drew (.refl _)))) (by omega)) ?_
  rintro e w13 ⟨t13, rfl, hw13, ho13⟩
  have HO13 := Lib.hid ho13
  have HT13 : Hid (t13.length = 4) := (by rw [ho13.1]; exact GBound.tr_len _)
  have HJ13 : Hid ((Tryz.prog.info? 49).map (·.size) = some t13.length) := (by rw [HT13.out]; exact isz49)
  clear ho13
  have hs13 := Ext.trans hHeld hw13
  refine ⟨_, rfl, hs13, ?_⟩
  have Fp0_13 := Lib.hid (((Fp0_12.out).ext (Ext.drew (.refl w12))).ext hw13)
  have Fp1_13 := Lib.hid (((Fp1_12.out).ext (Ext.drew (.refl w12))).ext hw13)
  have Ft3_13 := Lib.hid (Ext.trans (Ext.trans Ft3_12.out (Ext.drew (.refl w12))) hw13)
  have Fb3_13 := Lib.hid (((Fb3_12.out).ext (Ext.drew (.refl w12))).ext hw13)
  have Ft4_13 := Lib.hid (((Ft4_12.out).ext (Ext.drew (.refl w12))).ext hw13)
  have Fb5_13 := Lib.hid (((Fb5_12.out).ext (Ext.drew (.refl w12))).ext hw13)
  have Ft6_13 := Lib.hid (((Ft6_12.out).ext (Ext.drew (.refl w12))).ext hw13)
  have Fb7_13 := Lib.hid (((Fb7_12.out).ext (Ext.drew (.refl w12))).ext hw13)
  have Ft8_13 := Lib.hid (((Ft8_12.out).ext (Ext.drew (.refl w12))).ext hw13)
  have Fb9_13 := Lib.hid (((Fb9_12.out).ext (Ext.drew (.refl w12))).ext hw13)
  have X13 := Lib.hid (Ext.trans (Ext.trans X12.out (.drew (.refl _))) hw13)
  have z13 : w12.heap.size ≤ w13.heap.size := hw13.size
  simp only [Act.put, List.getElem_toArray, List.getElem_cons_zero, List.getElem_cons_succ, List.setIfInBounds_toArray, List.set_cons_zero, List.set_cons_succ]
  refine wpAnyH_call (i := 3) (by kernel_rfl) rfl rfl (run_call_func rfl rfl #[.agg ⟨t6⟩, .agg ⟨t13⟩] (by simp only [List.map_toArray, List.map_cons, List.map_nil, Act.eval]; rfl) Tryz.func26 (by kernel_rfl) (by kernel_rfl) _) (eqBound_all x1 _ _ _ (Ft6_13.out).rep (HO13.out).rep) ?_
  rintro e w14 ⟨rfl, hw14⟩
  have hs14 := Ext.trans hs13 hw14
  refine ⟨_, rfl, hs14, ?_⟩
  have Fp0_14 := Lib.hid ((Fp0_13.out).ext hw14)
  have Fp1_14 := Lib.hid ((Fp1_13.out).ext hw14)
  have Ft3_14 := Lib.hid (Ext.trans Ft3_13.out hw14)
  have Fb3_14 := Lib.hid ((Fb3_13.out).ext hw14)
  have Ft4_14 := Lib.hid ((Ft4_13.out).ext hw14)
  have Fb5_14 := Lib.hid ((Fb5_13.out).ext hw14)
  have Ft6_14 := Lib.hid ((Ft6_13.out).ext hw14)
  have Fb7_14 := Lib.hid ((Fb7_13.out).ext hw14)
  have Ft8_14 := Lib.hid ((Ft8_13.out).ext hw14)
  have Fb9_14 := Lib.hid ((Fb9_13.out).ext hw14)
  have Ft13_14 := Lib.hid ((HO13.out).ext hw14)
  have X14 := Lib.hid (Ext.trans X13.out hw14)
  have z14 : w13.heap.size ≤ w14.heap.size := hw14.size
  simp only [Act.put, List.getElem_toArray, List.getElem_cons_zero, List.getElem_cons_succ, List.setIfInBounds_toArray, List.set_cons_zero, List.set_cons_succ]
  refine wpAnyH_take (i := 4) rfl (by kernel_rfl) (by kernel_rfl) (by kernel_rfl) (fun _ _ _ h => h) (.inl ⟨rfl, fun _ _ => rfl⟩) (by assumption) ?_
  simp only [Act.put, List.getElem_toArray, List.getElem_cons_zero, List.getElem_cons_succ, List.setIfInBounds_toArray, List.set_cons_zero, List.set_cons_succ]
  refine wpAnyH_done (by kernel_rfl) ?_ _
  clear hHeld hs13 hw13 hs14 hw14
  go_wp2_with (first
    | (refine wpList_load_rep rfl 24 (.tmp 2) rfl (w.heap.size) 0 rfl cs0 _ Tryz.underlying24 HI0.out (OB.cells0 (Fp0_14.out)) ?_)
    | (refine wpList_load_rep rfl 41 (.tmp 3) rfl (w.heap.size + 1) 0 rfl cs1 _ Tryz.underlying41 HI1.out (OB.cells0 (Fp1_14.out)) ?_)
    | (refine wpList_load_rep rfl 33 (.tmp 6) rfl (gB3) 0 rfl t3 _ Tryz.underlying33 HJ3.out (OB.cells0 (Fb3_14.out)) ?_)
    | (refine wpList_load_rep rfl 31 (.tmp 8) rfl (w4.heap.size) 0 rfl t4 _ Tryz.underlying31 HJ4.out (OB.cells0 (Fb5_14.out)) ?_)
    | (refine wpList_load_rep rfl 49 (.tmp 9) rfl (w6.heap.size) 0 rfl t6 _ Tryz.underlying49 HJ6.out (OB.cells0 (Fb7_14.out)) ?_)
    | (refine wpList_load_rep rfl 33 (.tmp 10) rfl (w8.heap.size) 0 rfl t8 _ Tryz.underlying33 HJ8.out (OB.cells0 (Fb9_14.out)) ?_))
  go_ret
  exact ⟨rfl, X14.out⟩

set_option linter.unusedVariables false
theorem own : ownKnob Tryz.prog.godebug = none := by kernel_rfl
theorem laidOut : laidOutB Tryz.prog = true := by kernel_rfl

set_option maxRecDepth 100000 in
theorem lifted (os : Os) (started : os.Started) (H : Type) (enc : TypeId × Value → H) :
    ReturnsInHanded {} Tryz.checked os 4 .any (Rows.fnExactSelectInstanceSpec.pre6 enc Tryz.prog Tryz.f4 Rows.fnExactSelectInstanceRow.domain false) (Rows.fnExactSelectInstanceSpec.post enc Tryz.prog Tryz.f4 false true false false) := by
  refine returnsInHanded_of_change (C := Tryz.checked) own started (by kernel_rfl) Tryz.func4
    (ChangeSpec.witness6 (enc := enc) (C := Tryz.checked) false ⟨#[], #[.agg #[.slice none 0 0], .agg #[.string ⟨#[]⟩, .int .i64 0, .string ⟨#[]⟩, .slice none 0 0]], []⟩ 8 (by kernel_rfl) (by kernel_rfl) (by kernel_rfl) (by kernel_rfl)) ?_
  intro W base args ds gs before hval0 hW hcnd _
  have hval : ∀ (j : Nat) t v, Tryz.f4.params[j]? = some t → args[j]? = some v → Value.okWide Tryz.prog W .any base t v := hval0
  have hW' := hW
  obtain ⟨p, q, hA0, hV, rfl, hfz, hnd⟩ := hW
  have hA : DataW.TrodAll enc Tryz.prog W 0 (fun _ => true) true Tryz.f4.params.toList args.toList ds p := hA0
  rw [Tryz.params4] at hA hval
  obtain ⟨v0, vs0, d0, ds0, p0, q0, hargs, rfl, rfl, h0, r0⟩ := trodAll_cons hA
  obtain ⟨v1, vs1, d1, ds1, p1, q1, rfl, rfl, rfl, h1, r1⟩ := trodAll_cons r0
  obtain ⟨rfl, rfl, rfl⟩ := trodAll_nil r1
  obtain rfl : args = #[v0, v1] := by cases args; simp_all
  obtain ⟨rfl, rfl⟩ := trodVars_none hV
  have k0 := h0
  have lt0 : ∀ x ∈ p0, x.block < W.heap.size := by obtain ⟨m, hm⟩ := k0; exact DataW.trod_lt m _ _ _ hm
  obtain ⟨c0, rfl, -⟩ := okWide_struct Tryz.underlying24 (hval 0 24 v0 rfl rfl)
  obtain ⟨fu0, hf0⟩ := h0
  obtain ⟨ts0, ty0, rp0, -⟩ := tyOf_of_trod plainClosed fu0 24 c0.toList _ (by decide) hf0
  obtain ⟨x0, rfl⟩ := tyof_Program ty0
  have k1 := h1
  have lt1 : ∀ x ∈ p1, x.block < W.heap.size := by obtain ⟨m, hm⟩ := k1; exact DataW.trod_lt m _ _ _ hm
  obtain ⟨c1, rfl, -⟩ := okWide_struct Tryz.underlying41 (hval 1 41 v1 rfl rfl)
  obtain ⟨fu1, hf1⟩ := h1
  obtain ⟨ts1, ty1, rp1, -⟩ := tyOf_of_trod plainClosed fu1 41 c1.toList _ (by decide) hf1
  obtain ⟨x1, rfl⟩ := tyof_Bound ty1
  clear hA0 hval0
  refine (law_FnExactSelectInstance W x0 c0.toList rp0 x1 c1.toList rp1).mono fun e W' ⟨he, bel⟩ => ?_
  subst he
  exact ⟨_, rfl, _, _, _, [], _, [], hW', trodAll_mk1 (shut_bool Tryz.underlying4 _), (trodAll_cons_mk (Below.trod laidOut (by kernel_rfl) (of_decide_eq_true (by kernel_rfl)) k0 bel lt0) (trodAll_cons_mk (Below.trod laidOut (by kernel_rfl) (of_decide_eq_true (by kernel_rfl)) k1 bel lt1) trodAll_mk0)), rfl, bel.frame _, fun h => by cases h⟩

theorem over : Rows.fnExactSelectInstanceRow.holds Tryz.pinned (OpenSpec.ofChange Rows.fnExactSelectInstanceSpec) :=
  OpenClaim.holds_of_wide 4 Tryz.f4 rfl rfl rfl rfl rfl rfl rfl ⟨rfl, rfl, rfl, rfl, rfl⟩ rfl rfl rfl rfl rfl fnNamed Tryz.func4 factsJoin (of_decide_eq_true (by kernel_rfl)) wrapper
    (fun os started H enc _ => lifted os started H enc)

theorem proved : Rows.FnExactSelectInstanceSaid := over
#print axioms proved

end Go.Proofs.YtnakkelglbcecaaGreat.fnExactSelectInstanceDone
