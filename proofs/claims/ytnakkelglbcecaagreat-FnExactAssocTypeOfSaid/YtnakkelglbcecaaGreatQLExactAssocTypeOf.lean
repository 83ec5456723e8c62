/- FnExactAssocTypeOf returns true for every input, and leaves what was there as it was. No conditions. -/
import Derived.Test.YtnakkelglbcecaaGreatRows
import Derived.Test.YtnakkelglbcecaaGreatQhf9b1f5bd
import Derived.Test.YtnakkelglbcecaaGreatQhcc049c1e
import Derived.Test.YtnakkelglbcecaaGreatQh103e0d01
import Derived.Test.YtnakkelglbcecaaGreatQh1085a02d
import Derived.ProofKit
import Derived.Deep.DeepCutAuto
import Derived.OpenShut
import Derived.ShutString
import Derived.ChangeOld
import Derived.Test.YtnakkelglbcecaaGreatQJExactAssocTypeOf
import Derived.Test.YtnakkelglbcecaaGreatQh8608bef2
import Derived.Test.YtnakkelglbcecaaGreatQh71482ac5
set_option linter.unusedSimpArgs false
set_option linter.unusedVariables false
namespace Go.Proofs.YtnakkelglbcecaaGreat.fnExactAssocTypeOfDone
open Go.Proofs Go.Proofs.YtnakkelglbcecaaGreat Go.ChangeShapes Go.WideShapes Go.ChangeAt Go.RowKit
open Go.ChangeMaps (open_string shut_string)

theorem obchg {S : Nat → Prop} {w w' : World} {g : Nat} {t : TypeId} {cs : Array Value} (h : OB w g t cs) (hc : Chg S w w') (hn : ¬ S g) : OB w' g t cs := (hc.block g h.lt hn).trans h
set_option maxRecDepth 100000 in
set_option maxHeartbeats 8000000 in
theorem law_FnExactAssocTypeOf (w : World) (x0 : GProgram) (cs0 : List Value) (hr0 : RepL w x0.tr cs0) (x1 : GInstanceRef) (cs1 : List Value) (hr1 : RepL w x1.tr cs1) (x2 : GType) (cs2 : List Value) (hr2 : RepL w x2.tr cs2) :
    Calls Tryz.prog 8 #[.agg ⟨cs0⟩, .agg ⟨cs1⟩, .agg ⟨cs2⟩] w fun e w' => e = .returned (.bool true) ∧ Below w.heap.size w w' := by
  have HL0 : Hid (cs0.length = 1) := by rw [← hr0.length, GProgram.tr_len]; rfl
  have HI0 : Hid ((Tryz.prog.info? 24).map (·.size) = some cs0.length) := by rw [HL0.out]; exact isz24
  have HR0 := Lib.hid hr0
  clear hr0
  have HL1 : Hid (cs1.length = 2) := by rw [← hr1.length, GInstanceRef.tr_len]; rfl
  have HI1 : Hid ((Tryz.prog.info? 26).map (·.size) = some cs1.length) := by rw [HL1.out]; exact isz26
  have HR1 := Lib.hid hr1
  clear hr1
  have HL2 : Hid (cs2.length = 3) := by rw [← hr2.length, GType.tr_len]; rfl
  have HI2 : Hid ((Tryz.prog.info? 39).map (·.size) = some cs2.length) := by rw [HL2.out]; exact isz39
  have HR2 := Lib.hid hr2
  clear hr2
  go_enter Tryz.func8, Tryz.ntmps8
  go_wp2_with (first
    | (refine wpList_load_rep rfl 24 (.tmp 3) rfl (w.heap.size) 0 rfl cs0 _ Tryz.underlying24 HI0.out (OB.cells0 ((Three.new w _ _ _ _ _ _).o0)) ?_)
    | (refine wpList_load_rep rfl 26 (.tmp 4) rfl (w.heap.size + 1) 0 rfl cs1 _ Tryz.underlying26 HI1.out (OB.cells0 ((Three.new w _ _ _ _ _ _).o1)) ?_)
    | (refine wpList_load_rep rfl 39 (.tmp 5) rfl (w.heap.size + 1 + 1) 0 rfl cs2 _ Tryz.underlying39 HI2.out (OB.cells0 ((Three.new w _ _ _ _ _ _).o2)) ?_))
  refine (szProgram_all x0 _ _ _ (HR0.out.ext (Ext.alloc (Ext.alloc (Ext.alloc (Ext.refl _) _) _) _)) (by omega) (by omega)).mono ?_; rintro e w1 ⟨r1, rfl, hw1, ra1, rb1, rc1⟩
  have RC1 := Lib.hid rc1
  clear rc1
  have Fp0_1 := Lib.hid (((Three.new w _ _ _ _ _ _).o0).ext hw1)
  have Fp1_1 := Lib.hid (((Three.new w _ _ _ _ _ _).o1).ext hw1)
  have Fp2_1 := Lib.hid (((Three.new w _ _ _ _ _ _).o2).ext hw1)
  have X1 := Lib.hid (Ext.trans (Ext.alloc (Ext.alloc (Ext.alloc (Ext.refl _) _) _) _) hw1)
  have z1 : w.heap.size + 3 ≤ w1.heap.size := (by have h1 := hw1.size; simp only [World.size_alloc] at h1; omega)
  clear hw1
  go_wp2_with (first
    | (refine wpList_load_rep rfl 24 (.tmp 3) rfl (w.heap.size) 0 rfl cs0 _ Tryz.underlying24 HI0.out (OB.cells0 (Fp0_1.out)) ?_)
    | (refine wpList_load_rep rfl 26 (.tmp 4) rfl (w.heap.size + 1) 0 rfl cs1 _ Tryz.underlying26 HI1.out (OB.cells0 (Fp1_1.out)) ?_)
    | (refine wpList_load_rep rfl 39 (.tmp 5) rfl (w.heap.size + 1 + 1) 0 rfl cs2 _ Tryz.underlying39 HI2.out (OB.cells0 (Fp2_1.out)) ?_))
  · go_ret
    exact ⟨rfl, X1.out⟩
  refine (szType_all x2 _ _ _ (HR2.out.ext X1.out) (by omega) (by omega)).mono ?_; rintro e w2 ⟨r2, rfl, hw2, ra2, rb2, rc2⟩
  have RC2 := Lib.hid rc2
  clear rc2
  have Fp0_2 := Lib.hid ((Fp0_1.out).ext hw2)
  have Fp1_2 := Lib.hid ((Fp1_1.out).ext hw2)
  have Fp2_2 := Lib.hid ((Fp2_1.out).ext hw2)
  have X2 := Lib.hid (Ext.trans X1.out hw2)
  have z2 : w1.heap.size ≤ w2.heap.size := hw2.size
  clear hw2
  go_upto_region 8 with (first
    | (refine wpList_load_rep rfl 24 (.tmp 3) rfl (w.heap.size) 0 rfl cs0 _ Tryz.underlying24 HI0.out (OB.cells0 (Fp0_2.out)) ?_)
    | (refine wpList_load_rep rfl 26 (.tmp 4) rfl (w.heap.size + 1) 0 rfl cs1 _ Tryz.underlying26 HI1.out (OB.cells0 (Fp1_2.out)) ?_)
    | (refine wpList_load_rep rfl 39 (.tmp 5) rfl (w.heap.size + 1 + 1) 0 rfl cs2 _ Tryz.underlying39 HI2.out (OB.cells0 (Fp2_2.out)) ?_))
  · go_ret
    exact ⟨rfl, X2.out⟩
  have hb0 := RC1.out (by omega)
  have hb2 := RC2.out (by omega)
  try simp only [Act.put, List.getElem_toArray, List.getElem_cons_zero, List.getElem_cons_succ, List.setIfInBounds_toArray, List.set_cons_zero, List.set_cons_succ]
  go_cut [8, 9] (fun s8 s9 wx => ∃ (B : Nat) (cs : List Value), s8 = .pointer (some ⟨B, 0, none⟩) ∧ s9 = .bool (x0.assocOf x1 x2).2 ∧ Hid (Ext w2 wx) ∧ w2.heap.size ≤ B ∧ Hid (OB wx B 47 ⟨cs⟩) ∧ Hid (RepL wx (x0.assocOf x1 x2).1.tr cs))
  case first =>
    refine wp_region_held_drew (S := Ext w2) (by kernel_rfl) (.drew (.refl _)) (fun hHeld => ?_)
    refine wpAnyH_load_rep (i := 0) rfl (by kernel_rfl) (by kernel_rfl) (by kernel_rfl) (fun _ _ _ h => h) rfl 24 (.tmp 3) rfl (w.heap.size) 0 rfl cs0 _ Tryz.underlying24 HI0.out (fun w hS => OB.cells0 ((Fp0_2.out).ext hS)) (by assumption) (fun _ _ _ _ h => h) ?_; refine wpAnyH_load_rep (i := 2) rfl (by kernel_rfl) (by kernel_rfl) (by kernel_rfl) (fun _ _ _ h => h) rfl 26 (.tmp 4) rfl (w.heap.size + 1) 0 rfl cs1 _ Tryz.underlying26 HI1.out (fun w hS => OB.cells0 ((Fp1_2.out).ext hS)) (by assumption) (fun _ _ _ _ h => h) ?_; refine wpAnyH_load_rep (i := 4) rfl (by kernel_rfl) (by kernel_rfl) (by kernel_rfl) (fun _ _ _ h => h) rfl 39 (.tmp 5) rfl (w.heap.size + 1 + 1) 0 rfl cs2 _ Tryz.underlying39 HI2.out (fun w hS => OB.cells0 ((Fp2_2.out).ext hS)) (by assumption) (fun _ _ _ _ h => h) ?_
    simp only [Act.put, List.getElem_toArray, List.getElem_cons_zero, List.getElem_cons_succ, List.setIfInBounds_toArray, List.set_cons_zero, List.set_cons_succ]
    have hzd : w2.drew.heap.size = w2.heap.size := rfl
    refine wpAnyH_all (rs := [1, 10]) (by kernel_rfl) (by simp) (fun i hi => ?_)
    rcases (by simpa using hi : i = 1 ∨ i = 10) with rfl | rfl
    · refine wpOp_call rfl rfl (run_call_func rfl rfl #[.agg ⟨cs0⟩] (by simp only [List.map_toArray, List.map_cons, List.map_nil, Act.eval]; rfl) Tryz.func17 (by kernel_rfl) (by kernel_rfl) _) (toProgram_all x0 _ _ (HR0.out.ext (Ext.trans X2.out (.drew (.refl _)))) (by omega)) ?_; rintro e w3 ⟨t3, rfl, hw3, ho3⟩
      have HO3 := Lib.hid ho3
      have HT3 : Hid (t3.length = 1) := (by rw [ho3.1]; exact GProgram.tr_len _)
      have HJ3 : Hid ((Tryz.prog.info? 31).map (·.size) = some t3.length) := (by rw [HT3.out]; exact isz31)
      clear ho3
      have hs3 := Ext.trans hHeld hw3
      refine ⟨_, rfl, hs3, ?_⟩
      have X3 := Lib.hid (Ext.trans (Ext.trans X2.out (.drew (.refl _))) hw3)
      have z3 : w2.heap.size ≤ w3.heap.size := hw3.size
      simp only [Act.put, List.getElem_toArray, List.getElem_cons_zero, List.getElem_cons_succ, List.setIfInBounds_toArray, List.set_cons_zero, List.set_cons_succ]
      refine wpAnyH_all (rs := [3, 10]) (by kernel_rfl) (by simp) (fun i hi => ?_)
      rcases (by simpa using hi : i = 3 ∨ i = 10) with rfl | rfl
      · refine wpOp_call rfl rfl (run_call_func rfl rfl #[.agg ⟨cs1⟩] (by simp only [List.map_toArray, List.map_cons, List.map_nil, Act.eval]; rfl) Tryz.func18 (by kernel_rfl) (by kernel_rfl) _) (toInstanceRef_all x1 _ _ (HR1.out.ext X3.out) (by have hz0 : Tr.bulkL (GInstanceRef.tr x1) = 0 := (by cases x1; rfl); omega)) ?_; rintro e w4 ⟨t4, rfl, hw4, ho4⟩
        have HO4 := Lib.hid ho4
        have HT4 : Hid (t4.length = 2) := (by rw [ho4.1]; exact GInstanceRef.tr_len _)
        have HJ4 : Hid ((Tryz.prog.info? 33).map (·.size) = some t4.length) := (by rw [HT4.out]; exact isz33)
        clear ho4
        have hs4 := Ext.trans hs3 hw4
        refine ⟨_, rfl, hs4, ?_⟩
        have Ft3_4 := Lib.hid ((HO3.out).ext hw4)
        have X4 := Lib.hid (Ext.trans X3.out hw4)
        have z4 : w3.heap.size ≤ w4.heap.size := hw4.size
        simp only [Act.put, List.getElem_toArray, List.getElem_cons_zero, List.getElem_cons_succ, List.setIfInBounds_toArray, List.set_cons_zero, List.set_cons_succ]
        refine wpAnyH_all (rs := [5, 10]) (by kernel_rfl) (by simp) (fun i hi => ?_)
        rcases (by simpa using hi : i = 5 ∨ i = 10) with rfl | rfl
        · refine wpOp_call rfl rfl (run_call_func rfl rfl #[.agg ⟨cs2⟩] (by simp only [List.map_toArray, List.map_cons, List.map_nil, Act.eval]; rfl) Tryz.func45 (by kernel_rfl) (by kernel_rfl) _) (toType_all x2 _ _ (HR2.out.ext X4.out) (by omega)) ?_; rintro e w5 ⟨t5, rfl, hw5, ho5⟩
          have HO5 := Lib.hid ho5
          have HT5 : Hid (t5.length = 3) := (by rw [ho5.1]; exact GType.tr_len _)
          have HJ5 : Hid ((Tryz.prog.info? 47).map (·.size) = some t5.length) := (by rw [HT5.out]; exact isz47)
          clear ho5
          have hs5 := Ext.trans hs4 hw5
          refine ⟨_, rfl, hs5, ?_⟩
          have Ft3_5 := Lib.hid ((Ft3_4.out).ext hw5)
          have Ft4_5 := Lib.hid ((HO4.out).ext hw5)
          have X5 := Lib.hid (Ext.trans X4.out hw5)
          have z5 : w4.heap.size ≤ w5.heap.size := hw5.size
          simp only [Act.put, List.getElem_toArray, List.getElem_cons_zero, List.getElem_cons_succ, List.setIfInBounds_toArray, List.set_cons_zero, List.set_cons_succ]
          refine wpAnyH_all (rs := [6, 10]) (by kernel_rfl) (by simp) (fun i hi => ?_)
          rcases (by simpa using hi : i = 6 ∨ i = 10) with rfl | rfl
          · refine wpOp_call rfl rfl (run_call_func rfl rfl #[.agg ⟨t3⟩, .agg ⟨t4⟩, .agg ⟨t5⟩] (by simp only [List.map_toArray, List.map_cons, List.map_nil, Act.eval]; rfl) Tryz.func44 (by kernel_rfl) (by kernel_rfl) _) (assocP_spec x0 x1 x2 _ _ _ _ ((Ft3_5.out).rep) ((Ft4_5.out).rep) ((HO5.out).rep) (by have := x0.inst_head_bulk x1; omega) (by have := x0.inst_assoc_bulk x1; omega) (by omega)) ?_; rintro e w6 ⟨t6, rfl, hw6, ho6⟩
            have HO6 := Lib.hid ho6
            have HT6 : Hid (t6.length = 3) := (by rw [← ho6.length]; exact GType.tr_len _)
            have HJ6 : Hid ((Tryz.prog.info? 47).map (·.size) = some t6.length) := (by rw [HT6.out]; exact isz47)
            clear ho6
            have hs6 := Ext.trans hs5 hw6
            refine ⟨_, rfl, hs6, ?_⟩
            have Ft3_6 := Lib.hid ((Ft3_5.out).ext hw6)
            have Ft4_6 := Lib.hid ((Ft4_5.out).ext hw6)
            have Ft5_6 := Lib.hid ((HO5.out).ext hw6)
            have X6 := Lib.hid (Ext.trans X5.out hw6)
            have z6 : w5.heap.size ≤ w6.heap.size := hw6.size
            simp only [Act.put, List.getElem_toArray, List.getElem_cons_zero, List.getElem_cons_succ, List.setIfInBounds_toArray, List.set_cons_zero, List.set_cons_succ]
            refine wpAnyH_take (i := 7) rfl (by kernel_rfl) (by kernel_rfl) (by kernel_rfl) (fun _ _ _ h => h) (.inl ⟨rfl, fun _ _ => rfl⟩) (by assumption) ?_; refine wpAnyH_take (i := 8) rfl (by kernel_rfl) (by kernel_rfl) (by kernel_rfl) (fun _ _ _ h => h) (.inl ⟨rfl, fun _ _ => rfl⟩) (by assumption) ?_; refine wpAnyH_take (i := 9) rfl (by kernel_rfl) (by kernel_rfl) (by kernel_rfl) (fun _ _ _ h => h) (.inl ⟨rfl, fun _ _ => rfl⟩) (by assumption) ?_
            simp only [Act.put, List.getElem_toArray, List.getElem_cons_zero, List.getElem_cons_succ, List.setIfInBounds_toArray, List.set_cons_zero, List.set_cons_succ]
            have hs7n := Ext.trans hs6 (Ext.alloc (.refl w6) (.cells #[.int .i64 0, .string ⟨#[]⟩, .slice none 0 0] 47))
            refine wpAnyH_run (i := 10) (v := .pointer (some ⟨w6.heap.size, 0, none⟩)) (w' := w6.alloc (.cells #[.int .i64 0, .string ⟨#[]⟩, .slice none 0 0] 47)) (by kernel_rfl) rfl rfl (by simp [execOp, go_sem]) hs7n ?_
            simp only [Act.put, List.getElem_toArray, List.getElem_cons_zero, List.getElem_cons_succ, List.setIfInBounds_toArray, List.set_cons_zero, List.set_cons_succ]
            have hoba := OB.new w6 47 #[.int .i64 0, .string ⟨#[]⟩, .slice none 0 0]
            have hw7 := Ext.alloc (.refl w6) (.cells #[.int .i64 0, .string ⟨#[]⟩, .slice none 0 0] 47)
            have hga := (hs6).size
            obtain ⟨w7, hN⟩ : ∃ x, w6.alloc (.cells #[.int .i64 0, .string ⟨#[]⟩, .slice none 0 0] 47) = x := ⟨_, rfl⟩
            rw [hN] at hoba hw7 hs7n ⊢
            clear hN
            obtain ⟨gA, hgA⟩ : ∃ x, w6.heap.size = x := ⟨_, rfl⟩
            rw [hgA] at hoba hga ⊢
            have hla := hoba.lt
            have Ft6_7 := Lib.hid (Ext.trans (Ext.refl _) hw7)
            have X7 := Lib.hid (Ext.trans X6.out hw7)
            have z7 : w6.heap.size ≤ w7.heap.size := hw7.size
            refine wpAnyH_store_rep (i := 11) (by kernel_rfl) rfl rfl 47 (.tmp 8) (.tmp 37) rfl gA 0 rfl t6 rfl 47 #[.int .i64 0, .string ⟨#[]⟩, .slice none 0 0] (hoba) HJ6.out (by rw [HT6.out]; exact Nat.le_refl _) HO6.out.one ?_; intro w8 hob hgb hzb
            rw [splice_whole (by rw [HT6.out]; rfl)] at hob
            have hs8n := grown_ext hs7n hgb (by omega)
            refine ⟨hs8n, ?_⟩
            simp only [Act.put, List.getElem_toArray, List.getElem_cons_zero, List.getElem_cons_succ, List.setIfInBounds_toArray, List.set_cons_zero, List.set_cons_succ]
            have hor := RepLX.grown (g := gA) (RepLX.ext (RepL.repX HO6.out (by omega)) (Ft6_7.out)) hgb
            refine wpAnyH_take (i := 12) rfl (by kernel_rfl) (by kernel_rfl) (by kernel_rfl) (fun _ _ _ h => h) (.inl ⟨rfl, fun _ _ => rfl⟩) (by assumption) ?_
            simp only [Act.put, List.getElem_toArray, List.getElem_cons_zero, List.getElem_cons_succ, List.setIfInBounds_toArray, List.set_cons_zero, List.set_cons_succ]
            refine wpAnyH_done (by kernel_rfl) ?_ _
            have HSF := Lib.hid hs8n
            have HOBF := Lib.hid hob
            have HORF := Lib.hid hor.rep
            have hgf : w2.heap.size ≤ gA := by omega
            have hzf : w7.heap.size ≤ w8.heap.size := hgb.size
            clear hob hor hgb hzb hHeld hs3 hw3 hs4 hw4 hs5 hw5 hs6 hw6
            go_wp2_with fail
            go_meet
            exact ⟨gA, t6, rfl, rfl, HSF.out, hgf, HOBF.out, HORF.out⟩
          · have hs6n := Ext.trans hs5 (Ext.alloc (.refl w5) (.cells #[.int .i64 0, .string ⟨#[]⟩, .slice none 0 0] 47))
            refine wpOp_run (v := .pointer (some ⟨w5.heap.size, 0, none⟩)) (w' := w5.alloc (.cells #[.int .i64 0, .string ⟨#[]⟩, .slice none 0 0] 47)) rfl rfl (by simp [execOp, go_sem]) ⟨hs6n, ?_⟩
            simp only [Act.put, List.getElem_toArray, List.getElem_cons_zero, List.getElem_cons_succ, List.setIfInBounds_toArray, List.set_cons_zero, List.set_cons_succ]
            have hoba := OB.new w5 47 #[.int .i64 0, .string ⟨#[]⟩, .slice none 0 0]
            have hw6 := Ext.alloc (.refl w5) (.cells #[.int .i64 0, .string ⟨#[]⟩, .slice none 0 0] 47)
            have hga := (hs5).size
            obtain ⟨w6, hN⟩ : ∃ x, w5.alloc (.cells #[.int .i64 0, .string ⟨#[]⟩, .slice none 0 0] 47) = x := ⟨_, rfl⟩
            rw [hN] at hoba hw6 hs6n ⊢
            clear hN
            obtain ⟨gA, hgA⟩ : ∃ x, w5.heap.size = x := ⟨_, rfl⟩
            rw [hgA] at hoba hga ⊢
            have hla := hoba.lt
            have Ft3_6 := Lib.hid ((Ft3_5.out).ext hw6)
            have Ft4_6 := Lib.hid ((Ft4_5.out).ext hw6)
            have Ft5_6 := Lib.hid ((HO5.out).ext hw6)
            have X6 := Lib.hid (Ext.trans X5.out hw6)
            have z6 : w5.heap.size ≤ w6.heap.size := hw6.size
            refine wpAnyH_call (i := 6) (by kernel_rfl) rfl rfl (run_call_func rfl rfl #[.agg ⟨t3⟩, .agg ⟨t4⟩, .agg ⟨t5⟩] (by simp only [List.map_toArray, List.map_cons, List.map_nil, Act.eval]; rfl) Tryz.func44 (by kernel_rfl) (by kernel_rfl) _) (assocPX_spec gA x0 x1 x2 _ _ _ _ (by omega) (OwnL.repX (Ft3_6.out) (fun h => by have h1 := h.1; have h2 := h.2; omega)) (OwnL.repX (Ft4_6.out) (fun h => by have h1 := h.1; have h2 := h.2; omega)) (OwnL.repX (Ft5_6.out) (fun h => by have h1 := h.1; have h2 := h.2; omega)) (by have := x0.inst_head_bulk x1; omega) (by have := x0.inst_assoc_bulk x1; omega) (by omega)) ?_; rintro e w7 ⟨t7, rfl, hw7, ho7⟩
            have HO7 := Lib.hid ho7
            have HT7 : Hid (t7.length = 3) := (by rw [← ho7.rep.length]; exact GType.tr_len _)
            have HJ7 : Hid ((Tryz.prog.info? 47).map (·.size) = some t7.length) := (by rw [HT7.out]; exact isz47)
            clear ho7
            have hs7 := Ext.trans hs6n hw7
            refine ⟨_, rfl, hs7, ?_⟩
            have Ft3_7 := Lib.hid ((Ft3_6.out).ext hw7)
            have Ft4_7 := Lib.hid ((Ft4_6.out).ext hw7)
            have Ft5_7 := Lib.hid ((Ft5_6.out).ext hw7)
            have Fga_7 := Lib.hid ((hoba).ext hw7)
            have X7 := Lib.hid (Ext.trans X6.out hw7)
            have z7 : w6.heap.size ≤ w7.heap.size := hw7.size
            simp only [Act.put, List.getElem_toArray, List.getElem_cons_zero, List.getElem_cons_succ, List.setIfInBounds_toArray, List.set_cons_zero, List.set_cons_succ]
            refine wpAnyH_take (i := 7) rfl (by kernel_rfl) (by kernel_rfl) (by kernel_rfl) (fun _ _ _ h => h) (.inl ⟨rfl, fun _ _ => rfl⟩) (by assumption) ?_; refine wpAnyH_take (i := 8) rfl (by kernel_rfl) (by kernel_rfl) (by kernel_rfl) (fun _ _ _ h => h) (.inl ⟨rfl, fun _ _ => rfl⟩) (by assumption) ?_; refine wpAnyH_take (i := 9) rfl (by kernel_rfl) (by kernel_rfl) (by kernel_rfl) (fun _ _ _ h => h) (.inl ⟨rfl, fun _ _ => rfl⟩) (by assumption) ?_
            simp only [Act.put, List.getElem_toArray, List.getElem_cons_zero, List.getElem_cons_succ, List.setIfInBounds_toArray, List.set_cons_zero, List.set_cons_succ]
            refine wpAnyH_store_rep (i := 11) (by kernel_rfl) rfl rfl 47 (.tmp 8) (.tmp 37) rfl gA 0 rfl t7 rfl 47 #[.int .i64 0, .string ⟨#[]⟩, .slice none 0 0] (Fga_7.out) HJ7.out (by rw [HT7.out]; exact Nat.le_refl _) HO7.out.rep.one ?_; intro w8 hob hgb hzb
            rw [splice_whole (by rw [HT7.out]; rfl)] at hob
            have hs8n := grown_ext hs7 hgb (by omega)
            refine ⟨hs8n, ?_⟩
            simp only [Act.put, List.getElem_toArray, List.getElem_cons_zero, List.getElem_cons_succ, List.setIfInBounds_toArray, List.set_cons_zero, List.set_cons_succ]
            have hor := RepLX.grown (g := gA) (RepLX.ext (HO7.out) ((Ext.refl _))) hgb
            refine wpAnyH_take (i := 12) rfl (by kernel_rfl) (by kernel_rfl) (by kernel_rfl) (fun _ _ _ h => h) (.inl ⟨rfl, fun _ _ => rfl⟩) (by assumption) ?_
            simp only [Act.put, List.getElem_toArray, List.getElem_cons_zero, List.getElem_cons_succ, List.setIfInBounds_toArray, List.set_cons_zero, List.set_cons_succ]
            refine wpAnyH_done (by kernel_rfl) ?_ _
            have HSF := Lib.hid hs8n
            have HOBF := Lib.hid hob
            have HORF := Lib.hid hor.rep
            have hgf : w2.heap.size ≤ gA := by omega
            have hzf : w7.heap.size ≤ w8.heap.size := hgb.size
            clear hob hor hgb hzb hHeld hs3 hw3 hs4 hw4 hs5 hw5 hs7 hw7
            go_wp2_with fail
            go_meet
            exact ⟨gA, t7, rfl, rfl, HSF.out, hgf, HOBF.out, HORF.out⟩
        · have hs5n := Ext.trans hs4 (Ext.alloc (.refl w4) (.cells #[.int .i64 0, .string ⟨#[]⟩, .slice none 0 0] 47))
          refine wpOp_run (v := .pointer (some ⟨w4.heap.size, 0, none⟩)) (w' := w4.alloc (.cells #[.int .i64 0, .string ⟨#[]⟩, .slice none 0 0] 47)) rfl rfl (by simp [execOp, go_sem]) ⟨hs5n, ?_⟩
          simp only [Act.put, List.getElem_toArray, List.getElem_cons_zero, List.getElem_cons_succ, List.setIfInBounds_toArray, List.set_cons_zero, List.set_cons_succ]
          have hoba := OB.new w4 47 #[.int .i64 0, .string ⟨#[]⟩, .slice none 0 0]
          have hw5 := Ext.alloc (.refl w4) (.cells #[.int .i64 0, .string ⟨#[]⟩, .slice none 0 0] 47)
          have hga := (hs4).size
          obtain ⟨w5, hN⟩ : ∃ x, w4.alloc (.cells #[.int .i64 0, .string ⟨#[]⟩, .slice none 0 0] 47) = x := ⟨_, rfl⟩
          rw [hN] at hoba hw5 hs5n ⊢
          clear hN
          obtain ⟨gA, hgA⟩ : ∃ x, w4.heap.size = x := ⟨_, rfl⟩
          rw [hgA] at hoba hga ⊢
          have hla := hoba.lt
          have Ft3_5 := Lib.hid ((Ft3_4.out).ext hw5)
          have Ft4_5 := Lib.hid ((HO4.out).ext hw5)
          have X5 := Lib.hid (Ext.trans X4.out hw5)
          have z5 : w4.heap.size ≤ w5.heap.size := hw5.size
          refine wpAnyH_call (i := 5) (by kernel_rfl) rfl rfl (run_call_func rfl rfl #[.agg ⟨cs2⟩] (by simp only [List.map_toArray, List.map_cons, List.map_nil, Act.eval]; rfl) Tryz.func45 (by kernel_rfl) (by kernel_rfl) _) (toType_all x2 _ _ (HR2.out.ext X5.out) (by omega)) ?_; rintro e w6 ⟨t6, rfl, hw6, ho6⟩
          have HO6 := Lib.hid ho6
          have HT6 : Hid (t6.length = 3) := (by rw [ho6.1]; exact GType.tr_len _)
          have HJ6 : Hid ((Tryz.prog.info? 47).map (·.size) = some t6.length) := (by rw [HT6.out]; exact isz47)
          clear ho6
          have hs6 := Ext.trans hs5n hw6
          refine ⟨_, rfl, hs6, ?_⟩
          have Ft3_6 := Lib.hid ((Ft3_5.out).ext hw6)
          have Ft4_6 := Lib.hid ((Ft4_5.out).ext hw6)
          have Fga_6 := Lib.hid ((hoba).ext hw6)
          have X6 := Lib.hid (Ext.trans X5.out hw6)
          have z6 : w5.heap.size ≤ w6.heap.size := hw6.size
          simp only [Act.put, List.getElem_toArray, List.getElem_cons_zero, List.getElem_cons_succ, List.setIfInBounds_toArray, List.set_cons_zero, List.set_cons_succ]
          refine wpAnyH_call (i := 6) (by kernel_rfl) rfl rfl (run_call_func rfl rfl #[.agg ⟨t3⟩, .agg ⟨t4⟩, .agg ⟨t6⟩] (by simp only [List.map_toArray, List.map_cons, List.map_nil, Act.eval]; rfl) Tryz.func44 (by kernel_rfl) (by kernel_rfl) _) (assocPX_spec gA x0 x1 x2 _ _ _ _ (by omega) (OwnL.repX (Ft3_6.out) (fun h => by have h1 := h.1; have h2 := h.2; omega)) (OwnL.repX (Ft4_6.out) (fun h => by have h1 := h.1; have h2 := h.2; omega)) (OwnL.repX (HO6.out) (fun h => by have h1 := h.1; have h2 := h.2; omega)) (by have := x0.inst_head_bulk x1; omega) (by have := x0.inst_assoc_bulk x1; omega) (by omega)) ?_; rintro e w7 ⟨t7, rfl, hw7, ho7⟩
          have HO7 := Lib.hid ho7
          have HT7 : Hid (t7.length = 3) := (by rw [← ho7.rep.length]; exact GType.tr_len _)
          have HJ7 : Hid ((Tryz.prog.info? 47).map (·.size) = some t7.length) := (by rw [HT7.out]; exact isz47)
          clear ho7
          have hs7 := Ext.trans hs6 hw7
          refine ⟨_, rfl, hs7, ?_⟩
          have Ft3_7 := Lib.hid ((Ft3_6.out).ext hw7)
          have Ft4_7 := Lib.hid ((Ft4_6.out).ext hw7)
          have Fga_7 := Lib.hid ((Fga_6.out).ext hw7)
          have Ft6_7 := Lib.hid ((HO6.out).ext hw7)
          have X7 := Lib.hid (Ext.trans X6.out hw7)
          have z7 : w6.heap.size ≤ w7.heap.size := hw7.size
          simp only [Act.put, List.getElem_toArray, List.getElem_cons_zero, List.getElem_cons_succ, List.setIfInBounds_toArray, List.set_cons_zero, List.set_cons_succ]
          refine wpAnyH_take (i := 7) rfl (by kernel_rfl) (by kernel_rfl) (by kernel_rfl) (fun _ _ _ h => h) (.inl ⟨rfl, fun _ _ => rfl⟩) (by assumption) ?_; refine wpAnyH_take (i := 8) rfl (by kernel_rfl) (by kernel_rfl) (by kernel_rfl) (fun _ _ _ h => h) (.inl ⟨rfl, fun _ _ => rfl⟩) (by assumption) ?_; refine wpAnyH_take (i := 9) rfl (by kernel_rfl) (by kernel_rfl) (by kernel_rfl) (fun _ _ _ h => h) (.inl ⟨rfl, fun _ _ => rfl⟩) (by assumption) ?_
          simp only [Act.put, List.getElem_toArray, List.getElem_cons_zero, List.getElem_cons_succ, List.setIfInBounds_toArray, List.set_cons_zero, List.set_cons_succ]
          refine wpAnyH_store_rep (i := 11) (by kernel_rfl) rfl rfl 47 (.tmp 8) (.tmp 37) rfl gA 0 rfl t7 rfl 47 #[.int .i64 0, .string ⟨#[]⟩, .slice none 0 0] (Fga_7.out) HJ7.out (by rw [HT7.out]; exact Nat.le_refl _) HO7.out.rep.one ?_; intro w8 hob hgb hzb
          rw [splice_whole (by rw [HT7.out]; rfl)] at hob
          have hs8n := grown_ext hs7 hgb (by omega)
          refine ⟨hs8n, ?_⟩
          simp only [Act.put, List.getElem_toArray, List.getElem_cons_zero, List.getElem_cons_succ, List.setIfInBounds_toArray, List.set_cons_zero, List.set_cons_succ]
          have hor := RepLX.grown (g := gA) (RepLX.ext (HO7.out) ((Ext.refl _))) hgb
          refine wpAnyH_take (i := 12) rfl (by kernel_rfl) (by kernel_rfl) (by kernel_rfl) (fun _ _ _ h => h) (.inl ⟨rfl, fun _ _ => rfl⟩) (by assumption) ?_
          simp only [Act.put, List.getElem_toArray, List.getElem_cons_zero, List.getElem_cons_succ, List.setIfInBounds_toArray, List.set_cons_zero, List.set_cons_succ]
          refine wpAnyH_done (by kernel_rfl) ?_ _
          have HSF := Lib.hid hs8n
          have HOBF := Lib.hid hob
          have HORF := Lib.hid hor.rep
          have hgf : w2.heap.size ≤ gA := by omega
          have hzf : w7.heap.size ≤ w8.heap.size := hgb.size
          clear hob hor hgb hzb hHeld hs3 hw3 hs4 hw4 hs6 hw6 hs7 hw7
          go_wp2_with fail
          go_meet
          exact ⟨gA, t7, rfl, rfl, HSF.out, hgf, HOBF.out, HORF.out⟩
      · have hs4n := Ext.trans hs3 (Ext.alloc (.refl w3) (.cells #[.int .i64 0, .string ⟨#[]⟩, .slice none 0 0] 47))
        refine wpOp_run (v := .pointer (some ⟨w3.heap.size, 0, none⟩)) (w' := w3.alloc (.cells #[.int .i64 0, .string ⟨#[]⟩, .slice none 0 0] 47)) rfl rfl (by simp [execOp, go_sem]) ⟨hs4n, ?_⟩
        simp only [Act.put, List.getElem_toArray, List.getElem_cons_zero, List.getElem_cons_succ, List.setIfInBounds_toArray, List.set_cons_zero, List.set_cons_succ]
        have hoba := OB.new w3 47 #[.int .i64 0, .string ⟨#[]⟩, .slice none 0 0]
        have hw4 := Ext.alloc (.refl w3) (.cells #[.int .i64 0, .string ⟨#[]⟩, .slice none 0 0] 47)
        have hga := (hs3).size
        obtain ⟨w4, hN⟩ : ∃ x, w3.alloc (.cells #[.int .i64 0, .string ⟨#[]⟩, .slice none 0 0] 47) = x := ⟨_, rfl⟩
        rw [hN] at hoba hw4 hs4n ⊢
        clear hN
        obtain ⟨gA, hgA⟩ : ∃ x, w3.heap.size = x := ⟨_, rfl⟩
        rw [hgA] at hoba hga ⊢
        have hla := hoba.lt
        have Ft3_4 := Lib.hid ((HO3.out).ext hw4)
        have X4 := Lib.hid (Ext.trans X3.out hw4)
        have z4 : w3.heap.size ≤ w4.heap.size := hw4.size
        refine wpAnyH_call (i := 3) (by kernel_rfl) rfl rfl (run_call_func rfl rfl #[.agg ⟨cs1⟩] (by simp only [List.map_toArray, List.map_cons, List.map_nil, Act.eval]; rfl) Tryz.func18 (by kernel_rfl) (by kernel_rfl) _) (toInstanceRef_all x1 _ _ (HR1.out.ext X4.out) (by have hz0 : Tr.bulkL (GInstanceRef.tr x1) = 0 := (by cases x1; rfl); omega)) ?_; rintro e w5 ⟨t5, rfl, hw5, ho5⟩
        have HO5 := Lib.hid ho5
        have HT5 : Hid (t5.length = 2) := (by rw [ho5.1]; exact GInstanceRef.tr_len _)
        have HJ5 : Hid ((Tryz.prog.info? 33).map (·.size) = some t5.length) := (by rw [HT5.out]; exact isz33)
        clear ho5
        have hs5 := Ext.trans hs4n hw5
        refine ⟨_, rfl, hs5, ?_⟩
        have Ft3_5 := Lib.hid ((Ft3_4.out).ext hw5)
        have Fga_5 := Lib.hid ((hoba).ext hw5)
        have X5 := Lib.hid (Ext.trans X4.out hw5)
        have z5 : w4.heap.size ≤ w5.heap.size := hw5.size
        simp only [Act.put, List.getElem_toArray, List.getElem_cons_zero, List.getElem_cons_succ, List.setIfInBounds_toArray, List.set_cons_zero, List.set_cons_succ]
        refine wpAnyH_call (i := 5) (by kernel_rfl) rfl rfl (run_call_func rfl rfl #[.agg ⟨cs2⟩] (by simp only [List.map_toArray, List.map_cons, List.map_nil, Act.eval]; rfl) Tryz.func45 (by kernel_rfl) (by kernel_rfl) _) (toType_all x2 _ _ (HR2.out.ext X5.out) (by omega)) ?_; rintro e w6 ⟨t6, rfl, hw6, ho6⟩
        have HO6 := Lib.hid ho6
        have HT6 : Hid (t6.length = 3) := (by rw [ho6.1]; exact GType.tr_len _)
        have HJ6 : Hid ((Tryz.prog.info? 47).map (·.size) = some t6.length) := (by rw [HT6.out]; exact isz47)
        clear ho6
        have hs6 := Ext.trans hs5 hw6
        refine ⟨_, rfl, hs6, ?_⟩
        have Ft3_6 := Lib.hid ((Ft3_5.out).ext hw6)
        have Fga_6 := Lib.hid ((Fga_5.out).ext hw6)
        have Ft5_6 := Lib.hid ((HO5.out).ext hw6)
        have X6 := Lib.hid (Ext.trans X5.out hw6)
        have z6 : w5.heap.size ≤ w6.heap.size := hw6.size
        simp only [Act.put, List.getElem_toArray, List.getElem_cons_zero, List.getElem_cons_succ, List.setIfInBounds_toArray, List.set_cons_zero, List.set_cons_succ]
        refine wpAnyH_call (i := 6) (by kernel_rfl) rfl rfl (run_call_func rfl rfl #[.agg ⟨t3⟩, .agg ⟨t5⟩, .agg ⟨t6⟩] (by simp only [List.map_toArray, List.map_cons, List.map_nil, Act.eval]; rfl) Tryz.func44 (by kernel_rfl) (by kernel_rfl) _) (assocPX_spec gA x0 x1 x2 _ _ _ _ (by omega) (OwnL.repX (Ft3_6.out) (fun h => by have h1 := h.1; have h2 := h.2; omega)) (OwnL.repX (Ft5_6.out) (fun h => by have h1 := h.1; have h2 := h.2; omega)) (OwnL.repX (HO6.out) (fun h => by have h1 := h.1; have h2 := h.2; omega)) (by have := x0.inst_head_bulk x1; omega) (by have := x0.inst_assoc_bulk x1; omega) (by omega)) ?_; rintro e w7 ⟨t7, rfl, hw7, ho7⟩
        have HO7 := Lib.hid ho7
        have HT7 : Hid (t7.length = 3) := (by rw [← ho7.rep.length]; exact GType.tr_len _)
        have HJ7 : Hid ((Tryz.prog.info? 47).map (·.size) = some t7.length) := (by rw [HT7.out]; exact isz47)
        clear ho7
        have hs7 := Ext.trans hs6 hw7
        refine ⟨_, rfl, hs7, ?_⟩
        have Ft3_7 := Lib.hid ((Ft3_6.out).ext hw7)
        have Fga_7 := Lib.hid ((Fga_6.out).ext hw7)
        have Ft5_7 := Lib.hid ((Ft5_6.out).ext hw7)
        have Ft6_7 := Lib.hid ((HO6.out).ext hw7)
        have X7 := Lib.hid (Ext.trans X6.out hw7)
        have z7 : w6.heap.size ≤ w7.heap.size := hw7.size
        simp only [Act.put, List.getElem_toArray, List.getElem_cons_zero, List.getElem_cons_succ, List.setIfInBounds_toArray, List.set_cons_zero, List.set_cons_succ]
        refine wpAnyH_take (i := 7) rfl (by kernel_rfl) (by kernel_rfl) (by kernel_rfl) (fun _ _ _ h => h) (.inl ⟨rfl, fun _ _ => rfl⟩) (by assumption) ?_; refine wpAnyH_take (i := 8) rfl (by kernel_rfl) (by kernel_rfl) (by kernel_rfl) (fun _ _ _ h => h) (.inl ⟨rfl, fun _ _ => rfl⟩) (by assumption) ?_; refine wpAnyH_take (i := 9) rfl (by kernel_rfl) (by kernel_rfl) (by kernel_rfl) (fun _ _ _ h => h) (.inl ⟨rfl, fun _ _ => rfl⟩) (by assumption) ?_
        simp only [Act.put, List.getElem_toArray, List.getElem_cons_zero, List.getElem_cons_succ, List.setIfInBounds_toArray, List.set_cons_zero, List.set_cons_succ]
        refine wpAnyH_store_rep (i := 11) (by kernel_rfl) rfl rfl 47 (.tmp 8) (.tmp 37) rfl gA 0 rfl t7 rfl 47 #[.int .i64 0, .string ⟨#[]⟩, .slice none 0 0] (Fga_7.out) HJ7.out (by rw [HT7.out]; exact Nat.le_refl _) HO7.out.rep.one ?_; intro w8 hob hgb hzb
        rw [splice_whole (by rw [HT7.out]; rfl)] at hob
        have hs8n := grown_ext hs7 hgb (by omega)
        refine ⟨hs8n, ?_⟩
        simp only [Act.put, List.getElem_toArray, List.getElem_cons_zero, List.getElem_cons_succ, List.setIfInBounds_toArray, List.set_cons_zero, List.set_cons_succ]
        have hor := RepLX.grown (g := gA) (RepLX.ext (HO7.out) ((Ext.refl _))) hgb
        refine wpAnyH_take (i := 12) rfl (by kernel_rfl) (by kernel_rfl) (by kernel_rfl) (fun _ _ _ h => h) (.inl ⟨rfl, fun _ _ => rfl⟩) (by assumption) ?_
        simp only [Act.put, List.getElem_toArray, List.getElem_cons_zero, List.getElem_cons_succ, List.setIfInBounds_toArray, List.set_cons_zero, List.set_cons_succ]
        refine wpAnyH_done (by kernel_rfl) ?_ _
        have HSF := Lib.hid hs8n
        have HOBF := Lib.hid hob
        have HORF := Lib.hid hor.rep
        have hgf : w2.heap.size ≤ gA := by omega
        have hzf : w7.heap.size ≤ w8.heap.size := hgb.size
        clear hob hor hgb hzb hHeld hs3 hw3 hs5 hw5 hs6 hw6 hs7 hw7
        go_wp2_with fail
        go_meet
        exact ⟨gA, t7, rfl, rfl, HSF.out, hgf, HOBF.out, HORF.out⟩
    · have hs3n := Ext.trans hHeld (Ext.alloc (.refl w2.drew) (.cells #[.int .i64 0, .string ⟨#[]⟩, .slice none 0 0] 47))
      refine wpOp_run (v := .pointer (some ⟨w2.drew.heap.size, 0, none⟩)) (w' := w2.drew.alloc (.cells #[.int .i64 0, .string ⟨#[]⟩, .slice none 0 0] 47)) rfl rfl (by simp [execOp, go_sem]) ⟨hs3n, ?_⟩
      simp only [Act.put, List.getElem_toArray, List.getElem_cons_zero, List.getElem_cons_succ, List.setIfInBounds_toArray, List.set_cons_zero, List.set_cons_succ]
      have hoba := OB.new w2.drew 47 #[.int .i64 0, .string ⟨#[]⟩, .slice none 0 0]
      have hw3 := Ext.alloc (.refl w2.drew) (.cells #[.int .i64 0, .string ⟨#[]⟩, .slice none 0 0] 47)
      have hga := (hHeld).size
      obtain ⟨w3, hN⟩ : ∃ x, w2.drew.alloc (.cells #[.int .i64 0, .string ⟨#[]⟩, .slice none 0 0] 47) = x := ⟨_, rfl⟩
      rw [hN] at hoba hw3 hs3n ⊢
      clear hN
      obtain ⟨gA, hgA⟩ : ∃ x, w2.drew.heap.size = x := ⟨_, rfl⟩
      rw [hgA] at hoba hga ⊢
      have hla := hoba.lt
      have X3 := Lib.hid (Ext.trans (Ext.trans X2.out (.drew (.refl _))) hw3)
      have z3 : w2.heap.size ≤ w3.heap.size := hw3.size
      refine wpAnyH_call (i := 1) (by kernel_rfl) rfl rfl (run_call_func rfl rfl #[.agg ⟨cs0⟩] (by simp only [List.map_toArray, List.map_cons, List.map_nil, Act.eval]; rfl) Tryz.func17 (by kernel_rfl) (by kernel_rfl) _) (toProgram_all x0 _ _ (HR0.out.ext X3.out) (by omega)) ?_; rintro e w4 ⟨t4, rfl, hw4, ho4⟩
      have HO4 := Lib.hid ho4
      have HT4 : Hid (t4.length = 1) := (by rw [ho4.1]; exact GProgram.tr_len _)
      have HJ4 : Hid ((Tryz.prog.info? 31).map (·.size) = some t4.length) := (by rw [HT4.out]; exact isz31)
      clear ho4
      have hs4 := Ext.trans hs3n hw4
      refine ⟨_, rfl, hs4, ?_⟩
      have Fga_4 := Lib.hid ((hoba).ext hw4)
      have X4 := Lib.hid (Ext.trans X3.out hw4)
      have z4 : w3.heap.size ≤ w4.heap.size := hw4.size
      simp only [Act.put, List.getElem_toArray, List.getElem_cons_zero, List.getElem_cons_succ, List.setIfInBounds_toArray, List.set_cons_zero, List.set_cons_succ]
      refine wpAnyH_call (i := 3) (by kernel_rfl) rfl rfl (run_call_func rfl rfl #[.agg ⟨cs1⟩] (by simp only [List.map_toArray, List.map_cons, List.map_nil, Act.eval]; rfl) Tryz.func18 (by kernel_rfl) (by kernel_rfl) _) (toInstanceRef_all x1 _ _ (HR1.out.ext X4.out) (by have hz0 : Tr.bulkL (GInstanceRef.tr x1) = 0 := (by cases x1; rfl); omega)) ?_; rintro e w5 ⟨t5, rfl, hw5, ho5⟩
      have HO5 := Lib.hid ho5
      have HT5 : Hid (t5.length = 2) := (by rw [ho5.1]; exact GInstanceRef.tr_len _)
      have HJ5 : Hid ((Tryz.prog.info? 33).map (·.size) = some t5.length) := (by rw [HT5.out]; exact isz33)
      clear ho5
      have hs5 := Ext.trans hs4 hw5
      refine ⟨_, rfl, hs5, ?_⟩
      have Fga_5 := Lib.hid ((Fga_4.out).ext hw5)
      have Ft4_5 := Lib.hid ((HO4.out).ext hw5)
      have X5 := Lib.hid (Ext.trans X4.out hw5)
      have z5 : w4.heap.size ≤ w5.heap.size := hw5.size
      simp only [Act.put, List.getElem_toArray, List.getElem_cons_zero, List.getElem_cons_succ, List.setIfInBounds_toArray, List.set_cons_zero, List.set_cons_succ]
      refine wpAnyH_call (i := 5) (by kernel_rfl) rfl rfl (run_call_func rfl rfl #[.agg ⟨cs2⟩] (by simp only [List.map_toArray, List.map_cons, List.map_nil, Act.eval]; rfl) Tryz.func45 (by kernel_rfl) (by kernel_rfl) _) (toType_all x2 _ _ (HR2.out.ext X5.out) (by omega)) ?_; rintro e w6 ⟨t6, rfl, hw6, ho6⟩
      have HO6 := Lib.hid ho6
      have HT6 : Hid (t6.length = 3) := (by rw [ho6.1]; exact GType.tr_len _)
      have HJ6 : Hid ((Tryz.prog.info? 47).map (·.size) = some t6.length) := (by rw [HT6.out]; exact isz47)
      clear ho6
      have hs6 := Ext.trans hs5 hw6
      refine ⟨_, rfl, hs6, ?_⟩
      have Fga_6 := Lib.hid ((Fga_5.out).ext hw6)
      have Ft4_6 := Lib.hid ((Ft4_5.out).ext hw6)
      have Ft5_6 := Lib.hid ((HO5.out).ext hw6)
      have X6 := Lib.hid (Ext.trans X5.out hw6)
      have z6 : w5.heap.size ≤ w6.heap.size := hw6.size
      simp only [Act.put, List.getElem_toArray, List.getElem_cons_zero, List.getElem_cons_succ, List.setIfInBounds_toArray, List.set_cons_zero, List.set_cons_succ]
      refine wpAnyH_call (i := 6) (by kernel_rfl) rfl rfl (run_call_func rfl rfl #[.agg ⟨t4⟩, .agg ⟨t5⟩, .agg ⟨t6⟩] (by simp only [List.map_toArray, List.map_cons, List.map_nil, Act.eval]; rfl) Tryz.func44 (by kernel_rfl) (by kernel_rfl) _) (assocPX_spec gA x0 x1 x2 _ _ _ _ (by omega) (OwnL.repX (Ft4_6.out) (fun h => by have h1 := h.1; have h2 := h.2; omega)) (OwnL.repX (Ft5_6.out) (fun h => by have h1 := h.1; have h2 := h.2; omega)) (OwnL.repX (HO6.out) (fun h => by have h1 := h.1; have h2 := h.2; omega)) (by have := x0.inst_head_bulk x1; omega) (by have := x0.inst_assoc_bulk x1; omega) (by omega)) ?_; rintro e w7 ⟨t7, rfl, hw7, ho7⟩
      have HO7 := Lib.hid ho7
      have HT7 : Hid (t7.length = 3) := (by rw [← ho7.rep.length]; exact GType.tr_len _)
      have HJ7 : Hid ((Tryz.prog.info? 47).map (·.size) = some t7.length) := (by rw [HT7.out]; exact isz47)
      clear ho7
      have hs7 := Ext.trans hs6 hw7
      refine ⟨_, rfl, hs7, ?_⟩
      have Fga_7 := Lib.hid ((Fga_6.out).ext hw7)
      have Ft4_7 := Lib.hid ((Ft4_6.out).ext hw7)
      have Ft5_7 := Lib.hid ((Ft5_6.out).ext hw7)
      have Ft6_7 := Lib.hid ((HO6.out).ext hw7)
      have X7 := Lib.hid (Ext.trans X6.out hw7)
      have z7 : w6.heap.size ≤ w7.heap.size := hw7.size
      simp only [Act.put, List.getElem_toArray, List.getElem_cons_zero, List.getElem_cons_succ, List.setIfInBounds_toArray, List.set_cons_zero, List.set_cons_succ]
      refine wpAnyH_take (i := 7) rfl (by kernel_rfl) (by kernel_rfl) (by kernel_rfl) (fun _ _ _ h => h) (.inl ⟨rfl, fun _ _ => rfl⟩) (by assumption) ?_; refine wpAnyH_take (i := 8) rfl (by kernel_rfl) (by kernel_rfl) (by kernel_rfl) (fun _ _ _ h => h) (.inl ⟨rfl, fun _ _ => rfl⟩) (by assumption) ?_; refine wpAnyH_take (i := 9) rfl (by kernel_rfl) (by kernel_rfl) (by kernel_rfl) (fun _ _ _ h => h) (.inl ⟨rfl, fun _ _ => rfl⟩) (by assumption) ?_
      simp only [Act.put, List.getElem_toArray, List.getElem_cons_zero, List.getElem_cons_succ, List.setIfInBounds_toArray, List.set_cons_zero, List.set_cons_succ]
      refine wpAnyH_store_rep (i := 11) (by kernel_rfl) rfl rfl 47 (.tmp 8) (.tmp 37) rfl gA 0 rfl t7 rfl 47 #[.int .i64 0, .string ⟨#[]⟩, .slice none 0 0] (Fga_7.out) HJ7.out (by rw [HT7.out]; exact Nat.le_refl _) HO7.out.rep.one ?_; intro w8 hob hgb hzb
      rw [splice_whole (by rw [HT7.out]; rfl)] at hob
      have hs8n := grown_ext hs7 hgb (by omega)
      refine ⟨hs8n, ?_⟩
      simp only [Act.put, List.getElem_toArray, List.getElem_cons_zero, List.getElem_cons_succ, List.setIfInBounds_toArray, List.set_cons_zero, List.set_cons_succ]
      have hor := RepLX.grown (g := gA) (RepLX.ext (HO7.out) ((Ext.refl _))) hgb
      refine wpAnyH_take (i := 12) rfl (by kernel_rfl) (by kernel_rfl) (by kernel_rfl) (fun _ _ _ h => h) (.inl ⟨rfl, fun _ _ => rfl⟩) (by assumption) ?_
      simp only [Act.put, List.getElem_toArray, List.getElem_cons_zero, List.getElem_cons_succ, List.setIfInBounds_toArray, List.set_cons_zero, List.set_cons_succ]
      refine wpAnyH_done (by kernel_rfl) ?_ _
      have HSF := Lib.hid hs8n
      have HOBF := Lib.hid hob
      have HORF := Lib.hid hor.rep
      have hgf : w2.heap.size ≤ gA := by omega
      have hzf : w7.heap.size ≤ w8.heap.size := hgb.size
      clear hob hor hgb hzb hHeld hs4 hw4 hs5 hw5 hs6 hw6 hs7 hw7
      go_wp2_with fail
      go_meet
      exact ⟨gA, t7, rfl, rfl, HSF.out, hgf, HOBF.out, HORF.out⟩
  obtain ⟨w3, hwe⟩ : ∃ x, x = wc := ⟨_, rfl⟩
  rw [← hwe] at hcut ⊢
  clear hwe
  obtain ⟨gB3, t3, rfl, rfl, HXC3, hgB3, HOB3, HO3⟩ := hcut
  have Fp0_3 := Lib.hid ((Fp0_2.out).ext HXC3.out)
  have Fp1_3 := Lib.hid ((Fp1_2.out).ext HXC3.out)
  have Fp2_3 := Lib.hid ((Fp2_2.out).ext HXC3.out)
  have X3 := Lib.hid (Ext.trans X2.out HXC3.out)
  have z3 : w2.heap.size ≤ w3.heap.size := HXC3.out.size
  have HT3 : Hid (t3.length = 3) := (by rw [← HO3.out.length]; exact GType.tr_len _)
  have HJ3 : Hid ((Tryz.prog.info? 47).map (·.size) = some t3.length) := (by rw [HT3.out]; exact isz47)
  have hlB3 : gB3 < w3.heap.size := HOB3.out.lt
  go_wp2_with (first
    | (refine wpList_load_rep rfl 24 (.tmp 3) rfl (w.heap.size) 0 rfl cs0 _ Tryz.underlying24 HI0.out (OB.cells0 (Fp0_3.out)) ?_)
    | (refine wpList_load_rep rfl 26 (.tmp 4) rfl (w.heap.size + 1) 0 rfl cs1 _ Tryz.underlying26 HI1.out (OB.cells0 (Fp1_3.out)) ?_)
    | (refine wpList_load_rep rfl 39 (.tmp 5) rfl (w.heap.size + 1 + 1) 0 rfl cs2 _ Tryz.underlying39 HI2.out (OB.cells0 (Fp2_3.out)) ?_)
    | (refine wpList_load_rep rfl 47 (.tmp 8) rfl (gB3) 0 rfl t3 _ Tryz.underlying47 HJ3.out (OB.cells0 (HOB3.out)) ?_))
  refine (toProgram_all x0 _ _ (HR0.out.ext X3.out) (by omega)).mono ?_; rintro e w4 ⟨t4, rfl, hw4, ho4⟩
  have HO4 := Lib.hid ho4
  have HT4 : Hid (t4.length = 1) := (by rw [ho4.1]; exact GProgram.tr_len _)
  have HJ4 : Hid ((Tryz.prog.info? 31).map (·.size) = some t4.length) := (by rw [HT4.out]; exact isz31)
  clear ho4
  have Fp0_4 := Lib.hid ((Fp0_3.out).ext hw4)
  have Fp1_4 := Lib.hid ((Fp1_3.out).ext hw4)
  have Fp2_4 := Lib.hid ((Fp2_3.out).ext hw4)
  have Ft3_4 := Lib.hid (Ext.trans (Ext.refl _) hw4)
  have Fb3_4 := Lib.hid ((HOB3.out).ext hw4)
  have X4 := Lib.hid (Ext.trans X3.out hw4)
  have z4 : w3.heap.size ≤ w4.heap.size := hw4.size
  clear hw4
  go_wp2_with (first
    | (refine wpList_store_rep rfl 31 (.tmp 10) (.tmp 40) rfl w4.heap.size 0 rfl t4 rfl 31 _ (OB.new w4 _ _) HJ4.out (by rw [HT4.out]; exact Nat.le_refl _) (HO4.out.rep.one) ?_; intro w5 hob hgb hzb; rw [splice_whole (by rw [HT4.out]; rfl)] at hob; have hw5 := grown_ext (.alloc (.refl w4) _) hgb (Nat.le_refl _); have Fp0_5 := Lib.hid ((Fp0_4.out).ext hw5); have Fp1_5 := Lib.hid ((Fp1_4.out).ext hw5); have Fp2_5 := Lib.hid ((Fp2_4.out).ext hw5); have Ft3_5 := Lib.hid (Ext.trans Ft3_4.out hw5); have Fb3_5 := Lib.hid ((Fb3_4.out).ext hw5); have Ft4_5 := Lib.hid ((HO4.out).ext hw5); have X5 := Lib.hid (Ext.trans X4.out hw5); have z5 : w4.heap.size ≤ w5.heap.size := hw5.size; have Fb5_5 := Lib.hid hob; have zs5 : w4.heap.size < w5.heap.size := hob.lt; clear hob hgb hzb hw5)
    | (refine wpList_load_rep rfl 24 (.tmp 3) rfl (w.heap.size) 0 rfl cs0 _ Tryz.underlying24 HI0.out (OB.cells0 (Fp0_5.out)) ?_)
    | (refine wpList_load_rep rfl 26 (.tmp 4) rfl (w.heap.size + 1) 0 rfl cs1 _ Tryz.underlying26 HI1.out (OB.cells0 (Fp1_5.out)) ?_)
    | (refine wpList_load_rep rfl 39 (.tmp 5) rfl (w.heap.size + 1 + 1) 0 rfl cs2 _ Tryz.underlying39 HI2.out (OB.cells0 (Fp2_5.out)) ?_)
    | (refine wpList_load_rep rfl 47 (.tmp 8) rfl (gB3) 0 rfl t3 _ Tryz.underlying47 HJ3.out (OB.cells0 (Fb3_5.out)) ?_)
    | (refine wpList_load_rep rfl 31 (.tmp 10) rfl (w4.heap.size) 0 rfl t4 _ Tryz.underlying31 HJ4.out (OB.cells0 (Fb5_5.out)) ?_))
  refine (toType_all x2 _ _ (HR2.out.ext X5.out) (by omega)).mono ?_; rintro e w6 ⟨t6, rfl, hw6, ho6⟩
  have HO6 := Lib.hid ho6
  have HT6 : Hid (t6.length = 3) := (by rw [ho6.1]; exact GType.tr_len _)
  have HJ6 : Hid ((Tryz.prog.info? 47).map (·.size) = some t6.length) := (by rw [HT6.out]; exact isz47)
  clear ho6
  have Fp0_6 := Lib.hid ((Fp0_5.out).ext hw6)
  have Fp1_6 := Lib.hid ((Fp1_5.out).ext hw6)
  have Fp2_6 := Lib.hid ((Fp2_5.out).ext hw6)
  have Ft3_6 := Lib.hid (Ext.trans Ft3_5.out hw6)
  have Fb3_6 := Lib.hid ((Fb3_5.out).ext hw6)
  have Ft4_6 := Lib.hid ((Ft4_5.out).ext hw6)
  have Fb5_6 := Lib.hid ((Fb5_5.out).ext hw6)
  have X6 := Lib.hid (Ext.trans X5.out hw6)
  have z6 : w5.heap.size ≤ w6.heap.size := hw6.size
  clear hw6
  go_upto_region 11 with (first
    | (refine wpList_store_rep rfl 47 (.tmp 11) (.tmp 42) rfl w6.heap.size 0 rfl t6 rfl 47 _ (OB.new w6 _ _) HJ6.out (by rw [HT6.out]; exact Nat.le_refl _) (HO6.out.rep.one) ?_; intro w7 hob hgb hzb; rw [splice_whole (by rw [HT6.out]; rfl)] at hob; have hw7 := grown_ext (.alloc (.refl w6) _) hgb (Nat.le_refl _); have Fp0_7 := Lib.hid ((Fp0_6.out).ext hw7); have Fp1_7 := Lib.hid ((Fp1_6.out).ext hw7); have Fp2_7 := Lib.hid ((Fp2_6.out).ext hw7); have Ft3_7 := Lib.hid (Ext.trans Ft3_6.out hw7); have Fb3_7 := Lib.hid ((Fb3_6.out).ext hw7); have Ft4_7 := Lib.hid ((Ft4_6.out).ext hw7); have Fb5_7 := Lib.hid ((Fb5_6.out).ext hw7); have Ft6_7 := Lib.hid ((HO6.out).ext hw7); have X7 := Lib.hid (Ext.trans X6.out hw7); have z7 : w6.heap.size ≤ w7.heap.size := hw7.size; have Fb7_7 := Lib.hid hob; have zs7 : w6.heap.size < w7.heap.size := hob.lt; clear hob hgb hzb hw7)
    | (refine wpList_load_rep rfl 24 (.tmp 3) rfl (w.heap.size) 0 rfl cs0 _ Tryz.underlying24 HI0.out (OB.cells0 (Fp0_7.out)) ?_)
    | (refine wpList_load_rep rfl 26 (.tmp 4) rfl (w.heap.size + 1) 0 rfl cs1 _ Tryz.underlying26 HI1.out (OB.cells0 (Fp1_7.out)) ?_)
    | (refine wpList_load_rep rfl 39 (.tmp 5) rfl (w.heap.size + 1 + 1) 0 rfl cs2 _ Tryz.underlying39 HI2.out (OB.cells0 (Fp2_7.out)) ?_)
    | (refine wpList_load_rep rfl 47 (.tmp 8) rfl (gB3) 0 rfl t3 _ Tryz.underlying47 HJ3.out (OB.cells0 (Fb3_7.out)) ?_)
    | (refine wpList_load_rep rfl 31 (.tmp 10) rfl (w4.heap.size) 0 rfl t4 _ Tryz.underlying31 HJ4.out (OB.cells0 (Fb5_7.out)) ?_)
    | (refine wpList_load_rep rfl 47 (.tmp 11) rfl (w6.heap.size) 0 rfl t6 _ Tryz.underlying47 HJ6.out (OB.cells0 (Fb7_7.out)) ?_))
  try simp only [Act.put, List.getElem_toArray, List.getElem_cons_zero, List.getElem_cons_succ, List.setIfInBounds_toArray, List.set_cons_zero, List.set_cons_succ]
  go_cut [12, 13] (fun s12 s13 wx => ∃ (B : Nat) (cs : List Value) (lo hi : Nat), s12 = .pointer (some ⟨B, 0, none⟩) ∧ s13 = .bool (x0.assocOf x1 x2).2 ∧ Hid (Ext w7 wx) ∧ w7.heap.size ≤ B ∧ Hid (OB wx B 47 ⟨cs⟩) ∧ Hid (OwnL wx (x0.assocOf x1 x2).1.tr cs (BetN lo hi)) ∧ w7.heap.size ≤ lo ∧ hi ≤ wx.heap.size ∧ (B < lo ∨ hi ≤ B))
  case first =>
    refine wp_region_held_drew (S := Ext w7) (by kernel_rfl) (.drew (.refl _)) (fun hHeld => ?_)
    refine wpAnyH_load_rep (i := 0) rfl (by kernel_rfl) (by kernel_rfl) (by kernel_rfl) (fun _ _ _ h => h) rfl 31 (.tmp 10) rfl (w4.heap.size) 0 rfl t4 _ Tryz.underlying31 HJ4.out (fun w hS => OB.cells0 ((Fb5_7.out).ext hS)) (by assumption) (fun _ _ _ _ h => h) ?_; refine wpAnyH_load_rep (i := 1) rfl (by kernel_rfl) (by kernel_rfl) (by kernel_rfl) (fun _ _ _ h => h) rfl 26 (.tmp 4) rfl (w.heap.size + 1) 0 rfl cs1 _ Tryz.underlying26 HI1.out (fun w hS => OB.cells0 ((Fp1_7.out).ext hS)) (by assumption) (fun _ _ _ _ h => h) ?_; refine wpAnyH_load_rep (i := 3) rfl (by kernel_rfl) (by kernel_rfl) (by kernel_rfl) (fun _ _ _ h => h) rfl 47 (.tmp 11) rfl (w6.heap.size) 0 rfl t6 _ Tryz.underlying47 HJ6.out (fun w hS => OB.cells0 ((Fb7_7.out).ext hS)) (by assumption) (fun _ _ _ _ h => h) ?_
    simp only [Act.put, List.getElem_toArray, List.getElem_cons_zero, List.getElem_cons_succ, List.setIfInBounds_toArray, List.set_cons_zero, List.set_cons_succ]
    have hzd : w7.drew.heap.size = w7.heap.size := rfl
    refine wpAnyH_all (rs := [2, 8]) (by kernel_rfl) (by simp) (fun i hi => ?_)
    rcases (by simpa using hi : i = 2 ∨ i = 8) with rfl | rfl
    · refine wpOp_call rfl rfl (run_call_func rfl rfl #[.agg ⟨cs1⟩] (by simp only [List.map_toArray, List.map_cons, List.map_nil, Act.eval]; rfl) Tryz.func18 (by kernel_rfl) (by kernel_rfl) _) (toInstanceRef_all x1 _ _ (HR1.out.ext (Ext.trans X7.out (.drew (.refl _)))) (by have hz0 : Tr.bulkL (GInstanceRef.tr x1) = 0 := (by cases x1; rfl); omega)) ?_; rintro e w8 ⟨t8, rfl, hw8, ho8⟩
      have HO8 := Lib.hid ho8
      have HT8 : Hid (t8.length = 2) := (by rw [ho8.1]; exact GInstanceRef.tr_len _)
      have HJ8 : Hid ((Tryz.prog.info? 33).map (·.size) = some t8.length) := (by rw [HT8.out]; exact isz33)
      clear ho8
      have hs8 := Ext.trans hHeld hw8
      refine ⟨_, rfl, hs8, ?_⟩
      have Ft4_8 := Lib.hid (((Ft4_7.out).ext (Ext.drew (.refl w7))).ext hw8)
      have Ft6_8 := Lib.hid (((Ft6_7.out).ext (Ext.drew (.refl w7))).ext hw8)
      have X8 := Lib.hid (Ext.trans (Ext.trans X7.out (.drew (.refl _))) hw8)
      have z8 : w7.heap.size ≤ w8.heap.size := hw8.size
      simp only [Act.put, List.getElem_toArray, List.getElem_cons_zero, List.getElem_cons_succ, List.setIfInBounds_toArray, List.set_cons_zero, List.set_cons_succ]
      refine wpAnyH_all (rs := [4, 8]) (by kernel_rfl) (by simp) (fun i hi => ?_)
      rcases (by simpa using hi : i = 4 ∨ i = 8) with rfl | rfl
      · refine wpOp_call rfl rfl (run_call_func rfl rfl #[.agg ⟨t4⟩, .agg ⟨t8⟩, .agg ⟨t6⟩] (by simp only [List.map_toArray, List.map_cons, List.map_nil, Act.eval]; rfl) Tryz.func46 (by kernel_rfl) (by kernel_rfl) _) (assocP_impl x0 x1 x2 _ _ _ _ ((Ft4_8.out).rep) ((HO8.out).rep) ((Ft6_8.out).rep) (by have := x0.inst_head_bulk x1; omega) (by have := x0.inst_assoc_bulk x1; omega) (by omega)) ?_; rintro e w9 ⟨t9, rfl, hw9, ho9⟩
        have HO9 := Lib.hid ho9
        have HT9 : Hid (t9.length = 3) := (by rw [ho9.1]; exact GType.tr_len _)
        have HJ9 : Hid ((Tryz.prog.info? 47).map (·.size) = some t9.length) := (by rw [HT9.out]; exact isz47)
        clear ho9
        have hs9 := Ext.trans hs8 hw9
        refine ⟨_, rfl, hs9, ?_⟩
        have Ft4_9 := Lib.hid ((Ft4_8.out).ext hw9)
        have Ft6_9 := Lib.hid ((Ft6_8.out).ext hw9)
        have Ft8_9 := Lib.hid ((HO8.out).ext hw9)
        have X9 := Lib.hid (Ext.trans X8.out hw9)
        have z9 : w8.heap.size ≤ w9.heap.size := hw9.size
        simp only [Act.put, List.getElem_toArray, List.getElem_cons_zero, List.getElem_cons_succ, List.setIfInBounds_toArray, List.set_cons_zero, List.set_cons_succ]
        refine wpAnyH_take (i := 5) rfl (by kernel_rfl) (by kernel_rfl) (by kernel_rfl) (fun _ _ _ h => h) (.inl ⟨rfl, fun _ _ => rfl⟩) (by assumption) ?_; refine wpAnyH_take (i := 6) rfl (by kernel_rfl) (by kernel_rfl) (by kernel_rfl) (fun _ _ _ h => h) (.inl ⟨rfl, fun _ _ => rfl⟩) (by assumption) ?_; refine wpAnyH_take (i := 7) rfl (by kernel_rfl) (by kernel_rfl) (by kernel_rfl) (fun _ _ _ h => h) (.inl ⟨rfl, fun _ _ => rfl⟩) (by assumption) ?_
        simp only [Act.put, List.getElem_toArray, List.getElem_cons_zero, List.getElem_cons_succ, List.setIfInBounds_toArray, List.set_cons_zero, List.set_cons_succ]
        have hs10n := Ext.trans hs9 (Ext.alloc (.refl w9) (.cells #[.int .i64 0, .string ⟨#[]⟩, .slice none 0 0] 47))
        refine wpAnyH_run (i := 8) (v := .pointer (some ⟨w9.heap.size, 0, none⟩)) (w' := w9.alloc (.cells #[.int .i64 0, .string ⟨#[]⟩, .slice none 0 0] 47)) (by kernel_rfl) rfl rfl (by simp [execOp, go_sem]) hs10n ?_
        simp only [Act.put, List.getElem_toArray, List.getElem_cons_zero, List.getElem_cons_succ, List.setIfInBounds_toArray, List.set_cons_zero, List.set_cons_succ]
        have hoba := OB.new w9 47 #[.int .i64 0, .string ⟨#[]⟩, .slice none 0 0]
        have hw10 := Ext.alloc (.refl w9) (.cells #[.int .i64 0, .string ⟨#[]⟩, .slice none 0 0] 47)
        have hga := (hs9).size
        obtain ⟨w10, hN⟩ : ∃ x, w9.alloc (.cells #[.int .i64 0, .string ⟨#[]⟩, .slice none 0 0] 47) = x := ⟨_, rfl⟩
        rw [hN] at hoba hw10 hs10n ⊢
        clear hN
        obtain ⟨gA, hgA⟩ : ∃ x, w9.heap.size = x := ⟨_, rfl⟩
        rw [hgA] at hoba hga ⊢
        have hla := hoba.lt
        have Ft4_10 := Lib.hid ((Ft4_9.out).ext hw10)
        have Ft6_10 := Lib.hid ((Ft6_9.out).ext hw10)
        have Ft9_10 := Lib.hid ((HO9.out).ext hw10)
        have X10 := Lib.hid (Ext.trans X9.out hw10)
        have z10 : w9.heap.size ≤ w10.heap.size := hw10.size
        refine wpAnyH_store_rep (i := 9) (by kernel_rfl) rfl rfl 47 (.tmp 12) (.tmp 49) rfl gA 0 rfl t9 rfl 47 #[.int .i64 0, .string ⟨#[]⟩, .slice none 0 0] (hoba) HJ9.out (by rw [HT9.out]; exact Nat.le_refl _) HO9.out.rep.one ?_; intro w11 hob hgb hzb
        rw [splice_whole (by rw [HT9.out]; rfl)] at hob
        have hs11n := grown_ext hs10n hgb (by omega)
        refine ⟨hs11n, ?_⟩
        simp only [Act.put, List.getElem_toArray, List.getElem_cons_zero, List.getElem_cons_succ, List.setIfInBounds_toArray, List.set_cons_zero, List.set_cons_succ]
        have hor := OwnL.keep (Ft9_10.out) (w' := w11) fun x hx hxl => hgb.block x hxl (by intro h; injection h with h; have h1 := hx.1; have h2 := hx.2; omega)
        refine wpAnyH_take (i := 10) rfl (by kernel_rfl) (by kernel_rfl) (by kernel_rfl) (fun _ _ _ h => h) (.inl ⟨rfl, fun _ _ => rfl⟩) (by assumption) ?_
        simp only [Act.put, List.getElem_toArray, List.getElem_cons_zero, List.getElem_cons_succ, List.setIfInBounds_toArray, List.set_cons_zero, List.set_cons_succ]
        refine wpAnyH_done (by kernel_rfl) ?_ _
        have HSF := Lib.hid hs11n
        have HOBF := Lib.hid hob
        have HORF := Lib.hid hor
        have hgf : w7.heap.size ≤ gA := by omega
        have hzf : w10.heap.size ≤ w11.heap.size := hgb.size
        clear hob hor hgb hzb hHeld hs8 hw8 hs9 hw9
        go_wp2_with fail
        go_meet
        exact ⟨gA, t9, w8.heap.size, w9.heap.size, rfl, rfl, HSF.out, hgf, HOBF.out, HORF.out, by omega, by omega, by omega⟩
      · have hs9n := Ext.trans hs8 (Ext.alloc (.refl w8) (.cells #[.int .i64 0, .string ⟨#[]⟩, .slice none 0 0] 47))
        refine wpOp_run (v := .pointer (some ⟨w8.heap.size, 0, none⟩)) (w' := w8.alloc (.cells #[.int .i64 0, .string ⟨#[]⟩, .slice none 0 0] 47)) rfl rfl (by simp [execOp, go_sem]) ⟨hs9n, ?_⟩
        simp only [Act.put, List.getElem_toArray, List.getElem_cons_zero, List.getElem_cons_succ, List.setIfInBounds_toArray, List.set_cons_zero, List.set_cons_succ]
        have hoba := OB.new w8 47 #[.int .i64 0, .string ⟨#[]⟩, .slice none 0 0]
        have hw9 := Ext.alloc (.refl w8) (.cells #[.int .i64 0, .string ⟨#[]⟩, .slice none 0 0] 47)
        have hga := (hs8).size
        obtain ⟨w9, hN⟩ : ∃ x, w8.alloc (.cells #[.int .i64 0, .string ⟨#[]⟩, .slice none 0 0] 47) = x := ⟨_, rfl⟩
        rw [hN] at hoba hw9 hs9n ⊢
        clear hN
        obtain ⟨gA, hgA⟩ : ∃ x, w8.heap.size = x := ⟨_, rfl⟩
        rw [hgA] at hoba hga ⊢
        have hla := hoba.lt
        have Ft4_9 := Lib.hid ((Ft4_8.out).ext hw9)
        have Ft6_9 := Lib.hid ((Ft6_8.out).ext hw9)
        have Ft8_9 := Lib.hid ((HO8.out).ext hw9)
        have X9 := Lib.hid (Ext.trans X8.out hw9)
        have z9 : w8.heap.size ≤ w9.heap.size := hw9.size
        refine wpAnyH_call (i := 4) (by kernel_rfl) rfl rfl (run_call_func rfl rfl #[.agg ⟨t4⟩, .agg ⟨t8⟩, .agg ⟨t6⟩] (by simp only [List.map_toArray, List.map_cons, List.map_nil, Act.eval]; rfl) Tryz.func46 (by kernel_rfl) (by kernel_rfl) _) (assocP_impl x0 x1 x2 _ _ _ _ ((Ft4_9.out).rep) ((Ft8_9.out).rep) ((Ft6_9.out).rep) (by have := x0.inst_head_bulk x1; omega) (by have := x0.inst_assoc_bulk x1; omega) (by omega)) ?_; rintro e w10 ⟨t10, rfl, hw10, ho10⟩
        have HO10 := Lib.hid ho10
        have HT10 : Hid (t10.length = 3) := (by rw [ho10.1]; exact GType.tr_len _)
        have HJ10 : Hid ((Tryz.prog.info? 47).map (·.size) = some t10.length) := (by rw [HT10.out]; exact isz47)
        clear ho10
        have hs10 := Ext.trans hs9n hw10
        refine ⟨_, rfl, hs10, ?_⟩
        have Ft4_10 := Lib.hid ((Ft4_9.out).ext hw10)
        have Ft6_10 := Lib.hid ((Ft6_9.out).ext hw10)
        have Ft8_10 := Lib.hid ((Ft8_9.out).ext hw10)
        have Fga_10 := Lib.hid ((hoba).ext hw10)
        have X10 := Lib.hid (Ext.trans X9.out hw10)
        have z10 : w9.heap.size ≤ w10.heap.size := hw10.size
        simp only [Act.put, List.getElem_toArray, List.getElem_cons_zero, List.getElem_cons_succ, List.setIfInBounds_toArray, List.set_cons_zero, List.set_cons_succ]
        refine wpAnyH_take (i := 5) rfl (by kernel_rfl) (by kernel_rfl) (by kernel_rfl) (fun _ _ _ h => h) (.inl ⟨rfl, fun _ _ => rfl⟩) (by assumption) ?_; refine wpAnyH_take (i := 6) rfl (by kernel_rfl) (by kernel_rfl) (by kernel_rfl) (fun _ _ _ h => h) (.inl ⟨rfl, fun _ _ => rfl⟩) (by assumption) ?_; refine wpAnyH_take (i := 7) rfl (by kernel_rfl) (by kernel_rfl) (by kernel_rfl) (fun _ _ _ h => h) (.inl ⟨rfl, fun _ _ => rfl⟩) (by assumption) ?_
        simp only [Act.put, List.getElem_toArray, List.getElem_cons_zero, List.getElem_cons_succ, List.setIfInBounds_toArray, List.set_cons_zero, List.set_cons_succ]
        refine wpAnyH_store_rep (i := 9) (by kernel_rfl) rfl rfl 47 (.tmp 12) (.tmp 49) rfl gA 0 rfl t10 rfl 47 #[.int .i64 0, .string ⟨#[]⟩, .slice none 0 0] (Fga_10.out) HJ10.out (by rw [HT10.out]; exact Nat.le_refl _) HO10.out.rep.one ?_; intro w11 hob hgb hzb
        rw [splice_whole (by rw [HT10.out]; rfl)] at hob
        have hs11n := grown_ext hs10 hgb (by omega)
        refine ⟨hs11n, ?_⟩
        simp only [Act.put, List.getElem_toArray, List.getElem_cons_zero, List.getElem_cons_succ, List.setIfInBounds_toArray, List.set_cons_zero, List.set_cons_succ]
        have hor := OwnL.keep (HO10.out) (w' := w11) fun x hx hxl => hgb.block x hxl (by intro h; injection h with h; have h1 := hx.1; have h2 := hx.2; omega)
        refine wpAnyH_take (i := 10) rfl (by kernel_rfl) (by kernel_rfl) (by kernel_rfl) (fun _ _ _ h => h) (.inl ⟨rfl, fun _ _ => rfl⟩) (by assumption) ?_
        simp only [Act.put, List.getElem_toArray, List.getElem_cons_zero, List.getElem_cons_succ, List.setIfInBounds_toArray, List.set_cons_zero, List.set_cons_succ]
        refine wpAnyH_done (by kernel_rfl) ?_ _
        have HSF := Lib.hid hs11n
        have HOBF := Lib.hid hob
        have HORF := Lib.hid hor
        have hgf : w7.heap.size ≤ gA := by omega
        have hzf : w10.heap.size ≤ w11.heap.size := hgb.size
        clear hob hor hgb hzb hHeld hs8 hw8 hs10 hw10
        go_wp2_with fail
        go_meet
        exact ⟨gA, t10, w9.heap.size, w10.heap.size, rfl, rfl, HSF.out, hgf, HOBF.out, HORF.out, by omega, by omega, by omega⟩
    · have hs8n := Ext.trans hHeld (Ext.alloc (.refl w7.drew) (.cells #[.int .i64 0, .string ⟨#[]⟩, .slice none 0 0] 47))
      refine wpOp_run (v := .pointer (some ⟨w7.drew.heap.size, 0, none⟩)) (w' := w7.drew.alloc (.cells #[.int .i64 0, .string ⟨#[]⟩, .slice none 0 0] 47)) rfl rfl (by simp [execOp, go_sem]) ⟨hs8n, ?_⟩
      simp only [Act.put, List.getElem_toArray, List.getElem_cons_zero, List.getElem_cons_succ, List.setIfInBounds_toArray, List.set_cons_zero, List.set_cons_succ]
      have hoba := OB.new w7.drew 47 #[.int .i64 0, .string ⟨#[]⟩, .slice none 0 0]
      have hw8 := Ext.alloc (.refl w7.drew) (.cells #[.int .i64 0, .string ⟨#[]⟩, .slice none 0 0] 47)
      have hga := (hHeld).size
      obtain ⟨w8, hN⟩ : ∃ x, w7.drew.alloc (.cells #[.int .i64 0, .string ⟨#[]⟩, .slice none 0 0] 47) = x := ⟨_, rfl⟩
      rw [hN] at hoba hw8 hs8n ⊢
      clear hN
      obtain ⟨gA, hgA⟩ : ∃ x, w7.drew.heap.size = x := ⟨_, rfl⟩
      rw [hgA] at hoba hga ⊢
      have hla := hoba.lt
      have Ft4_8 := Lib.hid (((Ft4_7.out).ext (Ext.drew (.refl w7))).ext hw8)
      have Ft6_8 := Lib.hid (((Ft6_7.out).ext (Ext.drew (.refl w7))).ext hw8)
      have X8 := Lib.hid (Ext.trans (Ext.trans X7.out (.drew (.refl _))) hw8)
      have z8 : w7.heap.size ≤ w8.heap.size := hw8.size
      refine wpAnyH_call (i := 2) (by kernel_rfl) rfl rfl (run_call_func rfl rfl #[.agg ⟨cs1⟩] (by simp only [List.map_toArray, List.map_cons, List.map_nil, Act.eval]; rfl) Tryz.func18 (by kernel_rfl) (by kernel_rfl) _) (toInstanceRef_all x1 _ _ (HR1.out.ext X8.out) (by have hz0 : Tr.bulkL (GInstanceRef.tr x1) = 0 := (by cases x1; rfl); omega)) ?_; rintro e w9 ⟨t9, rfl, hw9, ho9⟩
      have HO9 := Lib.hid ho9
      have HT9 : Hid (t9.length = 2) := (by rw [ho9.1]; exact GInstanceRef.tr_len _)
      have HJ9 : Hid ((Tryz.prog.info? 33).map (·.size) = some t9.length) := (by rw [HT9.out]; exact isz33)
      clear ho9
      have hs9 := Ext.trans hs8n hw9
      refine ⟨_, rfl, hs9, ?_⟩
      have Ft4_9 := Lib.hid ((Ft4_8.out).ext hw9)
      have Ft6_9 := Lib.hid ((Ft6_8.out).ext hw9)
      have Fga_9 := Lib.hid ((hoba).ext hw9)
      have X9 := Lib.hid (Ext.trans X8.out hw9)
      have z9 : w8.heap.size ≤ w9.heap.size := hw9.size
      simp only [Act.put, List.getElem_toArray, List.getElem_cons_zero, List.getElem_cons_succ, List.setIfInBounds_toArray, List.set_cons_zero, List.set_cons_succ]
      refine wpAnyH_call (i := 4) (by kernel_rfl) rfl rfl (run_call_func rfl rfl #[.agg ⟨t4⟩, .agg ⟨t9⟩, .agg ⟨t6⟩] (by simp only [List.map_toArray, List.map_cons, List.map_nil, Act.eval]; rfl) Tryz.func46 (by kernel_rfl) (by kernel_rfl) _) (assocP_impl x0 x1 x2 _ _ _ _ ((Ft4_9.out).rep) ((HO9.out).rep) ((Ft6_9.out).rep) (by have := x0.inst_head_bulk x1; omega) (by have := x0.inst_assoc_bulk x1; omega) (by omega)) ?_; rintro e w10 ⟨t10, rfl, hw10, ho10⟩
      have HO10 := Lib.hid ho10
      have HT10 : Hid (t10.length = 3) := (by rw [ho10.1]; exact GType.tr_len _)
      have HJ10 : Hid ((Tryz.prog.info? 47).map (·.size) = some t10.length) := (by rw [HT10.out]; exact isz47)
      clear ho10
      have hs10 := Ext.trans hs9 hw10
      refine ⟨_, rfl, hs10, ?_⟩
      have Ft4_10 := Lib.hid ((Ft4_9.out).ext hw10)
      have Ft6_10 := Lib.hid ((Ft6_9.out).ext hw10)
      have Fga_10 := Lib.hid ((Fga_9.out).ext hw10)
      have Ft9_10 := Lib.hid ((HO9.out).ext hw10)
      have X10 := Lib.hid (Ext.trans X9.out hw10)
      have z10 : w9.heap.size ≤ w10.heap.size := hw10.size
      simp only [Act.put, List.getElem_toArray, List.getElem_cons_zero, List.getElem_cons_succ, List.setIfInBounds_toArray, List.set_cons_zero, List.set_cons_succ]
      refine wpAnyH_take (i := 5) rfl (by kernel_rfl) (by kernel_rfl) (by kernel_rfl) (fun _ _ _ h => h) (.inl ⟨rfl, fun _ _ => rfl⟩) (by assumption) ?_; refine wpAnyH_take (i := 6) rfl (by kernel_rfl) (by kernel_rfl) (by kernel_rfl) (fun _ _ _ h => h) (.inl ⟨rfl, fun _ _ => rfl⟩) (by assumption) ?_; refine wpAnyH_take (i := 7) rfl (by kernel_rfl) (by kernel_rfl) (by kernel_rfl) (fun _ _ _ h => h) (.inl ⟨rfl, fun _ _ => rfl⟩) (by assumption) ?_
      simp only [Act.put, List.getElem_toArray, List.getElem_cons_zero, List.getElem_cons_succ, List.setIfInBounds_toArray, List.set_cons_zero, List.set_cons_succ]
      refine wpAnyH_store_rep (i := 9) (by kernel_rfl) rfl rfl 47 (.tmp 12) (.tmp 49) rfl gA 0 rfl t10 rfl 47 #[.int .i64 0, .string ⟨#[]⟩, .slice none 0 0] (Fga_10.out) HJ10.out (by rw [HT10.out]; exact Nat.le_refl _) HO10.out.rep.one ?_; intro w11 hob hgb hzb
      rw [splice_whole (by rw [HT10.out]; rfl)] at hob
      have hs11n := grown_ext hs10 hgb (by omega)
      refine ⟨hs11n, ?_⟩
      simp only [Act.put, List.getElem_toArray, List.getElem_cons_zero, List.getElem_cons_succ, List.setIfInBounds_toArray, List.set_cons_zero, List.set_cons_succ]
      have hor := OwnL.keep (HO10.out) (w' := w11) fun x hx hxl => hgb.block x hxl (by intro h; injection h with h; have h1 := hx.1; have h2 := hx.2; omega)
      refine wpAnyH_take (i := 10) rfl (by kernel_rfl) (by kernel_rfl) (by kernel_rfl) (fun _ _ _ h => h) (.inl ⟨rfl, fun _ _ => rfl⟩) (by assumption) ?_
      simp only [Act.put, List.getElem_toArray, List.getElem_cons_zero, List.getElem_cons_succ, List.setIfInBounds_toArray, List.set_cons_zero, List.set_cons_succ]
      refine wpAnyH_done (by kernel_rfl) ?_ _
      have HSF := Lib.hid hs11n
      have HOBF := Lib.hid hob
      have HORF := Lib.hid hor
      have hgf : w7.heap.size ≤ gA := by omega
      have hzf : w10.heap.size ≤ w11.heap.size := hgb.size
      clear hob hor hgb hzb hHeld hs9 hw9 hs10 hw10
      go_wp2_with fail
      go_meet
      exact ⟨gA, t10, w9.heap.size, w10.heap.size, rfl, rfl, HSF.out, hgf, HOBF.out, HORF.out, by omega, by omega, by omega⟩
  obtain ⟨w8, hwe⟩ : ∃ x, x = wc := ⟨_, rfl⟩
  rw [← hwe] at hcut ⊢
  clear hwe
  obtain ⟨gB8, t8, lo8, hi8, rfl, rfl, HXC8, hgB8, HOB8, HO8, hlo8, hhi8, hdj8⟩ := hcut
  have Fp0_8 := Lib.hid ((Fp0_7.out).ext HXC8.out)
  have Fp1_8 := Lib.hid ((Fp1_7.out).ext HXC8.out)
  have Fp2_8 := Lib.hid ((Fp2_7.out).ext HXC8.out)
  have Ft3_8 := Lib.hid (Ext.trans Ft3_7.out HXC8.out)
  have Fb3_8 := Lib.hid ((Fb3_7.out).ext HXC8.out)
  have Ft4_8 := Lib.hid ((Ft4_7.out).ext HXC8.out)
  have Fb5_8 := Lib.hid ((Fb5_7.out).ext HXC8.out)
  have Ft6_8 := Lib.hid ((Ft6_7.out).ext HXC8.out)
  have Fb7_8 := Lib.hid ((Fb7_7.out).ext HXC8.out)
  have X8 := Lib.hid (Ext.trans X7.out HXC8.out)
  have z8 : w7.heap.size ≤ w8.heap.size := HXC8.out.size
  have HT8 : Hid (t8.length = 3) := (by rw [HO8.out.1]; exact GType.tr_len _)
  have HJ8 : Hid ((Tryz.prog.info? 47).map (·.size) = some t8.length) := (by rw [HT8.out]; exact isz47)
  have hlB8 : gB8 < w8.heap.size := HOB8.out.lt
  go_wp2_with (first
    | (refine wpList_load_rep_g (by rfl) 24 (.tmp 3) rfl (w.heap.size) 0 rfl cs0 _ Tryz.underlying24 HI0.out (OB.cells0 (Fp0_8.out)) ?_)
    | (refine wpList_load_rep_g (by rfl) 26 (.tmp 4) rfl (w.heap.size + 1) 0 rfl cs1 _ Tryz.underlying26 HI1.out (OB.cells0 (Fp1_8.out)) ?_)
    | (refine wpList_load_rep_g (by rfl) 39 (.tmp 5) rfl (w.heap.size + 1 + 1) 0 rfl cs2 _ Tryz.underlying39 HI2.out (OB.cells0 (Fp2_8.out)) ?_)
    | (refine wpList_load_rep_g (by rfl) 47 (.tmp 8) rfl (gB3) 0 rfl t3 _ Tryz.underlying47 HJ3.out (OB.cells0 (Fb3_8.out)) ?_)
    | (refine wpList_load_rep_g (by rfl) 31 (.tmp 10) rfl (w4.heap.size) 0 rfl t4 _ Tryz.underlying31 HJ4.out (OB.cells0 (Fb5_8.out)) ?_)
    | (refine wpList_load_rep_g (by rfl) 47 (.tmp 11) rfl (w6.heap.size) 0 rfl t6 _ Tryz.underlying47 HJ6.out (OB.cells0 (Fb7_8.out)) ?_)
    | (refine wpList_load_rep_g (by rfl) 47 (.tmp 12) rfl (gB8) 0 rfl t8 _ Tryz.underlying47 HJ8.out (OB.cells0 (HOB8.out)) ?_)
    | (refine wpList_load_rep rfl 24 (.tmp 3) rfl (w.heap.size) 0 rfl cs0 _ Tryz.underlying24 HI0.out (OB.cells0 (Fp0_8.out)) ?_)
    | (refine wpList_load_rep rfl 26 (.tmp 4) rfl (w.heap.size + 1) 0 rfl cs1 _ Tryz.underlying26 HI1.out (OB.cells0 (Fp1_8.out)) ?_)
    | (refine wpList_load_rep rfl 39 (.tmp 5) rfl (w.heap.size + 1 + 1) 0 rfl cs2 _ Tryz.underlying39 HI2.out (OB.cells0 (Fp2_8.out)) ?_)
    | (refine wpList_load_rep rfl 47 (.tmp 8) rfl (gB3) 0 rfl t3 _ Tryz.underlying47 HJ3.out (OB.cells0 (Fb3_8.out)) ?_)
    | (refine wpList_load_rep rfl 31 (.tmp 10) rfl (w4.heap.size) 0 rfl t4 _ Tryz.underlying31 HJ4.out (OB.cells0 (Fb5_8.out)) ?_)
    | (refine wpList_load_rep rfl 47 (.tmp 11) rfl (w6.heap.size) 0 rfl t6 _ Tryz.underlying47 HJ6.out (OB.cells0 (Fb7_8.out)) ?_)
    | (refine wpList_load_rep rfl 47 (.tmp 12) rfl (gB8) 0 rfl t8 _ Tryz.underlying47 HJ8.out (OB.cells0 (HOB8.out)) ?_))
  refine (eqType_all (x0.assocOf x1 x2).1 _ _ _ (HO8.out).rep (HO3.out.ext Ft3_8.out)).mono ?_; rintro e w9 ⟨rfl, hw9⟩
  have Fp0_9 := Lib.hid ((Fp0_8.out).ext hw9)
  have Fp1_9 := Lib.hid ((Fp1_8.out).ext hw9)
  have Fp2_9 := Lib.hid ((Fp2_8.out).ext hw9)
  have Ft3_9 := Lib.hid (Ext.trans Ft3_8.out hw9)
  have Fb3_9 := Lib.hid ((Fb3_8.out).ext hw9)
  have Ft4_9 := Lib.hid ((Ft4_8.out).ext hw9)
  have Fb5_9 := Lib.hid ((Fb5_8.out).ext hw9)
  have Ft6_9 := Lib.hid ((Ft6_8.out).ext hw9)
  have Fb7_9 := Lib.hid ((Fb7_8.out).ext hw9)
  have Ft8_9 := Lib.hid ((HO8.out).ext hw9)
  have Fb8_9 := Lib.hid ((HOB8.out).ext hw9)
  have X9 := Lib.hid (Ext.trans X8.out hw9)
  have z9 : w8.heap.size ≤ w9.heap.size := hw9.size
  clear hw9
  go_wp2_with (first
    | (refine wpList_load_rep rfl 24 (.tmp 3) rfl (w.heap.size) 0 rfl cs0 _ Tryz.underlying24 HI0.out (OB.cells0 (Fp0_9.out)) ?_)
    | (refine wpList_load_rep rfl 26 (.tmp 4) rfl (w.heap.size + 1) 0 rfl cs1 _ Tryz.underlying26 HI1.out (OB.cells0 (Fp1_9.out)) ?_)
    | (refine wpList_load_rep rfl 39 (.tmp 5) rfl (w.heap.size + 1 + 1) 0 rfl cs2 _ Tryz.underlying39 HI2.out (OB.cells0 (Fp2_9.out)) ?_)
    | (refine wpList_load_rep rfl 47 (.tmp 8) rfl (gB3) 0 rfl t3 _ Tryz.underlying47 HJ3.out (OB.cells0 (Fb3_9.out)) ?_)
    | (refine wpList_load_rep rfl 31 (.tmp 10) rfl (w4.heap.size) 0 rfl t4 _ Tryz.underlying31 HJ4.out (OB.cells0 (Fb5_9.out)) ?_)
    | (refine wpList_load_rep rfl 47 (.tmp 11) rfl (w6.heap.size) 0 rfl t6 _ Tryz.underlying47 HJ6.out (OB.cells0 (Fb7_9.out)) ?_)
    | (refine wpList_load_rep rfl 47 (.tmp 12) rfl (gB8) 0 rfl t8 _ Tryz.underlying47 HJ8.out (OB.cells0 (Fb8_9.out)) ?_))
  refine wp_region_held_drew (S := Ext w9) (by kernel_rfl) (.drew (.refl _)) (fun hHeld => ?_)
  refine wpAnyH_load_rep (i := 0) rfl (by kernel_rfl) (by kernel_rfl) (by kernel_rfl) (fun _ _ _ h => h) rfl 31 (.tmp 10) rfl (w4.heap.size) 0 rfl t4 _ Tryz.underlying31 HJ4.out (fun w hS => OB.cells0 ((Fb5_9.out).ext hS)) (by assumption) (fun _ _ _ _ h => h) ?_
  simp only [Act.put, List.getElem_toArray, List.getElem_cons_zero, List.setIfInBounds_toArray, List.set_cons_zero, List.set_cons_succ]
  refine wpAnyH_load_rep (i := 1) rfl (by kernel_rfl) (by kernel_rfl) (by kernel_rfl) (fun _ _ _ h => h) rfl 24 (.tmp 3) rfl (w.heap.size) 0 rfl cs0 _ Tryz.underlying24 HI0.out (fun w hS => OB.cells0 ((Fp0_9.out).ext hS)) (by assumption) (fun _ _ _ _ h => h) ?_
  simp only [Act.put, List.getElem_toArray, List.getElem_cons_zero, List.getElem_cons_succ, List.setIfInBounds_toArray, List.set_cons_zero, List.set_cons_succ]
  refine wpAnyH_call (i := 2) (by kernel_rfl) rfl rfl (run_call_func rfl rfl #[.agg ⟨cs0⟩] (by simp only [List.map_toArray, List.map_cons, List.map_nil, Act.eval]; rfl) Tryz.func17 (by kernel_rfl) (by kernel_rfl) _) (toProgram_all x0 _ _ (HR0.out.ext (Ext.trans X9.out (.drew (.refl _)))) (by omega)) ?_; rintro e w10 ⟨t10, rfl, hw10, ho10⟩
  have HO10 := Lib.hid ho10
  have HT10 : Hid (t10.length = 1) := (by rw [ho10.1]; exact GProgram.tr_len _)
  have HJ10 : Hid ((Tryz.prog.info? 31).map (·.size) = some t10.length) := (by rw [HT10.out]; exact isz31)
  clear ho10
  have hs10 := Ext.trans hHeld hw10
  refine ⟨_, rfl, hs10, ?_⟩
  have Fp0_10 := Lib.hid (((Fp0_9.out).ext (Ext.drew (.refl w9))).ext hw10)
  have Fp1_10 := Lib.hid (((Fp1_9.out).ext (Ext.drew (.refl w9))).ext hw10)
  have Fp2_10 := Lib.hid (((Fp2_9.out).ext (Ext.drew (.refl w9))).ext hw10)
  have Ft3_10 := Lib.hid (Ext.trans (Ext.trans Ft3_9.out (Ext.drew (.refl w9))) hw10)
  have Fb3_10 := Lib.hid (((Fb3_9.out).ext (Ext.drew (.refl w9))).ext hw10)
  have Ft4_10 := Lib.hid (((Ft4_9.out).ext (Ext.drew (.refl w9))).ext hw10)
  have Fb5_10 := Lib.hid (((Fb5_9.out).ext (Ext.drew (.refl w9))).ext hw10)
  have Ft6_10 := Lib.hid (((Ft6_9.out).ext (Ext.drew (.refl w9))).ext hw10)
  have Fb7_10 := Lib.hid (((Fb7_9.out).ext (Ext.drew (.refl w9))).ext hw10)
  have Ft8_10 := Lib.hid (((Ft8_9.out).ext (Ext.drew (.refl w9))).ext hw10)
  have Fb8_10 := Lib.hid (((Fb8_9.out).ext (Ext.drew (.refl w9))).ext hw10)
  have X10 := Lib.hid (Ext.trans (Ext.trans X9.out (.drew (.refl _))) hw10)
  have z10 : w9.heap.size ≤ w10.heap.size := hw10.size
  simp only [Act.put, List.getElem_toArray, List.getElem_cons_zero, List.getElem_cons_succ, List.setIfInBounds_toArray, List.set_cons_zero, List.set_cons_succ]
  refine wpAnyH_call (i := 3) (by kernel_rfl) rfl rfl (run_call_func rfl rfl #[.agg ⟨t4⟩, .agg ⟨t10⟩] (by simp only [List.map_toArray, List.map_cons, List.map_nil, Act.eval]; rfl) Tryz.func20 (by kernel_rfl) (by kernel_rfl) _) (eqProgram_all x0 _ _ _ (Ft4_10.out).rep (HO10.out).rep) ?_; rintro e w11 ⟨rfl, hw11⟩
  have hs11 := Ext.trans hs10 hw11
  refine ⟨_, rfl, hs11, ?_⟩
  have Fp0_11 := Lib.hid ((Fp0_10.out).ext hw11)
  have Fp1_11 := Lib.hid ((Fp1_10.out).ext hw11)
  have Fp2_11 := Lib.hid ((Fp2_10.out).ext hw11)
  have Ft3_11 := Lib.hid (Ext.trans Ft3_10.out hw11)
  have Fb3_11 := Lib.hid ((Fb3_10.out).ext hw11)
  have Ft4_11 := Lib.hid ((Ft4_10.out).ext hw11)
  have Fb5_11 := Lib.hid ((Fb5_10.out).ext hw11)
  have Ft6_11 := Lib.hid ((Ft6_10.out).ext hw11)
  have Fb7_11 := Lib.hid ((Fb7_10.out).ext hw11)
  have Ft8_11 := Lib.hid ((Ft8_10.out).ext hw11)
  have Fb8_11 := Lib.hid ((Fb8_10.out).ext hw11)
  have Ft10_11 := Lib.hid ((HO10.out).ext hw11)
  have X11 := Lib.hid (Ext.trans X10.out hw11)
  have z11 : w10.heap.size ≤ w11.heap.size := hw11.size
  simp only [Act.put, List.getElem_toArray, List.getElem_cons_zero, List.getElem_cons_succ, List.setIfInBounds_toArray, List.set_cons_zero, List.set_cons_succ]
  refine wpAnyH_take (i := 4) rfl (by kernel_rfl) (by kernel_rfl) (by kernel_rfl) (fun _ _ _ h => h) (.inl ⟨rfl, fun _ _ => rfl⟩) (by assumption) ?_
  simp only [Act.put, List.getElem_toArray, List.getElem_cons_zero, List.getElem_cons_succ, List.setIfInBounds_toArray, List.set_cons_zero, List.set_cons_succ]
  refine wpAnyH_done (by kernel_rfl) ?_ _
  clear hHeld hs10 hw10 hs11 hw11
  go_wp2_with (first
    | (refine wpList_load_rep rfl 24 (.tmp 3) rfl (w.heap.size) 0 rfl cs0 _ Tryz.underlying24 HI0.out (OB.cells0 (Fp0_11.out)) ?_)
    | (refine wpList_load_rep rfl 26 (.tmp 4) rfl (w.heap.size + 1) 0 rfl cs1 _ Tryz.underlying26 HI1.out (OB.cells0 (Fp1_11.out)) ?_)
    | (refine wpList_load_rep rfl 39 (.tmp 5) rfl (w.heap.size + 1 + 1) 0 rfl cs2 _ Tryz.underlying39 HI2.out (OB.cells0 (Fp2_11.out)) ?_)
    | (refine wpList_load_rep rfl 47 (.tmp 8) rfl (gB3) 0 rfl t3 _ Tryz.underlying47 HJ3.out (OB.cells0 (Fb3_11.out)) ?_)
    | (refine wpList_load_rep rfl 31 (.tmp 10) rfl (w4.heap.size) 0 rfl t4 _ Tryz.underlying31 HJ4.out (OB.cells0 (Fb5_11.out)) ?_)
    | (refine wpList_load_rep rfl 47 (.tmp 11) rfl (w6.heap.size) 0 rfl t6 _ Tryz.underlying47 HJ6.out (OB.cells0 (Fb7_11.out)) ?_)
    | (refine wpList_load_rep rfl 47 (.tmp 12) rfl (gB8) 0 rfl t8 _ Tryz.underlying47 HJ8.out (OB.cells0 (Fb8_11.out)) ?_))
  refine wp_region_held_drew (S := Ext w11) (by kernel_rfl) (.drew (.refl _)) (fun hHeld => ?_)
  refine wpAnyH_load_rep (i := 0) rfl (by kernel_rfl) (by kernel_rfl) (by kernel_rfl) (fun _ _ _ h => h) rfl 47 (.tmp 11) rfl (w6.heap.size) 0 rfl t6 _ Tryz.underlying47 HJ6.out (fun w hS => OB.cells0 ((Fb7_11.out).ext hS)) (by assumption) (fun _ _ _ _ h => h) ?_
  simp only [Act.put, List.getElem_toArray, List.getElem_cons_zero, List.setIfInBounds_toArray, List.set_cons_zero, List.set_cons_succ]
  refine wpAnyH_load_rep (i := 1) rfl (by kernel_rfl) (by kernel_rfl) (by kernel_rfl) (fun _ _ _ h => h) rfl 39 (.tmp 5) rfl (w.heap.size + 1 + 1) 0 rfl cs2 _ Tryz.underlying39 HI2.out (fun w hS => OB.cells0 ((Fp2_11.out).ext hS)) (by assumption) (fun _ _ _ _ h => h) ?_
  simp only [Act.put, List.getElem_toArray, List.getElem_cons_zero, List.getElem_cons_succ, List.setIfInBounds_toArray, List.set_cons_zero, List.set_cons_succ]
  refine wpAnyH_call (i := 2) (by kernel_rfl) rfl rfl (run_call_func rfl rfl #[.agg ⟨cs2⟩] (by simp only [List.map_toArray, List.map_cons, List.map_nil, Act.eval]; rfl) Tryz.func45 (by kernel_rfl) (by kernel_rfl) _) (toType_all x2 _ _ (HR2.out.ext (Ext.trans X11.out (.drew (.refl _)))) (by omega)) ?_; rintro e w12 ⟨t12, rfl, hw12, ho12⟩
  have HO12 := Lib.hid ho12
  have HT12 : Hid (t12.length = 3) := (by rw [ho12.1]; exact GType.tr_len _)
  have HJ12 : Hid ((Tryz.prog.info? 47).map (·.size) = some t12.length) := (by rw [HT12.out]; exact isz47)
  clear ho12
  have hs12 := Ext.trans hHeld hw12
  refine ⟨_, rfl, hs12, ?_⟩
  have Fp0_12 := Lib.hid (((Fp0_11.out).ext (Ext.drew (.refl w11))).ext hw12)
  have Fp1_12 := Lib.hid (((Fp1_11.out).ext (Ext.drew (.refl w11))).ext hw12)
  have Fp2_12 := Lib.hid (((Fp2_11.out).ext (Ext.drew (.refl w11))).ext hw12)
  have Ft3_12 := Lib.hid (Ext.trans (Ext.trans Ft3_11.out (Ext.drew (.refl w11))) hw12)
  have Fb3_12 := Lib.hid (((Fb3_11.out).ext (Ext.drew (.refl w11))).ext hw12)
  have Ft4_12 := Lib.hid (((Ft4_11.out).ext (Ext.drew (.refl w11))).ext hw12)
  have Fb5_12 := Lib.hid (((Fb5_11.out).ext (Ext.drew (.refl w11))).ext hw12)
  have Ft6_12 := Lib.hid (((Ft6_11.out).ext (Ext.drew (.refl w11))).ext hw12)
  have Fb7_12 := Lib.hid (((Fb7_11.out).ext (Ext.drew (.refl w11))).ext hw12)
  have Ft8_12 := Lib.hid (((Ft8_11.out).ext (Ext.drew (.refl w11))).ext hw12)
  have Fb8_12 := Lib.hid (((Fb8_11.out).ext (Ext.drew (.refl w11))).ext hw12)
  have X12 := Lib.hid (Ext.trans (Ext.trans X11.out (.drew (.refl _))) hw12)
  have z12 : w11.heap.size ≤ w12.heap.size := hw12.size
  simp only [Act.put, List.getElem_toArray, List.getElem_cons_zero, List.getElem_cons_succ, List.setIfInBounds_toArray, List.set_cons_zero, List.set_cons_succ]
  refine wpAnyH_call (i := 3) (by kernel_rfl) rfl rfl (run_call_func rfl rfl #[.agg ⟨t6⟩, .agg ⟨t12⟩] (by simp only [List.map_toArray, List.map_cons, List.map_nil, Act.eval]; rfl) Tryz.func47 (by kernel_rfl) (by kernel_rfl) _) (eqType_all x2 _ _ _ (Ft6_12.out).rep (HO12.out).rep) ?_; rintro e w13 ⟨rfl, hw13⟩
  have hs13 := Ext.trans hs12 hw13
  refine ⟨_, rfl, hs13, ?_⟩
  have Fp0_13 := Lib.hid ((Fp0_12.out).ext hw13)
  have Fp1_13 := Lib.hid ((Fp1_12.out).ext hw13)
  have Fp2_13 := Lib.hid ((Fp2_12.out).ext hw13)
  have Ft3_13 := Lib.hid (Ext.trans Ft3_12.out hw13)
  have Fb3_13 := Lib.hid ((Fb3_12.out).ext hw13)
  have Ft4_13 := Lib.hid ((Ft4_12.out).ext hw13)
  have Fb5_13 := Lib.hid ((Fb5_12.out).ext hw13)
  have Ft6_13 := Lib.hid ((Ft6_12.out).ext hw13)
  have Fb7_13 := Lib.hid ((Fb7_12.out).ext hw13)
  have Ft8_13 := Lib.hid ((Ft8_12.out).ext hw13)
  have Fb8_13 := Lib.hid ((Fb8_12.out).ext hw13)
  have Ft12_13 := Lib.hid ((HO12.out).ext hw13)
  have X13 := Lib.hid (Ext.trans X12.out hw13)
  have z13 : w12.heap.size ≤ w13.heap.size := hw13.size
  simp only [Act.put, List.getElem_toArray, List.getElem_cons_zero, List.getElem_cons_succ, List.setIfInBounds_toArray, List.set_cons_zero, List.set_cons_succ]
  refine wpAnyH_take (i := 4) rfl (by kernel_rfl) (by kernel_rfl) (by kernel_rfl) (fun _ _ _ h => h) (.inl ⟨rfl, fun _ _ => rfl⟩) (by assumption) ?_
  simp only [Act.put, List.getElem_toArray, List.getElem_cons_zero, List.getElem_cons_succ, List.setIfInBounds_toArray, List.set_cons_zero, List.set_cons_succ]
  refine wpAnyH_done (by kernel_rfl) ?_ _
  clear hHeld hs12 hw12 hs13 hw13
  go_wp2_with (first
    | (refine wpList_load_rep rfl 24 (.tmp 3) rfl (w.heap.size) 0 rfl cs0 _ Tryz.underlying24 HI0.out (OB.cells0 (Fp0_13.out)) ?_)
    | (refine wpList_load_rep rfl 26 (.tmp 4) rfl (w.heap.size + 1) 0 rfl cs1 _ Tryz.underlying26 HI1.out (OB.cells0 (Fp1_13.out)) ?_)
    | (refine wpList_load_rep rfl 39 (.tmp 5) rfl (w.heap.size + 1 + 1) 0 rfl cs2 _ Tryz.underlying39 HI2.out (OB.cells0 (Fp2_13.out)) ?_)
    | (refine wpList_load_rep rfl 47 (.tmp 8) rfl (gB3) 0 rfl t3 _ Tryz.underlying47 HJ3.out (OB.cells0 (Fb3_13.out)) ?_)
    | (refine wpList_load_rep rfl 31 (.tmp 10) rfl (w4.heap.size) 0 rfl t4 _ Tryz.underlying31 HJ4.out (OB.cells0 (Fb5_13.out)) ?_)
    | (refine wpList_load_rep rfl 47 (.tmp 11) rfl (w6.heap.size) 0 rfl t6 _ Tryz.underlying47 HJ6.out (OB.cells0 (Fb7_13.out)) ?_)
    | (refine wpList_load_rep rfl 47 (.tmp 12) rfl (gB8) 0 rfl t8 _ Tryz.underlying47 HJ8.out (OB.cells0 (Fb8_13.out)) ?_))
  obtain ⟨mk_t4_1, Hmk_t4_1⟩ : ∃ q, Hid (1 + Tr.topN (x0).tr = q) := ⟨_, rfl⟩
  refine (markProgram_all x0 _ _ 1 (Between w3 w4) _ (by rfl) (Ft4_13.out) (fun b hb => by have h1 := hb.1; have h2 := hb.2; omega) (by have := GProgram.top_le x0; omega)).mono ?_; rintro e w14 ⟨he, hm14, hc14⟩
  rw [Hmk_t4_1.out] at he
  subst he
  have Fp0_14 := Lib.hid (obchg (Fp0_13.out) hc14 (fun h => by have h1 := h.1; have h2 := h.2; omega))
  have Fp1_14 := Lib.hid (obchg (Fp1_13.out) hc14 (fun h => by have h1 := h.1; have h2 := h.2; omega))
  have Fp2_14 := Lib.hid (obchg (Fp2_13.out) hc14 (fun h => by have h1 := h.1; have h2 := h.2; omega))
  have Ft3_14 := Lib.hid (Chg.ext Ft3_13.out hc14 (fun b hb => by have h1 := hb.1; omega))
  have Fb3_14 := Lib.hid (obchg (Fb3_13.out) hc14 (fun h => by have h1 := h.1; have h2 := h.2; omega))
  have Fb5_14 := Lib.hid (obchg (Fb5_13.out) hc14 (fun h => by have h1 := h.1; have h2 := h.2; omega))
  have Ft6_14 := Lib.hid ((Ft6_13.out).keep fun b hb hl => hc14.block b hl (fun hs => by have h1 := hb.1; have h2 := hb.2; have h3 := hs.1; have h4 := hs.2; omega))
  have Fb7_14 := Lib.hid (obchg (Fb7_13.out) hc14 (fun h => by have h1 := h.1; have h2 := h.2; omega))
  have Ft8_14 := Lib.hid ((Ft8_13.out).keep fun b hb hl => hc14.block b hl (fun hs => by have h1 := hb.1; have h2 := hb.2; have h3 := hs.1; have h4 := hs.2; omega))
  have Fb8_14 := Lib.hid (obchg (Fb8_13.out) hc14 (fun h => by have h1 := h.1; have h2 := h.2; omega))
  have X14 := Lib.hid (Chg.ext X13.out hc14 (fun b hb => by have h1 := hb.1; omega))
  have z14 : w13.heap.size ≤ w14.heap.size := hc14.size
  have Ft4_14 := Lib.hid hm14
  clear hc14 hm14
  have hng14 : ¬ ((mk_t4_1 : Nat) : Int) < 0 := by omega
  go_wp2_with (first
    | (refine wpList_load_rep rfl 24 (.tmp 3) rfl (w.heap.size) 0 rfl cs0 _ Tryz.underlying24 HI0.out (OB.cells0 (Fp0_14.out)) ?_)
    | (refine wpList_load_rep rfl 26 (.tmp 4) rfl (w.heap.size + 1) 0 rfl cs1 _ Tryz.underlying26 HI1.out (OB.cells0 (Fp1_14.out)) ?_)
    | (refine wpList_load_rep rfl 39 (.tmp 5) rfl (w.heap.size + 1 + 1) 0 rfl cs2 _ Tryz.underlying39 HI2.out (OB.cells0 (Fp2_14.out)) ?_)
    | (refine wpList_load_rep rfl 47 (.tmp 8) rfl (gB3) 0 rfl t3 _ Tryz.underlying47 HJ3.out (OB.cells0 (Fb3_14.out)) ?_)
    | (refine wpList_load_rep rfl 31 (.tmp 10) rfl (w4.heap.size) 0 rfl t4 _ Tryz.underlying31 HJ4.out (OB.cells0 (Fb5_14.out)) ?_)
    | (refine wpList_load_rep rfl 47 (.tmp 11) rfl (w6.heap.size) 0 rfl t6 _ Tryz.underlying47 HJ6.out (OB.cells0 (Fb7_14.out)) ?_)
    | (refine wpList_load_rep rfl 47 (.tmp 12) rfl (gB8) 0 rfl t8 _ Tryz.underlying47 HJ8.out (OB.cells0 (Fb8_14.out)) ?_))
  obtain ⟨mk_t6_mk_t4_1, Hmk_t6_mk_t4_1⟩ : ∃ q, Hid (mk_t4_1 + Tr.topN (x2).tr = q) := ⟨_, rfl⟩
  refine (markType_all x2 _ _ mk_t4_1 (Between w5 w6) _ (by rfl) (Ft6_14.out) (fun b hb => by have h1 := hb.1; have h2 := hb.2; omega) (by have h0 := GProgram.top_le x0; have h1 := Hmk_t4_1.out; have h2 := Tr.topN_cnt x2.tr; have h3 := GType.cnt_le x2; omega)).mono ?_; rintro e w15 ⟨he, hm15, hc15⟩
  rw [Hmk_t6_mk_t4_1.out] at he
  subst he
  have Fp0_15 := Lib.hid (obchg (Fp0_14.out) hc15 (fun h => by have h1 := h.1; have h2 := h.2; omega))
  have Fp1_15 := Lib.hid (obchg (Fp1_14.out) hc15 (fun h => by have h1 := h.1; have h2 := h.2; omega))
  have Fp2_15 := Lib.hid (obchg (Fp2_14.out) hc15 (fun h => by have h1 := h.1; have h2 := h.2; omega))
  have Ft3_15 := Lib.hid (Chg.ext Ft3_14.out hc15 (fun b hb => by have h1 := hb.1; omega))
  have Fb3_15 := Lib.hid (obchg (Fb3_14.out) hc15 (fun h => by have h1 := h.1; have h2 := h.2; omega))
  have Ft4_15 := Lib.hid ((Ft4_14.out).keep fun b hb hl => hc15.block b hl (fun hs => by have h1 := hb.1; have h2 := hb.2; have h3 := hs.1; have h4 := hs.2; omega))
  have Fb5_15 := Lib.hid (obchg (Fb5_14.out) hc15 (fun h => by have h1 := h.1; have h2 := h.2; omega))
  have Fb7_15 := Lib.hid (obchg (Fb7_14.out) hc15 (fun h => by have h1 := h.1; have h2 := h.2; omega))
  have Ft8_15 := Lib.hid ((Ft8_14.out).keep fun b hb hl => hc15.block b hl (fun hs => by have h1 := hb.1; have h2 := hb.2; have h3 := hs.1; have h4 := hs.2; omega))
  have Fb8_15 := Lib.hid (obchg (Fb8_14.out) hc15 (fun h => by have h1 := h.1; have h2 := h.2; omega))
  have X15 := Lib.hid (Chg.ext X14.out hc15 (fun b hb => by have h1 := hb.1; omega))
  have z15 : w14.heap.size ≤ w15.heap.size := hc15.size
  have Ft6_15 := Lib.hid hm15
  clear hc15 hm15
  have hng15 : ¬ ((mk_t6_mk_t4_1 : Nat) : Int) < 0 := by omega
  go_wp2_with (first
    | (refine wpList_load_rep_g (by rfl) 24 (.tmp 3) rfl (w.heap.size) 0 rfl cs0 _ Tryz.underlying24 HI0.out (OB.cells0 (Fp0_15.out)) ?_)
    | (refine wpList_load_rep_g (by rfl) 26 (.tmp 4) rfl (w.heap.size + 1) 0 rfl cs1 _ Tryz.underlying26 HI1.out (OB.cells0 (Fp1_15.out)) ?_)
    | (refine wpList_load_rep_g (by rfl) 39 (.tmp 5) rfl (w.heap.size + 1 + 1) 0 rfl cs2 _ Tryz.underlying39 HI2.out (OB.cells0 (Fp2_15.out)) ?_)
    | (refine wpList_load_rep_g (by rfl) 47 (.tmp 8) rfl (gB3) 0 rfl t3 _ Tryz.underlying47 HJ3.out (OB.cells0 (Fb3_15.out)) ?_)
    | (refine wpList_load_rep_g (by rfl) 31 (.tmp 10) rfl (w4.heap.size) 0 rfl t4 _ Tryz.underlying31 HJ4.out (OB.cells0 (Fb5_15.out)) ?_)
    | (refine wpList_load_rep_g (by rfl) 47 (.tmp 11) rfl (w6.heap.size) 0 rfl t6 _ Tryz.underlying47 HJ6.out (OB.cells0 (Fb7_15.out)) ?_)
    | (refine wpList_load_rep_g (by rfl) 47 (.tmp 12) rfl (gB8) 0 rfl t8 _ Tryz.underlying47 HJ8.out (OB.cells0 (Fb8_15.out)) ?_)
    | (refine wpList_load_rep rfl 24 (.tmp 3) rfl (w.heap.size) 0 rfl cs0 _ Tryz.underlying24 HI0.out (OB.cells0 (Fp0_15.out)) ?_)
    | (refine wpList_load_rep rfl 26 (.tmp 4) rfl (w.heap.size + 1) 0 rfl cs1 _ Tryz.underlying26 HI1.out (OB.cells0 (Fp1_15.out)) ?_)
    | (refine wpList_load_rep rfl 39 (.tmp 5) rfl (w.heap.size + 1 + 1) 0 rfl cs2 _ Tryz.underlying39 HI2.out (OB.cells0 (Fp2_15.out)) ?_)
    | (refine wpList_load_rep rfl 47 (.tmp 8) rfl (gB3) 0 rfl t3 _ Tryz.underlying47 HJ3.out (OB.cells0 (Fb3_15.out)) ?_)
    | (refine wpList_load_rep rfl 31 (.tmp 10) rfl (w4.heap.size) 0 rfl t4 _ Tryz.underlying31 HJ4.out (OB.cells0 (Fb5_15.out)) ?_)
    | (refine wpList_load_rep rfl 47 (.tmp 11) rfl (w6.heap.size) 0 rfl t6 _ Tryz.underlying47 HJ6.out (OB.cells0 (Fb7_15.out)) ?_)
    | (refine wpList_load_rep rfl 47 (.tmp 12) rfl (gB8) 0 rfl t8 _ Tryz.underlying47 HJ8.out (OB.cells0 (Fb8_15.out)) ?_))
  refine (eqType_all (x0.assocOf x1 x2).1 _ _ _ (Ft8_15.out).rep (HO3.out.ext Ft3_15.out)).mono ?_; rintro e w16 ⟨rfl, hw16⟩
  have Fp0_16 := Lib.hid ((Fp0_15.out).ext hw16)
  have Fp1_16 := Lib.hid ((Fp1_15.out).ext hw16)
  have Fp2_16 := Lib.hid ((Fp2_15.out).ext hw16)
  have Ft3_16 := Lib.hid (Ext.trans Ft3_15.out hw16)
  have Fb3_16 := Lib.hid ((Fb3_15.out).ext hw16)
  have Ft4_16 := Lib.hid ((Ft4_15.out).ext hw16)
  have Fb5_16 := Lib.hid ((Fb5_15.out).ext hw16)
  have Ft6_16 := Lib.hid ((Ft6_15.out).ext hw16)
  have Fb7_16 := Lib.hid ((Fb7_15.out).ext hw16)
  have Ft8_16 := Lib.hid ((Ft8_15.out).ext hw16)
  have Fb8_16 := Lib.hid ((Fb8_15.out).ext hw16)
  have X16 := Lib.hid (Ext.trans X15.out hw16)
  have z16 : w15.heap.size ≤ w16.heap.size := hw16.size
  clear hw16
  go_wp2_with (first
    | (refine wpList_load_rep rfl 24 (.tmp 3) rfl (w.heap.size) 0 rfl cs0 _ Tryz.underlying24 HI0.out (OB.cells0 (Fp0_16.out)) ?_)
    | (refine wpList_load_rep rfl 26 (.tmp 4) rfl (w.heap.size + 1) 0 rfl cs1 _ Tryz.underlying26 HI1.out (OB.cells0 (Fp1_16.out)) ?_)
    | (refine wpList_load_rep rfl 39 (.tmp 5) rfl (w.heap.size + 1 + 1) 0 rfl cs2 _ Tryz.underlying39 HI2.out (OB.cells0 (Fp2_16.out)) ?_)
    | (refine wpList_load_rep rfl 47 (.tmp 8) rfl (gB3) 0 rfl t3 _ Tryz.underlying47 HJ3.out (OB.cells0 (Fb3_16.out)) ?_)
    | (refine wpList_load_rep rfl 31 (.tmp 10) rfl (w4.heap.size) 0 rfl t4 _ Tryz.underlying31 HJ4.out (OB.cells0 (Fb5_16.out)) ?_)
    | (refine wpList_load_rep rfl 47 (.tmp 11) rfl (w6.heap.size) 0 rfl t6 _ Tryz.underlying47 HJ6.out (OB.cells0 (Fb7_16.out)) ?_)
    | (refine wpList_load_rep rfl 47 (.tmp 12) rfl (gB8) 0 rfl t8 _ Tryz.underlying47 HJ8.out (OB.cells0 (Fb8_16.out)) ?_))
  obtain ⟨mk_t8_1, Hmk_t8_1⟩ : ∃ q, Hid (1 + Tr.topN ((x0.assocOf x1 x2).1).tr = q) := ⟨_, rfl⟩
  refine (markType_all (x0.assocOf x1 x2).1 _ _ 1 (BetN lo8 hi8) _ (by rfl) (Ft8_16.out) (fun b hb => by have h1 := hb.1; have h2 := hb.2; omega) (x0.assoc_top x1 x2 (by omega) (by omega))).mono ?_; rintro e w17 ⟨he, hm17, hc17⟩
  rw [Hmk_t8_1.out] at he
  subst he
  have Fp0_17 := Lib.hid (obchg (Fp0_16.out) hc17 (fun h => by have h1 := h.1; have h2 := h.2; omega))
  have Fp1_17 := Lib.hid (obchg (Fp1_16.out) hc17 (fun h => by have h1 := h.1; have h2 := h.2; omega))
  have Fp2_17 := Lib.hid (obchg (Fp2_16.out) hc17 (fun h => by have h1 := h.1; have h2 := h.2; omega))
  have Ft3_17 := Lib.hid (Chg.ext Ft3_16.out hc17 (fun b hb => by have h1 := hb.1; omega))
  have Fb3_17 := Lib.hid (obchg (Fb3_16.out) hc17 (fun h => by have h1 := h.1; have h2 := h.2; omega))
  have Ft4_17 := Lib.hid ((Ft4_16.out).keep fun b hb hl => hc17.block b hl (fun hs => by have h1 := hb.1; have h2 := hb.2; have h3 := hs.1; have h4 := hs.2; omega))
  have Fb5_17 := Lib.hid (obchg (Fb5_16.out) hc17 (fun h => by have h1 := h.1; have h2 := h.2; omega))
  have Ft6_17 := Lib.hid ((Ft6_16.out).keep fun b hb hl => hc17.block b hl (fun hs => by have h1 := hb.1; have h2 := hb.2; have h3 := hs.1; have h4 := hs.2; omega))
  have Fb7_17 := Lib.hid (obchg (Fb7_16.out) hc17 (fun h => by have h1 := h.1; have h2 := h.2; omega))
  have Fb8_17 := Lib.hid (obchg (Fb8_16.out) hc17 (fun h => by have h1 := h.1; have h2 := h.2; omega))
  have X17 := Lib.hid (Chg.ext X16.out hc17 (fun b hb => by have h1 := hb.1; omega))
  have z17 : w16.heap.size ≤ w17.heap.size := hc17.size
  have Ft8_17 := Lib.hid hm17
  clear hc17 hm17
  have hng17 : ¬ ((mk_t8_1 : Nat) : Int) < 0 := by omega
  go_wp2_with (first
    | (refine wpList_load_rep rfl 24 (.tmp 3) rfl (w.heap.size) 0 rfl cs0 _ Tryz.underlying24 HI0.out (OB.cells0 (Fp0_17.out)) ?_)
    | (refine wpList_load_rep rfl 26 (.tmp 4) rfl (w.heap.size + 1) 0 rfl cs1 _ Tryz.underlying26 HI1.out (OB.cells0 (Fp1_17.out)) ?_)
    | (refine wpList_load_rep rfl 39 (.tmp 5) rfl (w.heap.size + 1 + 1) 0 rfl cs2 _ Tryz.underlying39 HI2.out (OB.cells0 (Fp2_17.out)) ?_)
    | (refine wpList_load_rep rfl 47 (.tmp 8) rfl (gB3) 0 rfl t3 _ Tryz.underlying47 HJ3.out (OB.cells0 (Fb3_17.out)) ?_)
    | (refine wpList_load_rep rfl 31 (.tmp 10) rfl (w4.heap.size) 0 rfl t4 _ Tryz.underlying31 HJ4.out (OB.cells0 (Fb5_17.out)) ?_)
    | (refine wpList_load_rep rfl 47 (.tmp 11) rfl (w6.heap.size) 0 rfl t6 _ Tryz.underlying47 HJ6.out (OB.cells0 (Fb7_17.out)) ?_)
    | (refine wpList_load_rep rfl 47 (.tmp 12) rfl (gB8) 0 rfl t8 _ Tryz.underlying47 HJ8.out (OB.cells0 (Fb8_17.out)) ?_))
  refine (heldType_all (x0.assocOf x1 x2).1 _ _ 1 _ (by rfl) (Ft8_17.out).rep (x0.assoc_top x1 x2 (by omega) (by omega))).mono ?_; rintro e w18 ⟨he, hw18⟩
  rw [Hmk_t8_1.out] at he
  subst he
  have Fp0_18 := Lib.hid ((Fp0_17.out).ext hw18)
  have Fp1_18 := Lib.hid ((Fp1_17.out).ext hw18)
  have Fp2_18 := Lib.hid ((Fp2_17.out).ext hw18)
  have Ft3_18 := Lib.hid (Ext.trans Ft3_17.out hw18)
  have Fb3_18 := Lib.hid ((Fb3_17.out).ext hw18)
  have Ft4_18 := Lib.hid ((Ft4_17.out).ext hw18)
  have Fb5_18 := Lib.hid ((Fb5_17.out).ext hw18)
  have Ft6_18 := Lib.hid ((Ft6_17.out).ext hw18)
  have Fb7_18 := Lib.hid ((Fb7_17.out).ext hw18)
  have Ft8_18 := Lib.hid ((Ft8_17.out).ext hw18)
  have Fb8_18 := Lib.hid ((Fb8_17.out).ext hw18)
  have X18 := Lib.hid (Ext.trans X17.out hw18)
  have z18 : w17.heap.size ≤ w18.heap.size := hw18.size
  clear hw18
  go_upto_region 31 with (first
    | (refine wpList_load_rep rfl 24 (.tmp 3) rfl (w.heap.size) 0 rfl cs0 _ Tryz.underlying24 HI0.out (OB.cells0 (Fp0_18.out)) ?_)
    | (refine wpList_load_rep rfl 26 (.tmp 4) rfl (w.heap.size + 1) 0 rfl cs1 _ Tryz.underlying26 HI1.out (OB.cells0 (Fp1_18.out)) ?_)
    | (refine wpList_load_rep rfl 39 (.tmp 5) rfl (w.heap.size + 1 + 1) 0 rfl cs2 _ Tryz.underlying39 HI2.out (OB.cells0 (Fp2_18.out)) ?_)
    | (refine wpList_load_rep rfl 47 (.tmp 8) rfl (gB3) 0 rfl t3 _ Tryz.underlying47 HJ3.out (OB.cells0 (Fb3_18.out)) ?_)
    | (refine wpList_load_rep rfl 31 (.tmp 10) rfl (w4.heap.size) 0 rfl t4 _ Tryz.underlying31 HJ4.out (OB.cells0 (Fb5_18.out)) ?_)
    | (refine wpList_load_rep rfl 47 (.tmp 11) rfl (w6.heap.size) 0 rfl t6 _ Tryz.underlying47 HJ6.out (OB.cells0 (Fb7_18.out)) ?_)
    | (refine wpList_load_rep rfl 47 (.tmp 12) rfl (gB8) 0 rfl t8 _ Tryz.underlying47 HJ8.out (OB.cells0 (Fb8_18.out)) ?_))
  try simp only [Act.put, List.getElem_toArray, List.getElem_cons_zero, List.getElem_cons_succ, List.setIfInBounds_toArray, List.set_cons_zero, List.set_cons_succ]
  go_cut [17, 18] (fun s17 s18 wx => ∃ (B : Nat) (cs : List Value) (lo hi : Nat), s17 = .pointer (some ⟨B, 0, none⟩) ∧ s18 = .bool (x0.assocOf x1 x2).2 ∧ Hid (Ext w18 wx) ∧ w18.heap.size ≤ B ∧ Hid (OB wx B 47 ⟨cs⟩) ∧ Hid (OwnL wx (x0.assocOf x1 x2).1.tr cs (BetN lo hi)) ∧ w18.heap.size ≤ lo ∧ hi ≤ wx.heap.size ∧ (B < lo ∨ hi ≤ B))
  case first =>
    refine wp_region_held_drew (S := Ext w18) (by kernel_rfl) (.drew (.refl _)) (fun hHeld => ?_)
    refine wpAnyH_load_rep (i := 0) rfl (by kernel_rfl) (by kernel_rfl) (by kernel_rfl) (fun _ _ _ h => h) rfl 24 (.tmp 3) rfl (w.heap.size) 0 rfl cs0 _ Tryz.underlying24 HI0.out (fun w hS => OB.cells0 ((Fp0_18.out).ext hS)) (by assumption) (fun _ _ _ _ h => h) ?_; refine wpAnyH_load_rep (i := 2) rfl (by kernel_rfl) (by kernel_rfl) (by kernel_rfl) (fun _ _ _ h => h) rfl 26 (.tmp 4) rfl (w.heap.size + 1) 0 rfl cs1 _ Tryz.underlying26 HI1.out (fun w hS => OB.cells0 ((Fp1_18.out).ext hS)) (by assumption) (fun _ _ _ _ h => h) ?_; refine wpAnyH_load_rep (i := 4) rfl (by kernel_rfl) (by kernel_rfl) (by kernel_rfl) (fun _ _ _ h => h) rfl 39 (.tmp 5) rfl (w.heap.size + 1 + 1) 0 rfl cs2 _ Tryz.underlying39 HI2.out (fun w hS => OB.cells0 ((Fp2_18.out).ext hS)) (by assumption) (fun _ _ _ _ h => h) ?_
    simp only [Act.put, List.getElem_toArray, List.getElem_cons_zero, List.getElem_cons_succ, List.setIfInBounds_toArray, List.set_cons_zero, List.set_cons_succ]
    have hzd : w18.drew.heap.size = w18.heap.size := rfl
    refine wpAnyH_all (rs := [1, 10]) (by kernel_rfl) (by simp) (fun i hi => ?_)
    rcases (by simpa using hi : i = 1 ∨ i = 10) with rfl | rfl
    · refine wpOp_call rfl rfl (run_call_func rfl rfl #[.agg ⟨cs0⟩] (by simp only [List.map_toArray, List.map_cons, List.map_nil, Act.eval]; rfl) Tryz.func17 (by kernel_rfl) (by kernel_rfl) _) (toProgram_all x0 _ _ (HR0.out.ext (Ext.trans X18.out (.drew (.refl _)))) (by omega)) ?_; rintro e w19 ⟨t19, rfl, hw19, ho19⟩
      have HO19 := Lib.hid ho19
      have HT19 : Hid (t19.length = 1) := (by rw [ho19.1]; exact GProgram.tr_len _)
      have HJ19 : Hid ((Tryz.prog.info? 31).map (·.size) = some t19.length) := (by rw [HT19.out]; exact isz31)
      clear ho19
      have hs19 := Ext.trans hHeld hw19
      refine ⟨_, rfl, hs19, ?_⟩
      have X19 := Lib.hid (Ext.trans (Ext.trans X18.out (.drew (.refl _))) hw19)
      have z19 : w18.heap.size ≤ w19.heap.size := hw19.size
      simp only [Act.put, List.getElem_toArray, List.getElem_cons_zero, List.getElem_cons_succ, List.setIfInBounds_toArray, List.set_cons_zero, List.set_cons_succ]
      refine wpAnyH_all (rs := [3, 10]) (by kernel_rfl) (by simp) (fun i hi => ?_)
      rcases (by simpa using hi : i = 3 ∨ i = 10) with rfl | rfl
      · refine wpOp_call rfl rfl (run_call_func rfl rfl #[.agg ⟨cs1⟩] (by simp only [List.map_toArray, List.map_cons, List.map_nil, Act.eval]; rfl) Tryz.func18 (by kernel_rfl) (by kernel_rfl) _) (toInstanceRef_all x1 _ _ (HR1.out.ext X19.out) (by have hz0 : Tr.bulkL (GInstanceRef.tr x1) = 0 := (by cases x1; rfl); omega)) ?_; rintro e w20 ⟨t20, rfl, hw20, ho20⟩
        have HO20 := Lib.hid ho20
        have HT20 : Hid (t20.length = 2) := (by rw [ho20.1]; exact GInstanceRef.tr_len _)
        have HJ20 : Hid ((Tryz.prog.info? 33).map (·.size) = some t20.length) := (by rw [HT20.out]; exact isz33)
        clear ho20
        have hs20 := Ext.trans hs19 hw20
        refine ⟨_, rfl, hs20, ?_⟩
        have Ft19_20 := Lib.hid ((HO19.out).ext hw20)
        have X20 := Lib.hid (Ext.trans X19.out hw20)
        have z20 : w19.heap.size ≤ w20.heap.size := hw20.size
        simp only [Act.put, List.getElem_toArray, List.getElem_cons_zero, List.getElem_cons_succ, List.setIfInBounds_toArray, List.set_cons_zero, List.set_cons_succ]
        refine wpAnyH_all (rs := [5, 10]) (by kernel_rfl) (by simp) (fun i hi => ?_)
        rcases (by simpa using hi : i = 5 ∨ i = 10) with rfl | rfl
        · refine wpOp_call rfl rfl (run_call_func rfl rfl #[.agg ⟨cs2⟩] (by simp only [List.map_toArray, List.map_cons, List.map_nil, Act.eval]; rfl) Tryz.func45 (by kernel_rfl) (by kernel_rfl) _) (toType_all x2 _ _ (HR2.out.ext X20.out) (by omega)) ?_; rintro e w21 ⟨t21, rfl, hw21, ho21⟩
          have HO21 := Lib.hid ho21
          have HT21 : Hid (t21.length = 3) := (by rw [ho21.1]; exact GType.tr_len _)
          have HJ21 : Hid ((Tryz.prog.info? 47).map (·.size) = some t21.length) := (by rw [HT21.out]; exact isz47)
          clear ho21
          have hs21 := Ext.trans hs20 hw21
          refine ⟨_, rfl, hs21, ?_⟩
          have Ft19_21 := Lib.hid ((Ft19_20.out).ext hw21)
          have Ft20_21 := Lib.hid ((HO20.out).ext hw21)
          have X21 := Lib.hid (Ext.trans X20.out hw21)
          have z21 : w20.heap.size ≤ w21.heap.size := hw21.size
          simp only [Act.put, List.getElem_toArray, List.getElem_cons_zero, List.getElem_cons_succ, List.setIfInBounds_toArray, List.set_cons_zero, List.set_cons_succ]
          refine wpAnyH_all (rs := [6, 10]) (by kernel_rfl) (by simp) (fun i hi => ?_)
          rcases (by simpa using hi : i = 6 ∨ i = 10) with rfl | rfl
          · refine wpOp_call rfl rfl (run_call_func rfl rfl #[.agg ⟨t19⟩, .agg ⟨t20⟩, .agg ⟨t21⟩] (by simp only [List.map_toArray, List.map_cons, List.map_nil, Act.eval]; rfl) Tryz.func46 (by kernel_rfl) (by kernel_rfl) _) (assocP_impl x0 x1 x2 _ _ _ _ ((Ft19_21.out).rep) ((Ft20_21.out).rep) ((HO21.out).rep) (by have := x0.inst_head_bulk x1; omega) (by have := x0.inst_assoc_bulk x1; omega) (by omega)) ?_; rintro e w22 ⟨t22, rfl, hw22, ho22⟩
            have HO22 := Lib.hid ho22
            have HT22 : Hid (t22.length = 3) := (by rw [ho22.1]; exact GType.tr_len _)
            have HJ22 : Hid ((Tryz.prog.info? 47).map (·.size) = some t22.length) := (by rw [HT22.out]; exact isz47)
            clear ho22
            have hs22 := Ext.trans hs21 hw22
            refine ⟨_, rfl, hs22, ?_⟩
            have Ft19_22 := Lib.hid ((Ft19_21.out).ext hw22)
            have Ft20_22 := Lib.hid ((Ft20_21.out).ext hw22)
            have Ft21_22 := Lib.hid ((HO21.out).ext hw22)
            have X22 := Lib.hid (Ext.trans X21.out hw22)
            have z22 : w21.heap.size ≤ w22.heap.size := hw22.size
            simp only [Act.put, List.getElem_toArray, List.getElem_cons_zero, List.getElem_cons_succ, List.setIfInBounds_toArray, List.set_cons_zero, List.set_cons_succ]
            refine wpAnyH_take (i := 7) rfl (by kernel_rfl) (by kernel_rfl) (by kernel_rfl) (fun _ _ _ h => h) (.inl ⟨rfl, fun _ _ => rfl⟩) (by assumption) ?_; refine wpAnyH_take (i := 8) rfl (by kernel_rfl) (by kernel_rfl) (by kernel_rfl) (fun _ _ _ h => h) (.inl ⟨rfl, fun _ _ => rfl⟩) (by assumption) ?_; refine wpAnyH_take (i := 9) rfl (by kernel_rfl) (by kernel_rfl) (by kernel_rfl) (fun _ _ _ h => h) (.inl ⟨rfl, fun _ _ => rfl⟩) (by assumption) ?_
            simp only [Act.put, List.getElem_toArray, List.getElem_cons_zero, List.getElem_cons_succ, List.setIfInBounds_toArray, List.set_cons_zero, List.set_cons_succ]
            have hs23n := Ext.trans hs22 (Ext.alloc (.refl w22) (.cells #[.int .i64 0, .string ⟨#[]⟩, .slice none 0 0] 47))
            refine wpAnyH_run (i := 10) (v := .pointer (some ⟨w22.heap.size, 0, none⟩)) (w' := w22.alloc (.cells #[.int .i64 0, .string ⟨#[]⟩, .slice none 0 0] 47)) (by kernel_rfl) rfl rfl (by simp [execOp, go_sem]) hs23n ?_
            simp only [Act.put, List.getElem_toArray, List.getElem_cons_zero, List.getElem_cons_succ, List.setIfInBounds_toArray, List.set_cons_zero, List.set_cons_succ]
            have hoba := OB.new w22 47 #[.int .i64 0, .string ⟨#[]⟩, .slice none 0 0]
            have hw23 := Ext.alloc (.refl w22) (.cells #[.int .i64 0, .string ⟨#[]⟩, .slice none 0 0] 47)
            have hga := (hs22).size
            obtain ⟨w23, hN⟩ : ∃ x, w22.alloc (.cells #[.int .i64 0, .string ⟨#[]⟩, .slice none 0 0] 47) = x := ⟨_, rfl⟩
            rw [hN] at hoba hw23 hs23n ⊢
            clear hN
            obtain ⟨gA, hgA⟩ : ∃ x, w22.heap.size = x := ⟨_, rfl⟩
            rw [hgA] at hoba hga ⊢
            have hla := hoba.lt
            have Ft22_23 := Lib.hid ((HO22.out).ext hw23)
            have X23 := Lib.hid (Ext.trans X22.out hw23)
            have z23 : w22.heap.size ≤ w23.heap.size := hw23.size
            refine wpAnyH_store_rep (i := 11) (by kernel_rfl) rfl rfl 47 (.tmp 17) (.tmp 108) rfl gA 0 rfl t22 rfl 47 #[.int .i64 0, .string ⟨#[]⟩, .slice none 0 0] (hoba) HJ22.out (by rw [HT22.out]; exact Nat.le_refl _) HO22.out.rep.one ?_; intro w24 hob hgb hzb
            rw [splice_whole (by rw [HT22.out]; rfl)] at hob
            have hs24n := grown_ext hs23n hgb (by omega)
            refine ⟨hs24n, ?_⟩
            simp only [Act.put, List.getElem_toArray, List.getElem_cons_zero, List.getElem_cons_succ, List.setIfInBounds_toArray, List.set_cons_zero, List.set_cons_succ]
            have hor := OwnL.keep (Ft22_23.out) (w' := w24) fun x hx hxl => hgb.block x hxl (by intro h; injection h with h; have h1 := hx.1; have h2 := hx.2; omega)
            refine wpAnyH_take (i := 12) rfl (by kernel_rfl) (by kernel_rfl) (by kernel_rfl) (fun _ _ _ h => h) (.inl ⟨rfl, fun _ _ => rfl⟩) (by assumption) ?_
            simp only [Act.put, List.getElem_toArray, List.getElem_cons_zero, List.getElem_cons_succ, List.setIfInBounds_toArray, List.set_cons_zero, List.set_cons_succ]
            refine wpAnyH_done (by kernel_rfl) ?_ _
            have HSF := Lib.hid hs24n
            have HOBF := Lib.hid hob
            have HORF := Lib.hid hor
            have hgf : w18.heap.size ≤ gA := by omega
            have hzf : w23.heap.size ≤ w24.heap.size := hgb.size
            clear hob hor hgb hzb hHeld hs19 hw19 hs20 hw20 hs21 hw21 hs22 hw22
            go_wp2_with fail
            go_meet
            exact ⟨gA, t22, w21.heap.size, w22.heap.size, rfl, rfl, HSF.out, hgf, HOBF.out, HORF.out, by omega, by omega, by omega⟩
          · have hs22n := Ext.trans hs21 (Ext.alloc (.refl w21) (.cells #[.int .i64 0, .string ⟨#[]⟩, .slice none 0 0] 47))
            refine wpOp_run (v := .pointer (some ⟨w21.heap.size, 0, none⟩)) (w' := w21.alloc (.cells #[.int .i64 0, .string ⟨#[]⟩, .slice none 0 0] 47)) rfl rfl (by simp [execOp, go_sem]) ⟨hs22n, ?_⟩
            simp only [Act.put, List.getElem_toArray, List.getElem_cons_zero, List.getElem_cons_succ, List.setIfInBounds_toArray, List.set_cons_zero, List.set_cons_succ]
            have hoba := OB.new w21 47 #[.int .i64 0, .string ⟨#[]⟩, .slice none 0 0]
            have hw22 := Ext.alloc (.refl w21) (.cells #[.int .i64 0, .string ⟨#[]⟩, .slice none 0 0] 47)
            have hga := (hs21).size
            obtain ⟨w22, hN⟩ : ∃ x, w21.alloc (.cells #[.int .i64 0, .string ⟨#[]⟩, .slice none 0 0] 47) = x := ⟨_, rfl⟩
            rw [hN] at hoba hw22 hs22n ⊢
            clear hN
            obtain ⟨gA, hgA⟩ : ∃ x, w21.heap.size = x := ⟨_, rfl⟩
            rw [hgA] at hoba hga ⊢
            have hla := hoba.lt
            have Ft19_22 := Lib.hid ((Ft19_21.out).ext hw22)
            have Ft20_22 := Lib.hid ((Ft20_21.out).ext hw22)
            have Ft21_22 := Lib.hid ((HO21.out).ext hw22)
            have X22 := Lib.hid (Ext.trans X21.out hw22)
            have z22 : w21.heap.size ≤ w22.heap.size := hw22.size
            refine wpAnyH_call (i := 6) (by kernel_rfl) rfl rfl (run_call_func rfl rfl #[.agg ⟨t19⟩, .agg ⟨t20⟩, .agg ⟨t21⟩] (by simp only [List.map_toArray, List.map_cons, List.map_nil, Act.eval]; rfl) Tryz.func46 (by kernel_rfl) (by kernel_rfl) _) (assocP_impl x0 x1 x2 _ _ _ _ ((Ft19_22.out).rep) ((Ft20_22.out).rep) ((Ft21_22.out).rep) (by have := x0.inst_head_bulk x1; omega) (by have := x0.inst_assoc_bulk x1; omega) (by omega)) ?_; rintro e w23 ⟨t23, rfl, hw23, ho23⟩
            have HO23 := Lib.hid ho23
            have HT23 : Hid (t23.length = 3) := (by rw [ho23.1]; exact GType.tr_len _)
            have HJ23 : Hid ((Tryz.prog.info? 47).map (·.size) = some t23.length) := (by rw [HT23.out]; exact isz47)
            clear ho23
            have hs23 := Ext.trans hs22n hw23
            refine ⟨_, rfl, hs23, ?_⟩
            have Ft19_23 := Lib.hid ((Ft19_22.out).ext hw23)
            have Ft20_23 := Lib.hid ((Ft20_22.out).ext hw23)
            have Ft21_23 := Lib.hid ((Ft21_22.out).ext hw23)
            have Fga_23 := Lib.hid ((hoba).ext hw23)
            have X23 := Lib.hid (Ext.trans X22.out hw23)
            have z23 : w22.heap.size ≤ w23.heap.size := hw23.size
            simp only [Act.put, List.getElem_toArray, List.getElem_cons_zero, List.getElem_cons_succ, List.setIfInBounds_toArray, List.set_cons_zero, List.set_cons_succ]
            refine wpAnyH_take (i := 7) rfl (by kernel_rfl) (by kernel_rfl) (by kernel_rfl) (fun _ _ _ h => h) (.inl ⟨rfl, fun _ _ => rfl⟩) (by assumption) ?_; refine wpAnyH_take (i := 8) rfl (by kernel_rfl) (by kernel_rfl) (by kernel_rfl) (fun _ _ _ h => h) (.inl ⟨rfl, fun _ _ => rfl⟩) (by assumption) ?_; refine wpAnyH_take (i := 9) rfl (by kernel_rfl) (by kernel_rfl) (by kernel_rfl) (fun _ _ _ h => h) (.inl ⟨rfl, fun _ _ => rfl⟩) (by assumption) ?_
            simp only [Act.put, List.getElem_toArray, List.getElem_cons_zero, List.getElem_cons_succ, List.setIfInBounds_toArray, List.set_cons_zero, List.set_cons_succ]
            refine wpAnyH_store_rep (i := 11) (by kernel_rfl) rfl rfl 47 (.tmp 17) (.tmp 108) rfl gA 0 rfl t23 rfl 47 #[.int .i64 0, .string ⟨#[]⟩, .slice none 0 0] (Fga_23.out) HJ23.out (by rw [HT23.out]; exact Nat.le_refl _) HO23.out.rep.one ?_; intro w24 hob hgb hzb
            rw [splice_whole (by rw [HT23.out]; rfl)] at hob
            have hs24n := grown_ext hs23 hgb (by omega)
            refine ⟨hs24n, ?_⟩
            simp only [Act.put, List.getElem_toArray, List.getElem_cons_zero, List.getElem_cons_succ, List.setIfInBounds_toArray, List.set_cons_zero, List.set_cons_succ]
            have hor := OwnL.keep (HO23.out) (w' := w24) fun x hx hxl => hgb.block x hxl (by intro h; injection h with h; have h1 := hx.1; have h2 := hx.2; omega)
            refine wpAnyH_take (i := 12) rfl (by kernel_rfl) (by kernel_rfl) (by kernel_rfl) (fun _ _ _ h => h) (.inl ⟨rfl, fun _ _ => rfl⟩) (by assumption) ?_
            simp only [Act.put, List.getElem_toArray, List.getElem_cons_zero, List.getElem_cons_succ, List.setIfInBounds_toArray, List.set_cons_zero, List.set_cons_succ]
            refine wpAnyH_done (by kernel_rfl) ?_ _
            have HSF := Lib.hid hs24n
            have HOBF := Lib.hid hob
            have HORF := Lib.hid hor
            have hgf : w18.heap.size ≤ gA := by omega
            have hzf : w23.heap.size ≤ w24.heap.size := hgb.size
            clear hob hor hgb hzb hHeld hs19 hw19 hs20 hw20 hs21 hw21 hs23 hw23
            go_wp2_with fail
            go_meet
            exact ⟨gA, t23, w22.heap.size, w23.heap.size, rfl, rfl, HSF.out, hgf, HOBF.out, HORF.out, by omega, by omega, by omega⟩
        · have hs21n := Ext.trans hs20 (Ext.alloc (.refl w20) (.cells #[.int .i64 0, .string ⟨#[]⟩, .slice none 0 0] 47))
          refine wpOp_run (v := .pointer (some ⟨w20.heap.size, 0, none⟩)) (w' := w20.alloc (.cells #[.int .i64 0, .string ⟨#[]⟩, .slice none 0 0] 47)) rfl rfl (by simp [execOp, go_sem]) ⟨hs21n, ?_⟩
          simp only [Act.put, List.getElem_toArray, List.getElem_cons_zero, List.getElem_cons_succ, List.setIfInBounds_toArray, List.set_cons_zero, List.set_cons_succ]
          have hoba := OB.new w20 47 #[.int .i64 0, .string ⟨#[]⟩, .slice none 0 0]
          have hw21 := Ext.alloc (.refl w20) (.cells #[.int .i64 0, .string ⟨#[]⟩, .slice none 0 0] 47)
          have hga := (hs20).size
          obtain ⟨w21, hN⟩ : ∃ x, w20.alloc (.cells #[.int .i64 0, .string ⟨#[]⟩, .slice none 0 0] 47) = x := ⟨_, rfl⟩
          rw [hN] at hoba hw21 hs21n ⊢
          clear hN
          obtain ⟨gA, hgA⟩ : ∃ x, w20.heap.size = x := ⟨_, rfl⟩
          rw [hgA] at hoba hga ⊢
          have hla := hoba.lt
          have Ft19_21 := Lib.hid ((Ft19_20.out).ext hw21)
          have Ft20_21 := Lib.hid ((HO20.out).ext hw21)
          have X21 := Lib.hid (Ext.trans X20.out hw21)
          have z21 : w20.heap.size ≤ w21.heap.size := hw21.size
          refine wpAnyH_call (i := 5) (by kernel_rfl) rfl rfl (run_call_func rfl rfl #[.agg ⟨cs2⟩] (by simp only [List.map_toArray, List.map_cons, List.map_nil, Act.eval]; rfl) Tryz.func45 (by kernel_rfl) (by kernel_rfl) _) (toType_all x2 _ _ (HR2.out.ext X21.out) (by omega)) ?_; rintro e w22 ⟨t22, rfl, hw22, ho22⟩
          have HO22 := Lib.hid ho22
          have HT22 : Hid (t22.length = 3) := (by rw [ho22.1]; exact GType.tr_len _)
          have HJ22 : Hid ((Tryz.prog.info? 47).map (·.size) = some t22.length) := (by rw [HT22.out]; exact isz47)
          clear ho22
          have hs22 := Ext.trans hs21n hw22
          refine ⟨_, rfl, hs22, ?_⟩
          have Ft19_22 := Lib.hid ((Ft19_21.out).ext hw22)
          have Ft20_22 := Lib.hid ((Ft20_21.out).ext hw22)
          have Fga_22 := Lib.hid ((hoba).ext hw22)
          have X22 := Lib.hid (Ext.trans X21.out hw22)
          have z22 : w21.heap.size ≤ w22.heap.size := hw22.size
          simp only [Act.put, List.getElem_toArray, List.getElem_cons_zero, List.getElem_cons_succ, List.setIfInBounds_toArray, List.set_cons_zero, List.set_cons_succ]
          refine wpAnyH_call (i := 6) (by kernel_rfl) rfl rfl (run_call_func rfl rfl #[.agg ⟨t19⟩, .agg ⟨t20⟩, .agg ⟨t22⟩] (by simp only [List.map_toArray, List.map_cons, List.map_nil, Act.eval]; rfl) Tryz.func46 (by kernel_rfl) (by kernel_rfl) _) (assocP_impl x0 x1 x2 _ _ _ _ ((Ft19_22.out).rep) ((Ft20_22.out).rep) ((HO22.out).rep) (by have := x0.inst_head_bulk x1; omega) (by have := x0.inst_assoc_bulk x1; omega) (by omega)) ?_; rintro e w23 ⟨t23, rfl, hw23, ho23⟩
          have HO23 := Lib.hid ho23
          have HT23 : Hid (t23.length = 3) := (by rw [ho23.1]; exact GType.tr_len _)
          have HJ23 : Hid ((Tryz.prog.info? 47).map (·.size) = some t23.length) := (by rw [HT23.out]; exact isz47)
          clear ho23
          have hs23 := Ext.trans hs22 hw23
          refine ⟨_, rfl, hs23, ?_⟩
          have Ft19_23 := Lib.hid ((Ft19_22.out).ext hw23)
          have Ft20_23 := Lib.hid ((Ft20_22.out).ext hw23)
          have Fga_23 := Lib.hid ((Fga_22.out).ext hw23)
          have Ft22_23 := Lib.hid ((HO22.out).ext hw23)
          have X23 := Lib.hid (Ext.trans X22.out hw23)
          have z23 : w22.heap.size ≤ w23.heap.size := hw23.size
          simp only [Act.put, List.getElem_toArray, List.getElem_cons_zero, List.getElem_cons_succ, List.setIfInBounds_toArray, List.set_cons_zero, List.set_cons_succ]
          refine wpAnyH_take (i := 7) rfl (by kernel_rfl) (by kernel_rfl) (by kernel_rfl) (fun _ _ _ h => h) (.inl ⟨rfl, fun _ _ => rfl⟩) (by assumption) ?_; refine wpAnyH_take (i := 8) rfl (by kernel_rfl) (by kernel_rfl) (by kernel_rfl) (fun _ _ _ h => h) (.inl ⟨rfl, fun _ _ => rfl⟩) (by assumption) ?_; refine wpAnyH_take (i := 9) rfl (by kernel_rfl) (by kernel_rfl) (by kernel_rfl) (fun _ _ _ h => h) (.inl ⟨rfl, fun _ _ => rfl⟩) (by assumption) ?_
          simp only [Act.put, List.getElem_toArray, List.getElem_cons_zero, List.getElem_cons_succ, List.setIfInBounds_toArray, List.set_cons_zero, List.set_cons_succ]
          refine wpAnyH_store_rep (i := 11) (by kernel_rfl) rfl rfl 47 (.tmp 17) (.tmp 108) rfl gA 0 rfl t23 rfl 47 #[.int .i64 0, .string ⟨#[]⟩, .slice none 0 0] (Fga_23.out) HJ23.out (by rw [HT23.out]; exact Nat.le_refl _) HO23.out.rep.one ?_; intro w24 hob hgb hzb
          rw [splice_whole (by rw [HT23.out]; rfl)] at hob
          have hs24n := grown_ext hs23 hgb (by omega)
          refine ⟨hs24n, ?_⟩
          simp only [Act.put, List.getElem_toArray, List.getElem_cons_zero, List.getElem_cons_succ, List.setIfInBounds_toArray, List.set_cons_zero, List.set_cons_succ]
          have hor := OwnL.keep (HO23.out) (w' := w24) fun x hx hxl => hgb.block x hxl (by intro h; injection h with h; have h1 := hx.1; have h2 := hx.2; omega)
          refine wpAnyH_take (i := 12) rfl (by kernel_rfl) (by kernel_rfl) (by kernel_rfl) (fun _ _ _ h => h) (.inl ⟨rfl, fun _ _ => rfl⟩) (by assumption) ?_
          simp only [Act.put, List.getElem_toArray, List.getElem_cons_zero, List.getElem_cons_succ, List.setIfInBounds_toArray, List.set_cons_zero, List.set_cons_succ]
          refine wpAnyH_done (by kernel_rfl) ?_ _
          have HSF := Lib.hid hs24n
          have HOBF := Lib.hid hob
          have HORF := Lib.hid hor
          have hgf : w18.heap.size ≤ gA := by omega
          have hzf : w23.heap.size ≤ w24.heap.size := hgb.size
          clear hob hor hgb hzb hHeld hs19 hw19 hs20 hw20 hs22 hw22 hs23 hw23
          go_wp2_with fail
          go_meet
          exact ⟨gA, t23, w22.heap.size, w23.heap.size, rfl, rfl, HSF.out, hgf, HOBF.out, HORF.out, by omega, by omega, by omega⟩
      · have hs20n := Ext.trans hs19 (Ext.alloc (.refl w19) (.cells #[.int .i64 0, .string ⟨#[]⟩, .slice none 0 0] 47))
        refine wpOp_run (v := .pointer (some ⟨w19.heap.size, 0, none⟩)) (w' := w19.alloc (.cells #[.int .i64 0, .string ⟨#[]⟩, .slice none 0 0] 47)) rfl rfl (by simp [execOp, go_sem]) ⟨hs20n, ?_⟩
        simp only [Act.put, List.getElem_toArray, List.getElem_cons_zero, List.getElem_cons_succ, List.setIfInBounds_toArray, List.set_cons_zero, List.set_cons_succ]
        have hoba := OB.new w19 47 #[.int .i64 0, .string ⟨#[]⟩, .slice none 0 0]
        have hw20 := Ext.alloc (.refl w19) (.cells #[.int .i64 0, .string ⟨#[]⟩, .slice none 0 0] 47)
        have hga := (hs19).size
        obtain ⟨w20, hN⟩ : ∃ x, w19.alloc (.cells #[.int .i64 0, .string ⟨#[]⟩, .slice none 0 0] 47) = x := ⟨_, rfl⟩
        rw [hN] at hoba hw20 hs20n ⊢
        clear hN
        obtain ⟨gA, hgA⟩ : ∃ x, w19.heap.size = x := ⟨_, rfl⟩
        rw [hgA] at hoba hga ⊢
        have hla := hoba.lt
        have Ft19_20 := Lib.hid ((HO19.out).ext hw20)
        have X20 := Lib.hid (Ext.trans X19.out hw20)
        have z20 : w19.heap.size ≤ w20.heap.size := hw20.size
        refine wpAnyH_call (i := 3) (by kernel_rfl) rfl rfl (run_call_func rfl rfl #[.agg ⟨cs1⟩] (by simp only [List.map_toArray, List.map_cons, List.map_nil, Act.eval]; rfl) Tryz.func18 (by kernel_rfl) (by kernel_rfl) _) (toInstanceRef_all x1 _ _ (HR1.out.ext X20.out) (by have hz0 : Tr.bulkL (GInstanceRef.tr x1) = 0 := (by cases x1; rfl); omega)) ?_; rintro e w21 ⟨t21, rfl, hw21, ho21⟩
        have HO21 := Lib.hid ho21
        have HT21 : Hid (t21.length = 2) := (by rw [ho21.1]; exact GInstanceRef.tr_len _)
        have HJ21 : Hid ((Tryz.prog.info? 33).map (·.size) = some t21.length) := (by rw [HT21.out]; exact isz33)
        clear ho21
        have hs21 := Ext.trans hs20n hw21
        refine ⟨_, rfl, hs21, ?_⟩
        have Ft19_21 := Lib.hid ((Ft19_20.out).ext hw21)
        have Fga_21 := Lib.hid ((hoba).ext hw21)
        have X21 := Lib.hid (Ext.trans X20.out hw21)
        have z21 : w20.heap.size ≤ w21.heap.size := hw21.size
        simp only [Act.put, List.getElem_toArray, List.getElem_cons_zero, List.getElem_cons_succ, List.setIfInBounds_toArray, List.set_cons_zero, List.set_cons_succ]
        refine wpAnyH_call (i := 5) (by kernel_rfl) rfl rfl (run_call_func rfl rfl #[.agg ⟨cs2⟩] (by simp only [List.map_toArray, List.map_cons, List.map_nil, Act.eval]; rfl) Tryz.func45 (by kernel_rfl) (by kernel_rfl) _) (toType_all x2 _ _ (HR2.out.ext X21.out) (by omega)) ?_; rintro e w22 ⟨t22, rfl, hw22, ho22⟩
        have HO22 := Lib.hid ho22
        have HT22 : Hid (t22.length = 3) := (by rw [ho22.1]; exact GType.tr_len _)
        have HJ22 : Hid ((Tryz.prog.info? 47).map (·.size) = some t22.length) := (by rw [HT22.out]; exact isz47)
        clear ho22
        have hs22 := Ext.trans hs21 hw22
        refine ⟨_, rfl, hs22, ?_⟩
        have Ft19_22 := Lib.hid ((Ft19_21.out).ext hw22)
        have Fga_22 := Lib.hid ((Fga_21.out).ext hw22)
        have Ft21_22 := Lib.hid ((HO21.out).ext hw22)
        have X22 := Lib.hid (Ext.trans X21.out hw22)
        have z22 : w21.heap.size ≤ w22.heap.size := hw22.size
        simp only [Act.put, List.getElem_toArray, List.getElem_cons_zero, List.getElem_cons_succ, List.setIfInBounds_toArray, List.set_cons_zero, List.set_cons_succ]
        refine wpAnyH_call (i := 6) (by kernel_rfl) rfl rfl (run_call_func rfl rfl #[.agg ⟨t19⟩, .agg ⟨t21⟩, .agg ⟨t22⟩] (by simp only [List.map_toArray, List.map_cons, List.map_nil, Act.eval]; rfl) Tryz.func46 (by kernel_rfl) (by kernel_rfl) _) (assocP_impl x0 x1 x2 _ _ _ _ ((Ft19_22.out).rep) ((Ft21_22.out).rep) ((HO22.out).rep) (by have := x0.inst_head_bulk x1; omega) (by have := x0.inst_assoc_bulk x1; omega) (by omega)) ?_; rintro e w23 ⟨t23, rfl, hw23, ho23⟩
        have HO23 := Lib.hid ho23
        have HT23 : Hid (t23.length = 3) := (by rw [ho23.1]; exact GType.tr_len _)
        have HJ23 : Hid ((Tryz.prog.info? 47).map (·.size) = some t23.length) := (by rw [HT23.out]; exact isz47)
        clear ho23
        have hs23 := Ext.trans hs22 hw23
        refine ⟨_, rfl, hs23, ?_⟩
        have Ft19_23 := Lib.hid ((Ft19_22.out).ext hw23)
        have Fga_23 := Lib.hid ((Fga_22.out).ext hw23)
        have Ft21_23 := Lib.hid ((Ft21_22.out).ext hw23)
        have Ft22_23 := Lib.hid ((HO22.out).ext hw23)
        have X23 := Lib.hid (Ext.trans X22.out hw23)
        have z23 : w22.heap.size ≤ w23.heap.size := hw23.size
        simp only [Act.put, List.getElem_toArray, List.getElem_cons_zero, List.getElem_cons_succ, List.setIfInBounds_toArray, List.set_cons_zero, List.set_cons_succ]
        refine wpAnyH_take (i := 7) rfl (by kernel_rfl) (by kernel_rfl) (by kernel_rfl) (fun _ _ _ h => h) (.inl ⟨rfl, fun _ _ => rfl⟩) (by assumption) ?_; refine wpAnyH_take (i := 8) rfl (by kernel_rfl) (by kernel_rfl) (by kernel_rfl) (fun _ _ _ h => h) (.inl ⟨rfl, fun _ _ => rfl⟩) (by assumption) ?_; refine wpAnyH_take (i := 9) rfl (by kernel_rfl) (by kernel_rfl) (by kernel_rfl) (fun _ _ _ h => h) (.inl ⟨rfl, fun _ _ => rfl⟩) (by assumption) ?_
        simp only [Act.put, List.getElem_toArray, List.getElem_cons_zero, List.getElem_cons_succ, List.setIfInBounds_toArray, List.set_cons_zero, List.set_cons_succ]
        refine wpAnyH_store_rep (i := 11) (by kernel_rfl) rfl rfl 47 (.tmp 17) (.tmp 108) rfl gA 0 rfl t23 rfl 47 #[.int .i64 0, .string ⟨#[]⟩, .slice none 0 0] (Fga_23.out) HJ23.out (by rw [HT23.out]; exact Nat.le_refl _) HO23.out.rep.one ?_; intro w24 hob hgb hzb
        rw [splice_whole (by rw [HT23.out]; rfl)] at hob
        have hs24n := grown_ext hs23 hgb (by omega)
        refine ⟨hs24n, ?_⟩
        simp only [Act.put, List.getElem_toArray, List.getElem_cons_zero, List.getElem_cons_succ, List.setIfInBounds_toArray, List.set_cons_zero, List.set_cons_succ]
        have hor := OwnL.keep (HO23.out) (w' := w24) fun x hx hxl => hgb.block x hxl (by intro h; injection h with h; have h1 := hx.1; have h2 := hx.2; omega)
        refine wpAnyH_take (i := 12) rfl (by kernel_rfl) (by kernel_rfl) (by kernel_rfl) (fun _ _ _ h => h) (.inl ⟨rfl, fun _ _ => rfl⟩) (by assumption) ?_
        simp only [Act.put, List.getElem_toArray, List.getElem_cons_zero, List.getElem_cons_succ, List.setIfInBounds_toArray, List.set_cons_zero, List.set_cons_succ]
        refine wpAnyH_done (by kernel_rfl) ?_ _
        have HSF := Lib.hid hs24n
        have HOBF := Lib.hid hob
        have HORF := Lib.hid hor
        have hgf : w18.heap.size ≤ gA := by omega
        have hzf : w23.heap.size ≤ w24.heap.size := hgb.size
        clear hob hor hgb hzb hHeld hs19 hw19 hs21 hw21 hs22 hw22 hs23 hw23
        go_wp2_with fail
        go_meet
        exact ⟨gA, t23, w22.heap.size, w23.heap.size, rfl, rfl, HSF.out, hgf, HOBF.out, HORF.out, by omega, by omega, by omega⟩
    · have hs19n := Ext.trans hHeld (Ext.alloc (.refl w18.drew) (.cells #[.int .i64 0, .string ⟨#[]⟩, .slice none 0 0] 47))
      refine wpOp_run (v := .pointer (some ⟨w18.drew.heap.size, 0, none⟩)) (w' := w18.drew.alloc (.cells #[.int .i64 0, .string ⟨#[]⟩, .slice none 0 0] 47)) rfl rfl (by simp [execOp, go_sem]) ⟨hs19n, ?_⟩
      simp only [Act.put, List.getElem_toArray, List.getElem_cons_zero, List.getElem_cons_succ, List.setIfInBounds_toArray, List.set_cons_zero, List.set_cons_succ]
      have hoba := OB.new w18.drew 47 #[.int .i64 0, .string ⟨#[]⟩, .slice none 0 0]
      have hw19 := Ext.alloc (.refl w18.drew) (.cells #[.int .i64 0, .string ⟨#[]⟩, .slice none 0 0] 47)
      have hga := (hHeld).size
      obtain ⟨w19, hN⟩ : ∃ x, w18.drew.alloc (.cells #[.int .i64 0, .string ⟨#[]⟩, .slice none 0 0] 47) = x := ⟨_, rfl⟩
      rw [hN] at hoba hw19 hs19n ⊢
      clear hN
      obtain ⟨gA, hgA⟩ : ∃ x, w18.drew.heap.size = x := ⟨_, rfl⟩
      rw [hgA] at hoba hga ⊢
      have hla := hoba.lt
      have X19 := Lib.hid (Ext.trans (Ext.trans X18.out (.drew (.refl _))) hw19)
      have z19 : w18.heap.size ≤ w19.heap.size := hw19.size
      refine wpAnyH_call (i := 1) (by kernel_rfl) rfl rfl (run_call_func rfl rfl #[.agg ⟨cs0⟩] (by simp only [List.map_toArray, List.map_cons, List.map_nil, Act.eval]; rfl) Tryz.func17 (by kernel_rfl) (by kernel_rfl) _) (toProgram_all x0 _ _ (HR0.out.ext X19.out) (by omega)) ?_; rintro e w20 ⟨t20, rfl, hw20, ho20⟩
      have HO20 := Lib.hid ho20
      have HT20 : Hid (t20.length = 1) := (by rw [ho20.1]; exact GProgram.tr_len _)
      have HJ20 : Hid ((Tryz.prog.info? 31).map (·.size) = some t20.length) := (by rw [HT20.out]; exact isz31)
      clear ho20
      have hs20 := Ext.trans hs19n hw20
      refine ⟨_, rfl, hs20, ?_⟩
      have Fga_20 := Lib.hid ((hoba).ext hw20)
      have X20 := Lib.hid (Ext.trans X19.out hw20)
      have z20 : w19.heap.size ≤ w20.heap.size := hw20.size
      simp only [Act.put, List.getElem_toArray, List.getElem_cons_zero, List.getElem_cons_succ, List.setIfInBounds_toArray, List.set_cons_zero, List.set_cons_succ]
      refine wpAnyH_call (i := 3) (by kernel_rfl) rfl rfl (run_call_func rfl rfl #[.agg ⟨cs1⟩] (by simp only [List.map_toArray, List.map_cons, List.map_nil, Act.eval]; rfl) Tryz.func18 (by kernel_rfl) (by kernel_rfl) _) (toInstanceRef_all x1 _ _ (HR1.out.ext X20.out) (by have hz0 : Tr.bulkL (GInstanceRef.tr x1) = 0 := (by cases x1; rfl); omega)) ?_; rintro e w21 ⟨t21, rfl, hw21, ho21⟩
      have HO21 := Lib.hid ho21
      have HT21 : Hid (t21.length = 2) := (by rw [ho21.1]; exact GInstanceRef.tr_len _)
      have HJ21 : Hid ((Tryz.prog.info? 33).map (·.size) = some t21.length) := (by rw [HT21.out]; exact isz33)
      clear ho21
      have hs21 := Ext.trans hs20 hw21
      refine ⟨_, rfl, hs21, ?_⟩
      have Fga_21 := Lib.hid ((Fga_20.out).ext hw21)
      have Ft20_21 := Lib.hid ((HO20.out).ext hw21)
      have X21 := Lib.hid (Ext.trans X20.out hw21)
      have z21 : w20.heap.size ≤ w21.heap.size := hw21.size
      simp only [Act.put, List.getElem_toArray, List.getElem_cons_zero, List.getElem_cons_succ, List.setIfInBounds_toArray, List.set_cons_zero, List.set_cons_succ]
      refine wpAnyH_call (i := 5) (by kernel_rfl) rfl rfl (run_call_func rfl rfl #[.agg ⟨cs2⟩] (by simp only [List.map_toArray, List.map_cons, List.map_nil, Act.eval]; rfl) Tryz.func45 (by kernel_rfl) (by kernel_rfl) _) (toType_all x2 _ _ (HR2.out.ext X21.out) (by omega)) ?_; rintro e w22 ⟨t22, rfl, hw22, ho22⟩
      have HO22 := Lib.hid ho22
      have HT22 : Hid (t22.length = 3) := (by rw [ho22.1]; exact GType.tr_len _)
      have HJ22 : Hid ((Tryz.prog.info? 47).map (·.size) = some t22.length) := (by rw [HT22.out]; exact isz47)
      clear ho22
      have hs22 := Ext.trans hs21 hw22
      refine ⟨_, rfl, hs22, ?_⟩
      have Fga_22 := Lib.hid ((Fga_21.out).ext hw22)
      have Ft20_22 := Lib.hid ((Ft20_21.out).ext hw22)
      have Ft21_22 := Lib.hid ((HO21.out).ext hw22)
      have X22 := Lib.hid (Ext.trans X21.out hw22)
      have z22 : w21.heap.size ≤ w22.heap.size := hw22.size
      simp only [Act.put, List.getElem_toArray, List.getElem_cons_zero, List.getElem_cons_succ, List.setIfInBounds_toArray, List.set_cons_zero, List.set_cons_succ]
      refine wpAnyH_call (i := 6) (by kernel_rfl) rfl rfl (run_call_func rfl rfl #[.agg ⟨t20⟩, .agg ⟨t21⟩, .agg ⟨t22⟩] (by simp only [List.map_toArray, List.map_cons, List.map_nil, Act.eval]; rfl) Tryz.func46 (by kernel_rfl) (by kernel_rfl) _) (assocP_impl x0 x1 x2 _ _ _ _ ((Ft20_22.out).rep) ((Ft21_22.out).rep) ((HO22.out).rep) (by have := x0.inst_head_bulk x1; omega) (by have := x0.inst_assoc_bulk x1; omega) (by omega)) ?_; rintro e w23 ⟨t23, rfl, hw23, ho23⟩
      have HO23 := Lib.hid ho23
      have HT23 : Hid (t23.length = 3) := (by rw [ho23.1]; exact GType.tr_len _)
      have HJ23 : Hid ((Tryz.prog.info? 47).map (·.size) = some t23.length) := (by rw [HT23.out]; exact isz47)
      clear ho23
      have hs23 := Ext.trans hs22 hw23
      refine ⟨_, rfl, hs23, ?_⟩
      have Fga_23 := Lib.hid ((Fga_22.out).ext hw23)
      have Ft20_23 := Lib.hid ((Ft20_22.out).ext hw23)
      have Ft21_23 := Lib.hid ((Ft21_22.out).ext hw23)
      have Ft22_23 := Lib.hid ((HO22.out).ext hw23)
      have X23 := Lib.hid (Ext.trans X22.out hw23)
      have z23 : w22.heap.size ≤ w23.heap.size := hw23.size
      simp only [Act.put, List.getElem_toArray, List.getElem_cons_zero, List.getElem_cons_succ, List.setIfInBounds_toArray, List.set_cons_zero, List.set_cons_succ]
      refine wpAnyH_take (i := 7) rfl (by kernel_rfl) (by kernel_rfl) (by kernel_rfl) (fun _ _ _ h => h) (.inl ⟨rfl, fun _ _ => rfl⟩) (by assumption) ?_; refine wpAnyH_take (i := 8) rfl (by kernel_rfl) (by kernel_rfl) (by kernel_rfl) (fun _ _ _ h => h) (.inl ⟨rfl, fun _ _ => rfl⟩) (by assumption) ?_; refine wpAnyH_take (i := 9) rfl (by kernel_rfl) (by kernel_rfl) (by kernel_rfl) (fun _ _ _ h => h) (.inl ⟨rfl, fun _ _ => rfl⟩) (by assumption) ?_
      simp only [Act.put, List.getElem_toArray, List.getElem_cons_zero, List.getElem_cons_succ, List.setIfInBounds_toArray, List.set_cons_zero, List.set_cons_succ]
      refine wpAnyH_store_rep (i := 11) (by kernel_rfl) rfl rfl 47 (.tmp 17) (.tmp 108) rfl gA 0 rfl t23 rfl 47 #[.int .i64 0, .string ⟨#[]⟩, .slice none 0 0] (Fga_23.out) HJ23.out (by rw [HT23.out]; exact Nat.le_refl _) HO23.out.rep.one ?_; intro w24 hob hgb hzb
      rw [splice_whole (by rw [HT23.out]; rfl)] at hob
      have hs24n := grown_ext hs23 hgb (by omega)
      refine ⟨hs24n, ?_⟩
      simp only [Act.put, List.getElem_toArray, List.getElem_cons_zero, List.getElem_cons_succ, List.setIfInBounds_toArray, List.set_cons_zero, List.set_cons_succ]
      have hor := OwnL.keep (HO23.out) (w' := w24) fun x hx hxl => hgb.block x hxl (by intro h; injection h with h; have h1 := hx.1; have h2 := hx.2; omega)
      refine wpAnyH_take (i := 12) rfl (by kernel_rfl) (by kernel_rfl) (by kernel_rfl) (fun _ _ _ h => h) (.inl ⟨rfl, fun _ _ => rfl⟩) (by assumption) ?_
      simp only [Act.put, List.getElem_toArray, List.getElem_cons_zero, List.getElem_cons_succ, List.setIfInBounds_toArray, List.set_cons_zero, List.set_cons_succ]
      refine wpAnyH_done (by kernel_rfl) ?_ _
      have HSF := Lib.hid hs24n
      have HOBF := Lib.hid hob
      have HORF := Lib.hid hor
      have hgf : w18.heap.size ≤ gA := by omega
      have hzf : w23.heap.size ≤ w24.heap.size := hgb.size
      clear hob hor hgb hzb hHeld hs20 hw20 hs21 hw21 hs22 hw22 hs23 hw23
      go_wp2_with fail
      go_meet
      exact ⟨gA, t23, w22.heap.size, w23.heap.size, rfl, rfl, HSF.out, hgf, HOBF.out, HORF.out, by omega, by omega, by omega⟩
  obtain ⟨w19, hwe⟩ : ∃ x, x = wc := ⟨_, rfl⟩
  rw [← hwe] at hcut ⊢
  clear hwe
  obtain ⟨gB19, t19, lo19, hi19, rfl, rfl, HXC19, hgB19, HOB19, HO19, hlo19, hhi19, hdj19⟩ := hcut
  have Fp0_19 := Lib.hid ((Fp0_18.out).ext HXC19.out)
  have Fp1_19 := Lib.hid ((Fp1_18.out).ext HXC19.out)
  have Fp2_19 := Lib.hid ((Fp2_18.out).ext HXC19.out)
  have Ft3_19 := Lib.hid (Ext.trans Ft3_18.out HXC19.out)
  have Fb3_19 := Lib.hid ((Fb3_18.out).ext HXC19.out)
  have Ft4_19 := Lib.hid ((Ft4_18.out).ext HXC19.out)
  have Fb5_19 := Lib.hid ((Fb5_18.out).ext HXC19.out)
  have Ft6_19 := Lib.hid ((Ft6_18.out).ext HXC19.out)
  have Fb7_19 := Lib.hid ((Fb7_18.out).ext HXC19.out)
  have Ft8_19 := Lib.hid ((Ft8_18.out).ext HXC19.out)
  have Fb8_19 := Lib.hid ((Fb8_18.out).ext HXC19.out)
  have X19 := Lib.hid (Ext.trans X18.out HXC19.out)
  have z19 : w18.heap.size ≤ w19.heap.size := HXC19.out.size
  have HT19 : Hid (t19.length = 3) := (by rw [HO19.out.1]; exact GType.tr_len _)
  have HJ19 : Hid ((Tryz.prog.info? 47).map (·.size) = some t19.length) := (by rw [HT19.out]; exact isz47)
  have hlB19 : gB19 < w19.heap.size := HOB19.out.lt
  go_wp2_with (first
    | (refine wpList_load_rep_g (by rfl) 24 (.tmp 3) rfl (w.heap.size) 0 rfl cs0 _ Tryz.underlying24 HI0.out (OB.cells0 (Fp0_19.out)) ?_)
    | (refine wpList_load_rep_g (by rfl) 26 (.tmp 4) rfl (w.heap.size + 1) 0 rfl cs1 _ Tryz.underlying26 HI1.out (OB.cells0 (Fp1_19.out)) ?_)
    | (refine wpList_load_rep_g (by rfl) 39 (.tmp 5) rfl (w.heap.size + 1 + 1) 0 rfl cs2 _ Tryz.underlying39 HI2.out (OB.cells0 (Fp2_19.out)) ?_)
    | (refine wpList_load_rep_g (by rfl) 47 (.tmp 8) rfl (gB3) 0 rfl t3 _ Tryz.underlying47 HJ3.out (OB.cells0 (Fb3_19.out)) ?_)
    | (refine wpList_load_rep_g (by rfl) 31 (.tmp 10) rfl (w4.heap.size) 0 rfl t4 _ Tryz.underlying31 HJ4.out (OB.cells0 (Fb5_19.out)) ?_)
    | (refine wpList_load_rep_g (by rfl) 47 (.tmp 11) rfl (w6.heap.size) 0 rfl t6 _ Tryz.underlying47 HJ6.out (OB.cells0 (Fb7_19.out)) ?_)
    | (refine wpList_load_rep_g (by rfl) 47 (.tmp 12) rfl (gB8) 0 rfl t8 _ Tryz.underlying47 HJ8.out (OB.cells0 (Fb8_19.out)) ?_)
    | (refine wpList_load_rep_g (by rfl) 47 (.tmp 17) rfl (gB19) 0 rfl t19 _ Tryz.underlying47 HJ19.out (OB.cells0 (HOB19.out)) ?_)
    | (refine wpList_load_rep rfl 24 (.tmp 3) rfl (w.heap.size) 0 rfl cs0 _ Tryz.underlying24 HI0.out (OB.cells0 (Fp0_19.out)) ?_)
    | (refine wpList_load_rep rfl 26 (.tmp 4) rfl (w.heap.size + 1) 0 rfl cs1 _ Tryz.underlying26 HI1.out (OB.cells0 (Fp1_19.out)) ?_)
    | (refine wpList_load_rep rfl 39 (.tmp 5) rfl (w.heap.size + 1 + 1) 0 rfl cs2 _ Tryz.underlying39 HI2.out (OB.cells0 (Fp2_19.out)) ?_)
    | (refine wpList_load_rep rfl 47 (.tmp 8) rfl (gB3) 0 rfl t3 _ Tryz.underlying47 HJ3.out (OB.cells0 (Fb3_19.out)) ?_)
    | (refine wpList_load_rep rfl 31 (.tmp 10) rfl (w4.heap.size) 0 rfl t4 _ Tryz.underlying31 HJ4.out (OB.cells0 (Fb5_19.out)) ?_)
    | (refine wpList_load_rep rfl 47 (.tmp 11) rfl (w6.heap.size) 0 rfl t6 _ Tryz.underlying47 HJ6.out (OB.cells0 (Fb7_19.out)) ?_)
    | (refine wpList_load_rep rfl 47 (.tmp 12) rfl (gB8) 0 rfl t8 _ Tryz.underlying47 HJ8.out (OB.cells0 (Fb8_19.out)) ?_)
    | (refine wpList_load_rep rfl 47 (.tmp 17) rfl (gB19) 0 rfl t19 _ Tryz.underlying47 HJ19.out (OB.cells0 (HOB19.out)) ?_))
  refine (eqType_all (x0.assocOf x1 x2).1 _ _ _ (HO19.out).rep (HO3.out.ext Ft3_19.out)).mono ?_; rintro e w20 ⟨rfl, hw20⟩
  have Fp0_20 := Lib.hid ((Fp0_19.out).ext hw20)
  have Fp1_20 := Lib.hid ((Fp1_19.out).ext hw20)
  have Fp2_20 := Lib.hid ((Fp2_19.out).ext hw20)
  have Ft3_20 := Lib.hid (Ext.trans Ft3_19.out hw20)
  have Fb3_20 := Lib.hid ((Fb3_19.out).ext hw20)
  have Ft4_20 := Lib.hid ((Ft4_19.out).ext hw20)
  have Fb5_20 := Lib.hid ((Fb5_19.out).ext hw20)
  have Ft6_20 := Lib.hid ((Ft6_19.out).ext hw20)
  have Fb7_20 := Lib.hid ((Fb7_19.out).ext hw20)
  have Ft8_20 := Lib.hid ((Ft8_19.out).ext hw20)
  have Fb8_20 := Lib.hid ((Fb8_19.out).ext hw20)
  have Ft19_20 := Lib.hid ((HO19.out).ext hw20)
  have Fb19_20 := Lib.hid ((HOB19.out).ext hw20)
  have X20 := Lib.hid (Ext.trans X19.out hw20)
  have z20 : w19.heap.size ≤ w20.heap.size := hw20.size
  clear hw20
  go_wp2_with (first
    | (refine wpList_load_rep rfl 24 (.tmp 3) rfl (w.heap.size) 0 rfl cs0 _ Tryz.underlying24 HI0.out (OB.cells0 (Fp0_20.out)) ?_)
    | (refine wpList_load_rep rfl 26 (.tmp 4) rfl (w.heap.size + 1) 0 rfl cs1 _ Tryz.underlying26 HI1.out (OB.cells0 (Fp1_20.out)) ?_)
    | (refine wpList_load_rep rfl 39 (.tmp 5) rfl (w.heap.size + 1 + 1) 0 rfl cs2 _ Tryz.underlying39 HI2.out (OB.cells0 (Fp2_20.out)) ?_)
    | (refine wpList_load_rep rfl 47 (.tmp 8) rfl (gB3) 0 rfl t3 _ Tryz.underlying47 HJ3.out (OB.cells0 (Fb3_20.out)) ?_)
    | (refine wpList_load_rep rfl 31 (.tmp 10) rfl (w4.heap.size) 0 rfl t4 _ Tryz.underlying31 HJ4.out (OB.cells0 (Fb5_20.out)) ?_)
    | (refine wpList_load_rep rfl 47 (.tmp 11) rfl (w6.heap.size) 0 rfl t6 _ Tryz.underlying47 HJ6.out (OB.cells0 (Fb7_20.out)) ?_)
    | (refine wpList_load_rep rfl 47 (.tmp 12) rfl (gB8) 0 rfl t8 _ Tryz.underlying47 HJ8.out (OB.cells0 (Fb8_20.out)) ?_)
    | (refine wpList_load_rep rfl 47 (.tmp 17) rfl (gB19) 0 rfl t19 _ Tryz.underlying47 HJ19.out (OB.cells0 (Fb19_20.out)) ?_))
  refine (heldType_all (x0.assocOf x1 x2).1 _ _ 1 _ (by rfl) (Ft8_20.out).rep (x0.assoc_top x1 x2 (by omega) (by omega))).mono ?_; rintro e w21 ⟨he, hw21⟩
  rw [Hmk_t8_1.out] at he
  subst he
  have Fp0_21 := Lib.hid ((Fp0_20.out).ext hw21)
  have Fp1_21 := Lib.hid ((Fp1_20.out).ext hw21)
  have Fp2_21 := Lib.hid ((Fp2_20.out).ext hw21)
  have Ft3_21 := Lib.hid (Ext.trans Ft3_20.out hw21)
  have Fb3_21 := Lib.hid ((Fb3_20.out).ext hw21)
  have Ft4_21 := Lib.hid ((Ft4_20.out).ext hw21)
  have Fb5_21 := Lib.hid ((Fb5_20.out).ext hw21)
  have Ft6_21 := Lib.hid ((Ft6_20.out).ext hw21)
  have Fb7_21 := Lib.hid ((Fb7_20.out).ext hw21)
  have Ft8_21 := Lib.hid ((Ft8_20.out).ext hw21)
  have Fb8_21 := Lib.hid ((Fb8_20.out).ext hw21)
  have Ft19_21 := Lib.hid ((Ft19_20.out).ext hw21)
  have Fb19_21 := Lib.hid ((Fb19_20.out).ext hw21)
  have X21 := Lib.hid (Ext.trans X20.out hw21)
  have z21 : w20.heap.size ≤ w21.heap.size := hw21.size
  clear hw21
  go_wp2_with (first
    | (refine wpList_load_rep rfl 24 (.tmp 3) rfl (w.heap.size) 0 rfl cs0 _ Tryz.underlying24 HI0.out (OB.cells0 (Fp0_21.out)) ?_)
    | (refine wpList_load_rep rfl 26 (.tmp 4) rfl (w.heap.size + 1) 0 rfl cs1 _ Tryz.underlying26 HI1.out (OB.cells0 (Fp1_21.out)) ?_)
    | (refine wpList_load_rep rfl 39 (.tmp 5) rfl (w.heap.size + 1 + 1) 0 rfl cs2 _ Tryz.underlying39 HI2.out (OB.cells0 (Fp2_21.out)) ?_)
    | (refine wpList_load_rep rfl 47 (.tmp 8) rfl (gB3) 0 rfl t3 _ Tryz.underlying47 HJ3.out (OB.cells0 (Fb3_21.out)) ?_)
    | (refine wpList_load_rep rfl 31 (.tmp 10) rfl (w4.heap.size) 0 rfl t4 _ Tryz.underlying31 HJ4.out (OB.cells0 (Fb5_21.out)) ?_)
    | (refine wpList_load_rep rfl 47 (.tmp 11) rfl (w6.heap.size) 0 rfl t6 _ Tryz.underlying47 HJ6.out (OB.cells0 (Fb7_21.out)) ?_)
    | (refine wpList_load_rep rfl 47 (.tmp 12) rfl (gB8) 0 rfl t8 _ Tryz.underlying47 HJ8.out (OB.cells0 (Fb8_21.out)) ?_)
    | (refine wpList_load_rep rfl 47 (.tmp 17) rfl (gB19) 0 rfl t19 _ Tryz.underlying47 HJ19.out (OB.cells0 (Fb19_21.out)) ?_))
  go_ret
  exact ⟨rfl, X21.out⟩

set_option linter.unusedVariables false
theorem own : ownKnob Tryz.prog.godebug = none := by kernel_rfl
theorem laidOut : laidOutB Tryz.prog = true := by kernel_rfl

set_option maxRecDepth 100000 in
theorem lifted (os : Os) (started : os.Started) (H : Type) (enc : TypeId × Value → H) :
    ReturnsInHanded {} Tryz.checked os 8 .any (Rows.fnExactAssocTypeOfSpec.pre6 enc Tryz.prog Tryz.f8 Rows.fnExactAssocTypeOfRow.domain false) (Rows.fnExactAssocTypeOfSpec.post enc Tryz.prog Tryz.f8 false true false false) := by
  refine returnsInHanded_of_change (C := Tryz.checked) own started (by kernel_rfl) Tryz.func8
    (ChangeSpec.witness6 (enc := enc) (C := Tryz.checked) false ⟨#[], #[.agg #[.slice none 0 0], .agg #[.int .i64 0, .int .i64 0], .agg #[.int .i64 0, .string ⟨#[]⟩, .slice none 0 0]], []⟩ 8 (by kernel_rfl) (by kernel_rfl) (by kernel_rfl) (by kernel_rfl)) ?_
  intro W base args ds gs before hval0 hW hcnd _
  have hval : ∀ (j : Nat) t v, Tryz.f8.params[j]? = some t → args[j]? = some v → Value.okWide Tryz.prog W .any base t v := hval0
  have hW' := hW
  obtain ⟨p, q, hA0, hV, rfl, hfz, hnd⟩ := hW
  have hA : DataW.TrodAll enc Tryz.prog W 0 (fun _ => true) true Tryz.f8.params.toList args.toList ds p := hA0
  rw [Tryz.params8] at hA hval
  obtain ⟨v0, vs0, d0, ds0, p0, q0, hargs, rfl, rfl, h0, r0⟩ := trodAll_cons hA
  obtain ⟨v1, vs1, d1, ds1, p1, q1, rfl, rfl, rfl, h1, r1⟩ := trodAll_cons r0
  obtain ⟨v2, vs2, d2, ds2, p2, q2, rfl, rfl, rfl, h2, r2⟩ := trodAll_cons r1
  obtain ⟨rfl, rfl, rfl⟩ := trodAll_nil r2
  obtain rfl : args = #[v0, v1, v2] := by cases args; simp_all
  obtain ⟨rfl, rfl⟩ := trodVars_none hV
  have k0 := h0
  have lt0 : ∀ x ∈ p0, x.block < W.heap.size := by obtain ⟨m, hm⟩ := k0; exact DataW.trod_lt m _ _ _ hm
  obtain ⟨c0, rfl, -⟩ := okWide_struct Tryz.underlying24 (hval 0 24 v0 rfl rfl)
  obtain ⟨fu0, hf0⟩ := h0
  obtain ⟨ts0, ty0, rp0, -⟩ := tyOf_of_trod plainClosed fu0 24 c0.toList _ (by decide) hf0
  obtain ⟨x0, rfl⟩ := tyof_Program ty0
  have k1 := h1
  have lt1 : ∀ x ∈ p1, x.block < W.heap.size := by obtain ⟨m, hm⟩ := k1; exact DataW.trod_lt m _ _ _ hm
  obtain ⟨c1, rfl, -⟩ := okWide_struct Tryz.underlying26 (hval 1 26 v1 rfl rfl)
  obtain ⟨fu1, hf1⟩ := h1
  obtain ⟨ts1, ty1, rp1, -⟩ := tyOf_of_trod plainClosed fu1 26 c1.toList _ (by decide) hf1
  obtain ⟨x1, rfl⟩ := tyof_InstanceRef ty1
  have k2 := h2
  have lt2 : ∀ x ∈ p2, x.block < W.heap.size := by obtain ⟨m, hm⟩ := k2; exact DataW.trod_lt m _ _ _ hm
  obtain ⟨c2, rfl, -⟩ := okWide_struct Tryz.underlying39 (hval 2 39 v2 rfl rfl)
  obtain ⟨fu2, hf2⟩ := h2
  obtain ⟨ts2, ty2, rp2, -⟩ := tyOf_of_trod plainClosed fu2 39 c2.toList _ (by decide) hf2
  obtain ⟨x2, rfl⟩ := tyof_Type ty2
  clear hA0 hval0
  refine (law_FnExactAssocTypeOf W x0 c0.toList rp0 x1 c1.toList rp1 x2 c2.toList rp2).mono fun e W' ⟨he, bel⟩ => ?_
  subst he
  exact ⟨_, rfl, _, _, _, [], _, [], hW', trodAll_mk1 (shut_bool Tryz.underlying4 _), (trodAll_cons_mk (Below.trod laidOut (by kernel_rfl) (of_decide_eq_true (by kernel_rfl)) k0 bel lt0) (trodAll_cons_mk (Below.trod laidOut (by kernel_rfl) (of_decide_eq_true (by kernel_rfl)) k1 bel lt1) (trodAll_cons_mk (Below.trod laidOut (by kernel_rfl) (of_decide_eq_true (by kernel_rfl)) k2 bel lt2) trodAll_mk0))), rfl, bel.frame _, fun h => by cases h⟩

theorem over : Rows.fnExactAssocTypeOfRow.holds Tryz.pinned (OpenSpec.ofChange Rows.fnExactAssocTypeOfSpec) :=
  OpenClaim.holds_of_wide 8 Tryz.f8 rfl rfl rfl rfl rfl rfl rfl ⟨rfl, rfl, rfl, rfl, rfl⟩ rfl rfl rfl rfl rfl fnNamed Tryz.func8 factsJoin (of_decide_eq_true (by kernel_rfl)) wrapper
    (fun os started H enc _ => lifted os started H enc)

theorem proved : Rows.FnExactAssocTypeOfSaid := over
#print axioms proved

end Go.Proofs.YtnakkelglbcecaaGreat.fnExactAssocTypeOfDone
