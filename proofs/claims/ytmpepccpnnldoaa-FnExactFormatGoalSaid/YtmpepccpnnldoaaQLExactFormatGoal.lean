/- FnExactFormatGoal returns true for every input, and leaves what was there as it was. No conditions. -/
import Derived.Test.YtmpepccpnnldoaaRows
import Derived.Test.YtmpepccpnnldoaaQh63914b0f
import Derived.Test.YtmpepccpnnldoaaQhe41c8e2d
import Derived.ProofKit
import Derived.OpenShut
import Derived.ShutString
import Derived.ChangeOld
import Derived.Test.YtmpepccpnnldoaaQJExactFormatGoal
import Derived.Test.YtmpepccpnnldoaaQh35dfa868
import Derived.Test.YtmpepccpnnldoaaQhcd17919c
set_option linter.unusedSimpArgs false
set_option linter.unusedVariables false
namespace Go.Proofs.Ytmpepccpnnldoaa.fnExactFormatGoalDone
open Go.Proofs Go.Proofs.Ytmpepccpnnldoaa Go.ChangeShapes Go.WideShapes Go.ChangeAt Go.RowKit
open Go.ChangeMaps (open_string shut_string)

set_option maxRecDepth 100000 in
set_option maxHeartbeats 4000000 in
theorem law_FnExactFormatGoal (w : World) (x0 : GBound) (cs0 : List Value) (hr0 : RepL w x0.tr cs0) :
    Calls Try.prog 4 #[.agg ⟨cs0⟩] w fun e w' => e = .returned (.bool true) ∧ Below w.heap.size w w' := by
  have HR0 := Lib.hid hr0
  have HL0 : Hid (cs0.length = 4) := by rw [← hr0.length, GBound.tr_len]; rfl
  have HI0_46 : Hid ((Try.prog.info? 46).map (·.size) = some cs0.length) := by rw [HL0.out]; exact isz46
  have HI0_41 : Hid ((Try.prog.info? 41).map (·.size) = some cs0.length) := by rw [HL0.out]; exact isz41
  clear hr0
  go_enter Try.func4, Try.ntmps4
  go_wp2_with (refine wpList_load_rep rfl 46 (.tmp 1) rfl (w.heap.size) 0 rfl cs0 _ Try.underlying46 HI0_46.out (OB.cells0 (OB.new w _ _)) ?_)
  refine (szBound_all x0 _ _ _ (HR0.out.ext (.alloc (.refl _) _)) (by omega) (by omega)).mono ?_; rintro e w1 ⟨r1, rfl, hw1, ra1, rb1, rc1⟩
  have RC1 := Lib.hid rc1
  clear rc1
  have op0_1 := Lib.hid ((OB.new w _ _).ext hw1)
  have HW1 := Lib.hid hw1
  clear hw1
  go_wp2_with (refine wpList_load_rep rfl 46 (.tmp 1) rfl (w.heap.size) 0 rfl cs0 _ Try.underlying46 HI0_46.out (OB.cells0 (op0_1.out)) ?_)
  · go_ret
    exact ⟨rfl, (Ext.trans (.alloc (.refl _) _) HW1.out)⟩
  have hb0 := RC1.out (by omega)
  refine (toBound_all x0 _ _ (HR0.out.ext (Ext.trans (.alloc (.refl _) _) HW1.out)) (by omega)).mono ?_; rintro e w2 ⟨t2, rfl, hw2, ho2⟩
  have HO2 := Lib.hid ho2
  have HTL2 : Hid (t2.length = 4) := by rw [ho2.1, GBound.tr_len]; rfl
  clear ho2
  have op0_2 := Lib.hid ((op0_1.out).ext hw2)
  have HW2 := Lib.hid hw2
  clear hw2
  go_wp2_with (refine wpList_load_rep rfl 46 (.tmp 1) rfl (w.heap.size) 0 rfl cs0 _ Try.underlying46 HI0_46.out (OB.cells0 (op0_2.out)) ?_)
  refine (fmtGoal_spec x0 _ _ (HO2.out.rep) (by have := GBound.type_bulkZ x0; omega)).mono ?_; rintro e w3 ⟨rfl, hw3⟩
  have op0_3 := Lib.hid ((op0_2.out).ext hw3)
  have T2_3 := Lib.hid ((HO2.out.rep).ext hw3)
  have HW3 := Lib.hid hw3
  clear hw3
  go_wp2_with (refine wpList_load_rep rfl 46 (.tmp 1) rfl (w.heap.size) 0 rfl cs0 _ Try.underlying46 HI0_46.out (OB.cells0 (op0_3.out)) ?_)
  refine (toBound_all x0 _ _ (HR0.out.ext (Ext.trans (Ext.trans (Ext.trans (.alloc (.refl _) _) HW1.out) HW2.out) HW3.out)) (by omega)).mono ?_; rintro e w4 ⟨t4, rfl, hw4, ho4⟩
  have HO4 := Lib.hid ho4
  have HTL4 : Hid (t4.length = 4) := by rw [ho4.1, GBound.tr_len]; rfl
  clear ho4
  have op0_4 := Lib.hid ((op0_3.out).ext hw4)
  have T2_4 := Lib.hid ((T2_3.out).ext hw4)
  have HW4 := Lib.hid hw4
  clear hw4
  have HJ4 : Hid ((Try.prog.info? 41).map (·.size) = some t4.length) := by rw [HTL4.out]; exact isz41
  go_wp2_with (first
    | (refine wpList_load_rep rfl 46 (.tmp 1) rfl (w.heap.size) 0 rfl cs0 _ Try.underlying46 HI0_46.out (OB.cells0 (op0_5.out)) ?_)
    | (refine wpList_load_rep rfl 41 (.tmp 5) rfl (w4.heap.size) 0 rfl t4 _ Try.underlying41 HJ4.out (OB.cells0 (HOB5.out)) ?_)
    | (refine wpList_store_rep rfl 41 (.tmp 5) _ rfl w4.heap.size 0 rfl t4 rfl 41 _ (OB.new w4 _ _) HJ4.out (by rw [HTL4.out]; exact Nat.le_refl _) HO4.out.rep.one ?_; intro w5 hob hgb hzb; rw [splice_whole (by rw [HTL4.out]; rfl)] at hob; have HOB5 := Lib.hid hob; have HW5 := Lib.hid (grown_ext (.alloc (.refl w4) _) hgb (Nat.le_refl _)); clear hob hgb hzb; have op0_5 := Lib.hid ((op0_4.out).ext HW5.out); have T2_5 := Lib.hid ((T2_4.out).ext HW5.out); have T4_5 := Lib.hid ((HO4.out.rep).ext HW5.out)))
  refine (fmtGoal_impl x0 _ _ (T4_5.out) (by have := GBound.type_bulkZ x0; omega)).mono ?_; rintro e w6 ⟨rfl, hw6⟩
  have op0_6 := Lib.hid ((op0_5.out).ext hw6)
  have ox0_6 := Lib.hid ((HOB5.out).ext hw6)
  have T2_6 := Lib.hid ((T2_5.out).ext hw6)
  have T4_6 := Lib.hid ((T4_5.out).ext hw6)
  have HW6 := Lib.hid hw6
  clear hw6
  go_wp2_with (first
    | (refine wpList_load_rep rfl 46 (.tmp 1) rfl (w.heap.size) 0 rfl cs0 _ Try.underlying46 HI0_46.out (OB.cells0 (op0_6.out)) ?_)
    | (refine wpList_load_rep rfl 41 (.tmp 5) rfl (w4.heap.size) 0 rfl t4 _ Try.underlying41 HJ4.out (OB.cells0 (ox0_6.out)) ?_))
  refine wp_region_held_drew (S := Ext w6) (by kernel_rfl) (.drew (.refl _)) (fun hHeld => ?_)
  refine wpAnyH_load_rep (i := 0) rfl (by kernel_rfl) (by kernel_rfl) (by kernel_rfl) (fun _ _ _ h => h) rfl 41 (.tmp 5) rfl (w4.heap.size) 0 rfl t4 _ Try.underlying41 HJ4.out (fun w hS => OB.cells0 ((ox0_6.out).ext hS)) (by assumption) (fun _ _ _ _ h => h) ?_
  simp only [Act.put, Act.eval, List.getElem_toArray, List.getElem_cons_zero, List.setIfInBounds_toArray, List.set_cons_zero, List.set_cons_succ]
  refine wpAnyH_load_rep (i := 1) rfl (by kernel_rfl) (by kernel_rfl) (by kernel_rfl) (fun _ _ _ h => h) rfl 46 (.tmp 1) rfl (w.heap.size) 0 rfl cs0 _ Try.underlying46 HI0_46.out (fun w hS => OB.cells0 ((op0_6.out).ext hS)) (by assumption) (fun _ _ _ _ h => h) ?_
  simp only [Act.put, Act.eval, List.getElem_toArray, List.getElem_cons_zero, List.getElem_cons_succ, List.setIfInBounds_toArray, List.set_cons_zero, List.set_cons_succ]
  have op0_7 := Lib.hid ((op0_6.out).ext (Ext.drew (.refl w6)))
  have ox0_7 := Lib.hid ((ox0_6.out).ext (Ext.drew (.refl w6)))
  have T2_7 := Lib.hid ((T2_6.out).ext (Ext.drew (.refl w6)))
  have T4_7 := Lib.hid ((T4_6.out).ext (Ext.drew (.refl w6)))
  refine wpAnyH_call (i := 2) (by kernel_rfl) rfl rfl (run_call_func rfl rfl #[.agg ⟨cs0⟩] (by simp only [List.map_toArray, List.map_cons, List.map_nil, Act.eval]; rfl) Try.func16 (by kernel_rfl) (by kernel_rfl) _) (toBound_all x0 _ _ (HR0.out.ext (Ext.trans (Ext.trans (Ext.trans (Ext.trans (Ext.trans (Ext.trans (Ext.trans (.alloc (.refl _) _) HW1.out) HW2.out) HW3.out) HW4.out) HW5.out) HW6.out) (.drew (.refl _)))) (by omega)) ?_; rintro e w8 ⟨t8, rfl, hw8, ho8⟩
  have HO8 := Lib.hid ho8
  have HTL8 : Hid (t8.length = 4) := by rw [ho8.1, GBound.tr_len]; rfl
  clear ho8
  refine ⟨_, rfl, Ext.trans hHeld hw8, ?_⟩
  have hs8 := Ext.trans hHeld hw8
  have op0_8 := Lib.hid ((op0_7.out).ext hw8)
  have ox0_8 := Lib.hid ((ox0_7.out).ext hw8)
  have T2_8 := Lib.hid ((T2_7.out).ext hw8)
  have T4_8 := Lib.hid ((T4_7.out).ext hw8)
  have HW8 := Lib.hid hw8
  clear hw8
  simp only [Act.put, List.getElem_toArray, List.getElem_cons_zero, List.getElem_cons_succ, List.setIfInBounds_toArray, List.set_cons_zero, List.set_cons_succ]
  refine wpAnyH_call (i := 3) (by kernel_rfl) rfl rfl (run_call_func rfl rfl #[.agg ⟨t4⟩, .agg ⟨t8⟩] (by simp only [List.map_toArray, List.map_cons, List.map_nil, Act.eval]; rfl) Try.func18 (by kernel_rfl) (by kernel_rfl) _) (eqBound_all x0 _ _ _ (T4_8.out) (HO8.out.rep)) ?_; rintro e w9 ⟨rfl, hw9⟩
  refine ⟨_, rfl, Ext.trans hs8 hw9, ?_⟩
  have hs9 := Ext.trans hs8 hw9
  have op0_9 := Lib.hid ((op0_8.out).ext hw9)
  have ox0_9 := Lib.hid ((ox0_8.out).ext hw9)
  have T2_9 := Lib.hid ((T2_8.out).ext hw9)
  have T4_9 := Lib.hid ((T4_8.out).ext hw9)
  have T8_9 := Lib.hid ((HO8.out.rep).ext hw9)
  have HW9 := Lib.hid hw9
  clear hw9
  simp only [Act.put, List.getElem_toArray, List.getElem_cons_zero, List.getElem_cons_succ, List.setIfInBounds_toArray, List.set_cons_zero, List.set_cons_succ]
  refine wpAnyH_take (i := 4) rfl (by kernel_rfl) (by kernel_rfl) (by kernel_rfl) (fun _ _ _ h => h) (.inl ⟨rfl, fun _ _ => rfl⟩) (by assumption) ?_
  simp only [Act.put, Act.eval, List.getElem_toArray, List.getElem_cons_zero, List.getElem_cons_succ, List.setIfInBounds_toArray, List.set_cons_zero, List.set_cons_succ]
  refine wpAnyH_done (by kernel_rfl) ?_ _
  clear hHeld hs8 hs9
  go_wp2_with (first
    | (refine wpList_load_rep rfl 46 (.tmp 1) rfl (w.heap.size) 0 rfl cs0 _ Try.underlying46 HI0_46.out (OB.cells0 (op0_9.out)) ?_)
    | (refine wpList_load_rep rfl 41 (.tmp 5) rfl (w4.heap.size) 0 rfl t4 _ Try.underlying41 HJ4.out (OB.cells0 (ox0_9.out)) ?_))
  go_ret
  exact ⟨rfl, (Ext.trans (Ext.trans (Ext.trans (Ext.trans (Ext.trans (Ext.trans (Ext.trans (Ext.trans (Ext.trans (.alloc (.refl _) _) HW1.out) HW2.out) HW3.out) HW4.out) HW5.out) HW6.out) (.drew (.refl _))) HW8.out) HW9.out)⟩

set_option linter.unusedVariables false
theorem own : ownKnob Try.prog.godebug = none := by kernel_rfl
theorem laidOut : laidOutB Try.prog = true := by kernel_rfl

set_option maxRecDepth 100000 in
theorem lifted (os : Os) (started : os.Started) (H : Type) (enc : TypeId × Value → H) :
    ReturnsInHanded {} Try.checked os 4 .any (Rows.fnExactFormatGoalSpec.pre6 enc Try.prog Try.f4 Rows.fnExactFormatGoalRow.domain false) (Rows.fnExactFormatGoalSpec.post enc Try.prog Try.f4 false true false false) := by
  refine returnsInHanded_of_change (C := Try.checked) own started (by kernel_rfl) Try.func4
    (ChangeSpec.witness6 (enc := enc) (C := Try.checked) false ⟨#[], #[.agg #[.string ⟨#[]⟩, .int .i64 0, .string ⟨#[]⟩, .slice none 0 0]], []⟩ 8 (by kernel_rfl) (by kernel_rfl) (by kernel_rfl) (by kernel_rfl)) ?_
  intro W base args ds gs before hval0 hW hcnd _
  have hval : ∀ (j : Nat) t v, Try.f4.params[j]? = some t → args[j]? = some v → Value.okWide Try.prog W .any base t v := hval0
  have hW' := hW
  obtain ⟨p, q, hA0, hV, rfl, hfz, hnd⟩ := hW
  have hA : DataW.TrodAll enc Try.prog W 0 (fun _ => true) true Try.f4.params.toList args.toList ds p := hA0
  rw [Try.params4] at hA hval
  obtain ⟨v0, vs0, d0, ds0, p0, q0, hargs, rfl, rfl, h0, r0⟩ := trodAll_cons hA
  obtain ⟨rfl, rfl, rfl⟩ := trodAll_nil r0
  obtain rfl : args = #[v0] := by cases args; simp_all
  obtain ⟨rfl, rfl⟩ := trodVars_none hV
  have k0 := h0
  have lt0 : ∀ x ∈ p0, x.block < W.heap.size := by obtain ⟨m, hm⟩ := k0; exact DataW.trod_lt m _ _ _ hm
  obtain ⟨c0, rfl, -⟩ := okWide_struct Try.underlying46 (hval 0 46 v0 rfl rfl)
  obtain ⟨fu0, hf0⟩ := h0
  obtain ⟨ts0, ty0, rp0, -⟩ := tyOf_of_trod plainClosed fu0 46 c0.toList _ (by decide) hf0
  obtain ⟨x0, rfl⟩ := tyof_Bound ty0
  clear hA0 hval0
  refine (law_FnExactFormatGoal W x0 c0.toList rp0).mono fun e W' ⟨he, bel⟩ => ?_
  subst he
  exact ⟨_, rfl, _, _, _, [], _, [], hW', trodAll_mk1 (shut_bool Try.underlying4 _), (trodAll_cons_mk (Below.trod laidOut (by kernel_rfl) (of_decide_eq_true (by kernel_rfl)) k0 bel lt0) trodAll_mk0), rfl, bel.frame _, fun h => by cases h⟩

theorem over : Rows.fnExactFormatGoalRow.holds Try.pinned (OpenSpec.ofChange Rows.fnExactFormatGoalSpec) :=
  OpenClaim.holds_of_wide 4 Try.f4 rfl rfl rfl rfl rfl rfl rfl ⟨rfl, rfl, rfl, rfl, rfl⟩ rfl rfl rfl rfl rfl fnNamed Try.func4 factsJoin (of_decide_eq_true (by kernel_rfl)) wrapper
    (fun os started H enc _ => lifted os started H enc)

theorem proved : Rows.FnExactFormatGoalSaid := over
#print axioms proved

end Go.Proofs.Ytmpepccpnnldoaa.fnExactFormatGoalDone
