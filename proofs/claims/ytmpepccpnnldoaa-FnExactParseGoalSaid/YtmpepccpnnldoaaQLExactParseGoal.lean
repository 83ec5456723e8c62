/- FnExactParseGoal returns true for every input, and leaves what was there as it was. No conditions. -/
import Derived.Test.YtmpepccpnnldoaaRows
import Derived.Test.YtmpepccpnnldoaaQh88715e30
import Derived.Test.YtmpepccpnnldoaaQhd5e912fe
import Derived.ProofKit
import Derived.OpenShut
import Derived.ShutString
import Derived.ChangeOld
import Derived.Test.YtmpepccpnnldoaaQJExactParseGoal
import Derived.Test.YtmpepccpnnldoaaQh0f9ffd1e
import Derived.Test.YtmpepccpnnldoaaQh04771900
import Derived.Test.YtmpepccpnnldoaaQhe6026572
import Derived.Test.YtmpepccpnnldoaaQh70cfe8fe
set_option linter.unusedSimpArgs false
set_option linter.unusedVariables false
namespace Go.Proofs.Ytmpepccpnnldoaa.fnExactParseGoalDone
open Go.Proofs Go.Proofs.Ytmpepccpnnldoaa Go.ChangeShapes Go.WideShapes Go.ChangeAt Go.RowKit
open Go.ChangeMaps (open_string shut_string)

theorem obchg {S : Nat → Prop} {w w' : World} {g : Nat} {t : TypeId} {cs : Array Value} (h : OB w g t cs) (hc : Chg S w w') (hn : ¬ S g) : OB w' g t cs := (hc.block g h.lt hn).trans h
set_option maxRecDepth 100000 in
set_option maxHeartbeats 8000000 in
theorem law_FnExactParseGoal (w : World) (x0 : ByteArray) (hx0 : x0.size ≤ 9223372036854775807) :
    Calls Try.prog 5 #[.string x0] w fun e w' => e = .returned (.bool true) ∧ Below w.heap.size w w' := by
  go_enter Try.func5, Try.ntmps5
  go_wp2_with fail
  · go_ret
    exact ⟨rfl, (Ext.refl _)⟩
  refine (parseP_spec x0 _ (by omega)).mono ?_; rintro e w1 ⟨t1, rfl, hw1, ho1⟩
  have HO1 := Lib.hid ho1
  have HT1 : Hid (t1.length = 4) := (by rw [← ho1.length]; exact GBound.tr_len _)
  have HJ1 : Hid ((Try.prog.info? 41).map (·.size) = some t1.length) := (by rw [HT1.out]; exact isz41)
  clear ho1
  have X1 := Lib.hid (Ext.trans (Ext.refl _) hw1)
  have z1 : w.heap.size + 0 ≤ w1.heap.size := (by have h1 := hw1.size; (try simp only [World.size_alloc] at h1); omega)
  clear hw1
  go_wp2_with (first
    | (refine wpList_store_rep rfl 41 (.tmp 3) (.tmp 17) rfl w1.heap.size 0 rfl t1 rfl 41 _ (OB.new w1 _ _) HJ1.out (by rw [HT1.out]; exact Nat.le_refl _) (HO1.out.one) ?_; intro w2 hob hgb hzb; rw [splice_whole (by rw [HT1.out]; rfl)] at hob; have hw2 := grown_ext (.alloc (.refl w1) _) hgb (Nat.le_refl _); have Ft1_2 := Lib.hid (Ext.trans (Ext.refl _) hw2); have X2 := Lib.hid (Ext.trans X1.out hw2); have z2 : w1.heap.size ≤ w2.heap.size := hw2.size; have Fb2_2 := Lib.hid hob; have zs2 : w1.heap.size < w2.heap.size := hob.lt; clear hob hgb hzb hw2)
    | (refine wpList_load_rep rfl 41 (.tmp 3) rfl (w1.heap.size) 0 rfl t1 _ Try.underlying41 HJ1.out (OB.cells0 (Fb2_2.out)) ?_))
  refine (parseP_impl x0 _ (by omega)).mono ?_; rintro e w3 ⟨t3, rfl, hw3, ho3⟩
  have HO3 := Lib.hid ho3
  have HT3 : Hid (t3.length = 4) := (by rw [ho3.1]; exact GBound.tr_len _)
  have HJ3 : Hid ((Try.prog.info? 41).map (·.size) = some t3.length) := (by rw [HT3.out]; exact isz41)
  clear ho3
  have Ft1_3 := Lib.hid (Ext.trans Ft1_2.out hw3)
  have Fb2_3 := Lib.hid ((Fb2_2.out).ext hw3)
  have X3 := Lib.hid (Ext.trans X2.out hw3)
  have z3 : w2.heap.size ≤ w3.heap.size := hw3.size
  clear hw3
  go_wp2_with (first
    | (refine wpList_store_rep rfl 41 (.tmp 5) (.tmp 22) rfl w3.heap.size 0 rfl t3 rfl 41 _ (OB.new w3 _ _) HJ3.out (by rw [HT3.out]; exact Nat.le_refl _) (HO3.out.rep.one) ?_; intro w4 hob hgb hzb; rw [splice_whole (by rw [HT3.out]; rfl)] at hob; have hw4 := grown_ext (.alloc (.refl w3) _) hgb (Nat.le_refl _); have Ft1_4 := Lib.hid (Ext.trans Ft1_3.out hw4); have Fb2_4 := Lib.hid ((Fb2_3.out).ext hw4); have Ft3_4 := Lib.hid ((HO3.out).ext hw4); have X4 := Lib.hid (Ext.trans X3.out hw4); have z4 : w3.heap.size ≤ w4.heap.size := hw4.size; have Fb4_4 := Lib.hid hob; have zs4 : w3.heap.size < w4.heap.size := hob.lt; clear hob hgb hzb hw4)
    | (refine wpList_load_rep_g (by rfl) 41 (.tmp 3) rfl (w1.heap.size) 0 rfl t1 _ Try.underlying41 HJ1.out (OB.cells0 (Fb2_4.out)) ?_)
    | (refine wpList_load_rep_g (by rfl) 41 (.tmp 5) rfl (w3.heap.size) 0 rfl t3 _ Try.underlying41 HJ3.out (OB.cells0 (Fb4_4.out)) ?_)
    | (refine wpList_store_rep rfl 41 (.tmp 5) (.tmp 22) rfl w3.heap.size 0 rfl t3 rfl 41 _ (OB.new w3 _ _) HJ3.out (by rw [HT3.out]; exact Nat.le_refl _) (HO3.out.rep.one) ?_; intro w4 hob hgb hzb; rw [splice_whole (by rw [HT3.out]; rfl)] at hob; have hw4 := grown_ext (.alloc (.refl w3) _) hgb (Nat.le_refl _); have Ft1_4 := Lib.hid (Ext.trans Ft1_3.out hw4); have Fb2_4 := Lib.hid ((Fb2_3.out).ext hw4); have Ft3_4 := Lib.hid ((HO3.out).ext hw4); have X4 := Lib.hid (Ext.trans X3.out hw4); have z4 : w3.heap.size ≤ w4.heap.size := hw4.size; have Fb4_4 := Lib.hid hob; have zs4 : w3.heap.size < w4.heap.size := hob.lt; clear hob hgb hzb hw4)
    | (refine wpList_load_rep rfl 41 (.tmp 3) rfl (w1.heap.size) 0 rfl t1 _ Try.underlying41 HJ1.out (OB.cells0 (Fb2_4.out)) ?_)
    | (refine wpList_load_rep rfl 41 (.tmp 5) rfl (w3.heap.size) 0 rfl t3 _ Try.underlying41 HJ3.out (OB.cells0 (Fb4_4.out)) ?_))
  refine (eqBound_all (goalOf x0).1 _ _ _ (Ft3_4.out).rep (HO1.out.ext Ft1_4.out)).mono ?_; rintro e w5 ⟨rfl, hw5⟩
  have Ft1_5 := Lib.hid (Ext.trans Ft1_4.out hw5)
  have Fb2_5 := Lib.hid ((Fb2_4.out).ext hw5)
  have Ft3_5 := Lib.hid ((Ft3_4.out).ext hw5)
  have Fb4_5 := Lib.hid ((Fb4_4.out).ext hw5)
  have X5 := Lib.hid (Ext.trans X4.out hw5)
  have z5 : w4.heap.size ≤ w5.heap.size := hw5.size
  clear hw5
  go_wp2_with (first
    | (refine wpList_load_rep rfl 41 (.tmp 3) rfl (w1.heap.size) 0 rfl t1 _ Try.underlying41 HJ1.out (OB.cells0 (Fb2_5.out)) ?_)
    | (refine wpList_load_rep rfl 41 (.tmp 5) rfl (w3.heap.size) 0 rfl t3 _ Try.underlying41 HJ3.out (OB.cells0 (Fb4_5.out)) ?_))
  obtain ⟨mk_t3_1, Hmk_t3_1⟩ : ∃ q, Hid (1 + Tr.topN ((goalOf x0).1).tr = q) := ⟨_, rfl⟩
  refine (markBound_all (goalOf x0).1 _ _ 1 (Between w2 w3) _ (by rfl) (Ft3_5.out) (fun b hb => by have h1 := hb.1; have h2 := hb.2; omega) (goalOf_top x0)).mono ?_; rintro e w6 ⟨he, hm6, hc6⟩
  rw [Hmk_t3_1.out] at he
  subst he
  have Ft1_6 := Lib.hid (Chg.ext Ft1_5.out hc6 (fun b hb => by have h1 := hb.1; omega))
  have Fb2_6 := Lib.hid (obchg (Fb2_5.out) hc6 (fun h => by have h1 := h.1; have h2 := h.2; omega))
  have Fb4_6 := Lib.hid (obchg (Fb4_5.out) hc6 (fun h => by have h1 := h.1; have h2 := h.2; omega))
  have X6 := Lib.hid (Chg.ext X5.out hc6 (fun b hb => by have h1 := hb.1; omega))
  have z6 : w5.heap.size ≤ w6.heap.size := hc6.size
  have Ft3_6 := Lib.hid hm6
  clear hc6 hm6
  have hng6 : ¬ ((mk_t3_1 : Nat) : Int) < 0 := by omega
  go_wp2_with (first
    | (refine wpList_load_rep rfl 41 (.tmp 3) rfl (w1.heap.size) 0 rfl t1 _ Try.underlying41 HJ1.out (OB.cells0 (Fb2_6.out)) ?_)
    | (refine wpList_load_rep rfl 41 (.tmp 5) rfl (w3.heap.size) 0 rfl t3 _ Try.underlying41 HJ3.out (OB.cells0 (Fb4_6.out)) ?_))
  refine (heldBound_all (goalOf x0).1 _ _ 1 _ (by rfl) (Ft3_6.out).rep (goalOf_top x0)).mono ?_; rintro e w7 ⟨he, hw7⟩
  rw [Hmk_t3_1.out] at he
  subst he
  have Ft1_7 := Lib.hid (Ext.trans Ft1_6.out hw7)
  have Fb2_7 := Lib.hid ((Fb2_6.out).ext hw7)
  have Ft3_7 := Lib.hid ((Ft3_6.out).ext hw7)
  have Fb4_7 := Lib.hid ((Fb4_6.out).ext hw7)
  have X7 := Lib.hid (Ext.trans X6.out hw7)
  have z7 : w6.heap.size ≤ w7.heap.size := hw7.size
  clear hw7
  go_wp2_with (first
    | (refine wpList_load_rep rfl 41 (.tmp 3) rfl (w1.heap.size) 0 rfl t1 _ Try.underlying41 HJ1.out (OB.cells0 (Fb2_7.out)) ?_)
    | (refine wpList_load_rep rfl 41 (.tmp 5) rfl (w3.heap.size) 0 rfl t3 _ Try.underlying41 HJ3.out (OB.cells0 (Fb4_7.out)) ?_))
  refine (parseP_impl x0 _ (by omega)).mono ?_; rintro e w8 ⟨t8, rfl, hw8, ho8⟩
  have HO8 := Lib.hid ho8
  have HT8 : Hid (t8.length = 4) := (by rw [ho8.1]; exact GBound.tr_len _)
  have HJ8 : Hid ((Try.prog.info? 41).map (·.size) = some t8.length) := (by rw [HT8.out]; exact isz41)
  clear ho8
  have Ft1_8 := Lib.hid (Ext.trans Ft1_7.out hw8)
  have Fb2_8 := Lib.hid ((Fb2_7.out).ext hw8)
  have Ft3_8 := Lib.hid ((Ft3_7.out).ext hw8)
  have Fb4_8 := Lib.hid ((Fb4_7.out).ext hw8)
  have X8 := Lib.hid (Ext.trans X7.out hw8)
  have z8 : w7.heap.size ≤ w8.heap.size := hw8.size
  clear hw8
  go_wp2_with (first
    | (refine wpList_store_rep rfl 41 (.tmp 9) (.tmp 47) rfl w8.heap.size 0 rfl t8 rfl 41 _ (OB.new w8 _ _) HJ8.out (by rw [HT8.out]; exact Nat.le_refl _) (HO8.out.rep.one) ?_; intro w9 hob hgb hzb; rw [splice_whole (by rw [HT8.out]; rfl)] at hob; have hw9 := grown_ext (.alloc (.refl w8) _) hgb (Nat.le_refl _); have Ft1_9 := Lib.hid (Ext.trans Ft1_8.out hw9); have Fb2_9 := Lib.hid ((Fb2_8.out).ext hw9); have Ft3_9 := Lib.hid ((Ft3_8.out).ext hw9); have Fb4_9 := Lib.hid ((Fb4_8.out).ext hw9); have Ft8_9 := Lib.hid ((HO8.out).ext hw9); have X9 := Lib.hid (Ext.trans X8.out hw9); have z9 : w8.heap.size ≤ w9.heap.size := hw9.size; have Fb9_9 := Lib.hid hob; have zs9 : w8.heap.size < w9.heap.size := hob.lt; clear hob hgb hzb hw9)
    | (refine wpList_load_rep_g (by rfl) 41 (.tmp 3) rfl (w1.heap.size) 0 rfl t1 _ Try.underlying41 HJ1.out (OB.cells0 (Fb2_9.out)) ?_)
    | (refine wpList_load_rep_g (by rfl) 41 (.tmp 5) rfl (w3.heap.size) 0 rfl t3 _ Try.underlying41 HJ3.out (OB.cells0 (Fb4_9.out)) ?_)
    | (refine wpList_load_rep_g (by rfl) 41 (.tmp 9) rfl (w8.heap.size) 0 rfl t8 _ Try.underlying41 HJ8.out (OB.cells0 (Fb9_9.out)) ?_)
    | (refine wpList_store_rep rfl 41 (.tmp 9) (.tmp 47) rfl w8.heap.size 0 rfl t8 rfl 41 _ (OB.new w8 _ _) HJ8.out (by rw [HT8.out]; exact Nat.le_refl _) (HO8.out.rep.one) ?_; intro w9 hob hgb hzb; rw [splice_whole (by rw [HT8.out]; rfl)] at hob; have hw9 := grown_ext (.alloc (.refl w8) _) hgb (Nat.le_refl _); have Ft1_9 := Lib.hid (Ext.trans Ft1_8.out hw9); have Fb2_9 := Lib.hid ((Fb2_8.out).ext hw9); have Ft3_9 := Lib.hid ((Ft3_8.out).ext hw9); have Fb4_9 := Lib.hid ((Fb4_8.out).ext hw9); have Ft8_9 := Lib.hid ((HO8.out).ext hw9); have X9 := Lib.hid (Ext.trans X8.out hw9); have z9 : w8.heap.size ≤ w9.heap.size := hw9.size; have Fb9_9 := Lib.hid hob; have zs9 : w8.heap.size < w9.heap.size := hob.lt; clear hob hgb hzb hw9)
    | (refine wpList_load_rep rfl 41 (.tmp 3) rfl (w1.heap.size) 0 rfl t1 _ Try.underlying41 HJ1.out (OB.cells0 (Fb2_9.out)) ?_)
    | (refine wpList_load_rep rfl 41 (.tmp 5) rfl (w3.heap.size) 0 rfl t3 _ Try.underlying41 HJ3.out (OB.cells0 (Fb4_9.out)) ?_)
    | (refine wpList_load_rep rfl 41 (.tmp 9) rfl (w8.heap.size) 0 rfl t8 _ Try.underlying41 HJ8.out (OB.cells0 (Fb9_9.out)) ?_))
  refine (eqBound_all (goalOf x0).1 _ _ _ (Ft8_9.out).rep (HO1.out.ext Ft1_9.out)).mono ?_; rintro e w10 ⟨rfl, hw10⟩
  have Ft1_10 := Lib.hid (Ext.trans Ft1_9.out hw10)
  have Fb2_10 := Lib.hid ((Fb2_9.out).ext hw10)
  have Ft3_10 := Lib.hid ((Ft3_9.out).ext hw10)
  have Fb4_10 := Lib.hid ((Fb4_9.out).ext hw10)
  have Ft8_10 := Lib.hid ((Ft8_9.out).ext hw10)
  have Fb9_10 := Lib.hid ((Fb9_9.out).ext hw10)
  have X10 := Lib.hid (Ext.trans X9.out hw10)
  have z10 : w9.heap.size ≤ w10.heap.size := hw10.size
  clear hw10
  go_wp2_with (first
    | (refine wpList_load_rep rfl 41 (.tmp 3) rfl (w1.heap.size) 0 rfl t1 _ Try.underlying41 HJ1.out (OB.cells0 (Fb2_10.out)) ?_)
    | (refine wpList_load_rep rfl 41 (.tmp 5) rfl (w3.heap.size) 0 rfl t3 _ Try.underlying41 HJ3.out (OB.cells0 (Fb4_10.out)) ?_)
    | (refine wpList_load_rep rfl 41 (.tmp 9) rfl (w8.heap.size) 0 rfl t8 _ Try.underlying41 HJ8.out (OB.cells0 (Fb9_10.out)) ?_))
  refine (heldBound_all (goalOf x0).1 _ _ 1 _ (by rfl) (Ft3_10.out).rep (goalOf_top x0)).mono ?_; rintro e w11 ⟨he, hw11⟩
  rw [Hmk_t3_1.out] at he
  subst he
  have Ft1_11 := Lib.hid (Ext.trans Ft1_10.out hw11)
  have Fb2_11 := Lib.hid ((Fb2_10.out).ext hw11)
  have Ft3_11 := Lib.hid ((Ft3_10.out).ext hw11)
  have Fb4_11 := Lib.hid ((Fb4_10.out).ext hw11)
  have Ft8_11 := Lib.hid ((Ft8_10.out).ext hw11)
  have Fb9_11 := Lib.hid ((Fb9_10.out).ext hw11)
  have X11 := Lib.hid (Ext.trans X10.out hw11)
  have z11 : w10.heap.size ≤ w11.heap.size := hw11.size
  clear hw11
  go_wp2_with (first
    | (refine wpList_load_rep rfl 41 (.tmp 3) rfl (w1.heap.size) 0 rfl t1 _ Try.underlying41 HJ1.out (OB.cells0 (Fb2_11.out)) ?_)
    | (refine wpList_load_rep rfl 41 (.tmp 5) rfl (w3.heap.size) 0 rfl t3 _ Try.underlying41 HJ3.out (OB.cells0 (Fb4_11.out)) ?_)
    | (refine wpList_load_rep rfl 41 (.tmp 9) rfl (w8.heap.size) 0 rfl t8 _ Try.underlying41 HJ8.out (OB.cells0 (Fb9_11.out)) ?_))
  go_ret
  exact ⟨rfl, X11.out⟩

set_option linter.unusedVariables false
theorem own : ownKnob Try.prog.godebug = none := by kernel_rfl
theorem laidOut : laidOutB Try.prog = true := by kernel_rfl

set_option maxRecDepth 100000 in
theorem lifted (os : Os) (started : os.Started) (H : Type) (enc : TypeId × Value → H) :
    ReturnsInHanded {} Try.checked os 5 .any (Rows.fnExactParseGoalSpec.pre6 enc Try.prog Try.f5 Rows.fnExactParseGoalRow.domain false) (Rows.fnExactParseGoalSpec.post enc Try.prog Try.f5 false true false false) := by
  refine returnsInHanded_of_change (C := Try.checked) own started (by kernel_rfl) Try.func5
    (ChangeSpec.witness6 (enc := enc) (C := Try.checked) false ⟨#[], #[.string ⟨#[]⟩], []⟩ 8 (by kernel_rfl) (by kernel_rfl) (by kernel_rfl) (by kernel_rfl)) ?_
  intro W base args ds gs before hval0 hW hcnd _
  have hval : ∀ (j : Nat) t v, Try.f5.params[j]? = some t → args[j]? = some v → Value.okWide Try.prog W .any base t v := hval0
  have hW' := hW
  obtain ⟨p, q, hA0, hV, rfl, hfz, hnd⟩ := hW
  have hA : DataW.TrodAll enc Try.prog W 0 (fun _ => true) true Try.f5.params.toList args.toList ds p := hA0
  rw [Try.params5] at hA hval
  obtain ⟨v0, vs0, d0, ds0, p0, q0, hargs, rfl, rfl, h0, r0⟩ := trodAll_cons hA
  obtain ⟨rfl, rfl, rfl⟩ := trodAll_nil r0
  obtain rfl : args = #[v0] := by cases args; simp_all
  obtain ⟨rfl, rfl⟩ := trodVars_none hV
  obtain ⟨a0, rfl, rfl, rfl, w0⟩ := open_string Try.underlying9 (hval 0 9 v0 rfl rfl) h0
  clear hA0 hval0
  refine (law_FnExactParseGoal W a0 (by unfold maxLen at w0; omega)).mono fun e W' ⟨he, bel⟩ => ?_
  subst he
  exact ⟨_, rfl, _, _, _, [], _, [], hW', trodAll_mk1 (shut_bool Try.underlying4 _), (trodAll_cons_mk (shut_string Try.underlying9 w0) trodAll_mk0), rfl, bel.frame _, fun h => by cases h⟩

theorem over : Rows.fnExactParseGoalRow.holds Try.pinned (OpenSpec.ofChange Rows.fnExactParseGoalSpec) :=
  OpenClaim.holds_of_wide 5 Try.f5 rfl rfl rfl rfl rfl rfl rfl ⟨rfl, rfl, rfl, rfl, rfl⟩ rfl rfl rfl rfl rfl fnNamed Try.func5 factsJoin (of_decide_eq_true (by kernel_rfl)) wrapper
    (fun os started H enc _ => lifted os started H enc)

theorem proved : Rows.FnExactParseGoalSaid := over
#print axioms proved

end Go.Proofs.Ytmpepccpnnldoaa.fnExactParseGoalDone
