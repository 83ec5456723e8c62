/- Words, rules and walks of several kinds, laid together: BAssumption, BLeaf, BAll, Reg, Mark, Foc. No conditions but those that each theorem states. -/
import Derived.Test.YtnakkelglbcecaaGreatProg
import Derived.Test.YtnakkelglbcecaaGreatQ1LExactSupertraitPath
import Derived.BigQuiet
import Derived.Deep.QuietTactic
import Derived.Test.YtnakkelglbcecaaGreatQ2LExactSupertraitPath
import Derived.Deep.RegionHeld3
import Derived.Laws.IdiomStrings
import Derived.WalkArith
set_option linter.unusedSimpArgs false
set_option linter.unusedVariables false
namespace Go.Proofs.YtnakkelglbcecaaGreat
open Go.RowKit Go.Proofs

set_option maxRecDepth 100000 in
set_option maxHeartbeats 1000000 in
theorem eqAssumption_of (ts0 : List Tr) (l0 : ts0.length = 4) (v1 : Int) (es2 : List (List Tr)) (h0 : EqC 26 ts0) (h2 : EqSC 35 1 es2) : EqC 112 (ts0 ++ ([.leaf (.int .i64 v1)] ++ ([.row 1 es2] ++ ([])))) := by
  intro cs ds w hr hr'
  obtain ⟨b0, r0, rfl, g0, n0⟩ := RepL.split hr
  obtain ⟨x0_0, x0_1, x0_2, x0_3, rfl⟩ := list4 (g0.length.symm.trans l0)
  obtain ⟨b1, r1, rfl, g1, n1⟩ := RepL.split n0
  obtain ⟨y1, rfl⟩ := list1 g1.length.symm
  obtain ⟨rfl, k1⟩ := g1.1.leaf_eq
  obtain ⟨b2, r2, rfl, g2, n2⟩ := RepL.split n1
  obtain ⟨y2, rfl⟩ := list1 g2.length.symm
  obtain ⟨a2, c2, rfl, -, -⟩ := g2.1.shape
  obtain rfl := RepL.nil_eq n2
  clear hr
  obtain ⟨zb0, zr0, rfl, zg0, zn0⟩ := RepL.split hr'
  obtain ⟨zx0_0, zx0_1, zx0_2, zx0_3, rfl⟩ := list4 (zg0.length.symm.trans l0)
  obtain ⟨zb1, zr1, rfl, zg1, zn1⟩ := RepL.split zn0
  obtain ⟨zy1, rfl⟩ := list1 zg1.length.symm
  obtain ⟨rfl, zk1⟩ := zg1.1.leaf_eq
  obtain ⟨zb2, zr2, rfl, zg2, zn2⟩ := RepL.split zn1
  obtain ⟨zy2, rfl⟩ := list1 zg2.length.symm
  obtain ⟨za2, zc2, rfl, -, -⟩ := zg2.1.shape
  obtain rfl := RepL.nil_eq zn2
  clear hr'
  have G0 := Lib.hid g0
  clear g0 n0
  have G1 := Lib.hid g1
  have K1 := Lib.hid k1
  clear g1 n1 k1
  have G2 := Lib.hid g2
  clear g2 n2
  have zG0 := Lib.hid zg0
  clear zg0 zn0
  have zG1 := Lib.hid zg1
  have zK1 := Lib.hid zk1
  clear zg1 zn1 zk1
  have zG2 := Lib.hid zg2
  clear zg2 zn2
  simp only [List.cons_append, List.nil_append]
  go_enter Tryz.func112, Tryz.ntmps112
  go_wp2_with fail
  refine (h0 _ _ _ (G0.out.ext (.alloc (.alloc (.refl _) _) _)) (zG0.out.ext (.alloc (.alloc (.refl _) _) _))).mono ?_
  rintro e w0 ⟨rfl, hw0⟩
  have HW0 := Lib.hid hw0
  have ob0 := (Two.new w _ _ _ _).ext hw0
  have OBH := Lib.hid ob0
  have ce0 := ob0.o0.cell
  have cf0 := ob0.o1.cell
  clear hw0 ob0
  go_wp2_with fail
  refine (h2 _ _ _ (G2.out.1.ext (Ext.trans (.alloc (.alloc (.refl _) _) _) HW0.out)) (zG2.out.1.ext (Ext.trans (.alloc (.alloc (.refl _) _) _) HW0.out))).mono ?_
  rintro e w2 ⟨rfl, hw2⟩
  have HW2 := Lib.hid hw2
  have ob2 := OBH.out.ext hw2
  clear OBH ce0 cf0
  have OBH := Lib.hid ob2
  have ce2 := ob2.o0.cell
  have cf2 := ob2.o1.cell
  clear hw2 ob2
  go_wp2_with fail
  go_ret
  exact ⟨rfl, (Ext.trans (Ext.trans (.alloc (.alloc (.refl _) _) _) HW0.out) HW2.out)⟩

set_option maxRecDepth 100000 in
set_option maxHeartbeats 1000000 in
theorem eqAssumptionS_of (es : List (List Tr)) (h5 : ∀ e ∈ es, e.length = 6) (H : ∀ e ∈ es, EqC 112 e) : EqSC 54 6 es := by
  intro s u w hs hu
  obtain ⟨a, cap, rfl, hl, hm⟩ := hs.shape
  obtain ⟨a', cap', rfl, hl', hm'⟩ := hu.shape
  unfold maxLen at hm hm'
  have HS := Lib.hid hs
  have HU := Lib.hid hu
  have HH := Lib.hid H
  have H5 := Lib.hid h5
  clear hs hu H h5
  go_enter Tryz.func54, Tryz.ntmps54
  go_wp2_with fail
  go_loopw [5] (fun i wr => ∃ k : Nat, k ≤ es.length ∧ i = .int .i64 k ∧ Ext w wr) (fun i _ => es.length - (intOf i).toNat)
  case atStart => exact ⟨0, Nat.zero_le _, rfl, .refl _⟩
  case round =>
    obtain ⟨k, hk, rfl, hw⟩ := hrel
    by_cases hlt : k < es.length
    · obtain ⟨b, off, cs, rfl, hb, hcs, hc⟩ := (HS.out.ext hw).at2 (k := k) (List.getElem?_eq_getElem hlt)
      obtain ⟨b', off', ds, rfl, hb', hds, hd⟩ := (HU.out.ext hw).at2 (k := k) (List.getElem?_eq_getElem hlt)
      have hmem : es[k] ∈ es := List.getElem_mem hlt
      have l5 := H5.out _ hmem
      have HCS := Lib.hid hcs
      have HDS := Lib.hid hds
      have HM := Lib.hid hmem
      have HC := Lib.hid hc
      have HD := Lib.hid hd
      have HI : Hid ((Tryz.prog.info? 147).map (·.size) = some cs.length) := by rw [← hcs.length, l5]; exact isz147
      have HJ : Hid ((Tryz.prog.info? 147).map (·.size) = some ds.length) := by rw [← hds.length, l5]; exact isz147
      clear hcs hds hc hd l5 hmem
      go_wp2_with fail
      have ki : (k : Int) < (es.length : Int) := by omega
      have k0 : (0 : Int) ≤ (k : Int) := by omega
      refine wp_region_still_tail 8 (by kernel_rfl) (by kernel_rfl) ?_
      simp only [List.take_succ_cons, List.take_zero, List.drop_succ_cons, List.drop_zero]
      change wpStill _ _ wr.drew _ _ _
      repeat (first
        | (refine wpStill_load_rep rfl 147 (.tmp 19) rfl b (off + k * 6) rfl cs _ Tryz.underlying147 HI.out HC.out ?_; simp only [Act.put])
        | (refine wpStill_load_rep rfl 147 (.tmp 23) rfl b' (off' + k * 6) rfl ds _ Tryz.underlying147 HJ.out HD.out ?_; simp only [Act.put])
        | still_step)
      refine wpStill_nil ?_
      change wpList _ _ _ _ _ wr.drew
      go_wp2_with fail
      refine (HH.out _ HM.out _ _ _ (HCS.out.ext (.drew (.refl _))) (HDS.out.ext (.drew (.refl _)))).mono ?_
      rintro e w1 ⟨rfl, hw1⟩
      have HW1 := Lib.hid hw1
      clear hw1
      go_wp2_with fail
      go_roundw
      case rel => exact ⟨k + 1, by omega, by go_num, hw.trans (.trans (.drew (.refl _)) HW1.out)⟩
      case measure => simp [intOf]; omega
    · go_wp2_with fail
      go_ret
      exact ⟨rfl, hw⟩

end Go.Proofs.YtnakkelglbcecaaGreat

namespace Go.Proofs.YtnakkelglbcecaaGreat
open Go.RowKit Go.Proofs

set_option maxRecDepth 100000 in
set_option maxHeartbeats 1000000 in
theorem szStringS_all (l : List ByteArray) : SzSC 178 1 (strTrs l) := by
  intro s left w hs h0 h1
  obtain ⟨a, cap, rfl, hl, hm⟩ := hs.shape
  rw [strTrs_len] at *
  unfold maxLen at hm
  have HS := Lib.hid hs
  clear hs
  go_enter Tryz.func178, Tryz.ntmps178
  go_wp2_with fail
  · go_ret
    exact ⟨-1, rfl, .refl _, by omega, by omega, by omega⟩
  go_loopw [1, 5] (fun lv i wr => ∃ (k : Nat) (r : Int), k ≤ l.length ∧ i = .int .i64 k ∧ lv = .int .i64 r ∧ wr = w ∧ 0 ≤ r ∧ Hid (r + l.length + Tr.bulkAll ((strTrs l).take k) ≤ left) ∧ r ≤ left) (fun _ i _ => l.length - (intOf i).toNat)
  case atStart => exact ⟨0, _, Nat.zero_le _, rfl, rfl, rfl, by omega, by show _ ≤ _; simp only [List.take_zero, Tr.bulkAll]; omega, by omega⟩
  case round =>
    obtain ⟨k, r, hk, rfl, rfl, rfl, hr0, HR, hrl⟩ := hrel
    by_cases hlt : k < l.length
    · obtain ⟨b, off, rfl, hb, hle, hcell⟩ := HS.out.str hlt
      have HT : Hid (Tr.bulkAll ((strTrs l).take (k + 1)) = Tr.bulkAll ((strTrs l).take k) + l[k].size) := by
        show _ = _
        have h1 : k < (strTrs l).length := by rw [strTrs_len]; exact hlt
        rw [Tr.bulkAll_take _ k h1]
        have h2 : (strTrs l)[k] = [.leaf (.string l[k])] := by simp [strTrs]
        rw [h2]
        simp [Tr.bulkL, Tr.bulk]
      unfold maxLen at hle
      generalize l[k] = z at *
      go_wp2_with fail
      · go_ret
        exact ⟨-1, rfl, .refl _, by omega, by omega, by omega⟩
      · go_roundw
        case rel => exact ⟨k + 1, _, by omega, by go_num, rfl, by first | trivial | rfl, by omega, by show _ ≤ _; have h1 := HR.out; have h2 := HT.out; omega, by omega⟩
        case measure => simp [intOf]; omega
    · have hkl : k = l.length := by omega
      go_wp2_with fail
      go_ret
      refine ⟨r, rfl, .refl _, by omega, by omega, fun _ => ?_⟩
      have h1 := HR.out
      rw [hkl, ← strTrs_len, List.take_length] at h1
      simp only [Tr.bulk]
      omega

set_option maxRecDepth 100000 in
set_option maxHeartbeats 1000000 in
theorem eqIntS_all (l : List Int) : EqSC 35 1 (intTrs l) := by
  intro s u w hs hu
  obtain ⟨a, cap, rfl, hl, hm⟩ := hs.shape
  obtain ⟨a', cap', rfl, hl', hm'⟩ := hu.shape
  rw [intTrs_len] at *
  unfold maxLen at hm hm'
  have HS := Lib.hid hs
  have HU := Lib.hid hu
  clear hs hu
  go_enter Tryz.func35, Tryz.ntmps35
  go_wp2_with fail
  go_loopw [5] (fun i wr => ∃ k : Nat, k ≤ l.length ∧ i = .int .i64 k ∧ Ext w wr) (fun i _ => l.length - (intOf i).toNat)
  case atStart => exact ⟨0, Nat.zero_le _, rfl, .refl _⟩
  case round =>
    obtain ⟨k, hk, rfl, hw⟩ := hrel
    by_cases hlt : k < l.length
    · obtain ⟨b, off, rfl, hb, -, hcell⟩ := (HS.out.ext hw).int hlt
      obtain ⟨b', off', rfl, hb', -, hcell'⟩ := (HU.out.ext hw).int hlt
      have ki : (k : Int) < (l.length : Int) := by omega
      have k0 : (0 : Int) ≤ (k : Int) := by omega
      have hk0 : 0 ≤ k := Nat.zero_le k
      generalize l[k] = z at *
      go_wp2_with fail
      go_quiet (fail)
      go_wp2_with fail
      go_roundw
      case rel => exact ⟨k + 1, by omega, by go_num, hw.drewN _⟩
      case measure => simp [intOf]; omega
    · go_wp2_with fail
      go_ret
      exact ⟨rfl, hw⟩

set_option maxRecDepth 100000 in
set_option maxHeartbeats 1000000 in
theorem eqStringS_all (l : List ByteArray) : EqSC 29 1 (strTrs l) := by
  intro s u w hs hu
  obtain ⟨a, cap, rfl, hl, hm⟩ := hs.shape
  obtain ⟨a', cap', rfl, hl', hm'⟩ := hu.shape
  rw [strTrs_len] at *
  unfold maxLen at hm hm'
  have HS := Lib.hid hs
  have HU := Lib.hid hu
  clear hs hu
  go_enter Tryz.func29, Tryz.ntmps29
  go_wp2_with fail
  go_loopw [5] (fun i wr => ∃ k : Nat, k ≤ l.length ∧ i = .int .i64 k ∧ Ext w wr) (fun i _ => l.length - (intOf i).toNat)
  case atStart => exact ⟨0, Nat.zero_le _, rfl, .refl _⟩
  case round =>
    obtain ⟨k, hk, rfl, hw⟩ := hrel
    by_cases hlt : k < l.length
    · obtain ⟨b, off, rfl, hb, -, hcell⟩ := (HS.out.ext hw).str hlt
      obtain ⟨b', off', rfl, hb', -, hcell'⟩ := (HU.out.ext hw).str hlt
      have ki : (k : Int) < (l.length : Int) := by omega
      have k0 : (0 : Int) ≤ (k : Int) := by omega
      have hk0 : 0 ≤ k := Nat.zero_le k
      generalize l[k] = z at *
      go_wp2_with fail
      go_quiet (fail)
      go_wp2_with fail
      go_roundw
      case rel => exact ⟨k + 1, by omega, by go_num, hw.drewN _⟩
      case measure => simp [intOf]; omega
    · go_wp2_with fail
      go_ret
      exact ⟨rfl, hw⟩

set_option maxRecDepth 100000 in
set_option maxHeartbeats 1000000 in
theorem toStringS_all (l : List ByteArray) : ToSC 183 1 (strTrs l) := by
  intro s w hs hbk
  obtain ⟨a, cap, rfl, hl, hm⟩ := hs.shape
  rw [strTrs_len] at *
  unfold maxLen at hm
  have HS := Lib.hid hs
  have n0 : (0 : Int) ≤ l.length := by omega
  clear hs
  go_enter Tryz.func183, Tryz.ntmps183
  go_wp2_with (refine wpList_make_rep rfl 54 (.tmp 6) rfl l.length rfl 9 Tryz.underlying54 1 16 iszb9 (by omega) (by omega) ?_; intro wm arr0 ha0 hob0 hx0 hz0; have HA0 := Lib.hid ha0; have HOB0 := Lib.hid hob0; have HX0 := Lib.hid hx0; have HZ0 := Lib.hid hz0; clear ha0 hob0 hx0 hz0)
  go_loopw [4] (fun i wr => ∃ (k : Nat) (arr : Array Value), k ≤ l.length ∧ i = .int .i64 k ∧ Ext w wr ∧ w.heap.size < wr.heap.size ∧ OB wr w.heap.size 9 arr ∧ arr.size = (strTrs l).length * 1 ∧ Part wr w.heap.size arr 1 (strTrs l) k) (fun i _ => l.length - (intOf i).toNat)
  case atStart => exact ⟨0, arr0, Nat.zero_le _, rfl, HX0.out, by rw [HZ0.out]; omega, HOB0.out, by rw [strTrs_len]; exact HA0.out, Part.zero _ _ _ _ _⟩
  case round =>
    obtain ⟨k, arr, hk, rfl, hw, hgt, hob, hasz, hpart⟩ := hrel
    have HOB := Lib.hid hob
    have HAS := Lib.hid hasz
    have HP := Lib.hid hpart
    clear hob hasz hpart
    by_cases hlt : k < l.length
    · obtain ⟨b, off, rfl, hb, hle, hcell⟩ := (HS.out.ext hw).str hlt
      have HGT := Lib.hid (strTrs_get hlt)
      have HLE : Hid (LeafOk (Value.string l[k])) := hle
      have HF : Hid (0 + k * 1 + 1 ≤ arr.size) := by have h1 := HAS.out; rw [strTrs_len] at h1; show _ ≤ _; omega
      clear hle
      generalize l[k] = z at *
      go_wp2_with (refine wpList_store_cell rfl 9 (.tmp 20) (.tmp 19) rfl w.heap.size k rfl (.string z) rfl rfl 9 arr HOB.out isz9 (by have h1 := HF.out; omega) rfl ?_; intro w2 hob2 hg2 hz2; have HOB2 := Lib.hid hob2; have HG2 := Lib.hid hg2; have HZ2 := Lib.hid hz2; clear hob2 hg2 hz2)
      go_roundw
      case rel =>
        have hob2 : OB w2 w.heap.size 9 (splice arr (k * 1) [Value.string z]) := by rw [Nat.mul_one]; exact HOB2.out
        have hfit : k * 1 + [Value.string z].length ≤ arr.size := by have := HF.out; simp; omega
        refine ⟨k + 1, _, by omega, by go_num, grown_ext hw HG2.out (Nat.le_refl _), by rw [HZ2.out]; exact hgt, hob2, by rw [splice_size hfit]; exact HAS.out, HP.out.step hgt (.refl _) HGT.out (OwnL.cons_leaf HLE.out (OwnL.nil _ _)) rfl HAS.out HG2.out hob2⟩
      case measure => simp [intOf]; omega
    · have hkl : k = l.length := by omega
      go_wp2_with fail
      go_ret
      subst hkl
      have hp := HP.out
      rw [← strTrs_len] at hp
      have := (hp.done HOB.out (strTrs_sz l) (Nat.le_refl _) (by rw [strTrs_len]; unfold maxLen; omega) (Nat.le_refl _)).mono (S' := Between w wr) fun x hx => ⟨hx.1, hx.2⟩
      rw [strTrs_len] at this
      exact ⟨_, rfl, hw, this⟩

end Go.Proofs.YtnakkelglbcecaaGreat

namespace Go.Proofs.YtnakkelglbcecaaGreat
open Go.RowKit Go.Proofs

theorem bulk0_InstanceRef (x : GInstanceRef) : Tr.bulkL x.tr = 0 := by
  obtain ⟨v0, v1⟩ := x
  simp [GInstanceRef.tr, Tr.bulkL, Tr.bulk]

theorem toInstanceRef_all (x : GInstanceRef) : ToC 18 x.tr := by
  obtain ⟨v0, v1⟩ := x
  exact toInstanceRef_of v0 v1

theorem eqInstanceRef_all (x : GInstanceRef) : EqC 25 x.tr := by
  obtain ⟨v0, v1⟩ := x
  exact eqInstanceRef_of v0 v1

theorem eqInstanceRefS_all (l : List GInstanceRef) : EqSC 40 2 (GInstanceRef.trs l) := eqInstanceRefS_of _ (GInstanceRef.sz l) (GInstanceRef.all fun x _ => eqInstanceRef_all x)

theorem szType_all : ∀ x : GType, SzC 43 x.tr :=
  GType.ind fun v0 v1 v2 ih => szType_of v0 v1 (GType.trs v2) (szTypeS_of _ (GType.sz v2) (GType.all ih))

theorem szTypeS_all (l : List GType) : SzSC 101 3 (GType.trs l) := szTypeS_of _ (GType.sz l) (GType.all fun x _ => szType_all x)

theorem toType_all : ∀ x : GType, ToC 45 x.tr :=
  GType.ind fun v0 v1 v2 ih => toType_of v0 v1 (GType.trs v2) (toTypeS_of _ (GType.sz v2) (GType.all ih))

theorem toTypeS_all (l : List GType) : ToSC 104 3 (GType.trs l) := toTypeS_of _ (GType.sz l) (GType.all fun x _ => toType_all x)

theorem eqType_all : ∀ x : GType, EqC 47 x.tr :=
  GType.ind fun v0 v1 v2 ih => eqType_of v0 v1 (GType.trs v2) (eqTypeS_of _ (GType.sz v2) (GType.all ih))

theorem eqTypeS_all (l : List GType) : EqSC 107 3 (GType.trs l) := eqTypeS_of _ (GType.sz l) (GType.all fun x _ => eqType_all x)

theorem szArm_in (x : GArm) (h : SzC 220 x.gBody.tr) : SzC 245 x.tr := by
  obtain ⟨v0, v1, v2⟩ := x
  exact szArm_of v0 (strTrs v1) (GExpr.tr v2) (GExpr.tr_len v2) (szStringS_all v1) h

theorem szExpr_all : ∀ x : GExpr, SzC 220 x.tr :=
  GExpr.ind fun v0 v1 v2 v3 v4 v5 v6 ih5 ih6 => szExpr_of v0 v1 v2 v3 (GType.tr v4) (GType.tr_len v4) (GExpr.trs v5) (GArm.trs v6) (szType_all v4) (szExprS_of _ (GExpr.sz v5) (GExpr.all ih5)) (szArmS_of _ (GArm.sz v6) (GArm.all fun x hx => szArm_in x (ih6 x hx)))

theorem szExprS_all (l : List GExpr) : SzSC 234 9 (GExpr.trs l) := szExprS_of _ (GExpr.sz l) (GExpr.all fun x _ => szExpr_all x)

theorem toArm_in (x : GArm) (h : ToC 225 x.gBody.tr) : ToC 246 x.tr := by
  obtain ⟨v0, v1, v2⟩ := x
  exact toArm_of v0 (strTrs v1) (GExpr.tr v2) (GExpr.tr_len v2) (toStringS_all v1) h

theorem toExpr_all : ∀ x : GExpr, ToC 225 x.tr :=
  GExpr.ind fun v0 v1 v2 v3 v4 v5 v6 ih5 ih6 => toExpr_of v0 v1 v2 v3 (GType.tr v4) (GType.tr_len v4) (GExpr.trs v5) (GArm.trs v6) (toType_all v4) (toExprS_of _ (GExpr.sz v5) (GExpr.all ih5)) (toArmS_of _ (GArm.sz v6) (GArm.all fun x hx => toArm_in x (ih6 x hx)))

theorem toExprS_all (l : List GExpr) : ToSC 240 9 (GExpr.trs l) := toExprS_of _ (GExpr.sz l) (GExpr.all fun x _ => toExpr_all x)

theorem eqArm_in (x : GArm) (h : EqC 130 x.gBody.tr) : EqC 202 x.tr := by
  obtain ⟨v0, v1, v2⟩ := x
  exact eqArm_of v0 (strTrs v1) (GExpr.tr v2) (GExpr.tr_len v2) (eqStringS_all v1) h

theorem eqExpr_all : ∀ x : GExpr, EqC 130 x.tr :=
  GExpr.ind fun v0 v1 v2 v3 v4 v5 v6 ih5 ih6 => eqExpr_of v0 v1 v2 v3 (GType.tr v4) (GType.tr_len v4) (GExpr.trs v5) (GArm.trs v6) (eqType_all v4) (eqExprS_of _ (GExpr.sz v5) (GExpr.all ih5)) (eqArmS_of _ (GArm.sz v6) (GArm.all fun x hx => eqArm_in x (ih6 x hx)))

theorem eqExprS_all (l : List GExpr) : EqSC 176 9 (GExpr.trs l) := eqExprS_of _ (GExpr.sz l) (GExpr.all fun x _ => eqExpr_all x)

theorem szMethod_all (x : GMethod) : SzC 232 x.tr := by
  obtain ⟨v0, v1, v2⟩ := x
  exact szMethod_of v0 (strTrs v1) (GExpr.tr v2) (GExpr.tr_len v2) (szStringS_all v1) (szExpr_all v2)

theorem szMethodS_all (l : List GMethod) : SzSC 218 11 (GMethod.trs l) := szMethodS_of _ (GMethod.sz l) (GMethod.all fun x _ => szMethod_all x)

theorem toMethod_all (x : GMethod) : ToC 238 x.tr := by
  obtain ⟨v0, v1, v2⟩ := x
  exact toMethod_of v0 (strTrs v1) (GExpr.tr v2) (GExpr.tr_len v2) (toStringS_all v1) (toExpr_all v2)

theorem toMethodS_all (l : List GMethod) : ToSC 223 11 (GMethod.trs l) := toMethodS_of _ (GMethod.sz l) (GMethod.all fun x _ => toMethod_all x)

theorem eqMethod_all (x : GMethod) : EqC 243 x.tr := by
  obtain ⟨v0, v1, v2⟩ := x
  exact eqMethod_of v0 (strTrs v1) (GExpr.tr v2) (GExpr.tr_len v2) (eqStringS_all v1) (eqExpr_all v2)

theorem eqMethodS_all (l : List GMethod) : EqSC 227 11 (GMethod.trs l) := eqMethodS_of _ (GMethod.sz l) (GMethod.all fun x _ => eqMethod_all x)

theorem szBound_all (x : GBound) : SzC 21 x.tr := by
  obtain ⟨v0, v1⟩ := x
  exact szBound_of v0 (GType.tr v1) (GType.tr_len v1) (szType_all v1)

theorem szBoundS_all (l : List GBound) : SzSC 50 4 (GBound.trs l) := szBoundS_of _ (GBound.sz l) (GBound.all fun x _ => szBound_all x)

theorem toBound_all (x : GBound) : ToC 23 x.tr := by
  obtain ⟨v0, v1⟩ := x
  exact toBound_of v0 (GType.tr v1) (GType.tr_len v1) (toType_all v1)

theorem toBoundS_all (l : List GBound) : ToSC 52 4 (GBound.trs l) := toBoundS_of _ (GBound.sz l) (GBound.all fun x _ => toBound_all x)

theorem eqBound_all (x : GBound) : EqC 26 x.tr := by
  obtain ⟨v0, v1⟩ := x
  exact eqBound_of v0 (GType.tr v1) (GType.tr_len v1) (eqType_all v1)

theorem eqBoundS_all (l : List GBound) : EqSC 55 4 (GBound.trs l) := eqBoundS_of _ (GBound.sz l) (GBound.all fun x _ => eqBound_all x)

theorem szInstance_all (x : GInstance) : SzC 205 x.tr := by
  obtain ⟨v0, v1, v2, v3, v4, v5, v6, v7⟩ := x
  exact szInstance_of v0 (strTrs v1) (GType.tr v2) (GType.tr_len v2) (GBound.trs v3) v4 v5 (GType.tr v6) (GType.tr_len v6) (GMethod.trs v7) (szStringS_all v1) (szType_all v2) (szBoundS_all v3) (szType_all v6) (szMethodS_all v7)

theorem szInstanceS_all (l : List GInstance) : SzSC 181 12 (GInstance.trs l) := szInstanceS_of _ (GInstance.sz l) (GInstance.all fun x _ => szInstance_all x)

theorem toInstance_all (x : GInstance) : ToC 209 x.tr := by
  obtain ⟨v0, v1, v2, v3, v4, v5, v6, v7⟩ := x
  exact toInstance_of v0 (strTrs v1) (GType.tr v2) (GType.tr_len v2) (GBound.trs v3) v4 v5 (GType.tr v6) (GType.tr_len v6) (GMethod.trs v7) (toStringS_all v1) (toType_all v2) (toBoundS_all v3) (toType_all v6) (toMethodS_all v7)

theorem toInstanceS_all (l : List GInstance) : ToSC 186 12 (GInstance.trs l) := toInstanceS_of _ (GInstance.sz l) (GInstance.all fun x _ => toInstance_all x)

theorem eqInstance_all (x : GInstance) : EqC 212 x.tr := by
  obtain ⟨v0, v1, v2, v3, v4, v5, v6, v7⟩ := x
  exact eqInstance_of v0 (strTrs v1) (GType.tr v2) (GType.tr_len v2) (GBound.trs v3) v4 v5 (GType.tr v6) (GType.tr_len v6) (GMethod.trs v7) (eqStringS_all v1) (eqType_all v2) (eqBoundS_all v3) (eqType_all v6) (eqMethodS_all v7)

theorem eqInstanceS_all (l : List GInstance) : EqSC 190 12 (GInstance.trs l) := eqInstanceS_of _ (GInstance.sz l) (GInstance.all fun x _ => eqInstance_all x)

theorem szParam_all (x : GParam) : SzC 233 x.tr := by
  obtain ⟨v0, v1⟩ := x
  exact szParam_of v0 (GType.tr v1) (GType.tr_len v1) (szType_all v1)

theorem szParamS_all (l : List GParam) : SzSC 219 4 (GParam.trs l) := szParamS_of _ (GParam.sz l) (GParam.all fun x _ => szParam_all x)

theorem toParam_all (x : GParam) : ToC 239 x.tr := by
  obtain ⟨v0, v1⟩ := x
  exact toParam_of v0 (GType.tr v1) (GType.tr_len v1) (toType_all v1)

theorem toParamS_all (l : List GParam) : ToSC 224 4 (GParam.trs l) := toParamS_of _ (GParam.sz l) (GParam.all fun x _ => toParam_all x)

theorem eqParam_all (x : GParam) : EqC 175 x.tr := by
  obtain ⟨v0, v1⟩ := x
  exact eqParam_of v0 (GType.tr v1) (GType.tr_len v1) (eqType_all v1)

theorem eqParamS_all (l : List GParam) : EqSC 129 4 (GParam.trs l) := eqParamS_of _ (GParam.sz l) (GParam.all fun x _ => eqParam_all x)

theorem szFunction_all (x : GFunction) : SzC 206 x.tr := by
  obtain ⟨v0, v1, v2, v3, v4, v5⟩ := x
  exact szFunction_of v0 (strTrs v1) (GBound.trs v2) (GParam.trs v3) (GType.tr v4) (GType.tr_len v4) (GExpr.tr v5) (GExpr.tr_len v5) (szStringS_all v1) (szBoundS_all v2) (szParamS_all v3) (szType_all v4) (szExpr_all v5)

theorem szFunctionS_all (l : List GFunction) : SzSC 182 16 (GFunction.trs l) := szFunctionS_of _ (GFunction.sz l) (GFunction.all fun x _ => szFunction_all x)

theorem toFunction_all (x : GFunction) : ToC 210 x.tr := by
  obtain ⟨v0, v1, v2, v3, v4, v5⟩ := x
  exact toFunction_of v0 (strTrs v1) (GBound.trs v2) (GParam.trs v3) (GType.tr v4) (GType.tr_len v4) (GExpr.tr v5) (GExpr.tr_len v5) (toStringS_all v1) (toBoundS_all v2) (toParamS_all v3) (toType_all v4) (toExpr_all v5)

theorem toFunctionS_all (l : List GFunction) : ToSC 187 16 (GFunction.trs l) := toFunctionS_of _ (GFunction.sz l) (GFunction.all fun x _ => toFunction_all x)

theorem eqFunction_all (x : GFunction) : EqC 73 x.tr := by
  obtain ⟨v0, v1, v2, v3, v4, v5⟩ := x
  exact eqFunction_of v0 (strTrs v1) (GBound.trs v2) (GParam.trs v3) (GType.tr v4) (GType.tr_len v4) (GExpr.tr v5) (GExpr.tr_len v5) (eqStringS_all v1) (eqBoundS_all v2) (eqParamS_all v3) (eqType_all v4) (eqExpr_all v5)

theorem eqFunctionS_all (l : List GFunction) : EqSC 191 16 (GFunction.trs l) := eqFunctionS_of _ (GFunction.sz l) (GFunction.all fun x _ => eqFunction_all x)

theorem szConstructor_all (x : GConstructor) : SzC 231 x.tr := by
  obtain ⟨v0, v1⟩ := x
  exact szConstructor_of v0 (GType.trs v1) (szTypeS_all v1)

theorem szConstructorS_all (l : List GConstructor) : SzSC 217 2 (GConstructor.trs l) := szConstructorS_of _ (GConstructor.sz l) (GConstructor.all fun x _ => szConstructor_all x)

theorem toConstructor_all (x : GConstructor) : ToC 237 x.tr := by
  obtain ⟨v0, v1⟩ := x
  exact toConstructor_of v0 (GType.trs v1) (toTypeS_all v1)

theorem toConstructorS_all (l : List GConstructor) : ToSC 222 2 (GConstructor.trs l) := toConstructorS_of _ (GConstructor.sz l) (GConstructor.all fun x _ => toConstructor_all x)

theorem eqConstructor_all (x : GConstructor) : EqC 242 x.tr := by
  obtain ⟨v0, v1⟩ := x
  exact eqConstructor_of v0 (GType.trs v1) (eqTypeS_all v1)

theorem eqConstructorS_all (l : List GConstructor) : EqSC 226 2 (GConstructor.trs l) := eqConstructorS_of _ (GConstructor.sz l) (GConstructor.all fun x _ => eqConstructor_all x)

theorem szDataType_all (x : GDataType) : SzC 204 x.tr := by
  obtain ⟨v0, v1, v2⟩ := x
  exact szDataType_of v0 (strTrs v1) (GConstructor.trs v2) (szStringS_all v1) (szConstructorS_all v2)

theorem szDataTypeS_all (l : List GDataType) : SzSC 180 3 (GDataType.trs l) := szDataTypeS_of _ (GDataType.sz l) (GDataType.all fun x _ => szDataType_all x)

theorem toDataType_all (x : GDataType) : ToC 208 x.tr := by
  obtain ⟨v0, v1, v2⟩ := x
  exact toDataType_of v0 (strTrs v1) (GConstructor.trs v2) (toStringS_all v1) (toConstructorS_all v2)

theorem toDataTypeS_all (l : List GDataType) : ToSC 185 3 (GDataType.trs l) := toDataTypeS_of _ (GDataType.sz l) (GDataType.all fun x _ => toDataType_all x)

theorem eqDataType_all (x : GDataType) : EqC 211 x.tr := by
  obtain ⟨v0, v1, v2⟩ := x
  exact eqDataType_of v0 (strTrs v1) (GConstructor.trs v2) (eqStringS_all v1) (eqConstructorS_all v2)

theorem eqDataTypeS_all (l : List GDataType) : EqSC 189 3 (GDataType.trs l) := eqDataTypeS_of _ (GDataType.sz l) (GDataType.all fun x _ => eqDataType_all x)

theorem szSignature_all (x : GSignature) : SzC 230 x.tr := by
  obtain ⟨v0, v1, v2, v3, v4, v5⟩ := x
  exact szSignature_of v0 (GType.trs v1) (GType.tr v2) (GType.tr_len v2) v3 (strTrs v4) (GExpr.tr v5) (GExpr.tr_len v5) (szTypeS_all v1) (szType_all v2) (szStringS_all v4) (szExpr_all v5)

theorem szSignatureS_all (l : List GSignature) : SzSC 216 16 (GSignature.trs l) := szSignatureS_of _ (GSignature.sz l) (GSignature.all fun x _ => szSignature_all x)

theorem toSignature_all (x : GSignature) : ToC 236 x.tr := by
  obtain ⟨v0, v1, v2, v3, v4, v5⟩ := x
  exact toSignature_of v0 (GType.trs v1) (GType.tr v2) (GType.tr_len v2) v3 (strTrs v4) (GExpr.tr v5) (GExpr.tr_len v5) (toTypeS_all v1) (toType_all v2) (toStringS_all v4) (toExpr_all v5)

theorem toSignatureS_all (l : List GSignature) : ToSC 221 16 (GSignature.trs l) := toSignatureS_of _ (GSignature.sz l) (GSignature.all fun x _ => toSignature_all x)

theorem eqSignature_all (x : GSignature) : EqC 167 x.tr := by
  obtain ⟨v0, v1, v2, v3, v4, v5⟩ := x
  exact eqSignature_of v0 (GType.trs v1) (GType.tr v2) (GType.tr_len v2) v3 (strTrs v4) (GExpr.tr v5) (GExpr.tr_len v5) (eqTypeS_all v1) (eqType_all v2) (eqStringS_all v4) (eqExpr_all v5)

theorem eqSignatureS_all (l : List GSignature) : EqSC 122 16 (GSignature.trs l) := eqSignatureS_of _ (GSignature.sz l) (GSignature.all fun x _ => eqSignature_all x)

theorem szTrait_all (x : GTrait) : SzC 203 x.tr := by
  obtain ⟨v0, v1, v2, v3, v4⟩ := x
  exact szTrait_of v0 (strTrs v1) v2 v3 (GSignature.trs v4) (szStringS_all v1) (szSignatureS_all v4)

theorem szTraitS_all (l : List GTrait) : SzSC 179 5 (GTrait.trs l) := szTraitS_of _ (GTrait.sz l) (GTrait.all fun x _ => szTrait_all x)

theorem toTrait_all (x : GTrait) : ToC 207 x.tr := by
  obtain ⟨v0, v1, v2, v3, v4⟩ := x
  exact toTrait_of v0 (strTrs v1) v2 v3 (GSignature.trs v4) (toStringS_all v1) (toSignatureS_all v4)

theorem toTraitS_all (l : List GTrait) : ToSC 184 5 (GTrait.trs l) := toTraitS_of _ (GTrait.sz l) (GTrait.all fun x _ => toTrait_all x)

theorem eqTrait_all (x : GTrait) : EqC 68 x.tr := by
  obtain ⟨v0, v1, v2, v3, v4⟩ := x
  exact eqTrait_of v0 (strTrs v1) v2 v3 (GSignature.trs v4) (eqStringS_all v1) (eqSignatureS_all v4)

theorem eqTraitS_all (l : List GTrait) : EqSC 188 5 (GTrait.trs l) := eqTraitS_of _ (GTrait.sz l) (GTrait.all fun x _ => eqTrait_all x)

theorem szPackage_all (x : GPackage) : SzC 136 x.tr := by
  obtain ⟨v0, v1, v2, v3, v4, v5⟩ := x
  exact szPackage_of v0 (strTrs v1) (GTrait.trs v2) (GDataType.trs v3) (GInstance.trs v4) (GFunction.trs v5) (szStringS_all v1) (szTraitS_all v2) (szDataTypeS_all v3) (szInstanceS_all v4) (szFunctionS_all v5)

theorem szPackageS_all (l : List GPackage) : SzSC 76 6 (GPackage.trs l) := szPackageS_of _ (GPackage.sz l) (GPackage.all fun x _ => szPackage_all x)

theorem toPackage_all (x : GPackage) : ToC 140 x.tr := by
  obtain ⟨v0, v1, v2, v3, v4, v5⟩ := x
  exact toPackage_of v0 (strTrs v1) (GTrait.trs v2) (GDataType.trs v3) (GInstance.trs v4) (GFunction.trs v5) (toStringS_all v1) (toTraitS_all v2) (toDataTypeS_all v3) (toInstanceS_all v4) (toFunctionS_all v5)

theorem toPackageS_all (l : List GPackage) : ToSC 80 6 (GPackage.trs l) := toPackageS_of _ (GPackage.sz l) (GPackage.all fun x _ => toPackage_all x)

theorem eqPackage_all (x : GPackage) : EqC 143 x.tr := by
  obtain ⟨v0, v1, v2, v3, v4, v5⟩ := x
  exact eqPackage_of v0 (strTrs v1) (GTrait.trs v2) (GDataType.trs v3) (GInstance.trs v4) (GFunction.trs v5) (eqStringS_all v1) (eqTraitS_all v2) (eqDataTypeS_all v3) (eqInstanceS_all v4) (eqFunctionS_all v5)

theorem eqPackageS_all (l : List GPackage) : EqSC 84 6 (GPackage.trs l) := eqPackageS_of _ (GPackage.sz l) (GPackage.all fun x _ => eqPackage_all x)

theorem szProgram_all (x : GProgram) : SzC 15 x.tr := by
  obtain ⟨v0⟩ := x
  exact szProgram_of (GPackage.trs v0) (szPackageS_all v0)

theorem toProgram_all (x : GProgram) : ToC 17 x.tr := by
  obtain ⟨v0⟩ := x
  exact toProgram_of (GPackage.trs v0) (toPackageS_all v0)

theorem eqProgram_all (x : GProgram) : EqC 20 x.tr := by
  obtain ⟨v0⟩ := x
  exact eqProgram_of (GPackage.trs v0) (eqPackageS_all v0)

theorem eqAssumption_all (x : GAssumption) : EqC 112 x.tr := by
  obtain ⟨v0, v1, v2⟩ := x
  exact eqAssumption_of (GBound.tr v0) (GBound.tr_len v0) v1 (intTrs v2) (eqBound_all v0) (eqIntS_all v2)

theorem eqAssumptionS_all (l : List GAssumption) : EqSC 54 6 (GAssumption.trs l) := eqAssumptionS_of _ (GAssumption.sz l) (GAssumption.all fun x _ => eqAssumption_all x)

end Go.Proofs.YtnakkelglbcecaaGreat

namespace Go.Proofs.YtnakkelglbcecaaGreat
open Go.RowKit

section
variable {P : Program} {ops : Array Oper} {Q : Exit → Act → World → Prop} {md : Region.Mode} {S : World → Prop}

theorem wpAnyH_load_rep {i : Nat} {oi : Oper} {fuel : Nat} {listed : Array Bool} {a : Act} {w : World} (hi : ops[i]? = some oi)
    (hs : Region.noSelect ops = true) (hf : Region.free md ops listed i = true) (hr : (Region.ready md ops listed).contains i = true)
    (_hQ : ∀ c a w, Q (.panic c) (a.put oi.dst (.bool true)) w → Q (.panic c) a w) (hgd : oi.guard = none) (ty : TypeId) (x : Operand) (ho : oi.op = .load ty x)
    (b off : Nat) (hx : a.eval x = .pointer (some ⟨b, off, none⟩)) (cs : List Value) (fs : Array Field) (hu : P.underlying ty = some (.struct fs)) (hinfo : (P.info? ty).map (·.size) = some cs.length)
    (hS : ∀ w, S w → ∀ (j : Nat) (v : Value), cs[j]? = some v → w.cell? ⟨b, off + j, none⟩ = some v) (hw : S w) (hQ2 : ∀ c a w v, Q (.panic c) (a.put oi.dst v) w → Q (.panic c) a w)
    (h : wpAnyH P md ops Q S fuel (listed.setIfInBounds i true) (a.put oi.dst (.agg ⟨cs⟩)) w) : wpAnyH P md ops Q S (fuel + 1) listed a w :=
  wpAnyH_take hi hs hf hr (fun c a w => hQ2 c a w _) (.inl ⟨by simp [Region.wanted, hgd], fun w1 hw1 => by
    unfold execOp
    simp only [ho, hx, Instr.loadAt, Instr.sureAddr, Sem.run_bind, Sem.run_pure, Result.andThen_ok, run_loadVar_rep w1 b off ty cs fs hu hinfo (hS w1 hw1)]⟩) hw h

theorem run_call_func {o : Oper} {ev : Operand → Value} {f : FuncId} {fn : Func} {ars : Array Operand} {ts : Array TypeId} (ho : o.op = .call { callee := .value (.func f), args := ars, argTypes := ts })
    (hev : ev (.func f) = .func (.func f) #[] #[]) (vals : Array Value) (hv : ars.map ev = vals) (hf : P.funcs[f]? = some fn) (hname : (fn.name == "runtime.NumGoroutine") = false) (hb : fn.body.isNone = false) (w : World) :
    (execOp ev o).run P w = .ok (.enter f vals) w := by
  have hc := run_callFunc_body (P := P) hf hname hb
  unfold execOp
  simp only [ho]
  simp [resolve, invoke, Deferred.ofValue, hev, hv, hc]

theorem wpAnyH_call {i : Nat} {o : Oper} {fuel : Nat} {listed : Array Bool} {a : Act} {w : World} {f : FuncId} {vals : Array Value} {R : Ending → World → Prop} (hr : Region.ready md ops listed = [i]) (ho : ops[i]? = some o) (hgd : o.guard = none)
    (hrun : (execOp a.eval o).run P w = .ok (.enter f vals) w) (hc : Calls P f vals w R)
    (h : ∀ e w', R e w' → ∃ v, e = .returned v ∧ S w' ∧ wpAnyH P md ops Q S fuel (listed.setIfInBounds i true) (a.put o.dst v) w') : wpAnyH P md ops Q S (fuel + 1) listed a w := by
  refine wpAnyH_all hr (by simp) fun j hj => ?_
  obtain rfl : j = i := by simpa using hj
  have hw : Region.wanted o (yielded ops a.tmps) = true := by simp [Region.wanted, hgd]
  unfold wpOp
  simp only [ho]
  rw [if_pos hw]
  refine .inl ?_
  unfold Oper.wp
  rw [hrun]
  refine hc.mono fun e w' hR => ?_
  obtain ⟨v, rfl, h1, h2⟩ := h e w' hR
  exact ⟨h1, h2⟩

theorem run_loadVar_cell {w : World} {p : Addr} {ty : TypeId} {v : Value} {d : TypeDesc} (hu : P.underlying ty = some d) (hd : (match d with | .struct _ | .array _ _ => true | _ => false) = false) (hc : w.cell? p = some v) :
    (loadVar ty p).run P w = .ok v w := by
  have hagg : (isAgg ty).run P w = .ok false w := by
    unfold isAgg
    rw [Sem.run_bind, run_underlying hu w]
    cases d <;> simp_all
  simp [loadVar, Sem.run_bind, hagg, hc]

theorem wpAnyH_cell {i : Nat} {oi : Oper} {fuel : Nat} {listed : Array Bool} {a : Act} {w : World} (hi : ops[i]? = some oi)
    (hs : Region.noSelect ops = true) (hf : Region.free md ops listed i = true) (hr : (Region.ready md ops listed).contains i = true) (hgd : oi.guard = none) (ty : TypeId) (x : Operand) (ho : oi.op = .load ty x)
    (b off : Nat) (hx : a.eval x = .pointer (some ⟨b, off, none⟩)) (v : Value) (d : TypeDesc) (hu : P.underlying ty = some d) (hd : (match d with | .struct _ | .array _ _ => true | _ => false) = false)
    (hS : ∀ w, S w → w.cell? ⟨b, off, none⟩ = some v) (hw : S w) (hQ2 : ∀ c a w v, Q (.panic c) (a.put oi.dst v) w → Q (.panic c) a w)
    (h : wpAnyH P md ops Q S fuel (listed.setIfInBounds i true) (a.put oi.dst v) w) : wpAnyH P md ops Q S (fuel + 1) listed a w :=
  wpAnyH_take hi hs hf hr (fun c a w => hQ2 c a w _) (.inl ⟨by simp [Region.wanted, hgd], fun w1 hw1 => by
    unfold execOp
    simp only [ho, hx, Instr.loadAt, Instr.sureAddr, Sem.run_bind, Sem.run_pure, Result.andThen_ok, run_loadVar_cell hu hd (hS w1 hw1)]⟩) hw h

theorem wpAnyH_index {i : Nat} {oi : Oper} {fuel : Nat} {listed : Array Bool} {a : Act} {w : World} (hi : ops[i]? = some oi)
    (hs : Region.noSelect ops = true) (hf : Region.free md ops listed i = true) (hr : (Region.ready md ops listed).contains i = true) (hgd : oi.guard = none) (ty : TypeId) (x y : Operand) (ho : oi.op = .indexAddr ty x y)
    (b off len cap k sz : Nat) (hx : a.eval x = .slice (some ⟨b, off, none⟩) len cap) (hy : a.eval y = .int .i64 (k : Int)) (hk : k < len) (hu : P.underlying ty = some (.slice (P.elem ty))) (hinfo : (P.info? (P.elem ty)).map (·.size) = some sz)
    (hw : S w) (hQ2 : ∀ c a w v, Q (.panic c) (a.put oi.dst v) w → Q (.panic c) a w)
    (h : wpAnyH P md ops Q S fuel (listed.setIfInBounds i true) (a.put oi.dst (.pointer (some ⟨b, off + k * sz, none⟩))) w) : wpAnyH P md ops Q S (fuel + 1) listed a w :=
  wpAnyH_take hi hs hf hr (fun c a w => hQ2 c a w _) (.inl ⟨by simp [Region.wanted, hgd], fun w1 _ => by
    have hsz : (Go.sizeOf (P.elem ty)).run P w1 = .ok sz w1 := by
      cases hq : P.info? (P.elem ty) with
      | none => simp [hq] at hinfo
      | some j => have : j.size = sz := by simpa [hq] using hinfo
                  simp [Go.sizeOf, typeInfo, hq, this]
    have hadd : ∀ n, (⟨b, off, none⟩ : Addr).add n = ⟨b, off + n, none⟩ := fun n => by unfold Addr.add; split <;> simp_all
    unfold execOp
    simp only [ho, hx, hy, run_indexAt_slice _ _ _ _ _ _ _ hu, Sem.run_bind, hsz, Result.andThen_ok]
    rw [if_pos ⟨by omega, by omega⟩]
    simp [hadd]⟩) hw h

/-- The one operation that may come up now, carried out: it yields a value, in another world. -/
theorem wpAnyH_run {i : Nat} {o : Oper} {fuel : Nat} {listed : Array Bool} {a : Act} {w w' : World} {v : Value} (hr : Region.ready md ops listed = [i]) (ho : ops[i]? = some o) (hgd : o.guard = none)
    (hrun : (execOp a.eval o).run P w = .ok (.value v) w') (hS : S w') (h : wpAnyH P md ops Q S fuel (listed.setIfInBounds i true) (a.put o.dst v) w') : wpAnyH P md ops Q S (fuel + 1) listed a w := by
  refine wpAnyH_all hr (by simp) fun j hj => ?_
  obtain rfl : j = i := by simpa using hj
  have hw : Region.wanted o (yielded ops a.tmps) = true := by simp [Region.wanted, hgd]
  unfold wpOp
  simp only [ho]
  rw [if_pos hw]
  refine .inl ?_
  unfold Oper.wp
  rw [hrun]
  exact ⟨hS, h⟩
/-- The one operation that may come up now is a store of a struct into a block of our own. -/
theorem wpAnyH_store_rep {i : Nat} {o : Oper} {fuel : Nat} {listed : Array Bool} {a : Act} {w : World} (hr : Region.ready md ops listed = [i]) (ho0 : ops[i]? = some o) (hgd : o.guard = none) (ty : TypeId) (x y : Operand) (ho : o.op = .store ty x y)
    (B off : Nat) (hx : a.eval x = .pointer (some ⟨B, off, none⟩)) (cs : List Value) (hy : a.eval y = .agg ⟨cs⟩) (T : TypeId) (arr : Array Value) (hob : OB w B T arr) (hi : (P.info? ty).map (·.size) = some cs.length)
    (hfit : off + cs.length ≤ arr.size) (h1 : ∀ v ∈ cs, v.oneCell' = true)
    (h : ∀ w', OB w' B T (splice arr off cs) → w.grownBy w' (some B) → w'.heap.size = w.heap.size → S w' ∧ wpAnyH P md ops Q S fuel (listed.setIfInBounds i true) (a.put o.dst undef) w') : wpAnyH P md ops Q S (fuel + 1) listed a w := by
  refine wpAnyH_all hr (by simp) fun j hj => ?_
  obtain rfl : j = i := by simpa using hj
  have hw : Region.wanted o (yielded ops a.tmps) = true := by simp [Region.wanted, hgd]
  have hst := run_storeCells_at P B off T cs 0 arr w hob (by simpa using hfit) h1
  cases hq : P.info? ty with
  | none => simp [hq] at hi
  | some inf =>
    have hs : inf.size = cs.length := by simpa [hq] using hi
    have hrun : (storeVar ty ⟨B, off, none⟩ (.agg ⟨cs⟩)).run P w = .ok () (w.setRow B (splice arr off cs)) := by
      simp [storeVar, Go.sizeOf, typeInfo, hq, Value.cells, hs, hst, splice]
    unfold wpOp
    simp only [ho0]
    rw [if_pos hw]
    refine .inl ?_
    unfold Oper.wp execOp
    simp only [ho, hx, hy, Instr.storeAt, Instr.sureAddr, Sem.run_bind, Sem.run_pure, Result.andThen_ok, hrun]
    exact h _ (setRow_heap w B arr _ T _ hob) ⟨rfl, rfl, rfl, by simp, fun k _ hk => setRow_other w B k _ (fun e => hk (by rw [e]))⟩ (by simp)

theorem wpOp_call {i : Nat} {o : Oper} {a : Act} {w : World} {f : FuncId} {vals : Array Value} {R : Ending → World → Prop} {K : Act → World → Prop} (ho : ops[i]? = some o) (hgd : o.guard = none)
    (hrun : (execOp a.eval o).run P w = .ok (.enter f vals) w) (hc : Calls P f vals w R) (h : ∀ e w', R e w' → ∃ v, e = .returned v ∧ K (a.put o.dst v) w') : wpOp P ops Q i K a w := by
  have hw : Region.wanted o (yielded ops a.tmps) = true := by simp [Region.wanted, hgd]
  unfold wpOp
  simp only [ho]
  rw [if_pos hw]
  refine .inl ?_
  unfold Oper.wp
  rw [hrun]
  refine hc.mono fun e w' hR => ?_
  obtain ⟨v, rfl, h1⟩ := h e w' hR
  exact h1
theorem wpOp_run {i : Nat} {o : Oper} {a : Act} {w w' : World} {v : Value} {K : Act → World → Prop} (ho : ops[i]? = some o) (hgd : o.guard = none) (hrun : (execOp a.eval o).run P w = .ok (.value v) w') (h : K (a.put o.dst v) w') : wpOp P ops Q i K a w := by
  have hw : Region.wanted o (yielded ops a.tmps) = true := by simp [Region.wanted, hgd]
  unfold wpOp
  simp only [ho]
  rw [if_pos hw]
  refine .inl ?_
  unfold Oper.wp
  rw [hrun]
  exact h

theorem run_op_load_rep {o : Oper} {ev : Operand → Value} {w : World} (ty : TypeId) (x : Operand) (ho : o.op = .load ty x) (b off : Nat) (hx : ev x = .pointer (some ⟨b, off, none⟩)) (cs : List Value) (fs : Array Field) (hu : P.underlying ty = some (.struct fs)) (hi : (P.info? ty).map (·.size) = some cs.length)
    (hc : ∀ j v, cs[j]? = some v → w.cell? ⟨b, off + j, none⟩ = some v) : (execOp ev o).run P w = .ok (.value (.agg ⟨cs⟩)) w := by
  unfold execOp
  simp only [ho, hx, Instr.loadAt, Instr.sureAddr, Sem.run_bind, Sem.run_pure, Result.andThen_ok, run_loadVar_rep w b off ty cs fs hu hi hc]

theorem wpList_load_rep_g {rest : List Oper} {o : Oper} {a : Act} {w : World} (hwd : Region.wanted o (yielded ops a.tmps) = true) (ty : TypeId) (x : Operand) (ho : o.op = .load ty x)
    (b off : Nat) (hx : a.eval x = .pointer (some ⟨b, off, none⟩)) (cs : List Value) (fs : Array Field) (hu : P.underlying ty = some (.struct fs)) (hi : (P.info? ty).map (·.size) = some cs.length)
    (hc : ∀ j v, cs[j]? = some v → w.cell? ⟨b, off + j, none⟩ = some v) (h : wpList P ops Q rest (a.put o.dst (.agg ⟨cs⟩)) w) : wpList P ops Q (o :: rest) a w :=
  wpList_step fun _ hK => by
    rw [if_pos hwd]
    unfold Oper.wp execOp
    simp only [ho, hx, Instr.loadAt, Instr.sureAddr, Sem.run_bind, Sem.run_pure, Result.andThen_ok, run_loadVar_rep w b off ty cs fs hu hi hc]
    exact hK _ _ h

theorem wpAnyH_load_rep_g {i : Nat} {oi : Oper} {fuel : Nat} {listed : Array Bool} {a : Act} {w : World} (hi : ops[i]? = some oi)
    (hs : Region.noSelect ops = true) (hf : Region.free md ops listed i = true) (hr : (Region.ready md ops listed).contains i = true)
    (_hQ : ∀ c a w, Q (.panic c) (a.put oi.dst (.bool true)) w → Q (.panic c) a w) (hwd : Region.wanted oi (yielded ops a.tmps) = true) (ty : TypeId) (x : Operand) (ho : oi.op = .load ty x)
    (b off : Nat) (hx : a.eval x = .pointer (some ⟨b, off, none⟩)) (cs : List Value) (fs : Array Field) (hu : P.underlying ty = some (.struct fs)) (hinfo : (P.info? ty).map (·.size) = some cs.length)
    (hS : ∀ w, S w → ∀ (j : Nat) (v : Value), cs[j]? = some v → w.cell? ⟨b, off + j, none⟩ = some v) (hw : S w) (hQ2 : ∀ c a w v, Q (.panic c) (a.put oi.dst v) w → Q (.panic c) a w)
    (h : wpAnyH P md ops Q S fuel (listed.setIfInBounds i true) (a.put oi.dst (.agg ⟨cs⟩)) w) : wpAnyH P md ops Q S (fuel + 1) listed a w :=
  wpAnyH_take hi hs hf hr (fun c a w => hQ2 c a w _) (.inl ⟨hwd, fun w1 hw1 => by
    unfold execOp
    simp only [ho, hx, Instr.loadAt, Instr.sureAddr, Sem.run_bind, Sem.run_pure, Result.andThen_ok, run_loadVar_rep w1 b off ty cs fs hu hinfo (hS w1 hw1)]⟩) hw h

theorem wpAnyH_cell_g {i : Nat} {oi : Oper} {fuel : Nat} {listed : Array Bool} {a : Act} {w : World} (hi : ops[i]? = some oi)
    (hs : Region.noSelect ops = true) (hf : Region.free md ops listed i = true) (hr : (Region.ready md ops listed).contains i = true) (hwd : Region.wanted oi (yielded ops a.tmps) = true) (ty : TypeId) (x : Operand) (ho : oi.op = .load ty x)
    (b off : Nat) (hx : a.eval x = .pointer (some ⟨b, off, none⟩)) (v : Value) (d : TypeDesc) (hu : P.underlying ty = some d) (hd : (match d with | .struct _ | .array _ _ => true | _ => false) = false)
    (hS : ∀ w, S w → w.cell? ⟨b, off, none⟩ = some v) (hw : S w) (hQ2 : ∀ c a w v, Q (.panic c) (a.put oi.dst v) w → Q (.panic c) a w)
    (h : wpAnyH P md ops Q S fuel (listed.setIfInBounds i true) (a.put oi.dst v) w) : wpAnyH P md ops Q S (fuel + 1) listed a w :=
  wpAnyH_take hi hs hf hr (fun c a w => hQ2 c a w _) (.inl ⟨hwd, fun w1 hw1 => by
    unfold execOp
    simp only [ho, hx, Instr.loadAt, Instr.sureAddr, Sem.run_bind, Sem.run_pure, Result.andThen_ok, run_loadVar_cell hu hd (hS w1 hw1)]⟩) hw h

theorem wpAnyH_index_g {i : Nat} {oi : Oper} {fuel : Nat} {listed : Array Bool} {a : Act} {w : World} (hi : ops[i]? = some oi)
    (hs : Region.noSelect ops = true) (hf : Region.free md ops listed i = true) (hr : (Region.ready md ops listed).contains i = true) (hwd : Region.wanted oi (yielded ops a.tmps) = true) (ty : TypeId) (x y : Operand) (ho : oi.op = .indexAddr ty x y)
    (b off len cap k sz : Nat) (hx : a.eval x = .slice (some ⟨b, off, none⟩) len cap) (hy : a.eval y = .int .i64 (k : Int)) (hk : k < len) (hu : P.underlying ty = some (.slice (P.elem ty))) (hinfo : (P.info? (P.elem ty)).map (·.size) = some sz)
    (hw : S w) (hQ2 : ∀ c a w v, Q (.panic c) (a.put oi.dst v) w → Q (.panic c) a w)
    (h : wpAnyH P md ops Q S fuel (listed.setIfInBounds i true) (a.put oi.dst (.pointer (some ⟨b, off + k * sz, none⟩))) w) : wpAnyH P md ops Q S (fuel + 1) listed a w :=
  wpAnyH_take hi hs hf hr (fun c a w => hQ2 c a w _) (.inl ⟨hwd, fun w1 _ => by
    have hsz : (Go.sizeOf (P.elem ty)).run P w1 = .ok sz w1 := by
      cases hq : P.info? (P.elem ty) with
      | none => simp [hq] at hinfo
      | some j => have : j.size = sz := by simpa [hq] using hinfo
                  simp [Go.sizeOf, typeInfo, hq, this]
    have hadd : ∀ n, (⟨b, off, none⟩ : Addr).add n = ⟨b, off + n, none⟩ := fun n => by unfold Addr.add; split <;> simp_all
    unfold execOp
    simp only [ho, hx, hy, run_indexAt_slice _ _ _ _ _ _ _ hu, Sem.run_bind, hsz, Result.andThen_ok]
    rw [if_pos ⟨by omega, by omega⟩]
    simp [hadd]⟩) hw h

theorem wpAnyH_call_g {i : Nat} {o : Oper} {fuel : Nat} {listed : Array Bool} {a : Act} {w : World} {f : FuncId} {vals : Array Value} {R : Ending → World → Prop} (hr : Region.ready md ops listed = [i]) (ho : ops[i]? = some o) (hwd : Region.wanted o (yielded ops a.tmps) = true)
    (hrun : (execOp a.eval o).run P w = .ok (.enter f vals) w) (hc : Calls P f vals w R)
    (h : ∀ e w', R e w' → ∃ v, e = .returned v ∧ S w' ∧ wpAnyH P md ops Q S fuel (listed.setIfInBounds i true) (a.put o.dst v) w') : wpAnyH P md ops Q S (fuel + 1) listed a w := by
  refine wpAnyH_all hr (by simp) fun j hj => ?_
  obtain rfl : j = i := by simpa using hj
  unfold wpOp
  simp only [ho]
  rw [if_pos hwd]
  refine .inl ?_
  unfold Oper.wp
  rw [hrun]
  refine hc.mono fun e w' hR => ?_
  obtain ⟨v, rfl, h1, h2⟩ := h e w' hR
  exact ⟨h1, h2⟩

/-- string(b), b's cells the bytes l. -/
theorem wpList_bytes_back {rest : List Oper} {o : Oper} {a : Act} {w : World} (hgd : o.guard = none) (src dst e : TypeId) (x : Operand) (ho : o.op = .convert src dst x) (hs : P.underlying src = some (.slice e)) (he : P.underlying e = some (.int .u8)) (hd : P.underlying dst = some .string)
    (b cap n : Nat) (l : List UInt8) (hn : l.length = n) (hx : a.eval x = .slice (some ⟨b, 0, none⟩) n cap) (hc : ∀ j (hj : j < l.length), w.cell? ⟨b, j, none⟩ = some (.int .u8 (l[j].toNat : Int)))
    (h : wpList P ops Q rest (a.put o.dst (.string ⟨l.toArray⟩)) w) : wpList P ops Q (o :: rest) a w :=
  wpList_plain hgd fun _ hK => by
    subst hn
    have hadd : ∀ n, (⟨b, 0, none⟩ : Addr).add n = ⟨b, n, none⟩ := fun n => by unfold Addr.add; split <;> simp_all
    have hr := run_convert_bytes_back (P := P) w src dst e ⟨b, 0, none⟩ cap l hs he hd (fun j hj => by rw [hadd]; exact hc j hj)
    unfold Oper.wp execOp
    simp only [ho, hx, Sem.run_bind, hr, Result.andThen_ok, Sem.run_pure]
    exact hK _ _ h
theorem bytes_cons (x : UInt8) (l : List UInt8) : (⟨#[x]⟩ : ByteArray) ++ ⟨l.toArray⟩ = ⟨(x :: l).toArray⟩ := by
  apply ByteArray.ext
  simp [ByteArray.data_append]
end
end Go.Proofs.YtnakkelglbcecaaGreat

namespace Go.Proofs.YtnakkelglbcecaaGreat
open Go.RowKit

def digits (k : Nat) : List UInt8 := if _h : k = 0 then [] else digits (k / 10) ++ [UInt8.ofNat (48 + k % 10)]
termination_by k
decreasing_by omega
theorem digits_zero : digits 0 = [] := by rw [digits]; rfl
theorem digits_pos {k : Nat} (h : k ≠ 0) : digits k = digits (k / 10) ++ [UInt8.ofNat (48 + k % 10)] := by rw [digits, dif_neg h]
theorem digits_length (k n : Nat) (h : k < 10 ^ n) : (digits k).length ≤ n := by
  induction n generalizing k with
  | zero => simp at h; subst h; rw [digits_zero]; exact Nat.le_refl _
  | succ n ih =>
    by_cases hk : k = 0
    · subst hk; rw [digits_zero]; simp
    · rw [digits_pos hk, List.length_append]
      have := ih (k / 10) (by rw [Nat.div_lt_iff_lt_mul (by omega), ← Nat.pow_succ]; exact h)
      simp; omega
/-- The text of a mark. -/
def mtext (k : Nat) : ByteArray := ⟨((109 : UInt8) :: if k = 0 then [48] else digits k).toArray⟩

def markLeaf (k : Nat) : Value → Value
  | .int d _ => .int d k
  | .string _ => .string (mtext k)
  | .bool _ => .bool (k % 3 == 0)
  | v => v

mutual
def Tr.cnt : Tr → Nat
  | .leaf _ => 1
  | .row _ es => Tr.cntE es
def Tr.cntL : List Tr → Nat
  | [] => 0
  | t :: r => Tr.cnt t + Tr.cntL r
def Tr.cntE : List (List Tr) → Nat
  | [] => 0
  | e :: r => Tr.cntL e + Tr.cntE r
end
mutual
def Tr.mark : Tr → Nat → Tr
  | .leaf v, k => .leaf (markLeaf k v)
  | .row sz es, k => .row sz (Tr.markE es k)
def Tr.markL : List Tr → Nat → List Tr
  | [], _ => []
  | t :: r, k => Tr.mark t k :: Tr.markL r (k + Tr.cnt t)
def Tr.markE : List (List Tr) → Nat → List (List Tr)
  | [], _ => []
  | e :: r, k => Tr.markL e k :: Tr.markE r (k + Tr.cntL e)
end
theorem Tr.markE_length : ∀ (es : List (List Tr)) (k : Nat), (Tr.markE es k).length = es.length
  | [], _ => rfl
  | e :: r, k => by simp [Tr.markE, Tr.markE_length r]
theorem Tr.markL_length : ∀ (es : List Tr) (k : Nat), (Tr.markL es k).length = es.length
  | [], _ => rfl
  | e :: r, k => by simp [Tr.markL, Tr.markL_length r]
theorem Tr.markL_append : ∀ (a b : List Tr) (k : Nat), Tr.markL (a ++ b) k = Tr.markL a k ++ Tr.markL b (k + Tr.cntL a)
  | [], b, k => by simp [Tr.markL, Tr.cntL]
  | t :: a, b, k => by simp [Tr.markL, Tr.cntL, Tr.markL_append a b, Nat.add_assoc]
theorem Tr.cntL_append : ∀ (a b : List Tr), Tr.cntL (a ++ b) = Tr.cntL a + Tr.cntL b
  | [], b => by simp [Tr.cntL]
  | t :: a, b => by simp [Tr.cntL, Tr.cntL_append a b, Nat.add_assoc]
theorem Tr.cntE_take : ∀ (es : List (List Tr)) (i : Nat) (h : i < es.length), Tr.cntE (es.take (i + 1)) = Tr.cntE (es.take i) + Tr.cntL es[i]
  | [], i, h => by simp at h
  | e :: r, 0, h => by simp [Tr.cntE]
  | e :: r, i + 1, h => by
    have := Tr.cntE_take r i (by simpa using h)
    simp only [List.take_succ_cons, Tr.cntE, this, List.getElem_cons_succ, Nat.add_assoc]
/-- Element i of the marked slice. -/
theorem Tr.markE_get : ∀ (es : List (List Tr)) (k i : Nat) (h : i < es.length), (Tr.markE es k)[i]? = some (Tr.markL es[i] (k + Tr.cntE (es.take i)))
  | [], k, i, h => by simp at h
  | e :: r, k, 0, h => by simp [Tr.markE, Tr.cntE]
  | e :: r, k, i + 1, h => by
    have := Tr.markE_get r (k + Tr.cntL e) i (by simpa using h)
    simp only [Tr.markE, List.getElem?_cons_succ, this, List.take_succ_cons, Tr.cntE, List.getElem_cons_succ, Nat.add_assoc]

/-- Blocks outside S hold what they held; the rest of the world is as it was. -/
structure Chg (S : Nat → Prop) (w w' : World) : Prop where
  os : w'.os = w.os
  tape : w'.tape = w.tape
  output : w'.output = w.output
  size : w.heap.size ≤ w'.heap.size
  block : ∀ b, b < w.heap.size → ¬ S b → w'.heap[b]? = w.heap[b]?
theorem Chg.refl (S : Nat → Prop) (w : World) : Chg S w w := ⟨rfl, rfl, rfl, Nat.le_refl _, fun _ _ _ => rfl⟩
theorem Chg.trans {S : Nat → Prop} {a b c : World} (h : Chg S a b) (k : Chg S b c) : Chg S a c :=
  ⟨k.os.trans h.os, k.tape.trans h.tape, k.output.trans h.output, Nat.le_trans h.size k.size, fun x hx hs => (k.block x (Nat.lt_of_lt_of_le hx h.size) hs).trans (h.block x hx hs)⟩
theorem Chg.mono {S S' : Nat → Prop} {a b : World} (h : Chg S a b) (hS : ∀ x, S x → S' x) : Chg S' a b := ⟨h.os, h.tape, h.output, h.size, fun x hx hn => h.block x hx fun hs => hn (hS x hs)⟩
theorem Chg.of_ext {S : Nat → Prop} {a b : World} (h : Ext a b) : Chg S a b := ⟨h.os, h.tape, h.output, h.size, fun x hx _ => h.block x hx⟩
theorem Chg.of_grown {S : Nat → Prop} {B : Nat} {a b : World} (h : a.grownBy b (some B)) (hB : S B) : Chg S a b := ⟨h.os, h.tape, h.output, h.size, fun x hx hs => h.block x hx (by simp; rintro rfl; exact hs hB)⟩
theorem Chg.ext {S : Nat → Prop} {a b c : World} (h : Ext a b) (k : Chg S b c) (hS : ∀ x, S x → a.heap.size ≤ x) : Ext a c :=
  ⟨k.os.trans h.os, k.tape.trans h.tape, k.output.trans h.output, Nat.le_trans h.size k.size, fun x hx => (k.block x (Nat.lt_of_lt_of_le hx h.size) (fun hs => by have := hS x hs; omega)).trans (h.block x hx)⟩

/-- One element of an own slice, taken out and put back changed. -/
theorem Own.focus {w : World} {sz : Nat} {es : List (List Tr)} {a : Option Addr} {n cap i : Nat} {S : Nat → Prop} {e : List Tr} (h : Own w (.row sz es) (.slice a n cap) S) (hi : es[i]? = some e) (hl : ∀ x ∈ es, x.length = sz) :
    ∃ b off E arr cs T, a = some ⟨b, off, none⟩ ∧ OB w b E arr ∧ S b ∧ OwnL w e cs T ∧ (∀ x, T x → S x ∧ x ≠ b) ∧ cs.length = sz ∧ (0 < sz → off + i * sz + sz ≤ arr.size) ∧ (∀ j v, cs[j]? = some v → arr[off + i * sz + j]? = some v) ∧
      ∀ w' cs' e', e'.length = sz → OB w' b E (splice arr (off + i * sz) cs') → OwnL w' e' cs' T → (∀ x, x < w.heap.size → S x → x ≠ b → ¬ T x → w'.heap[x]? = w.heap[x]?) → off + i * sz + sz ≤ arr.size →
        Own w' (.row sz (es.set i e')) (.slice a n cap) S := by
  cases h with
  | row c T h1 h2 h3 h4 h5 h6 =>
    have hne : es ≠ [] := by rintro rfl; simp at hi
    obtain ⟨b, off, E, arr, rfl, hob, hs, hc⟩ := h3 hne
    have hlt : i < es.length := (List.getElem?_eq_some_iff.1 hi).1
    have hel : e.length = sz := hl e (List.mem_of_getElem? hi)
    have hgj : ∀ j, j < sz → ∃ d, e[j]? = some d := fun j hj => ⟨e[j]'(by omega), List.getElem?_eq_getElem _⟩
    refine ⟨b, off, E, arr, (List.range sz).map (c i), fun x => ∃ j, j < sz ∧ T i j x, rfl, hob, hs, ?_, ?_, by simp, ?_, ?_, ?_⟩
    · refine ⟨by simp [hel], fun j x => j < sz ∧ T i j x, ?_, ?_, ?_⟩
      · intro j d hd
        have hj : j < sz := by rw [← hel]; exact (List.getElem?_eq_some_iff.1 hd).1
        exact ⟨c i j, by simp [hj], (h4 i e hi j d hd).mono fun x hx => ⟨hj, hx⟩⟩
      · intro j d hd x hx
        exact ⟨j, hx⟩
      · intro j d hd j' d' hd' hne x hx hx'
        exact h6 i e hi j d hd i e hi j' d' hd' (fun _ => hne) x hx.2 hx'.2
    · rintro x ⟨j, hj, hx⟩
      obtain ⟨d, hd⟩ := hgj j hj
      exact ⟨h5 i e hi j d hd x hx, (hc i e hi j d hd).2 x hx⟩
    · intro h0
      obtain ⟨d, hd⟩ := hgj (sz - 1) (by omega)
      have := (hc i e hi _ d hd).1
      have := (Array.getElem?_eq_some_iff.1 this).1
      omega
    · intro j v hv
      rw [List.getElem?_map] at hv
      rcases Nat.lt_or_ge j sz with hj | hj
      · rw [List.getElem?_range hj] at hv
        simp at hv
        obtain ⟨d, hd⟩ := hgj j hj
        rw [← hv]
        exact (hc i e hi j d hd).1
      · rw [List.getElem?_eq_none (by simpa using hj)] at hv
        simp at hv
    · intro w' cs' e' hel' hob' how hx hfit
      obtain ⟨hcl, U, u1, u2, u3⟩ := how
      have hcl : cs'.length = sz := by omega
      have hset : (es.set i e').length = es.length := by simp
      have get : ∀ i' e2, (es.set i e')[i']? = some e2 → (i' = i ∧ e2 = e') ∨ (i' ≠ i ∧ es[i']? = some e2) := by
        intro i' e2 h
        rw [List.getElem?_set] at h
        split at h
        · rename_i hii
          subst hii
          simp only [Option.some.injEq] at h
          exact .inl ⟨rfl, h.symm⟩
        · rename_i hii
          exact .inr ⟨fun e => hii e.symm, h⟩
      have keep : ∀ i' e2, i' ≠ i → es[i']? = some e2 → ∀ j d, e2[j]? = some d → ∀ x, T i' j x → x < w.heap.size → w'.heap[x]? = w.heap[x]? := by
        intro i' e2 hne' he2 j d hd x hx' hxl
        refine hx x hxl (h5 i' e2 he2 j d hd x hx') ((hc i' e2 he2 j d hd).2 x hx') ?_
        rintro ⟨j', hj', hT⟩
        obtain ⟨d', hd'⟩ := hgj j' hj'
        exact h6 i' e2 he2 j d hd i e hi j' d' hd' (fun h => absurd h hne') x hx' hT
      rw [← hset]
      refine .row (fun i' j => if i' = i then (cs'[j]?).getD undef else c i' j) (fun i' j => if i' = i then U j else T i' j) (by rw [hset]; exact h1) h2 ?_ ?_ ?_ ?_
      · intro _
        refine ⟨b, off, E, _, rfl, hob', hs, ?_⟩
        intro i' e2 he2 j d hd
        rcases get i' e2 he2 with ⟨rfl, rfl⟩ | ⟨hne', he2⟩
        · simp only [if_true]
          have hj : j < sz := by rw [← hel']; exact (List.getElem?_eq_some_iff.1 hd).1
          refine ⟨?_, fun x hx' => ?_⟩
          · have h7 := splice_same (arr := arr) (o := off + i' * sz) (vs := cs') (by omega)
            have h8 : (((splice arr (off + i' * sz) cs').toList.drop (off + i' * sz)).take cs'.length)[j]? = cs'[j]? := by rw [h7]
            rw [List.getElem?_take, if_pos (by omega), List.getElem?_drop] at h8
            have h9 : cs'[j]? = some (cs'[j]'(by omega)) := List.getElem?_eq_getElem _
            rw [h9] at h8 ⊢
            simpa using h8
          · obtain ⟨j2, hj2, hT⟩ := u2 j d hd x hx'
            obtain ⟨d2, hd2⟩ := hgj j2 hj2
            exact (hc i' e hi j2 d2 hd2).2 x hT
        · simp only [if_neg hne']
          obtain ⟨q1, q2⟩ := hc i' e2 he2 j d hd
          have hl2 : e2.length = sz := hl e2 (List.mem_of_getElem? he2)
          have hj : j < sz := by rw [← hl2]; exact (List.getElem?_eq_some_iff.1 hd).1
          refine ⟨?_, q2⟩
          rw [← q1]
          unfold splice
          have hsz : 0 < sz := by omega
          rcases Nat.lt_or_ge i' i with hlt' | hge
          · have h10 : (i' + 1) * sz ≤ i * sz := Nat.mul_le_mul_right _ hlt'
            rw [Nat.succ_mul] at h10
            rw [List.getElem?_toArray, List.append_assoc, List.getElem?_append_left (by simp; omega), List.getElem?_take, if_pos (by omega)]
            simp
          · have h10 : (i + 1) * sz ≤ i' * sz := Nat.mul_le_mul_right _ (by omega)
            rw [Nat.succ_mul] at h10
            rw [List.getElem?_toArray, List.getElem?_append_right (by simp; omega), List.getElem?_drop]
            simp only [List.length_append, List.length_take, Array.length_toList]
            rw [Nat.min_eq_left (by omega), Array.getElem?_toList]
            congr 1
            omega
      · intro i' e2 he2 j d hd
        rcases get i' e2 he2 with ⟨rfl, rfl⟩ | ⟨hne', he2⟩
        · simp only [if_true]
          obtain ⟨v, hv, ho⟩ := u1 j d hd
          simpa [hv] using ho
        · simp only [if_neg hne']
          exact (h4 i' e2 he2 j d hd).keep fun x hx' hxl => keep i' e2 hne' he2 j d hd x hx' hxl
      · intro i' e2 he2 j d hd x hx'
        rcases get i' e2 he2 with ⟨rfl, rfl⟩ | ⟨hne', he2⟩
        · simp only [if_true] at hx'
          obtain ⟨j2, hj2, hT⟩ := u2 j d hd x hx'
          obtain ⟨d2, hd2⟩ := hgj j2 hj2
          exact h5 i' e hi j2 d2 hd2 x hT
        · simp only [if_neg hne'] at hx'
          exact h5 i' e2 he2 j d hd x hx'
      · intro i' e2 he2 j d hd i'' e3 he3 j' d' hd' hne x hx1 hx2
        rcases get i' e2 he2 with ⟨rfl, rfl⟩ | ⟨hne', he2⟩
        · simp only [if_true] at hx1
          rcases get i'' e3 he3 with ⟨rfl, rfl⟩ | ⟨hne'', he3⟩
          · simp only [if_true] at hx2
            exact u3 j d hd j' d' hd' (hne rfl) x hx1 hx2
          · simp only [if_neg hne''] at hx2
            obtain ⟨j2, hj2, hT⟩ := u2 j d hd x hx1
            obtain ⟨d2, hd2⟩ := hgj j2 hj2
            exact h6 i'' e3 he3 j' d' hd' i' e hi j2 d2 hd2 (fun h => absurd h hne'') x hx2 hT
        · simp only [if_neg hne'] at hx1
          have he2' := he2
          rcases get i'' e3 he3 with ⟨rfl, rfl⟩ | ⟨hne'', he3⟩
          · simp only [if_true] at hx2
            obtain ⟨j2, hj2, hT⟩ := u2 j' d' hd' x hx2
            obtain ⟨d2, hd2⟩ := hgj j2 hj2
            exact h6 i' e2 he2' j d hd i'' e hi j2 d2 hd2 (fun h => absurd h hne') x hx1 hT
          · simp only [if_neg hne''] at hx2
            exact h6 i' e2 he2 j d hd i'' e3 he3 j' d' hd' hne x hx1 hx2

end Go.Proofs.YtnakkelglbcecaaGreat

namespace Go.Proofs.YtnakkelglbcecaaGreat
open Go.RowKit

theorem OwnL.setLeaf {w : World} {ts : List Tr} {cs : List Value} {T : Nat → Prop} {j : Nat} {u : Tr} {v : Value} (h : OwnL w ts cs T) (hj : ts[j]? = some u) (hv : LeafOk v) : OwnL w (ts.set j (.leaf v)) (cs.set j v) T := by
  obtain ⟨hl, U, h1, h2, h3⟩ := h
  have hlt : j < ts.length := (List.getElem?_eq_some_iff.1 hj).1
  have old : ∀ i d, (ts.set j (.leaf v))[i]? = some d → (i = j ∧ d = .leaf v) ∨ (i ≠ j ∧ ts[i]? = some d) := by
    intro i d hd
    rw [List.getElem?_set] at hd
    split at hd
    · rename_i hij
      subst hij
      simp only [Option.some.injEq] at hd
      exact .inl ⟨rfl, hd.symm⟩
    · rename_i hij
      exact .inr ⟨fun e => hij e.symm, hd⟩
  refine ⟨by simp [hl], fun i x => i ≠ j ∧ U i x, ?_, ?_, ?_⟩
  · intro i d hd
    rcases old i d hd with ⟨rfl, rfl⟩ | ⟨hne, hd⟩
    · exact ⟨v, by rw [List.getElem?_set]; simp [hl, hlt], .leaf hv⟩
    · obtain ⟨v', hv', ho⟩ := h1 i d hd
      exact ⟨v', by rw [List.getElem?_set]; rw [if_neg (fun e => hne e.symm)]; exact hv', ho.mono fun x hx => ⟨hne, hx⟩⟩
  · intro i d hd x hx
    rcases old i d hd with ⟨rfl, rfl⟩ | ⟨hne, hd⟩
    · exact (hx.1 rfl).elim
    · exact h2 i d hd x hx.2
  · intro i d hd i' d' hd' hne x hx hx'
    rcases old i d hd with ⟨rfl, rfl⟩ | ⟨_, hd⟩
    · exact hx.1 rfl
    · rcases old i' d' hd' with ⟨rfl, rfl⟩ | ⟨_, hd'⟩
      · exact hx'.1 rfl
      · exact h3 i d hd i' d' hd' hne x hx.2 hx'.2

theorem OwnL.setRow {w : World} {ts : List Tr} {cs : List Value} {T : Nat → Prop} {j : Nat} {t : Tr} {v : Value} (h : OwnL w ts cs T) (hj : ts[j]? = some t) (hv : cs[j]? = some v) :
    ∃ U : Nat → Prop, Own w t v U ∧ (∀ x, U x → T x) ∧ ∀ w' t', Own w' t' v U → (∀ x, x < w.heap.size → T x → ¬ U x → w'.heap[x]? = w.heap[x]?) → OwnL w' (ts.set j t') cs T := by
  obtain ⟨hl, U, h1, h2, h3⟩ := h
  have hlt : j < ts.length := (List.getElem?_eq_some_iff.1 hj).1
  obtain ⟨v1, hv1, ho1⟩ := h1 j t hj
  rw [hv] at hv1
  injection hv1 with hv1
  subst hv1
  refine ⟨U j, ho1, h2 j t hj, fun w' t' ho' hk => ⟨by simp [hl], U, ?_, ?_, ?_⟩⟩
  all_goals
    have old : ∀ i d, (ts.set j t')[i]? = some d → (i = j ∧ d = t') ∨ (i ≠ j ∧ ts[i]? = some d) := by
      intro i d hd
      rw [List.getElem?_set] at hd
      split at hd
      · rename_i hij
        subst hij
        simp only [Option.some.injEq] at hd
        exact .inl ⟨rfl, hd.symm⟩
      · rename_i hij
        exact .inr ⟨fun e => hij e.symm, hd⟩
  · intro i d hd
    rcases old i d hd with ⟨rfl, rfl⟩ | ⟨hne, hd⟩
    · exact ⟨v, hv, ho'⟩
    · obtain ⟨v', hv', ho⟩ := h1 i d hd
      exact ⟨v', hv', ho.keep fun x hx hxl => hk x hxl (h2 i d hd x hx) (fun hu => h3 i d hd j t hj hne x hx hu)⟩
  · intro i d hd x hx
    rcases old i d hd with ⟨rfl, rfl⟩ | ⟨hne, hd⟩
    · exact h2 i t hj x hx
    · exact h2 i d hd x hx
  · intro i d hd i' d' hd' hne x hx hx'
    rcases old i d hd with ⟨rfl, rfl⟩ | ⟨hne1, hd1⟩
    · rcases old i' d' hd' with ⟨rfl, rfl⟩ | ⟨_, hd2⟩
      · exact hne rfl
      · exact h3 i t hj i' d' hd2 hne x hx hx'
    · rcases old i' d' hd' with ⟨rfl, rfl⟩ | ⟨_, hd2⟩
      · exact h3 i d hd1 i' t hj hne x hx hx'
      · exact h3 i d hd1 i' d' hd2 hne x hx hx'

structure Foc (w0 wr : World) (b : Nat) (E : TypeId) (arr0 : Array Value) (o sz : Nat) (ts : List Tr) (cs : List Value) (T : Nat → Prop) : Prop where
  arr : ∃ arr, OB wr b E arr ∧ arr.size = arr0.size ∧ (∀ q, q < o ∨ o + sz ≤ q → arr[q]? = arr0[q]?) ∧ (∀ j v, cs[j]? = some v → arr[o + j]? = some v)
  own : OwnL wr ts cs T
  chg : Chg (fun x => x = b ∨ T x) w0 wr
  notin : ¬ T b
  len : cs.length = sz
  fit : o + sz ≤ arr0.size
  tlt : ∀ x, T x → x < w0.heap.size
  blt : b < w0.heap.size

theorem Foc.cell {w0 wr : World} {b : Nat} {E : TypeId} {arr0 : Array Value} {o sz : Nat} {ts : List Tr} {cs : List Value} {T : Nat → Prop} (h : Foc w0 wr b E arr0 o sz ts cs T) {j : Nat} {v : Value} (hj : cs[j]? = some v) : wr.cell? ⟨b, o + j, none⟩ = some v := by
  obtain ⟨arr, h1, -, -, h4⟩ := h.arr
  rw [h1.cell]
  exact h4 j v hj
theorem Foc.ext {w0 wr w' : World} {b : Nat} {E : TypeId} {arr0 : Array Value} {o sz : Nat} {ts : List Tr} {cs : List Value} {T : Nat → Prop} (h : Foc w0 wr b E arr0 o sz ts cs T) (hx : Ext wr w') : Foc w0 w' b E arr0 o sz ts cs T := by
  obtain ⟨arr, h1, h2, h3, h4⟩ := h.arr
  exact ⟨⟨arr, h1.ext hx, h2, h3, h4⟩, h.own.ext hx, h.chg.trans (.of_ext hx), h.notin, h.len, h.fit, h.tlt, h.blt⟩

theorem splice_get {arr : Array Value} {o : Nat} {cs : List Value} (h : o + cs.length ≤ arr.size) (q : Nat) : (splice arr o cs)[q]? = if q < o then arr[q]? else if q < o + cs.length then cs[q - o]? else arr[q]? := by
  unfold splice
  rw [List.getElem?_toArray, List.append_assoc]
  by_cases h1 : q < o
  · rw [if_pos h1, List.getElem?_append_left (by simp; omega), List.getElem?_take, if_pos h1]; simp
  · rw [if_neg h1, List.getElem?_append_right (by simp; omega)]
    have hl : (List.take o arr.toList).length = o := by simp; omega
    rw [hl]
    by_cases h2 : q < o + cs.length
    · rw [if_pos h2, List.getElem?_append_left (by omega)]
    · rw [if_neg h2, List.getElem?_append_right (by omega), List.getElem?_drop, Array.getElem?_toList]
      congr 1; omega

theorem Foc.leaf {w0 wr w' : World} {b : Nat} {E : TypeId} {arr0 arr : Array Value} {o sz : Nat} {ts : List Tr} {cs : List Value} {T : Nat → Prop} (h : Foc w0 wr b E arr0 o sz ts cs T) {j : Nat} {u : Tr} {v : Value} (hj : ts[j]? = some u) (hv : LeafOk v)
    (ha : OB wr b E arr) (hob : OB w' b E (splice arr (o + j) [v])) (hg : wr.grownBy w' (some b)) : Foc w0 w' b E arr0 o sz (ts.set j (.leaf v)) (cs.set j v) T := by
  obtain ⟨arr1, h1, h2, h3, h4⟩ := h.arr
  have he := ha.symm.trans h1
  injection he with he
  injection he with he
  subst he
  have hlt : j < ts.length := (List.getElem?_eq_some_iff.1 hj).1
  have hsz : j < sz := by rw [← h.len, h.own.1]; exact hlt
  have hfit := h.fit
  have hw : Chg (fun x => x = b) wr w' := Chg.of_grown hg rfl
  refine ⟨⟨_, hob, by rw [splice_size (by simp; omega)]; exact h2, ?_, ?_⟩, (h.own.setLeaf hj hv).keep fun x hx hxl => hw.block x hxl (by rintro rfl; exact h.notin hx), h.chg.trans (hw.mono fun x hx => .inl hx), h.notin, by rw [List.length_set]; exact h.len, h.fit, h.tlt, h.blt⟩
  · intro q hq
    rw [splice_get (by simp; omega)]
    simp only [List.length_cons, List.length_nil]
    rw [← h3 q hq]
    split
    · rfl
    · rw [if_neg (by omega)]
  · intro i x hx
    rw [splice_get (by simp; omega)]
    simp only [List.length_cons, List.length_nil]
    rw [List.getElem?_set] at hx
    split at hx
    · rename_i hji
      subst hji
      split at hx
      · injection hx with hx
        subst hx
        rw [if_neg (by omega), if_pos (by omega)]
        simp
      · simp at hx
    · rename_i hji
      have := h4 i x hx
      split
      · exact this
      · rw [if_neg (by omega)]; exact this

theorem Foc.row {w0 wr : World} {b : Nat} {E : TypeId} {arr0 : Array Value} {o sz : Nat} {ts : List Tr} {cs : List Value} {T : Nat → Prop} (h : Foc w0 wr b E arr0 o sz ts cs T) {j : Nat} {t : Tr} {v : Value} (hj : ts[j]? = some t) (hv : cs[j]? = some v) :
    ∃ U : Nat → Prop, Own wr t v U ∧ (∀ x, U x → x < wr.heap.size) ∧ ∀ w' t', Own w' t' v U → Chg U wr w' → Foc w0 w' b E arr0 o sz (ts.set j t') cs T := by
  obtain ⟨U, hu1, hu2, hu3⟩ := h.own.setRow hj hv
  refine ⟨U, hu1, fun x hx => Nat.lt_of_lt_of_le (h.tlt x (hu2 x hx)) h.chg.size, fun w' t' ho hc => ?_⟩
  obtain ⟨arr, h1, h2, h3, h4⟩ := h.arr
  have hnb : ¬ U b := fun hx => h.notin (hu2 b hx)
  exact ⟨⟨arr, (hc.block b h1.lt hnb).trans h1, h2, h3, h4⟩, hu3 w' t' ho fun x hxl _ hn => hc.block x hxl hn, h.chg.trans (hc.mono fun x hx => .inr (hu2 x hx)), h.notin, h.len, h.fit, h.tlt, h.blt⟩

/-- Element i is taken in hand. -/
theorem Own.take {w : World} {sz : Nat} {es : List (List Tr)} {a : Option Addr} {n cap i : Nat} {S : Nat → Prop} {e : List Tr} (h : Own w (.row sz es) (.slice a n cap) S) (hi : es[i]? = some e) (hl : ∀ x ∈ es, x.length = sz) (hsz : 0 < sz) (hS : ∀ x, S x → x < w.heap.size) :
    ∃ b off E arr cs T, a = some ⟨b, off, none⟩ ∧ Foc w w b E arr (off + i * sz) sz e cs T ∧ RepL w e cs ∧
      ∀ w' cs' e', e'.length = sz → Foc w w' b E arr (off + i * sz) sz e' cs' T → Own w' (.row sz (es.set i e')) (.slice a n cap) S ∧ Chg S w w' := by
  obtain ⟨b, off, E, arr, cs, T, rfl, hob, hsb, how, hT, hcl, hfit, hc, hback⟩ := h.focus hi hl
  refine ⟨b, off, E, arr, cs, T, rfl, ⟨⟨arr, hob, rfl, fun _ _ => rfl, fun j v hv => hc j v hv⟩, how, Chg.refl _ _, fun hb => (hT b hb).2 rfl, hcl, hfit hsz, fun x hx => hS x (hT x hx).1, hob.lt⟩, how.rep, fun w' cs' e' he' hf => ?_⟩
  obtain ⟨arr', h1, h2, h3, h4⟩ := hf.arr
  have hz := hf.len
  have hfit := hf.fit
  have harr : arr' = splice arr (off + i * sz) cs' := by
    apply Array.ext_getElem?
    intro q
    rw [splice_get (by omega)]
    split
    · rename_i hq
      exact h3 q (.inl hq)
    · split
      · rename_i hq1 hq2
        obtain ⟨v, hv⟩ : ∃ v, cs'[q - (off + i * sz)]? = some v := ⟨cs'[q - (off + i * sz)]'(by omega), List.getElem?_eq_getElem _⟩
        rw [hv, ← h4 _ v hv]
        congr 1; omega
      · rename_i hq1 hq2
        exact h3 q (.inr (by omega))
  rw [harr] at h1
  have hch : Chg S w w' := hf.chg.mono fun x hx => by rcases hx with rfl | hx; exact hsb; exact (hT x hx).1
  exact ⟨hback w' cs' e' he' h1 hf.own (fun x hxl _ hne hnt => hf.chg.block x hxl (by rintro (h | h); exact hne h; exact hnt h)) hf.fit, hch⟩

/-- How the marks of a struct handed by value run: only what lies in its slices is marked. -/
def Tr.topL : List Tr → Nat → List Tr
  | [], _ => []
  | .leaf v :: r, k => .leaf v :: Tr.topL r k
  | .row sz es :: r, k => .row sz (Tr.markE es k) :: Tr.topL r (k + Tr.cntE es)
def Tr.topN : List Tr → Nat
  | [] => 0
  | .leaf _ :: r => Tr.topN r
  | .row _ es :: r => Tr.cntE es + Tr.topN r
theorem Tr.topL_append : ∀ (a b : List Tr) (k : Nat), Tr.topL (a ++ b) k = Tr.topL a k ++ Tr.topL b (k + Tr.topN a)
  | [], b, k => by simp [Tr.topL, Tr.topN]
  | .leaf v :: a, b, k => by simp [Tr.topL, Tr.topN, Tr.topL_append a b]
  | .row sz es :: a, b, k => by simp [Tr.topL, Tr.topN, Tr.topL_append a b, Nat.add_assoc]
theorem Tr.topN_append : ∀ (a b : List Tr), Tr.topN (a ++ b) = Tr.topN a + Tr.topN b
  | [], b => by simp [Tr.topN]
  | .leaf v :: a, b => by simp [Tr.topN, Tr.topN_append a b]
  | .row sz es :: a, b => by simp [Tr.topN, Tr.topN_append a b, Nat.add_assoc]

/-- The first i elements are marked, the others are not. -/
def Tr.mid (es : List (List Tr)) (k i : Nat) : List (List Tr) := (Tr.markE es k).take i ++ es.drop i
theorem Tr.mid_zero (es : List (List Tr)) (k : Nat) : Tr.mid es k 0 = es := by simp [Tr.mid]
theorem Tr.mid_end (es : List (List Tr)) (k : Nat) : Tr.mid es k es.length = Tr.markE es k := by
  unfold Tr.mid
  rw [List.drop_length, List.append_nil, List.take_of_length_le (by rw [Tr.markE_length]; exact Nat.le_refl _)]
theorem Tr.mid_len (es : List (List Tr)) (k i : Nat) : (Tr.mid es k i).length = es.length := by
  unfold Tr.mid
  rw [List.length_append, List.length_take, List.length_drop, Tr.markE_length]
  omega
theorem Tr.mid_get {es : List (List Tr)} {k i : Nat} (h : i < es.length) : (Tr.mid es k i)[i]? = some es[i] := by
  unfold Tr.mid
  have hl : ((Tr.markE es k).take i).length = i := by rw [List.length_take, Tr.markE_length]; omega
  rw [List.getElem?_append_right (by omega), hl, Nat.sub_self, List.getElem?_drop, Nat.add_zero, List.getElem?_eq_getElem h]
theorem Tr.mid_set {es : List (List Tr)} {k i : Nat} (h : i < es.length) : (Tr.mid es k i).set i (Tr.markL es[i] (k + Tr.cntE (es.take i))) = Tr.mid es k (i + 1) := by
  unfold Tr.mid
  have hl : ((Tr.markE es k).take i).length = i := by rw [List.length_take, Tr.markE_length]; omega
  have hm : (Tr.markE es k)[i]? = some (Tr.markL es[i] (k + Tr.cntE (es.take i))) := Tr.markE_get es k i h
  have hlt : i < (Tr.markE es k).length := by rw [Tr.markE_length]; exact h
  rw [List.getElem?_eq_getElem hlt] at hm
  injection hm with hm
  rw [List.set_append_right _ _ (by omega), hl, Nat.sub_self, List.drop_eq_getElem_cons h, List.set_cons_zero, List.take_succ_eq_append_getElem hlt, hm]
  simp
theorem Tr.markE_sz {es : List (List Tr)} {k sz : Nat} (h : ∀ e ∈ es, e.length = sz) : ∀ e ∈ Tr.markE es k, e.length = sz := by
  induction es generalizing k with
  | nil => intro e he; simp [Tr.markE] at he
  | cons a r ih =>
    intro e he
    simp only [Tr.markE, List.mem_cons] at he
    rcases he with rfl | he
    · rw [Tr.markL_length]; exact h a (by simp)
    · exact ih (fun x hx => h x (by simp [hx])) e he
theorem Tr.mid_sz {es : List (List Tr)} {k i sz : Nat} (h : ∀ e ∈ es, e.length = sz) : ∀ e ∈ Tr.mid es k i, e.length = sz := by
  intro e he
  unfold Tr.mid at he
  rcases List.mem_append.1 he with h1 | h1
  · exact Tr.markE_sz h e (List.mem_of_mem_take h1)
  · exact h e (List.mem_of_mem_drop h1)
theorem Tr.cntE_le {es : List (List Tr)} {i : Nat} (h : i < es.length) : Tr.cntE (es.take i) + Tr.cntL es[i] ≤ Tr.cntE es := by
  induction es generalizing i with
  | nil => simp at h
  | cons a r ih =>
    cases i with
    | zero => simp [Tr.cntE]
    | succ i => have := ih (i := i) (by simpa using h); simp [Tr.cntE]; omega
theorem mtext_size (k : Nat) (h : k ≤ 2305843009213693952) : (mtext k).size ≤ 20 := by
  have h1 : (digits k).length ≤ 19 := digits_length k 19 (by omega)
  unfold mtext
  show ((109 : UInt8) :: if k = 0 then [48] else digits k).toArray.size ≤ 20
  simp only [List.size_toArray, List.length_cons]
  split
  · simp
  · omega
theorem markLeaf_ok {v : Value} {k : Nat} (hv : LeafOk v) (h : k ≤ 2305843009213693952) (hi : ∀ d n, v = .int d n → d = .i64) : LeafOk (markLeaf k v) := by
  cases v with
  | int d n =>
    obtain rfl := hi d n rfl
    show (Lit.int .i64 (k : Int)).wf = true
    exact WalkArith.wf_i64 (by omega)
  | string s => have := mtext_size k h; show (mtext k).size ≤ maxLen; unfold maxLen; omega
  | bool b => trivial
  | _ => exact hv

end Go.Proofs.YtnakkelglbcecaaGreat
