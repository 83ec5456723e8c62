/- Contracts of the laws' own functions that measure, copy and compare plain data: Type. No conditions. -/
import Derived.Test.YtnakkelglbcecaaGreatProg
import Derived.Test.YtnakkelglbcecaaGreatCtr
namespace Go.Proofs.YtnakkelglbcecaaGreat
open Go.RowKit Go.Proofs

set_option maxRecDepth 100000 in
set_option maxHeartbeats 1000000 in
theorem szType_of (v0 : Int) (v1 : ByteArray) (es2 : List (List Tr)) (h2 : SzSC 101 3 es2) : SzC 43 ([.leaf (.int .i64 v0)] ++ ([.leaf (.string v1)] ++ ([.row 3 es2] ++ ([])))) := by
  intro cs left w hr hl0 hl1
  obtain ⟨b0, r0, rfl, g0, n0⟩ := RepL.split hr
  obtain ⟨y0, rfl⟩ := list1 g0.length.symm
  obtain ⟨rfl, k0⟩ := g0.1.leaf_eq
  obtain ⟨b1, r1, rfl, g1, n1⟩ := RepL.split n0
  obtain ⟨y1, rfl⟩ := list1 g1.length.symm
  obtain ⟨rfl, k1⟩ := g1.1.leaf_eq
  obtain ⟨b2, r2, rfl, g2, n2⟩ := RepL.split n1
  obtain ⟨y2, rfl⟩ := list1 g2.length.symm
  obtain ⟨a2, c2, rfl, -, -⟩ := g2.1.shape
  obtain rfl := RepL.nil_eq n2
  clear hr
  have q1 : v1.size ≤ 9223372036854775807 := by have := k1; simp only [LeafOk, maxLen] at this; omega
  have G0 := Lib.hid g0
  have K0 := Lib.hid k0
  clear g0 n0 k0
  have G1 := Lib.hid g1
  have K1 := Lib.hid k1
  clear g1 n1 k1
  have G2 := Lib.hid g2
  clear g2 n2
  simp only [List.cons_append, List.nil_append]
  go_enter Tryz.func43, Tryz.ntmps43
  go_wp2_with fail
  · go_ret
    exact ⟨-1, rfl, (.alloc (.refl _) _), by omega, by omega, by omega⟩
  refine (h2 _ _ _ (G2.out.1.ext (.alloc (.refl _) _)) (by omega) (by omega)).mono ?_
  rintro e w2 ⟨r2, rfl, hw2, ra2, rb2, rc2⟩
  have HW2 := Lib.hid hw2
  have HR2 := Lib.hid rc2
  have ob2 := (OB.new w _ _).ext hw2
  have OBH := Lib.hid ob2
  have ce2 := ob2.cell
  clear hw2 rc2 ob2
  go_wp2_with fail
  · go_ret
    exact ⟨-1, rfl, (Ext.trans (.alloc (.refl _) _) HW2.out), by omega, by omega, by omega⟩
  go_ret
  refine ⟨_, rfl, (Ext.trans (.alloc (.refl _) _) HW2.out), by omega, by omega, fun hp => ?_⟩
  have e2 := HR2.out (by omega)
  simp only [Tr.bulkL_append, Tr.bulkL, Tr.bulk]
  simp only [Tr.bulk] at e2
  omega

set_option maxRecDepth 100000 in
set_option maxHeartbeats 1000000 in
theorem toType_of (v0 : Int) (v1 : ByteArray) (es2 : List (List Tr)) (h2 : ToSC 104 3 es2) : ToC 45 ([.leaf (.int .i64 v0)] ++ ([.leaf (.string v1)] ++ ([.row 3 es2] ++ ([])))) := by
  intro cs w hr hbk
  simp only [Tr.bulkL_append, Tr.bulkL, Tr.bulk] at hbk
  obtain ⟨b0, r0, rfl, g0, n0⟩ := RepL.split hr
  obtain ⟨y0, rfl⟩ := list1 g0.length.symm
  obtain ⟨rfl, k0⟩ := g0.1.leaf_eq
  obtain ⟨b1, r1, rfl, g1, n1⟩ := RepL.split n0
  obtain ⟨y1, rfl⟩ := list1 g1.length.symm
  obtain ⟨rfl, k1⟩ := g1.1.leaf_eq
  obtain ⟨b2, r2, rfl, g2, n2⟩ := RepL.split n1
  obtain ⟨y2, rfl⟩ := list1 g2.length.symm
  obtain ⟨a2, c2, rfl, -, -⟩ := g2.1.shape
  obtain rfl := RepL.nil_eq n2
  clear hr
  have G0 := Lib.hid g0
  have K0 := Lib.hid k0
  clear g0 n0 k0
  have G1 := Lib.hid g1
  have K1 := Lib.hid k1
  clear g1 n1 k1
  have G2 := Lib.hid g2
  clear g2 n2
  simp only [List.cons_append, List.nil_append]
  go_enter Tryz.func45, Tryz.ntmps45
  go_wp2_with fail
  refine (h2 _ _ (G2.out.1.ext (.alloc (.alloc (.alloc (.refl _) _) _) _)) (by omega)).mono ?_
  rintro e w2 ⟨d2, rfl, hw2, ho2⟩
  obtain ⟨da2, dc2, rfl, -, -⟩ := ho2.rep.shape
  have HW2 := Lib.hid hw2
  have HO2 := Lib.hid ho2
  have ob2 := (Three.new w _ _ _ _ _ _).ext hw2
  have OBHw2 := Lib.hid ob2
  have cew2 := ob2.o0.cell
  have hzw2 : w.heap.size < w2.heap.size := ob2.o0.lt
  clear hw2 ob2 ho2
  have hone : Hid (∀ v ∈ ([.int .i64 v0, .string v1, .slice da2 es2.length dc2] : List Value), v.oneCell' = true) := by
    intro v hv
    simp only [List.mem_cons, List.not_mem_nil, or_false] at hv
    rcases hv with rfl | rfl | rfl <;> first | rfl
  go_wp2_with (first
    | (refine wpList_store_cell rfl 45 _ _ rfl (w.heap.size + 1 + 1) 2 rfl (.slice da2 es2.length dc2) rfl rfl 47 _ OBHw2.out.o2 isz45 (by simp [splice]) rfl ?_; intro u2 hou2 hgu2 hzu2; have OBHu2 := Lib.hid (OBHw2.out.grown hgu2 hou2 (by omega) (by omega)); have HGu2 := Lib.hid hgu2; have ceu2 := OBHu2.out.o0.cell; have hqu2 : w.heap.size < u2.heap.size := OBHu2.out.o0.lt; clear hou2 hgu2 hzu2 OBHw2 cew2)
    | (refine wpList_load_rep rfl 47 _ rfl (w.heap.size + 1 + 1) 0 rfl [.int .i64 v0, .string v1, .slice da2 es2.length dc2] _ Tryz.underlying47 isz47 (fun j v hv => by rw [OBHu2.out.o2.cell, Nat.zero_add]; simpa [splice] using hv) ?_)
    | (refine wpList_store_rep rfl 47 _ _ rfl (w.heap.size + 1) 0 rfl [.int .i64 v0, .string v1, .slice da2 es2.length dc2] rfl 47 _ OBHu2.out.o1 isz47 (by simp) hone.out ?_; intro wz hoz hgz hzz; have HOZ := Lib.hid hoz; have HGZ := Lib.hid hgz; clear hoz hgz hzz))
  have HOF : OB wz (w.heap.size + 1) 47 ⟨[.int .i64 v0, .string v1, .slice da2 es2.length dc2]⟩ := HOZ.out
  refine bodyPost_ret (results_cell_row Tryz.results45 _ _ (w.heap.size + 1) 47 ⟨[.int .i64 v0, .string v1, .slice da2 es2.length dc2]⟩ _ _ rfl HOF Tryz.underlying47 rfl isz47) rfl ⟨[.int .i64 v0, .string v1, .slice da2 es2.length dc2], rfl, (grown_ext (grown_ext (Ext.trans (.alloc (.alloc (.alloc (.refl _) _) _) _) HW2.out) HGu2.out (by omega)) HGZ.out (by omega)), ?_⟩
  have sw2 := HW2.out.size
  have su2 := HGu2.out.size
  have swz := HGZ.out.size
  simp only [World.size_alloc] at sw2
  have ow2 := HO2.out.keeps (lo := w.heap.size + 1 + 1 + 1) (Keeps.trans (Keeps.of_grown HGu2.out (by omega)) (Keeps.of_grown HGZ.out (by omega))) (by intro x hx; simp only [Between, World.size_alloc] at hx; omega)
  have hall := OwnL.cons_leaf K0.out (OwnL.cons_leaf K1.out (OwnL.append (OwnL.one ow2) (OwnL.nil wz (fun _ => False)) (by intro x hx hy; simp only [Between, World.size_alloc, or_false] at hx hy <;> omega)))
  exact hall.mono (by intro x hx; simp only [Between, World.size_alloc, or_false] at hx ⊢; omega)

set_option maxRecDepth 100000 in
set_option maxHeartbeats 1000000 in
theorem eqType_of (v0 : Int) (v1 : ByteArray) (es2 : List (List Tr)) (h2 : EqSC 107 3 es2) : EqC 47 ([.leaf (.int .i64 v0)] ++ ([.leaf (.string v1)] ++ ([.row 3 es2] ++ ([])))) := by
  intro cs ds w hr hr'
  obtain ⟨b0, r0, rfl, g0, n0⟩ := RepL.split hr
  obtain ⟨y0, rfl⟩ := list1 g0.length.symm
  obtain ⟨rfl, k0⟩ := g0.1.leaf_eq
  obtain ⟨b1, r1, rfl, g1, n1⟩ := RepL.split n0
  obtain ⟨y1, rfl⟩ := list1 g1.length.symm
  obtain ⟨rfl, k1⟩ := g1.1.leaf_eq
  obtain ⟨b2, r2, rfl, g2, n2⟩ := RepL.split n1
  obtain ⟨y2, rfl⟩ := list1 g2.length.symm
  obtain ⟨a2, c2, rfl, -, -⟩ := g2.1.shape
  obtain rfl := RepL.nil_eq n2
  clear hr
  obtain ⟨zb0, zr0, rfl, zg0, zn0⟩ := RepL.split hr'
  obtain ⟨zy0, rfl⟩ := list1 zg0.length.symm
  obtain ⟨rfl, zk0⟩ := zg0.1.leaf_eq
  obtain ⟨zb1, zr1, rfl, zg1, zn1⟩ := RepL.split zn0
  obtain ⟨zy1, rfl⟩ := list1 zg1.length.symm
  obtain ⟨rfl, zk1⟩ := zg1.1.leaf_eq
  obtain ⟨zb2, zr2, rfl, zg2, zn2⟩ := RepL.split zn1
  obtain ⟨zy2, rfl⟩ := list1 zg2.length.symm
  obtain ⟨za2, zc2, rfl, -, -⟩ := zg2.1.shape
  obtain rfl := RepL.nil_eq zn2
  clear hr'
  have G0 := Lib.hid g0
  have K0 := Lib.hid k0
  clear g0 n0 k0
  have G1 := Lib.hid g1
  have K1 := Lib.hid k1
  clear g1 n1 k1
  have G2 := Lib.hid g2
  clear g2 n2
  have zG0 := Lib.hid zg0
  have zK0 := Lib.hid zk0
  clear zg0 zn0 zk0
  have zG1 := Lib.hid zg1
  have zK1 := Lib.hid zk1
  clear zg1 zn1 zk1
  have zG2 := Lib.hid zg2
  clear zg2 zn2
  simp only [List.cons_append, List.nil_append]
  go_enter Tryz.func47, Tryz.ntmps47
  go_wp2_with fail
  refine (h2 _ _ _ (G2.out.1.ext (.alloc (.alloc (.refl _) _) _)) (zG2.out.1.ext (.alloc (.alloc (.refl _) _) _))).mono ?_
  rintro e w2 ⟨rfl, hw2⟩
  have HW2 := Lib.hid hw2
  have ob2 := (Two.new w _ _ _ _).ext hw2
  have OBH := Lib.hid ob2
  have ce2 := ob2.o0.cell
  have cf2 := ob2.o1.cell
  clear hw2 ob2
  go_wp2_with fail
  go_ret
  exact ⟨rfl, (Ext.trans (.alloc (.alloc (.refl _) _) _) HW2.out)⟩

set_option maxRecDepth 100000 in
set_option maxHeartbeats 1000000 in
theorem szTypeS_of (es : List (List Tr)) (h5 : ∀ e ∈ es, e.length = 3) (H : ∀ e ∈ es, SzC 43 e) : SzSC 101 3 es := by
  intro s left w hs h0 h1
  obtain ⟨a, cap, rfl, hl, hm⟩ := hs.shape
  unfold maxLen at hm
  have HS := Lib.hid hs
  have HH := Lib.hid H
  have H5 := Lib.hid h5
  clear hs H h5
  go_enter Tryz.func101, Tryz.ntmps101
  go_wp2_with fail
  · go_ret
    exact ⟨-1, rfl, .refl _, by omega, by omega, by omega⟩
  go_loopw [1, 5] (fun l i wr => ∃ (k : Nat) (r : Int), k ≤ es.length ∧ i = .int .i64 k ∧ l = .int .i64 r ∧ Ext w wr ∧ 0 ≤ r ∧ r + es.length + Tr.bulkAll (es.take k) ≤ left) (fun _ i _ => es.length - (intOf i).toNat)
  case atStart => exact ⟨0, _, Nat.zero_le _, rfl, rfl, .refl _, by omega, by simp [Tr.bulkAll]⟩
  case round =>
    obtain ⟨k, r, hk, rfl, rfl, hw, hr0, hrb⟩ := hrel
    by_cases hlt : k < es.length
    · obtain ⟨b, off, cs, rfl, hb, hcs, hc⟩ := (HS.out.ext hw).at2 (k := k) (List.getElem?_eq_getElem hlt)
      have hmem : es[k] ∈ es := List.getElem_mem hlt
      have l5 := H5.out _ hmem
      have hbt := Lib.hid (Tr.bulkAll_take es k hlt)
      have HCS := Lib.hid hcs
      have HC := Lib.hid hc
      have HM := Lib.hid hmem
      have HI : Hid ((Tryz.prog.info? 39).map (·.size) = some cs.length) := by rw [← hcs.length, l5]; exact isz39
      clear hcs hc hmem l5
      go_wp2_with (refine wpList_load_rep rfl 39 _ rfl b (off + k * 3) rfl cs _ Tryz.underlying39 HI.out HC.out ?_)
      refine (HH.out _ HM.out _ _ _ HCS.out hr0 (by omega)).mono ?_
      rintro e w1 ⟨r1, rfl, hw1, hr1, hr2, hr3⟩
      have HR3 := Lib.hid hr3
      have HW1 := Lib.hid hw1
      clear hr3 hw1
      go_wp2_with fail
      · go_ret
        exact ⟨-1, rfl, hw.trans HW1.out, by omega, by omega, by omega⟩
      · go_roundw
        case rel =>
          have p0 : 0 ≤ r1 := by assumption
          have e1 := HR3.out p0
          have e2 := hbt.out
          exact ⟨k + 1, r1, by omega, by go_num, rfl, hw.trans HW1.out, p0, by omega⟩
        case measure => simp [intOf]; omega
    · have hkl : k = es.length := by omega
      go_wp2_with fail
      go_ret
      refine ⟨r, rfl, hw, by omega, by omega, fun _ => ?_⟩
      rw [hkl, List.take_length] at hrb
      simp only [Tr.bulk]
      omega

set_option maxRecDepth 100000 in
set_option maxHeartbeats 1000000 in
theorem toTypeS_of (es : List (List Tr)) (h5 : ∀ e ∈ es, e.length = 3) (H : ∀ e ∈ es, ToC 45 e) : ToSC 104 3 es := by
  intro s w hs hbk
  obtain ⟨a, cap, rfl, hl, hm⟩ := hs.shape
  unfold maxLen at hm
  have HS := Lib.hid hs
  have HH := Lib.hid H
  have H5 := Lib.hid h5
  have n0 : (0 : Int) ≤ es.length := by omega
  clear hs H h5
  go_enter Tryz.func104, Tryz.ntmps104
  go_wp2_with (refine wpList_make_rep rfl 45 (.tmp 6) rfl es.length rfl 47 Tryz.underlying45 3 48 iszb47 (by omega) (by omega) ?_; intro wm arr0 ha0 hob0 hx0 hz0; have HA0 := Lib.hid ha0; have HOB0 := Lib.hid hob0; have HX0 := Lib.hid hx0; have HZ0 := Lib.hid hz0; clear ha0 hob0 hx0 hz0)
  go_loopw [4] (fun i wr => ∃ (k : Nat) (arr : Array Value), k ≤ es.length ∧ i = .int .i64 k ∧ Ext w wr ∧ w.heap.size < wr.heap.size ∧ OB wr w.heap.size 47 arr ∧ arr.size = es.length * 3 ∧ Part wr w.heap.size arr 3 es k) (fun i _ => es.length - (intOf i).toNat)
  case atStart => exact ⟨0, arr0, Nat.zero_le _, rfl, HX0.out, by rw [HZ0.out]; omega, HOB0.out, HA0.out, Part.zero _ _ _ _ _⟩
  case round =>
    obtain ⟨k, arr, hk, rfl, hw, hgt, hob, hasz, hpart⟩ := hrel
    have HOB := Lib.hid hob
    have HAS := Lib.hid hasz
    have HP := Lib.hid hpart
    clear hob hasz hpart
    by_cases hlt : k < es.length
    · obtain ⟨b, off, cs, rfl, hb, hcs, hc⟩ := (HS.out.ext hw).at2 (k := k) (List.getElem?_eq_getElem hlt)
      have hmem : es[k] ∈ es := List.getElem_mem hlt
      have l5 := H5.out _ hmem
      have hbe := Tr.bulkAll_le hlt
      have HCS := Lib.hid hcs
      have HC := Lib.hid hc
      have HM := Lib.hid hmem
      have HL5 := Lib.hid l5
      have HI : Hid ((Tryz.prog.info? 39).map (·.size) = some cs.length) := by rw [← hcs.length, l5]; exact isz39
      clear hcs hc hmem l5
      go_wp2_with (refine wpList_load_rep rfl 39 (.tmp 18) rfl b (off + k * 3) rfl cs _ Tryz.underlying39 HI.out HC.out ?_)
      refine (HH.out _ HM.out _ _ HCS.out (by omega)).mono ?_
      rintro e w1 ⟨cs1, rfl, hw1, ho1⟩
      have HW1 := Lib.hid hw1
      have HO1 := Lib.hid ho1
      have hcl : cs1.length = 3 := ho1.1.trans HL5.out
      have HCL := Lib.hid hcl
      have hfit : 0 + k * 3 + cs1.length ≤ arr.size := by have := HAS.out; omega
      have HF := Lib.hid hfit
      clear hw1 ho1 hcl hfit
      go_wp2_with (refine wpList_store_rep rfl 47 (.tmp 21) (.tmp 20) rfl w.heap.size (k * 3) rfl cs1 rfl 47 arr (HOB.out.ext HW1.out) (by rw [HCL.out]; exact isz47) (by have := HF.out; omega) (HO1.out.rep.one) ?_; intro w2 hob2 hg2 hz2; have HOB2 := Lib.hid hob2; have HG2 := Lib.hid hg2; have HZ2 := Lib.hid hz2; clear hob2 hg2 hz2)
      go_roundw
      case rel =>
        have hfit : k * 3 + cs1.length ≤ arr.size := by have := HF.out; omega
        refine ⟨k + 1, _, by omega, by go_num, ?_, ?_, HOB2.out, by rw [splice_size hfit]; exact HAS.out, HP.out.step hgt HW1.out (List.getElem?_eq_getElem hlt) HO1.out HCL.out HAS.out HG2.out HOB2.out⟩
        · exact grown_ext (hw.trans HW1.out) HG2.out (Nat.le_refl _)
        · have := HW1.out.size
          have := HZ2.out
          omega
      case measure => simp [intOf]; omega
    · have hkl : k = es.length := by omega
      go_wp2_with fail
      go_ret
      subst hkl
      exact ⟨_, rfl, hw, (HP.out.done HOB.out H5.out (Nat.le_refl _) (by unfold maxLen; omega) (Nat.le_refl _)).mono fun x hx => ⟨hx.1, hx.2⟩⟩

set_option maxRecDepth 100000 in
set_option maxHeartbeats 1000000 in
theorem eqTypeS_of (es : List (List Tr)) (h5 : ∀ e ∈ es, e.length = 3) (H : ∀ e ∈ es, EqC 47 e) : EqSC 107 3 es := by
  intro s u w hs hu
  obtain ⟨a, cap, rfl, hl, hm⟩ := hs.shape
  obtain ⟨a', cap', rfl, hl', hm'⟩ := hu.shape
  unfold maxLen at hm hm'
  have HS := Lib.hid hs
  have HU := Lib.hid hu
  have HH := Lib.hid H
  have H5 := Lib.hid h5
  clear hs hu H h5
  go_enter Tryz.func107, Tryz.ntmps107
  go_wp2_with fail
  go_loopw [5] (fun i wr => ∃ k : Nat, k ≤ es.length ∧ i = .int .i64 k ∧ Ext w wr) (fun i _ => es.length - (intOf i).toNat)
  case atStart => exact ⟨0, Nat.zero_le _, rfl, .refl _⟩
  case round =>
    obtain ⟨k, hk, rfl, hw⟩ := hrel
    by_cases hlt : k < es.length
    · obtain ⟨b, off, cs, rfl, hb, hcs, hc⟩ := (HS.out.ext hw).at2 (k := k) (List.getElem?_eq_getElem hlt)
      obtain ⟨b', off', ds, rfl, hb', hds, hd⟩ := (HU.out.ext hw).at2 (k := k) (List.getElem?_eq_getElem hlt)
      have hmem : es[k] ∈ es := List.getElem_mem hlt
      have l5 := H5.out _ hmem
      have HCS := Lib.hid hcs
      have HDS := Lib.hid hds
      have HM := Lib.hid hmem
      have HC := Lib.hid hc
      have HD := Lib.hid hd
      have HI : Hid ((Tryz.prog.info? 47).map (·.size) = some cs.length) := by rw [← hcs.length, l5]; exact isz47
      have HJ : Hid ((Tryz.prog.info? 47).map (·.size) = some ds.length) := by rw [← hds.length, l5]; exact isz47
      clear hcs hds hc hd l5 hmem
      go_wp2_with fail
      have ki : (k : Int) < (es.length : Int) := by omega
      have k0 : (0 : Int) ≤ (k : Int) := by omega
      refine wp_region_still_tail 8 (by kernel_rfl) (by kernel_rfl) ?_
      simp only [List.take_succ_cons, List.take_zero, List.drop_succ_cons, List.drop_zero]
      change wpStill _ _ wr.drew _ _ _
      repeat (first
        | (refine wpStill_load_rep rfl 47 (.tmp 19) rfl b (off + k * 3) rfl cs _ Tryz.underlying47 HI.out HC.out ?_; simp only [Act.put])
        | (refine wpStill_load_rep rfl 47 (.tmp 23) rfl b' (off' + k * 3) rfl ds _ Tryz.underlying47 HJ.out HD.out ?_; simp only [Act.put])
        | still_step)
      refine wpStill_nil ?_
      change wpList _ _ _ _ _ wr.drew
      go_wp2_with fail
      refine (HH.out _ HM.out _ _ _ (HCS.out.ext (.drew (.refl _))) (HDS.out.ext (.drew (.refl _)))).mono ?_
      rintro e w1 ⟨rfl, hw1⟩
      have HW1 := Lib.hid hw1
      clear hw1
      go_wp2_with fail
      go_roundw
      case rel => exact ⟨k + 1, by omega, by go_num, hw.trans (.trans (.drew (.refl _)) HW1.out)⟩
      case measure => simp [intOf]; omega
    · go_wp2_with fail
      go_ret
      exact ⟨rfl, hw⟩

end Go.Proofs.YtnakkelglbcecaaGreat
