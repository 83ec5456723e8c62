/- Words, rules and walks of several kinds, laid together: BMethod, BBound, BInstance, BParam, BFunction, BConstructor, BDataType, BSignature, BTrait, BPackage, BProgram. No conditions but those that each theorem states. -/
import Derived.Test.YtnakkelglbcecaaGreatProg
import Derived.Test.YtnakkelglbcecaaGreatQ1LExactSupertraitPath
set_option linter.unusedSimpArgs false
set_option linter.unusedVariables false
namespace Go.Proofs.YtnakkelglbcecaaGreat
open Go.RowKit Go.Proofs

set_option maxRecDepth 100000 in
set_option maxHeartbeats 1000000 in
theorem szMethod_of (v0 : ByteArray) (es1 : List (List Tr)) (ts2 : List Tr) (l2 : ts2.length = 9) (h1 : SzSC 178 1 es1) (h2 : SzC 220 ts2) : SzC 232 ([.leaf (.string v0)] ++ ([.row 1 es1] ++ (ts2 ++ ([])))) := by
  intro cs left w hr hl0 hl1
  obtain ⟨b0, r0, rfl, g0, n0⟩ := RepL.split hr
  obtain ⟨y0, rfl⟩ := list1 g0.length.symm
  obtain ⟨rfl, k0⟩ := g0.1.leaf_eq
  obtain ⟨b1, r1, rfl, g1, n1⟩ := RepL.split n0
  obtain ⟨y1, rfl⟩ := list1 g1.length.symm
  obtain ⟨a1, c1, rfl, -, -⟩ := g1.1.shape
  obtain ⟨b2, r2, rfl, g2, n2⟩ := RepL.split n1
  obtain ⟨x2_0, x2_1, x2_2, x2_3, x2_4, x2_5, x2_6, x2_7, x2_8, rfl⟩ := list9 (g2.length.symm.trans l2)
  obtain rfl := RepL.nil_eq n2
  clear hr
  have q0 : v0.size ≤ 9223372036854775807 := by have := k0; simp only [LeafOk, maxLen] at this; omega
  have G0 := Lib.hid g0
  have K0 := Lib.hid k0
  clear g0 n0 k0
  have G1 := Lib.hid g1
  clear g1 n1
  have G2 := Lib.hid g2
  clear g2 n2
  simp only [List.cons_append, List.nil_append]
  go_enter Tryz.func232, Tryz.ntmps232
  go_wp2_with fail
  · go_ret
    exact ⟨-1, rfl, (.alloc (.refl _) _), by omega, by omega, by omega⟩
  refine (h1 _ _ _ (G1.out.1.ext (.alloc (.refl _) _)) (by omega) (by omega)).mono ?_
  rintro e w1 ⟨r1, rfl, hw1, ra1, rb1, rc1⟩
  have HW1 := Lib.hid hw1
  have HR1 := Lib.hid rc1
  have ob1 := (OB.new w _ _).ext hw1
  have OBH := Lib.hid ob1
  have ce1 := ob1.cell
  clear hw1 rc1 ob1
  go_wp2_with fail
  · go_ret
    exact ⟨-1, rfl, (Ext.trans (.alloc (.refl _) _) HW1.out), by omega, by omega, by omega⟩
  refine (h2 _ _ _ (G2.out.ext (Ext.trans (.alloc (.refl _) _) HW1.out)) (by omega) (by omega)).mono ?_
  rintro e w2 ⟨r2, rfl, hw2, ra2, rb2, rc2⟩
  have HW2 := Lib.hid hw2
  have HR2 := Lib.hid rc2
  have ob2 := OBH.out.ext hw2
  clear OBH ce1
  have OBH := Lib.hid ob2
  have ce2 := ob2.cell
  clear hw2 rc2 ob2
  go_wp2_with fail
  · go_ret
    exact ⟨-1, rfl, (Ext.trans (Ext.trans (.alloc (.refl _) _) HW1.out) HW2.out), by omega, by omega, by omega⟩
  go_ret
  refine ⟨_, rfl, (Ext.trans (Ext.trans (.alloc (.refl _) _) HW1.out) HW2.out), by omega, by omega, fun hp => ?_⟩
  have e1 := HR1.out (by omega)
  have e2 := HR2.out (by omega)
  simp only [Tr.bulkL_append, Tr.bulkL, Tr.bulk]
  simp only [Tr.bulk] at e1
  omega

set_option maxRecDepth 100000 in
set_option maxHeartbeats 1000000 in
theorem toMethod_of (v0 : ByteArray) (es1 : List (List Tr)) (ts2 : List Tr) (l2 : ts2.length = 9) (h1 : ToSC 183 1 es1) (h2 : ToC 225 ts2) : ToC 238 ([.leaf (.string v0)] ++ ([.row 1 es1] ++ (ts2 ++ ([])))) := by
  intro cs w hr hbk
  simp only [Tr.bulkL_append, Tr.bulkL, Tr.bulk] at hbk
  obtain ⟨b0, r0, rfl, g0, n0⟩ := RepL.split hr
  obtain ⟨y0, rfl⟩ := list1 g0.length.symm
  obtain ⟨rfl, k0⟩ := g0.1.leaf_eq
  obtain ⟨b1, r1, rfl, g1, n1⟩ := RepL.split n0
  obtain ⟨y1, rfl⟩ := list1 g1.length.symm
  obtain ⟨a1, c1, rfl, -, -⟩ := g1.1.shape
  obtain ⟨b2, r2, rfl, g2, n2⟩ := RepL.split n1
  obtain ⟨x2_0, x2_1, x2_2, x2_3, x2_4, x2_5, x2_6, x2_7, x2_8, rfl⟩ := list9 (g2.length.symm.trans l2)
  obtain rfl := RepL.nil_eq n2
  clear hr
  have G0 := Lib.hid g0
  have K0 := Lib.hid k0
  clear g0 n0 k0
  have G1 := Lib.hid g1
  clear g1 n1
  have G2 := Lib.hid g2
  clear g2 n2
  simp only [List.cons_append, List.nil_append]
  go_enter Tryz.func238, Tryz.ntmps238
  go_wp2_with fail
  refine (h1 _ _ (G1.out.1.ext (.alloc (.alloc (.alloc (.refl _) _) _) _)) (by omega)).mono ?_
  rintro e w1 ⟨d1, rfl, hw1, ho1⟩
  obtain ⟨da1, dc1, rfl, -, -⟩ := ho1.rep.shape
  have HW1 := Lib.hid hw1
  have HO1 := Lib.hid ho1
  have ob1 := (Three.new w _ _ _ _ _ _).ext hw1
  have OBHw1 := Lib.hid ob1
  have cew1 := ob1.o0.cell
  have hzw1 : w.heap.size < w1.heap.size := ob1.o0.lt
  clear hw1 ob1 ho1
  go_wp2_with (first
    | (refine wpList_store_cell rfl 54 _ _ rfl (w.heap.size + 1 + 1) 1 rfl (.slice da1 es1.length dc1) rfl rfl 260 _ OBHw1.out.o2 isz54 (by simp [splice]) rfl ?_; intro u1 hou1 hgu1 hzu1; have OBHu1 := Lib.hid (OBHw1.out.grown hgu1 hou1 (by omega) (by omega)); have HGu1 := Lib.hid hgu1; have ceu1 := OBHu1.out.o0.cell; have hqu1 : w.heap.size < u1.heap.size := OBHu1.out.o0.lt; clear hou1 hgu1 hzu1 OBHw1 cew1))
  refine (h2 _ _ (G2.out.ext (grown_ext (Ext.trans (.alloc (.alloc (.alloc (.refl _) _) _) _) HW1.out) HGu1.out (by omega))) (by omega)).mono ?_
  rintro e w2 ⟨d2, rfl, hw2, ho2⟩
  obtain ⟨d2_0, d2_1, d2_2, d2_3, d2_4, d2_5, d2_6, d2_7, d2_8, rfl⟩ := list9 (ho2.1.trans l2)
  have HW2 := Lib.hid hw2
  have HO2 := Lib.hid ho2
  have ob2 := OBHu1.out.ext hw2
  clear OBHu1 ceu1
  have OBHw2 := Lib.hid ob2
  have cew2 := ob2.o0.cell
  have hzw2 : w.heap.size < w2.heap.size := ob2.o0.lt
  clear hw2 ob2 ho2
  have hone : Hid (∀ v ∈ ([.string v0, .slice da1 es1.length dc1, d2_0, d2_1, d2_2, d2_3, d2_4, d2_5, d2_6, d2_7, d2_8] : List Value), v.oneCell' = true) := by
    intro v hv
    simp only [List.mem_cons, List.not_mem_nil, or_false] at hv
    rcases hv with rfl | rfl | rfl | rfl | rfl | rfl | rfl | rfl | rfl | rfl | rfl <;> first | rfl | (refine HO2.out.rep.one _ ?_; simp; done)
  go_wp2_with (first
    | (refine wpList_store_rep rfl 103 _ _ rfl (w.heap.size + 1 + 1) 2 rfl [d2_0, d2_1, d2_2, d2_3, d2_4, d2_5, d2_6, d2_7, d2_8] rfl 260 _ OBHw2.out.o2 isz103 (by simp [splice]) HO2.out.rep.one ?_; intro u2 hou2 hgu2 hzu2; have OBHu2 := Lib.hid (OBHw2.out.grown hgu2 hou2 (by omega) (by omega)); have HGu2 := Lib.hid hgu2; have ceu2 := OBHu2.out.o0.cell; have hqu2 : w.heap.size < u2.heap.size := OBHu2.out.o0.lt; clear hou2 hgu2 hzu2 OBHw2 cew2)
    | (refine wpList_load_rep rfl 260 _ rfl (w.heap.size + 1 + 1) 0 rfl [.string v0, .slice da1 es1.length dc1, d2_0, d2_1, d2_2, d2_3, d2_4, d2_5, d2_6, d2_7, d2_8] _ Tryz.underlying260 isz260 (fun j v hv => by rw [OBHu2.out.o2.cell, Nat.zero_add]; simpa [splice] using hv) ?_)
    | (refine wpList_store_rep rfl 260 _ _ rfl (w.heap.size + 1) 0 rfl [.string v0, .slice da1 es1.length dc1, d2_0, d2_1, d2_2, d2_3, d2_4, d2_5, d2_6, d2_7, d2_8] rfl 260 _ OBHu2.out.o1 isz260 (by simp) hone.out ?_; intro wz hoz hgz hzz; have HOZ := Lib.hid hoz; have HGZ := Lib.hid hgz; clear hoz hgz hzz))
  have HOF : OB wz (w.heap.size + 1) 260 ⟨[.string v0, .slice da1 es1.length dc1, d2_0, d2_1, d2_2, d2_3, d2_4, d2_5, d2_6, d2_7, d2_8]⟩ := HOZ.out
  refine bodyPost_ret (results_cell_row Tryz.results238 _ _ (w.heap.size + 1) 260 ⟨[.string v0, .slice da1 es1.length dc1, d2_0, d2_1, d2_2, d2_3, d2_4, d2_5, d2_6, d2_7, d2_8]⟩ _ _ rfl HOF Tryz.underlying260 rfl isz260) rfl ⟨[.string v0, .slice da1 es1.length dc1, d2_0, d2_1, d2_2, d2_3, d2_4, d2_5, d2_6, d2_7, d2_8], rfl, (grown_ext (grown_ext (Ext.trans (grown_ext (Ext.trans (.alloc (.alloc (.alloc (.refl _) _) _) _) HW1.out) HGu1.out (by omega)) HW2.out) HGu2.out (by omega)) HGZ.out (by omega)), ?_⟩
  have sw1 := HW1.out.size
  have su1 := HGu1.out.size
  have sw2 := HW2.out.size
  have su2 := HGu2.out.size
  have swz := HGZ.out.size
  simp only [World.size_alloc] at sw1
  have ow1 := HO1.out.keeps (lo := w.heap.size + 1 + 1 + 1) (Keeps.trans (Keeps.of_grown HGu1.out (by omega)) (Keeps.trans (Keeps.of_ext HW2.out) (Keeps.trans (Keeps.of_grown HGu2.out (by omega)) (Keeps.of_grown HGZ.out (by omega))))) (by intro x hx; simp only [Between, World.size_alloc] at hx; omega)
  have ow2 := HO2.out.keeps (lo := w.heap.size + 1 + 1 + 1) (Keeps.trans (Keeps.of_grown HGu2.out (by omega)) (Keeps.of_grown HGZ.out (by omega))) (by intro x hx; simp only [Between, World.size_alloc] at hx; omega)
  have hall := OwnL.cons_leaf K0.out (OwnL.append (OwnL.one ow1) (OwnL.append (ow2) (OwnL.nil wz (fun _ => False)) (by intro x hx hy; simp only [Between, World.size_alloc, or_false] at hx hy <;> omega)) (by intro x hx hy; simp only [Between, World.size_alloc, or_false] at hx hy <;> omega))
  exact hall.mono (by intro x hx; simp only [Between, World.size_alloc, or_false] at hx ⊢; omega)

set_option maxRecDepth 100000 in
set_option maxHeartbeats 1000000 in
theorem eqMethod_of (v0 : ByteArray) (es1 : List (List Tr)) (ts2 : List Tr) (l2 : ts2.length = 9) (h1 : EqSC 29 1 es1) (h2 : EqC 130 ts2) : EqC 243 ([.leaf (.string v0)] ++ ([.row 1 es1] ++ (ts2 ++ ([])))) := by
  intro cs ds w hr hr'
  obtain ⟨b0, r0, rfl, g0, n0⟩ := RepL.split hr
  obtain ⟨y0, rfl⟩ := list1 g0.length.symm
  obtain ⟨rfl, k0⟩ := g0.1.leaf_eq
  obtain ⟨b1, r1, rfl, g1, n1⟩ := RepL.split n0
  obtain ⟨y1, rfl⟩ := list1 g1.length.symm
  obtain ⟨a1, c1, rfl, -, -⟩ := g1.1.shape
  obtain ⟨b2, r2, rfl, g2, n2⟩ := RepL.split n1
  obtain ⟨x2_0, x2_1, x2_2, x2_3, x2_4, x2_5, x2_6, x2_7, x2_8, rfl⟩ := list9 (g2.length.symm.trans l2)
  obtain rfl := RepL.nil_eq n2
  clear hr
  obtain ⟨zb0, zr0, rfl, zg0, zn0⟩ := RepL.split hr'
  obtain ⟨zy0, rfl⟩ := list1 zg0.length.symm
  obtain ⟨rfl, zk0⟩ := zg0.1.leaf_eq
  obtain ⟨zb1, zr1, rfl, zg1, zn1⟩ := RepL.split zn0
  obtain ⟨zy1, rfl⟩ := list1 zg1.length.symm
  obtain ⟨za1, zc1, rfl, -, -⟩ := zg1.1.shape
  obtain ⟨zb2, zr2, rfl, zg2, zn2⟩ := RepL.split zn1
  obtain ⟨zx2_0, zx2_1, zx2_2, zx2_3, zx2_4, zx2_5, zx2_6, zx2_7, zx2_8, rfl⟩ := list9 (zg2.length.symm.trans l2)
  obtain rfl := RepL.nil_eq zn2
  clear hr'
  have G0 := Lib.hid g0
  have K0 := Lib.hid k0
  clear g0 n0 k0
  have G1 := Lib.hid g1
  clear g1 n1
  have G2 := Lib.hid g2
  clear g2 n2
  have zG0 := Lib.hid zg0
  have zK0 := Lib.hid zk0
  clear zg0 zn0 zk0
  have zG1 := Lib.hid zg1
  clear zg1 zn1
  have zG2 := Lib.hid zg2
  clear zg2 zn2
  simp only [List.cons_append, List.nil_append]
  go_enter Tryz.func243, Tryz.ntmps243
  go_wp2_with fail
  refine (h1 _ _ _ (G1.out.1.ext (.alloc (.alloc (.refl _) _) _)) (zG1.out.1.ext (.alloc (.alloc (.refl _) _) _))).mono ?_
  rintro e w1 ⟨rfl, hw1⟩
  have HW1 := Lib.hid hw1
  have ob1 := (Two.new w _ _ _ _).ext hw1
  have OBH := Lib.hid ob1
  have ce1 := ob1.o0.cell
  have cf1 := ob1.o1.cell
  clear hw1 ob1
  go_wp2_with fail
  refine (h2 _ _ _ (G2.out.ext (Ext.trans (.alloc (.alloc (.refl _) _) _) HW1.out)) (zG2.out.ext (Ext.trans (.alloc (.alloc (.refl _) _) _) HW1.out))).mono ?_
  rintro e w2 ⟨rfl, hw2⟩
  have HW2 := Lib.hid hw2
  have ob2 := OBH.out.ext hw2
  clear OBH ce1 cf1
  have OBH := Lib.hid ob2
  have ce2 := ob2.o0.cell
  have cf2 := ob2.o1.cell
  clear hw2 ob2
  go_wp2_with fail
  go_ret
  exact ⟨rfl, (Ext.trans (Ext.trans (.alloc (.alloc (.refl _) _) _) HW1.out) HW2.out)⟩

set_option maxRecDepth 100000 in
set_option maxHeartbeats 1000000 in
theorem szMethodS_of (es : List (List Tr)) (h5 : ∀ e ∈ es, e.length = 11) (H : ∀ e ∈ es, SzC 232 e) : SzSC 218 11 es := by
  intro s left w hs h0 h1
  obtain ⟨a, cap, rfl, hl, hm⟩ := hs.shape
  unfold maxLen at hm
  have HS := Lib.hid hs
  have HH := Lib.hid H
  have H5 := Lib.hid h5
  clear hs H h5
  go_enter Tryz.func218, Tryz.ntmps218
  go_wp2_with fail
  · go_ret
    exact ⟨-1, rfl, .refl _, by omega, by omega, by omega⟩
  go_loopw [1, 5] (fun l i wr => ∃ (k : Nat) (r : Int), k ≤ es.length ∧ i = .int .i64 k ∧ l = .int .i64 r ∧ Ext w wr ∧ 0 ≤ r ∧ r + es.length + Tr.bulkAll (es.take k) ≤ left) (fun _ i _ => es.length - (intOf i).toNat)
  case atStart => exact ⟨0, _, Nat.zero_le _, rfl, rfl, .refl _, by omega, by simp [Tr.bulkAll]⟩
  case round =>
    obtain ⟨k, r, hk, rfl, rfl, hw, hr0, hrb⟩ := hrel
    by_cases hlt : k < es.length
    · obtain ⟨b, off, cs, rfl, hb, hcs, hc⟩ := (HS.out.ext hw).at2 (k := k) (List.getElem?_eq_getElem hlt)
      have hmem : es[k] ∈ es := List.getElem_mem hlt
      have l5 := H5.out _ hmem
      have hbt := Lib.hid (Tr.bulkAll_take es k hlt)
      have HCS := Lib.hid hcs
      have HC := Lib.hid hc
      have HM := Lib.hid hmem
      have HI : Hid ((Tryz.prog.info? 283).map (·.size) = some cs.length) := by rw [← hcs.length, l5]; exact isz283
      clear hcs hc hmem l5
      go_wp2_with (refine wpList_load_rep rfl 283 _ rfl b (off + k * 11) rfl cs _ Tryz.underlying283 HI.out HC.out ?_)
      refine (HH.out _ HM.out _ _ _ HCS.out hr0 (by omega)).mono ?_
      rintro e w1 ⟨r1, rfl, hw1, hr1, hr2, hr3⟩
      have HR3 := Lib.hid hr3
      have HW1 := Lib.hid hw1
      clear hr3 hw1
      go_wp2_with fail
      · go_ret
        exact ⟨-1, rfl, hw.trans HW1.out, by omega, by omega, by omega⟩
      · go_roundw
        case rel =>
          have p0 : 0 ≤ r1 := by assumption
          have e1 := HR3.out p0
          have e2 := hbt.out
          exact ⟨k + 1, r1, by omega, by go_num, rfl, hw.trans HW1.out, p0, by omega⟩
        case measure => simp [intOf]; omega
    · have hkl : k = es.length := by omega
      go_wp2_with fail
      go_ret
      refine ⟨r, rfl, hw, by omega, by omega, fun _ => ?_⟩
      rw [hkl, List.take_length] at hrb
      simp only [Tr.bulk]
      omega

set_option maxRecDepth 100000 in
set_option maxHeartbeats 1000000 in
theorem toMethodS_of (es : List (List Tr)) (h5 : ∀ e ∈ es, e.length = 11) (H : ∀ e ∈ es, ToC 238 e) : ToSC 223 11 es := by
  intro s w hs hbk
  obtain ⟨a, cap, rfl, hl, hm⟩ := hs.shape
  unfold maxLen at hm
  have HS := Lib.hid hs
  have HH := Lib.hid H
  have H5 := Lib.hid h5
  have n0 : (0 : Int) ≤ es.length := by omega
  clear hs H h5
  go_enter Tryz.func223, Tryz.ntmps223
  go_wp2_with (refine wpList_make_rep rfl 111 (.tmp 6) rfl es.length rfl 260 Tryz.underlying111 11 184 iszb260 (by omega) (by omega) ?_; intro wm arr0 ha0 hob0 hx0 hz0; have HA0 := Lib.hid ha0; have HOB0 := Lib.hid hob0; have HX0 := Lib.hid hx0; have HZ0 := Lib.hid hz0; clear ha0 hob0 hx0 hz0)
  go_loopw [4] (fun i wr => ∃ (k : Nat) (arr : Array Value), k ≤ es.length ∧ i = .int .i64 k ∧ Ext w wr ∧ w.heap.size < wr.heap.size ∧ OB wr w.heap.size 260 arr ∧ arr.size = es.length * 11 ∧ Part wr w.heap.size arr 11 es k) (fun i _ => es.length - (intOf i).toNat)
  case atStart => exact ⟨0, arr0, Nat.zero_le _, rfl, HX0.out, by rw [HZ0.out]; omega, HOB0.out, HA0.out, Part.zero _ _ _ _ _⟩
  case round =>
    obtain ⟨k, arr, hk, rfl, hw, hgt, hob, hasz, hpart⟩ := hrel
    have HOB := Lib.hid hob
    have HAS := Lib.hid hasz
    have HP := Lib.hid hpart
    clear hob hasz hpart
    by_cases hlt : k < es.length
    · obtain ⟨b, off, cs, rfl, hb, hcs, hc⟩ := (HS.out.ext hw).at2 (k := k) (List.getElem?_eq_getElem hlt)
      have hmem : es[k] ∈ es := List.getElem_mem hlt
      have l5 := H5.out _ hmem
      have hbe := Tr.bulkAll_le hlt
      have HCS := Lib.hid hcs
      have HC := Lib.hid hc
      have HM := Lib.hid hmem
      have HL5 := Lib.hid l5
      have HI : Hid ((Tryz.prog.info? 283).map (·.size) = some cs.length) := by rw [← hcs.length, l5]; exact isz283
      clear hcs hc hmem l5
      go_wp2_with (refine wpList_load_rep rfl 283 (.tmp 18) rfl b (off + k * 11) rfl cs _ Tryz.underlying283 HI.out HC.out ?_)
      refine (HH.out _ HM.out _ _ HCS.out (by omega)).mono ?_
      rintro e w1 ⟨cs1, rfl, hw1, ho1⟩
      have HW1 := Lib.hid hw1
      have HO1 := Lib.hid ho1
      have hcl : cs1.length = 11 := ho1.1.trans HL5.out
      have HCL := Lib.hid hcl
      have hfit : 0 + k * 11 + cs1.length ≤ arr.size := by have := HAS.out; omega
      have HF := Lib.hid hfit
      clear hw1 ho1 hcl hfit
      go_wp2_with (refine wpList_store_rep rfl 260 (.tmp 21) (.tmp 20) rfl w.heap.size (k * 11) rfl cs1 rfl 260 arr (HOB.out.ext HW1.out) (by rw [HCL.out]; exact isz260) (by have := HF.out; omega) (HO1.out.rep.one) ?_; intro w2 hob2 hg2 hz2; have HOB2 := Lib.hid hob2; have HG2 := Lib.hid hg2; have HZ2 := Lib.hid hz2; clear hob2 hg2 hz2)
      go_roundw
      case rel =>
        have hfit : k * 11 + cs1.length ≤ arr.size := by have := HF.out; omega
        refine ⟨k + 1, _, by omega, by go_num, ?_, ?_, HOB2.out, by rw [splice_size hfit]; exact HAS.out, HP.out.step hgt HW1.out (List.getElem?_eq_getElem hlt) HO1.out HCL.out HAS.out HG2.out HOB2.out⟩
        · exact grown_ext (hw.trans HW1.out) HG2.out (Nat.le_refl _)
        · have := HW1.out.size
          have := HZ2.out
          omega
      case measure => simp [intOf]; omega
    · have hkl : k = es.length := by omega
      go_wp2_with fail
      go_ret
      subst hkl
      exact ⟨_, rfl, hw, (HP.out.done HOB.out H5.out (Nat.le_refl _) (by unfold maxLen; omega) (Nat.le_refl _)).mono fun x hx => ⟨hx.1, hx.2⟩⟩

set_option maxRecDepth 100000 in
set_option maxHeartbeats 1000000 in
theorem eqMethodS_of (es : List (List Tr)) (h5 : ∀ e ∈ es, e.length = 11) (H : ∀ e ∈ es, EqC 243 e) : EqSC 227 11 es := by
  intro s u w hs hu
  obtain ⟨a, cap, rfl, hl, hm⟩ := hs.shape
  obtain ⟨a', cap', rfl, hl', hm'⟩ := hu.shape
  unfold maxLen at hm hm'
  have HS := Lib.hid hs
  have HU := Lib.hid hu
  have HH := Lib.hid H
  have H5 := Lib.hid h5
  clear hs hu H h5
  go_enter Tryz.func227, Tryz.ntmps227
  go_wp2_with fail
  go_loopw [5] (fun i wr => ∃ k : Nat, k ≤ es.length ∧ i = .int .i64 k ∧ Ext w wr) (fun i _ => es.length - (intOf i).toNat)
  case atStart => exact ⟨0, Nat.zero_le _, rfl, .refl _⟩
  case round =>
    obtain ⟨k, hk, rfl, hw⟩ := hrel
    by_cases hlt : k < es.length
    · obtain ⟨b, off, cs, rfl, hb, hcs, hc⟩ := (HS.out.ext hw).at2 (k := k) (List.getElem?_eq_getElem hlt)
      obtain ⟨b', off', ds, rfl, hb', hds, hd⟩ := (HU.out.ext hw).at2 (k := k) (List.getElem?_eq_getElem hlt)
      have hmem : es[k] ∈ es := List.getElem_mem hlt
      have l5 := H5.out _ hmem
      have HCS := Lib.hid hcs
      have HDS := Lib.hid hds
      have HM := Lib.hid hmem
      have HC := Lib.hid hc
      have HD := Lib.hid hd
      have HI : Hid ((Tryz.prog.info? 260).map (·.size) = some cs.length) := by rw [← hcs.length, l5]; exact isz260
      have HJ : Hid ((Tryz.prog.info? 260).map (·.size) = some ds.length) := by rw [← hds.length, l5]; exact isz260
      clear hcs hds hc hd l5 hmem
      go_wp2_with fail
      have ki : (k : Int) < (es.length : Int) := by omega
      have k0 : (0 : Int) ≤ (k : Int) := by omega
      refine wp_region_still_tail 8 (by kernel_rfl) (by kernel_rfl) ?_
      simp only [List.take_succ_cons, List.take_zero, List.drop_succ_cons, List.drop_zero]
      change wpStill _ _ wr.drew _ _ _
      repeat (first
        | (refine wpStill_load_rep rfl 260 (.tmp 19) rfl b (off + k * 11) rfl cs _ Tryz.underlying260 HI.out HC.out ?_; simp only [Act.put])
        | (refine wpStill_load_rep rfl 260 (.tmp 23) rfl b' (off' + k * 11) rfl ds _ Tryz.underlying260 HJ.out HD.out ?_; simp only [Act.put])
        | still_step)
      refine wpStill_nil ?_
      change wpList _ _ _ _ _ wr.drew
      go_wp2_with fail
      refine (HH.out _ HM.out _ _ _ (HCS.out.ext (.drew (.refl _))) (HDS.out.ext (.drew (.refl _)))).mono ?_
      rintro e w1 ⟨rfl, hw1⟩
      have HW1 := Lib.hid hw1
      clear hw1
      go_wp2_with fail
      go_roundw
      case rel => exact ⟨k + 1, by omega, by go_num, hw.trans (.trans (.drew (.refl _)) HW1.out)⟩
      case measure => simp [intOf]; omega
    · go_wp2_with fail
      go_ret
      exact ⟨rfl, hw⟩

end Go.Proofs.YtnakkelglbcecaaGreat

namespace Go.Proofs.YtnakkelglbcecaaGreat
open Go.RowKit Go.Proofs

set_option maxRecDepth 100000 in
set_option maxHeartbeats 1000000 in
theorem szBound_of (v0 : ByteArray) (ts1 : List Tr) (l1 : ts1.length = 3) (h1 : SzC 43 ts1) : SzC 21 ([.leaf (.string v0)] ++ (ts1 ++ ([]))) := by
  intro cs left w hr hl0 hl1
  obtain ⟨b0, r0, rfl, g0, n0⟩ := RepL.split hr
  obtain ⟨y0, rfl⟩ := list1 g0.length.symm
  obtain ⟨rfl, k0⟩ := g0.1.leaf_eq
  obtain ⟨b1, r1, rfl, g1, n1⟩ := RepL.split n0
  obtain ⟨x1_0, x1_1, x1_2, rfl⟩ := list3 (g1.length.symm.trans l1)
  obtain rfl := RepL.nil_eq n1
  clear hr
  have q0 : v0.size ≤ 9223372036854775807 := by have := k0; simp only [LeafOk, maxLen] at this; omega
  have G0 := Lib.hid g0
  have K0 := Lib.hid k0
  clear g0 n0 k0
  have G1 := Lib.hid g1
  clear g1 n1
  simp only [List.cons_append, List.nil_append]
  go_enter Tryz.func21, Tryz.ntmps21
  go_wp2_with fail
  · go_ret
    exact ⟨-1, rfl, (.alloc (.refl _) _), by omega, by omega, by omega⟩
  refine (h1 _ _ _ (G1.out.ext (.alloc (.refl _) _)) (by omega) (by omega)).mono ?_
  rintro e w1 ⟨r1, rfl, hw1, ra1, rb1, rc1⟩
  have HW1 := Lib.hid hw1
  have HR1 := Lib.hid rc1
  have ob1 := (OB.new w _ _).ext hw1
  have OBH := Lib.hid ob1
  have ce1 := ob1.cell
  clear hw1 rc1 ob1
  go_wp2_with fail
  · go_ret
    exact ⟨-1, rfl, (Ext.trans (.alloc (.refl _) _) HW1.out), by omega, by omega, by omega⟩
  go_ret
  refine ⟨_, rfl, (Ext.trans (.alloc (.refl _) _) HW1.out), by omega, by omega, fun hp => ?_⟩
  have e1 := HR1.out (by omega)
  simp only [Tr.bulkL_append, Tr.bulkL, Tr.bulk]
  omega

set_option maxRecDepth 100000 in
set_option maxHeartbeats 1000000 in
theorem toBound_of (v0 : ByteArray) (ts1 : List Tr) (l1 : ts1.length = 3) (h1 : ToC 45 ts1) : ToC 23 ([.leaf (.string v0)] ++ (ts1 ++ ([]))) := by
  intro cs w hr hbk
  simp only [Tr.bulkL_append, Tr.bulkL, Tr.bulk] at hbk
  obtain ⟨b0, r0, rfl, g0, n0⟩ := RepL.split hr
  obtain ⟨y0, rfl⟩ := list1 g0.length.symm
  obtain ⟨rfl, k0⟩ := g0.1.leaf_eq
  obtain ⟨b1, r1, rfl, g1, n1⟩ := RepL.split n0
  obtain ⟨x1_0, x1_1, x1_2, rfl⟩ := list3 (g1.length.symm.trans l1)
  obtain rfl := RepL.nil_eq n1
  clear hr
  have G0 := Lib.hid g0
  have K0 := Lib.hid k0
  clear g0 n0 k0
  have G1 := Lib.hid g1
  clear g1 n1
  simp only [List.cons_append, List.nil_append]
  go_enter Tryz.func23, Tryz.ntmps23
  go_wp2_with fail
  refine (h1 _ _ (G1.out.ext (.alloc (.alloc (.alloc (.refl _) _) _) _)) (by omega)).mono ?_
  rintro e w1 ⟨d1, rfl, hw1, ho1⟩
  obtain ⟨d1_0, d1_1, d1_2, rfl⟩ := list3 (ho1.1.trans l1)
  have HW1 := Lib.hid hw1
  have HO1 := Lib.hid ho1
  have ob1 := (Three.new w _ _ _ _ _ _).ext hw1
  have OBHw1 := Lib.hid ob1
  have cew1 := ob1.o0.cell
  have hzw1 : w.heap.size < w1.heap.size := ob1.o0.lt
  clear hw1 ob1 ho1
  have hone : Hid (∀ v ∈ ([.string v0, d1_0, d1_1, d1_2] : List Value), v.oneCell' = true) := by
    intro v hv
    simp only [List.mem_cons, List.not_mem_nil, or_false] at hv
    rcases hv with rfl | rfl | rfl | rfl <;> first | rfl | (refine HO1.out.rep.one _ ?_; simp; done)
  go_wp2_with (first
    | (refine wpList_store_rep rfl 47 _ _ rfl (w.heap.size + 1 + 1) 1 rfl [d1_0, d1_1, d1_2] rfl 49 _ OBHw1.out.o2 isz47 (by simp [splice]) HO1.out.rep.one ?_; intro u1 hou1 hgu1 hzu1; have OBHu1 := Lib.hid (OBHw1.out.grown hgu1 hou1 (by omega) (by omega)); have HGu1 := Lib.hid hgu1; have ceu1 := OBHu1.out.o0.cell; have hqu1 : w.heap.size < u1.heap.size := OBHu1.out.o0.lt; clear hou1 hgu1 hzu1 OBHw1 cew1)
    | (refine wpList_load_rep rfl 49 _ rfl (w.heap.size + 1 + 1) 0 rfl [.string v0, d1_0, d1_1, d1_2] _ Tryz.underlying49 isz49 (fun j v hv => by rw [OBHu1.out.o2.cell, Nat.zero_add]; simpa [splice] using hv) ?_)
    | (refine wpList_store_rep rfl 49 _ _ rfl (w.heap.size + 1) 0 rfl [.string v0, d1_0, d1_1, d1_2] rfl 49 _ OBHu1.out.o1 isz49 (by simp) hone.out ?_; intro wz hoz hgz hzz; have HOZ := Lib.hid hoz; have HGZ := Lib.hid hgz; clear hoz hgz hzz))
  have HOF : OB wz (w.heap.size + 1) 49 ⟨[.string v0, d1_0, d1_1, d1_2]⟩ := HOZ.out
  refine bodyPost_ret (results_cell_row Tryz.results23 _ _ (w.heap.size + 1) 49 ⟨[.string v0, d1_0, d1_1, d1_2]⟩ _ _ rfl HOF Tryz.underlying49 rfl isz49) rfl ⟨[.string v0, d1_0, d1_1, d1_2], rfl, (grown_ext (grown_ext (Ext.trans (.alloc (.alloc (.alloc (.refl _) _) _) _) HW1.out) HGu1.out (by omega)) HGZ.out (by omega)), ?_⟩
  have sw1 := HW1.out.size
  have su1 := HGu1.out.size
  have swz := HGZ.out.size
  simp only [World.size_alloc] at sw1
  have ow1 := HO1.out.keeps (lo := w.heap.size + 1 + 1 + 1) (Keeps.trans (Keeps.of_grown HGu1.out (by omega)) (Keeps.of_grown HGZ.out (by omega))) (by intro x hx; simp only [Between, World.size_alloc] at hx; omega)
  have hall := OwnL.cons_leaf K0.out (OwnL.append (ow1) (OwnL.nil wz (fun _ => False)) (by intro x hx hy; simp only [Between, World.size_alloc, or_false] at hx hy <;> omega))
  exact hall.mono (by intro x hx; simp only [Between, World.size_alloc, or_false] at hx ⊢; omega)

set_option maxRecDepth 100000 in
set_option maxHeartbeats 1000000 in
theorem eqBound_of (v0 : ByteArray) (ts1 : List Tr) (l1 : ts1.length = 3) (h1 : EqC 47 ts1) : EqC 26 ([.leaf (.string v0)] ++ (ts1 ++ ([]))) := by
  intro cs ds w hr hr'
  obtain ⟨b0, r0, rfl, g0, n0⟩ := RepL.split hr
  obtain ⟨y0, rfl⟩ := list1 g0.length.symm
  obtain ⟨rfl, k0⟩ := g0.1.leaf_eq
  obtain ⟨b1, r1, rfl, g1, n1⟩ := RepL.split n0
  obtain ⟨x1_0, x1_1, x1_2, rfl⟩ := list3 (g1.length.symm.trans l1)
  obtain rfl := RepL.nil_eq n1
  clear hr
  obtain ⟨zb0, zr0, rfl, zg0, zn0⟩ := RepL.split hr'
  obtain ⟨zy0, rfl⟩ := list1 zg0.length.symm
  obtain ⟨rfl, zk0⟩ := zg0.1.leaf_eq
  obtain ⟨zb1, zr1, rfl, zg1, zn1⟩ := RepL.split zn0
  obtain ⟨zx1_0, zx1_1, zx1_2, rfl⟩ := list3 (zg1.length.symm.trans l1)
  obtain rfl := RepL.nil_eq zn1
  clear hr'
  have G0 := Lib.hid g0
  have K0 := Lib.hid k0
  clear g0 n0 k0
  have G1 := Lib.hid g1
  clear g1 n1
  have zG0 := Lib.hid zg0
  have zK0 := Lib.hid zk0
  clear zg0 zn0 zk0
  have zG1 := Lib.hid zg1
  clear zg1 zn1
  simp only [List.cons_append, List.nil_append]
  go_enter Tryz.func26, Tryz.ntmps26
  go_wp2_with fail
  refine (h1 _ _ _ (G1.out.ext (.alloc (.alloc (.refl _) _) _)) (zG1.out.ext (.alloc (.alloc (.refl _) _) _))).mono ?_
  rintro e w1 ⟨rfl, hw1⟩
  have HW1 := Lib.hid hw1
  have ob1 := (Two.new w _ _ _ _).ext hw1
  have OBH := Lib.hid ob1
  have ce1 := ob1.o0.cell
  have cf1 := ob1.o1.cell
  clear hw1 ob1
  go_wp2_with fail
  go_ret
  exact ⟨rfl, (Ext.trans (.alloc (.alloc (.refl _) _) _) HW1.out)⟩

set_option maxRecDepth 100000 in
set_option maxHeartbeats 1000000 in
theorem szBoundS_of (es : List (List Tr)) (h5 : ∀ e ∈ es, e.length = 4) (H : ∀ e ∈ es, SzC 21 e) : SzSC 50 4 es := by
  intro s left w hs h0 h1
  obtain ⟨a, cap, rfl, hl, hm⟩ := hs.shape
  unfold maxLen at hm
  have HS := Lib.hid hs
  have HH := Lib.hid H
  have H5 := Lib.hid h5
  clear hs H h5
  go_enter Tryz.func50, Tryz.ntmps50
  go_wp2_with fail
  · go_ret
    exact ⟨-1, rfl, .refl _, by omega, by omega, by omega⟩
  go_loopw [1, 5] (fun l i wr => ∃ (k : Nat) (r : Int), k ≤ es.length ∧ i = .int .i64 k ∧ l = .int .i64 r ∧ Ext w wr ∧ 0 ≤ r ∧ r + es.length + Tr.bulkAll (es.take k) ≤ left) (fun _ i _ => es.length - (intOf i).toNat)
  case atStart => exact ⟨0, _, Nat.zero_le _, rfl, rfl, .refl _, by omega, by simp [Tr.bulkAll]⟩
  case round =>
    obtain ⟨k, r, hk, rfl, rfl, hw, hr0, hrb⟩ := hrel
    by_cases hlt : k < es.length
    · obtain ⟨b, off, cs, rfl, hb, hcs, hc⟩ := (HS.out.ext hw).at2 (k := k) (List.getElem?_eq_getElem hlt)
      have hmem : es[k] ∈ es := List.getElem_mem hlt
      have l5 := H5.out _ hmem
      have hbt := Lib.hid (Tr.bulkAll_take es k hlt)
      have HCS := Lib.hid hcs
      have HC := Lib.hid hc
      have HM := Lib.hid hmem
      have HI : Hid ((Tryz.prog.info? 41).map (·.size) = some cs.length) := by rw [← hcs.length, l5]; exact isz41
      clear hcs hc hmem l5
      go_wp2_with (refine wpList_load_rep rfl 41 _ rfl b (off + k * 4) rfl cs _ Tryz.underlying41 HI.out HC.out ?_)
      refine (HH.out _ HM.out _ _ _ HCS.out hr0 (by omega)).mono ?_
      rintro e w1 ⟨r1, rfl, hw1, hr1, hr2, hr3⟩
      have HR3 := Lib.hid hr3
      have HW1 := Lib.hid hw1
      clear hr3 hw1
      go_wp2_with fail
      · go_ret
        exact ⟨-1, rfl, hw.trans HW1.out, by omega, by omega, by omega⟩
      · go_roundw
        case rel =>
          have p0 : 0 ≤ r1 := by assumption
          have e1 := HR3.out p0
          have e2 := hbt.out
          exact ⟨k + 1, r1, by omega, by go_num, rfl, hw.trans HW1.out, p0, by omega⟩
        case measure => simp [intOf]; omega
    · have hkl : k = es.length := by omega
      go_wp2_with fail
      go_ret
      refine ⟨r, rfl, hw, by omega, by omega, fun _ => ?_⟩
      rw [hkl, List.take_length] at hrb
      simp only [Tr.bulk]
      omega

set_option maxRecDepth 100000 in
set_option maxHeartbeats 1000000 in
theorem toBoundS_of (es : List (List Tr)) (h5 : ∀ e ∈ es, e.length = 4) (H : ∀ e ∈ es, ToC 23 e) : ToSC 52 4 es := by
  intro s w hs hbk
  obtain ⟨a, cap, rfl, hl, hm⟩ := hs.shape
  unfold maxLen at hm
  have HS := Lib.hid hs
  have HH := Lib.hid H
  have H5 := Lib.hid h5
  have n0 : (0 : Int) ≤ es.length := by omega
  clear hs H h5
  go_enter Tryz.func52, Tryz.ntmps52
  go_wp2_with (refine wpList_make_rep rfl 82 (.tmp 6) rfl es.length rfl 49 Tryz.underlying82 4 64 iszb49 (by omega) (by omega) ?_; intro wm arr0 ha0 hob0 hx0 hz0; have HA0 := Lib.hid ha0; have HOB0 := Lib.hid hob0; have HX0 := Lib.hid hx0; have HZ0 := Lib.hid hz0; clear ha0 hob0 hx0 hz0)
  go_loopw [4] (fun i wr => ∃ (k : Nat) (arr : Array Value), k ≤ es.length ∧ i = .int .i64 k ∧ Ext w wr ∧ w.heap.size < wr.heap.size ∧ OB wr w.heap.size 49 arr ∧ arr.size = es.length * 4 ∧ Part wr w.heap.size arr 4 es k) (fun i _ => es.length - (intOf i).toNat)
  case atStart => exact ⟨0, arr0, Nat.zero_le _, rfl, HX0.out, by rw [HZ0.out]; omega, HOB0.out, HA0.out, Part.zero _ _ _ _ _⟩
  case round =>
    obtain ⟨k, arr, hk, rfl, hw, hgt, hob, hasz, hpart⟩ := hrel
    have HOB := Lib.hid hob
    have HAS := Lib.hid hasz
    have HP := Lib.hid hpart
    clear hob hasz hpart
    by_cases hlt : k < es.length
    · obtain ⟨b, off, cs, rfl, hb, hcs, hc⟩ := (HS.out.ext hw).at2 (k := k) (List.getElem?_eq_getElem hlt)
      have hmem : es[k] ∈ es := List.getElem_mem hlt
      have l5 := H5.out _ hmem
      have hbe := Tr.bulkAll_le hlt
      have HCS := Lib.hid hcs
      have HC := Lib.hid hc
      have HM := Lib.hid hmem
      have HL5 := Lib.hid l5
      have HI : Hid ((Tryz.prog.info? 41).map (·.size) = some cs.length) := by rw [← hcs.length, l5]; exact isz41
      clear hcs hc hmem l5
      go_wp2_with (refine wpList_load_rep rfl 41 (.tmp 18) rfl b (off + k * 4) rfl cs _ Tryz.underlying41 HI.out HC.out ?_)
      refine (HH.out _ HM.out _ _ HCS.out (by omega)).mono ?_
      rintro e w1 ⟨cs1, rfl, hw1, ho1⟩
      have HW1 := Lib.hid hw1
      have HO1 := Lib.hid ho1
      have hcl : cs1.length = 4 := ho1.1.trans HL5.out
      have HCL := Lib.hid hcl
      have hfit : 0 + k * 4 + cs1.length ≤ arr.size := by have := HAS.out; omega
      have HF := Lib.hid hfit
      clear hw1 ho1 hcl hfit
      go_wp2_with (refine wpList_store_rep rfl 49 (.tmp 21) (.tmp 20) rfl w.heap.size (k * 4) rfl cs1 rfl 49 arr (HOB.out.ext HW1.out) (by rw [HCL.out]; exact isz49) (by have := HF.out; omega) (HO1.out.rep.one) ?_; intro w2 hob2 hg2 hz2; have HOB2 := Lib.hid hob2; have HG2 := Lib.hid hg2; have HZ2 := Lib.hid hz2; clear hob2 hg2 hz2)
      go_roundw
      case rel =>
        have hfit : k * 4 + cs1.length ≤ arr.size := by have := HF.out; omega
        refine ⟨k + 1, _, by omega, by go_num, ?_, ?_, HOB2.out, by rw [splice_size hfit]; exact HAS.out, HP.out.step hgt HW1.out (List.getElem?_eq_getElem hlt) HO1.out HCL.out HAS.out HG2.out HOB2.out⟩
        · exact grown_ext (hw.trans HW1.out) HG2.out (Nat.le_refl _)
        · have := HW1.out.size
          have := HZ2.out
          omega
      case measure => simp [intOf]; omega
    · have hkl : k = es.length := by omega
      go_wp2_with fail
      go_ret
      subst hkl
      exact ⟨_, rfl, hw, (HP.out.done HOB.out H5.out (Nat.le_refl _) (by unfold maxLen; omega) (Nat.le_refl _)).mono fun x hx => ⟨hx.1, hx.2⟩⟩

set_option maxRecDepth 100000 in
set_option maxHeartbeats 1000000 in
theorem eqBoundS_of (es : List (List Tr)) (h5 : ∀ e ∈ es, e.length = 4) (H : ∀ e ∈ es, EqC 26 e) : EqSC 55 4 es := by
  intro s u w hs hu
  obtain ⟨a, cap, rfl, hl, hm⟩ := hs.shape
  obtain ⟨a', cap', rfl, hl', hm'⟩ := hu.shape
  unfold maxLen at hm hm'
  have HS := Lib.hid hs
  have HU := Lib.hid hu
  have HH := Lib.hid H
  have H5 := Lib.hid h5
  clear hs hu H h5
  go_enter Tryz.func55, Tryz.ntmps55
  go_wp2_with fail
  go_loopw [5] (fun i wr => ∃ k : Nat, k ≤ es.length ∧ i = .int .i64 k ∧ Ext w wr) (fun i _ => es.length - (intOf i).toNat)
  case atStart => exact ⟨0, Nat.zero_le _, rfl, .refl _⟩
  case round =>
    obtain ⟨k, hk, rfl, hw⟩ := hrel
    by_cases hlt : k < es.length
    · obtain ⟨b, off, cs, rfl, hb, hcs, hc⟩ := (HS.out.ext hw).at2 (k := k) (List.getElem?_eq_getElem hlt)
      obtain ⟨b', off', ds, rfl, hb', hds, hd⟩ := (HU.out.ext hw).at2 (k := k) (List.getElem?_eq_getElem hlt)
      have hmem : es[k] ∈ es := List.getElem_mem hlt
      have l5 := H5.out _ hmem
      have HCS := Lib.hid hcs
      have HDS := Lib.hid hds
      have HM := Lib.hid hmem
      have HC := Lib.hid hc
      have HD := Lib.hid hd
      have HI : Hid ((Tryz.prog.info? 49).map (·.size) = some cs.length) := by rw [← hcs.length, l5]; exact isz49
      have HJ : Hid ((Tryz.prog.info? 49).map (·.size) = some ds.length) := by rw [← hds.length, l5]; exact isz49
      clear hcs hds hc hd l5 hmem
      go_wp2_with fail
      have ki : (k : Int) < (es.length : Int) := by omega
      have k0 : (0 : Int) ≤ (k : Int) := by omega
      refine wp_region_still_tail 8 (by kernel_rfl) (by kernel_rfl) ?_
      simp only [List.take_succ_cons, List.take_zero, List.drop_succ_cons, List.drop_zero]
      change wpStill _ _ wr.drew _ _ _
      repeat (first
        | (refine wpStill_load_rep rfl 49 (.tmp 19) rfl b (off + k * 4) rfl cs _ Tryz.underlying49 HI.out HC.out ?_; simp only [Act.put])
        | (refine wpStill_load_rep rfl 49 (.tmp 23) rfl b' (off' + k * 4) rfl ds _ Tryz.underlying49 HJ.out HD.out ?_; simp only [Act.put])
        | still_step)
      refine wpStill_nil ?_
      change wpList _ _ _ _ _ wr.drew
      go_wp2_with fail
      refine (HH.out _ HM.out _ _ _ (HCS.out.ext (.drew (.refl _))) (HDS.out.ext (.drew (.refl _)))).mono ?_
      rintro e w1 ⟨rfl, hw1⟩
      have HW1 := Lib.hid hw1
      clear hw1
      go_wp2_with fail
      go_roundw
      case rel => exact ⟨k + 1, by omega, by go_num, hw.trans (.trans (.drew (.refl _)) HW1.out)⟩
      case measure => simp [intOf]; omega
    · go_wp2_with fail
      go_ret
      exact ⟨rfl, hw⟩

end Go.Proofs.YtnakkelglbcecaaGreat

namespace Go.Proofs.YtnakkelglbcecaaGreat
open Go.RowKit Go.Proofs

set_option maxRecDepth 100000 in
set_option maxHeartbeats 1000000 in
theorem szInstance_of (v0 : ByteArray) (es1 : List (List Tr)) (ts2 : List Tr) (l2 : ts2.length = 3) (es3 : List (List Tr)) (v4 : Bool) (v5 : Bool) (ts6 : List Tr) (l6 : ts6.length = 3) (es7 : List (List Tr)) (h1 : SzSC 178 1 es1) (h2 : SzC 43 ts2) (h3 : SzSC 50 4 es3) (h6 : SzC 43 ts6) (h7 : SzSC 218 11 es7) : SzC 205 ([.leaf (.string v0)] ++ ([.row 1 es1] ++ (ts2 ++ ([.row 4 es3] ++ ([.leaf (.bool v4)] ++ ([.leaf (.bool v5)] ++ (ts6 ++ ([.row 11 es7] ++ ([]))))))))) := by
  intro cs left w hr hl0 hl1
  obtain ⟨b0, r0, rfl, g0, n0⟩ := RepL.split hr
  obtain ⟨y0, rfl⟩ := list1 g0.length.symm
  obtain ⟨rfl, k0⟩ := g0.1.leaf_eq
  obtain ⟨b1, r1, rfl, g1, n1⟩ := RepL.split n0
  obtain ⟨y1, rfl⟩ := list1 g1.length.symm
  obtain ⟨a1, c1, rfl, -, -⟩ := g1.1.shape
  obtain ⟨b2, r2, rfl, g2, n2⟩ := RepL.split n1
  obtain ⟨x2_0, x2_1, x2_2, rfl⟩ := list3 (g2.length.symm.trans l2)
  obtain ⟨b3, r3, rfl, g3, n3⟩ := RepL.split n2
  obtain ⟨y3, rfl⟩ := list1 g3.length.symm
  obtain ⟨a3, c3, rfl, -, -⟩ := g3.1.shape
  obtain ⟨b4, r4, rfl, g4, n4⟩ := RepL.split n3
  obtain ⟨y4, rfl⟩ := list1 g4.length.symm
  obtain ⟨rfl, k4⟩ := g4.1.leaf_eq
  obtain ⟨b5, r5, rfl, g5, n5⟩ := RepL.split n4
  obtain ⟨y5, rfl⟩ := list1 g5.length.symm
  obtain ⟨rfl, k5⟩ := g5.1.leaf_eq
  obtain ⟨b6, r6, rfl, g6, n6⟩ := RepL.split n5
  obtain ⟨x6_0, x6_1, x6_2, rfl⟩ := list3 (g6.length.symm.trans l6)
  obtain ⟨b7, r7, rfl, g7, n7⟩ := RepL.split n6
  obtain ⟨y7, rfl⟩ := list1 g7.length.symm
  obtain ⟨a7, c7, rfl, -, -⟩ := g7.1.shape
  obtain rfl := RepL.nil_eq n7
  clear hr
  have q0 : v0.size ≤ 9223372036854775807 := by have := k0; simp only [LeafOk, maxLen] at this; omega
  have G0 := Lib.hid g0
  have K0 := Lib.hid k0
  clear g0 n0 k0
  have G1 := Lib.hid g1
  clear g1 n1
  have G2 := Lib.hid g2
  clear g2 n2
  have G3 := Lib.hid g3
  clear g3 n3
  have G4 := Lib.hid g4
  have K4 := Lib.hid k4
  clear g4 n4 k4
  have G5 := Lib.hid g5
  have K5 := Lib.hid k5
  clear g5 n5 k5
  have G6 := Lib.hid g6
  clear g6 n6
  have G7 := Lib.hid g7
  clear g7 n7
  simp only [List.cons_append, List.nil_append]
  go_enter Tryz.func205, Tryz.ntmps205
  go_wp2_with fail
  · go_ret
    exact ⟨-1, rfl, (.alloc (.refl _) _), by omega, by omega, by omega⟩
  refine (h1 _ _ _ (G1.out.1.ext (.alloc (.refl _) _)) (by omega) (by omega)).mono ?_
  rintro e w1 ⟨r1, rfl, hw1, ra1, rb1, rc1⟩
  have HW1 := Lib.hid hw1
  have HR1 := Lib.hid rc1
  have ob1 := (OB.new w _ _).ext hw1
  have OBH := Lib.hid ob1
  have ce1 := ob1.cell
  clear hw1 rc1 ob1
  go_wp2_with fail
  · go_ret
    exact ⟨-1, rfl, (Ext.trans (.alloc (.refl _) _) HW1.out), by omega, by omega, by omega⟩
  refine (h2 _ _ _ (G2.out.ext (Ext.trans (.alloc (.refl _) _) HW1.out)) (by omega) (by omega)).mono ?_
  rintro e w2 ⟨r2, rfl, hw2, ra2, rb2, rc2⟩
  have HW2 := Lib.hid hw2
  have HR2 := Lib.hid rc2
  have ob2 := OBH.out.ext hw2
  clear OBH ce1
  have OBH := Lib.hid ob2
  have ce2 := ob2.cell
  clear hw2 rc2 ob2
  go_wp2_with fail
  · go_ret
    exact ⟨-1, rfl, (Ext.trans (Ext.trans (.alloc (.refl _) _) HW1.out) HW2.out), by omega, by omega, by omega⟩
  refine (h3 _ _ _ (G3.out.1.ext (Ext.trans (Ext.trans (.alloc (.refl _) _) HW1.out) HW2.out)) (by omega) (by omega)).mono ?_
  rintro e w3 ⟨r3, rfl, hw3, ra3, rb3, rc3⟩
  have HW3 := Lib.hid hw3
  have HR3 := Lib.hid rc3
  have ob3 := OBH.out.ext hw3
  clear OBH ce2
  have OBH := Lib.hid ob3
  have ce3 := ob3.cell
  clear hw3 rc3 ob3
  go_wp2_with fail
  · go_ret
    exact ⟨-1, rfl, (Ext.trans (Ext.trans (Ext.trans (.alloc (.refl _) _) HW1.out) HW2.out) HW3.out), by omega, by omega, by omega⟩
  refine (h6 _ _ _ (G6.out.ext (Ext.trans (Ext.trans (Ext.trans (.alloc (.refl _) _) HW1.out) HW2.out) HW3.out)) (by omega) (by omega)).mono ?_
  rintro e w6 ⟨r6, rfl, hw6, ra6, rb6, rc6⟩
  have HW6 := Lib.hid hw6
  have HR6 := Lib.hid rc6
  have ob6 := OBH.out.ext hw6
  clear OBH ce3
  have OBH := Lib.hid ob6
  have ce6 := ob6.cell
  clear hw6 rc6 ob6
  go_wp2_with fail
  · go_ret
    exact ⟨-1, rfl, (Ext.trans (Ext.trans (Ext.trans (Ext.trans (.alloc (.refl _) _) HW1.out) HW2.out) HW3.out) HW6.out), by omega, by omega, by omega⟩
  refine (h7 _ _ _ (G7.out.1.ext (Ext.trans (Ext.trans (Ext.trans (Ext.trans (.alloc (.refl _) _) HW1.out) HW2.out) HW3.out) HW6.out)) (by omega) (by omega)).mono ?_
  rintro e w7 ⟨r7, rfl, hw7, ra7, rb7, rc7⟩
  have HW7 := Lib.hid hw7
  have HR7 := Lib.hid rc7
  have ob7 := OBH.out.ext hw7
  clear OBH ce6
  have OBH := Lib.hid ob7
  have ce7 := ob7.cell
  clear hw7 rc7 ob7
  go_wp2_with fail
  · go_ret
    exact ⟨-1, rfl, (Ext.trans (Ext.trans (Ext.trans (Ext.trans (Ext.trans (.alloc (.refl _) _) HW1.out) HW2.out) HW3.out) HW6.out) HW7.out), by omega, by omega, by omega⟩
  go_ret
  refine ⟨_, rfl, (Ext.trans (Ext.trans (Ext.trans (Ext.trans (Ext.trans (.alloc (.refl _) _) HW1.out) HW2.out) HW3.out) HW6.out) HW7.out), by omega, by omega, fun hp => ?_⟩
  have e1 := HR1.out (by omega)
  have e2 := HR2.out (by omega)
  have e3 := HR3.out (by omega)
  have e6 := HR6.out (by omega)
  have e7 := HR7.out (by omega)
  simp only [Tr.bulkL_append, Tr.bulkL, Tr.bulk]
  simp only [Tr.bulk] at e1 e3 e7
  omega

set_option maxRecDepth 100000 in
set_option maxHeartbeats 1000000 in
theorem toInstance_of (v0 : ByteArray) (es1 : List (List Tr)) (ts2 : List Tr) (l2 : ts2.length = 3) (es3 : List (List Tr)) (v4 : Bool) (v5 : Bool) (ts6 : List Tr) (l6 : ts6.length = 3) (es7 : List (List Tr)) (h1 : ToSC 183 1 es1) (h2 : ToC 45 ts2) (h3 : ToSC 52 4 es3) (h6 : ToC 45 ts6) (h7 : ToSC 223 11 es7) : ToC 209 ([.leaf (.string v0)] ++ ([.row 1 es1] ++ (ts2 ++ ([.row 4 es3] ++ ([.leaf (.bool v4)] ++ ([.leaf (.bool v5)] ++ (ts6 ++ ([.row 11 es7] ++ ([]))))))))) := by
  intro cs w hr hbk
  simp only [Tr.bulkL_append, Tr.bulkL, Tr.bulk] at hbk
  obtain ⟨b0, r0, rfl, g0, n0⟩ := RepL.split hr
  obtain ⟨y0, rfl⟩ := list1 g0.length.symm
  obtain ⟨rfl, k0⟩ := g0.1.leaf_eq
  obtain ⟨b1, r1, rfl, g1, n1⟩ := RepL.split n0
  obtain ⟨y1, rfl⟩ := list1 g1.length.symm
  obtain ⟨a1, c1, rfl, -, -⟩ := g1.1.shape
  obtain ⟨b2, r2, rfl, g2, n2⟩ := RepL.split n1
  obtain ⟨x2_0, x2_1, x2_2, rfl⟩ := list3 (g2.length.symm.trans l2)
  obtain ⟨b3, r3, rfl, g3, n3⟩ := RepL.split n2
  obtain ⟨y3, rfl⟩ := list1 g3.length.symm
  obtain ⟨a3, c3, rfl, -, -⟩ := g3.1.shape
  obtain ⟨b4, r4, rfl, g4, n4⟩ := RepL.split n3
  obtain ⟨y4, rfl⟩ := list1 g4.length.symm
  obtain ⟨rfl, k4⟩ := g4.1.leaf_eq
  obtain ⟨b5, r5, rfl, g5, n5⟩ := RepL.split n4
  obtain ⟨y5, rfl⟩ := list1 g5.length.symm
  obtain ⟨rfl, k5⟩ := g5.1.leaf_eq
  obtain ⟨b6, r6, rfl, g6, n6⟩ := RepL.split n5
  obtain ⟨x6_0, x6_1, x6_2, rfl⟩ := list3 (g6.length.symm.trans l6)
  obtain ⟨b7, r7, rfl, g7, n7⟩ := RepL.split n6
  obtain ⟨y7, rfl⟩ := list1 g7.length.symm
  obtain ⟨a7, c7, rfl, -, -⟩ := g7.1.shape
  obtain rfl := RepL.nil_eq n7
  clear hr
  have G0 := Lib.hid g0
  have K0 := Lib.hid k0
  clear g0 n0 k0
  have G1 := Lib.hid g1
  clear g1 n1
  have G2 := Lib.hid g2
  clear g2 n2
  have G3 := Lib.hid g3
  clear g3 n3
  have G4 := Lib.hid g4
  have K4 := Lib.hid k4
  clear g4 n4 k4
  have G5 := Lib.hid g5
  have K5 := Lib.hid k5
  clear g5 n5 k5
  have G6 := Lib.hid g6
  clear g6 n6
  have G7 := Lib.hid g7
  clear g7 n7
  simp only [List.cons_append, List.nil_append]
  go_enter Tryz.func209, Tryz.ntmps209
  go_wp2_with fail
  refine (h1 _ _ (G1.out.1.ext (.alloc (.alloc (.alloc (.refl _) _) _) _)) (by omega)).mono ?_
  rintro e w1 ⟨d1, rfl, hw1, ho1⟩
  obtain ⟨da1, dc1, rfl, -, -⟩ := ho1.rep.shape
  have HW1 := Lib.hid hw1
  have HO1 := Lib.hid ho1
  have ob1 := (Three.new w _ _ _ _ _ _).ext hw1
  have OBHw1 := Lib.hid ob1
  have cew1 := ob1.o0.cell
  have hzw1 : w.heap.size < w1.heap.size := ob1.o0.lt
  clear hw1 ob1 ho1
  go_wp2_with (first
    | (refine wpList_store_cell rfl 54 _ _ rfl (w.heap.size + 1 + 1) 1 rfl (.slice da1 es1.length dc1) rfl rfl 113 _ OBHw1.out.o2 isz54 (by simp [splice]) rfl ?_; intro u1 hou1 hgu1 hzu1; have OBHu1 := Lib.hid (OBHw1.out.grown hgu1 hou1 (by omega) (by omega)); have HGu1 := Lib.hid hgu1; have ceu1 := OBHu1.out.o0.cell; have hqu1 : w.heap.size < u1.heap.size := OBHu1.out.o0.lt; clear hou1 hgu1 hzu1 OBHw1 cew1))
  refine (h2 _ _ (G2.out.ext (grown_ext (Ext.trans (.alloc (.alloc (.alloc (.refl _) _) _) _) HW1.out) HGu1.out (by omega))) (by omega)).mono ?_
  rintro e w2 ⟨d2, rfl, hw2, ho2⟩
  obtain ⟨d2_0, d2_1, d2_2, rfl⟩ := list3 (ho2.1.trans l2)
  have HW2 := Lib.hid hw2
  have HO2 := Lib.hid ho2
  have ob2 := OBHu1.out.ext hw2
  clear OBHu1 ceu1
  have OBHw2 := Lib.hid ob2
  have cew2 := ob2.o0.cell
  have hzw2 : w.heap.size < w2.heap.size := ob2.o0.lt
  clear hw2 ob2 ho2
  go_wp2_with (first
    | (refine wpList_store_rep rfl 47 _ _ rfl (w.heap.size + 1 + 1) 2 rfl [d2_0, d2_1, d2_2] rfl 113 _ OBHw2.out.o2 isz47 (by simp [splice]) HO2.out.rep.one ?_; intro u2 hou2 hgu2 hzu2; have OBHu2 := Lib.hid (OBHw2.out.grown hgu2 hou2 (by omega) (by omega)); have HGu2 := Lib.hid hgu2; have ceu2 := OBHu2.out.o0.cell; have hqu2 : w.heap.size < u2.heap.size := OBHu2.out.o0.lt; clear hou2 hgu2 hzu2 OBHw2 cew2))
  refine (h3 _ _ (G3.out.1.ext (grown_ext (Ext.trans (grown_ext (Ext.trans (.alloc (.alloc (.alloc (.refl _) _) _) _) HW1.out) HGu1.out (by omega)) HW2.out) HGu2.out (by omega))) (by omega)).mono ?_
  rintro e w3 ⟨d3, rfl, hw3, ho3⟩
  obtain ⟨da3, dc3, rfl, -, -⟩ := ho3.rep.shape
  have HW3 := Lib.hid hw3
  have HO3 := Lib.hid ho3
  have ob3 := OBHu2.out.ext hw3
  clear OBHu2 ceu2
  have OBHw3 := Lib.hid ob3
  have cew3 := ob3.o0.cell
  have hzw3 : w.heap.size < w3.heap.size := ob3.o0.lt
  clear hw3 ob3 ho3
  go_wp2_with (first
    | (refine wpList_store_cell rfl 82 _ _ rfl (w.heap.size + 1 + 1) 5 rfl (.slice da3 es3.length dc3) rfl rfl 113 _ OBHw3.out.o2 isz82 (by simp [splice]) rfl ?_; intro u3 hou3 hgu3 hzu3; have OBHu3 := Lib.hid (OBHw3.out.grown hgu3 hou3 (by omega) (by omega)); have HGu3 := Lib.hid hgu3; have ceu3 := OBHu3.out.o0.cell; have hqu3 : w.heap.size < u3.heap.size := OBHu3.out.o0.lt; clear hou3 hgu3 hzu3 OBHw3 cew3)
    | (refine wpList_store_cell rfl 4 _ _ rfl (w.heap.size + 1 + 1) 6 rfl (.bool v4) rfl rfl 113 _ OBHu3.out.o2 isz4 (by simp [splice]) rfl ?_; intro u4 hou4 hgu4 hzu4; have OBHu4 := Lib.hid (OBHu3.out.grown hgu4 hou4 (by omega) (by omega)); have HGu4 := Lib.hid hgu4; have ceu4 := OBHu4.out.o0.cell; have hqu4 : w.heap.size < u4.heap.size := OBHu4.out.o0.lt; clear hou4 hgu4 hzu4 OBHu3 ceu3)
    | (refine wpList_store_cell rfl 4 _ _ rfl (w.heap.size + 1 + 1) 7 rfl (.bool v5) rfl rfl 113 _ OBHu4.out.o2 isz4 (by simp [splice]) rfl ?_; intro u5 hou5 hgu5 hzu5; have OBHu5 := Lib.hid (OBHu4.out.grown hgu5 hou5 (by omega) (by omega)); have HGu5 := Lib.hid hgu5; have ceu5 := OBHu5.out.o0.cell; have hqu5 : w.heap.size < u5.heap.size := OBHu5.out.o0.lt; clear hou5 hgu5 hzu5 OBHu4 ceu4))
  refine (h6 _ _ (G6.out.ext (grown_ext (grown_ext (grown_ext (Ext.trans (grown_ext (Ext.trans (grown_ext (Ext.trans (.alloc (.alloc (.alloc (.refl _) _) _) _) HW1.out) HGu1.out (by omega)) HW2.out) HGu2.out (by omega)) HW3.out) HGu3.out (by omega)) HGu4.out (by omega)) HGu5.out (by omega))) (by omega)).mono ?_
  rintro e w6 ⟨d6, rfl, hw6, ho6⟩
  obtain ⟨d6_0, d6_1, d6_2, rfl⟩ := list3 (ho6.1.trans l6)
  have HW6 := Lib.hid hw6
  have HO6 := Lib.hid ho6
  have ob6 := OBHu5.out.ext hw6
  clear OBHu5 ceu5
  have OBHw6 := Lib.hid ob6
  have cew6 := ob6.o0.cell
  have hzw6 : w.heap.size < w6.heap.size := ob6.o0.lt
  clear hw6 ob6 ho6
  go_wp2_with (first
    | (refine wpList_store_rep rfl 47 _ _ rfl (w.heap.size + 1 + 1) 8 rfl [d6_0, d6_1, d6_2] rfl 113 _ OBHw6.out.o2 isz47 (by simp [splice]) HO6.out.rep.one ?_; intro u6 hou6 hgu6 hzu6; have OBHu6 := Lib.hid (OBHw6.out.grown hgu6 hou6 (by omega) (by omega)); have HGu6 := Lib.hid hgu6; have ceu6 := OBHu6.out.o0.cell; have hqu6 : w.heap.size < u6.heap.size := OBHu6.out.o0.lt; clear hou6 hgu6 hzu6 OBHw6 cew6))
  refine (h7 _ _ (G7.out.1.ext (grown_ext (Ext.trans (grown_ext (grown_ext (grown_ext (Ext.trans (grown_ext (Ext.trans (grown_ext (Ext.trans (.alloc (.alloc (.alloc (.refl _) _) _) _) HW1.out) HGu1.out (by omega)) HW2.out) HGu2.out (by omega)) HW3.out) HGu3.out (by omega)) HGu4.out (by omega)) HGu5.out (by omega)) HW6.out) HGu6.out (by omega))) (by omega)).mono ?_
  rintro e w7 ⟨d7, rfl, hw7, ho7⟩
  obtain ⟨da7, dc7, rfl, -, -⟩ := ho7.rep.shape
  have HW7 := Lib.hid hw7
  have HO7 := Lib.hid ho7
  have ob7 := OBHu6.out.ext hw7
  clear OBHu6 ceu6
  have OBHw7 := Lib.hid ob7
  have cew7 := ob7.o0.cell
  have hzw7 : w.heap.size < w7.heap.size := ob7.o0.lt
  clear hw7 ob7 ho7
  have hone : Hid (∀ v ∈ ([.string v0, .slice da1 es1.length dc1, d2_0, d2_1, d2_2, .slice da3 es3.length dc3, .bool v4, .bool v5, d6_0, d6_1, d6_2, .slice da7 es7.length dc7] : List Value), v.oneCell' = true) := by
    intro v hv
    simp only [List.mem_cons, List.not_mem_nil, or_false] at hv
    rcases hv with rfl | rfl | rfl | rfl | rfl | rfl | rfl | rfl | rfl | rfl | rfl | rfl <;> first | rfl | (refine HO2.out.rep.one _ ?_; simp; done) | (refine HO6.out.rep.one _ ?_; simp; done)
  go_wp2_with (first
    | (refine wpList_store_cell rfl 111 _ _ rfl (w.heap.size + 1 + 1) 11 rfl (.slice da7 es7.length dc7) rfl rfl 113 _ OBHw7.out.o2 isz111 (by simp [splice]) rfl ?_; intro u7 hou7 hgu7 hzu7; have OBHu7 := Lib.hid (OBHw7.out.grown hgu7 hou7 (by omega) (by omega)); have HGu7 := Lib.hid hgu7; have ceu7 := OBHu7.out.o0.cell; have hqu7 : w.heap.size < u7.heap.size := OBHu7.out.o0.lt; clear hou7 hgu7 hzu7 OBHw7 cew7)
    | (refine wpList_load_rep rfl 113 _ rfl (w.heap.size + 1 + 1) 0 rfl [.string v0, .slice da1 es1.length dc1, d2_0, d2_1, d2_2, .slice da3 es3.length dc3, .bool v4, .bool v5, d6_0, d6_1, d6_2, .slice da7 es7.length dc7] _ Tryz.underlying113 isz113 (fun j v hv => by rw [OBHu7.out.o2.cell, Nat.zero_add]; simpa [splice] using hv) ?_)
    | (refine wpList_store_rep rfl 113 _ _ rfl (w.heap.size + 1) 0 rfl [.string v0, .slice da1 es1.length dc1, d2_0, d2_1, d2_2, .slice da3 es3.length dc3, .bool v4, .bool v5, d6_0, d6_1, d6_2, .slice da7 es7.length dc7] rfl 113 _ OBHu7.out.o1 isz113 (by simp) hone.out ?_; intro wz hoz hgz hzz; have HOZ := Lib.hid hoz; have HGZ := Lib.hid hgz; clear hoz hgz hzz))
  have HOF : OB wz (w.heap.size + 1) 113 ⟨[.string v0, .slice da1 es1.length dc1, d2_0, d2_1, d2_2, .slice da3 es3.length dc3, .bool v4, .bool v5, d6_0, d6_1, d6_2, .slice da7 es7.length dc7]⟩ := HOZ.out
  refine bodyPost_ret (results_cell_row Tryz.results209 _ _ (w.heap.size + 1) 113 ⟨[.string v0, .slice da1 es1.length dc1, d2_0, d2_1, d2_2, .slice da3 es3.length dc3, .bool v4, .bool v5, d6_0, d6_1, d6_2, .slice da7 es7.length dc7]⟩ _ _ rfl HOF Tryz.underlying113 rfl isz113) rfl ⟨[.string v0, .slice da1 es1.length dc1, d2_0, d2_1, d2_2, .slice da3 es3.length dc3, .bool v4, .bool v5, d6_0, d6_1, d6_2, .slice da7 es7.length dc7], rfl, (grown_ext (grown_ext (Ext.trans (grown_ext (Ext.trans (grown_ext (grown_ext (grown_ext (Ext.trans (grown_ext (Ext.trans (grown_ext (Ext.trans (.alloc (.alloc (.alloc (.refl _) _) _) _) HW1.out) HGu1.out (by omega)) HW2.out) HGu2.out (by omega)) HW3.out) HGu3.out (by omega)) HGu4.out (by omega)) HGu5.out (by omega)) HW6.out) HGu6.out (by omega)) HW7.out) HGu7.out (by omega)) HGZ.out (by omega)), ?_⟩
  have sw1 := HW1.out.size
  have su1 := HGu1.out.size
  have sw2 := HW2.out.size
  have su2 := HGu2.out.size
  have sw3 := HW3.out.size
  have su3 := HGu3.out.size
  have su4 := HGu4.out.size
  have su5 := HGu5.out.size
  have sw6 := HW6.out.size
  have su6 := HGu6.out.size
  have sw7 := HW7.out.size
  have su7 := HGu7.out.size
  have swz := HGZ.out.size
  simp only [World.size_alloc] at sw1
  have ow1 := HO1.out.keeps (lo := w.heap.size + 1 + 1 + 1) (Keeps.trans (Keeps.of_grown HGu1.out (by omega)) (Keeps.trans (Keeps.of_ext HW2.out) (Keeps.trans (Keeps.of_grown HGu2.out (by omega)) (Keeps.trans (Keeps.of_ext HW3.out) (Keeps.trans (Keeps.of_grown HGu3.out (by omega)) (Keeps.trans (Keeps.of_grown HGu4.out (by omega)) (Keeps.trans (Keeps.of_grown HGu5.out (by omega)) (Keeps.trans (Keeps.of_ext HW6.out) (Keeps.trans (Keeps.of_grown HGu6.out (by omega)) (Keeps.trans (Keeps.of_ext HW7.out) (Keeps.trans (Keeps.of_grown HGu7.out (by omega)) (Keeps.of_grown HGZ.out (by omega))))))))))))) (by intro x hx; simp only [Between, World.size_alloc] at hx; omega)
  have ow2 := HO2.out.keeps (lo := w.heap.size + 1 + 1 + 1) (Keeps.trans (Keeps.of_grown HGu2.out (by omega)) (Keeps.trans (Keeps.of_ext HW3.out) (Keeps.trans (Keeps.of_grown HGu3.out (by omega)) (Keeps.trans (Keeps.of_grown HGu4.out (by omega)) (Keeps.trans (Keeps.of_grown HGu5.out (by omega)) (Keeps.trans (Keeps.of_ext HW6.out) (Keeps.trans (Keeps.of_grown HGu6.out (by omega)) (Keeps.trans (Keeps.of_ext HW7.out) (Keeps.trans (Keeps.of_grown HGu7.out (by omega)) (Keeps.of_grown HGZ.out (by omega))))))))))) (by intro x hx; simp only [Between, World.size_alloc] at hx; omega)
  have ow3 := HO3.out.keeps (lo := w.heap.size + 1 + 1 + 1) (Keeps.trans (Keeps.of_grown HGu3.out (by omega)) (Keeps.trans (Keeps.of_grown HGu4.out (by omega)) (Keeps.trans (Keeps.of_grown HGu5.out (by omega)) (Keeps.trans (Keeps.of_ext HW6.out) (Keeps.trans (Keeps.of_grown HGu6.out (by omega)) (Keeps.trans (Keeps.of_ext HW7.out) (Keeps.trans (Keeps.of_grown HGu7.out (by omega)) (Keeps.of_grown HGZ.out (by omega))))))))) (by intro x hx; simp only [Between, World.size_alloc] at hx; omega)
  have ow6 := HO6.out.keeps (lo := w.heap.size + 1 + 1 + 1) (Keeps.trans (Keeps.of_grown HGu6.out (by omega)) (Keeps.trans (Keeps.of_ext HW7.out) (Keeps.trans (Keeps.of_grown HGu7.out (by omega)) (Keeps.of_grown HGZ.out (by omega))))) (by intro x hx; simp only [Between, World.size_alloc] at hx; omega)
  have ow7 := HO7.out.keeps (lo := w.heap.size + 1 + 1 + 1) (Keeps.trans (Keeps.of_grown HGu7.out (by omega)) (Keeps.of_grown HGZ.out (by omega))) (by intro x hx; simp only [Between, World.size_alloc] at hx; omega)
  have hall := OwnL.cons_leaf K0.out (OwnL.append (OwnL.one ow1) (OwnL.append (ow2) (OwnL.append (OwnL.one ow3) (OwnL.cons_leaf K4.out (OwnL.cons_leaf K5.out (OwnL.append (ow6) (OwnL.append (OwnL.one ow7) (OwnL.nil wz (fun _ => False)) (by intro x hx hy; simp only [Between, World.size_alloc, or_false] at hx hy <;> omega)) (by intro x hx hy; simp only [Between, World.size_alloc, or_false] at hx hy <;> omega)))) (by intro x hx hy; simp only [Between, World.size_alloc, or_false] at hx hy <;> omega)) (by intro x hx hy; simp only [Between, World.size_alloc, or_false] at hx hy <;> omega)) (by intro x hx hy; simp only [Between, World.size_alloc, or_false] at hx hy <;> omega))
  exact hall.mono (by intro x hx; simp only [Between, World.size_alloc, or_false] at hx ⊢; omega)

set_option maxRecDepth 100000 in
set_option maxHeartbeats 1000000 in
theorem eqInstance_of (v0 : ByteArray) (es1 : List (List Tr)) (ts2 : List Tr) (l2 : ts2.length = 3) (es3 : List (List Tr)) (v4 : Bool) (v5 : Bool) (ts6 : List Tr) (l6 : ts6.length = 3) (es7 : List (List Tr)) (h1 : EqSC 29 1 es1) (h2 : EqC 47 ts2) (h3 : EqSC 55 4 es3) (h6 : EqC 47 ts6) (h7 : EqSC 227 11 es7) : EqC 212 ([.leaf (.string v0)] ++ ([.row 1 es1] ++ (ts2 ++ ([.row 4 es3] ++ ([.leaf (.bool v4)] ++ ([.leaf (.bool v5)] ++ (ts6 ++ ([.row 11 es7] ++ ([]))))))))) := by
  intro cs ds w hr hr'
  obtain ⟨b0, r0, rfl, g0, n0⟩ := RepL.split hr
  obtain ⟨y0, rfl⟩ := list1 g0.length.symm
  obtain ⟨rfl, k0⟩ := g0.1.leaf_eq
  obtain ⟨b1, r1, rfl, g1, n1⟩ := RepL.split n0
  obtain ⟨y1, rfl⟩ := list1 g1.length.symm
  obtain ⟨a1, c1, rfl, -, -⟩ := g1.1.shape
  obtain ⟨b2, r2, rfl, g2, n2⟩ := RepL.split n1
  obtain ⟨x2_0, x2_1, x2_2, rfl⟩ := list3 (g2.length.symm.trans l2)
  obtain ⟨b3, r3, rfl, g3, n3⟩ := RepL.split n2
  obtain ⟨y3, rfl⟩ := list1 g3.length.symm
  obtain ⟨a3, c3, rfl, -, -⟩ := g3.1.shape
  obtain ⟨b4, r4, rfl, g4, n4⟩ := RepL.split n3
  obtain ⟨y4, rfl⟩ := list1 g4.length.symm
  obtain ⟨rfl, k4⟩ := g4.1.leaf_eq
  obtain ⟨b5, r5, rfl, g5, n5⟩ := RepL.split n4
  obtain ⟨y5, rfl⟩ := list1 g5.length.symm
  obtain ⟨rfl, k5⟩ := g5.1.leaf_eq
  obtain ⟨b6, r6, rfl, g6, n6⟩ := RepL.split n5
  obtain ⟨x6_0, x6_1, x6_2, rfl⟩ := list3 (g6.length.symm.trans l6)
  obtain ⟨b7, r7, rfl, g7, n7⟩ := RepL.split n6
  obtain ⟨y7, rfl⟩ := list1 g7.length.symm
  obtain ⟨a7, c7, rfl, -, -⟩ := g7.1.shape
  obtain rfl := RepL.nil_eq n7
  clear hr
  obtain ⟨zb0, zr0, rfl, zg0, zn0⟩ := RepL.split hr'
  obtain ⟨zy0, rfl⟩ := list1 zg0.length.symm
  obtain ⟨rfl, zk0⟩ := zg0.1.leaf_eq
  obtain ⟨zb1, zr1, rfl, zg1, zn1⟩ := RepL.split zn0
  obtain ⟨zy1, rfl⟩ := list1 zg1.length.symm
  obtain ⟨za1, zc1, rfl, -, -⟩ := zg1.1.shape
  obtain ⟨zb2, zr2, rfl, zg2, zn2⟩ := RepL.split zn1
  obtain ⟨zx2_0, zx2_1, zx2_2, rfl⟩ := list3 (zg2.length.symm.trans l2)
  obtain ⟨zb3, zr3, rfl, zg3, zn3⟩ := RepL.split zn2
  obtain ⟨zy3, rfl⟩ := list1 zg3.length.symm
  obtain ⟨za3, zc3, rfl, -, -⟩ := zg3.1.shape
  obtain ⟨zb4, zr4, rfl, zg4, zn4⟩ := RepL.split zn3
  obtain ⟨zy4, rfl⟩ := list1 zg4.length.symm
  obtain ⟨rfl, zk4⟩ := zg4.1.leaf_eq
  obtain ⟨zb5, zr5, rfl, zg5, zn5⟩ := RepL.split zn4
  obtain ⟨zy5, rfl⟩ := list1 zg5.length.symm
  obtain ⟨rfl, zk5⟩ := zg5.1.leaf_eq
  obtain ⟨zb6, zr6, rfl, zg6, zn6⟩ := RepL.split zn5
  obtain ⟨zx6_0, zx6_1, zx6_2, rfl⟩ := list3 (zg6.length.symm.trans l6)
  obtain ⟨zb7, zr7, rfl, zg7, zn7⟩ := RepL.split zn6
  obtain ⟨zy7, rfl⟩ := list1 zg7.length.symm
  obtain ⟨za7, zc7, rfl, -, -⟩ := zg7.1.shape
  obtain rfl := RepL.nil_eq zn7
  clear hr'
  have G0 := Lib.hid g0
  have K0 := Lib.hid k0
  clear g0 n0 k0
  have G1 := Lib.hid g1
  clear g1 n1
  have G2 := Lib.hid g2
  clear g2 n2
  have G3 := Lib.hid g3
  clear g3 n3
  have G4 := Lib.hid g4
  have K4 := Lib.hid k4
  clear g4 n4 k4
  have G5 := Lib.hid g5
  have K5 := Lib.hid k5
  clear g5 n5 k5
  have G6 := Lib.hid g6
  clear g6 n6
  have G7 := Lib.hid g7
  clear g7 n7
  have zG0 := Lib.hid zg0
  have zK0 := Lib.hid zk0
  clear zg0 zn0 zk0
  have zG1 := Lib.hid zg1
  clear zg1 zn1
  have zG2 := Lib.hid zg2
  clear zg2 zn2
  have zG3 := Lib.hid zg3
  clear zg3 zn3
  have zG4 := Lib.hid zg4
  have zK4 := Lib.hid zk4
  clear zg4 zn4 zk4
  have zG5 := Lib.hid zg5
  have zK5 := Lib.hid zk5
  clear zg5 zn5 zk5
  have zG6 := Lib.hid zg6
  clear zg6 zn6
  have zG7 := Lib.hid zg7
  clear zg7 zn7
  simp only [List.cons_append, List.nil_append]
  go_enter Tryz.func212, Tryz.ntmps212
  go_wp2_with fail
  refine (h1 _ _ _ (G1.out.1.ext (.alloc (.alloc (.refl _) _) _)) (zG1.out.1.ext (.alloc (.alloc (.refl _) _) _))).mono ?_
  rintro e w1 ⟨rfl, hw1⟩
  have HW1 := Lib.hid hw1
  have ob1 := (Two.new w _ _ _ _).ext hw1
  have OBH := Lib.hid ob1
  have ce1 := ob1.o0.cell
  have cf1 := ob1.o1.cell
  clear hw1 ob1
  go_wp2_with fail
  refine (h2 _ _ _ (G2.out.ext (Ext.trans (.alloc (.alloc (.refl _) _) _) HW1.out)) (zG2.out.ext (Ext.trans (.alloc (.alloc (.refl _) _) _) HW1.out))).mono ?_
  rintro e w2 ⟨rfl, hw2⟩
  have HW2 := Lib.hid hw2
  have ob2 := OBH.out.ext hw2
  clear OBH ce1 cf1
  have OBH := Lib.hid ob2
  have ce2 := ob2.o0.cell
  have cf2 := ob2.o1.cell
  clear hw2 ob2
  go_wp2_with fail
  refine (h3 _ _ _ (G3.out.1.ext (Ext.trans (Ext.trans (.alloc (.alloc (.refl _) _) _) HW1.out) HW2.out)) (zG3.out.1.ext (Ext.trans (Ext.trans (.alloc (.alloc (.refl _) _) _) HW1.out) HW2.out))).mono ?_
  rintro e w3 ⟨rfl, hw3⟩
  have HW3 := Lib.hid hw3
  have ob3 := OBH.out.ext hw3
  clear OBH ce2 cf2
  have OBH := Lib.hid ob3
  have ce3 := ob3.o0.cell
  have cf3 := ob3.o1.cell
  clear hw3 ob3
  go_wp2_with fail
  refine (h6 _ _ _ (G6.out.ext (Ext.trans (Ext.trans (Ext.trans (.alloc (.alloc (.refl _) _) _) HW1.out) HW2.out) HW3.out)) (zG6.out.ext (Ext.trans (Ext.trans (Ext.trans (.alloc (.alloc (.refl _) _) _) HW1.out) HW2.out) HW3.out))).mono ?_
  rintro e w6 ⟨rfl, hw6⟩
  have HW6 := Lib.hid hw6
  have ob6 := OBH.out.ext hw6
  clear OBH ce3 cf3
  have OBH := Lib.hid ob6
  have ce6 := ob6.o0.cell
  have cf6 := ob6.o1.cell
  clear hw6 ob6
  go_wp2_with fail
  refine (h7 _ _ _ (G7.out.1.ext (Ext.trans (Ext.trans (Ext.trans (Ext.trans (.alloc (.alloc (.refl _) _) _) HW1.out) HW2.out) HW3.out) HW6.out)) (zG7.out.1.ext (Ext.trans (Ext.trans (Ext.trans (Ext.trans (.alloc (.alloc (.refl _) _) _) HW1.out) HW2.out) HW3.out) HW6.out))).mono ?_
  rintro e w7 ⟨rfl, hw7⟩
  have HW7 := Lib.hid hw7
  have ob7 := OBH.out.ext hw7
  clear OBH ce6 cf6
  have OBH := Lib.hid ob7
  have ce7 := ob7.o0.cell
  have cf7 := ob7.o1.cell
  clear hw7 ob7
  go_wp2_with fail
  go_ret
  exact ⟨rfl, (Ext.trans (Ext.trans (Ext.trans (Ext.trans (Ext.trans (.alloc (.alloc (.refl _) _) _) HW1.out) HW2.out) HW3.out) HW6.out) HW7.out)⟩

set_option maxRecDepth 100000 in
set_option maxHeartbeats 1000000 in
theorem szInstanceS_of (es : List (List Tr)) (h5 : ∀ e ∈ es, e.length = 12) (H : ∀ e ∈ es, SzC 205 e) : SzSC 181 12 es := by
  intro s left w hs h0 h1
  obtain ⟨a, cap, rfl, hl, hm⟩ := hs.shape
  unfold maxLen at hm
  have HS := Lib.hid hs
  have HH := Lib.hid H
  have H5 := Lib.hid h5
  clear hs H h5
  go_enter Tryz.func181, Tryz.ntmps181
  go_wp2_with fail
  · go_ret
    exact ⟨-1, rfl, .refl _, by omega, by omega, by omega⟩
  go_loopw [1, 5] (fun l i wr => ∃ (k : Nat) (r : Int), k ≤ es.length ∧ i = .int .i64 k ∧ l = .int .i64 r ∧ Ext w wr ∧ 0 ≤ r ∧ r + es.length + Tr.bulkAll (es.take k) ≤ left) (fun _ i _ => es.length - (intOf i).toNat)
  case atStart => exact ⟨0, _, Nat.zero_le _, rfl, rfl, .refl _, by omega, by simp [Tr.bulkAll]⟩
  case round =>
    obtain ⟨k, r, hk, rfl, rfl, hw, hr0, hrb⟩ := hrel
    by_cases hlt : k < es.length
    · obtain ⟨b, off, cs, rfl, hb, hcs, hc⟩ := (HS.out.ext hw).at2 (k := k) (List.getElem?_eq_getElem hlt)
      have hmem : es[k] ∈ es := List.getElem_mem hlt
      have l5 := H5.out _ hmem
      have hbt := Lib.hid (Tr.bulkAll_take es k hlt)
      have HCS := Lib.hid hcs
      have HC := Lib.hid hc
      have HM := Lib.hid hmem
      have HI : Hid ((Tryz.prog.info? 242).map (·.size) = some cs.length) := by rw [← hcs.length, l5]; exact isz242
      clear hcs hc hmem l5
      go_wp2_with (refine wpList_load_rep rfl 242 _ rfl b (off + k * 12) rfl cs _ Tryz.underlying242 HI.out HC.out ?_)
      refine (HH.out _ HM.out _ _ _ HCS.out hr0 (by omega)).mono ?_
      rintro e w1 ⟨r1, rfl, hw1, hr1, hr2, hr3⟩
      have HR3 := Lib.hid hr3
      have HW1 := Lib.hid hw1
      clear hr3 hw1
      go_wp2_with fail
      · go_ret
        exact ⟨-1, rfl, hw.trans HW1.out, by omega, by omega, by omega⟩
      · go_roundw
        case rel =>
          have p0 : 0 ≤ r1 := by assumption
          have e1 := HR3.out p0
          have e2 := hbt.out
          exact ⟨k + 1, r1, by omega, by go_num, rfl, hw.trans HW1.out, p0, by omega⟩
        case measure => simp [intOf]; omega
    · have hkl : k = es.length := by omega
      go_wp2_with fail
      go_ret
      refine ⟨r, rfl, hw, by omega, by omega, fun _ => ?_⟩
      rw [hkl, List.take_length] at hrb
      simp only [Tr.bulk]
      omega

set_option maxRecDepth 100000 in
set_option maxHeartbeats 1000000 in
theorem toInstanceS_of (es : List (List Tr)) (h5 : ∀ e ∈ es, e.length = 12) (H : ∀ e ∈ es, ToC 209 e) : ToSC 186 12 es := by
  intro s w hs hbk
  obtain ⟨a, cap, rfl, hl, hm⟩ := hs.shape
  unfold maxLen at hm
  have HS := Lib.hid hs
  have HH := Lib.hid H
  have H5 := Lib.hid h5
  have n0 : (0 : Int) ≤ es.length := by omega
  clear hs H h5
  go_enter Tryz.func186, Tryz.ntmps186
  go_wp2_with (refine wpList_make_rep rfl 123 (.tmp 6) rfl es.length rfl 113 Tryz.underlying123 12 192 iszb113 (by omega) (by omega) ?_; intro wm arr0 ha0 hob0 hx0 hz0; have HA0 := Lib.hid ha0; have HOB0 := Lib.hid hob0; have HX0 := Lib.hid hx0; have HZ0 := Lib.hid hz0; clear ha0 hob0 hx0 hz0)
  go_loopw [4] (fun i wr => ∃ (k : Nat) (arr : Array Value), k ≤ es.length ∧ i = .int .i64 k ∧ Ext w wr ∧ w.heap.size < wr.heap.size ∧ OB wr w.heap.size 113 arr ∧ arr.size = es.length * 12 ∧ Part wr w.heap.size arr 12 es k) (fun i _ => es.length - (intOf i).toNat)
  case atStart => exact ⟨0, arr0, Nat.zero_le _, rfl, HX0.out, by rw [HZ0.out]; omega, HOB0.out, HA0.out, Part.zero _ _ _ _ _⟩
  case round =>
    obtain ⟨k, arr, hk, rfl, hw, hgt, hob, hasz, hpart⟩ := hrel
    have HOB := Lib.hid hob
    have HAS := Lib.hid hasz
    have HP := Lib.hid hpart
    clear hob hasz hpart
    by_cases hlt : k < es.length
    · obtain ⟨b, off, cs, rfl, hb, hcs, hc⟩ := (HS.out.ext hw).at2 (k := k) (List.getElem?_eq_getElem hlt)
      have hmem : es[k] ∈ es := List.getElem_mem hlt
      have l5 := H5.out _ hmem
      have hbe := Tr.bulkAll_le hlt
      have HCS := Lib.hid hcs
      have HC := Lib.hid hc
      have HM := Lib.hid hmem
      have HL5 := Lib.hid l5
      have HI : Hid ((Tryz.prog.info? 242).map (·.size) = some cs.length) := by rw [← hcs.length, l5]; exact isz242
      clear hcs hc hmem l5
      go_wp2_with (refine wpList_load_rep rfl 242 (.tmp 18) rfl b (off + k * 12) rfl cs _ Tryz.underlying242 HI.out HC.out ?_)
      refine (HH.out _ HM.out _ _ HCS.out (by omega)).mono ?_
      rintro e w1 ⟨cs1, rfl, hw1, ho1⟩
      have HW1 := Lib.hid hw1
      have HO1 := Lib.hid ho1
      have hcl : cs1.length = 12 := ho1.1.trans HL5.out
      have HCL := Lib.hid hcl
      have hfit : 0 + k * 12 + cs1.length ≤ arr.size := by have := HAS.out; omega
      have HF := Lib.hid hfit
      clear hw1 ho1 hcl hfit
      go_wp2_with (refine wpList_store_rep rfl 113 (.tmp 21) (.tmp 20) rfl w.heap.size (k * 12) rfl cs1 rfl 113 arr (HOB.out.ext HW1.out) (by rw [HCL.out]; exact isz113) (by have := HF.out; omega) (HO1.out.rep.one) ?_; intro w2 hob2 hg2 hz2; have HOB2 := Lib.hid hob2; have HG2 := Lib.hid hg2; have HZ2 := Lib.hid hz2; clear hob2 hg2 hz2)
      go_roundw
      case rel =>
        have hfit : k * 12 + cs1.length ≤ arr.size := by have := HF.out; omega
        refine ⟨k + 1, _, by omega, by go_num, ?_, ?_, HOB2.out, by rw [splice_size hfit]; exact HAS.out, HP.out.step hgt HW1.out (List.getElem?_eq_getElem hlt) HO1.out HCL.out HAS.out HG2.out HOB2.out⟩
        · exact grown_ext (hw.trans HW1.out) HG2.out (Nat.le_refl _)
        · have := HW1.out.size
          have := HZ2.out
          omega
      case measure => simp [intOf]; omega
    · have hkl : k = es.length := by omega
      go_wp2_with fail
      go_ret
      subst hkl
      exact ⟨_, rfl, hw, (HP.out.done HOB.out H5.out (Nat.le_refl _) (by unfold maxLen; omega) (Nat.le_refl _)).mono fun x hx => ⟨hx.1, hx.2⟩⟩

set_option maxRecDepth 100000 in
set_option maxHeartbeats 1000000 in
theorem eqInstanceS_of (es : List (List Tr)) (h5 : ∀ e ∈ es, e.length = 12) (H : ∀ e ∈ es, EqC 212 e) : EqSC 190 12 es := by
  intro s u w hs hu
  obtain ⟨a, cap, rfl, hl, hm⟩ := hs.shape
  obtain ⟨a', cap', rfl, hl', hm'⟩ := hu.shape
  unfold maxLen at hm hm'
  have HS := Lib.hid hs
  have HU := Lib.hid hu
  have HH := Lib.hid H
  have H5 := Lib.hid h5
  clear hs hu H h5
  go_enter Tryz.func190, Tryz.ntmps190
  go_wp2_with fail
  go_loopw [5] (fun i wr => ∃ k : Nat, k ≤ es.length ∧ i = .int .i64 k ∧ Ext w wr) (fun i _ => es.length - (intOf i).toNat)
  case atStart => exact ⟨0, Nat.zero_le _, rfl, .refl _⟩
  case round =>
    obtain ⟨k, hk, rfl, hw⟩ := hrel
    by_cases hlt : k < es.length
    · obtain ⟨b, off, cs, rfl, hb, hcs, hc⟩ := (HS.out.ext hw).at2 (k := k) (List.getElem?_eq_getElem hlt)
      obtain ⟨b', off', ds, rfl, hb', hds, hd⟩ := (HU.out.ext hw).at2 (k := k) (List.getElem?_eq_getElem hlt)
      have hmem : es[k] ∈ es := List.getElem_mem hlt
      have l5 := H5.out _ hmem
      have HCS := Lib.hid hcs
      have HDS := Lib.hid hds
      have HM := Lib.hid hmem
      have HC := Lib.hid hc
      have HD := Lib.hid hd
      have HI : Hid ((Tryz.prog.info? 113).map (·.size) = some cs.length) := by rw [← hcs.length, l5]; exact isz113
      have HJ : Hid ((Tryz.prog.info? 113).map (·.size) = some ds.length) := by rw [← hds.length, l5]; exact isz113
      clear hcs hds hc hd l5 hmem
      go_wp2_with fail
      have ki : (k : Int) < (es.length : Int) := by omega
      have k0 : (0 : Int) ≤ (k : Int) := by omega
      refine wp_region_still_tail 8 (by kernel_rfl) (by kernel_rfl) ?_
      simp only [List.take_succ_cons, List.take_zero, List.drop_succ_cons, List.drop_zero]
      change wpStill _ _ wr.drew _ _ _
      repeat (first
        | (refine wpStill_load_rep rfl 113 (.tmp 19) rfl b (off + k * 12) rfl cs _ Tryz.underlying113 HI.out HC.out ?_; simp only [Act.put])
        | (refine wpStill_load_rep rfl 113 (.tmp 23) rfl b' (off' + k * 12) rfl ds _ Tryz.underlying113 HJ.out HD.out ?_; simp only [Act.put])
        | still_step)
      refine wpStill_nil ?_
      change wpList _ _ _ _ _ wr.drew
      go_wp2_with fail
      refine (HH.out _ HM.out _ _ _ (HCS.out.ext (.drew (.refl _))) (HDS.out.ext (.drew (.refl _)))).mono ?_
      rintro e w1 ⟨rfl, hw1⟩
      have HW1 := Lib.hid hw1
      clear hw1
      go_wp2_with fail
      go_roundw
      case rel => exact ⟨k + 1, by omega, by go_num, hw.trans (.trans (.drew (.refl _)) HW1.out)⟩
      case measure => simp [intOf]; omega
    · go_wp2_with fail
      go_ret
      exact ⟨rfl, hw⟩

end Go.Proofs.YtnakkelglbcecaaGreat

namespace Go.Proofs.YtnakkelglbcecaaGreat
open Go.RowKit Go.Proofs

set_option maxRecDepth 100000 in
set_option maxHeartbeats 1000000 in
theorem szParam_of (v0 : ByteArray) (ts1 : List Tr) (l1 : ts1.length = 3) (h1 : SzC 43 ts1) : SzC 233 ([.leaf (.string v0)] ++ (ts1 ++ ([]))) := by
  intro cs left w hr hl0 hl1
  obtain ⟨b0, r0, rfl, g0, n0⟩ := RepL.split hr
  obtain ⟨y0, rfl⟩ := list1 g0.length.symm
  obtain ⟨rfl, k0⟩ := g0.1.leaf_eq
  obtain ⟨b1, r1, rfl, g1, n1⟩ := RepL.split n0
  obtain ⟨x1_0, x1_1, x1_2, rfl⟩ := list3 (g1.length.symm.trans l1)
  obtain rfl := RepL.nil_eq n1
  clear hr
  have q0 : v0.size ≤ 9223372036854775807 := by have := k0; simp only [LeafOk, maxLen] at this; omega
  have G0 := Lib.hid g0
  have K0 := Lib.hid k0
  clear g0 n0 k0
  have G1 := Lib.hid g1
  clear g1 n1
  simp only [List.cons_append, List.nil_append]
  go_enter Tryz.func233, Tryz.ntmps233
  go_wp2_with fail
  · go_ret
    exact ⟨-1, rfl, (.alloc (.refl _) _), by omega, by omega, by omega⟩
  refine (h1 _ _ _ (G1.out.ext (.alloc (.refl _) _)) (by omega) (by omega)).mono ?_
  rintro e w1 ⟨r1, rfl, hw1, ra1, rb1, rc1⟩
  have HW1 := Lib.hid hw1
  have HR1 := Lib.hid rc1
  have ob1 := (OB.new w _ _).ext hw1
  have OBH := Lib.hid ob1
  have ce1 := ob1.cell
  clear hw1 rc1 ob1
  go_wp2_with fail
  · go_ret
    exact ⟨-1, rfl, (Ext.trans (.alloc (.refl _) _) HW1.out), by omega, by omega, by omega⟩
  go_ret
  refine ⟨_, rfl, (Ext.trans (.alloc (.refl _) _) HW1.out), by omega, by omega, fun hp => ?_⟩
  have e1 := HR1.out (by omega)
  simp only [Tr.bulkL_append, Tr.bulkL, Tr.bulk]
  omega

set_option maxRecDepth 100000 in
set_option maxHeartbeats 1000000 in
theorem toParam_of (v0 : ByteArray) (ts1 : List Tr) (l1 : ts1.length = 3) (h1 : ToC 45 ts1) : ToC 239 ([.leaf (.string v0)] ++ (ts1 ++ ([]))) := by
  intro cs w hr hbk
  simp only [Tr.bulkL_append, Tr.bulkL, Tr.bulk] at hbk
  obtain ⟨b0, r0, rfl, g0, n0⟩ := RepL.split hr
  obtain ⟨y0, rfl⟩ := list1 g0.length.symm
  obtain ⟨rfl, k0⟩ := g0.1.leaf_eq
  obtain ⟨b1, r1, rfl, g1, n1⟩ := RepL.split n0
  obtain ⟨x1_0, x1_1, x1_2, rfl⟩ := list3 (g1.length.symm.trans l1)
  obtain rfl := RepL.nil_eq n1
  clear hr
  have G0 := Lib.hid g0
  have K0 := Lib.hid k0
  clear g0 n0 k0
  have G1 := Lib.hid g1
  clear g1 n1
  simp only [List.cons_append, List.nil_append]
  go_enter Tryz.func239, Tryz.ntmps239
  go_wp2_with fail
  refine (h1 _ _ (G1.out.ext (.alloc (.alloc (.alloc (.refl _) _) _) _)) (by omega)).mono ?_
  rintro e w1 ⟨d1, rfl, hw1, ho1⟩
  obtain ⟨d1_0, d1_1, d1_2, rfl⟩ := list3 (ho1.1.trans l1)
  have HW1 := Lib.hid hw1
  have HO1 := Lib.hid ho1
  have ob1 := (Three.new w _ _ _ _ _ _).ext hw1
  have OBHw1 := Lib.hid ob1
  have cew1 := ob1.o0.cell
  have hzw1 : w.heap.size < w1.heap.size := ob1.o0.lt
  clear hw1 ob1 ho1
  have hone : Hid (∀ v ∈ ([.string v0, d1_0, d1_1, d1_2] : List Value), v.oneCell' = true) := by
    intro v hv
    simp only [List.mem_cons, List.not_mem_nil, or_false] at hv
    rcases hv with rfl | rfl | rfl | rfl <;> first | rfl | (refine HO1.out.rep.one _ ?_; simp; done)
  go_wp2_with (first
    | (refine wpList_store_rep rfl 47 _ _ rfl (w.heap.size + 1 + 1) 1 rfl [d1_0, d1_1, d1_2] rfl 199 _ OBHw1.out.o2 isz47 (by simp [splice]) HO1.out.rep.one ?_; intro u1 hou1 hgu1 hzu1; have OBHu1 := Lib.hid (OBHw1.out.grown hgu1 hou1 (by omega) (by omega)); have HGu1 := Lib.hid hgu1; have ceu1 := OBHu1.out.o0.cell; have hqu1 : w.heap.size < u1.heap.size := OBHu1.out.o0.lt; clear hou1 hgu1 hzu1 OBHw1 cew1)
    | (refine wpList_load_rep rfl 199 _ rfl (w.heap.size + 1 + 1) 0 rfl [.string v0, d1_0, d1_1, d1_2] _ Tryz.underlying199 isz199 (fun j v hv => by rw [OBHu1.out.o2.cell, Nat.zero_add]; simpa [splice] using hv) ?_)
    | (refine wpList_store_rep rfl 199 _ _ rfl (w.heap.size + 1) 0 rfl [.string v0, d1_0, d1_1, d1_2] rfl 199 _ OBHu1.out.o1 isz199 (by simp) hone.out ?_; intro wz hoz hgz hzz; have HOZ := Lib.hid hoz; have HGZ := Lib.hid hgz; clear hoz hgz hzz))
  have HOF : OB wz (w.heap.size + 1) 199 ⟨[.string v0, d1_0, d1_1, d1_2]⟩ := HOZ.out
  refine bodyPost_ret (results_cell_row Tryz.results239 _ _ (w.heap.size + 1) 199 ⟨[.string v0, d1_0, d1_1, d1_2]⟩ _ _ rfl HOF Tryz.underlying199 rfl isz199) rfl ⟨[.string v0, d1_0, d1_1, d1_2], rfl, (grown_ext (grown_ext (Ext.trans (.alloc (.alloc (.alloc (.refl _) _) _) _) HW1.out) HGu1.out (by omega)) HGZ.out (by omega)), ?_⟩
  have sw1 := HW1.out.size
  have su1 := HGu1.out.size
  have swz := HGZ.out.size
  simp only [World.size_alloc] at sw1
  have ow1 := HO1.out.keeps (lo := w.heap.size + 1 + 1 + 1) (Keeps.trans (Keeps.of_grown HGu1.out (by omega)) (Keeps.of_grown HGZ.out (by omega))) (by intro x hx; simp only [Between, World.size_alloc] at hx; omega)
  have hall := OwnL.cons_leaf K0.out (OwnL.append (ow1) (OwnL.nil wz (fun _ => False)) (by intro x hx hy; simp only [Between, World.size_alloc, or_false] at hx hy <;> omega))
  exact hall.mono (by intro x hx; simp only [Between, World.size_alloc, or_false] at hx ⊢; omega)

set_option maxRecDepth 100000 in
set_option maxHeartbeats 1000000 in
theorem eqParam_of (v0 : ByteArray) (ts1 : List Tr) (l1 : ts1.length = 3) (h1 : EqC 47 ts1) : EqC 175 ([.leaf (.string v0)] ++ (ts1 ++ ([]))) := by
  intro cs ds w hr hr'
  obtain ⟨b0, r0, rfl, g0, n0⟩ := RepL.split hr
  obtain ⟨y0, rfl⟩ := list1 g0.length.symm
  obtain ⟨rfl, k0⟩ := g0.1.leaf_eq
  obtain ⟨b1, r1, rfl, g1, n1⟩ := RepL.split n0
  obtain ⟨x1_0, x1_1, x1_2, rfl⟩ := list3 (g1.length.symm.trans l1)
  obtain rfl := RepL.nil_eq n1
  clear hr
  obtain ⟨zb0, zr0, rfl, zg0, zn0⟩ := RepL.split hr'
  obtain ⟨zy0, rfl⟩ := list1 zg0.length.symm
  obtain ⟨rfl, zk0⟩ := zg0.1.leaf_eq
  obtain ⟨zb1, zr1, rfl, zg1, zn1⟩ := RepL.split zn0
  obtain ⟨zx1_0, zx1_1, zx1_2, rfl⟩ := list3 (zg1.length.symm.trans l1)
  obtain rfl := RepL.nil_eq zn1
  clear hr'
  have G0 := Lib.hid g0
  have K0 := Lib.hid k0
  clear g0 n0 k0
  have G1 := Lib.hid g1
  clear g1 n1
  have zG0 := Lib.hid zg0
  have zK0 := Lib.hid zk0
  clear zg0 zn0 zk0
  have zG1 := Lib.hid zg1
  clear zg1 zn1
  simp only [List.cons_append, List.nil_append]
  go_enter Tryz.func175, Tryz.ntmps175
  go_wp2_with fail
  refine (h1 _ _ _ (G1.out.ext (.alloc (.alloc (.refl _) _) _)) (zG1.out.ext (.alloc (.alloc (.refl _) _) _))).mono ?_
  rintro e w1 ⟨rfl, hw1⟩
  have HW1 := Lib.hid hw1
  have ob1 := (Two.new w _ _ _ _).ext hw1
  have OBH := Lib.hid ob1
  have ce1 := ob1.o0.cell
  have cf1 := ob1.o1.cell
  clear hw1 ob1
  go_wp2_with fail
  go_ret
  exact ⟨rfl, (Ext.trans (.alloc (.alloc (.refl _) _) _) HW1.out)⟩

set_option maxRecDepth 100000 in
set_option maxHeartbeats 1000000 in
theorem szParamS_of (es : List (List Tr)) (h5 : ∀ e ∈ es, e.length = 4) (H : ∀ e ∈ es, SzC 233 e) : SzSC 219 4 es := by
  intro s left w hs h0 h1
  obtain ⟨a, cap, rfl, hl, hm⟩ := hs.shape
  unfold maxLen at hm
  have HS := Lib.hid hs
  have HH := Lib.hid H
  have H5 := Lib.hid h5
  clear hs H h5
  go_enter Tryz.func219, Tryz.ntmps219
  go_wp2_with fail
  · go_ret
    exact ⟨-1, rfl, .refl _, by omega, by omega, by omega⟩
  go_loopw [1, 5] (fun l i wr => ∃ (k : Nat) (r : Int), k ≤ es.length ∧ i = .int .i64 k ∧ l = .int .i64 r ∧ Ext w wr ∧ 0 ≤ r ∧ r + es.length + Tr.bulkAll (es.take k) ≤ left) (fun _ i _ => es.length - (intOf i).toNat)
  case atStart => exact ⟨0, _, Nat.zero_le _, rfl, rfl, .refl _, by omega, by simp [Tr.bulkAll]⟩
  case round =>
    obtain ⟨k, r, hk, rfl, rfl, hw, hr0, hrb⟩ := hrel
    by_cases hlt : k < es.length
    · obtain ⟨b, off, cs, rfl, hb, hcs, hc⟩ := (HS.out.ext hw).at2 (k := k) (List.getElem?_eq_getElem hlt)
      have hmem : es[k] ∈ es := List.getElem_mem hlt
      have l5 := H5.out _ hmem
      have hbt := Lib.hid (Tr.bulkAll_take es k hlt)
      have HCS := Lib.hid hcs
      have HC := Lib.hid hc
      have HM := Lib.hid hmem
      have HI : Hid ((Tryz.prog.info? 286).map (·.size) = some cs.length) := by rw [← hcs.length, l5]; exact isz286
      clear hcs hc hmem l5
      go_wp2_with (refine wpList_load_rep rfl 286 _ rfl b (off + k * 4) rfl cs _ Tryz.underlying286 HI.out HC.out ?_)
      refine (HH.out _ HM.out _ _ _ HCS.out hr0 (by omega)).mono ?_
      rintro e w1 ⟨r1, rfl, hw1, hr1, hr2, hr3⟩
      have HR3 := Lib.hid hr3
      have HW1 := Lib.hid hw1
      clear hr3 hw1
      go_wp2_with fail
      · go_ret
        exact ⟨-1, rfl, hw.trans HW1.out, by omega, by omega, by omega⟩
      · go_roundw
        case rel =>
          have p0 : 0 ≤ r1 := by assumption
          have e1 := HR3.out p0
          have e2 := hbt.out
          exact ⟨k + 1, r1, by omega, by go_num, rfl, hw.trans HW1.out, p0, by omega⟩
        case measure => simp [intOf]; omega
    · have hkl : k = es.length := by omega
      go_wp2_with fail
      go_ret
      refine ⟨r, rfl, hw, by omega, by omega, fun _ => ?_⟩
      rw [hkl, List.take_length] at hrb
      simp only [Tr.bulk]
      omega

set_option maxRecDepth 100000 in
set_option maxHeartbeats 1000000 in
theorem toParamS_of (es : List (List Tr)) (h5 : ∀ e ∈ es, e.length = 4) (H : ∀ e ∈ es, ToC 239 e) : ToSC 224 4 es := by
  intro s w hs hbk
  obtain ⟨a, cap, rfl, hl, hm⟩ := hs.shape
  unfold maxLen at hm
  have HS := Lib.hid hs
  have HH := Lib.hid H
  have H5 := Lib.hid h5
  have n0 : (0 : Int) ≤ es.length := by omega
  clear hs H h5
  go_enter Tryz.func224, Tryz.ntmps224
  go_wp2_with (refine wpList_make_rep rfl 99 (.tmp 6) rfl es.length rfl 199 Tryz.underlying99 4 64 iszb199 (by omega) (by omega) ?_; intro wm arr0 ha0 hob0 hx0 hz0; have HA0 := Lib.hid ha0; have HOB0 := Lib.hid hob0; have HX0 := Lib.hid hx0; have HZ0 := Lib.hid hz0; clear ha0 hob0 hx0 hz0)
  go_loopw [4] (fun i wr => ∃ (k : Nat) (arr : Array Value), k ≤ es.length ∧ i = .int .i64 k ∧ Ext w wr ∧ w.heap.size < wr.heap.size ∧ OB wr w.heap.size 199 arr ∧ arr.size = es.length * 4 ∧ Part wr w.heap.size arr 4 es k) (fun i _ => es.length - (intOf i).toNat)
  case atStart => exact ⟨0, arr0, Nat.zero_le _, rfl, HX0.out, by rw [HZ0.out]; omega, HOB0.out, HA0.out, Part.zero _ _ _ _ _⟩
  case round =>
    obtain ⟨k, arr, hk, rfl, hw, hgt, hob, hasz, hpart⟩ := hrel
    have HOB := Lib.hid hob
    have HAS := Lib.hid hasz
    have HP := Lib.hid hpart
    clear hob hasz hpart
    by_cases hlt : k < es.length
    · obtain ⟨b, off, cs, rfl, hb, hcs, hc⟩ := (HS.out.ext hw).at2 (k := k) (List.getElem?_eq_getElem hlt)
      have hmem : es[k] ∈ es := List.getElem_mem hlt
      have l5 := H5.out _ hmem
      have hbe := Tr.bulkAll_le hlt
      have HCS := Lib.hid hcs
      have HC := Lib.hid hc
      have HM := Lib.hid hmem
      have HL5 := Lib.hid l5
      have HI : Hid ((Tryz.prog.info? 286).map (·.size) = some cs.length) := by rw [← hcs.length, l5]; exact isz286
      clear hcs hc hmem l5
      go_wp2_with (refine wpList_load_rep rfl 286 (.tmp 18) rfl b (off + k * 4) rfl cs _ Tryz.underlying286 HI.out HC.out ?_)
      refine (HH.out _ HM.out _ _ HCS.out (by omega)).mono ?_
      rintro e w1 ⟨cs1, rfl, hw1, ho1⟩
      have HW1 := Lib.hid hw1
      have HO1 := Lib.hid ho1
      have hcl : cs1.length = 4 := ho1.1.trans HL5.out
      have HCL := Lib.hid hcl
      have hfit : 0 + k * 4 + cs1.length ≤ arr.size := by have := HAS.out; omega
      have HF := Lib.hid hfit
      clear hw1 ho1 hcl hfit
      go_wp2_with (refine wpList_store_rep rfl 199 (.tmp 21) (.tmp 20) rfl w.heap.size (k * 4) rfl cs1 rfl 199 arr (HOB.out.ext HW1.out) (by rw [HCL.out]; exact isz199) (by have := HF.out; omega) (HO1.out.rep.one) ?_; intro w2 hob2 hg2 hz2; have HOB2 := Lib.hid hob2; have HG2 := Lib.hid hg2; have HZ2 := Lib.hid hz2; clear hob2 hg2 hz2)
      go_roundw
      case rel =>
        have hfit : k * 4 + cs1.length ≤ arr.size := by have := HF.out; omega
        refine ⟨k + 1, _, by omega, by go_num, ?_, ?_, HOB2.out, by rw [splice_size hfit]; exact HAS.out, HP.out.step hgt HW1.out (List.getElem?_eq_getElem hlt) HO1.out HCL.out HAS.out HG2.out HOB2.out⟩
        · exact grown_ext (hw.trans HW1.out) HG2.out (Nat.le_refl _)
        · have := HW1.out.size
          have := HZ2.out
          omega
      case measure => simp [intOf]; omega
    · have hkl : k = es.length := by omega
      go_wp2_with fail
      go_ret
      subst hkl
      exact ⟨_, rfl, hw, (HP.out.done HOB.out H5.out (Nat.le_refl _) (by unfold maxLen; omega) (Nat.le_refl _)).mono fun x hx => ⟨hx.1, hx.2⟩⟩

set_option maxRecDepth 100000 in
set_option maxHeartbeats 1000000 in
theorem eqParamS_of (es : List (List Tr)) (h5 : ∀ e ∈ es, e.length = 4) (H : ∀ e ∈ es, EqC 175 e) : EqSC 129 4 es := by
  intro s u w hs hu
  obtain ⟨a, cap, rfl, hl, hm⟩ := hs.shape
  obtain ⟨a', cap', rfl, hl', hm'⟩ := hu.shape
  unfold maxLen at hm hm'
  have HS := Lib.hid hs
  have HU := Lib.hid hu
  have HH := Lib.hid H
  have H5 := Lib.hid h5
  clear hs hu H h5
  go_enter Tryz.func129, Tryz.ntmps129
  go_wp2_with fail
  go_loopw [5] (fun i wr => ∃ k : Nat, k ≤ es.length ∧ i = .int .i64 k ∧ Ext w wr) (fun i _ => es.length - (intOf i).toNat)
  case atStart => exact ⟨0, Nat.zero_le _, rfl, .refl _⟩
  case round =>
    obtain ⟨k, hk, rfl, hw⟩ := hrel
    by_cases hlt : k < es.length
    · obtain ⟨b, off, cs, rfl, hb, hcs, hc⟩ := (HS.out.ext hw).at2 (k := k) (List.getElem?_eq_getElem hlt)
      obtain ⟨b', off', ds, rfl, hb', hds, hd⟩ := (HU.out.ext hw).at2 (k := k) (List.getElem?_eq_getElem hlt)
      have hmem : es[k] ∈ es := List.getElem_mem hlt
      have l5 := H5.out _ hmem
      have HCS := Lib.hid hcs
      have HDS := Lib.hid hds
      have HM := Lib.hid hmem
      have HC := Lib.hid hc
      have HD := Lib.hid hd
      have HI : Hid ((Tryz.prog.info? 199).map (·.size) = some cs.length) := by rw [← hcs.length, l5]; exact isz199
      have HJ : Hid ((Tryz.prog.info? 199).map (·.size) = some ds.length) := by rw [← hds.length, l5]; exact isz199
      clear hcs hds hc hd l5 hmem
      go_wp2_with fail
      have ki : (k : Int) < (es.length : Int) := by omega
      have k0 : (0 : Int) ≤ (k : Int) := by omega
      refine wp_region_still_tail 8 (by kernel_rfl) (by kernel_rfl) ?_
      simp only [List.take_succ_cons, List.take_zero, List.drop_succ_cons, List.drop_zero]
      change wpStill _ _ wr.drew _ _ _
      repeat (first
        | (refine wpStill_load_rep rfl 199 (.tmp 19) rfl b (off + k * 4) rfl cs _ Tryz.underlying199 HI.out HC.out ?_; simp only [Act.put])
        | (refine wpStill_load_rep rfl 199 (.tmp 23) rfl b' (off' + k * 4) rfl ds _ Tryz.underlying199 HJ.out HD.out ?_; simp only [Act.put])
        | still_step)
      refine wpStill_nil ?_
      change wpList _ _ _ _ _ wr.drew
      go_wp2_with fail
      refine (HH.out _ HM.out _ _ _ (HCS.out.ext (.drew (.refl _))) (HDS.out.ext (.drew (.refl _)))).mono ?_
      rintro e w1 ⟨rfl, hw1⟩
      have HW1 := Lib.hid hw1
      clear hw1
      go_wp2_with fail
      go_roundw
      case rel => exact ⟨k + 1, by omega, by go_num, hw.trans (.trans (.drew (.refl _)) HW1.out)⟩
      case measure => simp [intOf]; omega
    · go_wp2_with fail
      go_ret
      exact ⟨rfl, hw⟩

end Go.Proofs.YtnakkelglbcecaaGreat

namespace Go.Proofs.YtnakkelglbcecaaGreat
open Go.RowKit Go.Proofs

set_option maxRecDepth 100000 in
set_option maxHeartbeats 1000000 in
theorem szFunction_of (v0 : ByteArray) (es1 : List (List Tr)) (es2 : List (List Tr)) (es3 : List (List Tr)) (ts4 : List Tr) (l4 : ts4.length = 3) (ts5 : List Tr) (l5 : ts5.length = 9) (h1 : SzSC 178 1 es1) (h2 : SzSC 50 4 es2) (h3 : SzSC 219 4 es3) (h4 : SzC 43 ts4) (h5 : SzC 220 ts5) : SzC 206 ([.leaf (.string v0)] ++ ([.row 1 es1] ++ ([.row 4 es2] ++ ([.row 4 es3] ++ (ts4 ++ (ts5 ++ ([]))))))) := by
  intro cs left w hr hl0 hl1
  obtain ⟨b0, r0, rfl, g0, n0⟩ := RepL.split hr
  obtain ⟨y0, rfl⟩ := list1 g0.length.symm
  obtain ⟨rfl, k0⟩ := g0.1.leaf_eq
  obtain ⟨b1, r1, rfl, g1, n1⟩ := RepL.split n0
  obtain ⟨y1, rfl⟩ := list1 g1.length.symm
  obtain ⟨a1, c1, rfl, -, -⟩ := g1.1.shape
  obtain ⟨b2, r2, rfl, g2, n2⟩ := RepL.split n1
  obtain ⟨y2, rfl⟩ := list1 g2.length.symm
  obtain ⟨a2, c2, rfl, -, -⟩ := g2.1.shape
  obtain ⟨b3, r3, rfl, g3, n3⟩ := RepL.split n2
  obtain ⟨y3, rfl⟩ := list1 g3.length.symm
  obtain ⟨a3, c3, rfl, -, -⟩ := g3.1.shape
  obtain ⟨b4, r4, rfl, g4, n4⟩ := RepL.split n3
  obtain ⟨x4_0, x4_1, x4_2, rfl⟩ := list3 (g4.length.symm.trans l4)
  obtain ⟨b5, r5, rfl, g5, n5⟩ := RepL.split n4
  obtain ⟨x5_0, x5_1, x5_2, x5_3, x5_4, x5_5, x5_6, x5_7, x5_8, rfl⟩ := list9 (g5.length.symm.trans l5)
  obtain rfl := RepL.nil_eq n5
  clear hr
  have q0 : v0.size ≤ 9223372036854775807 := by have := k0; simp only [LeafOk, maxLen] at this; omega
  have G0 := Lib.hid g0
  have K0 := Lib.hid k0
  clear g0 n0 k0
  have G1 := Lib.hid g1
  clear g1 n1
  have G2 := Lib.hid g2
  clear g2 n2
  have G3 := Lib.hid g3
  clear g3 n3
  have G4 := Lib.hid g4
  clear g4 n4
  have G5 := Lib.hid g5
  clear g5 n5
  simp only [List.cons_append, List.nil_append]
  go_enter Tryz.func206, Tryz.ntmps206
  go_wp2_with fail
  · go_ret
    exact ⟨-1, rfl, (.alloc (.refl _) _), by omega, by omega, by omega⟩
  refine (h1 _ _ _ (G1.out.1.ext (.alloc (.refl _) _)) (by omega) (by omega)).mono ?_
  rintro e w1 ⟨r1, rfl, hw1, ra1, rb1, rc1⟩
  have HW1 := Lib.hid hw1
  have HR1 := Lib.hid rc1
  have ob1 := (OB.new w _ _).ext hw1
  have OBH := Lib.hid ob1
  have ce1 := ob1.cell
  clear hw1 rc1 ob1
  go_wp2_with fail
  · go_ret
    exact ⟨-1, rfl, (Ext.trans (.alloc (.refl _) _) HW1.out), by omega, by omega, by omega⟩
  refine (h2 _ _ _ (G2.out.1.ext (Ext.trans (.alloc (.refl _) _) HW1.out)) (by omega) (by omega)).mono ?_
  rintro e w2 ⟨r2, rfl, hw2, ra2, rb2, rc2⟩
  have HW2 := Lib.hid hw2
  have HR2 := Lib.hid rc2
  have ob2 := OBH.out.ext hw2
  clear OBH ce1
  have OBH := Lib.hid ob2
  have ce2 := ob2.cell
  clear hw2 rc2 ob2
  go_wp2_with fail
  · go_ret
    exact ⟨-1, rfl, (Ext.trans (Ext.trans (.alloc (.refl _) _) HW1.out) HW2.out), by omega, by omega, by omega⟩
  refine (h3 _ _ _ (G3.out.1.ext (Ext.trans (Ext.trans (.alloc (.refl _) _) HW1.out) HW2.out)) (by omega) (by omega)).mono ?_
  rintro e w3 ⟨r3, rfl, hw3, ra3, rb3, rc3⟩
  have HW3 := Lib.hid hw3
  have HR3 := Lib.hid rc3
  have ob3 := OBH.out.ext hw3
  clear OBH ce2
  have OBH := Lib.hid ob3
  have ce3 := ob3.cell
  clear hw3 rc3 ob3
  go_wp2_with fail
  · go_ret
    exact ⟨-1, rfl, (Ext.trans (Ext.trans (Ext.trans (.alloc (.refl _) _) HW1.out) HW2.out) HW3.out), by omega, by omega, by omega⟩
  refine (h4 _ _ _ (G4.out.ext (Ext.trans (Ext.trans (Ext.trans (.alloc (.refl _) _) HW1.out) HW2.out) HW3.out)) (by omega) (by omega)).mono ?_
  rintro e w4 ⟨r4, rfl, hw4, ra4, rb4, rc4⟩
  have HW4 := Lib.hid hw4
  have HR4 := Lib.hid rc4
  have ob4 := OBH.out.ext hw4
  clear OBH ce3
  have OBH := Lib.hid ob4
  have ce4 := ob4.cell
  clear hw4 rc4 ob4
  go_wp2_with fail
  · go_ret
    exact ⟨-1, rfl, (Ext.trans (Ext.trans (Ext.trans (Ext.trans (.alloc (.refl _) _) HW1.out) HW2.out) HW3.out) HW4.out), by omega, by omega, by omega⟩
  refine (h5 _ _ _ (G5.out.ext (Ext.trans (Ext.trans (Ext.trans (Ext.trans (.alloc (.refl _) _) HW1.out) HW2.out) HW3.out) HW4.out)) (by omega) (by omega)).mono ?_
  rintro e w5 ⟨r5, rfl, hw5, ra5, rb5, rc5⟩
  have HW5 := Lib.hid hw5
  have HR5 := Lib.hid rc5
  have ob5 := OBH.out.ext hw5
  clear OBH ce4
  have OBH := Lib.hid ob5
  have ce5 := ob5.cell
  clear hw5 rc5 ob5
  go_wp2_with fail
  · go_ret
    exact ⟨-1, rfl, (Ext.trans (Ext.trans (Ext.trans (Ext.trans (Ext.trans (.alloc (.refl _) _) HW1.out) HW2.out) HW3.out) HW4.out) HW5.out), by omega, by omega, by omega⟩
  go_ret
  refine ⟨_, rfl, (Ext.trans (Ext.trans (Ext.trans (Ext.trans (Ext.trans (.alloc (.refl _) _) HW1.out) HW2.out) HW3.out) HW4.out) HW5.out), by omega, by omega, fun hp => ?_⟩
  have e1 := HR1.out (by omega)
  have e2 := HR2.out (by omega)
  have e3 := HR3.out (by omega)
  have e4 := HR4.out (by omega)
  have e5 := HR5.out (by omega)
  simp only [Tr.bulkL_append, Tr.bulkL, Tr.bulk]
  simp only [Tr.bulk] at e1 e2 e3
  omega

set_option maxRecDepth 100000 in
set_option maxHeartbeats 1000000 in
theorem toFunction_of (v0 : ByteArray) (es1 : List (List Tr)) (es2 : List (List Tr)) (es3 : List (List Tr)) (ts4 : List Tr) (l4 : ts4.length = 3) (ts5 : List Tr) (l5 : ts5.length = 9) (h1 : ToSC 183 1 es1) (h2 : ToSC 52 4 es2) (h3 : ToSC 224 4 es3) (h4 : ToC 45 ts4) (h5 : ToC 225 ts5) : ToC 210 ([.leaf (.string v0)] ++ ([.row 1 es1] ++ ([.row 4 es2] ++ ([.row 4 es3] ++ (ts4 ++ (ts5 ++ ([]))))))) := by
  intro cs w hr hbk
  simp only [Tr.bulkL_append, Tr.bulkL, Tr.bulk] at hbk
  obtain ⟨b0, r0, rfl, g0, n0⟩ := RepL.split hr
  obtain ⟨y0, rfl⟩ := list1 g0.length.symm
  obtain ⟨rfl, k0⟩ := g0.1.leaf_eq
  obtain ⟨b1, r1, rfl, g1, n1⟩ := RepL.split n0
  obtain ⟨y1, rfl⟩ := list1 g1.length.symm
  obtain ⟨a1, c1, rfl, -, -⟩ := g1.1.shape
  obtain ⟨b2, r2, rfl, g2, n2⟩ := RepL.split n1
  obtain ⟨y2, rfl⟩ := list1 g2.length.symm
  obtain ⟨a2, c2, rfl, -, -⟩ := g2.1.shape
  obtain ⟨b3, r3, rfl, g3, n3⟩ := RepL.split n2
  obtain ⟨y3, rfl⟩ := list1 g3.length.symm
  obtain ⟨a3, c3, rfl, -, -⟩ := g3.1.shape
  obtain ⟨b4, r4, rfl, g4, n4⟩ := RepL.split n3
  obtain ⟨x4_0, x4_1, x4_2, rfl⟩ := list3 (g4.length.symm.trans l4)
  obtain ⟨b5, r5, rfl, g5, n5⟩ := RepL.split n4
  obtain ⟨x5_0, x5_1, x5_2, x5_3, x5_4, x5_5, x5_6, x5_7, x5_8, rfl⟩ := list9 (g5.length.symm.trans l5)
  obtain rfl := RepL.nil_eq n5
  clear hr
  have G0 := Lib.hid g0
  have K0 := Lib.hid k0
  clear g0 n0 k0
  have G1 := Lib.hid g1
  clear g1 n1
  have G2 := Lib.hid g2
  clear g2 n2
  have G3 := Lib.hid g3
  clear g3 n3
  have G4 := Lib.hid g4
  clear g4 n4
  have G5 := Lib.hid g5
  clear g5 n5
  simp only [List.cons_append, List.nil_append]
  go_enter Tryz.func210, Tryz.ntmps210
  go_wp2_with fail
  refine (h1 _ _ (G1.out.1.ext (.alloc (.alloc (.alloc (.refl _) _) _) _)) (by omega)).mono ?_
  rintro e w1 ⟨d1, rfl, hw1, ho1⟩
  obtain ⟨da1, dc1, rfl, -, -⟩ := ho1.rep.shape
  have HW1 := Lib.hid hw1
  have HO1 := Lib.hid ho1
  have ob1 := (Three.new w _ _ _ _ _ _).ext hw1
  have OBHw1 := Lib.hid ob1
  have cew1 := ob1.o0.cell
  have hzw1 : w.heap.size < w1.heap.size := ob1.o0.lt
  clear hw1 ob1 ho1
  go_wp2_with (first
    | (refine wpList_store_cell rfl 54 _ _ rfl (w.heap.size + 1 + 1) 1 rfl (.slice da1 es1.length dc1) rfl rfl 105 _ OBHw1.out.o2 isz54 (by simp [splice]) rfl ?_; intro u1 hou1 hgu1 hzu1; have OBHu1 := Lib.hid (OBHw1.out.grown hgu1 hou1 (by omega) (by omega)); have HGu1 := Lib.hid hgu1; have ceu1 := OBHu1.out.o0.cell; have hqu1 : w.heap.size < u1.heap.size := OBHu1.out.o0.lt; clear hou1 hgu1 hzu1 OBHw1 cew1))
  refine (h2 _ _ (G2.out.1.ext (grown_ext (Ext.trans (.alloc (.alloc (.alloc (.refl _) _) _) _) HW1.out) HGu1.out (by omega))) (by omega)).mono ?_
  rintro e w2 ⟨d2, rfl, hw2, ho2⟩
  obtain ⟨da2, dc2, rfl, -, -⟩ := ho2.rep.shape
  have HW2 := Lib.hid hw2
  have HO2 := Lib.hid ho2
  have ob2 := OBHu1.out.ext hw2
  clear OBHu1 ceu1
  have OBHw2 := Lib.hid ob2
  have cew2 := ob2.o0.cell
  have hzw2 : w.heap.size < w2.heap.size := ob2.o0.lt
  clear hw2 ob2 ho2
  go_wp2_with (first
    | (refine wpList_store_cell rfl 82 _ _ rfl (w.heap.size + 1 + 1) 2 rfl (.slice da2 es2.length dc2) rfl rfl 105 _ OBHw2.out.o2 isz82 (by simp [splice]) rfl ?_; intro u2 hou2 hgu2 hzu2; have OBHu2 := Lib.hid (OBHw2.out.grown hgu2 hou2 (by omega) (by omega)); have HGu2 := Lib.hid hgu2; have ceu2 := OBHu2.out.o0.cell; have hqu2 : w.heap.size < u2.heap.size := OBHu2.out.o0.lt; clear hou2 hgu2 hzu2 OBHw2 cew2))
  refine (h3 _ _ (G3.out.1.ext (grown_ext (Ext.trans (grown_ext (Ext.trans (.alloc (.alloc (.alloc (.refl _) _) _) _) HW1.out) HGu1.out (by omega)) HW2.out) HGu2.out (by omega))) (by omega)).mono ?_
  rintro e w3 ⟨d3, rfl, hw3, ho3⟩
  obtain ⟨da3, dc3, rfl, -, -⟩ := ho3.rep.shape
  have HW3 := Lib.hid hw3
  have HO3 := Lib.hid ho3
  have ob3 := OBHu2.out.ext hw3
  clear OBHu2 ceu2
  have OBHw3 := Lib.hid ob3
  have cew3 := ob3.o0.cell
  have hzw3 : w.heap.size < w3.heap.size := ob3.o0.lt
  clear hw3 ob3 ho3
  go_wp2_with (first
    | (refine wpList_store_cell rfl 99 _ _ rfl (w.heap.size + 1 + 1) 3 rfl (.slice da3 es3.length dc3) rfl rfl 105 _ OBHw3.out.o2 isz99 (by simp [splice]) rfl ?_; intro u3 hou3 hgu3 hzu3; have OBHu3 := Lib.hid (OBHw3.out.grown hgu3 hou3 (by omega) (by omega)); have HGu3 := Lib.hid hgu3; have ceu3 := OBHu3.out.o0.cell; have hqu3 : w.heap.size < u3.heap.size := OBHu3.out.o0.lt; clear hou3 hgu3 hzu3 OBHw3 cew3))
  refine (h4 _ _ (G4.out.ext (grown_ext (Ext.trans (grown_ext (Ext.trans (grown_ext (Ext.trans (.alloc (.alloc (.alloc (.refl _) _) _) _) HW1.out) HGu1.out (by omega)) HW2.out) HGu2.out (by omega)) HW3.out) HGu3.out (by omega))) (by omega)).mono ?_
  rintro e w4 ⟨d4, rfl, hw4, ho4⟩
  obtain ⟨d4_0, d4_1, d4_2, rfl⟩ := list3 (ho4.1.trans l4)
  have HW4 := Lib.hid hw4
  have HO4 := Lib.hid ho4
  have ob4 := OBHu3.out.ext hw4
  clear OBHu3 ceu3
  have OBHw4 := Lib.hid ob4
  have cew4 := ob4.o0.cell
  have hzw4 : w.heap.size < w4.heap.size := ob4.o0.lt
  clear hw4 ob4 ho4
  go_wp2_with (first
    | (refine wpList_store_rep rfl 47 _ _ rfl (w.heap.size + 1 + 1) 4 rfl [d4_0, d4_1, d4_2] rfl 105 _ OBHw4.out.o2 isz47 (by simp [splice]) HO4.out.rep.one ?_; intro u4 hou4 hgu4 hzu4; have OBHu4 := Lib.hid (OBHw4.out.grown hgu4 hou4 (by omega) (by omega)); have HGu4 := Lib.hid hgu4; have ceu4 := OBHu4.out.o0.cell; have hqu4 : w.heap.size < u4.heap.size := OBHu4.out.o0.lt; clear hou4 hgu4 hzu4 OBHw4 cew4))
  refine (h5 _ _ (G5.out.ext (grown_ext (Ext.trans (grown_ext (Ext.trans (grown_ext (Ext.trans (grown_ext (Ext.trans (.alloc (.alloc (.alloc (.refl _) _) _) _) HW1.out) HGu1.out (by omega)) HW2.out) HGu2.out (by omega)) HW3.out) HGu3.out (by omega)) HW4.out) HGu4.out (by omega))) (by omega)).mono ?_
  rintro e w5 ⟨d5, rfl, hw5, ho5⟩
  obtain ⟨d5_0, d5_1, d5_2, d5_3, d5_4, d5_5, d5_6, d5_7, d5_8, rfl⟩ := list9 (ho5.1.trans l5)
  have HW5 := Lib.hid hw5
  have HO5 := Lib.hid ho5
  have ob5 := OBHu4.out.ext hw5
  clear OBHu4 ceu4
  have OBHw5 := Lib.hid ob5
  have cew5 := ob5.o0.cell
  have hzw5 : w.heap.size < w5.heap.size := ob5.o0.lt
  clear hw5 ob5 ho5
  have hone : Hid (∀ v ∈ ([.string v0, .slice da1 es1.length dc1, .slice da2 es2.length dc2, .slice da3 es3.length dc3, d4_0, d4_1, d4_2, d5_0, d5_1, d5_2, d5_3, d5_4, d5_5, d5_6, d5_7, d5_8] : List Value), v.oneCell' = true) := by
    intro v hv
    simp only [List.mem_cons, List.not_mem_nil, or_false] at hv
    rcases hv with rfl | rfl | rfl | rfl | rfl | rfl | rfl | rfl | rfl | rfl | rfl | rfl | rfl | rfl | rfl | rfl <;> first | rfl | (refine HO4.out.rep.one _ ?_; simp; done) | (refine HO5.out.rep.one _ ?_; simp; done)
  go_wp2_with (first
    | (refine wpList_store_rep rfl 103 _ _ rfl (w.heap.size + 1 + 1) 7 rfl [d5_0, d5_1, d5_2, d5_3, d5_4, d5_5, d5_6, d5_7, d5_8] rfl 105 _ OBHw5.out.o2 isz103 (by simp [splice]) HO5.out.rep.one ?_; intro u5 hou5 hgu5 hzu5; have OBHu5 := Lib.hid (OBHw5.out.grown hgu5 hou5 (by omega) (by omega)); have HGu5 := Lib.hid hgu5; have ceu5 := OBHu5.out.o0.cell; have hqu5 : w.heap.size < u5.heap.size := OBHu5.out.o0.lt; clear hou5 hgu5 hzu5 OBHw5 cew5)
    | (refine wpList_load_rep rfl 105 _ rfl (w.heap.size + 1 + 1) 0 rfl [.string v0, .slice da1 es1.length dc1, .slice da2 es2.length dc2, .slice da3 es3.length dc3, d4_0, d4_1, d4_2, d5_0, d5_1, d5_2, d5_3, d5_4, d5_5, d5_6, d5_7, d5_8] _ Tryz.underlying105 isz105 (fun j v hv => by rw [OBHu5.out.o2.cell, Nat.zero_add]; simpa [splice] using hv) ?_)
    | (refine wpList_store_rep rfl 105 _ _ rfl (w.heap.size + 1) 0 rfl [.string v0, .slice da1 es1.length dc1, .slice da2 es2.length dc2, .slice da3 es3.length dc3, d4_0, d4_1, d4_2, d5_0, d5_1, d5_2, d5_3, d5_4, d5_5, d5_6, d5_7, d5_8] rfl 105 _ OBHu5.out.o1 isz105 (by simp) hone.out ?_; intro wz hoz hgz hzz; have HOZ := Lib.hid hoz; have HGZ := Lib.hid hgz; clear hoz hgz hzz))
  have HOF : OB wz (w.heap.size + 1) 105 ⟨[.string v0, .slice da1 es1.length dc1, .slice da2 es2.length dc2, .slice da3 es3.length dc3, d4_0, d4_1, d4_2, d5_0, d5_1, d5_2, d5_3, d5_4, d5_5, d5_6, d5_7, d5_8]⟩ := HOZ.out
  refine bodyPost_ret (results_cell_row Tryz.results210 _ _ (w.heap.size + 1) 105 ⟨[.string v0, .slice da1 es1.length dc1, .slice da2 es2.length dc2, .slice da3 es3.length dc3, d4_0, d4_1, d4_2, d5_0, d5_1, d5_2, d5_3, d5_4, d5_5, d5_6, d5_7, d5_8]⟩ _ _ rfl HOF Tryz.underlying105 rfl isz105) rfl ⟨[.string v0, .slice da1 es1.length dc1, .slice da2 es2.length dc2, .slice da3 es3.length dc3, d4_0, d4_1, d4_2, d5_0, d5_1, d5_2, d5_3, d5_4, d5_5, d5_6, d5_7, d5_8], rfl, (grown_ext (grown_ext (Ext.trans (grown_ext (Ext.trans (grown_ext (Ext.trans (grown_ext (Ext.trans (grown_ext (Ext.trans (.alloc (.alloc (.alloc (.refl _) _) _) _) HW1.out) HGu1.out (by omega)) HW2.out) HGu2.out (by omega)) HW3.out) HGu3.out (by omega)) HW4.out) HGu4.out (by omega)) HW5.out) HGu5.out (by omega)) HGZ.out (by omega)), ?_⟩
  have sw1 := HW1.out.size
  have su1 := HGu1.out.size
  have sw2 := HW2.out.size
  have su2 := HGu2.out.size
  have sw3 := HW3.out.size
  have su3 := HGu3.out.size
  have sw4 := HW4.out.size
  have su4 := HGu4.out.size
  have sw5 := HW5.out.size
  have su5 := HGu5.out.size
  have swz := HGZ.out.size
  simp only [World.size_alloc] at sw1
  have ow1 := HO1.out.keeps (lo := w.heap.size + 1 + 1 + 1) (Keeps.trans (Keeps.of_grown HGu1.out (by omega)) (Keeps.trans (Keeps.of_ext HW2.out) (Keeps.trans (Keeps.of_grown HGu2.out (by omega)) (Keeps.trans (Keeps.of_ext HW3.out) (Keeps.trans (Keeps.of_grown HGu3.out (by omega)) (Keeps.trans (Keeps.of_ext HW4.out) (Keeps.trans (Keeps.of_grown HGu4.out (by omega)) (Keeps.trans (Keeps.of_ext HW5.out) (Keeps.trans (Keeps.of_grown HGu5.out (by omega)) (Keeps.of_grown HGZ.out (by omega))))))))))) (by intro x hx; simp only [Between, World.size_alloc] at hx; omega)
  have ow2 := HO2.out.keeps (lo := w.heap.size + 1 + 1 + 1) (Keeps.trans (Keeps.of_grown HGu2.out (by omega)) (Keeps.trans (Keeps.of_ext HW3.out) (Keeps.trans (Keeps.of_grown HGu3.out (by omega)) (Keeps.trans (Keeps.of_ext HW4.out) (Keeps.trans (Keeps.of_grown HGu4.out (by omega)) (Keeps.trans (Keeps.of_ext HW5.out) (Keeps.trans (Keeps.of_grown HGu5.out (by omega)) (Keeps.of_grown HGZ.out (by omega))))))))) (by intro x hx; simp only [Between, World.size_alloc] at hx; omega)
  have ow3 := HO3.out.keeps (lo := w.heap.size + 1 + 1 + 1) (Keeps.trans (Keeps.of_grown HGu3.out (by omega)) (Keeps.trans (Keeps.of_ext HW4.out) (Keeps.trans (Keeps.of_grown HGu4.out (by omega)) (Keeps.trans (Keeps.of_ext HW5.out) (Keeps.trans (Keeps.of_grown HGu5.out (by omega)) (Keeps.of_grown HGZ.out (by omega))))))) (by intro x hx; simp only [Between, World.size_alloc] at hx; omega)
  have ow4 := HO4.out.keeps (lo := w.heap.size + 1 + 1 + 1) (Keeps.trans (Keeps.of_grown HGu4.out (by omega)) (Keeps.trans (Keeps.of_ext HW5.out) (Keeps.trans (Keeps.of_grown HGu5.out (by omega)) (Keeps.of_grown HGZ.out (by omega))))) (by intro x hx; simp only [Between, World.size_alloc] at hx; omega)
  have ow5 := HO5.out.keeps (lo := w.heap.size + 1 + 1 + 1) (Keeps.trans (Keeps.of_grown HGu5.out (by omega)) (Keeps.of_grown HGZ.out (by omega))) (by intro x hx; simp only [Between, World.size_alloc] at hx; omega)
  have hall := OwnL.cons_leaf K0.out (OwnL.append (OwnL.one ow1) (OwnL.append (OwnL.one ow2) (OwnL.append (OwnL.one ow3) (OwnL.append (ow4) (OwnL.append (ow5) (OwnL.nil wz (fun _ => False)) (by intro x hx hy; simp only [Between, World.size_alloc, or_false] at hx hy <;> omega)) (by intro x hx hy; simp only [Between, World.size_alloc, or_false] at hx hy <;> omega)) (by intro x hx hy; simp only [Between, World.size_alloc, or_false] at hx hy <;> omega)) (by intro x hx hy; simp only [Between, World.size_alloc, or_false] at hx hy <;> omega)) (by intro x hx hy; simp only [Between, World.size_alloc, or_false] at hx hy <;> omega))
  exact hall.mono (by intro x hx; simp only [Between, World.size_alloc, or_false] at hx ⊢; omega)

set_option maxRecDepth 100000 in
set_option maxHeartbeats 1000000 in
theorem eqFunction_of (v0 : ByteArray) (es1 : List (List Tr)) (es2 : List (List Tr)) (es3 : List (List Tr)) (ts4 : List Tr) (l4 : ts4.length = 3) (ts5 : List Tr) (l5 : ts5.length = 9) (h1 : EqSC 29 1 es1) (h2 : EqSC 55 4 es2) (h3 : EqSC 129 4 es3) (h4 : EqC 47 ts4) (h5 : EqC 130 ts5) : EqC 73 ([.leaf (.string v0)] ++ ([.row 1 es1] ++ ([.row 4 es2] ++ ([.row 4 es3] ++ (ts4 ++ (ts5 ++ ([]))))))) := by
  intro cs ds w hr hr'
  obtain ⟨b0, r0, rfl, g0, n0⟩ := RepL.split hr
  obtain ⟨y0, rfl⟩ := list1 g0.length.symm
  obtain ⟨rfl, k0⟩ := g0.1.leaf_eq
  obtain ⟨b1, r1, rfl, g1, n1⟩ := RepL.split n0
  obtain ⟨y1, rfl⟩ := list1 g1.length.symm
  obtain ⟨a1, c1, rfl, -, -⟩ := g1.1.shape
  obtain ⟨b2, r2, rfl, g2, n2⟩ := RepL.split n1
  obtain ⟨y2, rfl⟩ := list1 g2.length.symm
  obtain ⟨a2, c2, rfl, -, -⟩ := g2.1.shape
  obtain ⟨b3, r3, rfl, g3, n3⟩ := RepL.split n2
  obtain ⟨y3, rfl⟩ := list1 g3.length.symm
  obtain ⟨a3, c3, rfl, -, -⟩ := g3.1.shape
  obtain ⟨b4, r4, rfl, g4, n4⟩ := RepL.split n3
  obtain ⟨x4_0, x4_1, x4_2, rfl⟩ := list3 (g4.length.symm.trans l4)
  obtain ⟨b5, r5, rfl, g5, n5⟩ := RepL.split n4
  obtain ⟨x5_0, x5_1, x5_2, x5_3, x5_4, x5_5, x5_6, x5_7, x5_8, rfl⟩ := list9 (g5.length.symm.trans l5)
  obtain rfl := RepL.nil_eq n5
  clear hr
  obtain ⟨zb0, zr0, rfl, zg0, zn0⟩ := RepL.split hr'
  obtain ⟨zy0, rfl⟩ := list1 zg0.length.symm
  obtain ⟨rfl, zk0⟩ := zg0.1.leaf_eq
  obtain ⟨zb1, zr1, rfl, zg1, zn1⟩ := RepL.split zn0
  obtain ⟨zy1, rfl⟩ := list1 zg1.length.symm
  obtain ⟨za1, zc1, rfl, -, -⟩ := zg1.1.shape
  obtain ⟨zb2, zr2, rfl, zg2, zn2⟩ := RepL.split zn1
  obtain ⟨zy2, rfl⟩ := list1 zg2.length.symm
  obtain ⟨za2, zc2, rfl, -, -⟩ := zg2.1.shape
  obtain ⟨zb3, zr3, rfl, zg3, zn3⟩ := RepL.split zn2
  obtain ⟨zy3, rfl⟩ := list1 zg3.length.symm
  obtain ⟨za3, zc3, rfl, -, -⟩ := zg3.1.shape
  obtain ⟨zb4, zr4, rfl, zg4, zn4⟩ := RepL.split zn3
  obtain ⟨zx4_0, zx4_1, zx4_2, rfl⟩ := list3 (zg4.length.symm.trans l4)
  obtain ⟨zb5, zr5, rfl, zg5, zn5⟩ := RepL.split zn4
  obtain ⟨zx5_0, zx5_1, zx5_2, zx5_3, zx5_4, zx5_5, zx5_6, zx5_7, zx5_8, rfl⟩ := list9 (zg5.length.symm.trans l5)
  obtain rfl := RepL.nil_eq zn5
  clear hr'
  have G0 := Lib.hid g0
  have K0 := Lib.hid k0
  clear g0 n0 k0
  have G1 := Lib.hid g1
  clear g1 n1
  have G2 := Lib.hid g2
  clear g2 n2
  have G3 := Lib.hid g3
  clear g3 n3
  have G4 := Lib.hid g4
  clear g4 n4
  have G5 := Lib.hid g5
  clear g5 n5
  have zG0 := Lib.hid zg0
  have zK0 := Lib.hid zk0
  clear zg0 zn0 zk0
  have zG1 := Lib.hid zg1
  clear zg1 zn1
  have zG2 := Lib.hid zg2
  clear zg2 zn2
  have zG3 := Lib.hid zg3
  clear zg3 zn3
  have zG4 := Lib.hid zg4
  clear zg4 zn4
  have zG5 := Lib.hid zg5
  clear zg5 zn5
  simp only [List.cons_append, List.nil_append]
  go_enter Tryz.func73, Tryz.ntmps73
  go_wp2_with fail
  refine (h1 _ _ _ (G1.out.1.ext (.alloc (.alloc (.refl _) _) _)) (zG1.out.1.ext (.alloc (.alloc (.refl _) _) _))).mono ?_
  rintro e w1 ⟨rfl, hw1⟩
  have HW1 := Lib.hid hw1
  have ob1 := (Two.new w _ _ _ _).ext hw1
  have OBH := Lib.hid ob1
  have ce1 := ob1.o0.cell
  have cf1 := ob1.o1.cell
  clear hw1 ob1
  go_wp2_with fail
  refine (h2 _ _ _ (G2.out.1.ext (Ext.trans (.alloc (.alloc (.refl _) _) _) HW1.out)) (zG2.out.1.ext (Ext.trans (.alloc (.alloc (.refl _) _) _) HW1.out))).mono ?_
  rintro e w2 ⟨rfl, hw2⟩
  have HW2 := Lib.hid hw2
  have ob2 := OBH.out.ext hw2
  clear OBH ce1 cf1
  have OBH := Lib.hid ob2
  have ce2 := ob2.o0.cell
  have cf2 := ob2.o1.cell
  clear hw2 ob2
  go_wp2_with fail
  refine (h3 _ _ _ (G3.out.1.ext (Ext.trans (Ext.trans (.alloc (.alloc (.refl _) _) _) HW1.out) HW2.out)) (zG3.out.1.ext (Ext.trans (Ext.trans (.alloc (.alloc (.refl _) _) _) HW1.out) HW2.out))).mono ?_
  rintro e w3 ⟨rfl, hw3⟩
  have HW3 := Lib.hid hw3
  have ob3 := OBH.out.ext hw3
  clear OBH ce2 cf2
  have OBH := Lib.hid ob3
  have ce3 := ob3.o0.cell
  have cf3 := ob3.o1.cell
  clear hw3 ob3
  go_wp2_with fail
  refine (h4 _ _ _ (G4.out.ext (Ext.trans (Ext.trans (Ext.trans (.alloc (.alloc (.refl _) _) _) HW1.out) HW2.out) HW3.out)) (zG4.out.ext (Ext.trans (Ext.trans (Ext.trans (.alloc (.alloc (.refl _) _) _) HW1.out) HW2.out) HW3.out))).mono ?_
  rintro e w4 ⟨rfl, hw4⟩
  have HW4 := Lib.hid hw4
  have ob4 := OBH.out.ext hw4
  clear OBH ce3 cf3
  have OBH := Lib.hid ob4
  have ce4 := ob4.o0.cell
  have cf4 := ob4.o1.cell
  clear hw4 ob4
  go_wp2_with fail
  refine (h5 _ _ _ (G5.out.ext (Ext.trans (Ext.trans (Ext.trans (Ext.trans (.alloc (.alloc (.refl _) _) _) HW1.out) HW2.out) HW3.out) HW4.out)) (zG5.out.ext (Ext.trans (Ext.trans (Ext.trans (Ext.trans (.alloc (.alloc (.refl _) _) _) HW1.out) HW2.out) HW3.out) HW4.out))).mono ?_
  rintro e w5 ⟨rfl, hw5⟩
  have HW5 := Lib.hid hw5
  have ob5 := OBH.out.ext hw5
  clear OBH ce4 cf4
  have OBH := Lib.hid ob5
  have ce5 := ob5.o0.cell
  have cf5 := ob5.o1.cell
  clear hw5 ob5
  go_wp2_with fail
  go_ret
  exact ⟨rfl, (Ext.trans (Ext.trans (Ext.trans (Ext.trans (Ext.trans (.alloc (.alloc (.refl _) _) _) HW1.out) HW2.out) HW3.out) HW4.out) HW5.out)⟩

set_option maxRecDepth 100000 in
set_option maxHeartbeats 1000000 in
theorem szFunctionS_of (es : List (List Tr)) (h5 : ∀ e ∈ es, e.length = 16) (H : ∀ e ∈ es, SzC 206 e) : SzSC 182 16 es := by
  intro s left w hs h0 h1
  obtain ⟨a, cap, rfl, hl, hm⟩ := hs.shape
  unfold maxLen at hm
  have HS := Lib.hid hs
  have HH := Lib.hid H
  have H5 := Lib.hid h5
  clear hs H h5
  go_enter Tryz.func182, Tryz.ntmps182
  go_wp2_with fail
  · go_ret
    exact ⟨-1, rfl, .refl _, by omega, by omega, by omega⟩
  go_loopw [1, 5] (fun l i wr => ∃ (k : Nat) (r : Int), k ≤ es.length ∧ i = .int .i64 k ∧ l = .int .i64 r ∧ Ext w wr ∧ 0 ≤ r ∧ r + es.length + Tr.bulkAll (es.take k) ≤ left) (fun _ i _ => es.length - (intOf i).toNat)
  case atStart => exact ⟨0, _, Nat.zero_le _, rfl, rfl, .refl _, by omega, by simp [Tr.bulkAll]⟩
  case round =>
    obtain ⟨k, r, hk, rfl, rfl, hw, hr0, hrb⟩ := hrel
    by_cases hlt : k < es.length
    · obtain ⟨b, off, cs, rfl, hb, hcs, hc⟩ := (HS.out.ext hw).at2 (k := k) (List.getElem?_eq_getElem hlt)
      have hmem : es[k] ∈ es := List.getElem_mem hlt
      have l5 := H5.out _ hmem
      have hbt := Lib.hid (Tr.bulkAll_take es k hlt)
      have HCS := Lib.hid hcs
      have HC := Lib.hid hc
      have HM := Lib.hid hmem
      have HI : Hid ((Tryz.prog.info? 250).map (·.size) = some cs.length) := by rw [← hcs.length, l5]; exact isz250
      clear hcs hc hmem l5
      go_wp2_with (refine wpList_load_rep rfl 250 _ rfl b (off + k * 16) rfl cs _ Tryz.underlying250 HI.out HC.out ?_)
      refine (HH.out _ HM.out _ _ _ HCS.out hr0 (by omega)).mono ?_
      rintro e w1 ⟨r1, rfl, hw1, hr1, hr2, hr3⟩
      have HR3 := Lib.hid hr3
      have HW1 := Lib.hid hw1
      clear hr3 hw1
      go_wp2_with fail
      · go_ret
        exact ⟨-1, rfl, hw.trans HW1.out, by omega, by omega, by omega⟩
      · go_roundw
        case rel =>
          have p0 : 0 ≤ r1 := by assumption
          have e1 := HR3.out p0
          have e2 := hbt.out
          exact ⟨k + 1, r1, by omega, by go_num, rfl, hw.trans HW1.out, p0, by omega⟩
        case measure => simp [intOf]; omega
    · have hkl : k = es.length := by omega
      go_wp2_with fail
      go_ret
      refine ⟨r, rfl, hw, by omega, by omega, fun _ => ?_⟩
      rw [hkl, List.take_length] at hrb
      simp only [Tr.bulk]
      omega

set_option maxRecDepth 100000 in
set_option maxHeartbeats 1000000 in
theorem toFunctionS_of (es : List (List Tr)) (h5 : ∀ e ∈ es, e.length = 16) (H : ∀ e ∈ es, ToC 210 e) : ToSC 187 16 es := by
  intro s w hs hbk
  obtain ⟨a, cap, rfl, hl, hm⟩ := hs.shape
  unfold maxLen at hm
  have HS := Lib.hid hs
  have HH := Lib.hid H
  have H5 := Lib.hid h5
  have n0 : (0 : Int) ≤ es.length := by omega
  clear hs H h5
  go_enter Tryz.func187, Tryz.ntmps187
  go_wp2_with (refine wpList_make_rep rfl 124 (.tmp 6) rfl es.length rfl 105 Tryz.underlying124 16 280 iszb105 (by omega) (by omega) ?_; intro wm arr0 ha0 hob0 hx0 hz0; have HA0 := Lib.hid ha0; have HOB0 := Lib.hid hob0; have HX0 := Lib.hid hx0; have HZ0 := Lib.hid hz0; clear ha0 hob0 hx0 hz0)
  go_loopw [4] (fun i wr => ∃ (k : Nat) (arr : Array Value), k ≤ es.length ∧ i = .int .i64 k ∧ Ext w wr ∧ w.heap.size < wr.heap.size ∧ OB wr w.heap.size 105 arr ∧ arr.size = es.length * 16 ∧ Part wr w.heap.size arr 16 es k) (fun i _ => es.length - (intOf i).toNat)
  case atStart => exact ⟨0, arr0, Nat.zero_le _, rfl, HX0.out, by rw [HZ0.out]; omega, HOB0.out, HA0.out, Part.zero _ _ _ _ _⟩
  case round =>
    obtain ⟨k, arr, hk, rfl, hw, hgt, hob, hasz, hpart⟩ := hrel
    have HOB := Lib.hid hob
    have HAS := Lib.hid hasz
    have HP := Lib.hid hpart
    clear hob hasz hpart
    by_cases hlt : k < es.length
    · obtain ⟨b, off, cs, rfl, hb, hcs, hc⟩ := (HS.out.ext hw).at2 (k := k) (List.getElem?_eq_getElem hlt)
      have hmem : es[k] ∈ es := List.getElem_mem hlt
      have l5 := H5.out _ hmem
      have hbe := Tr.bulkAll_le hlt
      have HCS := Lib.hid hcs
      have HC := Lib.hid hc
      have HM := Lib.hid hmem
      have HL5 := Lib.hid l5
      have HI : Hid ((Tryz.prog.info? 250).map (·.size) = some cs.length) := by rw [← hcs.length, l5]; exact isz250
      clear hcs hc hmem l5
      go_wp2_with (refine wpList_load_rep rfl 250 (.tmp 18) rfl b (off + k * 16) rfl cs _ Tryz.underlying250 HI.out HC.out ?_)
      refine (HH.out _ HM.out _ _ HCS.out (by omega)).mono ?_
      rintro e w1 ⟨cs1, rfl, hw1, ho1⟩
      have HW1 := Lib.hid hw1
      have HO1 := Lib.hid ho1
      have hcl : cs1.length = 16 := ho1.1.trans HL5.out
      have HCL := Lib.hid hcl
      have hfit : 0 + k * 16 + cs1.length ≤ arr.size := by have := HAS.out; omega
      have HF := Lib.hid hfit
      clear hw1 ho1 hcl hfit
      go_wp2_with (refine wpList_store_rep rfl 105 (.tmp 21) (.tmp 20) rfl w.heap.size (k * 16) rfl cs1 rfl 105 arr (HOB.out.ext HW1.out) (by rw [HCL.out]; exact isz105) (by have := HF.out; omega) (HO1.out.rep.one) ?_; intro w2 hob2 hg2 hz2; have HOB2 := Lib.hid hob2; have HG2 := Lib.hid hg2; have HZ2 := Lib.hid hz2; clear hob2 hg2 hz2)
      go_roundw
      case rel =>
        have hfit : k * 16 + cs1.length ≤ arr.size := by have := HF.out; omega
        refine ⟨k + 1, _, by omega, by go_num, ?_, ?_, HOB2.out, by rw [splice_size hfit]; exact HAS.out, HP.out.step hgt HW1.out (List.getElem?_eq_getElem hlt) HO1.out HCL.out HAS.out HG2.out HOB2.out⟩
        · exact grown_ext (hw.trans HW1.out) HG2.out (Nat.le_refl _)
        · have := HW1.out.size
          have := HZ2.out
          omega
      case measure => simp [intOf]; omega
    · have hkl : k = es.length := by omega
      go_wp2_with fail
      go_ret
      subst hkl
      exact ⟨_, rfl, hw, (HP.out.done HOB.out H5.out (Nat.le_refl _) (by unfold maxLen; omega) (Nat.le_refl _)).mono fun x hx => ⟨hx.1, hx.2⟩⟩

set_option maxRecDepth 100000 in
set_option maxHeartbeats 1000000 in
theorem eqFunctionS_of (es : List (List Tr)) (h5 : ∀ e ∈ es, e.length = 16) (H : ∀ e ∈ es, EqC 73 e) : EqSC 191 16 es := by
  intro s u w hs hu
  obtain ⟨a, cap, rfl, hl, hm⟩ := hs.shape
  obtain ⟨a', cap', rfl, hl', hm'⟩ := hu.shape
  unfold maxLen at hm hm'
  have HS := Lib.hid hs
  have HU := Lib.hid hu
  have HH := Lib.hid H
  have H5 := Lib.hid h5
  clear hs hu H h5
  go_enter Tryz.func191, Tryz.ntmps191
  go_wp2_with fail
  go_loopw [5] (fun i wr => ∃ k : Nat, k ≤ es.length ∧ i = .int .i64 k ∧ Ext w wr) (fun i _ => es.length - (intOf i).toNat)
  case atStart => exact ⟨0, Nat.zero_le _, rfl, .refl _⟩
  case round =>
    obtain ⟨k, hk, rfl, hw⟩ := hrel
    by_cases hlt : k < es.length
    · obtain ⟨b, off, cs, rfl, hb, hcs, hc⟩ := (HS.out.ext hw).at2 (k := k) (List.getElem?_eq_getElem hlt)
      obtain ⟨b', off', ds, rfl, hb', hds, hd⟩ := (HU.out.ext hw).at2 (k := k) (List.getElem?_eq_getElem hlt)
      have hmem : es[k] ∈ es := List.getElem_mem hlt
      have l5 := H5.out _ hmem
      have HCS := Lib.hid hcs
      have HDS := Lib.hid hds
      have HM := Lib.hid hmem
      have HC := Lib.hid hc
      have HD := Lib.hid hd
      have HI : Hid ((Tryz.prog.info? 105).map (·.size) = some cs.length) := by rw [← hcs.length, l5]; exact isz105
      have HJ : Hid ((Tryz.prog.info? 105).map (·.size) = some ds.length) := by rw [← hds.length, l5]; exact isz105
      clear hcs hds hc hd l5 hmem
      go_wp2_with fail
      have ki : (k : Int) < (es.length : Int) := by omega
      have k0 : (0 : Int) ≤ (k : Int) := by omega
      refine wp_region_still_tail 8 (by kernel_rfl) (by kernel_rfl) ?_
      simp only [List.take_succ_cons, List.take_zero, List.drop_succ_cons, List.drop_zero]
      change wpStill _ _ wr.drew _ _ _
      repeat (first
        | (refine wpStill_load_rep rfl 105 (.tmp 19) rfl b (off + k * 16) rfl cs _ Tryz.underlying105 HI.out HC.out ?_; simp only [Act.put])
        | (refine wpStill_load_rep rfl 105 (.tmp 23) rfl b' (off' + k * 16) rfl ds _ Tryz.underlying105 HJ.out HD.out ?_; simp only [Act.put])
        | still_step)
      refine wpStill_nil ?_
      change wpList _ _ _ _ _ wr.drew
      go_wp2_with fail
      refine (HH.out _ HM.out _ _ _ (HCS.out.ext (.drew (.refl _))) (HDS.out.ext (.drew (.refl _)))).mono ?_
      rintro e w1 ⟨rfl, hw1⟩
      have HW1 := Lib.hid hw1
      clear hw1
      go_wp2_with fail
      go_roundw
      case rel => exact ⟨k + 1, by omega, by go_num, hw.trans (.trans (.drew (.refl _)) HW1.out)⟩
      case measure => simp [intOf]; omega
    · go_wp2_with fail
      go_ret
      exact ⟨rfl, hw⟩

end Go.Proofs.YtnakkelglbcecaaGreat

namespace Go.Proofs.YtnakkelglbcecaaGreat
open Go.RowKit Go.Proofs

set_option maxRecDepth 100000 in
set_option maxHeartbeats 1000000 in
theorem szConstructor_of (v0 : ByteArray) (es1 : List (List Tr)) (h1 : SzSC 101 3 es1) : SzC 231 ([.leaf (.string v0)] ++ ([.row 3 es1] ++ ([]))) := by
  intro cs left w hr hl0 hl1
  obtain ⟨b0, r0, rfl, g0, n0⟩ := RepL.split hr
  obtain ⟨y0, rfl⟩ := list1 g0.length.symm
  obtain ⟨rfl, k0⟩ := g0.1.leaf_eq
  obtain ⟨b1, r1, rfl, g1, n1⟩ := RepL.split n0
  obtain ⟨y1, rfl⟩ := list1 g1.length.symm
  obtain ⟨a1, c1, rfl, -, -⟩ := g1.1.shape
  obtain rfl := RepL.nil_eq n1
  clear hr
  have q0 : v0.size ≤ 9223372036854775807 := by have := k0; simp only [LeafOk, maxLen] at this; omega
  have G0 := Lib.hid g0
  have K0 := Lib.hid k0
  clear g0 n0 k0
  have G1 := Lib.hid g1
  clear g1 n1
  simp only [List.cons_append, List.nil_append]
  go_enter Tryz.func231, Tryz.ntmps231
  go_wp2_with fail
  · go_ret
    exact ⟨-1, rfl, (.alloc (.refl _) _), by omega, by omega, by omega⟩
  refine (h1 _ _ _ (G1.out.1.ext (.alloc (.refl _) _)) (by omega) (by omega)).mono ?_
  rintro e w1 ⟨r1, rfl, hw1, ra1, rb1, rc1⟩
  have HW1 := Lib.hid hw1
  have HR1 := Lib.hid rc1
  have ob1 := (OB.new w _ _).ext hw1
  have OBH := Lib.hid ob1
  have ce1 := ob1.cell
  clear hw1 rc1 ob1
  go_wp2_with fail
  · go_ret
    exact ⟨-1, rfl, (Ext.trans (.alloc (.refl _) _) HW1.out), by omega, by omega, by omega⟩
  go_ret
  refine ⟨_, rfl, (Ext.trans (.alloc (.refl _) _) HW1.out), by omega, by omega, fun hp => ?_⟩
  have e1 := HR1.out (by omega)
  simp only [Tr.bulkL_append, Tr.bulkL, Tr.bulk]
  simp only [Tr.bulk] at e1
  omega

set_option maxRecDepth 100000 in
set_option maxHeartbeats 1000000 in
theorem toConstructor_of (v0 : ByteArray) (es1 : List (List Tr)) (h1 : ToSC 104 3 es1) : ToC 237 ([.leaf (.string v0)] ++ ([.row 3 es1] ++ ([]))) := by
  intro cs w hr hbk
  simp only [Tr.bulkL_append, Tr.bulkL, Tr.bulk] at hbk
  obtain ⟨b0, r0, rfl, g0, n0⟩ := RepL.split hr
  obtain ⟨y0, rfl⟩ := list1 g0.length.symm
  obtain ⟨rfl, k0⟩ := g0.1.leaf_eq
  obtain ⟨b1, r1, rfl, g1, n1⟩ := RepL.split n0
  obtain ⟨y1, rfl⟩ := list1 g1.length.symm
  obtain ⟨a1, c1, rfl, -, -⟩ := g1.1.shape
  obtain rfl := RepL.nil_eq n1
  clear hr
  have G0 := Lib.hid g0
  have K0 := Lib.hid k0
  clear g0 n0 k0
  have G1 := Lib.hid g1
  clear g1 n1
  simp only [List.cons_append, List.nil_append]
  go_enter Tryz.func237, Tryz.ntmps237
  go_wp2_with fail
  refine (h1 _ _ (G1.out.1.ext (.alloc (.alloc (.alloc (.refl _) _) _) _)) (by omega)).mono ?_
  rintro e w1 ⟨d1, rfl, hw1, ho1⟩
  obtain ⟨da1, dc1, rfl, -, -⟩ := ho1.rep.shape
  have HW1 := Lib.hid hw1
  have HO1 := Lib.hid ho1
  have ob1 := (Three.new w _ _ _ _ _ _).ext hw1
  have OBHw1 := Lib.hid ob1
  have cew1 := ob1.o0.cell
  have hzw1 : w.heap.size < w1.heap.size := ob1.o0.lt
  clear hw1 ob1 ho1
  have hone : Hid (∀ v ∈ ([.string v0, .slice da1 es1.length dc1] : List Value), v.oneCell' = true) := by
    intro v hv
    simp only [List.mem_cons, List.not_mem_nil, or_false] at hv
    rcases hv with rfl | rfl <;> first | rfl
  go_wp2_with (first
    | (refine wpList_store_cell rfl 45 _ _ rfl (w.heap.size + 1 + 1) 1 rfl (.slice da1 es1.length dc1) rfl rfl 258 _ OBHw1.out.o2 isz45 (by simp [splice]) rfl ?_; intro u1 hou1 hgu1 hzu1; have OBHu1 := Lib.hid (OBHw1.out.grown hgu1 hou1 (by omega) (by omega)); have HGu1 := Lib.hid hgu1; have ceu1 := OBHu1.out.o0.cell; have hqu1 : w.heap.size < u1.heap.size := OBHu1.out.o0.lt; clear hou1 hgu1 hzu1 OBHw1 cew1)
    | (refine wpList_load_rep rfl 258 _ rfl (w.heap.size + 1 + 1) 0 rfl [.string v0, .slice da1 es1.length dc1] _ Tryz.underlying258 isz258 (fun j v hv => by rw [OBHu1.out.o2.cell, Nat.zero_add]; simpa [splice] using hv) ?_)
    | (refine wpList_store_rep rfl 258 _ _ rfl (w.heap.size + 1) 0 rfl [.string v0, .slice da1 es1.length dc1] rfl 258 _ OBHu1.out.o1 isz258 (by simp) hone.out ?_; intro wz hoz hgz hzz; have HOZ := Lib.hid hoz; have HGZ := Lib.hid hgz; clear hoz hgz hzz))
  have HOF : OB wz (w.heap.size + 1) 258 ⟨[.string v0, .slice da1 es1.length dc1]⟩ := HOZ.out
  refine bodyPost_ret (results_cell_row Tryz.results237 _ _ (w.heap.size + 1) 258 ⟨[.string v0, .slice da1 es1.length dc1]⟩ _ _ rfl HOF Tryz.underlying258 rfl isz258) rfl ⟨[.string v0, .slice da1 es1.length dc1], rfl, (grown_ext (grown_ext (Ext.trans (.alloc (.alloc (.alloc (.refl _) _) _) _) HW1.out) HGu1.out (by omega)) HGZ.out (by omega)), ?_⟩
  have sw1 := HW1.out.size
  have su1 := HGu1.out.size
  have swz := HGZ.out.size
  simp only [World.size_alloc] at sw1
  have ow1 := HO1.out.keeps (lo := w.heap.size + 1 + 1 + 1) (Keeps.trans (Keeps.of_grown HGu1.out (by omega)) (Keeps.of_grown HGZ.out (by omega))) (by intro x hx; simp only [Between, World.size_alloc] at hx; omega)
  have hall := OwnL.cons_leaf K0.out (OwnL.append (OwnL.one ow1) (OwnL.nil wz (fun _ => False)) (by intro x hx hy; simp only [Between, World.size_alloc, or_false] at hx hy <;> omega))
  exact hall.mono (by intro x hx; simp only [Between, World.size_alloc, or_false] at hx ⊢; omega)

set_option maxRecDepth 100000 in
set_option maxHeartbeats 1000000 in
theorem eqConstructor_of (v0 : ByteArray) (es1 : List (List Tr)) (h1 : EqSC 107 3 es1) : EqC 242 ([.leaf (.string v0)] ++ ([.row 3 es1] ++ ([]))) := by
  intro cs ds w hr hr'
  obtain ⟨b0, r0, rfl, g0, n0⟩ := RepL.split hr
  obtain ⟨y0, rfl⟩ := list1 g0.length.symm
  obtain ⟨rfl, k0⟩ := g0.1.leaf_eq
  obtain ⟨b1, r1, rfl, g1, n1⟩ := RepL.split n0
  obtain ⟨y1, rfl⟩ := list1 g1.length.symm
  obtain ⟨a1, c1, rfl, -, -⟩ := g1.1.shape
  obtain rfl := RepL.nil_eq n1
  clear hr
  obtain ⟨zb0, zr0, rfl, zg0, zn0⟩ := RepL.split hr'
  obtain ⟨zy0, rfl⟩ := list1 zg0.length.symm
  obtain ⟨rfl, zk0⟩ := zg0.1.leaf_eq
  obtain ⟨zb1, zr1, rfl, zg1, zn1⟩ := RepL.split zn0
  obtain ⟨zy1, rfl⟩ := list1 zg1.length.symm
  obtain ⟨za1, zc1, rfl, -, -⟩ := zg1.1.shape
  obtain rfl := RepL.nil_eq zn1
  clear hr'
  have G0 := Lib.hid g0
  have K0 := Lib.hid k0
  clear g0 n0 k0
  have G1 := Lib.hid g1
  clear g1 n1
  have zG0 := Lib.hid zg0
  have zK0 := Lib.hid zk0
  clear zg0 zn0 zk0
  have zG1 := Lib.hid zg1
  clear zg1 zn1
  simp only [List.cons_append, List.nil_append]
  go_enter Tryz.func242, Tryz.ntmps242
  go_wp2_with fail
  refine (h1 _ _ _ (G1.out.1.ext (.alloc (.alloc (.refl _) _) _)) (zG1.out.1.ext (.alloc (.alloc (.refl _) _) _))).mono ?_
  rintro e w1 ⟨rfl, hw1⟩
  have HW1 := Lib.hid hw1
  have ob1 := (Two.new w _ _ _ _).ext hw1
  have OBH := Lib.hid ob1
  have ce1 := ob1.o0.cell
  have cf1 := ob1.o1.cell
  clear hw1 ob1
  go_wp2_with fail
  go_ret
  exact ⟨rfl, (Ext.trans (.alloc (.alloc (.refl _) _) _) HW1.out)⟩

set_option maxRecDepth 100000 in
set_option maxHeartbeats 1000000 in
theorem szConstructorS_of (es : List (List Tr)) (h5 : ∀ e ∈ es, e.length = 2) (H : ∀ e ∈ es, SzC 231 e) : SzSC 217 2 es := by
  intro s left w hs h0 h1
  obtain ⟨a, cap, rfl, hl, hm⟩ := hs.shape
  unfold maxLen at hm
  have HS := Lib.hid hs
  have HH := Lib.hid H
  have H5 := Lib.hid h5
  clear hs H h5
  go_enter Tryz.func217, Tryz.ntmps217
  go_wp2_with fail
  · go_ret
    exact ⟨-1, rfl, .refl _, by omega, by omega, by omega⟩
  go_loopw [1, 5] (fun l i wr => ∃ (k : Nat) (r : Int), k ≤ es.length ∧ i = .int .i64 k ∧ l = .int .i64 r ∧ Ext w wr ∧ 0 ≤ r ∧ r + es.length + Tr.bulkAll (es.take k) ≤ left) (fun _ i _ => es.length - (intOf i).toNat)
  case atStart => exact ⟨0, _, Nat.zero_le _, rfl, rfl, .refl _, by omega, by simp [Tr.bulkAll]⟩
  case round =>
    obtain ⟨k, r, hk, rfl, rfl, hw, hr0, hrb⟩ := hrel
    by_cases hlt : k < es.length
    · obtain ⟨b, off, cs, rfl, hb, hcs, hc⟩ := (HS.out.ext hw).at2 (k := k) (List.getElem?_eq_getElem hlt)
      have hmem : es[k] ∈ es := List.getElem_mem hlt
      have l5 := H5.out _ hmem
      have hbt := Lib.hid (Tr.bulkAll_take es k hlt)
      have HCS := Lib.hid hcs
      have HC := Lib.hid hc
      have HM := Lib.hid hmem
      have HI : Hid ((Tryz.prog.info? 280).map (·.size) = some cs.length) := by rw [← hcs.length, l5]; exact isz280
      clear hcs hc hmem l5
      go_wp2_with (refine wpList_load_rep rfl 280 _ rfl b (off + k * 2) rfl cs _ Tryz.underlying280 HI.out HC.out ?_)
      refine (HH.out _ HM.out _ _ _ HCS.out hr0 (by omega)).mono ?_
      rintro e w1 ⟨r1, rfl, hw1, hr1, hr2, hr3⟩
      have HR3 := Lib.hid hr3
      have HW1 := Lib.hid hw1
      clear hr3 hw1
      go_wp2_with fail
      · go_ret
        exact ⟨-1, rfl, hw.trans HW1.out, by omega, by omega, by omega⟩
      · go_roundw
        case rel =>
          have p0 : 0 ≤ r1 := by assumption
          have e1 := HR3.out p0
          have e2 := hbt.out
          exact ⟨k + 1, r1, by omega, by go_num, rfl, hw.trans HW1.out, p0, by omega⟩
        case measure => simp [intOf]; omega
    · have hkl : k = es.length := by omega
      go_wp2_with fail
      go_ret
      refine ⟨r, rfl, hw, by omega, by omega, fun _ => ?_⟩
      rw [hkl, List.take_length] at hrb
      simp only [Tr.bulk]
      omega

set_option maxRecDepth 100000 in
set_option maxHeartbeats 1000000 in
theorem toConstructorS_of (es : List (List Tr)) (h5 : ∀ e ∈ es, e.length = 2) (H : ∀ e ∈ es, ToC 237 e) : ToSC 222 2 es := by
  intro s w hs hbk
  obtain ⟨a, cap, rfl, hl, hm⟩ := hs.shape
  unfold maxLen at hm
  have HS := Lib.hid hs
  have HH := Lib.hid H
  have H5 := Lib.hid h5
  have n0 : (0 : Int) ≤ es.length := by omega
  clear hs H h5
  go_enter Tryz.func222, Tryz.ntmps222
  go_wp2_with (refine wpList_make_rep rfl 169 (.tmp 6) rfl es.length rfl 258 Tryz.underlying169 2 40 iszb258 (by omega) (by omega) ?_; intro wm arr0 ha0 hob0 hx0 hz0; have HA0 := Lib.hid ha0; have HOB0 := Lib.hid hob0; have HX0 := Lib.hid hx0; have HZ0 := Lib.hid hz0; clear ha0 hob0 hx0 hz0)
  go_loopw [4] (fun i wr => ∃ (k : Nat) (arr : Array Value), k ≤ es.length ∧ i = .int .i64 k ∧ Ext w wr ∧ w.heap.size < wr.heap.size ∧ OB wr w.heap.size 258 arr ∧ arr.size = es.length * 2 ∧ Part wr w.heap.size arr 2 es k) (fun i _ => es.length - (intOf i).toNat)
  case atStart => exact ⟨0, arr0, Nat.zero_le _, rfl, HX0.out, by rw [HZ0.out]; omega, HOB0.out, HA0.out, Part.zero _ _ _ _ _⟩
  case round =>
    obtain ⟨k, arr, hk, rfl, hw, hgt, hob, hasz, hpart⟩ := hrel
    have HOB := Lib.hid hob
    have HAS := Lib.hid hasz
    have HP := Lib.hid hpart
    clear hob hasz hpart
    by_cases hlt : k < es.length
    · obtain ⟨b, off, cs, rfl, hb, hcs, hc⟩ := (HS.out.ext hw).at2 (k := k) (List.getElem?_eq_getElem hlt)
      have hmem : es[k] ∈ es := List.getElem_mem hlt
      have l5 := H5.out _ hmem
      have hbe := Tr.bulkAll_le hlt
      have HCS := Lib.hid hcs
      have HC := Lib.hid hc
      have HM := Lib.hid hmem
      have HL5 := Lib.hid l5
      have HI : Hid ((Tryz.prog.info? 280).map (·.size) = some cs.length) := by rw [← hcs.length, l5]; exact isz280
      clear hcs hc hmem l5
      go_wp2_with (refine wpList_load_rep rfl 280 (.tmp 18) rfl b (off + k * 2) rfl cs _ Tryz.underlying280 HI.out HC.out ?_)
      refine (HH.out _ HM.out _ _ HCS.out (by omega)).mono ?_
      rintro e w1 ⟨cs1, rfl, hw1, ho1⟩
      have HW1 := Lib.hid hw1
      have HO1 := Lib.hid ho1
      have hcl : cs1.length = 2 := ho1.1.trans HL5.out
      have HCL := Lib.hid hcl
      have hfit : 0 + k * 2 + cs1.length ≤ arr.size := by have := HAS.out; omega
      have HF := Lib.hid hfit
      clear hw1 ho1 hcl hfit
      go_wp2_with (refine wpList_store_rep rfl 258 (.tmp 21) (.tmp 20) rfl w.heap.size (k * 2) rfl cs1 rfl 258 arr (HOB.out.ext HW1.out) (by rw [HCL.out]; exact isz258) (by have := HF.out; omega) (HO1.out.rep.one) ?_; intro w2 hob2 hg2 hz2; have HOB2 := Lib.hid hob2; have HG2 := Lib.hid hg2; have HZ2 := Lib.hid hz2; clear hob2 hg2 hz2)
      go_roundw
      case rel =>
        have hfit : k * 2 + cs1.length ≤ arr.size := by have := HF.out; omega
        refine ⟨k + 1, _, by omega, by go_num, ?_, ?_, HOB2.out, by rw [splice_size hfit]; exact HAS.out, HP.out.step hgt HW1.out (List.getElem?_eq_getElem hlt) HO1.out HCL.out HAS.out HG2.out HOB2.out⟩
        · exact grown_ext (hw.trans HW1.out) HG2.out (Nat.le_refl _)
        · have := HW1.out.size
          have := HZ2.out
          omega
      case measure => simp [intOf]; omega
    · have hkl : k = es.length := by omega
      go_wp2_with fail
      go_ret
      subst hkl
      exact ⟨_, rfl, hw, (HP.out.done HOB.out H5.out (Nat.le_refl _) (by unfold maxLen; omega) (Nat.le_refl _)).mono fun x hx => ⟨hx.1, hx.2⟩⟩

set_option maxRecDepth 100000 in
set_option maxHeartbeats 1000000 in
theorem eqConstructorS_of (es : List (List Tr)) (h5 : ∀ e ∈ es, e.length = 2) (H : ∀ e ∈ es, EqC 242 e) : EqSC 226 2 es := by
  intro s u w hs hu
  obtain ⟨a, cap, rfl, hl, hm⟩ := hs.shape
  obtain ⟨a', cap', rfl, hl', hm'⟩ := hu.shape
  unfold maxLen at hm hm'
  have HS := Lib.hid hs
  have HU := Lib.hid hu
  have HH := Lib.hid H
  have H5 := Lib.hid h5
  clear hs hu H h5
  go_enter Tryz.func226, Tryz.ntmps226
  go_wp2_with fail
  go_loopw [5] (fun i wr => ∃ k : Nat, k ≤ es.length ∧ i = .int .i64 k ∧ Ext w wr) (fun i _ => es.length - (intOf i).toNat)
  case atStart => exact ⟨0, Nat.zero_le _, rfl, .refl _⟩
  case round =>
    obtain ⟨k, hk, rfl, hw⟩ := hrel
    by_cases hlt : k < es.length
    · obtain ⟨b, off, cs, rfl, hb, hcs, hc⟩ := (HS.out.ext hw).at2 (k := k) (List.getElem?_eq_getElem hlt)
      obtain ⟨b', off', ds, rfl, hb', hds, hd⟩ := (HU.out.ext hw).at2 (k := k) (List.getElem?_eq_getElem hlt)
      have hmem : es[k] ∈ es := List.getElem_mem hlt
      have l5 := H5.out _ hmem
      have HCS := Lib.hid hcs
      have HDS := Lib.hid hds
      have HM := Lib.hid hmem
      have HC := Lib.hid hc
      have HD := Lib.hid hd
      have HI : Hid ((Tryz.prog.info? 258).map (·.size) = some cs.length) := by rw [← hcs.length, l5]; exact isz258
      have HJ : Hid ((Tryz.prog.info? 258).map (·.size) = some ds.length) := by rw [← hds.length, l5]; exact isz258
      clear hcs hds hc hd l5 hmem
      go_wp2_with fail
      have ki : (k : Int) < (es.length : Int) := by omega
      have k0 : (0 : Int) ≤ (k : Int) := by omega
      refine wp_region_still_tail 8 (by kernel_rfl) (by kernel_rfl) ?_
      simp only [List.take_succ_cons, List.take_zero, List.drop_succ_cons, List.drop_zero]
      change wpStill _ _ wr.drew _ _ _
      repeat (first
        | (refine wpStill_load_rep rfl 258 (.tmp 19) rfl b (off + k * 2) rfl cs _ Tryz.underlying258 HI.out HC.out ?_; simp only [Act.put])
        | (refine wpStill_load_rep rfl 258 (.tmp 23) rfl b' (off' + k * 2) rfl ds _ Tryz.underlying258 HJ.out HD.out ?_; simp only [Act.put])
        | still_step)
      refine wpStill_nil ?_
      change wpList _ _ _ _ _ wr.drew
      go_wp2_with fail
      refine (HH.out _ HM.out _ _ _ (HCS.out.ext (.drew (.refl _))) (HDS.out.ext (.drew (.refl _)))).mono ?_
      rintro e w1 ⟨rfl, hw1⟩
      have HW1 := Lib.hid hw1
      clear hw1
      go_wp2_with fail
      go_roundw
      case rel => exact ⟨k + 1, by omega, by go_num, hw.trans (.trans (.drew (.refl _)) HW1.out)⟩
      case measure => simp [intOf]; omega
    · go_wp2_with fail
      go_ret
      exact ⟨rfl, hw⟩

end Go.Proofs.YtnakkelglbcecaaGreat

namespace Go.Proofs.YtnakkelglbcecaaGreat
open Go.RowKit Go.Proofs

set_option maxRecDepth 100000 in
set_option maxHeartbeats 1000000 in
theorem szDataType_of (v0 : ByteArray) (es1 : List (List Tr)) (es2 : List (List Tr)) (h1 : SzSC 178 1 es1) (h2 : SzSC 217 2 es2) : SzC 204 ([.leaf (.string v0)] ++ ([.row 1 es1] ++ ([.row 2 es2] ++ ([])))) := by
  intro cs left w hr hl0 hl1
  obtain ⟨b0, r0, rfl, g0, n0⟩ := RepL.split hr
  obtain ⟨y0, rfl⟩ := list1 g0.length.symm
  obtain ⟨rfl, k0⟩ := g0.1.leaf_eq
  obtain ⟨b1, r1, rfl, g1, n1⟩ := RepL.split n0
  obtain ⟨y1, rfl⟩ := list1 g1.length.symm
  obtain ⟨a1, c1, rfl, -, -⟩ := g1.1.shape
  obtain ⟨b2, r2, rfl, g2, n2⟩ := RepL.split n1
  obtain ⟨y2, rfl⟩ := list1 g2.length.symm
  obtain ⟨a2, c2, rfl, -, -⟩ := g2.1.shape
  obtain rfl := RepL.nil_eq n2
  clear hr
  have q0 : v0.size ≤ 9223372036854775807 := by have := k0; simp only [LeafOk, maxLen] at this; omega
  have G0 := Lib.hid g0
  have K0 := Lib.hid k0
  clear g0 n0 k0
  have G1 := Lib.hid g1
  clear g1 n1
  have G2 := Lib.hid g2
  clear g2 n2
  simp only [List.cons_append, List.nil_append]
  go_enter Tryz.func204, Tryz.ntmps204
  go_wp2_with fail
  · go_ret
    exact ⟨-1, rfl, (.alloc (.refl _) _), by omega, by omega, by omega⟩
  refine (h1 _ _ _ (G1.out.1.ext (.alloc (.refl _) _)) (by omega) (by omega)).mono ?_
  rintro e w1 ⟨r1, rfl, hw1, ra1, rb1, rc1⟩
  have HW1 := Lib.hid hw1
  have HR1 := Lib.hid rc1
  have ob1 := (OB.new w _ _).ext hw1
  have OBH := Lib.hid ob1
  have ce1 := ob1.cell
  clear hw1 rc1 ob1
  go_wp2_with fail
  · go_ret
    exact ⟨-1, rfl, (Ext.trans (.alloc (.refl _) _) HW1.out), by omega, by omega, by omega⟩
  refine (h2 _ _ _ (G2.out.1.ext (Ext.trans (.alloc (.refl _) _) HW1.out)) (by omega) (by omega)).mono ?_
  rintro e w2 ⟨r2, rfl, hw2, ra2, rb2, rc2⟩
  have HW2 := Lib.hid hw2
  have HR2 := Lib.hid rc2
  have ob2 := OBH.out.ext hw2
  clear OBH ce1
  have OBH := Lib.hid ob2
  have ce2 := ob2.cell
  clear hw2 rc2 ob2
  go_wp2_with fail
  · go_ret
    exact ⟨-1, rfl, (Ext.trans (Ext.trans (.alloc (.refl _) _) HW1.out) HW2.out), by omega, by omega, by omega⟩
  go_ret
  refine ⟨_, rfl, (Ext.trans (Ext.trans (.alloc (.refl _) _) HW1.out) HW2.out), by omega, by omega, fun hp => ?_⟩
  have e1 := HR1.out (by omega)
  have e2 := HR2.out (by omega)
  simp only [Tr.bulkL_append, Tr.bulkL, Tr.bulk]
  simp only [Tr.bulk] at e1 e2
  omega

set_option maxRecDepth 100000 in
set_option maxHeartbeats 1000000 in
theorem toDataType_of (v0 : ByteArray) (es1 : List (List Tr)) (es2 : List (List Tr)) (h1 : ToSC 183 1 es1) (h2 : ToSC 222 2 es2) : ToC 208 ([.leaf (.string v0)] ++ ([.row 1 es1] ++ ([.row 2 es2] ++ ([])))) := by
  intro cs w hr hbk
  simp only [Tr.bulkL_append, Tr.bulkL, Tr.bulk] at hbk
  obtain ⟨b0, r0, rfl, g0, n0⟩ := RepL.split hr
  obtain ⟨y0, rfl⟩ := list1 g0.length.symm
  obtain ⟨rfl, k0⟩ := g0.1.leaf_eq
  obtain ⟨b1, r1, rfl, g1, n1⟩ := RepL.split n0
  obtain ⟨y1, rfl⟩ := list1 g1.length.symm
  obtain ⟨a1, c1, rfl, -, -⟩ := g1.1.shape
  obtain ⟨b2, r2, rfl, g2, n2⟩ := RepL.split n1
  obtain ⟨y2, rfl⟩ := list1 g2.length.symm
  obtain ⟨a2, c2, rfl, -, -⟩ := g2.1.shape
  obtain rfl := RepL.nil_eq n2
  clear hr
  have G0 := Lib.hid g0
  have K0 := Lib.hid k0
  clear g0 n0 k0
  have G1 := Lib.hid g1
  clear g1 n1
  have G2 := Lib.hid g2
  clear g2 n2
  simp only [List.cons_append, List.nil_append]
  go_enter Tryz.func208, Tryz.ntmps208
  go_wp2_with fail
  refine (h1 _ _ (G1.out.1.ext (.alloc (.alloc (.alloc (.refl _) _) _) _)) (by omega)).mono ?_
  rintro e w1 ⟨d1, rfl, hw1, ho1⟩
  obtain ⟨da1, dc1, rfl, -, -⟩ := ho1.rep.shape
  have HW1 := Lib.hid hw1
  have HO1 := Lib.hid ho1
  have ob1 := (Three.new w _ _ _ _ _ _).ext hw1
  have OBHw1 := Lib.hid ob1
  have cew1 := ob1.o0.cell
  have hzw1 : w.heap.size < w1.heap.size := ob1.o0.lt
  clear hw1 ob1 ho1
  go_wp2_with (first
    | (refine wpList_store_cell rfl 54 _ _ rfl (w.heap.size + 1 + 1) 1 rfl (.slice da1 es1.length dc1) rfl rfl 171 _ OBHw1.out.o2 isz54 (by simp [splice]) rfl ?_; intro u1 hou1 hgu1 hzu1; have OBHu1 := Lib.hid (OBHw1.out.grown hgu1 hou1 (by omega) (by omega)); have HGu1 := Lib.hid hgu1; have ceu1 := OBHu1.out.o0.cell; have hqu1 : w.heap.size < u1.heap.size := OBHu1.out.o0.lt; clear hou1 hgu1 hzu1 OBHw1 cew1))
  refine (h2 _ _ (G2.out.1.ext (grown_ext (Ext.trans (.alloc (.alloc (.alloc (.refl _) _) _) _) HW1.out) HGu1.out (by omega))) (by omega)).mono ?_
  rintro e w2 ⟨d2, rfl, hw2, ho2⟩
  obtain ⟨da2, dc2, rfl, -, -⟩ := ho2.rep.shape
  have HW2 := Lib.hid hw2
  have HO2 := Lib.hid ho2
  have ob2 := OBHu1.out.ext hw2
  clear OBHu1 ceu1
  have OBHw2 := Lib.hid ob2
  have cew2 := ob2.o0.cell
  have hzw2 : w.heap.size < w2.heap.size := ob2.o0.lt
  clear hw2 ob2 ho2
  have hone : Hid (∀ v ∈ ([.string v0, .slice da1 es1.length dc1, .slice da2 es2.length dc2] : List Value), v.oneCell' = true) := by
    intro v hv
    simp only [List.mem_cons, List.not_mem_nil, or_false] at hv
    rcases hv with rfl | rfl | rfl <;> first | rfl
  go_wp2_with (first
    | (refine wpList_store_cell rfl 169 _ _ rfl (w.heap.size + 1 + 1) 2 rfl (.slice da2 es2.length dc2) rfl rfl 171 _ OBHw2.out.o2 isz169 (by simp [splice]) rfl ?_; intro u2 hou2 hgu2 hzu2; have OBHu2 := Lib.hid (OBHw2.out.grown hgu2 hou2 (by omega) (by omega)); have HGu2 := Lib.hid hgu2; have ceu2 := OBHu2.out.o0.cell; have hqu2 : w.heap.size < u2.heap.size := OBHu2.out.o0.lt; clear hou2 hgu2 hzu2 OBHw2 cew2)
    | (refine wpList_load_rep rfl 171 _ rfl (w.heap.size + 1 + 1) 0 rfl [.string v0, .slice da1 es1.length dc1, .slice da2 es2.length dc2] _ Tryz.underlying171 isz171 (fun j v hv => by rw [OBHu2.out.o2.cell, Nat.zero_add]; simpa [splice] using hv) ?_)
    | (refine wpList_store_rep rfl 171 _ _ rfl (w.heap.size + 1) 0 rfl [.string v0, .slice da1 es1.length dc1, .slice da2 es2.length dc2] rfl 171 _ OBHu2.out.o1 isz171 (by simp) hone.out ?_; intro wz hoz hgz hzz; have HOZ := Lib.hid hoz; have HGZ := Lib.hid hgz; clear hoz hgz hzz))
  have HOF : OB wz (w.heap.size + 1) 171 ⟨[.string v0, .slice da1 es1.length dc1, .slice da2 es2.length dc2]⟩ := HOZ.out
  refine bodyPost_ret (results_cell_row Tryz.results208 _ _ (w.heap.size + 1) 171 ⟨[.string v0, .slice da1 es1.length dc1, .slice da2 es2.length dc2]⟩ _ _ rfl HOF Tryz.underlying171 rfl isz171) rfl ⟨[.string v0, .slice da1 es1.length dc1, .slice da2 es2.length dc2], rfl, (grown_ext (grown_ext (Ext.trans (grown_ext (Ext.trans (.alloc (.alloc (.alloc (.refl _) _) _) _) HW1.out) HGu1.out (by omega)) HW2.out) HGu2.out (by omega)) HGZ.out (by omega)), ?_⟩
  have sw1 := HW1.out.size
  have su1 := HGu1.out.size
  have sw2 := HW2.out.size
  have su2 := HGu2.out.size
  have swz := HGZ.out.size
  simp only [World.size_alloc] at sw1
  have ow1 := HO1.out.keeps (lo := w.heap.size + 1 + 1 + 1) (Keeps.trans (Keeps.of_grown HGu1.out (by omega)) (Keeps.trans (Keeps.of_ext HW2.out) (Keeps.trans (Keeps.of_grown HGu2.out (by omega)) (Keeps.of_grown HGZ.out (by omega))))) (by intro x hx; simp only [Between, World.size_alloc] at hx; omega)
  have ow2 := HO2.out.keeps (lo := w.heap.size + 1 + 1 + 1) (Keeps.trans (Keeps.of_grown HGu2.out (by omega)) (Keeps.of_grown HGZ.out (by omega))) (by intro x hx; simp only [Between, World.size_alloc] at hx; omega)
  have hall := OwnL.cons_leaf K0.out (OwnL.append (OwnL.one ow1) (OwnL.append (OwnL.one ow2) (OwnL.nil wz (fun _ => False)) (by intro x hx hy; simp only [Between, World.size_alloc, or_false] at hx hy <;> omega)) (by intro x hx hy; simp only [Between, World.size_alloc, or_false] at hx hy <;> omega))
  exact hall.mono (by intro x hx; simp only [Between, World.size_alloc, or_false] at hx ⊢; omega)

set_option maxRecDepth 100000 in
set_option maxHeartbeats 1000000 in
theorem eqDataType_of (v0 : ByteArray) (es1 : List (List Tr)) (es2 : List (List Tr)) (h1 : EqSC 29 1 es1) (h2 : EqSC 226 2 es2) : EqC 211 ([.leaf (.string v0)] ++ ([.row 1 es1] ++ ([.row 2 es2] ++ ([])))) := by
  intro cs ds w hr hr'
  obtain ⟨b0, r0, rfl, g0, n0⟩ := RepL.split hr
  obtain ⟨y0, rfl⟩ := list1 g0.length.symm
  obtain ⟨rfl, k0⟩ := g0.1.leaf_eq
  obtain ⟨b1, r1, rfl, g1, n1⟩ := RepL.split n0
  obtain ⟨y1, rfl⟩ := list1 g1.length.symm
  obtain ⟨a1, c1, rfl, -, -⟩ := g1.1.shape
  obtain ⟨b2, r2, rfl, g2, n2⟩ := RepL.split n1
  obtain ⟨y2, rfl⟩ := list1 g2.length.symm
  obtain ⟨a2, c2, rfl, -, -⟩ := g2.1.shape
  obtain rfl := RepL.nil_eq n2
  clear hr
  obtain ⟨zb0, zr0, rfl, zg0, zn0⟩ := RepL.split hr'
  obtain ⟨zy0, rfl⟩ := list1 zg0.length.symm
  obtain ⟨rfl, zk0⟩ := zg0.1.leaf_eq
  obtain ⟨zb1, zr1, rfl, zg1, zn1⟩ := RepL.split zn0
  obtain ⟨zy1, rfl⟩ := list1 zg1.length.symm
  obtain ⟨za1, zc1, rfl, -, -⟩ := zg1.1.shape
  obtain ⟨zb2, zr2, rfl, zg2, zn2⟩ := RepL.split zn1
  obtain ⟨zy2, rfl⟩ := list1 zg2.length.symm
  obtain ⟨za2, zc2, rfl, -, -⟩ := zg2.1.shape
  obtain rfl := RepL.nil_eq zn2
  clear hr'
  have G0 := Lib.hid g0
  have K0 := Lib.hid k0
  clear g0 n0 k0
  have G1 := Lib.hid g1
  clear g1 n1
  have G2 := Lib.hid g2
  clear g2 n2
  have zG0 := Lib.hid zg0
  have zK0 := Lib.hid zk0
  clear zg0 zn0 zk0
  have zG1 := Lib.hid zg1
  clear zg1 zn1
  have zG2 := Lib.hid zg2
  clear zg2 zn2
  simp only [List.cons_append, List.nil_append]
  go_enter Tryz.func211, Tryz.ntmps211
  go_wp2_with fail
  refine (h1 _ _ _ (G1.out.1.ext (.alloc (.alloc (.refl _) _) _)) (zG1.out.1.ext (.alloc (.alloc (.refl _) _) _))).mono ?_
  rintro e w1 ⟨rfl, hw1⟩
  have HW1 := Lib.hid hw1
  have ob1 := (Two.new w _ _ _ _).ext hw1
  have OBH := Lib.hid ob1
  have ce1 := ob1.o0.cell
  have cf1 := ob1.o1.cell
  clear hw1 ob1
  go_wp2_with fail
  refine (h2 _ _ _ (G2.out.1.ext (Ext.trans (.alloc (.alloc (.refl _) _) _) HW1.out)) (zG2.out.1.ext (Ext.trans (.alloc (.alloc (.refl _) _) _) HW1.out))).mono ?_
  rintro e w2 ⟨rfl, hw2⟩
  have HW2 := Lib.hid hw2
  have ob2 := OBH.out.ext hw2
  clear OBH ce1 cf1
  have OBH := Lib.hid ob2
  have ce2 := ob2.o0.cell
  have cf2 := ob2.o1.cell
  clear hw2 ob2
  go_wp2_with fail
  go_ret
  exact ⟨rfl, (Ext.trans (Ext.trans (.alloc (.alloc (.refl _) _) _) HW1.out) HW2.out)⟩

set_option maxRecDepth 100000 in
set_option maxHeartbeats 1000000 in
theorem szDataTypeS_of (es : List (List Tr)) (h5 : ∀ e ∈ es, e.length = 3) (H : ∀ e ∈ es, SzC 204 e) : SzSC 180 3 es := by
  intro s left w hs h0 h1
  obtain ⟨a, cap, rfl, hl, hm⟩ := hs.shape
  unfold maxLen at hm
  have HS := Lib.hid hs
  have HH := Lib.hid H
  have H5 := Lib.hid h5
  clear hs H h5
  go_enter Tryz.func180, Tryz.ntmps180
  go_wp2_with fail
  · go_ret
    exact ⟨-1, rfl, .refl _, by omega, by omega, by omega⟩
  go_loopw [1, 5] (fun l i wr => ∃ (k : Nat) (r : Int), k ≤ es.length ∧ i = .int .i64 k ∧ l = .int .i64 r ∧ Ext w wr ∧ 0 ≤ r ∧ r + es.length + Tr.bulkAll (es.take k) ≤ left) (fun _ i _ => es.length - (intOf i).toNat)
  case atStart => exact ⟨0, _, Nat.zero_le _, rfl, rfl, .refl _, by omega, by simp [Tr.bulkAll]⟩
  case round =>
    obtain ⟨k, r, hk, rfl, rfl, hw, hr0, hrb⟩ := hrel
    by_cases hlt : k < es.length
    · obtain ⟨b, off, cs, rfl, hb, hcs, hc⟩ := (HS.out.ext hw).at2 (k := k) (List.getElem?_eq_getElem hlt)
      have hmem : es[k] ∈ es := List.getElem_mem hlt
      have l5 := H5.out _ hmem
      have hbt := Lib.hid (Tr.bulkAll_take es k hlt)
      have HCS := Lib.hid hcs
      have HC := Lib.hid hc
      have HM := Lib.hid hmem
      have HI : Hid ((Tryz.prog.info? 238).map (·.size) = some cs.length) := by rw [← hcs.length, l5]; exact isz238
      clear hcs hc hmem l5
      go_wp2_with (refine wpList_load_rep rfl 238 _ rfl b (off + k * 3) rfl cs _ Tryz.underlying238 HI.out HC.out ?_)
      refine (HH.out _ HM.out _ _ _ HCS.out hr0 (by omega)).mono ?_
      rintro e w1 ⟨r1, rfl, hw1, hr1, hr2, hr3⟩
      have HR3 := Lib.hid hr3
      have HW1 := Lib.hid hw1
      clear hr3 hw1
      go_wp2_with fail
      · go_ret
        exact ⟨-1, rfl, hw.trans HW1.out, by omega, by omega, by omega⟩
      · go_roundw
        case rel =>
          have p0 : 0 ≤ r1 := by assumption
          have e1 := HR3.out p0
          have e2 := hbt.out
          exact ⟨k + 1, r1, by omega, by go_num, rfl, hw.trans HW1.out, p0, by omega⟩
        case measure => simp [intOf]; omega
    · have hkl : k = es.length := by omega
      go_wp2_with fail
      go_ret
      refine ⟨r, rfl, hw, by omega, by omega, fun _ => ?_⟩
      rw [hkl, List.take_length] at hrb
      simp only [Tr.bulk]
      omega

set_option maxRecDepth 100000 in
set_option maxHeartbeats 1000000 in
theorem toDataTypeS_of (es : List (List Tr)) (h5 : ∀ e ∈ es, e.length = 3) (H : ∀ e ∈ es, ToC 208 e) : ToSC 185 3 es := by
  intro s w hs hbk
  obtain ⟨a, cap, rfl, hl, hm⟩ := hs.shape
  unfold maxLen at hm
  have HS := Lib.hid hs
  have HH := Lib.hid H
  have H5 := Lib.hid h5
  have n0 : (0 : Int) ≤ es.length := by omega
  clear hs H h5
  go_enter Tryz.func185, Tryz.ntmps185
  go_wp2_with (refine wpList_make_rep rfl 122 (.tmp 6) rfl es.length rfl 171 Tryz.underlying122 3 64 iszb171 (by omega) (by omega) ?_; intro wm arr0 ha0 hob0 hx0 hz0; have HA0 := Lib.hid ha0; have HOB0 := Lib.hid hob0; have HX0 := Lib.hid hx0; have HZ0 := Lib.hid hz0; clear ha0 hob0 hx0 hz0)
  go_loopw [4] (fun i wr => ∃ (k : Nat) (arr : Array Value), k ≤ es.length ∧ i = .int .i64 k ∧ Ext w wr ∧ w.heap.size < wr.heap.size ∧ OB wr w.heap.size 171 arr ∧ arr.size = es.length * 3 ∧ Part wr w.heap.size arr 3 es k) (fun i _ => es.length - (intOf i).toNat)
  case atStart => exact ⟨0, arr0, Nat.zero_le _, rfl, HX0.out, by rw [HZ0.out]; omega, HOB0.out, HA0.out, Part.zero _ _ _ _ _⟩
  case round =>
    obtain ⟨k, arr, hk, rfl, hw, hgt, hob, hasz, hpart⟩ := hrel
    have HOB := Lib.hid hob
    have HAS := Lib.hid hasz
    have HP := Lib.hid hpart
    clear hob hasz hpart
    by_cases hlt : k < es.length
    · obtain ⟨b, off, cs, rfl, hb, hcs, hc⟩ := (HS.out.ext hw).at2 (k := k) (List.getElem?_eq_getElem hlt)
      have hmem : es[k] ∈ es := List.getElem_mem hlt
      have l5 := H5.out _ hmem
      have hbe := Tr.bulkAll_le hlt
      have HCS := Lib.hid hcs
      have HC := Lib.hid hc
      have HM := Lib.hid hmem
      have HL5 := Lib.hid l5
      have HI : Hid ((Tryz.prog.info? 238).map (·.size) = some cs.length) := by rw [← hcs.length, l5]; exact isz238
      clear hcs hc hmem l5
      go_wp2_with (refine wpList_load_rep rfl 238 (.tmp 18) rfl b (off + k * 3) rfl cs _ Tryz.underlying238 HI.out HC.out ?_)
      refine (HH.out _ HM.out _ _ HCS.out (by omega)).mono ?_
      rintro e w1 ⟨cs1, rfl, hw1, ho1⟩
      have HW1 := Lib.hid hw1
      have HO1 := Lib.hid ho1
      have hcl : cs1.length = 3 := ho1.1.trans HL5.out
      have HCL := Lib.hid hcl
      have hfit : 0 + k * 3 + cs1.length ≤ arr.size := by have := HAS.out; omega
      have HF := Lib.hid hfit
      clear hw1 ho1 hcl hfit
      go_wp2_with (refine wpList_store_rep rfl 171 (.tmp 21) (.tmp 20) rfl w.heap.size (k * 3) rfl cs1 rfl 171 arr (HOB.out.ext HW1.out) (by rw [HCL.out]; exact isz171) (by have := HF.out; omega) (HO1.out.rep.one) ?_; intro w2 hob2 hg2 hz2; have HOB2 := Lib.hid hob2; have HG2 := Lib.hid hg2; have HZ2 := Lib.hid hz2; clear hob2 hg2 hz2)
      go_roundw
      case rel =>
        have hfit : k * 3 + cs1.length ≤ arr.size := by have := HF.out; omega
        refine ⟨k + 1, _, by omega, by go_num, ?_, ?_, HOB2.out, by rw [splice_size hfit]; exact HAS.out, HP.out.step hgt HW1.out (List.getElem?_eq_getElem hlt) HO1.out HCL.out HAS.out HG2.out HOB2.out⟩
        · exact grown_ext (hw.trans HW1.out) HG2.out (Nat.le_refl _)
        · have := HW1.out.size
          have := HZ2.out
          omega
      case measure => simp [intOf]; omega
    · have hkl : k = es.length := by omega
      go_wp2_with fail
      go_ret
      subst hkl
      exact ⟨_, rfl, hw, (HP.out.done HOB.out H5.out (Nat.le_refl _) (by unfold maxLen; omega) (Nat.le_refl _)).mono fun x hx => ⟨hx.1, hx.2⟩⟩

set_option maxRecDepth 100000 in
set_option maxHeartbeats 1000000 in
theorem eqDataTypeS_of (es : List (List Tr)) (h5 : ∀ e ∈ es, e.length = 3) (H : ∀ e ∈ es, EqC 211 e) : EqSC 189 3 es := by
  intro s u w hs hu
  obtain ⟨a, cap, rfl, hl, hm⟩ := hs.shape
  obtain ⟨a', cap', rfl, hl', hm'⟩ := hu.shape
  unfold maxLen at hm hm'
  have HS := Lib.hid hs
  have HU := Lib.hid hu
  have HH := Lib.hid H
  have H5 := Lib.hid h5
  clear hs hu H h5
  go_enter Tryz.func189, Tryz.ntmps189
  go_wp2_with fail
  go_loopw [5] (fun i wr => ∃ k : Nat, k ≤ es.length ∧ i = .int .i64 k ∧ Ext w wr) (fun i _ => es.length - (intOf i).toNat)
  case atStart => exact ⟨0, Nat.zero_le _, rfl, .refl _⟩
  case round =>
    obtain ⟨k, hk, rfl, hw⟩ := hrel
    by_cases hlt : k < es.length
    · obtain ⟨b, off, cs, rfl, hb, hcs, hc⟩ := (HS.out.ext hw).at2 (k := k) (List.getElem?_eq_getElem hlt)
      obtain ⟨b', off', ds, rfl, hb', hds, hd⟩ := (HU.out.ext hw).at2 (k := k) (List.getElem?_eq_getElem hlt)
      have hmem : es[k] ∈ es := List.getElem_mem hlt
      have l5 := H5.out _ hmem
      have HCS := Lib.hid hcs
      have HDS := Lib.hid hds
      have HM := Lib.hid hmem
      have HC := Lib.hid hc
      have HD := Lib.hid hd
      have HI : Hid ((Tryz.prog.info? 171).map (·.size) = some cs.length) := by rw [← hcs.length, l5]; exact isz171
      have HJ : Hid ((Tryz.prog.info? 171).map (·.size) = some ds.length) := by rw [← hds.length, l5]; exact isz171
      clear hcs hds hc hd l5 hmem
      go_wp2_with fail
      have ki : (k : Int) < (es.length : Int) := by omega
      have k0 : (0 : Int) ≤ (k : Int) := by omega
      refine wp_region_still_tail 8 (by kernel_rfl) (by kernel_rfl) ?_
      simp only [List.take_succ_cons, List.take_zero, List.drop_succ_cons, List.drop_zero]
      change wpStill _ _ wr.drew _ _ _
      repeat (first
        | (refine wpStill_load_rep rfl 171 (.tmp 19) rfl b (off + k * 3) rfl cs _ Tryz.underlying171 HI.out HC.out ?_; simp only [Act.put])
        | (refine wpStill_load_rep rfl 171 (.tmp 23) rfl b' (off' + k * 3) rfl ds _ Tryz.underlying171 HJ.out HD.out ?_; simp only [Act.put])
        | still_step)
      refine wpStill_nil ?_
      change wpList _ _ _ _ _ wr.drew
      go_wp2_with fail
      refine (HH.out _ HM.out _ _ _ (HCS.out.ext (.drew (.refl _))) (HDS.out.ext (.drew (.refl _)))).mono ?_
      rintro e w1 ⟨rfl, hw1⟩
      have HW1 := Lib.hid hw1
      clear hw1
      go_wp2_with fail
      go_roundw
      case rel => exact ⟨k + 1, by omega, by go_num, hw.trans (.trans (.drew (.refl _)) HW1.out)⟩
      case measure => simp [intOf]; omega
    · go_wp2_with fail
      go_ret
      exact ⟨rfl, hw⟩

end Go.Proofs.YtnakkelglbcecaaGreat

namespace Go.Proofs.YtnakkelglbcecaaGreat
open Go.RowKit Go.Proofs

set_option maxRecDepth 100000 in
set_option maxHeartbeats 1000000 in
theorem szSignature_of (v0 : ByteArray) (es1 : List (List Tr)) (ts2 : List Tr) (l2 : ts2.length = 3) (v3 : Bool) (es4 : List (List Tr)) (ts5 : List Tr) (l5 : ts5.length = 9) (h1 : SzSC 101 3 es1) (h2 : SzC 43 ts2) (h4 : SzSC 178 1 es4) (h5 : SzC 220 ts5) : SzC 230 ([.leaf (.string v0)] ++ ([.row 3 es1] ++ (ts2 ++ ([.leaf (.bool v3)] ++ ([.row 1 es4] ++ (ts5 ++ ([]))))))) := by
  intro cs left w hr hl0 hl1
  obtain ⟨b0, r0, rfl, g0, n0⟩ := RepL.split hr
  obtain ⟨y0, rfl⟩ := list1 g0.length.symm
  obtain ⟨rfl, k0⟩ := g0.1.leaf_eq
  obtain ⟨b1, r1, rfl, g1, n1⟩ := RepL.split n0
  obtain ⟨y1, rfl⟩ := list1 g1.length.symm
  obtain ⟨a1, c1, rfl, -, -⟩ := g1.1.shape
  obtain ⟨b2, r2, rfl, g2, n2⟩ := RepL.split n1
  obtain ⟨x2_0, x2_1, x2_2, rfl⟩ := list3 (g2.length.symm.trans l2)
  obtain ⟨b3, r3, rfl, g3, n3⟩ := RepL.split n2
  obtain ⟨y3, rfl⟩ := list1 g3.length.symm
  obtain ⟨rfl, k3⟩ := g3.1.leaf_eq
  obtain ⟨b4, r4, rfl, g4, n4⟩ := RepL.split n3
  obtain ⟨y4, rfl⟩ := list1 g4.length.symm
  obtain ⟨a4, c4, rfl, -, -⟩ := g4.1.shape
  obtain ⟨b5, r5, rfl, g5, n5⟩ := RepL.split n4
  obtain ⟨x5_0, x5_1, x5_2, x5_3, x5_4, x5_5, x5_6, x5_7, x5_8, rfl⟩ := list9 (g5.length.symm.trans l5)
  obtain rfl := RepL.nil_eq n5
  clear hr
  have q0 : v0.size ≤ 9223372036854775807 := by have := k0; simp only [LeafOk, maxLen] at this; omega
  have G0 := Lib.hid g0
  have K0 := Lib.hid k0
  clear g0 n0 k0
  have G1 := Lib.hid g1
  clear g1 n1
  have G2 := Lib.hid g2
  clear g2 n2
  have G3 := Lib.hid g3
  have K3 := Lib.hid k3
  clear g3 n3 k3
  have G4 := Lib.hid g4
  clear g4 n4
  have G5 := Lib.hid g5
  clear g5 n5
  simp only [List.cons_append, List.nil_append]
  go_enter Tryz.func230, Tryz.ntmps230
  go_wp2_with fail
  · go_ret
    exact ⟨-1, rfl, (.alloc (.refl _) _), by omega, by omega, by omega⟩
  refine (h1 _ _ _ (G1.out.1.ext (.alloc (.refl _) _)) (by omega) (by omega)).mono ?_
  rintro e w1 ⟨r1, rfl, hw1, ra1, rb1, rc1⟩
  have HW1 := Lib.hid hw1
  have HR1 := Lib.hid rc1
  have ob1 := (OB.new w _ _).ext hw1
  have OBH := Lib.hid ob1
  have ce1 := ob1.cell
  clear hw1 rc1 ob1
  go_wp2_with fail
  · go_ret
    exact ⟨-1, rfl, (Ext.trans (.alloc (.refl _) _) HW1.out), by omega, by omega, by omega⟩
  refine (h2 _ _ _ (G2.out.ext (Ext.trans (.alloc (.refl _) _) HW1.out)) (by omega) (by omega)).mono ?_
  rintro e w2 ⟨r2, rfl, hw2, ra2, rb2, rc2⟩
  have HW2 := Lib.hid hw2
  have HR2 := Lib.hid rc2
  have ob2 := OBH.out.ext hw2
  clear OBH ce1
  have OBH := Lib.hid ob2
  have ce2 := ob2.cell
  clear hw2 rc2 ob2
  go_wp2_with fail
  · go_ret
    exact ⟨-1, rfl, (Ext.trans (Ext.trans (.alloc (.refl _) _) HW1.out) HW2.out), by omega, by omega, by omega⟩
  refine (h4 _ _ _ (G4.out.1.ext (Ext.trans (Ext.trans (.alloc (.refl _) _) HW1.out) HW2.out)) (by omega) (by omega)).mono ?_
  rintro e w4 ⟨r4, rfl, hw4, ra4, rb4, rc4⟩
  have HW4 := Lib.hid hw4
  have HR4 := Lib.hid rc4
  have ob4 := OBH.out.ext hw4
  clear OBH ce2
  have OBH := Lib.hid ob4
  have ce4 := ob4.cell
  clear hw4 rc4 ob4
  go_wp2_with fail
  · go_ret
    exact ⟨-1, rfl, (Ext.trans (Ext.trans (Ext.trans (.alloc (.refl _) _) HW1.out) HW2.out) HW4.out), by omega, by omega, by omega⟩
  refine (h5 _ _ _ (G5.out.ext (Ext.trans (Ext.trans (Ext.trans (.alloc (.refl _) _) HW1.out) HW2.out) HW4.out)) (by omega) (by omega)).mono ?_
  rintro e w5 ⟨r5, rfl, hw5, ra5, rb5, rc5⟩
  have HW5 := Lib.hid hw5
  have HR5 := Lib.hid rc5
  have ob5 := OBH.out.ext hw5
  clear OBH ce4
  have OBH := Lib.hid ob5
  have ce5 := ob5.cell
  clear hw5 rc5 ob5
  go_wp2_with fail
  · go_ret
    exact ⟨-1, rfl, (Ext.trans (Ext.trans (Ext.trans (Ext.trans (.alloc (.refl _) _) HW1.out) HW2.out) HW4.out) HW5.out), by omega, by omega, by omega⟩
  go_ret
  refine ⟨_, rfl, (Ext.trans (Ext.trans (Ext.trans (Ext.trans (.alloc (.refl _) _) HW1.out) HW2.out) HW4.out) HW5.out), by omega, by omega, fun hp => ?_⟩
  have e1 := HR1.out (by omega)
  have e2 := HR2.out (by omega)
  have e4 := HR4.out (by omega)
  have e5 := HR5.out (by omega)
  simp only [Tr.bulkL_append, Tr.bulkL, Tr.bulk]
  simp only [Tr.bulk] at e1 e4
  omega

set_option maxRecDepth 100000 in
set_option maxHeartbeats 1000000 in
theorem toSignature_of (v0 : ByteArray) (es1 : List (List Tr)) (ts2 : List Tr) (l2 : ts2.length = 3) (v3 : Bool) (es4 : List (List Tr)) (ts5 : List Tr) (l5 : ts5.length = 9) (h1 : ToSC 104 3 es1) (h2 : ToC 45 ts2) (h4 : ToSC 183 1 es4) (h5 : ToC 225 ts5) : ToC 236 ([.leaf (.string v0)] ++ ([.row 3 es1] ++ (ts2 ++ ([.leaf (.bool v3)] ++ ([.row 1 es4] ++ (ts5 ++ ([]))))))) := by
  intro cs w hr hbk
  simp only [Tr.bulkL_append, Tr.bulkL, Tr.bulk] at hbk
  obtain ⟨b0, r0, rfl, g0, n0⟩ := RepL.split hr
  obtain ⟨y0, rfl⟩ := list1 g0.length.symm
  obtain ⟨rfl, k0⟩ := g0.1.leaf_eq
  obtain ⟨b1, r1, rfl, g1, n1⟩ := RepL.split n0
  obtain ⟨y1, rfl⟩ := list1 g1.length.symm
  obtain ⟨a1, c1, rfl, -, -⟩ := g1.1.shape
  obtain ⟨b2, r2, rfl, g2, n2⟩ := RepL.split n1
  obtain ⟨x2_0, x2_1, x2_2, rfl⟩ := list3 (g2.length.symm.trans l2)
  obtain ⟨b3, r3, rfl, g3, n3⟩ := RepL.split n2
  obtain ⟨y3, rfl⟩ := list1 g3.length.symm
  obtain ⟨rfl, k3⟩ := g3.1.leaf_eq
  obtain ⟨b4, r4, rfl, g4, n4⟩ := RepL.split n3
  obtain ⟨y4, rfl⟩ := list1 g4.length.symm
  obtain ⟨a4, c4, rfl, -, -⟩ := g4.1.shape
  obtain ⟨b5, r5, rfl, g5, n5⟩ := RepL.split n4
  obtain ⟨x5_0, x5_1, x5_2, x5_3, x5_4, x5_5, x5_6, x5_7, x5_8, rfl⟩ := list9 (g5.length.symm.trans l5)
  obtain rfl := RepL.nil_eq n5
  clear hr
  have G0 := Lib.hid g0
  have K0 := Lib.hid k0
  clear g0 n0 k0
  have G1 := Lib.hid g1
  clear g1 n1
  have G2 := Lib.hid g2
  clear g2 n2
  have G3 := Lib.hid g3
  have K3 := Lib.hid k3
  clear g3 n3 k3
  have G4 := Lib.hid g4
  clear g4 n4
  have G5 := Lib.hid g5
  clear g5 n5
  simp only [List.cons_append, List.nil_append]
  go_enter Tryz.func236, Tryz.ntmps236
  go_wp2_with fail
  refine (h1 _ _ (G1.out.1.ext (.alloc (.alloc (.alloc (.refl _) _) _) _)) (by omega)).mono ?_
  rintro e w1 ⟨d1, rfl, hw1, ho1⟩
  obtain ⟨da1, dc1, rfl, -, -⟩ := ho1.rep.shape
  have HW1 := Lib.hid hw1
  have HO1 := Lib.hid ho1
  have ob1 := (Three.new w _ _ _ _ _ _).ext hw1
  have OBHw1 := Lib.hid ob1
  have cew1 := ob1.o0.cell
  have hzw1 : w.heap.size < w1.heap.size := ob1.o0.lt
  clear hw1 ob1 ho1
  go_wp2_with (first
    | (refine wpList_store_cell rfl 45 _ _ rfl (w.heap.size + 1 + 1) 1 rfl (.slice da1 es1.length dc1) rfl rfl 191 _ OBHw1.out.o2 isz45 (by simp [splice]) rfl ?_; intro u1 hou1 hgu1 hzu1; have OBHu1 := Lib.hid (OBHw1.out.grown hgu1 hou1 (by omega) (by omega)); have HGu1 := Lib.hid hgu1; have ceu1 := OBHu1.out.o0.cell; have hqu1 : w.heap.size < u1.heap.size := OBHu1.out.o0.lt; clear hou1 hgu1 hzu1 OBHw1 cew1))
  refine (h2 _ _ (G2.out.ext (grown_ext (Ext.trans (.alloc (.alloc (.alloc (.refl _) _) _) _) HW1.out) HGu1.out (by omega))) (by omega)).mono ?_
  rintro e w2 ⟨d2, rfl, hw2, ho2⟩
  obtain ⟨d2_0, d2_1, d2_2, rfl⟩ := list3 (ho2.1.trans l2)
  have HW2 := Lib.hid hw2
  have HO2 := Lib.hid ho2
  have ob2 := OBHu1.out.ext hw2
  clear OBHu1 ceu1
  have OBHw2 := Lib.hid ob2
  have cew2 := ob2.o0.cell
  have hzw2 : w.heap.size < w2.heap.size := ob2.o0.lt
  clear hw2 ob2 ho2
  go_wp2_with (first
    | (refine wpList_store_rep rfl 47 _ _ rfl (w.heap.size + 1 + 1) 2 rfl [d2_0, d2_1, d2_2] rfl 191 _ OBHw2.out.o2 isz47 (by simp [splice]) HO2.out.rep.one ?_; intro u2 hou2 hgu2 hzu2; have OBHu2 := Lib.hid (OBHw2.out.grown hgu2 hou2 (by omega) (by omega)); have HGu2 := Lib.hid hgu2; have ceu2 := OBHu2.out.o0.cell; have hqu2 : w.heap.size < u2.heap.size := OBHu2.out.o0.lt; clear hou2 hgu2 hzu2 OBHw2 cew2)
    | (refine wpList_store_cell rfl 4 _ _ rfl (w.heap.size + 1 + 1) 5 rfl (.bool v3) rfl rfl 191 _ OBHu2.out.o2 isz4 (by simp [splice]) rfl ?_; intro u3 hou3 hgu3 hzu3; have OBHu3 := Lib.hid (OBHu2.out.grown hgu3 hou3 (by omega) (by omega)); have HGu3 := Lib.hid hgu3; have ceu3 := OBHu3.out.o0.cell; have hqu3 : w.heap.size < u3.heap.size := OBHu3.out.o0.lt; clear hou3 hgu3 hzu3 OBHu2 ceu2))
  refine (h4 _ _ (G4.out.1.ext (grown_ext (grown_ext (Ext.trans (grown_ext (Ext.trans (.alloc (.alloc (.alloc (.refl _) _) _) _) HW1.out) HGu1.out (by omega)) HW2.out) HGu2.out (by omega)) HGu3.out (by omega))) (by omega)).mono ?_
  rintro e w4 ⟨d4, rfl, hw4, ho4⟩
  obtain ⟨da4, dc4, rfl, -, -⟩ := ho4.rep.shape
  have HW4 := Lib.hid hw4
  have HO4 := Lib.hid ho4
  have ob4 := OBHu3.out.ext hw4
  clear OBHu3 ceu3
  have OBHw4 := Lib.hid ob4
  have cew4 := ob4.o0.cell
  have hzw4 : w.heap.size < w4.heap.size := ob4.o0.lt
  clear hw4 ob4 ho4
  go_wp2_with (first
    | (refine wpList_store_cell rfl 54 _ _ rfl (w.heap.size + 1 + 1) 6 rfl (.slice da4 es4.length dc4) rfl rfl 191 _ OBHw4.out.o2 isz54 (by simp [splice]) rfl ?_; intro u4 hou4 hgu4 hzu4; have OBHu4 := Lib.hid (OBHw4.out.grown hgu4 hou4 (by omega) (by omega)); have HGu4 := Lib.hid hgu4; have ceu4 := OBHu4.out.o0.cell; have hqu4 : w.heap.size < u4.heap.size := OBHu4.out.o0.lt; clear hou4 hgu4 hzu4 OBHw4 cew4))
  refine (h5 _ _ (G5.out.ext (grown_ext (Ext.trans (grown_ext (grown_ext (Ext.trans (grown_ext (Ext.trans (.alloc (.alloc (.alloc (.refl _) _) _) _) HW1.out) HGu1.out (by omega)) HW2.out) HGu2.out (by omega)) HGu3.out (by omega)) HW4.out) HGu4.out (by omega))) (by omega)).mono ?_
  rintro e w5 ⟨d5, rfl, hw5, ho5⟩
  obtain ⟨d5_0, d5_1, d5_2, d5_3, d5_4, d5_5, d5_6, d5_7, d5_8, rfl⟩ := list9 (ho5.1.trans l5)
  have HW5 := Lib.hid hw5
  have HO5 := Lib.hid ho5
  have ob5 := OBHu4.out.ext hw5
  clear OBHu4 ceu4
  have OBHw5 := Lib.hid ob5
  have cew5 := ob5.o0.cell
  have hzw5 : w.heap.size < w5.heap.size := ob5.o0.lt
  clear hw5 ob5 ho5
  have hone : Hid (∀ v ∈ ([.string v0, .slice da1 es1.length dc1, d2_0, d2_1, d2_2, .bool v3, .slice da4 es4.length dc4, d5_0, d5_1, d5_2, d5_3, d5_4, d5_5, d5_6, d5_7, d5_8] : List Value), v.oneCell' = true) := by
    intro v hv
    simp only [List.mem_cons, List.not_mem_nil, or_false] at hv
    rcases hv with rfl | rfl | rfl | rfl | rfl | rfl | rfl | rfl | rfl | rfl | rfl | rfl | rfl | rfl | rfl | rfl <;> first | rfl | (refine HO2.out.rep.one _ ?_; simp; done) | (refine HO5.out.rep.one _ ?_; simp; done)
  go_wp2_with (first
    | (refine wpList_store_rep rfl 103 _ _ rfl (w.heap.size + 1 + 1) 7 rfl [d5_0, d5_1, d5_2, d5_3, d5_4, d5_5, d5_6, d5_7, d5_8] rfl 191 _ OBHw5.out.o2 isz103 (by simp [splice]) HO5.out.rep.one ?_; intro u5 hou5 hgu5 hzu5; have OBHu5 := Lib.hid (OBHw5.out.grown hgu5 hou5 (by omega) (by omega)); have HGu5 := Lib.hid hgu5; have ceu5 := OBHu5.out.o0.cell; have hqu5 : w.heap.size < u5.heap.size := OBHu5.out.o0.lt; clear hou5 hgu5 hzu5 OBHw5 cew5)
    | (refine wpList_load_rep rfl 191 _ rfl (w.heap.size + 1 + 1) 0 rfl [.string v0, .slice da1 es1.length dc1, d2_0, d2_1, d2_2, .bool v3, .slice da4 es4.length dc4, d5_0, d5_1, d5_2, d5_3, d5_4, d5_5, d5_6, d5_7, d5_8] _ Tryz.underlying191 isz191 (fun j v hv => by rw [OBHu5.out.o2.cell, Nat.zero_add]; simpa [splice] using hv) ?_)
    | (refine wpList_store_rep rfl 191 _ _ rfl (w.heap.size + 1) 0 rfl [.string v0, .slice da1 es1.length dc1, d2_0, d2_1, d2_2, .bool v3, .slice da4 es4.length dc4, d5_0, d5_1, d5_2, d5_3, d5_4, d5_5, d5_6, d5_7, d5_8] rfl 191 _ OBHu5.out.o1 isz191 (by simp) hone.out ?_; intro wz hoz hgz hzz; have HOZ := Lib.hid hoz; have HGZ := Lib.hid hgz; clear hoz hgz hzz))
  have HOF : OB wz (w.heap.size + 1) 191 ⟨[.string v0, .slice da1 es1.length dc1, d2_0, d2_1, d2_2, .bool v3, .slice da4 es4.length dc4, d5_0, d5_1, d5_2, d5_3, d5_4, d5_5, d5_6, d5_7, d5_8]⟩ := HOZ.out
  refine bodyPost_ret (results_cell_row Tryz.results236 _ _ (w.heap.size + 1) 191 ⟨[.string v0, .slice da1 es1.length dc1, d2_0, d2_1, d2_2, .bool v3, .slice da4 es4.length dc4, d5_0, d5_1, d5_2, d5_3, d5_4, d5_5, d5_6, d5_7, d5_8]⟩ _ _ rfl HOF Tryz.underlying191 rfl isz191) rfl ⟨[.string v0, .slice da1 es1.length dc1, d2_0, d2_1, d2_2, .bool v3, .slice da4 es4.length dc4, d5_0, d5_1, d5_2, d5_3, d5_4, d5_5, d5_6, d5_7, d5_8], rfl, (grown_ext (grown_ext (Ext.trans (grown_ext (Ext.trans (grown_ext (grown_ext (Ext.trans (grown_ext (Ext.trans (.alloc (.alloc (.alloc (.refl _) _) _) _) HW1.out) HGu1.out (by omega)) HW2.out) HGu2.out (by omega)) HGu3.out (by omega)) HW4.out) HGu4.out (by omega)) HW5.out) HGu5.out (by omega)) HGZ.out (by omega)), ?_⟩
  have sw1 := HW1.out.size
  have su1 := HGu1.out.size
  have sw2 := HW2.out.size
  have su2 := HGu2.out.size
  have su3 := HGu3.out.size
  have sw4 := HW4.out.size
  have su4 := HGu4.out.size
  have sw5 := HW5.out.size
  have su5 := HGu5.out.size
  have swz := HGZ.out.size
  simp only [World.size_alloc] at sw1
  have ow1 := HO1.out.keeps (lo := w.heap.size + 1 + 1 + 1) (Keeps.trans (Keeps.of_grown HGu1.out (by omega)) (Keeps.trans (Keeps.of_ext HW2.out) (Keeps.trans (Keeps.of_grown HGu2.out (by omega)) (Keeps.trans (Keeps.of_grown HGu3.out (by omega)) (Keeps.trans (Keeps.of_ext HW4.out) (Keeps.trans (Keeps.of_grown HGu4.out (by omega)) (Keeps.trans (Keeps.of_ext HW5.out) (Keeps.trans (Keeps.of_grown HGu5.out (by omega)) (Keeps.of_grown HGZ.out (by omega)))))))))) (by intro x hx; simp only [Between, World.size_alloc] at hx; omega)
  have ow2 := HO2.out.keeps (lo := w.heap.size + 1 + 1 + 1) (Keeps.trans (Keeps.of_grown HGu2.out (by omega)) (Keeps.trans (Keeps.of_grown HGu3.out (by omega)) (Keeps.trans (Keeps.of_ext HW4.out) (Keeps.trans (Keeps.of_grown HGu4.out (by omega)) (Keeps.trans (Keeps.of_ext HW5.out) (Keeps.trans (Keeps.of_grown HGu5.out (by omega)) (Keeps.of_grown HGZ.out (by omega)))))))) (by intro x hx; simp only [Between, World.size_alloc] at hx; omega)
  have ow4 := HO4.out.keeps (lo := w.heap.size + 1 + 1 + 1) (Keeps.trans (Keeps.of_grown HGu4.out (by omega)) (Keeps.trans (Keeps.of_ext HW5.out) (Keeps.trans (Keeps.of_grown HGu5.out (by omega)) (Keeps.of_grown HGZ.out (by omega))))) (by intro x hx; simp only [Between, World.size_alloc] at hx; omega)
  have ow5 := HO5.out.keeps (lo := w.heap.size + 1 + 1 + 1) (Keeps.trans (Keeps.of_grown HGu5.out (by omega)) (Keeps.of_grown HGZ.out (by omega))) (by intro x hx; simp only [Between, World.size_alloc] at hx; omega)
  have hall := OwnL.cons_leaf K0.out (OwnL.append (OwnL.one ow1) (OwnL.append (ow2) (OwnL.cons_leaf K3.out (OwnL.append (OwnL.one ow4) (OwnL.append (ow5) (OwnL.nil wz (fun _ => False)) (by intro x hx hy; simp only [Between, World.size_alloc, or_false] at hx hy <;> omega)) (by intro x hx hy; simp only [Between, World.size_alloc, or_false] at hx hy <;> omega))) (by intro x hx hy; simp only [Between, World.size_alloc, or_false] at hx hy <;> omega)) (by intro x hx hy; simp only [Between, World.size_alloc, or_false] at hx hy <;> omega))
  exact hall.mono (by intro x hx; simp only [Between, World.size_alloc, or_false] at hx ⊢; omega)

set_option maxRecDepth 100000 in
set_option maxHeartbeats 1000000 in
theorem eqSignature_of (v0 : ByteArray) (es1 : List (List Tr)) (ts2 : List Tr) (l2 : ts2.length = 3) (v3 : Bool) (es4 : List (List Tr)) (ts5 : List Tr) (l5 : ts5.length = 9) (h1 : EqSC 107 3 es1) (h2 : EqC 47 ts2) (h4 : EqSC 29 1 es4) (h5 : EqC 130 ts5) : EqC 167 ([.leaf (.string v0)] ++ ([.row 3 es1] ++ (ts2 ++ ([.leaf (.bool v3)] ++ ([.row 1 es4] ++ (ts5 ++ ([]))))))) := by
  intro cs ds w hr hr'
  obtain ⟨b0, r0, rfl, g0, n0⟩ := RepL.split hr
  obtain ⟨y0, rfl⟩ := list1 g0.length.symm
  obtain ⟨rfl, k0⟩ := g0.1.leaf_eq
  obtain ⟨b1, r1, rfl, g1, n1⟩ := RepL.split n0
  obtain ⟨y1, rfl⟩ := list1 g1.length.symm
  obtain ⟨a1, c1, rfl, -, -⟩ := g1.1.shape
  obtain ⟨b2, r2, rfl, g2, n2⟩ := RepL.split n1
  obtain ⟨x2_0, x2_1, x2_2, rfl⟩ := list3 (g2.length.symm.trans l2)
  obtain ⟨b3, r3, rfl, g3, n3⟩ := RepL.split n2
  obtain ⟨y3, rfl⟩ := list1 g3.length.symm
  obtain ⟨rfl, k3⟩ := g3.1.leaf_eq
  obtain ⟨b4, r4, rfl, g4, n4⟩ := RepL.split n3
  obtain ⟨y4, rfl⟩ := list1 g4.length.symm
  obtain ⟨a4, c4, rfl, -, -⟩ := g4.1.shape
  obtain ⟨b5, r5, rfl, g5, n5⟩ := RepL.split n4
  obtain ⟨x5_0, x5_1, x5_2, x5_3, x5_4, x5_5, x5_6, x5_7, x5_8, rfl⟩ := list9 (g5.length.symm.trans l5)
  obtain rfl := RepL.nil_eq n5
  clear hr
  obtain ⟨zb0, zr0, rfl, zg0, zn0⟩ := RepL.split hr'
  obtain ⟨zy0, rfl⟩ := list1 zg0.length.symm
  obtain ⟨rfl, zk0⟩ := zg0.1.leaf_eq
  obtain ⟨zb1, zr1, rfl, zg1, zn1⟩ := RepL.split zn0
  obtain ⟨zy1, rfl⟩ := list1 zg1.length.symm
  obtain ⟨za1, zc1, rfl, -, -⟩ := zg1.1.shape
  obtain ⟨zb2, zr2, rfl, zg2, zn2⟩ := RepL.split zn1
  obtain ⟨zx2_0, zx2_1, zx2_2, rfl⟩ := list3 (zg2.length.symm.trans l2)
  obtain ⟨zb3, zr3, rfl, zg3, zn3⟩ := RepL.split zn2
  obtain ⟨zy3, rfl⟩ := list1 zg3.length.symm
  obtain ⟨rfl, zk3⟩ := zg3.1.leaf_eq
  obtain ⟨zb4, zr4, rfl, zg4, zn4⟩ := RepL.split zn3
  obtain ⟨zy4, rfl⟩ := list1 zg4.length.symm
  obtain ⟨za4, zc4, rfl, -, -⟩ := zg4.1.shape
  obtain ⟨zb5, zr5, rfl, zg5, zn5⟩ := RepL.split zn4
  obtain ⟨zx5_0, zx5_1, zx5_2, zx5_3, zx5_4, zx5_5, zx5_6, zx5_7, zx5_8, rfl⟩ := list9 (zg5.length.symm.trans l5)
  obtain rfl := RepL.nil_eq zn5
  clear hr'
  have G0 := Lib.hid g0
  have K0 := Lib.hid k0
  clear g0 n0 k0
  have G1 := Lib.hid g1
  clear g1 n1
  have G2 := Lib.hid g2
  clear g2 n2
  have G3 := Lib.hid g3
  have K3 := Lib.hid k3
  clear g3 n3 k3
  have G4 := Lib.hid g4
  clear g4 n4
  have G5 := Lib.hid g5
  clear g5 n5
  have zG0 := Lib.hid zg0
  have zK0 := Lib.hid zk0
  clear zg0 zn0 zk0
  have zG1 := Lib.hid zg1
  clear zg1 zn1
  have zG2 := Lib.hid zg2
  clear zg2 zn2
  have zG3 := Lib.hid zg3
  have zK3 := Lib.hid zk3
  clear zg3 zn3 zk3
  have zG4 := Lib.hid zg4
  clear zg4 zn4
  have zG5 := Lib.hid zg5
  clear zg5 zn5
  simp only [List.cons_append, List.nil_append]
  go_enter Tryz.func167, Tryz.ntmps167
  go_wp2_with fail
  refine (h1 _ _ _ (G1.out.1.ext (.alloc (.alloc (.refl _) _) _)) (zG1.out.1.ext (.alloc (.alloc (.refl _) _) _))).mono ?_
  rintro e w1 ⟨rfl, hw1⟩
  have HW1 := Lib.hid hw1
  have ob1 := (Two.new w _ _ _ _).ext hw1
  have OBH := Lib.hid ob1
  have ce1 := ob1.o0.cell
  have cf1 := ob1.o1.cell
  clear hw1 ob1
  go_wp2_with fail
  refine (h2 _ _ _ (G2.out.ext (Ext.trans (.alloc (.alloc (.refl _) _) _) HW1.out)) (zG2.out.ext (Ext.trans (.alloc (.alloc (.refl _) _) _) HW1.out))).mono ?_
  rintro e w2 ⟨rfl, hw2⟩
  have HW2 := Lib.hid hw2
  have ob2 := OBH.out.ext hw2
  clear OBH ce1 cf1
  have OBH := Lib.hid ob2
  have ce2 := ob2.o0.cell
  have cf2 := ob2.o1.cell
  clear hw2 ob2
  go_wp2_with fail
  refine (h4 _ _ _ (G4.out.1.ext (Ext.trans (Ext.trans (.alloc (.alloc (.refl _) _) _) HW1.out) HW2.out)) (zG4.out.1.ext (Ext.trans (Ext.trans (.alloc (.alloc (.refl _) _) _) HW1.out) HW2.out))).mono ?_
  rintro e w4 ⟨rfl, hw4⟩
  have HW4 := Lib.hid hw4
  have ob4 := OBH.out.ext hw4
  clear OBH ce2 cf2
  have OBH := Lib.hid ob4
  have ce4 := ob4.o0.cell
  have cf4 := ob4.o1.cell
  clear hw4 ob4
  go_wp2_with fail
  refine (h5 _ _ _ (G5.out.ext (Ext.trans (Ext.trans (Ext.trans (.alloc (.alloc (.refl _) _) _) HW1.out) HW2.out) HW4.out)) (zG5.out.ext (Ext.trans (Ext.trans (Ext.trans (.alloc (.alloc (.refl _) _) _) HW1.out) HW2.out) HW4.out))).mono ?_
  rintro e w5 ⟨rfl, hw5⟩
  have HW5 := Lib.hid hw5
  have ob5 := OBH.out.ext hw5
  clear OBH ce4 cf4
  have OBH := Lib.hid ob5
  have ce5 := ob5.o0.cell
  have cf5 := ob5.o1.cell
  clear hw5 ob5
  go_wp2_with fail
  go_ret
  exact ⟨rfl, (Ext.trans (Ext.trans (Ext.trans (Ext.trans (.alloc (.alloc (.refl _) _) _) HW1.out) HW2.out) HW4.out) HW5.out)⟩

set_option maxRecDepth 100000 in
set_option maxHeartbeats 1000000 in
theorem szSignatureS_of (es : List (List Tr)) (h5 : ∀ e ∈ es, e.length = 16) (H : ∀ e ∈ es, SzC 230 e) : SzSC 216 16 es := by
  intro s left w hs h0 h1
  obtain ⟨a, cap, rfl, hl, hm⟩ := hs.shape
  unfold maxLen at hm
  have HS := Lib.hid hs
  have HH := Lib.hid H
  have H5 := Lib.hid h5
  clear hs H h5
  go_enter Tryz.func216, Tryz.ntmps216
  go_wp2_with fail
  · go_ret
    exact ⟨-1, rfl, .refl _, by omega, by omega, by omega⟩
  go_loopw [1, 5] (fun l i wr => ∃ (k : Nat) (r : Int), k ≤ es.length ∧ i = .int .i64 k ∧ l = .int .i64 r ∧ Ext w wr ∧ 0 ≤ r ∧ r + es.length + Tr.bulkAll (es.take k) ≤ left) (fun _ i _ => es.length - (intOf i).toNat)
  case atStart => exact ⟨0, _, Nat.zero_le _, rfl, rfl, .refl _, by omega, by simp [Tr.bulkAll]⟩
  case round =>
    obtain ⟨k, r, hk, rfl, rfl, hw, hr0, hrb⟩ := hrel
    by_cases hlt : k < es.length
    · obtain ⟨b, off, cs, rfl, hb, hcs, hc⟩ := (HS.out.ext hw).at2 (k := k) (List.getElem?_eq_getElem hlt)
      have hmem : es[k] ∈ es := List.getElem_mem hlt
      have l5 := H5.out _ hmem
      have hbt := Lib.hid (Tr.bulkAll_take es k hlt)
      have HCS := Lib.hid hcs
      have HC := Lib.hid hc
      have HM := Lib.hid hmem
      have HI : Hid ((Tryz.prog.info? 277).map (·.size) = some cs.length) := by rw [← hcs.length, l5]; exact isz277
      clear hcs hc hmem l5
      go_wp2_with (refine wpList_load_rep rfl 277 _ rfl b (off + k * 16) rfl cs _ Tryz.underlying277 HI.out HC.out ?_)
      refine (HH.out _ HM.out _ _ _ HCS.out hr0 (by omega)).mono ?_
      rintro e w1 ⟨r1, rfl, hw1, hr1, hr2, hr3⟩
      have HR3 := Lib.hid hr3
      have HW1 := Lib.hid hw1
      clear hr3 hw1
      go_wp2_with fail
      · go_ret
        exact ⟨-1, rfl, hw.trans HW1.out, by omega, by omega, by omega⟩
      · go_roundw
        case rel =>
          have p0 : 0 ≤ r1 := by assumption
          have e1 := HR3.out p0
          have e2 := hbt.out
          exact ⟨k + 1, r1, by omega, by go_num, rfl, hw.trans HW1.out, p0, by omega⟩
        case measure => simp [intOf]; omega
    · have hkl : k = es.length := by omega
      go_wp2_with fail
      go_ret
      refine ⟨r, rfl, hw, by omega, by omega, fun _ => ?_⟩
      rw [hkl, List.take_length] at hrb
      simp only [Tr.bulk]
      omega

set_option maxRecDepth 100000 in
set_option maxHeartbeats 1000000 in
theorem toSignatureS_of (es : List (List Tr)) (h5 : ∀ e ∈ es, e.length = 16) (H : ∀ e ∈ es, ToC 236 e) : ToSC 221 16 es := by
  intro s w hs hbk
  obtain ⟨a, cap, rfl, hl, hm⟩ := hs.shape
  unfold maxLen at hm
  have HS := Lib.hid hs
  have HH := Lib.hid H
  have H5 := Lib.hid h5
  have n0 : (0 : Int) ≤ es.length := by omega
  clear hs H h5
  go_enter Tryz.func221, Tryz.ntmps221
  go_wp2_with (refine wpList_make_rep rfl 92 (.tmp 6) rfl es.length rfl 191 Tryz.underlying92 16 264 iszb191 (by omega) (by omega) ?_; intro wm arr0 ha0 hob0 hx0 hz0; have HA0 := Lib.hid ha0; have HOB0 := Lib.hid hob0; have HX0 := Lib.hid hx0; have HZ0 := Lib.hid hz0; clear ha0 hob0 hx0 hz0)
  go_loopw [4] (fun i wr => ∃ (k : Nat) (arr : Array Value), k ≤ es.length ∧ i = .int .i64 k ∧ Ext w wr ∧ w.heap.size < wr.heap.size ∧ OB wr w.heap.size 191 arr ∧ arr.size = es.length * 16 ∧ Part wr w.heap.size arr 16 es k) (fun i _ => es.length - (intOf i).toNat)
  case atStart => exact ⟨0, arr0, Nat.zero_le _, rfl, HX0.out, by rw [HZ0.out]; omega, HOB0.out, HA0.out, Part.zero _ _ _ _ _⟩
  case round =>
    obtain ⟨k, arr, hk, rfl, hw, hgt, hob, hasz, hpart⟩ := hrel
    have HOB := Lib.hid hob
    have HAS := Lib.hid hasz
    have HP := Lib.hid hpart
    clear hob hasz hpart
    by_cases hlt : k < es.length
    · obtain ⟨b, off, cs, rfl, hb, hcs, hc⟩ := (HS.out.ext hw).at2 (k := k) (List.getElem?_eq_getElem hlt)
      have hmem : es[k] ∈ es := List.getElem_mem hlt
      have l5 := H5.out _ hmem
      have hbe := Tr.bulkAll_le hlt
      have HCS := Lib.hid hcs
      have HC := Lib.hid hc
      have HM := Lib.hid hmem
      have HL5 := Lib.hid l5
      have HI : Hid ((Tryz.prog.info? 277).map (·.size) = some cs.length) := by rw [← hcs.length, l5]; exact isz277
      clear hcs hc hmem l5
      go_wp2_with (refine wpList_load_rep rfl 277 (.tmp 18) rfl b (off + k * 16) rfl cs _ Tryz.underlying277 HI.out HC.out ?_)
      refine (HH.out _ HM.out _ _ HCS.out (by omega)).mono ?_
      rintro e w1 ⟨cs1, rfl, hw1, ho1⟩
      have HW1 := Lib.hid hw1
      have HO1 := Lib.hid ho1
      have hcl : cs1.length = 16 := ho1.1.trans HL5.out
      have HCL := Lib.hid hcl
      have hfit : 0 + k * 16 + cs1.length ≤ arr.size := by have := HAS.out; omega
      have HF := Lib.hid hfit
      clear hw1 ho1 hcl hfit
      go_wp2_with (refine wpList_store_rep rfl 191 (.tmp 21) (.tmp 20) rfl w.heap.size (k * 16) rfl cs1 rfl 191 arr (HOB.out.ext HW1.out) (by rw [HCL.out]; exact isz191) (by have := HF.out; omega) (HO1.out.rep.one) ?_; intro w2 hob2 hg2 hz2; have HOB2 := Lib.hid hob2; have HG2 := Lib.hid hg2; have HZ2 := Lib.hid hz2; clear hob2 hg2 hz2)
      go_roundw
      case rel =>
        have hfit : k * 16 + cs1.length ≤ arr.size := by have := HF.out; omega
        refine ⟨k + 1, _, by omega, by go_num, ?_, ?_, HOB2.out, by rw [splice_size hfit]; exact HAS.out, HP.out.step hgt HW1.out (List.getElem?_eq_getElem hlt) HO1.out HCL.out HAS.out HG2.out HOB2.out⟩
        · exact grown_ext (hw.trans HW1.out) HG2.out (Nat.le_refl _)
        · have := HW1.out.size
          have := HZ2.out
          omega
      case measure => simp [intOf]; omega
    · have hkl : k = es.length := by omega
      go_wp2_with fail
      go_ret
      subst hkl
      exact ⟨_, rfl, hw, (HP.out.done HOB.out H5.out (Nat.le_refl _) (by unfold maxLen; omega) (Nat.le_refl _)).mono fun x hx => ⟨hx.1, hx.2⟩⟩

set_option maxRecDepth 100000 in
set_option maxHeartbeats 1000000 in
theorem eqSignatureS_of (es : List (List Tr)) (h5 : ∀ e ∈ es, e.length = 16) (H : ∀ e ∈ es, EqC 167 e) : EqSC 122 16 es := by
  intro s u w hs hu
  obtain ⟨a, cap, rfl, hl, hm⟩ := hs.shape
  obtain ⟨a', cap', rfl, hl', hm'⟩ := hu.shape
  unfold maxLen at hm hm'
  have HS := Lib.hid hs
  have HU := Lib.hid hu
  have HH := Lib.hid H
  have H5 := Lib.hid h5
  clear hs hu H h5
  go_enter Tryz.func122, Tryz.ntmps122
  go_wp2_with fail
  go_loopw [5] (fun i wr => ∃ k : Nat, k ≤ es.length ∧ i = .int .i64 k ∧ Ext w wr) (fun i _ => es.length - (intOf i).toNat)
  case atStart => exact ⟨0, Nat.zero_le _, rfl, .refl _⟩
  case round =>
    obtain ⟨k, hk, rfl, hw⟩ := hrel
    by_cases hlt : k < es.length
    · obtain ⟨b, off, cs, rfl, hb, hcs, hc⟩ := (HS.out.ext hw).at2 (k := k) (List.getElem?_eq_getElem hlt)
      obtain ⟨b', off', ds, rfl, hb', hds, hd⟩ := (HU.out.ext hw).at2 (k := k) (List.getElem?_eq_getElem hlt)
      have hmem : es[k] ∈ es := List.getElem_mem hlt
      have l5 := H5.out _ hmem
      have HCS := Lib.hid hcs
      have HDS := Lib.hid hds
      have HM := Lib.hid hmem
      have HC := Lib.hid hc
      have HD := Lib.hid hd
      have HI : Hid ((Tryz.prog.info? 191).map (·.size) = some cs.length) := by rw [← hcs.length, l5]; exact isz191
      have HJ : Hid ((Tryz.prog.info? 191).map (·.size) = some ds.length) := by rw [← hds.length, l5]; exact isz191
      clear hcs hds hc hd l5 hmem
      go_wp2_with fail
      have ki : (k : Int) < (es.length : Int) := by omega
      have k0 : (0 : Int) ≤ (k : Int) := by omega
      refine wp_region_still_tail 8 (by kernel_rfl) (by kernel_rfl) ?_
      simp only [List.take_succ_cons, List.take_zero, List.drop_succ_cons, List.drop_zero]
      change wpStill _ _ wr.drew _ _ _
      repeat (first
        | (refine wpStill_load_rep rfl 191 (.tmp 19) rfl b (off + k * 16) rfl cs _ Tryz.underlying191 HI.out HC.out ?_; simp only [Act.put])
        | (refine wpStill_load_rep rfl 191 (.tmp 23) rfl b' (off' + k * 16) rfl ds _ Tryz.underlying191 HJ.out HD.out ?_; simp only [Act.put])
        | still_step)
      refine wpStill_nil ?_
      change wpList _ _ _ _ _ wr.drew
      go_wp2_with fail
      refine (HH.out _ HM.out _ _ _ (HCS.out.ext (.drew (.refl _))) (HDS.out.ext (.drew (.refl _)))).mono ?_
      rintro e w1 ⟨rfl, hw1⟩
      have HW1 := Lib.hid hw1
      clear hw1
      go_wp2_with fail
      go_roundw
      case rel => exact ⟨k + 1, by omega, by go_num, hw.trans (.trans (.drew (.refl _)) HW1.out)⟩
      case measure => simp [intOf]; omega
    · go_wp2_with fail
      go_ret
      exact ⟨rfl, hw⟩

end Go.Proofs.YtnakkelglbcecaaGreat

namespace Go.Proofs.YtnakkelglbcecaaGreat
open Go.RowKit Go.Proofs

set_option maxRecDepth 100000 in
set_option maxHeartbeats 1000000 in
theorem szTrait_of (v0 : ByteArray) (es1 : List (List Tr)) (v2 : Bool) (v3 : Bool) (es4 : List (List Tr)) (h1 : SzSC 178 1 es1) (h4 : SzSC 216 16 es4) : SzC 203 ([.leaf (.string v0)] ++ ([.row 1 es1] ++ ([.leaf (.bool v2)] ++ ([.leaf (.bool v3)] ++ ([.row 16 es4] ++ ([])))))) := by
  intro cs left w hr hl0 hl1
  obtain ⟨b0, r0, rfl, g0, n0⟩ := RepL.split hr
  obtain ⟨y0, rfl⟩ := list1 g0.length.symm
  obtain ⟨rfl, k0⟩ := g0.1.leaf_eq
  obtain ⟨b1, r1, rfl, g1, n1⟩ := RepL.split n0
  obtain ⟨y1, rfl⟩ := list1 g1.length.symm
  obtain ⟨a1, c1, rfl, -, -⟩ := g1.1.shape
  obtain ⟨b2, r2, rfl, g2, n2⟩ := RepL.split n1
  obtain ⟨y2, rfl⟩ := list1 g2.length.symm
  obtain ⟨rfl, k2⟩ := g2.1.leaf_eq
  obtain ⟨b3, r3, rfl, g3, n3⟩ := RepL.split n2
  obtain ⟨y3, rfl⟩ := list1 g3.length.symm
  obtain ⟨rfl, k3⟩ := g3.1.leaf_eq
  obtain ⟨b4, r4, rfl, g4, n4⟩ := RepL.split n3
  obtain ⟨y4, rfl⟩ := list1 g4.length.symm
  obtain ⟨a4, c4, rfl, -, -⟩ := g4.1.shape
  obtain rfl := RepL.nil_eq n4
  clear hr
  have q0 : v0.size ≤ 9223372036854775807 := by have := k0; simp only [LeafOk, maxLen] at this; omega
  have G0 := Lib.hid g0
  have K0 := Lib.hid k0
  clear g0 n0 k0
  have G1 := Lib.hid g1
  clear g1 n1
  have G2 := Lib.hid g2
  have K2 := Lib.hid k2
  clear g2 n2 k2
  have G3 := Lib.hid g3
  have K3 := Lib.hid k3
  clear g3 n3 k3
  have G4 := Lib.hid g4
  clear g4 n4
  simp only [List.cons_append, List.nil_append]
  go_enter Tryz.func203, Tryz.ntmps203
  go_wp2_with fail
  · go_ret
    exact ⟨-1, rfl, (.alloc (.refl _) _), by omega, by omega, by omega⟩
  refine (h1 _ _ _ (G1.out.1.ext (.alloc (.refl _) _)) (by omega) (by omega)).mono ?_
  rintro e w1 ⟨r1, rfl, hw1, ra1, rb1, rc1⟩
  have HW1 := Lib.hid hw1
  have HR1 := Lib.hid rc1
  have ob1 := (OB.new w _ _).ext hw1
  have OBH := Lib.hid ob1
  have ce1 := ob1.cell
  clear hw1 rc1 ob1
  go_wp2_with fail
  · go_ret
    exact ⟨-1, rfl, (Ext.trans (.alloc (.refl _) _) HW1.out), by omega, by omega, by omega⟩
  refine (h4 _ _ _ (G4.out.1.ext (Ext.trans (.alloc (.refl _) _) HW1.out)) (by omega) (by omega)).mono ?_
  rintro e w4 ⟨r4, rfl, hw4, ra4, rb4, rc4⟩
  have HW4 := Lib.hid hw4
  have HR4 := Lib.hid rc4
  have ob4 := OBH.out.ext hw4
  clear OBH ce1
  have OBH := Lib.hid ob4
  have ce4 := ob4.cell
  clear hw4 rc4 ob4
  go_wp2_with fail
  · go_ret
    exact ⟨-1, rfl, (Ext.trans (Ext.trans (.alloc (.refl _) _) HW1.out) HW4.out), by omega, by omega, by omega⟩
  go_ret
  refine ⟨_, rfl, (Ext.trans (Ext.trans (.alloc (.refl _) _) HW1.out) HW4.out), by omega, by omega, fun hp => ?_⟩
  have e1 := HR1.out (by omega)
  have e4 := HR4.out (by omega)
  simp only [Tr.bulkL_append, Tr.bulkL, Tr.bulk]
  simp only [Tr.bulk] at e1 e4
  omega

set_option maxRecDepth 100000 in
set_option maxHeartbeats 1000000 in
theorem toTrait_of (v0 : ByteArray) (es1 : List (List Tr)) (v2 : Bool) (v3 : Bool) (es4 : List (List Tr)) (h1 : ToSC 183 1 es1) (h4 : ToSC 221 16 es4) : ToC 207 ([.leaf (.string v0)] ++ ([.row 1 es1] ++ ([.leaf (.bool v2)] ++ ([.leaf (.bool v3)] ++ ([.row 16 es4] ++ ([])))))) := by
  intro cs w hr hbk
  simp only [Tr.bulkL_append, Tr.bulkL, Tr.bulk] at hbk
  obtain ⟨b0, r0, rfl, g0, n0⟩ := RepL.split hr
  obtain ⟨y0, rfl⟩ := list1 g0.length.symm
  obtain ⟨rfl, k0⟩ := g0.1.leaf_eq
  obtain ⟨b1, r1, rfl, g1, n1⟩ := RepL.split n0
  obtain ⟨y1, rfl⟩ := list1 g1.length.symm
  obtain ⟨a1, c1, rfl, -, -⟩ := g1.1.shape
  obtain ⟨b2, r2, rfl, g2, n2⟩ := RepL.split n1
  obtain ⟨y2, rfl⟩ := list1 g2.length.symm
  obtain ⟨rfl, k2⟩ := g2.1.leaf_eq
  obtain ⟨b3, r3, rfl, g3, n3⟩ := RepL.split n2
  obtain ⟨y3, rfl⟩ := list1 g3.length.symm
  obtain ⟨rfl, k3⟩ := g3.1.leaf_eq
  obtain ⟨b4, r4, rfl, g4, n4⟩ := RepL.split n3
  obtain ⟨y4, rfl⟩ := list1 g4.length.symm
  obtain ⟨a4, c4, rfl, -, -⟩ := g4.1.shape
  obtain rfl := RepL.nil_eq n4
  clear hr
  have G0 := Lib.hid g0
  have K0 := Lib.hid k0
  clear g0 n0 k0
  have G1 := Lib.hid g1
  clear g1 n1
  have G2 := Lib.hid g2
  have K2 := Lib.hid k2
  clear g2 n2 k2
  have G3 := Lib.hid g3
  have K3 := Lib.hid k3
  clear g3 n3 k3
  have G4 := Lib.hid g4
  clear g4 n4
  simp only [List.cons_append, List.nil_append]
  go_enter Tryz.func207, Tryz.ntmps207
  go_wp2_with fail
  refine (h1 _ _ (G1.out.1.ext (.alloc (.alloc (.alloc (.refl _) _) _) _)) (by omega)).mono ?_
  rintro e w1 ⟨d1, rfl, hw1, ho1⟩
  obtain ⟨da1, dc1, rfl, -, -⟩ := ho1.rep.shape
  have HW1 := Lib.hid hw1
  have HO1 := Lib.hid ho1
  have ob1 := (Three.new w _ _ _ _ _ _).ext hw1
  have OBHw1 := Lib.hid ob1
  have cew1 := ob1.o0.cell
  have hzw1 : w.heap.size < w1.heap.size := ob1.o0.lt
  clear hw1 ob1 ho1
  go_wp2_with (first
    | (refine wpList_store_cell rfl 54 _ _ rfl (w.heap.size + 1 + 1) 1 rfl (.slice da1 es1.length dc1) rfl rfl 94 _ OBHw1.out.o2 isz54 (by simp [splice]) rfl ?_; intro u1 hou1 hgu1 hzu1; have OBHu1 := Lib.hid (OBHw1.out.grown hgu1 hou1 (by omega) (by omega)); have HGu1 := Lib.hid hgu1; have ceu1 := OBHu1.out.o0.cell; have hqu1 : w.heap.size < u1.heap.size := OBHu1.out.o0.lt; clear hou1 hgu1 hzu1 OBHw1 cew1)
    | (refine wpList_store_cell rfl 4 _ _ rfl (w.heap.size + 1 + 1) 2 rfl (.bool v2) rfl rfl 94 _ OBHu1.out.o2 isz4 (by simp [splice]) rfl ?_; intro u2 hou2 hgu2 hzu2; have OBHu2 := Lib.hid (OBHu1.out.grown hgu2 hou2 (by omega) (by omega)); have HGu2 := Lib.hid hgu2; have ceu2 := OBHu2.out.o0.cell; have hqu2 : w.heap.size < u2.heap.size := OBHu2.out.o0.lt; clear hou2 hgu2 hzu2 OBHu1 ceu1)
    | (refine wpList_store_cell rfl 4 _ _ rfl (w.heap.size + 1 + 1) 3 rfl (.bool v3) rfl rfl 94 _ OBHu2.out.o2 isz4 (by simp [splice]) rfl ?_; intro u3 hou3 hgu3 hzu3; have OBHu3 := Lib.hid (OBHu2.out.grown hgu3 hou3 (by omega) (by omega)); have HGu3 := Lib.hid hgu3; have ceu3 := OBHu3.out.o0.cell; have hqu3 : w.heap.size < u3.heap.size := OBHu3.out.o0.lt; clear hou3 hgu3 hzu3 OBHu2 ceu2))
  refine (h4 _ _ (G4.out.1.ext (grown_ext (grown_ext (grown_ext (Ext.trans (.alloc (.alloc (.alloc (.refl _) _) _) _) HW1.out) HGu1.out (by omega)) HGu2.out (by omega)) HGu3.out (by omega))) (by omega)).mono ?_
  rintro e w4 ⟨d4, rfl, hw4, ho4⟩
  obtain ⟨da4, dc4, rfl, -, -⟩ := ho4.rep.shape
  have HW4 := Lib.hid hw4
  have HO4 := Lib.hid ho4
  have ob4 := OBHu3.out.ext hw4
  clear OBHu3 ceu3
  have OBHw4 := Lib.hid ob4
  have cew4 := ob4.o0.cell
  have hzw4 : w.heap.size < w4.heap.size := ob4.o0.lt
  clear hw4 ob4 ho4
  have hone : Hid (∀ v ∈ ([.string v0, .slice da1 es1.length dc1, .bool v2, .bool v3, .slice da4 es4.length dc4] : List Value), v.oneCell' = true) := by
    intro v hv
    simp only [List.mem_cons, List.not_mem_nil, or_false] at hv
    rcases hv with rfl | rfl | rfl | rfl | rfl <;> first | rfl
  go_wp2_with (first
    | (refine wpList_store_cell rfl 92 _ _ rfl (w.heap.size + 1 + 1) 4 rfl (.slice da4 es4.length dc4) rfl rfl 94 _ OBHw4.out.o2 isz92 (by simp [splice]) rfl ?_; intro u4 hou4 hgu4 hzu4; have OBHu4 := Lib.hid (OBHw4.out.grown hgu4 hou4 (by omega) (by omega)); have HGu4 := Lib.hid hgu4; have ceu4 := OBHu4.out.o0.cell; have hqu4 : w.heap.size < u4.heap.size := OBHu4.out.o0.lt; clear hou4 hgu4 hzu4 OBHw4 cew4)
    | (refine wpList_load_rep rfl 94 _ rfl (w.heap.size + 1 + 1) 0 rfl [.string v0, .slice da1 es1.length dc1, .bool v2, .bool v3, .slice da4 es4.length dc4] _ Tryz.underlying94 isz94 (fun j v hv => by rw [OBHu4.out.o2.cell, Nat.zero_add]; simpa [splice] using hv) ?_)
    | (refine wpList_store_rep rfl 94 _ _ rfl (w.heap.size + 1) 0 rfl [.string v0, .slice da1 es1.length dc1, .bool v2, .bool v3, .slice da4 es4.length dc4] rfl 94 _ OBHu4.out.o1 isz94 (by simp) hone.out ?_; intro wz hoz hgz hzz; have HOZ := Lib.hid hoz; have HGZ := Lib.hid hgz; clear hoz hgz hzz))
  have HOF : OB wz (w.heap.size + 1) 94 ⟨[.string v0, .slice da1 es1.length dc1, .bool v2, .bool v3, .slice da4 es4.length dc4]⟩ := HOZ.out
  refine bodyPost_ret (results_cell_row Tryz.results207 _ _ (w.heap.size + 1) 94 ⟨[.string v0, .slice da1 es1.length dc1, .bool v2, .bool v3, .slice da4 es4.length dc4]⟩ _ _ rfl HOF Tryz.underlying94 rfl isz94) rfl ⟨[.string v0, .slice da1 es1.length dc1, .bool v2, .bool v3, .slice da4 es4.length dc4], rfl, (grown_ext (grown_ext (Ext.trans (grown_ext (grown_ext (grown_ext (Ext.trans (.alloc (.alloc (.alloc (.refl _) _) _) _) HW1.out) HGu1.out (by omega)) HGu2.out (by omega)) HGu3.out (by omega)) HW4.out) HGu4.out (by omega)) HGZ.out (by omega)), ?_⟩
  have sw1 := HW1.out.size
  have su1 := HGu1.out.size
  have su2 := HGu2.out.size
  have su3 := HGu3.out.size
  have sw4 := HW4.out.size
  have su4 := HGu4.out.size
  have swz := HGZ.out.size
  simp only [World.size_alloc] at sw1
  have ow1 := HO1.out.keeps (lo := w.heap.size + 1 + 1 + 1) (Keeps.trans (Keeps.of_grown HGu1.out (by omega)) (Keeps.trans (Keeps.of_grown HGu2.out (by omega)) (Keeps.trans (Keeps.of_grown HGu3.out (by omega)) (Keeps.trans (Keeps.of_ext HW4.out) (Keeps.trans (Keeps.of_grown HGu4.out (by omega)) (Keeps.of_grown HGZ.out (by omega))))))) (by intro x hx; simp only [Between, World.size_alloc] at hx; omega)
  have ow4 := HO4.out.keeps (lo := w.heap.size + 1 + 1 + 1) (Keeps.trans (Keeps.of_grown HGu4.out (by omega)) (Keeps.of_grown HGZ.out (by omega))) (by intro x hx; simp only [Between, World.size_alloc] at hx; omega)
  have hall := OwnL.cons_leaf K0.out (OwnL.append (OwnL.one ow1) (OwnL.cons_leaf K2.out (OwnL.cons_leaf K3.out (OwnL.append (OwnL.one ow4) (OwnL.nil wz (fun _ => False)) (by intro x hx hy; simp only [Between, World.size_alloc, or_false] at hx hy <;> omega)))) (by intro x hx hy; simp only [Between, World.size_alloc, or_false] at hx hy <;> omega))
  exact hall.mono (by intro x hx; simp only [Between, World.size_alloc, or_false] at hx ⊢; omega)

set_option maxRecDepth 100000 in
set_option maxHeartbeats 1000000 in
theorem eqTrait_of (v0 : ByteArray) (es1 : List (List Tr)) (v2 : Bool) (v3 : Bool) (es4 : List (List Tr)) (h1 : EqSC 29 1 es1) (h4 : EqSC 122 16 es4) : EqC 68 ([.leaf (.string v0)] ++ ([.row 1 es1] ++ ([.leaf (.bool v2)] ++ ([.leaf (.bool v3)] ++ ([.row 16 es4] ++ ([])))))) := by
  intro cs ds w hr hr'
  obtain ⟨b0, r0, rfl, g0, n0⟩ := RepL.split hr
  obtain ⟨y0, rfl⟩ := list1 g0.length.symm
  obtain ⟨rfl, k0⟩ := g0.1.leaf_eq
  obtain ⟨b1, r1, rfl, g1, n1⟩ := RepL.split n0
  obtain ⟨y1, rfl⟩ := list1 g1.length.symm
  obtain ⟨a1, c1, rfl, -, -⟩ := g1.1.shape
  obtain ⟨b2, r2, rfl, g2, n2⟩ := RepL.split n1
  obtain ⟨y2, rfl⟩ := list1 g2.length.symm
  obtain ⟨rfl, k2⟩ := g2.1.leaf_eq
  obtain ⟨b3, r3, rfl, g3, n3⟩ := RepL.split n2
  obtain ⟨y3, rfl⟩ := list1 g3.length.symm
  obtain ⟨rfl, k3⟩ := g3.1.leaf_eq
  obtain ⟨b4, r4, rfl, g4, n4⟩ := RepL.split n3
  obtain ⟨y4, rfl⟩ := list1 g4.length.symm
  obtain ⟨a4, c4, rfl, -, -⟩ := g4.1.shape
  obtain rfl := RepL.nil_eq n4
  clear hr
  obtain ⟨zb0, zr0, rfl, zg0, zn0⟩ := RepL.split hr'
  obtain ⟨zy0, rfl⟩ := list1 zg0.length.symm
  obtain ⟨rfl, zk0⟩ := zg0.1.leaf_eq
  obtain ⟨zb1, zr1, rfl, zg1, zn1⟩ := RepL.split zn0
  obtain ⟨zy1, rfl⟩ := list1 zg1.length.symm
  obtain ⟨za1, zc1, rfl, -, -⟩ := zg1.1.shape
  obtain ⟨zb2, zr2, rfl, zg2, zn2⟩ := RepL.split zn1
  obtain ⟨zy2, rfl⟩ := list1 zg2.length.symm
  obtain ⟨rfl, zk2⟩ := zg2.1.leaf_eq
  obtain ⟨zb3, zr3, rfl, zg3, zn3⟩ := RepL.split zn2
  obtain ⟨zy3, rfl⟩ := list1 zg3.length.symm
  obtain ⟨rfl, zk3⟩ := zg3.1.leaf_eq
  obtain ⟨zb4, zr4, rfl, zg4, zn4⟩ := RepL.split zn3
  obtain ⟨zy4, rfl⟩ := list1 zg4.length.symm
  obtain ⟨za4, zc4, rfl, -, -⟩ := zg4.1.shape
  obtain rfl := RepL.nil_eq zn4
  clear hr'
  have G0 := Lib.hid g0
  have K0 := Lib.hid k0
  clear g0 n0 k0
  have G1 := Lib.hid g1
  clear g1 n1
  have G2 := Lib.hid g2
  have K2 := Lib.hid k2
  clear g2 n2 k2
  have G3 := Lib.hid g3
  have K3 := Lib.hid k3
  clear g3 n3 k3
  have G4 := Lib.hid g4
  clear g4 n4
  have zG0 := Lib.hid zg0
  have zK0 := Lib.hid zk0
  clear zg0 zn0 zk0
  have zG1 := Lib.hid zg1
  clear zg1 zn1
  have zG2 := Lib.hid zg2
  have zK2 := Lib.hid zk2
  clear zg2 zn2 zk2
  have zG3 := Lib.hid zg3
  have zK3 := Lib.hid zk3
  clear zg3 zn3 zk3
  have zG4 := Lib.hid zg4
  clear zg4 zn4
  simp only [List.cons_append, List.nil_append]
  go_enter Tryz.func68, Tryz.ntmps68
  go_wp2_with fail
  refine (h1 _ _ _ (G1.out.1.ext (.alloc (.alloc (.refl _) _) _)) (zG1.out.1.ext (.alloc (.alloc (.refl _) _) _))).mono ?_
  rintro e w1 ⟨rfl, hw1⟩
  have HW1 := Lib.hid hw1
  have ob1 := (Two.new w _ _ _ _).ext hw1
  have OBH := Lib.hid ob1
  have ce1 := ob1.o0.cell
  have cf1 := ob1.o1.cell
  clear hw1 ob1
  go_wp2_with fail
  refine (h4 _ _ _ (G4.out.1.ext (Ext.trans (.alloc (.alloc (.refl _) _) _) HW1.out)) (zG4.out.1.ext (Ext.trans (.alloc (.alloc (.refl _) _) _) HW1.out))).mono ?_
  rintro e w4 ⟨rfl, hw4⟩
  have HW4 := Lib.hid hw4
  have ob4 := OBH.out.ext hw4
  clear OBH ce1 cf1
  have OBH := Lib.hid ob4
  have ce4 := ob4.o0.cell
  have cf4 := ob4.o1.cell
  clear hw4 ob4
  go_wp2_with fail
  go_ret
  exact ⟨rfl, (Ext.trans (Ext.trans (.alloc (.alloc (.refl _) _) _) HW1.out) HW4.out)⟩

set_option maxRecDepth 100000 in
set_option maxHeartbeats 1000000 in
theorem szTraitS_of (es : List (List Tr)) (h5 : ∀ e ∈ es, e.length = 5) (H : ∀ e ∈ es, SzC 203 e) : SzSC 179 5 es := by
  intro s left w hs h0 h1
  obtain ⟨a, cap, rfl, hl, hm⟩ := hs.shape
  unfold maxLen at hm
  have HS := Lib.hid hs
  have HH := Lib.hid H
  have H5 := Lib.hid h5
  clear hs H h5
  go_enter Tryz.func179, Tryz.ntmps179
  go_wp2_with fail
  · go_ret
    exact ⟨-1, rfl, .refl _, by omega, by omega, by omega⟩
  go_loopw [1, 5] (fun l i wr => ∃ (k : Nat) (r : Int), k ≤ es.length ∧ i = .int .i64 k ∧ l = .int .i64 r ∧ Ext w wr ∧ 0 ≤ r ∧ r + es.length + Tr.bulkAll (es.take k) ≤ left) (fun _ i _ => es.length - (intOf i).toNat)
  case atStart => exact ⟨0, _, Nat.zero_le _, rfl, rfl, .refl _, by omega, by simp [Tr.bulkAll]⟩
  case round =>
    obtain ⟨k, r, hk, rfl, rfl, hw, hr0, hrb⟩ := hrel
    by_cases hlt : k < es.length
    · obtain ⟨b, off, cs, rfl, hb, hcs, hc⟩ := (HS.out.ext hw).at2 (k := k) (List.getElem?_eq_getElem hlt)
      have hmem : es[k] ∈ es := List.getElem_mem hlt
      have l5 := H5.out _ hmem
      have hbt := Lib.hid (Tr.bulkAll_take es k hlt)
      have HCS := Lib.hid hcs
      have HC := Lib.hid hc
      have HM := Lib.hid hmem
      have HI : Hid ((Tryz.prog.info? 234).map (·.size) = some cs.length) := by rw [← hcs.length, l5]; exact isz234
      clear hcs hc hmem l5
      go_wp2_with (refine wpList_load_rep rfl 234 _ rfl b (off + k * 5) rfl cs _ Tryz.underlying234 HI.out HC.out ?_)
      refine (HH.out _ HM.out _ _ _ HCS.out hr0 (by omega)).mono ?_
      rintro e w1 ⟨r1, rfl, hw1, hr1, hr2, hr3⟩
      have HR3 := Lib.hid hr3
      have HW1 := Lib.hid hw1
      clear hr3 hw1
      go_wp2_with fail
      · go_ret
        exact ⟨-1, rfl, hw.trans HW1.out, by omega, by omega, by omega⟩
      · go_roundw
        case rel =>
          have p0 : 0 ≤ r1 := by assumption
          have e1 := HR3.out p0
          have e2 := hbt.out
          exact ⟨k + 1, r1, by omega, by go_num, rfl, hw.trans HW1.out, p0, by omega⟩
        case measure => simp [intOf]; omega
    · have hkl : k = es.length := by omega
      go_wp2_with fail
      go_ret
      refine ⟨r, rfl, hw, by omega, by omega, fun _ => ?_⟩
      rw [hkl, List.take_length] at hrb
      simp only [Tr.bulk]
      omega

set_option maxRecDepth 100000 in
set_option maxHeartbeats 1000000 in
theorem toTraitS_of (es : List (List Tr)) (h5 : ∀ e ∈ es, e.length = 5) (H : ∀ e ∈ es, ToC 207 e) : ToSC 184 5 es := by
  intro s w hs hbk
  obtain ⟨a, cap, rfl, hl, hm⟩ := hs.shape
  unfold maxLen at hm
  have HS := Lib.hid hs
  have HH := Lib.hid H
  have H5 := Lib.hid h5
  have n0 : (0 : Int) ≤ es.length := by omega
  clear hs H h5
  go_enter Tryz.func184, Tryz.ntmps184
  go_wp2_with (refine wpList_make_rep rfl 121 (.tmp 6) rfl es.length rfl 94 Tryz.underlying121 5 72 iszb94 (by omega) (by omega) ?_; intro wm arr0 ha0 hob0 hx0 hz0; have HA0 := Lib.hid ha0; have HOB0 := Lib.hid hob0; have HX0 := Lib.hid hx0; have HZ0 := Lib.hid hz0; clear ha0 hob0 hx0 hz0)
  go_loopw [4] (fun i wr => ∃ (k : Nat) (arr : Array Value), k ≤ es.length ∧ i = .int .i64 k ∧ Ext w wr ∧ w.heap.size < wr.heap.size ∧ OB wr w.heap.size 94 arr ∧ arr.size = es.length * 5 ∧ Part wr w.heap.size arr 5 es k) (fun i _ => es.length - (intOf i).toNat)
  case atStart => exact ⟨0, arr0, Nat.zero_le _, rfl, HX0.out, by rw [HZ0.out]; omega, HOB0.out, HA0.out, Part.zero _ _ _ _ _⟩
  case round =>
    obtain ⟨k, arr, hk, rfl, hw, hgt, hob, hasz, hpart⟩ := hrel
    have HOB := Lib.hid hob
    have HAS := Lib.hid hasz
    have HP := Lib.hid hpart
    clear hob hasz hpart
    by_cases hlt : k < es.length
    · obtain ⟨b, off, cs, rfl, hb, hcs, hc⟩ := (HS.out.ext hw).at2 (k := k) (List.getElem?_eq_getElem hlt)
      have hmem : es[k] ∈ es := List.getElem_mem hlt
      have l5 := H5.out _ hmem
      have hbe := Tr.bulkAll_le hlt
      have HCS := Lib.hid hcs
      have HC := Lib.hid hc
      have HM := Lib.hid hmem
      have HL5 := Lib.hid l5
      have HI : Hid ((Tryz.prog.info? 234).map (·.size) = some cs.length) := by rw [← hcs.length, l5]; exact isz234
      clear hcs hc hmem l5
      go_wp2_with (refine wpList_load_rep rfl 234 (.tmp 18) rfl b (off + k * 5) rfl cs _ Tryz.underlying234 HI.out HC.out ?_)
      refine (HH.out _ HM.out _ _ HCS.out (by omega)).mono ?_
      rintro e w1 ⟨cs1, rfl, hw1, ho1⟩
      have HW1 := Lib.hid hw1
      have HO1 := Lib.hid ho1
      have hcl : cs1.length = 5 := ho1.1.trans HL5.out
      have HCL := Lib.hid hcl
      have hfit : 0 + k * 5 + cs1.length ≤ arr.size := by have := HAS.out; omega
      have HF := Lib.hid hfit
      clear hw1 ho1 hcl hfit
      go_wp2_with (refine wpList_store_rep rfl 94 (.tmp 21) (.tmp 20) rfl w.heap.size (k * 5) rfl cs1 rfl 94 arr (HOB.out.ext HW1.out) (by rw [HCL.out]; exact isz94) (by have := HF.out; omega) (HO1.out.rep.one) ?_; intro w2 hob2 hg2 hz2; have HOB2 := Lib.hid hob2; have HG2 := Lib.hid hg2; have HZ2 := Lib.hid hz2; clear hob2 hg2 hz2)
      go_roundw
      case rel =>
        have hfit : k * 5 + cs1.length ≤ arr.size := by have := HF.out; omega
        refine ⟨k + 1, _, by omega, by go_num, ?_, ?_, HOB2.out, by rw [splice_size hfit]; exact HAS.out, HP.out.step hgt HW1.out (List.getElem?_eq_getElem hlt) HO1.out HCL.out HAS.out HG2.out HOB2.out⟩
        · exact grown_ext (hw.trans HW1.out) HG2.out (Nat.le_refl _)
        · have := HW1.out.size
          have := HZ2.out
          omega
      case measure => simp [intOf]; omega
    · have hkl : k = es.length := by omega
      go_wp2_with fail
      go_ret
      subst hkl
      exact ⟨_, rfl, hw, (HP.out.done HOB.out H5.out (Nat.le_refl _) (by unfold maxLen; omega) (Nat.le_refl _)).mono fun x hx => ⟨hx.1, hx.2⟩⟩

set_option maxRecDepth 100000 in
set_option maxHeartbeats 1000000 in
theorem eqTraitS_of (es : List (List Tr)) (h5 : ∀ e ∈ es, e.length = 5) (H : ∀ e ∈ es, EqC 68 e) : EqSC 188 5 es := by
  intro s u w hs hu
  obtain ⟨a, cap, rfl, hl, hm⟩ := hs.shape
  obtain ⟨a', cap', rfl, hl', hm'⟩ := hu.shape
  unfold maxLen at hm hm'
  have HS := Lib.hid hs
  have HU := Lib.hid hu
  have HH := Lib.hid H
  have H5 := Lib.hid h5
  clear hs hu H h5
  go_enter Tryz.func188, Tryz.ntmps188
  go_wp2_with fail
  go_loopw [5] (fun i wr => ∃ k : Nat, k ≤ es.length ∧ i = .int .i64 k ∧ Ext w wr) (fun i _ => es.length - (intOf i).toNat)
  case atStart => exact ⟨0, Nat.zero_le _, rfl, .refl _⟩
  case round =>
    obtain ⟨k, hk, rfl, hw⟩ := hrel
    by_cases hlt : k < es.length
    · obtain ⟨b, off, cs, rfl, hb, hcs, hc⟩ := (HS.out.ext hw).at2 (k := k) (List.getElem?_eq_getElem hlt)
      obtain ⟨b', off', ds, rfl, hb', hds, hd⟩ := (HU.out.ext hw).at2 (k := k) (List.getElem?_eq_getElem hlt)
      have hmem : es[k] ∈ es := List.getElem_mem hlt
      have l5 := H5.out _ hmem
      have HCS := Lib.hid hcs
      have HDS := Lib.hid hds
      have HM := Lib.hid hmem
      have HC := Lib.hid hc
      have HD := Lib.hid hd
      have HI : Hid ((Tryz.prog.info? 94).map (·.size) = some cs.length) := by rw [← hcs.length, l5]; exact isz94
      have HJ : Hid ((Tryz.prog.info? 94).map (·.size) = some ds.length) := by rw [← hds.length, l5]; exact isz94
      clear hcs hds hc hd l5 hmem
      go_wp2_with fail
      have ki : (k : Int) < (es.length : Int) := by omega
      have k0 : (0 : Int) ≤ (k : Int) := by omega
      refine wp_region_still_tail 8 (by kernel_rfl) (by kernel_rfl) ?_
      simp only [List.take_succ_cons, List.take_zero, List.drop_succ_cons, List.drop_zero]
      change wpStill _ _ wr.drew _ _ _
      repeat (first
        | (refine wpStill_load_rep rfl 94 (.tmp 19) rfl b (off + k * 5) rfl cs _ Tryz.underlying94 HI.out HC.out ?_; simp only [Act.put])
        | (refine wpStill_load_rep rfl 94 (.tmp 23) rfl b' (off' + k * 5) rfl ds _ Tryz.underlying94 HJ.out HD.out ?_; simp only [Act.put])
        | still_step)
      refine wpStill_nil ?_
      change wpList _ _ _ _ _ wr.drew
      go_wp2_with fail
      refine (HH.out _ HM.out _ _ _ (HCS.out.ext (.drew (.refl _))) (HDS.out.ext (.drew (.refl _)))).mono ?_
      rintro e w1 ⟨rfl, hw1⟩
      have HW1 := Lib.hid hw1
      clear hw1
      go_wp2_with fail
      go_roundw
      case rel => exact ⟨k + 1, by omega, by go_num, hw.trans (.trans (.drew (.refl _)) HW1.out)⟩
      case measure => simp [intOf]; omega
    · go_wp2_with fail
      go_ret
      exact ⟨rfl, hw⟩

end Go.Proofs.YtnakkelglbcecaaGreat

namespace Go.Proofs.YtnakkelglbcecaaGreat
open Go.RowKit Go.Proofs

set_option maxRecDepth 100000 in
set_option maxHeartbeats 1000000 in
theorem szPackage_of (v0 : ByteArray) (es1 : List (List Tr)) (es2 : List (List Tr)) (es3 : List (List Tr)) (es4 : List (List Tr)) (es5 : List (List Tr)) (h1 : SzSC 178 1 es1) (h2 : SzSC 179 5 es2) (h3 : SzSC 180 3 es3) (h4 : SzSC 181 12 es4) (h5 : SzSC 182 16 es5) : SzC 136 ([.leaf (.string v0)] ++ ([.row 1 es1] ++ ([.row 5 es2] ++ ([.row 3 es3] ++ ([.row 12 es4] ++ ([.row 16 es5] ++ ([]))))))) := by
  intro cs left w hr hl0 hl1
  obtain ⟨b0, r0, rfl, g0, n0⟩ := RepL.split hr
  obtain ⟨y0, rfl⟩ := list1 g0.length.symm
  obtain ⟨rfl, k0⟩ := g0.1.leaf_eq
  obtain ⟨b1, r1, rfl, g1, n1⟩ := RepL.split n0
  obtain ⟨y1, rfl⟩ := list1 g1.length.symm
  obtain ⟨a1, c1, rfl, -, -⟩ := g1.1.shape
  obtain ⟨b2, r2, rfl, g2, n2⟩ := RepL.split n1
  obtain ⟨y2, rfl⟩ := list1 g2.length.symm
  obtain ⟨a2, c2, rfl, -, -⟩ := g2.1.shape
  obtain ⟨b3, r3, rfl, g3, n3⟩ := RepL.split n2
  obtain ⟨y3, rfl⟩ := list1 g3.length.symm
  obtain ⟨a3, c3, rfl, -, -⟩ := g3.1.shape
  obtain ⟨b4, r4, rfl, g4, n4⟩ := RepL.split n3
  obtain ⟨y4, rfl⟩ := list1 g4.length.symm
  obtain ⟨a4, c4, rfl, -, -⟩ := g4.1.shape
  obtain ⟨b5, r5, rfl, g5, n5⟩ := RepL.split n4
  obtain ⟨y5, rfl⟩ := list1 g5.length.symm
  obtain ⟨a5, c5, rfl, -, -⟩ := g5.1.shape
  obtain rfl := RepL.nil_eq n5
  clear hr
  have q0 : v0.size ≤ 9223372036854775807 := by have := k0; simp only [LeafOk, maxLen] at this; omega
  have G0 := Lib.hid g0
  have K0 := Lib.hid k0
  clear g0 n0 k0
  have G1 := Lib.hid g1
  clear g1 n1
  have G2 := Lib.hid g2
  clear g2 n2
  have G3 := Lib.hid g3
  clear g3 n3
  have G4 := Lib.hid g4
  clear g4 n4
  have G5 := Lib.hid g5
  clear g5 n5
  simp only [List.cons_append, List.nil_append]
  go_enter Tryz.func136, Tryz.ntmps136
  go_wp2_with fail
  · go_ret
    exact ⟨-1, rfl, (.alloc (.refl _) _), by omega, by omega, by omega⟩
  refine (h1 _ _ _ (G1.out.1.ext (.alloc (.refl _) _)) (by omega) (by omega)).mono ?_
  rintro e w1 ⟨r1, rfl, hw1, ra1, rb1, rc1⟩
  have HW1 := Lib.hid hw1
  have HR1 := Lib.hid rc1
  have ob1 := (OB.new w _ _).ext hw1
  have OBH := Lib.hid ob1
  have ce1 := ob1.cell
  clear hw1 rc1 ob1
  go_wp2_with fail
  · go_ret
    exact ⟨-1, rfl, (Ext.trans (.alloc (.refl _) _) HW1.out), by omega, by omega, by omega⟩
  refine (h2 _ _ _ (G2.out.1.ext (Ext.trans (.alloc (.refl _) _) HW1.out)) (by omega) (by omega)).mono ?_
  rintro e w2 ⟨r2, rfl, hw2, ra2, rb2, rc2⟩
  have HW2 := Lib.hid hw2
  have HR2 := Lib.hid rc2
  have ob2 := OBH.out.ext hw2
  clear OBH ce1
  have OBH := Lib.hid ob2
  have ce2 := ob2.cell
  clear hw2 rc2 ob2
  go_wp2_with fail
  · go_ret
    exact ⟨-1, rfl, (Ext.trans (Ext.trans (.alloc (.refl _) _) HW1.out) HW2.out), by omega, by omega, by omega⟩
  refine (h3 _ _ _ (G3.out.1.ext (Ext.trans (Ext.trans (.alloc (.refl _) _) HW1.out) HW2.out)) (by omega) (by omega)).mono ?_
  rintro e w3 ⟨r3, rfl, hw3, ra3, rb3, rc3⟩
  have HW3 := Lib.hid hw3
  have HR3 := Lib.hid rc3
  have ob3 := OBH.out.ext hw3
  clear OBH ce2
  have OBH := Lib.hid ob3
  have ce3 := ob3.cell
  clear hw3 rc3 ob3
  go_wp2_with fail
  · go_ret
    exact ⟨-1, rfl, (Ext.trans (Ext.trans (Ext.trans (.alloc (.refl _) _) HW1.out) HW2.out) HW3.out), by omega, by omega, by omega⟩
  refine (h4 _ _ _ (G4.out.1.ext (Ext.trans (Ext.trans (Ext.trans (.alloc (.refl _) _) HW1.out) HW2.out) HW3.out)) (by omega) (by omega)).mono ?_
  rintro e w4 ⟨r4, rfl, hw4, ra4, rb4, rc4⟩
  have HW4 := Lib.hid hw4
  have HR4 := Lib.hid rc4
  have ob4 := OBH.out.ext hw4
  clear OBH ce3
  have OBH := Lib.hid ob4
  have ce4 := ob4.cell
  clear hw4 rc4 ob4
  go_wp2_with fail
  · go_ret
    exact ⟨-1, rfl, (Ext.trans (Ext.trans (Ext.trans (Ext.trans (.alloc (.refl _) _) HW1.out) HW2.out) HW3.out) HW4.out), by omega, by omega, by omega⟩
  refine (h5 _ _ _ (G5.out.1.ext (Ext.trans (Ext.trans (Ext.trans (Ext.trans (.alloc (.refl _) _) HW1.out) HW2.out) HW3.out) HW4.out)) (by omega) (by omega)).mono ?_
  rintro e w5 ⟨r5, rfl, hw5, ra5, rb5, rc5⟩
  have HW5 := Lib.hid hw5
  have HR5 := Lib.hid rc5
  have ob5 := OBH.out.ext hw5
  clear OBH ce4
  have OBH := Lib.hid ob5
  have ce5 := ob5.cell
  clear hw5 rc5 ob5
  go_wp2_with fail
  · go_ret
    exact ⟨-1, rfl, (Ext.trans (Ext.trans (Ext.trans (Ext.trans (Ext.trans (.alloc (.refl _) _) HW1.out) HW2.out) HW3.out) HW4.out) HW5.out), by omega, by omega, by omega⟩
  go_ret
  refine ⟨_, rfl, (Ext.trans (Ext.trans (Ext.trans (Ext.trans (Ext.trans (.alloc (.refl _) _) HW1.out) HW2.out) HW3.out) HW4.out) HW5.out), by omega, by omega, fun hp => ?_⟩
  have e1 := HR1.out (by omega)
  have e2 := HR2.out (by omega)
  have e3 := HR3.out (by omega)
  have e4 := HR4.out (by omega)
  have e5 := HR5.out (by omega)
  simp only [Tr.bulkL_append, Tr.bulkL, Tr.bulk]
  simp only [Tr.bulk] at e1 e2 e3 e4 e5
  omega

set_option maxRecDepth 100000 in
set_option maxHeartbeats 1000000 in
theorem toPackage_of (v0 : ByteArray) (es1 : List (List Tr)) (es2 : List (List Tr)) (es3 : List (List Tr)) (es4 : List (List Tr)) (es5 : List (List Tr)) (h1 : ToSC 183 1 es1) (h2 : ToSC 184 5 es2) (h3 : ToSC 185 3 es3) (h4 : ToSC 186 12 es4) (h5 : ToSC 187 16 es5) : ToC 140 ([.leaf (.string v0)] ++ ([.row 1 es1] ++ ([.row 5 es2] ++ ([.row 3 es3] ++ ([.row 12 es4] ++ ([.row 16 es5] ++ ([]))))))) := by
  intro cs w hr hbk
  simp only [Tr.bulkL_append, Tr.bulkL, Tr.bulk] at hbk
  obtain ⟨b0, r0, rfl, g0, n0⟩ := RepL.split hr
  obtain ⟨y0, rfl⟩ := list1 g0.length.symm
  obtain ⟨rfl, k0⟩ := g0.1.leaf_eq
  obtain ⟨b1, r1, rfl, g1, n1⟩ := RepL.split n0
  obtain ⟨y1, rfl⟩ := list1 g1.length.symm
  obtain ⟨a1, c1, rfl, -, -⟩ := g1.1.shape
  obtain ⟨b2, r2, rfl, g2, n2⟩ := RepL.split n1
  obtain ⟨y2, rfl⟩ := list1 g2.length.symm
  obtain ⟨a2, c2, rfl, -, -⟩ := g2.1.shape
  obtain ⟨b3, r3, rfl, g3, n3⟩ := RepL.split n2
  obtain ⟨y3, rfl⟩ := list1 g3.length.symm
  obtain ⟨a3, c3, rfl, -, -⟩ := g3.1.shape
  obtain ⟨b4, r4, rfl, g4, n4⟩ := RepL.split n3
  obtain ⟨y4, rfl⟩ := list1 g4.length.symm
  obtain ⟨a4, c4, rfl, -, -⟩ := g4.1.shape
  obtain ⟨b5, r5, rfl, g5, n5⟩ := RepL.split n4
  obtain ⟨y5, rfl⟩ := list1 g5.length.symm
  obtain ⟨a5, c5, rfl, -, -⟩ := g5.1.shape
  obtain rfl := RepL.nil_eq n5
  clear hr
  have G0 := Lib.hid g0
  have K0 := Lib.hid k0
  clear g0 n0 k0
  have G1 := Lib.hid g1
  clear g1 n1
  have G2 := Lib.hid g2
  clear g2 n2
  have G3 := Lib.hid g3
  clear g3 n3
  have G4 := Lib.hid g4
  clear g4 n4
  have G5 := Lib.hid g5
  clear g5 n5
  simp only [List.cons_append, List.nil_append]
  go_enter Tryz.func140, Tryz.ntmps140
  go_wp2_with fail
  refine (h1 _ _ (G1.out.1.ext (.alloc (.alloc (.alloc (.refl _) _) _) _)) (by omega)).mono ?_
  rintro e w1 ⟨d1, rfl, hw1, ho1⟩
  obtain ⟨da1, dc1, rfl, -, -⟩ := ho1.rep.shape
  have HW1 := Lib.hid hw1
  have HO1 := Lib.hid ho1
  have ob1 := (Three.new w _ _ _ _ _ _).ext hw1
  have OBHw1 := Lib.hid ob1
  have cew1 := ob1.o0.cell
  have hzw1 : w.heap.size < w1.heap.size := ob1.o0.lt
  clear hw1 ob1 ho1
  go_wp2_with (first
    | (refine wpList_store_cell rfl 54 _ _ rfl (w.heap.size + 1 + 1) 1 rfl (.slice da1 es1.length dc1) rfl rfl 126 _ OBHw1.out.o2 isz54 (by simp [splice]) rfl ?_; intro u1 hou1 hgu1 hzu1; have OBHu1 := Lib.hid (OBHw1.out.grown hgu1 hou1 (by omega) (by omega)); have HGu1 := Lib.hid hgu1; have ceu1 := OBHu1.out.o0.cell; have hqu1 : w.heap.size < u1.heap.size := OBHu1.out.o0.lt; clear hou1 hgu1 hzu1 OBHw1 cew1))
  refine (h2 _ _ (G2.out.1.ext (grown_ext (Ext.trans (.alloc (.alloc (.alloc (.refl _) _) _) _) HW1.out) HGu1.out (by omega))) (by omega)).mono ?_
  rintro e w2 ⟨d2, rfl, hw2, ho2⟩
  obtain ⟨da2, dc2, rfl, -, -⟩ := ho2.rep.shape
  have HW2 := Lib.hid hw2
  have HO2 := Lib.hid ho2
  have ob2 := OBHu1.out.ext hw2
  clear OBHu1 ceu1
  have OBHw2 := Lib.hid ob2
  have cew2 := ob2.o0.cell
  have hzw2 : w.heap.size < w2.heap.size := ob2.o0.lt
  clear hw2 ob2 ho2
  go_wp2_with (first
    | (refine wpList_store_cell rfl 121 _ _ rfl (w.heap.size + 1 + 1) 2 rfl (.slice da2 es2.length dc2) rfl rfl 126 _ OBHw2.out.o2 isz121 (by simp [splice]) rfl ?_; intro u2 hou2 hgu2 hzu2; have OBHu2 := Lib.hid (OBHw2.out.grown hgu2 hou2 (by omega) (by omega)); have HGu2 := Lib.hid hgu2; have ceu2 := OBHu2.out.o0.cell; have hqu2 : w.heap.size < u2.heap.size := OBHu2.out.o0.lt; clear hou2 hgu2 hzu2 OBHw2 cew2))
  refine (h3 _ _ (G3.out.1.ext (grown_ext (Ext.trans (grown_ext (Ext.trans (.alloc (.alloc (.alloc (.refl _) _) _) _) HW1.out) HGu1.out (by omega)) HW2.out) HGu2.out (by omega))) (by omega)).mono ?_
  rintro e w3 ⟨d3, rfl, hw3, ho3⟩
  obtain ⟨da3, dc3, rfl, -, -⟩ := ho3.rep.shape
  have HW3 := Lib.hid hw3
  have HO3 := Lib.hid ho3
  have ob3 := OBHu2.out.ext hw3
  clear OBHu2 ceu2
  have OBHw3 := Lib.hid ob3
  have cew3 := ob3.o0.cell
  have hzw3 : w.heap.size < w3.heap.size := ob3.o0.lt
  clear hw3 ob3 ho3
  go_wp2_with (first
    | (refine wpList_store_cell rfl 122 _ _ rfl (w.heap.size + 1 + 1) 3 rfl (.slice da3 es3.length dc3) rfl rfl 126 _ OBHw3.out.o2 isz122 (by simp [splice]) rfl ?_; intro u3 hou3 hgu3 hzu3; have OBHu3 := Lib.hid (OBHw3.out.grown hgu3 hou3 (by omega) (by omega)); have HGu3 := Lib.hid hgu3; have ceu3 := OBHu3.out.o0.cell; have hqu3 : w.heap.size < u3.heap.size := OBHu3.out.o0.lt; clear hou3 hgu3 hzu3 OBHw3 cew3))
  refine (h4 _ _ (G4.out.1.ext (grown_ext (Ext.trans (grown_ext (Ext.trans (grown_ext (Ext.trans (.alloc (.alloc (.alloc (.refl _) _) _) _) HW1.out) HGu1.out (by omega)) HW2.out) HGu2.out (by omega)) HW3.out) HGu3.out (by omega))) (by omega)).mono ?_
  rintro e w4 ⟨d4, rfl, hw4, ho4⟩
  obtain ⟨da4, dc4, rfl, -, -⟩ := ho4.rep.shape
  have HW4 := Lib.hid hw4
  have HO4 := Lib.hid ho4
  have ob4 := OBHu3.out.ext hw4
  clear OBHu3 ceu3
  have OBHw4 := Lib.hid ob4
  have cew4 := ob4.o0.cell
  have hzw4 : w.heap.size < w4.heap.size := ob4.o0.lt
  clear hw4 ob4 ho4
  go_wp2_with (first
    | (refine wpList_store_cell rfl 123 _ _ rfl (w.heap.size + 1 + 1) 4 rfl (.slice da4 es4.length dc4) rfl rfl 126 _ OBHw4.out.o2 isz123 (by simp [splice]) rfl ?_; intro u4 hou4 hgu4 hzu4; have OBHu4 := Lib.hid (OBHw4.out.grown hgu4 hou4 (by omega) (by omega)); have HGu4 := Lib.hid hgu4; have ceu4 := OBHu4.out.o0.cell; have hqu4 : w.heap.size < u4.heap.size := OBHu4.out.o0.lt; clear hou4 hgu4 hzu4 OBHw4 cew4))
  refine (h5 _ _ (G5.out.1.ext (grown_ext (Ext.trans (grown_ext (Ext.trans (grown_ext (Ext.trans (grown_ext (Ext.trans (.alloc (.alloc (.alloc (.refl _) _) _) _) HW1.out) HGu1.out (by omega)) HW2.out) HGu2.out (by omega)) HW3.out) HGu3.out (by omega)) HW4.out) HGu4.out (by omega))) (by omega)).mono ?_
  rintro e w5 ⟨d5, rfl, hw5, ho5⟩
  obtain ⟨da5, dc5, rfl, -, -⟩ := ho5.rep.shape
  have HW5 := Lib.hid hw5
  have HO5 := Lib.hid ho5
  have ob5 := OBHu4.out.ext hw5
  clear OBHu4 ceu4
  have OBHw5 := Lib.hid ob5
  have cew5 := ob5.o0.cell
  have hzw5 : w.heap.size < w5.heap.size := ob5.o0.lt
  clear hw5 ob5 ho5
  have hone : Hid (∀ v ∈ ([.string v0, .slice da1 es1.length dc1, .slice da2 es2.length dc2, .slice da3 es3.length dc3, .slice da4 es4.length dc4, .slice da5 es5.length dc5] : List Value), v.oneCell' = true) := by
    intro v hv
    simp only [List.mem_cons, List.not_mem_nil, or_false] at hv
    rcases hv with rfl | rfl | rfl | rfl | rfl | rfl <;> first | rfl
  go_wp2_with (first
    | (refine wpList_store_cell rfl 124 _ _ rfl (w.heap.size + 1 + 1) 5 rfl (.slice da5 es5.length dc5) rfl rfl 126 _ OBHw5.out.o2 isz124 (by simp [splice]) rfl ?_; intro u5 hou5 hgu5 hzu5; have OBHu5 := Lib.hid (OBHw5.out.grown hgu5 hou5 (by omega) (by omega)); have HGu5 := Lib.hid hgu5; have ceu5 := OBHu5.out.o0.cell; have hqu5 : w.heap.size < u5.heap.size := OBHu5.out.o0.lt; clear hou5 hgu5 hzu5 OBHw5 cew5)
    | (refine wpList_load_rep rfl 126 _ rfl (w.heap.size + 1 + 1) 0 rfl [.string v0, .slice da1 es1.length dc1, .slice da2 es2.length dc2, .slice da3 es3.length dc3, .slice da4 es4.length dc4, .slice da5 es5.length dc5] _ Tryz.underlying126 isz126 (fun j v hv => by rw [OBHu5.out.o2.cell, Nat.zero_add]; simpa [splice] using hv) ?_)
    | (refine wpList_store_rep rfl 126 _ _ rfl (w.heap.size + 1) 0 rfl [.string v0, .slice da1 es1.length dc1, .slice da2 es2.length dc2, .slice da3 es3.length dc3, .slice da4 es4.length dc4, .slice da5 es5.length dc5] rfl 126 _ OBHu5.out.o1 isz126 (by simp) hone.out ?_; intro wz hoz hgz hzz; have HOZ := Lib.hid hoz; have HGZ := Lib.hid hgz; clear hoz hgz hzz))
  have HOF : OB wz (w.heap.size + 1) 126 ⟨[.string v0, .slice da1 es1.length dc1, .slice da2 es2.length dc2, .slice da3 es3.length dc3, .slice da4 es4.length dc4, .slice da5 es5.length dc5]⟩ := HOZ.out
  refine bodyPost_ret (results_cell_row Tryz.results140 _ _ (w.heap.size + 1) 126 ⟨[.string v0, .slice da1 es1.length dc1, .slice da2 es2.length dc2, .slice da3 es3.length dc3, .slice da4 es4.length dc4, .slice da5 es5.length dc5]⟩ _ _ rfl HOF Tryz.underlying126 rfl isz126) rfl ⟨[.string v0, .slice da1 es1.length dc1, .slice da2 es2.length dc2, .slice da3 es3.length dc3, .slice da4 es4.length dc4, .slice da5 es5.length dc5], rfl, (grown_ext (grown_ext (Ext.trans (grown_ext (Ext.trans (grown_ext (Ext.trans (grown_ext (Ext.trans (grown_ext (Ext.trans (.alloc (.alloc (.alloc (.refl _) _) _) _) HW1.out) HGu1.out (by omega)) HW2.out) HGu2.out (by omega)) HW3.out) HGu3.out (by omega)) HW4.out) HGu4.out (by omega)) HW5.out) HGu5.out (by omega)) HGZ.out (by omega)), ?_⟩
  have sw1 := HW1.out.size
  have su1 := HGu1.out.size
  have sw2 := HW2.out.size
  have su2 := HGu2.out.size
  have sw3 := HW3.out.size
  have su3 := HGu3.out.size
  have sw4 := HW4.out.size
  have su4 := HGu4.out.size
  have sw5 := HW5.out.size
  have su5 := HGu5.out.size
  have swz := HGZ.out.size
  simp only [World.size_alloc] at sw1
  have ow1 := HO1.out.keeps (lo := w.heap.size + 1 + 1 + 1) (Keeps.trans (Keeps.of_grown HGu1.out (by omega)) (Keeps.trans (Keeps.of_ext HW2.out) (Keeps.trans (Keeps.of_grown HGu2.out (by omega)) (Keeps.trans (Keeps.of_ext HW3.out) (Keeps.trans (Keeps.of_grown HGu3.out (by omega)) (Keeps.trans (Keeps.of_ext HW4.out) (Keeps.trans (Keeps.of_grown HGu4.out (by omega)) (Keeps.trans (Keeps.of_ext HW5.out) (Keeps.trans (Keeps.of_grown HGu5.out (by omega)) (Keeps.of_grown HGZ.out (by omega))))))))))) (by intro x hx; simp only [Between, World.size_alloc] at hx; omega)
  have ow2 := HO2.out.keeps (lo := w.heap.size + 1 + 1 + 1) (Keeps.trans (Keeps.of_grown HGu2.out (by omega)) (Keeps.trans (Keeps.of_ext HW3.out) (Keeps.trans (Keeps.of_grown HGu3.out (by omega)) (Keeps.trans (Keeps.of_ext HW4.out) (Keeps.trans (Keeps.of_grown HGu4.out (by omega)) (Keeps.trans (Keeps.of_ext HW5.out) (Keeps.trans (Keeps.of_grown HGu5.out (by omega)) (Keeps.of_grown HGZ.out (by omega))))))))) (by intro x hx; simp only [Between, World.size_alloc] at hx; omega)
  have ow3 := HO3.out.keeps (lo := w.heap.size + 1 + 1 + 1) (Keeps.trans (Keeps.of_grown HGu3.out (by omega)) (Keeps.trans (Keeps.of_ext HW4.out) (Keeps.trans (Keeps.of_grown HGu4.out (by omega)) (Keeps.trans (Keeps.of_ext HW5.out) (Keeps.trans (Keeps.of_grown HGu5.out (by omega)) (Keeps.of_grown HGZ.out (by omega))))))) (by intro x hx; simp only [Between, World.size_alloc] at hx; omega)
  have ow4 := HO4.out.keeps (lo := w.heap.size + 1 + 1 + 1) (Keeps.trans (Keeps.of_grown HGu4.out (by omega)) (Keeps.trans (Keeps.of_ext HW5.out) (Keeps.trans (Keeps.of_grown HGu5.out (by omega)) (Keeps.of_grown HGZ.out (by omega))))) (by intro x hx; simp only [Between, World.size_alloc] at hx; omega)
  have ow5 := HO5.out.keeps (lo := w.heap.size + 1 + 1 + 1) (Keeps.trans (Keeps.of_grown HGu5.out (by omega)) (Keeps.of_grown HGZ.out (by omega))) (by intro x hx; simp only [Between, World.size_alloc] at hx; omega)
  have hall := OwnL.cons_leaf K0.out (OwnL.append (OwnL.one ow1) (OwnL.append (OwnL.one ow2) (OwnL.append (OwnL.one ow3) (OwnL.append (OwnL.one ow4) (OwnL.append (OwnL.one ow5) (OwnL.nil wz (fun _ => False)) (by intro x hx hy; simp only [Between, World.size_alloc, or_false] at hx hy <;> omega)) (by intro x hx hy; simp only [Between, World.size_alloc, or_false] at hx hy <;> omega)) (by intro x hx hy; simp only [Between, World.size_alloc, or_false] at hx hy <;> omega)) (by intro x hx hy; simp only [Between, World.size_alloc, or_false] at hx hy <;> omega)) (by intro x hx hy; simp only [Between, World.size_alloc, or_false] at hx hy <;> omega))
  exact hall.mono (by intro x hx; simp only [Between, World.size_alloc, or_false] at hx ⊢; omega)

set_option maxRecDepth 100000 in
set_option maxHeartbeats 1000000 in
theorem eqPackage_of (v0 : ByteArray) (es1 : List (List Tr)) (es2 : List (List Tr)) (es3 : List (List Tr)) (es4 : List (List Tr)) (es5 : List (List Tr)) (h1 : EqSC 29 1 es1) (h2 : EqSC 188 5 es2) (h3 : EqSC 189 3 es3) (h4 : EqSC 190 12 es4) (h5 : EqSC 191 16 es5) : EqC 143 ([.leaf (.string v0)] ++ ([.row 1 es1] ++ ([.row 5 es2] ++ ([.row 3 es3] ++ ([.row 12 es4] ++ ([.row 16 es5] ++ ([]))))))) := by
  intro cs ds w hr hr'
  obtain ⟨b0, r0, rfl, g0, n0⟩ := RepL.split hr
  obtain ⟨y0, rfl⟩ := list1 g0.length.symm
  obtain ⟨rfl, k0⟩ := g0.1.leaf_eq
  obtain ⟨b1, r1, rfl, g1, n1⟩ := RepL.split n0
  obtain ⟨y1, rfl⟩ := list1 g1.length.symm
  obtain ⟨a1, c1, rfl, -, -⟩ := g1.1.shape
  obtain ⟨b2, r2, rfl, g2, n2⟩ := RepL.split n1
  obtain ⟨y2, rfl⟩ := list1 g2.length.symm
  obtain ⟨a2, c2, rfl, -, -⟩ := g2.1.shape
  obtain ⟨b3, r3, rfl, g3, n3⟩ := RepL.split n2
  obtain ⟨y3, rfl⟩ := list1 g3.length.symm
  obtain ⟨a3, c3, rfl, -, -⟩ := g3.1.shape
  obtain ⟨b4, r4, rfl, g4, n4⟩ := RepL.split n3
  obtain ⟨y4, rfl⟩ := list1 g4.length.symm
  obtain ⟨a4, c4, rfl, -, -⟩ := g4.1.shape
  obtain ⟨b5, r5, rfl, g5, n5⟩ := RepL.split n4
  obtain ⟨y5, rfl⟩ := list1 g5.length.symm
  obtain ⟨a5, c5, rfl, -, -⟩ := g5.1.shape
  obtain rfl := RepL.nil_eq n5
  clear hr
  obtain ⟨zb0, zr0, rfl, zg0, zn0⟩ := RepL.split hr'
  obtain ⟨zy0, rfl⟩ := list1 zg0.length.symm
  obtain ⟨rfl, zk0⟩ := zg0.1.leaf_eq
  obtain ⟨zb1, zr1, rfl, zg1, zn1⟩ := RepL.split zn0
  obtain ⟨zy1, rfl⟩ := list1 zg1.length.symm
  obtain ⟨za1, zc1, rfl, -, -⟩ := zg1.1.shape
  obtain ⟨zb2, zr2, rfl, zg2, zn2⟩ := RepL.split zn1
  obtain ⟨zy2, rfl⟩ := list1 zg2.length.symm
  obtain ⟨za2, zc2, rfl, -, -⟩ := zg2.1.shape
  obtain ⟨zb3, zr3, rfl, zg3, zn3⟩ := RepL.split zn2
  obtain ⟨zy3, rfl⟩ := list1 zg3.length.symm
  obtain ⟨za3, zc3, rfl, -, -⟩ := zg3.1.shape
  obtain ⟨zb4, zr4, rfl, zg4, zn4⟩ := RepL.split zn3
  obtain ⟨zy4, rfl⟩ := list1 zg4.length.symm
  obtain ⟨za4, zc4, rfl, -, -⟩ := zg4.1.shape
  obtain ⟨zb5, zr5, rfl, zg5, zn5⟩ := RepL.split zn4
  obtain ⟨zy5, rfl⟩ := list1 zg5.length.symm
  obtain ⟨za5, zc5, rfl, -, -⟩ := zg5.1.shape
  obtain rfl := RepL.nil_eq zn5
  clear hr'
  have G0 := Lib.hid g0
  have K0 := Lib.hid k0
  clear g0 n0 k0
  have G1 := Lib.hid g1
  clear g1 n1
  have G2 := Lib.hid g2
  clear g2 n2
  have G3 := Lib.hid g3
  clear g3 n3
  have G4 := Lib.hid g4
  clear g4 n4
  have G5 := Lib.hid g5
  clear g5 n5
  have zG0 := Lib.hid zg0
  have zK0 := Lib.hid zk0
  clear zg0 zn0 zk0
  have zG1 := Lib.hid zg1
  clear zg1 zn1
  have zG2 := Lib.hid zg2
  clear zg2 zn2
  have zG3 := Lib.hid zg3
  clear zg3 zn3
  have zG4 := Lib.hid zg4
  clear zg4 zn4
  have zG5 := Lib.hid zg5
  clear zg5 zn5
  simp only [List.cons_append, List.nil_append]
  go_enter Tryz.func143, Tryz.ntmps143
  go_wp2_with fail
  refine (h1 _ _ _ (G1.out.1.ext (.alloc (.alloc (.refl _) _) _)) (zG1.out.1.ext (.alloc (.alloc (.refl _) _) _))).mono ?_
  rintro e w1 ⟨rfl, hw1⟩
  have HW1 := Lib.hid hw1
  have ob1 := (Two.new w _ _ _ _).ext hw1
  have OBH := Lib.hid ob1
  have ce1 := ob1.o0.cell
  have cf1 := ob1.o1.cell
  clear hw1 ob1
  go_wp2_with fail
  refine (h2 _ _ _ (G2.out.1.ext (Ext.trans (.alloc (.alloc (.refl _) _) _) HW1.out)) (zG2.out.1.ext (Ext.trans (.alloc (.alloc (.refl _) _) _) HW1.out))).mono ?_
  rintro e w2 ⟨rfl, hw2⟩
  have HW2 := Lib.hid hw2
  have ob2 := OBH.out.ext hw2
  clear OBH ce1 cf1
  have OBH := Lib.hid ob2
  have ce2 := ob2.o0.cell
  have cf2 := ob2.o1.cell
  clear hw2 ob2
  go_wp2_with fail
  refine (h3 _ _ _ (G3.out.1.ext (Ext.trans (Ext.trans (.alloc (.alloc (.refl _) _) _) HW1.out) HW2.out)) (zG3.out.1.ext (Ext.trans (Ext.trans (.alloc (.alloc (.refl _) _) _) HW1.out) HW2.out))).mono ?_
  rintro e w3 ⟨rfl, hw3⟩
  have HW3 := Lib.hid hw3
  have ob3 := OBH.out.ext hw3
  clear OBH ce2 cf2
  have OBH := Lib.hid ob3
  have ce3 := ob3.o0.cell
  have cf3 := ob3.o1.cell
  clear hw3 ob3
  go_wp2_with fail
  refine (h4 _ _ _ (G4.out.1.ext (Ext.trans (Ext.trans (Ext.trans (.alloc (.alloc (.refl _) _) _) HW1.out) HW2.out) HW3.out)) (zG4.out.1.ext (Ext.trans (Ext.trans (Ext.trans (.alloc (.alloc (.refl _) _) _) HW1.out) HW2.out) HW3.out))).mono ?_
  rintro e w4 ⟨rfl, hw4⟩
  have HW4 := Lib.hid hw4
  have ob4 := OBH.out.ext hw4
  clear OBH ce3 cf3
  have OBH := Lib.hid ob4
  have ce4 := ob4.o0.cell
  have cf4 := ob4.o1.cell
  clear hw4 ob4
  go_wp2_with fail
  refine (h5 _ _ _ (G5.out.1.ext (Ext.trans (Ext.trans (Ext.trans (Ext.trans (.alloc (.alloc (.refl _) _) _) HW1.out) HW2.out) HW3.out) HW4.out)) (zG5.out.1.ext (Ext.trans (Ext.trans (Ext.trans (Ext.trans (.alloc (.alloc (.refl _) _) _) HW1.out) HW2.out) HW3.out) HW4.out))).mono ?_
  rintro e w5 ⟨rfl, hw5⟩
  have HW5 := Lib.hid hw5
  have ob5 := OBH.out.ext hw5
  clear OBH ce4 cf4
  have OBH := Lib.hid ob5
  have ce5 := ob5.o0.cell
  have cf5 := ob5.o1.cell
  clear hw5 ob5
  go_wp2_with fail
  go_ret
  exact ⟨rfl, (Ext.trans (Ext.trans (Ext.trans (Ext.trans (Ext.trans (.alloc (.alloc (.refl _) _) _) HW1.out) HW2.out) HW3.out) HW4.out) HW5.out)⟩

set_option maxRecDepth 100000 in
set_option maxHeartbeats 1000000 in
theorem szPackageS_of (es : List (List Tr)) (h5 : ∀ e ∈ es, e.length = 6) (H : ∀ e ∈ es, SzC 136 e) : SzSC 76 6 es := by
  intro s left w hs h0 h1
  obtain ⟨a, cap, rfl, hl, hm⟩ := hs.shape
  unfold maxLen at hm
  have HS := Lib.hid hs
  have HH := Lib.hid H
  have H5 := Lib.hid h5
  clear hs H h5
  go_enter Tryz.func76, Tryz.ntmps76
  go_wp2_with fail
  · go_ret
    exact ⟨-1, rfl, .refl _, by omega, by omega, by omega⟩
  go_loopw [1, 5] (fun l i wr => ∃ (k : Nat) (r : Int), k ≤ es.length ∧ i = .int .i64 k ∧ l = .int .i64 r ∧ Ext w wr ∧ 0 ≤ r ∧ r + es.length + Tr.bulkAll (es.take k) ≤ left) (fun _ i _ => es.length - (intOf i).toNat)
  case atStart => exact ⟨0, _, Nat.zero_le _, rfl, rfl, .refl _, by omega, by simp [Tr.bulkAll]⟩
  case round =>
    obtain ⟨k, r, hk, rfl, rfl, hw, hr0, hrb⟩ := hrel
    by_cases hlt : k < es.length
    · obtain ⟨b, off, cs, rfl, hb, hcs, hc⟩ := (HS.out.ext hw).at2 (k := k) (List.getElem?_eq_getElem hlt)
      have hmem : es[k] ∈ es := List.getElem_mem hlt
      have l5 := H5.out _ hmem
      have hbt := Lib.hid (Tr.bulkAll_take es k hlt)
      have HCS := Lib.hid hcs
      have HC := Lib.hid hc
      have HM := Lib.hid hmem
      have HI : Hid ((Tryz.prog.info? 166).map (·.size) = some cs.length) := by rw [← hcs.length, l5]; exact isz166
      clear hcs hc hmem l5
      go_wp2_with (refine wpList_load_rep rfl 166 _ rfl b (off + k * 6) rfl cs _ Tryz.underlying166 HI.out HC.out ?_)
      refine (HH.out _ HM.out _ _ _ HCS.out hr0 (by omega)).mono ?_
      rintro e w1 ⟨r1, rfl, hw1, hr1, hr2, hr3⟩
      have HR3 := Lib.hid hr3
      have HW1 := Lib.hid hw1
      clear hr3 hw1
      go_wp2_with fail
      · go_ret
        exact ⟨-1, rfl, hw.trans HW1.out, by omega, by omega, by omega⟩
      · go_roundw
        case rel =>
          have p0 : 0 ≤ r1 := by assumption
          have e1 := HR3.out p0
          have e2 := hbt.out
          exact ⟨k + 1, r1, by omega, by go_num, rfl, hw.trans HW1.out, p0, by omega⟩
        case measure => simp [intOf]; omega
    · have hkl : k = es.length := by omega
      go_wp2_with fail
      go_ret
      refine ⟨r, rfl, hw, by omega, by omega, fun _ => ?_⟩
      rw [hkl, List.take_length] at hrb
      simp only [Tr.bulk]
      omega

set_option maxRecDepth 100000 in
set_option maxHeartbeats 1000000 in
theorem toPackageS_of (es : List (List Tr)) (h5 : ∀ e ∈ es, e.length = 6) (H : ∀ e ∈ es, ToC 140 e) : ToSC 80 6 es := by
  intro s w hs hbk
  obtain ⟨a, cap, rfl, hl, hm⟩ := hs.shape
  unfold maxLen at hm
  have HS := Lib.hid hs
  have HH := Lib.hid H
  have H5 := Lib.hid h5
  have n0 : (0 : Int) ≤ es.length := by omega
  clear hs H h5
  go_enter Tryz.func80, Tryz.ntmps80
  go_wp2_with (refine wpList_make_rep rfl 29 (.tmp 6) rfl es.length rfl 126 Tryz.underlying29 6 136 iszb126 (by omega) (by omega) ?_; intro wm arr0 ha0 hob0 hx0 hz0; have HA0 := Lib.hid ha0; have HOB0 := Lib.hid hob0; have HX0 := Lib.hid hx0; have HZ0 := Lib.hid hz0; clear ha0 hob0 hx0 hz0)
  go_loopw [4] (fun i wr => ∃ (k : Nat) (arr : Array Value), k ≤ es.length ∧ i = .int .i64 k ∧ Ext w wr ∧ w.heap.size < wr.heap.size ∧ OB wr w.heap.size 126 arr ∧ arr.size = es.length * 6 ∧ Part wr w.heap.size arr 6 es k) (fun i _ => es.length - (intOf i).toNat)
  case atStart => exact ⟨0, arr0, Nat.zero_le _, rfl, HX0.out, by rw [HZ0.out]; omega, HOB0.out, HA0.out, Part.zero _ _ _ _ _⟩
  case round =>
    obtain ⟨k, arr, hk, rfl, hw, hgt, hob, hasz, hpart⟩ := hrel
    have HOB := Lib.hid hob
    have HAS := Lib.hid hasz
    have HP := Lib.hid hpart
    clear hob hasz hpart
    by_cases hlt : k < es.length
    · obtain ⟨b, off, cs, rfl, hb, hcs, hc⟩ := (HS.out.ext hw).at2 (k := k) (List.getElem?_eq_getElem hlt)
      have hmem : es[k] ∈ es := List.getElem_mem hlt
      have l5 := H5.out _ hmem
      have hbe := Tr.bulkAll_le hlt
      have HCS := Lib.hid hcs
      have HC := Lib.hid hc
      have HM := Lib.hid hmem
      have HL5 := Lib.hid l5
      have HI : Hid ((Tryz.prog.info? 166).map (·.size) = some cs.length) := by rw [← hcs.length, l5]; exact isz166
      clear hcs hc hmem l5
      go_wp2_with (refine wpList_load_rep rfl 166 (.tmp 18) rfl b (off + k * 6) rfl cs _ Tryz.underlying166 HI.out HC.out ?_)
      refine (HH.out _ HM.out _ _ HCS.out (by omega)).mono ?_
      rintro e w1 ⟨cs1, rfl, hw1, ho1⟩
      have HW1 := Lib.hid hw1
      have HO1 := Lib.hid ho1
      have hcl : cs1.length = 6 := ho1.1.trans HL5.out
      have HCL := Lib.hid hcl
      have hfit : 0 + k * 6 + cs1.length ≤ arr.size := by have := HAS.out; omega
      have HF := Lib.hid hfit
      clear hw1 ho1 hcl hfit
      go_wp2_with (refine wpList_store_rep rfl 126 (.tmp 21) (.tmp 20) rfl w.heap.size (k * 6) rfl cs1 rfl 126 arr (HOB.out.ext HW1.out) (by rw [HCL.out]; exact isz126) (by have := HF.out; omega) (HO1.out.rep.one) ?_; intro w2 hob2 hg2 hz2; have HOB2 := Lib.hid hob2; have HG2 := Lib.hid hg2; have HZ2 := Lib.hid hz2; clear hob2 hg2 hz2)
      go_roundw
      case rel =>
        have hfit : k * 6 + cs1.length ≤ arr.size := by have := HF.out; omega
        refine ⟨k + 1, _, by omega, by go_num, ?_, ?_, HOB2.out, by rw [splice_size hfit]; exact HAS.out, HP.out.step hgt HW1.out (List.getElem?_eq_getElem hlt) HO1.out HCL.out HAS.out HG2.out HOB2.out⟩
        · exact grown_ext (hw.trans HW1.out) HG2.out (Nat.le_refl _)
        · have := HW1.out.size
          have := HZ2.out
          omega
      case measure => simp [intOf]; omega
    · have hkl : k = es.length := by omega
      go_wp2_with fail
      go_ret
      subst hkl
      exact ⟨_, rfl, hw, (HP.out.done HOB.out H5.out (Nat.le_refl _) (by unfold maxLen; omega) (Nat.le_refl _)).mono fun x hx => ⟨hx.1, hx.2⟩⟩

set_option maxRecDepth 100000 in
set_option maxHeartbeats 1000000 in
theorem eqPackageS_of (es : List (List Tr)) (h5 : ∀ e ∈ es, e.length = 6) (H : ∀ e ∈ es, EqC 143 e) : EqSC 84 6 es := by
  intro s u w hs hu
  obtain ⟨a, cap, rfl, hl, hm⟩ := hs.shape
  obtain ⟨a', cap', rfl, hl', hm'⟩ := hu.shape
  unfold maxLen at hm hm'
  have HS := Lib.hid hs
  have HU := Lib.hid hu
  have HH := Lib.hid H
  have H5 := Lib.hid h5
  clear hs hu H h5
  go_enter Tryz.func84, Tryz.ntmps84
  go_wp2_with fail
  go_loopw [5] (fun i wr => ∃ k : Nat, k ≤ es.length ∧ i = .int .i64 k ∧ Ext w wr) (fun i _ => es.length - (intOf i).toNat)
  case atStart => exact ⟨0, Nat.zero_le _, rfl, .refl _⟩
  case round =>
    obtain ⟨k, hk, rfl, hw⟩ := hrel
    by_cases hlt : k < es.length
    · obtain ⟨b, off, cs, rfl, hb, hcs, hc⟩ := (HS.out.ext hw).at2 (k := k) (List.getElem?_eq_getElem hlt)
      obtain ⟨b', off', ds, rfl, hb', hds, hd⟩ := (HU.out.ext hw).at2 (k := k) (List.getElem?_eq_getElem hlt)
      have hmem : es[k] ∈ es := List.getElem_mem hlt
      have l5 := H5.out _ hmem
      have HCS := Lib.hid hcs
      have HDS := Lib.hid hds
      have HM := Lib.hid hmem
      have HC := Lib.hid hc
      have HD := Lib.hid hd
      have HI : Hid ((Tryz.prog.info? 126).map (·.size) = some cs.length) := by rw [← hcs.length, l5]; exact isz126
      have HJ : Hid ((Tryz.prog.info? 126).map (·.size) = some ds.length) := by rw [← hds.length, l5]; exact isz126
      clear hcs hds hc hd l5 hmem
      go_wp2_with fail
      have ki : (k : Int) < (es.length : Int) := by omega
      have k0 : (0 : Int) ≤ (k : Int) := by omega
      refine wp_region_still_tail 8 (by kernel_rfl) (by kernel_rfl) ?_
      simp only [List.take_succ_cons, List.take_zero, List.drop_succ_cons, List.drop_zero]
      change wpStill _ _ wr.drew _ _ _
      repeat (first
        | (refine wpStill_load_rep rfl 126 (.tmp 19) rfl b (off + k * 6) rfl cs _ Tryz.underlying126 HI.out HC.out ?_; simp only [Act.put])
        | (refine wpStill_load_rep rfl 126 (.tmp 23) rfl b' (off' + k * 6) rfl ds _ Tryz.underlying126 HJ.out HD.out ?_; simp only [Act.put])
        | still_step)
      refine wpStill_nil ?_
      change wpList _ _ _ _ _ wr.drew
      go_wp2_with fail
      refine (HH.out _ HM.out _ _ _ (HCS.out.ext (.drew (.refl _))) (HDS.out.ext (.drew (.refl _)))).mono ?_
      rintro e w1 ⟨rfl, hw1⟩
      have HW1 := Lib.hid hw1
      clear hw1
      go_wp2_with fail
      go_roundw
      case rel => exact ⟨k + 1, by omega, by go_num, hw.trans (.trans (.drew (.refl _)) HW1.out)⟩
      case measure => simp [intOf]; omega
    · go_wp2_with fail
      go_ret
      exact ⟨rfl, hw⟩

end Go.Proofs.YtnakkelglbcecaaGreat

namespace Go.Proofs.YtnakkelglbcecaaGreat
open Go.RowKit Go.Proofs

set_option maxRecDepth 100000 in
set_option maxHeartbeats 1000000 in
theorem szProgram_of (es0 : List (List Tr)) (h0 : SzSC 76 6 es0) : SzC 15 ([.row 6 es0] ++ ([])) := by
  intro cs left w hr hl0 hl1
  obtain ⟨b0, r0, rfl, g0, n0⟩ := RepL.split hr
  obtain ⟨y0, rfl⟩ := list1 g0.length.symm
  obtain ⟨a0, c0, rfl, -, -⟩ := g0.1.shape
  obtain rfl := RepL.nil_eq n0
  clear hr
  have G0 := Lib.hid g0
  clear g0 n0
  simp only [List.cons_append, List.nil_append]
  go_enter Tryz.func15, Tryz.ntmps15
  go_wp2_with fail
  refine (h0 _ _ _ (G0.out.1.ext (.alloc (.refl _) _)) (by omega) (by omega)).mono ?_
  rintro e w0 ⟨r0, rfl, hw0, ra0, rb0, rc0⟩
  have HW0 := Lib.hid hw0
  have HR0 := Lib.hid rc0
  have ob0 := (OB.new w _ _).ext hw0
  have OBH := Lib.hid ob0
  have ce0 := ob0.cell
  clear hw0 rc0 ob0
  go_wp2_with fail
  · go_ret
    exact ⟨-1, rfl, (Ext.trans (.alloc (.refl _) _) HW0.out), by omega, by omega, by omega⟩
  go_ret
  refine ⟨_, rfl, (Ext.trans (.alloc (.refl _) _) HW0.out), by omega, by omega, fun hp => ?_⟩
  have e0 := HR0.out (by omega)
  simp only [Tr.bulkL_append, Tr.bulkL, Tr.bulk]
  simp only [Tr.bulk] at e0
  omega

set_option maxRecDepth 100000 in
set_option maxHeartbeats 1000000 in
theorem toProgram_of (es0 : List (List Tr)) (h0 : ToSC 80 6 es0) : ToC 17 ([.row 6 es0] ++ ([])) := by
  intro cs w hr hbk
  simp only [Tr.bulkL_append, Tr.bulkL, Tr.bulk] at hbk
  obtain ⟨b0, r0, rfl, g0, n0⟩ := RepL.split hr
  obtain ⟨y0, rfl⟩ := list1 g0.length.symm
  obtain ⟨a0, c0, rfl, -, -⟩ := g0.1.shape
  obtain rfl := RepL.nil_eq n0
  clear hr
  have G0 := Lib.hid g0
  clear g0 n0
  simp only [List.cons_append, List.nil_append]
  go_enter Tryz.func17, Tryz.ntmps17
  go_wp2_with fail
  refine (h0 _ _ (G0.out.1.ext (.alloc (.alloc (.alloc (.refl _) _) _) _)) (by omega)).mono ?_
  rintro e w0 ⟨d0, rfl, hw0, ho0⟩
  obtain ⟨da0, dc0, rfl, -, -⟩ := ho0.rep.shape
  have HW0 := Lib.hid hw0
  have HO0 := Lib.hid ho0
  have ob0 := (Three.new w _ _ _ _ _ _).ext hw0
  have OBHw0 := Lib.hid ob0
  have cew0 := ob0.o0.cell
  have hzw0 : w.heap.size < w0.heap.size := ob0.o0.lt
  clear hw0 ob0 ho0
  have hone : Hid (∀ v ∈ ([.slice da0 es0.length dc0] : List Value), v.oneCell' = true) := by
    intro v hv
    simp only [List.mem_cons, List.not_mem_nil, or_false] at hv
    rcases hv with rfl <;> first | rfl
  go_wp2_with (first
    | (refine wpList_store_cell rfl 29 _ _ rfl (w.heap.size + 1 + 1) 0 rfl (.slice da0 es0.length dc0) rfl rfl 31 _ OBHw0.out.o2 isz29 (by simp [splice]) rfl ?_; intro u0 hou0 hgu0 hzu0; have OBHu0 := Lib.hid (OBHw0.out.grown hgu0 hou0 (by omega) (by omega)); have HGu0 := Lib.hid hgu0; have ceu0 := OBHu0.out.o0.cell; have hqu0 : w.heap.size < u0.heap.size := OBHu0.out.o0.lt; clear hou0 hgu0 hzu0 OBHw0 cew0)
    | (refine wpList_load_rep rfl 31 _ rfl (w.heap.size + 1 + 1) 0 rfl [.slice da0 es0.length dc0] _ Tryz.underlying31 isz31 (fun j v hv => by rw [OBHu0.out.o2.cell, Nat.zero_add]; simpa [splice] using hv) ?_)
    | (refine wpList_store_rep rfl 31 _ _ rfl (w.heap.size + 1) 0 rfl [.slice da0 es0.length dc0] rfl 31 _ OBHu0.out.o1 isz31 (by simp) hone.out ?_; intro wz hoz hgz hzz; have HOZ := Lib.hid hoz; have HGZ := Lib.hid hgz; clear hoz hgz hzz))
  have HOF : OB wz (w.heap.size + 1) 31 ⟨[.slice da0 es0.length dc0]⟩ := HOZ.out
  refine bodyPost_ret (results_cell_row Tryz.results17 _ _ (w.heap.size + 1) 31 ⟨[.slice da0 es0.length dc0]⟩ _ _ rfl HOF Tryz.underlying31 rfl isz31) rfl ⟨[.slice da0 es0.length dc0], rfl, (grown_ext (grown_ext (Ext.trans (.alloc (.alloc (.alloc (.refl _) _) _) _) HW0.out) HGu0.out (by omega)) HGZ.out (by omega)), ?_⟩
  have sw0 := HW0.out.size
  have su0 := HGu0.out.size
  have swz := HGZ.out.size
  simp only [World.size_alloc] at sw0
  have ow0 := HO0.out.keeps (lo := w.heap.size + 1 + 1 + 1) (Keeps.trans (Keeps.of_grown HGu0.out (by omega)) (Keeps.of_grown HGZ.out (by omega))) (by intro x hx; simp only [Between, World.size_alloc] at hx; omega)
  have hall := OwnL.append (OwnL.one ow0) (OwnL.nil wz (fun _ => False)) (by intro x hx hy; simp only [Between, World.size_alloc, or_false] at hx hy <;> omega)
  exact hall.mono (by intro x hx; simp only [Between, World.size_alloc, or_false] at hx ⊢; omega)

set_option maxRecDepth 100000 in
set_option maxHeartbeats 1000000 in
theorem eqProgram_of (es0 : List (List Tr)) (h0 : EqSC 84 6 es0) : EqC 20 ([.row 6 es0] ++ ([])) := by
  intro cs ds w hr hr'
  obtain ⟨b0, r0, rfl, g0, n0⟩ := RepL.split hr
  obtain ⟨y0, rfl⟩ := list1 g0.length.symm
  obtain ⟨a0, c0, rfl, -, -⟩ := g0.1.shape
  obtain rfl := RepL.nil_eq n0
  clear hr
  obtain ⟨zb0, zr0, rfl, zg0, zn0⟩ := RepL.split hr'
  obtain ⟨zy0, rfl⟩ := list1 zg0.length.symm
  obtain ⟨za0, zc0, rfl, -, -⟩ := zg0.1.shape
  obtain rfl := RepL.nil_eq zn0
  clear hr'
  have G0 := Lib.hid g0
  clear g0 n0
  have zG0 := Lib.hid zg0
  clear zg0 zn0
  simp only [List.cons_append, List.nil_append]
  go_enter Tryz.func20, Tryz.ntmps20
  go_wp2_with fail
  refine (h0 _ _ _ (G0.out.1.ext (.alloc (.alloc (.refl _) _) _)) (zG0.out.1.ext (.alloc (.alloc (.refl _) _) _))).mono ?_
  rintro e w0 ⟨rfl, hw0⟩
  have HW0 := Lib.hid hw0
  have ob0 := (Two.new w _ _ _ _).ext hw0
  have OBH := Lib.hid ob0
  have ce0 := ob0.o0.cell
  have cf0 := ob0.o1.cell
  clear hw0 ob0
  go_wp2_with fail
  go_ret
  exact ⟨rfl, (Ext.trans (.alloc (.alloc (.refl _) _) _) HW0.out)⟩

end Go.Proofs.YtnakkelglbcecaaGreat
