/- Contracts of the laws' own functions that measure, copy and compare plain data: Function. No conditions. -/
import Derived.Test.YtnakkelglbcecaaGreatProg
import Derived.Test.YtnakkelglbcecaaGreatCtr
namespace Go.Proofs.YtnakkelglbcecaaGreat
open Go.RowKit Go.Proofs

set_option maxRecDepth 100000 in
set_option maxHeartbeats 1000000 in
theorem szFunction_of (v0 : ByteArray) (es1 : List (List Tr)) (es2 : List (List Tr)) (es3 : List (List Tr)) (ts4 : List Tr) (l4 : ts4.length = 3) (ts5 : List Tr) (l5 : ts5.length = 9) (h1 : SzSC 178 1 es1) (h2 : SzSC 50 4 es2) (h3 : SzSC 219 4 es3) (h4 : SzC 43 ts4) (h5 : SzC 220 ts5) : SzC 206 ([.leaf (.string v0)] ++ ([.row 1 es1] ++ ([.row 4 es2] ++ ([.row 4 es3] ++ (ts4 ++ (ts5 ++ ([]))))))) := by
  intro cs left w hr hl0 hl1
  obtain ⟨b0, r0, rfl, g0, n0⟩ := RepL.split hr
  obtain ⟨y0, rfl⟩ := list1 g0.length.symm
  obtain ⟨rfl, k0⟩ := g0.1.leaf_eq
  obtain ⟨b1, r1, rfl, g1, n1⟩ := RepL.split n0
  obtain ⟨y1, rfl⟩ := list1 g1.length.symm
  obtain ⟨a1, c1, rfl, -, -⟩ := g1.1.shape
  obtain ⟨b2, r2, rfl, g2, n2⟩ := RepL.split n1
  obtain ⟨y2, rfl⟩ := list1 g2.length.symm
  obtain ⟨a2, c2, rfl, -, -⟩ := g2.1.shape
  obtain ⟨b3, r3, rfl, g3, n3⟩ := RepL.split n2
  obtain ⟨y3, rfl⟩ := list1 g3.length.symm
  obtain ⟨a3, c3, rfl, -, -⟩ := g3.1.shape
  obtain ⟨b4, r4, rfl, g4, n4⟩ := RepL.split n3
  obtain ⟨x4_0, x4_1, x4_2, rfl⟩ := list3 (g4.length.symm.trans l4)
  obtain ⟨b5, r5, rfl, g5, n5⟩ := RepL.split n4
  obtain ⟨x5_0, x5_1, x5_2, x5_3, x5_4, x5_5, x5_6, x5_7, x5_8, rfl⟩ := list9 (g5.length.symm.trans l5)
  obtain rfl := RepL.nil_eq n5
  clear hr
  have q0 : v0.size ≤ 9223372036854775807 := by have := k0; simp only [LeafOk, maxLen] at this; omega
  have G0 := Lib.hid g0
  have K0 := Lib.hid k0
  clear g0 n0 k0
  have G1 := Lib.hid g1
  clear g1 n1
  have G2 := Lib.hid g2
  clear g2 n2
  have G3 := Lib.hid g3
  clear g3 n3
  have G4 := Lib.hid g4
  clear g4 n4
  have G5 := Lib.hid g5
  clear g5 n5
  simp only [List.cons_append, List.nil_append]
  go_enter Tryz.func206, Tryz.ntmps206
  go_wp2_with fail
  · go_ret
    exact ⟨-1, rfl, (.alloc (.refl _) _), by omega, by omega, by omega⟩
  refine (h1 _ _ _ (G1.out.1.ext (.alloc (.refl _) _)) (by omega) (by omega)).mono ?_
  rintro e w1 ⟨r1, rfl, hw1, ra1, rb1, rc1⟩
  have HW1 := Lib.hid hw1
  have HR1 := Lib.hid rc1
  have ob1 := (OB.new w _ _).ext hw1
  have OBH := Lib.hid ob1
  have ce1 := ob1.cell
  clear hw1 rc1 ob1
  go_wp2_with fail
  · go_ret
    exact ⟨-1, rfl, (Ext.trans (.alloc (.refl _) _) HW1.out), by omega, by omega, by omega⟩
  refine (h2 _ _ _ (G2.out.1.ext (Ext.trans (.alloc (.refl _) _) HW1.out)) (by omega) (by omega)).mono ?_
  rintro e w2 ⟨r2, rfl, hw2, ra2, rb2, rc2⟩
  have HW2 := Lib.hid hw2
  have HR2 := Lib.hid rc2
  have ob2 := OBH.out.ext hw2
  clear OBH ce1
  have OBH := Lib.hid ob2
  have ce2 := ob2.cell
  clear hw2 rc2 ob2
  go_wp2_with fail
  · go_ret
    exact ⟨-1, rfl, (Ext.trans (Ext.trans (.alloc (.refl _) _) HW1.out) HW2.out), by omega, by omega, by omega⟩
  refine (h3 _ _ _ (G3.out.1.ext (Ext.trans (Ext.trans (.alloc (.refl _) _) HW1.out) HW2.out)) (by omega) (by omega)).mono ?_
  rintro e w3 ⟨r3, rfl, hw3, ra3, rb3, rc3⟩
  have HW3 := Lib.hid hw3
  have HR3 := Lib.hid rc3
  have ob3 := OBH.out.ext hw3
  clear OBH ce2
  have OBH := Lib.hid ob3
  have ce3 := ob3.cell
  clear hw3 rc3 ob3
  go_wp2_with fail
  · go_ret
    exact ⟨-1, rfl, (Ext.trans (Ext.trans (Ext.trans (.alloc (.refl _) _) HW1.out) HW2.out) HW3.out), by omega, by omega, by omega⟩
  refine (h4 _ _ _ (G4.out.ext (Ext.trans (Ext.trans (Ext.trans (.alloc (.refl _) _) HW1.out) HW2.out) HW3.out)) (by omega) (by omega)).mono ?_
  rintro e w4 ⟨r4, rfl, hw4, ra4, rb4, rc4⟩
  have HW4 := Lib.hid hw4
  have HR4 := Lib.hid rc4
  have ob4 := OBH.out.ext hw4
  clear OBH ce3
  have OBH := Lib.hid ob4
  have ce4 := ob4.cell
  clear hw4 rc4 ob4
  go_wp2_with fail
  · go_ret
    exact ⟨-1, rfl, (Ext.trans (Ext.trans (Ext.trans (Ext.trans (.alloc (.refl _) _) HW1.out) HW2.out) HW3.out) HW4.out), by omega, by omega, by omega⟩
  refine (h5 _ _ _ (G5.out.ext (Ext.trans (Ext.trans (Ext.trans (Ext.trans (.alloc (.refl _) _) HW1.out) HW2.out) HW3.out) HW4.out)) (by omega) (by omega)).mono ?_
  rintro e w5 ⟨r5, rfl, hw5, ra5, rb5, rc5⟩
  have HW5 := Lib.hid hw5
  have HR5 := Lib.hid rc5
  have ob5 := OBH.out.ext hw5
  clear OBH ce4
  have OBH := Lib.hid ob5
  have ce5 := ob5.cell
  clear hw5 rc5 ob5
  go_wp2_with fail
  · go_ret
    exact ⟨-1, rfl, (Ext.trans (Ext.trans (Ext.trans (Ext.trans (Ext.trans (.alloc (.refl _) _) HW1.out) HW2.out) HW3.out) HW4.out) HW5.out), by omega, by omega, by omega⟩
  go_ret
  refine ⟨_, rfl, (Ext.trans (Ext.trans (Ext.trans (Ext.trans (Ext.trans (.alloc (.refl _) _) HW1.out) HW2.out) HW3.out) HW4.out) HW5.out), by omega, by omega, fun hp => ?_⟩
  have e1 := HR1.out (by omega)
  have e2 := HR2.out (by omega)
  have e3 := HR3.out (by omega)
  have e4 := HR4.out (by omega)
  have e5 := HR5.out (by omega)
  simp only [Tr.bulkL_append, Tr.bulkL, Tr.bulk]
  simp only [Tr.bulk] at e1 e2 e3
  omega

set_option maxRecDepth 100000 in
set_option maxHeartbeats 1000000 in
theorem toFunction_of (v0 : ByteArray) (es1 : List (List Tr)) (es2 : List (List Tr)) (es3 : List (List Tr)) (ts4 : List Tr) (l4 : ts4.length = 3) (ts5 : List Tr) (l5 : ts5.length = 9) (h1 : ToSC 183 1 es1) (h2 : ToSC 52 4 es2) (h3 : ToSC 224 4 es3) (h4 : ToC 45 ts4) (h5 : ToC 225 ts5) : ToC 210 ([.leaf (.string v0)] ++ ([.row 1 es1] ++ ([.row 4 es2] ++ ([.row 4 es3] ++ (ts4 ++ (ts5 ++ ([]))))))) := by
  intro cs w hr hbk
  simp only [Tr.bulkL_append, Tr.bulkL, Tr.bulk] at hbk
  obtain ⟨b0, r0, rfl, g0, n0⟩ := RepL.split hr
  obtain ⟨y0, rfl⟩ := list1 g0.length.symm
  obtain ⟨rfl, k0⟩ := g0.1.leaf_eq
  obtain ⟨b1, r1, rfl, g1, n1⟩ := RepL.split n0
  obtain ⟨y1, rfl⟩ := list1 g1.length.symm
  obtain ⟨a1, c1, rfl, -, -⟩ := g1.1.shape
  obtain ⟨b2, r2, rfl, g2, n2⟩ := RepL.split n1
  obtain ⟨y2, rfl⟩ := list1 g2.length.symm
  obtain ⟨a2, c2, rfl, -, -⟩ := g2.1.shape
  obtain ⟨b3, r3, rfl, g3, n3⟩ := RepL.split n2
  obtain ⟨y3, rfl⟩ := list1 g3.length.symm
  obtain ⟨a3, c3, rfl, -, -⟩ := g3.1.shape
  obtain ⟨b4, r4, rfl, g4, n4⟩ := RepL.split n3
  obtain ⟨x4_0, x4_1, x4_2, rfl⟩ := list3 (g4.length.symm.trans l4)
  obtain ⟨b5, r5, rfl, g5, n5⟩ := RepL.split n4
  obtain ⟨x5_0, x5_1, x5_2, x5_3, x5_4, x5_5, x5_6, x5_7, x5_8, rfl⟩ := list9 (g5.length.symm.trans l5)
  obtain rfl := RepL.nil_eq n5
  clear hr
  have G0 := Lib.hid g0
  have K0 := Lib.hid k0
  clear g0 n0 k0
  have G1 := Lib.hid g1
  clear g1 n1
  have G2 := Lib.hid g2
  clear g2 n2
  have G3 := Lib.hid g3
  clear g3 n3
  have G4 := Lib.hid g4
  clear g4 n4
  have G5 := Lib.hid g5
  clear g5 n5
  simp only [List.cons_append, List.nil_append]
  go_enter Tryz.func210, Tryz.ntmps210
  go_wp2_with fail
  refine (h1 _ _ (G1.out.1.ext (.alloc (.alloc (.alloc (.refl _) _) _) _)) (by omega)).mono ?_
  rintro e w1 ⟨d1, rfl, hw1, ho1⟩
  obtain ⟨da1, dc1, rfl, -, -⟩ := ho1.rep.shape
  have HW1 := Lib.hid hw1
  have HO1 := Lib.hid ho1
  have ob1 := (Three.new w _ _ _ _ _ _).ext hw1
  have OBHw1 := Lib.hid ob1
  have cew1 := ob1.o0.cell
  have hzw1 : w.heap.size < w1.heap.size := ob1.o0.lt
  clear hw1 ob1 ho1
  go_wp2_with (first
    | (refine wpList_store_cell rfl 54 _ _ rfl (w.heap.size + 1 + 1) 1 rfl (.slice da1 es1.length dc1) rfl rfl 105 _ OBHw1.out.o2 isz54 (by simp [splice]) rfl ?_; intro u1 hou1 hgu1 hzu1; have OBHu1 := Lib.hid (OBHw1.out.grown hgu1 hou1 (by omega) (by omega)); have HGu1 := Lib.hid hgu1; have ceu1 := OBHu1.out.o0.cell; have hqu1 : w.heap.size < u1.heap.size := OBHu1.out.o0.lt; clear hou1 hgu1 hzu1 OBHw1 cew1))
  refine (h2 _ _ (G2.out.1.ext (grown_ext (Ext.trans (.alloc (.alloc (.alloc (.refl _) _) _) _) HW1.out) HGu1.out (by omega))) (by omega)).mono ?_
  rintro e w2 ⟨d2, rfl, hw2, ho2⟩
  obtain ⟨da2, dc2, rfl, -, -⟩ := ho2.rep.shape
  have HW2 := Lib.hid hw2
  have HO2 := Lib.hid ho2
  have ob2 := OBHu1.out.ext hw2
  clear OBHu1 ceu1
  have OBHw2 := Lib.hid ob2
  have cew2 := ob2.o0.cell
  have hzw2 : w.heap.size < w2.heap.size := ob2.o0.lt
  clear hw2 ob2 ho2
  go_wp2_with (first
    | (refine wpList_store_cell rfl 82 _ _ rfl (w.heap.size + 1 + 1) 2 rfl (.slice da2 es2.length dc2) rfl rfl 105 _ OBHw2.out.o2 isz82 (by simp [splice]) rfl ?_; intro u2 hou2 hgu2 hzu2; have OBHu2 := Lib.hid (OBHw2.out.grown hgu2 hou2 (by omega) (by omega)); have HGu2 := Lib.hid hgu2; have ceu2 := OBHu2.out.o0.cell; have hqu2 : w.heap.size < u2.heap.size := OBHu2.out.o0.lt; clear hou2 hgu2 hzu2 OBHw2 cew2))
  refine (h3 _ _ (G3.out.1.ext (grown_ext (Ext.trans (grown_ext (Ext.trans (.alloc (.alloc (.alloc (.refl _) _) _) _) HW1.out) HGu1.out (by omega)) HW2.out) HGu2.out (by omega))) (by omega)).mono ?_
  rintro e w3 ⟨d3, rfl, hw3, ho3⟩
  obtain ⟨da3, dc3, rfl, -, -⟩ := ho3.rep.shape
  have HW3 := Lib.hid hw3
  have HO3 := Lib.hid ho3
  have ob3 := OBHu2.out.ext hw3
  clear OBHu2 ceu2
  have OBHw3 := Lib.hid ob3
  have cew3 := ob3.o0.cell
  have hzw3 : w.heap.size < w3.heap.size := ob3.o0.lt
  clear hw3 ob3 ho3
  go_wp2_with (first
    | (refine wpList_store_cell rfl 99 _ _ rfl (w.heap.size + 1 + 1) 3 rfl (.slice da3 es3.length dc3) rfl rfl 105 _ OBHw3.out.o2 isz99 (by simp [splice]) rfl ?_; intro u3 hou3 hgu3 hzu3; have OBHu3 := Lib.hid (OBHw3.out.grown hgu3 hou3 (by omega) (by omega)); have HGu3 := Lib.hid hgu3; have ceu3 := OBHu3.out.o0.cell; have hqu3 : w.heap.size < u3.heap.size := OBHu3.out.o0.lt; clear hou3 hgu3 hzu3 OBHw3 cew3))
  refine (h4 _ _ (G4.out.ext (grown_ext (Ext.trans (grown_ext (Ext.trans (grown_ext (Ext.trans (.alloc (.alloc (.alloc (.refl _) _) _) _) HW1.out) HGu1.out (by omega)) HW2.out) HGu2.out (by omega)) HW3.out) HGu3.out (by omega))) (by omega)).mono ?_
  rintro e w4 ⟨d4, rfl, hw4, ho4⟩
  obtain ⟨d4_0, d4_1, d4_2, rfl⟩ := list3 (ho4.1.trans l4)
  have HW4 := Lib.hid hw4
  have HO4 := Lib.hid ho4
  have ob4 := OBHu3.out.ext hw4
  clear OBHu3 ceu3
  have OBHw4 := Lib.hid ob4
  have cew4 := ob4.o0.cell
  have hzw4 : w.heap.size < w4.heap.size := ob4.o0.lt
  clear hw4 ob4 ho4
  go_wp2_with (first
    | (refine wpList_store_rep rfl 47 _ _ rfl (w.heap.size + 1 + 1) 4 rfl [d4_0, d4_1, d4_2] rfl 105 _ OBHw4.out.o2 isz47 (by simp [splice]) HO4.out.rep.one ?_; intro u4 hou4 hgu4 hzu4; have OBHu4 := Lib.hid (OBHw4.out.grown hgu4 hou4 (by omega) (by omega)); have HGu4 := Lib.hid hgu4; have ceu4 := OBHu4.out.o0.cell; have hqu4 : w.heap.size < u4.heap.size := OBHu4.out.o0.lt; clear hou4 hgu4 hzu4 OBHw4 cew4))
  refine (h5 _ _ (G5.out.ext (grown_ext (Ext.trans (grown_ext (Ext.trans (grown_ext (Ext.trans (grown_ext (Ext.trans (.alloc (.alloc (.alloc (.refl _) _) _) _) HW1.out) HGu1.out (by omega)) HW2.out) HGu2.out (by omega)) HW3.out) HGu3.out (by omega)) HW4.out) HGu4.out (by omega))) (by omega)).mono ?_
  rintro e w5 ⟨d5, rfl, hw5, ho5⟩
  obtain ⟨d5_0, d5_1, d5_2, d5_3, d5_4, d5_5, d5_6, d5_7, d5_8, rfl⟩ := list9 (ho5.1.trans l5)
  have HW5 := Lib.hid hw5
  have HO5 := Lib.hid ho5
  have ob5 := OBHu4.out.ext hw5
  clear OBHu4 ceu4
  have OBHw5 := Lib.hid ob5
  have cew5 := ob5.o0.cell
  have hzw5 : w.heap.size < w5.heap.size := ob5.o0.lt
  clear hw5 ob5 ho5
  have hone : Hid (∀ v ∈ ([.string v0, .slice da1 es1.length dc1, .slice da2 es2.length dc2, .slice da3 es3.length dc3, d4_0, d4_1, d4_2, d5_0, d5_1, d5_2, d5_3, d5_4, d5_5, d5_6, d5_7, d5_8] : List Value), v.oneCell' = true) := by
    intro v hv
    simp only [List.mem_cons, List.not_mem_nil, or_false] at hv
    rcases hv with rfl | rfl | rfl | rfl | rfl | rfl | rfl | rfl | rfl | rfl | rfl | rfl | rfl | rfl | rfl | rfl <;> first | rfl | (refine HO4.out.rep.one _ ?_; simp; done) | (refine HO5.out.rep.one _ ?_; simp; done)
  go_wp2_with (first
    | (refine wpList_store_rep rfl 103 _ _ rfl (w.heap.size + 1 + 1) 7 rfl [d5_0, d5_1, d5_2, d5_3, d5_4, d5_5, d5_6, d5_7, d5_8] rfl 105 _ OBHw5.out.o2 isz103 (by simp [splice]) HO5.out.rep.one ?_; intro u5 hou5 hgu5 hzu5; have OBHu5 := Lib.hid (OBHw5.out.grown hgu5 hou5 (by omega) (by omega)); have HGu5 := Lib.hid hgu5; have ceu5 := OBHu5.out.o0.cell; have hqu5 : w.heap.size < u5.heap.size := OBHu5.out.o0.lt; clear hou5 hgu5 hzu5 OBHw5 cew5)
    | (refine wpList_load_rep rfl 105 _ rfl (w.heap.size + 1 + 1) 0 rfl [.string v0, .slice da1 es1.length dc1, .slice da2 es2.length dc2, .slice da3 es3.length dc3, d4_0, d4_1, d4_2, d5_0, d5_1, d5_2, d5_3, d5_4, d5_5, d5_6, d5_7, d5_8] _ Tryz.underlying105 isz105 (fun j v hv => by rw [OBHu5.out.o2.cell, Nat.zero_add]; simpa [splice] using hv) ?_)
    | (refine wpList_store_rep rfl 105 _ _ rfl (w.heap.size + 1) 0 rfl [.string v0, .slice da1 es1.length dc1, .slice da2 es2.length dc2, .slice da3 es3.length dc3, d4_0, d4_1, d4_2, d5_0, d5_1, d5_2, d5_3, d5_4, d5_5, d5_6, d5_7, d5_8] rfl 105 _ OBHu5.out.o1 isz105 (by simp) hone.out ?_; intro wz hoz hgz hzz; have HOZ := Lib.hid hoz; have HGZ := Lib.hid hgz; clear hoz hgz hzz))
  have HOF : OB wz (w.heap.size + 1) 105 ⟨[.string v0, .slice da1 es1.length dc1, .slice da2 es2.length dc2, .slice da3 es3.length dc3, d4_0, d4_1, d4_2, d5_0, d5_1, d5_2, d5_3, d5_4, d5_5, d5_6, d5_7, d5_8]⟩ := HOZ.out
  refine bodyPost_ret (results_cell_row Tryz.results210 _ _ (w.heap.size + 1) 105 ⟨[.string v0, .slice da1 es1.length dc1, .slice da2 es2.length dc2, .slice da3 es3.length dc3, d4_0, d4_1, d4_2, d5_0, d5_1, d5_2, d5_3, d5_4, d5_5, d5_6, d5_7, d5_8]⟩ _ _ rfl HOF Tryz.underlying105 rfl isz105) rfl ⟨[.string v0, .slice da1 es1.length dc1, .slice da2 es2.length dc2, .slice da3 es3.length dc3, d4_0, d4_1, d4_2, d5_0, d5_1, d5_2, d5_3, d5_4, d5_5, d5_6, d5_7, d5_8], rfl, (grown_ext (grown_ext (Ext.trans (grown_ext (Ext.trans (grown_ext (Ext.trans (grown_ext (Ext.trans (grown_ext (Ext.trans (.alloc (.alloc (.alloc (.refl _) _) _) _) HW1.out) HGu1.out (by omega)) HW2.out) HGu2.out (by omega)) HW3.out) HGu3.out (by omega)) HW4.out) HGu4.out (by omega)) HW5.out) HGu5.out (by omega)) HGZ.out (by omega)), ?_⟩
  have sw1 := HW1.out.size
  have su1 := HGu1.out.size
  have sw2 := HW2.out.size
  have su2 := HGu2.out.size
  have sw3 := HW3.out.size
  have su3 := HGu3.out.size
  have sw4 := HW4.out.size
  have su4 := HGu4.out.size
  have sw5 := HW5.out.size
  have su5 := HGu5.out.size
  have swz := HGZ.out.size
  simp only [World.size_alloc] at sw1
  have ow1 := HO1.out.keeps (lo := w.heap.size + 1 + 1 + 1) (Keeps.trans (Keeps.of_grown HGu1.out (by omega)) (Keeps.trans (Keeps.of_ext HW2.out) (Keeps.trans (Keeps.of_grown HGu2.out (by omega)) (Keeps.trans (Keeps.of_ext HW3.out) (Keeps.trans (Keeps.of_grown HGu3.out (by omega)) (Keeps.trans (Keeps.of_ext HW4.out) (Keeps.trans (Keeps.of_grown HGu4.out (by omega)) (Keeps.trans (Keeps.of_ext HW5.out) (Keeps.trans (Keeps.of_grown HGu5.out (by omega)) (Keeps.of_grown HGZ.out (by omega))))))))))) (by intro x hx; simp only [Between, World.size_alloc] at hx; omega)
  have ow2 := HO2.out.keeps (lo := w.heap.size + 1 + 1 + 1) (Keeps.trans (Keeps.of_grown HGu2.out (by omega)) (Keeps.trans (Keeps.of_ext HW3.out) (Keeps.trans (Keeps.of_grown HGu3.out (by omega)) (Keeps.trans (Keeps.of_ext HW4.out) (Keeps.trans (Keeps.of_grown HGu4.out (by omega)) (Keeps.trans (Keeps.of_ext HW5.out) (Keeps.trans (Keeps.of_grown HGu5.out (by omega)) (Keeps.of_grown HGZ.out (by omega))))))))) (by intro x hx; simp only [Between, World.size_alloc] at hx; omega)
  have ow3 := HO3.out.keeps (lo := w.heap.size + 1 + 1 + 1) (Keeps.trans (Keeps.of_grown HGu3.out (by omega)) (Keeps.trans (Keeps.of_ext HW4.out) (Keeps.trans (Keeps.of_grown HGu4.out (by omega)) (Keeps.trans (Keeps.of_ext HW5.out) (Keeps.trans (Keeps.of_grown HGu5.out (by omega)) (Keeps.of_grown HGZ.out (by omega))))))) (by intro x hx; simp only [Between, World.size_alloc] at hx; omega)
  have ow4 := HO4.out.keeps (lo := w.heap.size + 1 + 1 + 1) (Keeps.trans (Keeps.of_grown HGu4.out (by omega)) (Keeps.trans (Keeps.of_ext HW5.out) (Keeps.trans (Keeps.of_grown HGu5.out (by omega)) (Keeps.of_grown HGZ.out (by omega))))) (by intro x hx; simp only [Between, World.size_alloc] at hx; omega)
  have ow5 := HO5.out.keeps (lo := w.heap.size + 1 + 1 + 1) (Keeps.trans (Keeps.of_grown HGu5.out (by omega)) (Keeps.of_grown HGZ.out (by omega))) (by intro x hx; simp only [Between, World.size_alloc] at hx; omega)
  have hall := OwnL.cons_leaf K0.out (OwnL.append (OwnL.one ow1) (OwnL.append (OwnL.one ow2) (OwnL.append (OwnL.one ow3) (OwnL.append (ow4) (OwnL.append (ow5) (OwnL.nil wz (fun _ => False)) (by intro x hx hy; simp only [Between, World.size_alloc, or_false] at hx hy <;> omega)) (by intro x hx hy; simp only [Between, World.size_alloc, or_false] at hx hy <;> omega)) (by intro x hx hy; simp only [Between, World.size_alloc, or_false] at hx hy <;> omega)) (by intro x hx hy; simp only [Between, World.size_alloc, or_false] at hx hy <;> omega)) (by intro x hx hy; simp only [Between, World.size_alloc, or_false] at hx hy <;> omega))
  exact hall.mono (by intro x hx; simp only [Between, World.size_alloc, or_false] at hx ⊢; omega)

set_option maxRecDepth 100000 in
set_option maxHeartbeats 1000000 in
theorem eqFunction_of (v0 : ByteArray) (es1 : List (List Tr)) (es2 : List (List Tr)) (es3 : List (List Tr)) (ts4 : List Tr) (l4 : ts4.length = 3) (ts5 : List Tr) (l5 : ts5.length = 9) (h1 : EqSC 29 1 es1) (h2 : EqSC 55 4 es2) (h3 : EqSC 129 4 es3) (h4 : EqC 47 ts4) (h5 : EqC 130 ts5) : EqC 73 ([.leaf (.string v0)] ++ ([.row 1 es1] ++ ([.row 4 es2] ++ ([.row 4 es3] ++ (ts4 ++ (ts5 ++ ([]))))))) := by
  intro cs ds w hr hr'
  obtain ⟨b0, r0, rfl, g0, n0⟩ := RepL.split hr
  obtain ⟨y0, rfl⟩ := list1 g0.length.symm
  obtain ⟨rfl, k0⟩ := g0.1.leaf_eq
  obtain ⟨b1, r1, rfl, g1, n1⟩ := RepL.split n0
  obtain ⟨y1, rfl⟩ := list1 g1.length.symm
  obtain ⟨a1, c1, rfl, -, -⟩ := g1.1.shape
  obtain ⟨b2, r2, rfl, g2, n2⟩ := RepL.split n1
  obtain ⟨y2, rfl⟩ := list1 g2.length.symm
  obtain ⟨a2, c2, rfl, -, -⟩ := g2.1.shape
  obtain ⟨b3, r3, rfl, g3, n3⟩ := RepL.split n2
  obtain ⟨y3, rfl⟩ := list1 g3.length.symm
  obtain ⟨a3, c3, rfl, -, -⟩ := g3.1.shape
  obtain ⟨b4, r4, rfl, g4, n4⟩ := RepL.split n3
  obtain ⟨x4_0, x4_1, x4_2, rfl⟩ := list3 (g4.length.symm.trans l4)
  obtain ⟨b5, r5, rfl, g5, n5⟩ := RepL.split n4
  obtain ⟨x5_0, x5_1, x5_2, x5_3, x5_4, x5_5, x5_6, x5_7, x5_8, rfl⟩ := list9 (g5.length.symm.trans l5)
  obtain rfl := RepL.nil_eq n5
  clear hr
  obtain ⟨zb0, zr0, rfl, zg0, zn0⟩ := RepL.split hr'
  obtain ⟨zy0, rfl⟩ := list1 zg0.length.symm
  obtain ⟨rfl, zk0⟩ := zg0.1.leaf_eq
  obtain ⟨zb1, zr1, rfl, zg1, zn1⟩ := RepL.split zn0
  obtain ⟨zy1, rfl⟩ := list1 zg1.length.symm
  obtain ⟨za1, zc1, rfl, -, -⟩ := zg1.1.shape
  obtain ⟨zb2, zr2, rfl, zg2, zn2⟩ := RepL.split zn1
  obtain ⟨zy2, rfl⟩ := list1 zg2.length.symm
  obtain ⟨za2, zc2, rfl, -, -⟩ := zg2.1.shape
  obtain ⟨zb3, zr3, rfl, zg3, zn3⟩ := RepL.split zn2
  obtain ⟨zy3, rfl⟩ := list1 zg3.length.symm
  obtain ⟨za3, zc3, rfl, -, -⟩ := zg3.1.shape
  obtain ⟨zb4, zr4, rfl, zg4, zn4⟩ := RepL.split zn3
  obtain ⟨zx4_0, zx4_1, zx4_2, rfl⟩ := list3 (zg4.length.symm.trans l4)
  obtain ⟨zb5, zr5, rfl, zg5, zn5⟩ := RepL.split zn4
  obtain ⟨zx5_0, zx5_1, zx5_2, zx5_3, zx5_4, zx5_5, zx5_6, zx5_7, zx5_8, rfl⟩ := list9 (zg5.length.symm.trans l5)
  obtain rfl := RepL.nil_eq zn5
  clear hr'
  have G0 := Lib.hid g0
  have K0 := Lib.hid k0
  clear g0 n0 k0
  have G1 := Lib.hid g1
  clear g1 n1
  have G2 := Lib.hid g2
  clear g2 n2
  have G3 := Lib.hid g3
  clear g3 n3
  have G4 := Lib.hid g4
  clear g4 n4
  have G5 := Lib.hid g5
  clear g5 n5
  have zG0 := Lib.hid zg0
  have zK0 := Lib.hid zk0
  clear zg0 zn0 zk0
  have zG1 := Lib.hid zg1
  clear zg1 zn1
  have zG2 := Lib.hid zg2
  clear zg2 zn2
  have zG3 := Lib.hid zg3
  clear zg3 zn3
  have zG4 := Lib.hid zg4
  clear zg4 zn4
  have zG5 := Lib.hid zg5
  clear zg5 zn5
  simp only [List.cons_append, List.nil_append]
  go_enter Tryz.func73, Tryz.ntmps73
  go_wp2_with fail
  refine (h1 _ _ _ (G1.out.1.ext (.alloc (.alloc (.refl _) _) _)) (zG1.out.1.ext (.alloc (.alloc (.refl _) _) _))).mono ?_
  rintro e w1 ⟨rfl, hw1⟩
  have HW1 := Lib.hid hw1
  have ob1 := (Two.new w _ _ _ _).ext hw1
  have OBH := Lib.hid ob1
  have ce1 := ob1.o0.cell
  have cf1 := ob1.o1.cell
  clear hw1 ob1
  go_wp2_with fail
  refine (h2 _ _ _ (G2.out.1.ext (Ext.trans (.alloc (.alloc (.refl _) _) _) HW1.out)) (zG2.out.1.ext (Ext.trans (.alloc (.alloc (.refl _) _) _) HW1.out))).mono ?_
  rintro e w2 ⟨rfl, hw2⟩
  have HW2 := Lib.hid hw2
  have ob2 := OBH.out.ext hw2
  clear OBH ce1 cf1
  have OBH := Lib.hid ob2
  have ce2 := ob2.o0.cell
  have cf2 := ob2.o1.cell
  clear hw2 ob2
  go_wp2_with fail
  refine (h3 _ _ _ (G3.out.1.ext (Ext.trans (Ext.trans (.alloc (.alloc (.refl _) _) _) HW1.out) HW2.out)) (zG3.out.1.ext (Ext.trans (Ext.trans (.alloc (.alloc (.refl _) _) _) HW1.out) HW2.out))).mono ?_
  rintro e w3 ⟨rfl, hw3⟩
  have HW3 := Lib.hid hw3
  have ob3 := OBH.out.ext hw3
  clear OBH ce2 cf2
  have OBH := Lib.hid ob3
  have ce3 := ob3.o0.cell
  have cf3 := ob3.o1.cell
  clear hw3 ob3
  go_wp2_with fail
  refine (h4 _ _ _ (G4.out.ext (Ext.trans (Ext.trans (Ext.trans (.alloc (.alloc (.refl _) _) _) HW1.out) HW2.out) HW3.out)) (zG4.out.ext (Ext.trans (Ext.trans (Ext.trans (.alloc (.alloc (.refl _) _) _) HW1.out) HW2.out) HW3.out))).mono ?_
  rintro e w4 ⟨rfl, hw4⟩
  have HW4 := Lib.hid hw4
  have ob4 := OBH.out.ext hw4
  clear OBH ce3 cf3
  have OBH := Lib.hid ob4
  have ce4 := ob4.o0.cell
  have cf4 := ob4.o1.cell
  clear hw4 ob4
  go_wp2_with fail
  refine (h5 _ _ _ (G5.out.ext (Ext.trans (Ext.trans (Ext.trans (Ext.trans (.alloc (.alloc (.refl _) _) _) HW1.out) HW2.out) HW3.out) HW4.out)) (zG5.out.ext (Ext.trans (Ext.trans (Ext.trans (Ext.trans (.alloc (.alloc (.refl _) _) _) HW1.out) HW2.out) HW3.out) HW4.out))).mono ?_
  rintro e w5 ⟨rfl, hw5⟩
  have HW5 := Lib.hid hw5
  have ob5 := OBH.out.ext hw5
  clear OBH ce4 cf4
  have OBH := Lib.hid ob5
  have ce5 := ob5.o0.cell
  have cf5 := ob5.o1.cell
  clear hw5 ob5
  go_wp2_with fail
  go_ret
  exact ⟨rfl, (Ext.trans (Ext.trans (Ext.trans (Ext.trans (Ext.trans (.alloc (.alloc (.refl _) _) _) HW1.out) HW2.out) HW3.out) HW4.out) HW5.out)⟩

set_option maxRecDepth 100000 in
set_option maxHeartbeats 1000000 in
theorem szFunctionS_of (es : List (List Tr)) (h5 : ∀ e ∈ es, e.length = 16) (H : ∀ e ∈ es, SzC 206 e) : SzSC 182 16 es := by
  intro s left w hs h0 h1
  obtain ⟨a, cap, rfl, hl, hm⟩ := hs.shape
  unfold maxLen at hm
  have HS := Lib.hid hs
  have HH := Lib.hid H
  have H5 := Lib.hid h5
  clear hs H h5
  go_enter Tryz.func182, Tryz.ntmps182
  go_wp2_with fail
  · go_ret
    exact ⟨-1, rfl, .refl _, by omega, by omega, by omega⟩
  go_loopw [1, 5] (fun l i wr => ∃ (k : Nat) (r : Int), k ≤ es.length ∧ i = .int .i64 k ∧ l = .int .i64 r ∧ Ext w wr ∧ 0 ≤ r ∧ r + es.length + Tr.bulkAll (es.take k) ≤ left) (fun _ i _ => es.length - (intOf i).toNat)
  case atStart => exact ⟨0, _, Nat.zero_le _, rfl, rfl, .refl _, by omega, by simp [Tr.bulkAll]⟩
  case round =>
    obtain ⟨k, r, hk, rfl, rfl, hw, hr0, hrb⟩ := hrel
    by_cases hlt : k < es.length
    · obtain ⟨b, off, cs, rfl, hb, hcs, hc⟩ := (HS.out.ext hw).at2 (k := k) (List.getElem?_eq_getElem hlt)
      have hmem : es[k] ∈ es := List.getElem_mem hlt
      have l5 := H5.out _ hmem
      have hbt := Lib.hid (Tr.bulkAll_take es k hlt)
      have HCS := Lib.hid hcs
      have HC := Lib.hid hc
      have HM := Lib.hid hmem
      have HI : Hid ((Tryz.prog.info? 250).map (·.size) = some cs.length) := by rw [← hcs.length, l5]; exact isz250
      clear hcs hc hmem l5
      go_wp2_with (refine wpList_load_rep rfl 250 _ rfl b (off + k * 16) rfl cs _ Tryz.underlying250 HI.out HC.out ?_)
      refine (HH.out _ HM.out _ _ _ HCS.out hr0 (by omega)).mono ?_
      rintro e w1 ⟨r1, rfl, hw1, hr1, hr2, hr3⟩
      have HR3 := Lib.hid hr3
      have HW1 := Lib.hid hw1
      clear hr3 hw1
      go_wp2_with fail
      · go_ret
        exact ⟨-1, rfl, hw.trans HW1.out, by omega, by omega, by omega⟩
      · go_roundw
        case rel =>
          have p0 : 0 ≤ r1 := by assumption
          have e1 := HR3.out p0
          have e2 := hbt.out
          exact ⟨k + 1, r1, by omega, by go_num, rfl, hw.trans HW1.out, p0, by omega⟩
        case measure => simp [intOf]; omega
    · have hkl : k = es.length := by omega
      go_wp2_with fail
      go_ret
      refine ⟨r, rfl, hw, by omega, by omega, fun _ => ?_⟩
      rw [hkl, List.take_length] at hrb
      simp only [Tr.bulk]
      omega

set_option maxRecDepth 100000 in
set_option maxHeartbeats 1000000 in
theorem toFunctionS_of (es : List (List Tr)) (h5 : ∀ e ∈ es, e.length = 16) (H : ∀ e ∈ es, ToC 210 e) : ToSC 187 16 es := by
  intro s w hs hbk
  obtain ⟨a, cap, rfl, hl, hm⟩ := hs.shape
  unfold maxLen at hm
  have HS := Lib.hid hs
  have HH := Lib.hid H
  have H5 := Lib.hid h5
  have n0 : (0 : Int) ≤ es.length := by omega
  clear hs H h5
  go_enter Tryz.func187, Tryz.ntmps187
  go_wp2_with (refine wpList_make_rep rfl 124 (.tmp 6) rfl es.length rfl 105 Tryz.underlying124 16 280 iszb105 (by omega) (by omega) ?_; intro wm arr0 ha0 hob0 hx0 hz0; have HA0 := Lib.hid ha0; have HOB0 := Lib.hid hob0; have HX0 := Lib.hid hx0; have HZ0 := Lib.hid hz0; clear ha0 hob0 hx0 hz0)
  go_loopw [4] (fun i wr => ∃ (k : Nat) (arr : Array Value), k ≤ es.length ∧ i = .int .i64 k ∧ Ext w wr ∧ w.heap.size < wr.heap.size ∧ OB wr w.heap.size 105 arr ∧ arr.size = es.length * 16 ∧ Part wr w.heap.size arr 16 es k) (fun i _ => es.length - (intOf i).toNat)
  case atStart => exact ⟨0, arr0, Nat.zero_le _, rfl, HX0.out, by rw [HZ0.out]; omega, HOB0.out, HA0.out, Part.zero _ _ _ _ _⟩
  case round =>
    obtain ⟨k, arr, hk, rfl, hw, hgt, hob, hasz, hpart⟩ := hrel
    have HOB := Lib.hid hob
    have HAS := Lib.hid hasz
    have HP := Lib.hid hpart
    clear hob hasz hpart
    by_cases hlt : k < es.length
    · obtain ⟨b, off, cs, rfl, hb, hcs, hc⟩ := (HS.out.ext hw).at2 (k := k) (List.getElem?_eq_getElem hlt)
      have hmem : es[k] ∈ es := List.getElem_mem hlt
      have l5 := H5.out _ hmem
      have hbe := Tr.bulkAll_le hlt
      have HCS := Lib.hid hcs
      have HC := Lib.hid hc
      have HM := Lib.hid hmem
      have HL5 := Lib.hid l5
      have HI : Hid ((Tryz.prog.info? 250).map (·.size) = some cs.length) := by rw [← hcs.length, l5]; exact isz250
      clear hcs hc hmem l5
      go_wp2_with (refine wpList_load_rep rfl 250 (.tmp 18) rfl b (off + k * 16) rfl cs _ Tryz.underlying250 HI.out HC.out ?_)
      refine (HH.out _ HM.out _ _ HCS.out (by omega)).mono ?_
      rintro e w1 ⟨cs1, rfl, hw1, ho1⟩
      have HW1 := Lib.hid hw1
      have HO1 := Lib.hid ho1
      have hcl : cs1.length = 16 := ho1.1.trans HL5.out
      have HCL := Lib.hid hcl
      have hfit : 0 + k * 16 + cs1.length ≤ arr.size := by have := HAS.out; omega
      have HF := Lib.hid hfit
      clear hw1 ho1 hcl hfit
      go_wp2_with (refine wpList_store_rep rfl 105 (.tmp 21) (.tmp 20) rfl w.heap.size (k * 16) rfl cs1 rfl 105 arr (HOB.out.ext HW1.out) (by rw [HCL.out]; exact isz105) (by have := HF.out; omega) (HO1.out.rep.one) ?_; intro w2 hob2 hg2 hz2; have HOB2 := Lib.hid hob2; have HG2 := Lib.hid hg2; have HZ2 := Lib.hid hz2; clear hob2 hg2 hz2)
      go_roundw
      case rel =>
        have hfit : k * 16 + cs1.length ≤ arr.size := by have := HF.out; omega
        refine ⟨k + 1, _, by omega, by go_num, ?_, ?_, HOB2.out, by rw [splice_size hfit]; exact HAS.out, HP.out.step hgt HW1.out (List.getElem?_eq_getElem hlt) HO1.out HCL.out HAS.out HG2.out HOB2.out⟩
        · exact grown_ext (hw.trans HW1.out) HG2.out (Nat.le_refl _)
        · have := HW1.out.size
          have := HZ2.out
          omega
      case measure => simp [intOf]; omega
    · have hkl : k = es.length := by omega
      go_wp2_with fail
      go_ret
      subst hkl
      exact ⟨_, rfl, hw, (HP.out.done HOB.out H5.out (Nat.le_refl _) (by unfold maxLen; omega) (Nat.le_refl _)).mono fun x hx => ⟨hx.1, hx.2⟩⟩

set_option maxRecDepth 100000 in
set_option maxHeartbeats 1000000 in
theorem eqFunctionS_of (es : List (List Tr)) (h5 : ∀ e ∈ es, e.length = 16) (H : ∀ e ∈ es, EqC 73 e) : EqSC 191 16 es := by
  intro s u w hs hu
  obtain ⟨a, cap, rfl, hl, hm⟩ := hs.shape
  obtain ⟨a', cap', rfl, hl', hm'⟩ := hu.shape
  unfold maxLen at hm hm'
  have HS := Lib.hid hs
  have HU := Lib.hid hu
  have HH := Lib.hid H
  have H5 := Lib.hid h5
  clear hs hu H h5
  go_enter Tryz.func191, Tryz.ntmps191
  go_wp2_with fail
  go_loopw [5] (fun i wr => ∃ k : Nat, k ≤ es.length ∧ i = .int .i64 k ∧ Ext w wr) (fun i _ => es.length - (intOf i).toNat)
  case atStart => exact ⟨0, Nat.zero_le _, rfl, .refl _⟩
  case round =>
    obtain ⟨k, hk, rfl, hw⟩ := hrel
    by_cases hlt : k < es.length
    · obtain ⟨b, off, cs, rfl, hb, hcs, hc⟩ := (HS.out.ext hw).at2 (k := k) (List.getElem?_eq_getElem hlt)
      obtain ⟨b', off', ds, rfl, hb', hds, hd⟩ := (HU.out.ext hw).at2 (k := k) (List.getElem?_eq_getElem hlt)
      have hmem : es[k] ∈ es := List.getElem_mem hlt
      have l5 := H5.out _ hmem
      have HCS := Lib.hid hcs
      have HDS := Lib.hid hds
      have HM := Lib.hid hmem
      have HC := Lib.hid hc
      have HD := Lib.hid hd
      have HI : Hid ((Tryz.prog.info? 105).map (·.size) = some cs.length) := by rw [← hcs.length, l5]; exact isz105
      have HJ : Hid ((Tryz.prog.info? 105).map (·.size) = some ds.length) := by rw [← hds.length, l5]; exact isz105
      clear hcs hds hc hd l5 hmem
      go_wp2_with fail
      have ki : (k : Int) < (es.length : Int) := by omega
      have k0 : (0 : Int) ≤ (k : Int) := by omega
      refine wp_region_still_tail 8 (by kernel_rfl) (by kernel_rfl) ?_
      simp only [List.take_succ_cons, List.take_zero, List.drop_succ_cons, List.drop_zero]
      change wpStill _ _ wr.drew _ _ _
      repeat (first
        | (refine wpStill_load_rep rfl 105 (.tmp 19) rfl b (off + k * 16) rfl cs _ Tryz.underlying105 HI.out HC.out ?_; simp only [Act.put])
        | (refine wpStill_load_rep rfl 105 (.tmp 23) rfl b' (off' + k * 16) rfl ds _ Tryz.underlying105 HJ.out HD.out ?_; simp only [Act.put])
        | still_step)
      refine wpStill_nil ?_
      change wpList _ _ _ _ _ wr.drew
      go_wp2_with fail
      refine (HH.out _ HM.out _ _ _ (HCS.out.ext (.drew (.refl _))) (HDS.out.ext (.drew (.refl _)))).mono ?_
      rintro e w1 ⟨rfl, hw1⟩
      have HW1 := Lib.hid hw1
      clear hw1
      go_wp2_with fail
      go_roundw
      case rel => exact ⟨k + 1, by omega, by go_num, hw.trans (.trans (.drew (.refl _)) HW1.out)⟩
      case measure => simp [intOf]; omega
    · go_wp2_with fail
      go_ret
      exact ⟨rfl, hw⟩

end Go.Proofs.YtnakkelglbcecaaGreat
