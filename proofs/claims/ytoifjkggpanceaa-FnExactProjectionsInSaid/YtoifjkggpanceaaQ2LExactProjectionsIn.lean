/- Words, rules and walks of several kinds, laid together: BCache, BExpr, BArm, BMethod, BInstance, BLeaf, BAll, Reg, Mark, Foc, Marks. No conditions but those that each theorem states. -/
import Derived.Test.YtoifjkggpanceaaProg
import Derived.Test.YtoifjkggpanceaaQ1LExactProjectionsIn
import Derived.BigQuiet
import Derived.Deep.QuietTactic
import Derived.Deep.RegionHeld3
import Derived.Laws.IdiomStrings
import Derived.WalkArith
set_option linter.unusedSimpArgs false
set_option linter.unusedVariables false
namespace Go.Proofs.Ytoifjkggpanceaa
open Go.RowKit Go.Proofs

set_option maxRecDepth 100000 in
set_option maxHeartbeats 1000000 in
theorem szCache_of (es0 : List (List Tr)) (es1 : List (List Tr)) (es2 : List (List Tr)) (h0 : SzSC 132 4 es0) (h1 : SzSC 133 1 es1) (h2 : SzSC 89 5 es2) : SzC 60 ([.row 4 es0] ++ ([.row 1 es1] ++ ([.row 5 es2] ++ ([])))) := by
  intro cs left w hr hl0 hl1
  obtain ⟨b0, r0, rfl, g0, n0⟩ := RepL.split hr
  obtain ⟨y0, rfl⟩ := list1 g0.length.symm
  obtain ⟨a0, c0, rfl, -, -⟩ := g0.1.shape
  obtain ⟨b1, r1, rfl, g1, n1⟩ := RepL.split n0
  obtain ⟨y1, rfl⟩ := list1 g1.length.symm
  obtain ⟨a1, c1, rfl, -, -⟩ := g1.1.shape
  obtain ⟨b2, r2, rfl, g2, n2⟩ := RepL.split n1
  obtain ⟨y2, rfl⟩ := list1 g2.length.symm
  obtain ⟨a2, c2, rfl, -, -⟩ := g2.1.shape
  obtain rfl := RepL.nil_eq n2
  clear hr
  have G0 := Lib.hid g0
  clear g0 n0
  have G1 := Lib.hid g1
  clear g1 n1
  have G2 := Lib.hid g2
  clear g2 n2
  simp only [List.cons_append, List.nil_append]
  go_enter Try.func60, Try.ntmps60
  go_wp2_with fail
  refine (h0 _ _ _ (G0.out.1.ext (.alloc (.refl _) _)) (by omega) (by omega)).mono ?_
  rintro e w0 ⟨r0, rfl, hw0, ra0, rb0, rc0⟩
  have HW0 := Lib.hid hw0
  have HR0 := Lib.hid rc0
  have ob0 := (OB.new w _ _).ext hw0
  have OBH := Lib.hid ob0
  have ce0 := ob0.cell
  clear hw0 rc0 ob0
  go_wp2_with fail
  · go_ret
    exact ⟨-1, rfl, (Ext.trans (.alloc (.refl _) _) HW0.out), by omega, by omega, by omega⟩
  refine (h1 _ _ _ (G1.out.1.ext (Ext.trans (.alloc (.refl _) _) HW0.out)) (by omega) (by omega)).mono ?_
  rintro e w1 ⟨r1, rfl, hw1, ra1, rb1, rc1⟩
  have HW1 := Lib.hid hw1
  have HR1 := Lib.hid rc1
  have ob1 := OBH.out.ext hw1
  clear OBH ce0
  have OBH := Lib.hid ob1
  have ce1 := ob1.cell
  clear hw1 rc1 ob1
  go_wp2_with fail
  · go_ret
    exact ⟨-1, rfl, (Ext.trans (Ext.trans (.alloc (.refl _) _) HW0.out) HW1.out), by omega, by omega, by omega⟩
  refine (h2 _ _ _ (G2.out.1.ext (Ext.trans (Ext.trans (.alloc (.refl _) _) HW0.out) HW1.out)) (by omega) (by omega)).mono ?_
  rintro e w2 ⟨r2, rfl, hw2, ra2, rb2, rc2⟩
  have HW2 := Lib.hid hw2
  have HR2 := Lib.hid rc2
  have ob2 := OBH.out.ext hw2
  clear OBH ce1
  have OBH := Lib.hid ob2
  have ce2 := ob2.cell
  clear hw2 rc2 ob2
  go_wp2_with fail
  · go_ret
    exact ⟨-1, rfl, (Ext.trans (Ext.trans (Ext.trans (.alloc (.refl _) _) HW0.out) HW1.out) HW2.out), by omega, by omega, by omega⟩
  go_ret
  refine ⟨_, rfl, (Ext.trans (Ext.trans (Ext.trans (.alloc (.refl _) _) HW0.out) HW1.out) HW2.out), by omega, by omega, fun hp => ?_⟩
  have e0 := HR0.out (by omega)
  have e1 := HR1.out (by omega)
  have e2 := HR2.out (by omega)
  simp only [Tr.bulkL_append, Tr.bulkL, Tr.bulk]
  simp only [Tr.bulk] at e0 e1 e2
  omega

set_option maxRecDepth 100000 in
set_option maxHeartbeats 1000000 in
theorem toCache_of (es0 : List (List Tr)) (es1 : List (List Tr)) (es2 : List (List Tr)) (h0 : ToSC 134 4 es0) (h1 : ToSC 26 1 es1) (h2 : ToSC 92 5 es2) : ToC 62 ([.row 4 es0] ++ ([.row 1 es1] ++ ([.row 5 es2] ++ ([])))) := by
  intro cs w hr hbk
  simp only [Tr.bulkL_append, Tr.bulkL, Tr.bulk] at hbk
  obtain ⟨b0, r0, rfl, g0, n0⟩ := RepL.split hr
  obtain ⟨y0, rfl⟩ := list1 g0.length.symm
  obtain ⟨a0, c0, rfl, -, -⟩ := g0.1.shape
  obtain ⟨b1, r1, rfl, g1, n1⟩ := RepL.split n0
  obtain ⟨y1, rfl⟩ := list1 g1.length.symm
  obtain ⟨a1, c1, rfl, -, -⟩ := g1.1.shape
  obtain ⟨b2, r2, rfl, g2, n2⟩ := RepL.split n1
  obtain ⟨y2, rfl⟩ := list1 g2.length.symm
  obtain ⟨a2, c2, rfl, -, -⟩ := g2.1.shape
  obtain rfl := RepL.nil_eq n2
  clear hr
  have G0 := Lib.hid g0
  clear g0 n0
  have G1 := Lib.hid g1
  clear g1 n1
  have G2 := Lib.hid g2
  clear g2 n2
  simp only [List.cons_append, List.nil_append]
  go_enter Try.func62, Try.ntmps62
  go_wp2_with fail
  refine (h0 _ _ (G0.out.1.ext (.alloc (.alloc (.alloc (.refl _) _) _) _)) (by omega)).mono ?_
  rintro e w0 ⟨d0, rfl, hw0, ho0⟩
  obtain ⟨da0, dc0, rfl, -, -⟩ := ho0.rep.shape
  have HW0 := Lib.hid hw0
  have HO0 := Lib.hid ho0
  have ob0 := (Three.new w _ _ _ _ _ _).ext hw0
  have OBHw0 := Lib.hid ob0
  have cew0 := ob0.o0.cell
  have hzw0 : w.heap.size < w0.heap.size := ob0.o0.lt
  clear hw0 ob0 ho0
  go_wp2_with (first
    | (refine wpList_store_cell rfl 86 _ _ rfl (w.heap.size + 1 + 1) 0 rfl (.slice da0 es0.length dc0) rfl rfl 104 _ OBHw0.out.o2 isz86 (by simp [splice]) rfl ?_; intro u0 hou0 hgu0 hzu0; have OBHu0 := Lib.hid (OBHw0.out.grown hgu0 hou0 (by omega) (by omega)); have HGu0 := Lib.hid hgu0; have ceu0 := OBHu0.out.o0.cell; have hqu0 : w.heap.size < u0.heap.size := OBHu0.out.o0.lt; clear hou0 hgu0 hzu0 OBHw0 cew0))
  refine (h1 _ _ (G1.out.1.ext (grown_ext (Ext.trans (.alloc (.alloc (.alloc (.refl _) _) _) _) HW0.out) HGu0.out (by omega))) (by omega)).mono ?_
  rintro e w1 ⟨d1, rfl, hw1, ho1⟩
  obtain ⟨da1, dc1, rfl, -, -⟩ := ho1.rep.shape
  have HW1 := Lib.hid hw1
  have HO1 := Lib.hid ho1
  have ob1 := OBHu0.out.ext hw1
  clear OBHu0 ceu0
  have OBHw1 := Lib.hid ob1
  have cew1 := ob1.o0.cell
  have hzw1 : w.heap.size < w1.heap.size := ob1.o0.lt
  clear hw1 ob1 ho1
  go_wp2_with (first
    | (refine wpList_store_cell rfl 45 _ _ rfl (w.heap.size + 1 + 1) 1 rfl (.slice da1 es1.length dc1) rfl rfl 104 _ OBHw1.out.o2 isz45 (by simp [splice]) rfl ?_; intro u1 hou1 hgu1 hzu1; have OBHu1 := Lib.hid (OBHw1.out.grown hgu1 hou1 (by omega) (by omega)); have HGu1 := Lib.hid hgu1; have ceu1 := OBHu1.out.o0.cell; have hqu1 : w.heap.size < u1.heap.size := OBHu1.out.o0.lt; clear hou1 hgu1 hzu1 OBHw1 cew1))
  refine (h2 _ _ (G2.out.1.ext (grown_ext (Ext.trans (grown_ext (Ext.trans (.alloc (.alloc (.alloc (.refl _) _) _) _) HW0.out) HGu0.out (by omega)) HW1.out) HGu1.out (by omega))) (by omega)).mono ?_
  rintro e w2 ⟨d2, rfl, hw2, ho2⟩
  obtain ⟨da2, dc2, rfl, -, -⟩ := ho2.rep.shape
  have HW2 := Lib.hid hw2
  have HO2 := Lib.hid ho2
  have ob2 := OBHu1.out.ext hw2
  clear OBHu1 ceu1
  have OBHw2 := Lib.hid ob2
  have cew2 := ob2.o0.cell
  have hzw2 : w.heap.size < w2.heap.size := ob2.o0.lt
  clear hw2 ob2 ho2
  have hone : Hid (∀ v ∈ ([.slice da0 es0.length dc0, .slice da1 es1.length dc1, .slice da2 es2.length dc2] : List Value), v.oneCell' = true) := by
    intro v hv
    simp only [List.mem_cons, List.not_mem_nil, or_false] at hv
    rcases hv with rfl | rfl | rfl <;> first | rfl
  go_wp2_with (first
    | (refine wpList_store_cell rfl 48 _ _ rfl (w.heap.size + 1 + 1) 2 rfl (.slice da2 es2.length dc2) rfl rfl 104 _ OBHw2.out.o2 isz48 (by simp [splice]) rfl ?_; intro u2 hou2 hgu2 hzu2; have OBHu2 := Lib.hid (OBHw2.out.grown hgu2 hou2 (by omega) (by omega)); have HGu2 := Lib.hid hgu2; have ceu2 := OBHu2.out.o0.cell; have hqu2 : w.heap.size < u2.heap.size := OBHu2.out.o0.lt; clear hou2 hgu2 hzu2 OBHw2 cew2)
    | (refine wpList_load_rep rfl 104 _ rfl (w.heap.size + 1 + 1) 0 rfl [.slice da0 es0.length dc0, .slice da1 es1.length dc1, .slice da2 es2.length dc2] _ Try.underlying104 isz104 (fun j v hv => by rw [OBHu2.out.o2.cell, Nat.zero_add]; simpa [splice] using hv) ?_)
    | (refine wpList_store_rep rfl 104 _ _ rfl (w.heap.size + 1) 0 rfl [.slice da0 es0.length dc0, .slice da1 es1.length dc1, .slice da2 es2.length dc2] rfl 104 _ OBHu2.out.o1 isz104 (by simp) hone.out ?_; intro wz hoz hgz hzz; have HOZ := Lib.hid hoz; have HGZ := Lib.hid hgz; clear hoz hgz hzz))
  have HOF : OB wz (w.heap.size + 1) 104 ⟨[.slice da0 es0.length dc0, .slice da1 es1.length dc1, .slice da2 es2.length dc2]⟩ := HOZ.out
  refine bodyPost_ret (results_cell_row Try.results62 _ _ (w.heap.size + 1) 104 ⟨[.slice da0 es0.length dc0, .slice da1 es1.length dc1, .slice da2 es2.length dc2]⟩ _ _ rfl HOF Try.underlying104 rfl isz104) rfl ⟨[.slice da0 es0.length dc0, .slice da1 es1.length dc1, .slice da2 es2.length dc2], rfl, (grown_ext (grown_ext (Ext.trans (grown_ext (Ext.trans (grown_ext (Ext.trans (.alloc (.alloc (.alloc (.refl _) _) _) _) HW0.out) HGu0.out (by omega)) HW1.out) HGu1.out (by omega)) HW2.out) HGu2.out (by omega)) HGZ.out (by omega)), ?_⟩
  have sw0 := HW0.out.size
  have su0 := HGu0.out.size
  have sw1 := HW1.out.size
  have su1 := HGu1.out.size
  have sw2 := HW2.out.size
  have su2 := HGu2.out.size
  have swz := HGZ.out.size
  simp only [World.size_alloc] at sw0
  have ow0 := HO0.out.keeps (lo := w.heap.size + 1 + 1 + 1) (Keeps.trans (Keeps.of_grown HGu0.out (by omega)) (Keeps.trans (Keeps.of_ext HW1.out) (Keeps.trans (Keeps.of_grown HGu1.out (by omega)) (Keeps.trans (Keeps.of_ext HW2.out) (Keeps.trans (Keeps.of_grown HGu2.out (by omega)) (Keeps.of_grown HGZ.out (by omega))))))) (by intro x hx; simp only [Between, World.size_alloc] at hx; omega)
  have ow1 := HO1.out.keeps (lo := w.heap.size + 1 + 1 + 1) (Keeps.trans (Keeps.of_grown HGu1.out (by omega)) (Keeps.trans (Keeps.of_ext HW2.out) (Keeps.trans (Keeps.of_grown HGu2.out (by omega)) (Keeps.of_grown HGZ.out (by omega))))) (by intro x hx; simp only [Between, World.size_alloc] at hx; omega)
  have ow2 := HO2.out.keeps (lo := w.heap.size + 1 + 1 + 1) (Keeps.trans (Keeps.of_grown HGu2.out (by omega)) (Keeps.of_grown HGZ.out (by omega))) (by intro x hx; simp only [Between, World.size_alloc] at hx; omega)
  have hall := OwnL.append (OwnL.one ow0) (OwnL.append (OwnL.one ow1) (OwnL.append (OwnL.one ow2) (OwnL.nil wz (fun _ => False)) (by intro x hx hy; simp only [Between, World.size_alloc, or_false] at hx hy <;> omega)) (by intro x hx hy; simp only [Between, World.size_alloc, or_false] at hx hy <;> omega)) (by intro x hx hy; simp only [Between, World.size_alloc, or_false] at hx hy <;> omega)
  exact hall.mono (by intro x hx; simp only [Between, World.size_alloc, or_false] at hx ⊢; omega)

set_option maxRecDepth 100000 in
set_option maxHeartbeats 1000000 in
theorem eqCache_of (es0 : List (List Tr)) (es1 : List (List Tr)) (es2 : List (List Tr)) (h0 : EqSC 51 4 es0) (h1 : EqSC 29 1 es1) (h2 : EqSC 95 5 es2) : EqC 64 ([.row 4 es0] ++ ([.row 1 es1] ++ ([.row 5 es2] ++ ([])))) := by
  intro cs ds w hr hr'
  obtain ⟨b0, r0, rfl, g0, n0⟩ := RepL.split hr
  obtain ⟨y0, rfl⟩ := list1 g0.length.symm
  obtain ⟨a0, c0, rfl, -, -⟩ := g0.1.shape
  obtain ⟨b1, r1, rfl, g1, n1⟩ := RepL.split n0
  obtain ⟨y1, rfl⟩ := list1 g1.length.symm
  obtain ⟨a1, c1, rfl, -, -⟩ := g1.1.shape
  obtain ⟨b2, r2, rfl, g2, n2⟩ := RepL.split n1
  obtain ⟨y2, rfl⟩ := list1 g2.length.symm
  obtain ⟨a2, c2, rfl, -, -⟩ := g2.1.shape
  obtain rfl := RepL.nil_eq n2
  clear hr
  obtain ⟨zb0, zr0, rfl, zg0, zn0⟩ := RepL.split hr'
  obtain ⟨zy0, rfl⟩ := list1 zg0.length.symm
  obtain ⟨za0, zc0, rfl, -, -⟩ := zg0.1.shape
  obtain ⟨zb1, zr1, rfl, zg1, zn1⟩ := RepL.split zn0
  obtain ⟨zy1, rfl⟩ := list1 zg1.length.symm
  obtain ⟨za1, zc1, rfl, -, -⟩ := zg1.1.shape
  obtain ⟨zb2, zr2, rfl, zg2, zn2⟩ := RepL.split zn1
  obtain ⟨zy2, rfl⟩ := list1 zg2.length.symm
  obtain ⟨za2, zc2, rfl, -, -⟩ := zg2.1.shape
  obtain rfl := RepL.nil_eq zn2
  clear hr'
  have G0 := Lib.hid g0
  clear g0 n0
  have G1 := Lib.hid g1
  clear g1 n1
  have G2 := Lib.hid g2
  clear g2 n2
  have zG0 := Lib.hid zg0
  clear zg0 zn0
  have zG1 := Lib.hid zg1
  clear zg1 zn1
  have zG2 := Lib.hid zg2
  clear zg2 zn2
  simp only [List.cons_append, List.nil_append]
  go_enter Try.func64, Try.ntmps64
  go_wp2_with fail
  refine (h0 _ _ _ (G0.out.1.ext (.alloc (.alloc (.refl _) _) _)) (zG0.out.1.ext (.alloc (.alloc (.refl _) _) _))).mono ?_
  rintro e w0 ⟨rfl, hw0⟩
  have HW0 := Lib.hid hw0
  have ob0 := (Two.new w _ _ _ _).ext hw0
  have OBH := Lib.hid ob0
  have ce0 := ob0.o0.cell
  have cf0 := ob0.o1.cell
  clear hw0 ob0
  go_wp2_with fail
  refine (h1 _ _ _ (G1.out.1.ext (Ext.trans (.alloc (.alloc (.refl _) _) _) HW0.out)) (zG1.out.1.ext (Ext.trans (.alloc (.alloc (.refl _) _) _) HW0.out))).mono ?_
  rintro e w1 ⟨rfl, hw1⟩
  have HW1 := Lib.hid hw1
  have ob1 := OBH.out.ext hw1
  clear OBH ce0 cf0
  have OBH := Lib.hid ob1
  have ce1 := ob1.o0.cell
  have cf1 := ob1.o1.cell
  clear hw1 ob1
  go_wp2_with fail
  refine (h2 _ _ _ (G2.out.1.ext (Ext.trans (Ext.trans (.alloc (.alloc (.refl _) _) _) HW0.out) HW1.out)) (zG2.out.1.ext (Ext.trans (Ext.trans (.alloc (.alloc (.refl _) _) _) HW0.out) HW1.out))).mono ?_
  rintro e w2 ⟨rfl, hw2⟩
  have HW2 := Lib.hid hw2
  have ob2 := OBH.out.ext hw2
  clear OBH ce1 cf1
  have OBH := Lib.hid ob2
  have ce2 := ob2.o0.cell
  have cf2 := ob2.o1.cell
  clear hw2 ob2
  go_wp2_with fail
  go_ret
  exact ⟨rfl, (Ext.trans (Ext.trans (Ext.trans (.alloc (.alloc (.refl _) _) _) HW0.out) HW1.out) HW2.out)⟩

end Go.Proofs.Ytoifjkggpanceaa

namespace Go.Proofs.Ytoifjkggpanceaa
open Go.RowKit Go.Proofs

set_option maxRecDepth 100000 in
set_option maxHeartbeats 1000000 in
theorem szExpr_of (v0 : Int) (v1 : ByteArray) (v2 : ByteArray) (v3 : Int) (ts4 : List Tr) (l4 : ts4.length = 3) (es5 : List (List Tr)) (es6 : List (List Tr)) (h4 : SzC 16 ts4) (h5 : SzSC 246 9 es5) (h6 : SzSC 247 11 es6) : SzC 227 ([.leaf (.int .i64 v0)] ++ ([.leaf (.string v1)] ++ ([.leaf (.string v2)] ++ ([.leaf (.int .i64 v3)] ++ (ts4 ++ ([.row 9 es5] ++ ([.row 11 es6] ++ ([])))))))) := by
  intro cs left w hr hl0 hl1
  obtain ⟨b0, r0, rfl, g0, n0⟩ := RepL.split hr
  obtain ⟨y0, rfl⟩ := list1 g0.length.symm
  obtain ⟨rfl, k0⟩ := g0.1.leaf_eq
  obtain ⟨b1, r1, rfl, g1, n1⟩ := RepL.split n0
  obtain ⟨y1, rfl⟩ := list1 g1.length.symm
  obtain ⟨rfl, k1⟩ := g1.1.leaf_eq
  obtain ⟨b2, r2, rfl, g2, n2⟩ := RepL.split n1
  obtain ⟨y2, rfl⟩ := list1 g2.length.symm
  obtain ⟨rfl, k2⟩ := g2.1.leaf_eq
  obtain ⟨b3, r3, rfl, g3, n3⟩ := RepL.split n2
  obtain ⟨y3, rfl⟩ := list1 g3.length.symm
  obtain ⟨rfl, k3⟩ := g3.1.leaf_eq
  obtain ⟨b4, r4, rfl, g4, n4⟩ := RepL.split n3
  obtain ⟨x4_0, x4_1, x4_2, rfl⟩ := list3 (g4.length.symm.trans l4)
  obtain ⟨b5, r5, rfl, g5, n5⟩ := RepL.split n4
  obtain ⟨y5, rfl⟩ := list1 g5.length.symm
  obtain ⟨a5, c5, rfl, -, -⟩ := g5.1.shape
  obtain ⟨b6, r6, rfl, g6, n6⟩ := RepL.split n5
  obtain ⟨y6, rfl⟩ := list1 g6.length.symm
  obtain ⟨a6, c6, rfl, -, -⟩ := g6.1.shape
  obtain rfl := RepL.nil_eq n6
  clear hr
  have q1 : v1.size ≤ 9223372036854775807 := by have := k1; simp only [LeafOk, maxLen] at this; omega
  have q2 : v2.size ≤ 9223372036854775807 := by have := k2; simp only [LeafOk, maxLen] at this; omega
  have G0 := Lib.hid g0
  have K0 := Lib.hid k0
  clear g0 n0 k0
  have G1 := Lib.hid g1
  have K1 := Lib.hid k1
  clear g1 n1 k1
  have G2 := Lib.hid g2
  have K2 := Lib.hid k2
  clear g2 n2 k2
  have G3 := Lib.hid g3
  have K3 := Lib.hid k3
  clear g3 n3 k3
  have G4 := Lib.hid g4
  clear g4 n4
  have G5 := Lib.hid g5
  clear g5 n5
  have G6 := Lib.hid g6
  clear g6 n6
  simp only [List.cons_append, List.nil_append]
  go_enter Try.func227, Try.ntmps227
  go_wp2_with fail
  · go_ret
    exact ⟨-1, rfl, (.alloc (.refl _) _), by omega, by omega, by omega⟩
  · go_ret
    exact ⟨-1, rfl, (.alloc (.refl _) _), by omega, by omega, by omega⟩
  refine (h4 _ _ _ (G4.out.ext (.alloc (.refl _) _)) (by omega) (by omega)).mono ?_
  rintro e w4 ⟨r4, rfl, hw4, ra4, rb4, rc4⟩
  have HW4 := Lib.hid hw4
  have HR4 := Lib.hid rc4
  have ob4 := (OB.new w _ _).ext hw4
  have OBH := Lib.hid ob4
  have ce4 := ob4.cell
  clear hw4 rc4 ob4
  go_wp2_with fail
  · go_ret
    exact ⟨-1, rfl, (Ext.trans (.alloc (.refl _) _) HW4.out), by omega, by omega, by omega⟩
  refine (h5 _ _ _ (G5.out.1.ext (Ext.trans (.alloc (.refl _) _) HW4.out)) (by omega) (by omega)).mono ?_
  rintro e w5 ⟨r5, rfl, hw5, ra5, rb5, rc5⟩
  have HW5 := Lib.hid hw5
  have HR5 := Lib.hid rc5
  have ob5 := OBH.out.ext hw5
  clear OBH ce4
  have OBH := Lib.hid ob5
  have ce5 := ob5.cell
  clear hw5 rc5 ob5
  go_wp2_with fail
  · go_ret
    exact ⟨-1, rfl, (Ext.trans (Ext.trans (.alloc (.refl _) _) HW4.out) HW5.out), by omega, by omega, by omega⟩
  refine (h6 _ _ _ (G6.out.1.ext (Ext.trans (Ext.trans (.alloc (.refl _) _) HW4.out) HW5.out)) (by omega) (by omega)).mono ?_
  rintro e w6 ⟨r6, rfl, hw6, ra6, rb6, rc6⟩
  have HW6 := Lib.hid hw6
  have HR6 := Lib.hid rc6
  have ob6 := OBH.out.ext hw6
  clear OBH ce5
  have OBH := Lib.hid ob6
  have ce6 := ob6.cell
  clear hw6 rc6 ob6
  go_wp2_with fail
  · go_ret
    exact ⟨-1, rfl, (Ext.trans (Ext.trans (Ext.trans (.alloc (.refl _) _) HW4.out) HW5.out) HW6.out), by omega, by omega, by omega⟩
  go_ret
  refine ⟨_, rfl, (Ext.trans (Ext.trans (Ext.trans (.alloc (.refl _) _) HW4.out) HW5.out) HW6.out), by omega, by omega, fun hp => ?_⟩
  have e4 := HR4.out (by omega)
  have e5 := HR5.out (by omega)
  have e6 := HR6.out (by omega)
  simp only [Tr.bulkL_append, Tr.bulkL, Tr.bulk]
  simp only [Tr.bulk] at e5 e6
  omega

set_option maxRecDepth 100000 in
set_option maxHeartbeats 1000000 in
theorem toExpr_of (v0 : Int) (v1 : ByteArray) (v2 : ByteArray) (v3 : Int) (ts4 : List Tr) (l4 : ts4.length = 3) (es5 : List (List Tr)) (es6 : List (List Tr)) (h4 : ToC 19 ts4) (h5 : ToSC 248 9 es5) (h6 : ToSC 249 11 es6) : ToC 228 ([.leaf (.int .i64 v0)] ++ ([.leaf (.string v1)] ++ ([.leaf (.string v2)] ++ ([.leaf (.int .i64 v3)] ++ (ts4 ++ ([.row 9 es5] ++ ([.row 11 es6] ++ ([])))))))) := by
  intro cs w hr hbk
  simp only [Tr.bulkL_append, Tr.bulkL, Tr.bulk] at hbk
  obtain ⟨b0, r0, rfl, g0, n0⟩ := RepL.split hr
  obtain ⟨y0, rfl⟩ := list1 g0.length.symm
  obtain ⟨rfl, k0⟩ := g0.1.leaf_eq
  obtain ⟨b1, r1, rfl, g1, n1⟩ := RepL.split n0
  obtain ⟨y1, rfl⟩ := list1 g1.length.symm
  obtain ⟨rfl, k1⟩ := g1.1.leaf_eq
  obtain ⟨b2, r2, rfl, g2, n2⟩ := RepL.split n1
  obtain ⟨y2, rfl⟩ := list1 g2.length.symm
  obtain ⟨rfl, k2⟩ := g2.1.leaf_eq
  obtain ⟨b3, r3, rfl, g3, n3⟩ := RepL.split n2
  obtain ⟨y3, rfl⟩ := list1 g3.length.symm
  obtain ⟨rfl, k3⟩ := g3.1.leaf_eq
  obtain ⟨b4, r4, rfl, g4, n4⟩ := RepL.split n3
  obtain ⟨x4_0, x4_1, x4_2, rfl⟩ := list3 (g4.length.symm.trans l4)
  obtain ⟨b5, r5, rfl, g5, n5⟩ := RepL.split n4
  obtain ⟨y5, rfl⟩ := list1 g5.length.symm
  obtain ⟨a5, c5, rfl, -, -⟩ := g5.1.shape
  obtain ⟨b6, r6, rfl, g6, n6⟩ := RepL.split n5
  obtain ⟨y6, rfl⟩ := list1 g6.length.symm
  obtain ⟨a6, c6, rfl, -, -⟩ := g6.1.shape
  obtain rfl := RepL.nil_eq n6
  clear hr
  have G0 := Lib.hid g0
  have K0 := Lib.hid k0
  clear g0 n0 k0
  have G1 := Lib.hid g1
  have K1 := Lib.hid k1
  clear g1 n1 k1
  have G2 := Lib.hid g2
  have K2 := Lib.hid k2
  clear g2 n2 k2
  have G3 := Lib.hid g3
  have K3 := Lib.hid k3
  clear g3 n3 k3
  have G4 := Lib.hid g4
  clear g4 n4
  have G5 := Lib.hid g5
  clear g5 n5
  have G6 := Lib.hid g6
  clear g6 n6
  simp only [List.cons_append, List.nil_append]
  go_enter Try.func228, Try.ntmps228
  go_wp2_with fail
  refine (h4 _ _ (G4.out.ext (.alloc (.alloc (.alloc (.refl _) _) _) _)) (by omega)).mono ?_
  rintro e w4 ⟨d4, rfl, hw4, ho4⟩
  obtain ⟨d4_0, d4_1, d4_2, rfl⟩ := list3 (ho4.1.trans l4)
  have HW4 := Lib.hid hw4
  have HO4 := Lib.hid ho4
  have ob4 := (Three.new w _ _ _ _ _ _).ext hw4
  have OBHw4 := Lib.hid ob4
  have cew4 := ob4.o0.cell
  have hzw4 : w.heap.size < w4.heap.size := ob4.o0.lt
  clear hw4 ob4 ho4
  go_wp2_with (first
    | (refine wpList_store_rep rfl 32 _ _ rfl (w.heap.size + 1 + 1) 4 rfl [d4_0, d4_1, d4_2] rfl 212 _ OBHw4.out.o2 isz32 (by simp [splice]) HO4.out.rep.one ?_; intro u4 hou4 hgu4 hzu4; have OBHu4 := Lib.hid (OBHw4.out.grown hgu4 hou4 (by omega) (by omega)); have HGu4 := Lib.hid hgu4; have ceu4 := OBHu4.out.o0.cell; have hqu4 : w.heap.size < u4.heap.size := OBHu4.out.o0.lt; clear hou4 hgu4 hzu4 OBHw4 cew4))
  refine (h5 _ _ (G5.out.1.ext (grown_ext (Ext.trans (.alloc (.alloc (.alloc (.refl _) _) _) _) HW4.out) HGu4.out (by omega))) (by omega)).mono ?_
  rintro e w5 ⟨d5, rfl, hw5, ho5⟩
  obtain ⟨da5, dc5, rfl, -, -⟩ := ho5.rep.shape
  have HW5 := Lib.hid hw5
  have HO5 := Lib.hid ho5
  have ob5 := OBHu4.out.ext hw5
  clear OBHu4 ceu4
  have OBHw5 := Lib.hid ob5
  have cew5 := ob5.o0.cell
  have hzw5 : w.heap.size < w5.heap.size := ob5.o0.lt
  clear hw5 ob5 ho5
  go_wp2_with (first
    | (refine wpList_store_cell rfl 209 _ _ rfl (w.heap.size + 1 + 1) 7 rfl (.slice da5 es5.length dc5) rfl rfl 212 _ OBHw5.out.o2 isz209 (by simp [splice]) rfl ?_; intro u5 hou5 hgu5 hzu5; have OBHu5 := Lib.hid (OBHw5.out.grown hgu5 hou5 (by omega) (by omega)); have HGu5 := Lib.hid hgu5; have ceu5 := OBHu5.out.o0.cell; have hqu5 : w.heap.size < u5.heap.size := OBHu5.out.o0.lt; clear hou5 hgu5 hzu5 OBHw5 cew5))
  refine (h6 _ _ (G6.out.1.ext (grown_ext (Ext.trans (grown_ext (Ext.trans (.alloc (.alloc (.alloc (.refl _) _) _) _) HW4.out) HGu4.out (by omega)) HW5.out) HGu5.out (by omega))) (by omega)).mono ?_
  rintro e w6 ⟨d6, rfl, hw6, ho6⟩
  obtain ⟨da6, dc6, rfl, -, -⟩ := ho6.rep.shape
  have HW6 := Lib.hid hw6
  have HO6 := Lib.hid ho6
  have ob6 := OBHu5.out.ext hw6
  clear OBHu5 ceu5
  have OBHw6 := Lib.hid ob6
  have cew6 := ob6.o0.cell
  have hzw6 : w.heap.size < w6.heap.size := ob6.o0.lt
  clear hw6 ob6 ho6
  have hone : Hid (∀ v ∈ ([.int .i64 v0, .string v1, .string v2, .int .i64 v3, d4_0, d4_1, d4_2, .slice da5 es5.length dc5, .slice da6 es6.length dc6] : List Value), v.oneCell' = true) := by
    intro v hv
    simp only [List.mem_cons, List.not_mem_nil, or_false] at hv
    rcases hv with rfl | rfl | rfl | rfl | rfl | rfl | rfl | rfl | rfl <;> first | rfl | (refine HO4.out.rep.one _ ?_; simp; done)
  go_wp2_with (first
    | (refine wpList_store_cell rfl 210 _ _ rfl (w.heap.size + 1 + 1) 8 rfl (.slice da6 es6.length dc6) rfl rfl 212 _ OBHw6.out.o2 isz210 (by simp [splice]) rfl ?_; intro u6 hou6 hgu6 hzu6; have OBHu6 := Lib.hid (OBHw6.out.grown hgu6 hou6 (by omega) (by omega)); have HGu6 := Lib.hid hgu6; have ceu6 := OBHu6.out.o0.cell; have hqu6 : w.heap.size < u6.heap.size := OBHu6.out.o0.lt; clear hou6 hgu6 hzu6 OBHw6 cew6)
    | (refine wpList_load_rep rfl 212 _ rfl (w.heap.size + 1 + 1) 0 rfl [.int .i64 v0, .string v1, .string v2, .int .i64 v3, d4_0, d4_1, d4_2, .slice da5 es5.length dc5, .slice da6 es6.length dc6] _ Try.underlying212 isz212 (fun j v hv => by rw [OBHu6.out.o2.cell, Nat.zero_add]; simpa [splice] using hv) ?_)
    | (refine wpList_store_rep rfl 212 _ _ rfl (w.heap.size + 1) 0 rfl [.int .i64 v0, .string v1, .string v2, .int .i64 v3, d4_0, d4_1, d4_2, .slice da5 es5.length dc5, .slice da6 es6.length dc6] rfl 212 _ OBHu6.out.o1 isz212 (by simp) hone.out ?_; intro wz hoz hgz hzz; have HOZ := Lib.hid hoz; have HGZ := Lib.hid hgz; clear hoz hgz hzz))
  have HOF : OB wz (w.heap.size + 1) 212 ⟨[.int .i64 v0, .string v1, .string v2, .int .i64 v3, d4_0, d4_1, d4_2, .slice da5 es5.length dc5, .slice da6 es6.length dc6]⟩ := HOZ.out
  refine bodyPost_ret (results_cell_row Try.results228 _ _ (w.heap.size + 1) 212 ⟨[.int .i64 v0, .string v1, .string v2, .int .i64 v3, d4_0, d4_1, d4_2, .slice da5 es5.length dc5, .slice da6 es6.length dc6]⟩ _ _ rfl HOF Try.underlying212 rfl isz212) rfl ⟨[.int .i64 v0, .string v1, .string v2, .int .i64 v3, d4_0, d4_1, d4_2, .slice da5 es5.length dc5, .slice da6 es6.length dc6], rfl, (grown_ext (grown_ext (Ext.trans (grown_ext (Ext.trans (grown_ext (Ext.trans (.alloc (.alloc (.alloc (.refl _) _) _) _) HW4.out) HGu4.out (by omega)) HW5.out) HGu5.out (by omega)) HW6.out) HGu6.out (by omega)) HGZ.out (by omega)), ?_⟩
  have sw4 := HW4.out.size
  have su4 := HGu4.out.size
  have sw5 := HW5.out.size
  have su5 := HGu5.out.size
  have sw6 := HW6.out.size
  have su6 := HGu6.out.size
  have swz := HGZ.out.size
  simp only [World.size_alloc] at sw4
  have ow4 := HO4.out.keeps (lo := w.heap.size + 1 + 1 + 1) (Keeps.trans (Keeps.of_grown HGu4.out (by omega)) (Keeps.trans (Keeps.of_ext HW5.out) (Keeps.trans (Keeps.of_grown HGu5.out (by omega)) (Keeps.trans (Keeps.of_ext HW6.out) (Keeps.trans (Keeps.of_grown HGu6.out (by omega)) (Keeps.of_grown HGZ.out (by omega))))))) (by intro x hx; simp only [Between, World.size_alloc] at hx; omega)
  have ow5 := HO5.out.keeps (lo := w.heap.size + 1 + 1 + 1) (Keeps.trans (Keeps.of_grown HGu5.out (by omega)) (Keeps.trans (Keeps.of_ext HW6.out) (Keeps.trans (Keeps.of_grown HGu6.out (by omega)) (Keeps.of_grown HGZ.out (by omega))))) (by intro x hx; simp only [Between, World.size_alloc] at hx; omega)
  have ow6 := HO6.out.keeps (lo := w.heap.size + 1 + 1 + 1) (Keeps.trans (Keeps.of_grown HGu6.out (by omega)) (Keeps.of_grown HGZ.out (by omega))) (by intro x hx; simp only [Between, World.size_alloc] at hx; omega)
  have hall := OwnL.cons_leaf K0.out (OwnL.cons_leaf K1.out (OwnL.cons_leaf K2.out (OwnL.cons_leaf K3.out (OwnL.append (ow4) (OwnL.append (OwnL.one ow5) (OwnL.append (OwnL.one ow6) (OwnL.nil wz (fun _ => False)) (by intro x hx hy; simp only [Between, World.size_alloc, or_false] at hx hy <;> omega)) (by intro x hx hy; simp only [Between, World.size_alloc, or_false] at hx hy <;> omega)) (by intro x hx hy; simp only [Between, World.size_alloc, or_false] at hx hy <;> omega)))))
  exact hall.mono (by intro x hx; simp only [Between, World.size_alloc, or_false] at hx ⊢; omega)

set_option maxRecDepth 100000 in
set_option maxHeartbeats 1000000 in
theorem eqExpr_of (v0 : Int) (v1 : ByteArray) (v2 : ByteArray) (v3 : Int) (ts4 : List Tr) (l4 : ts4.length = 3) (es5 : List (List Tr)) (es6 : List (List Tr)) (h4 : EqC 22 ts4) (h5 : EqSC 250 9 es5) (h6 : EqSC 251 11 es6) : EqC 229 ([.leaf (.int .i64 v0)] ++ ([.leaf (.string v1)] ++ ([.leaf (.string v2)] ++ ([.leaf (.int .i64 v3)] ++ (ts4 ++ ([.row 9 es5] ++ ([.row 11 es6] ++ ([])))))))) := by
  intro cs ds w hr hr'
  obtain ⟨b0, r0, rfl, g0, n0⟩ := RepL.split hr
  obtain ⟨y0, rfl⟩ := list1 g0.length.symm
  obtain ⟨rfl, k0⟩ := g0.1.leaf_eq
  obtain ⟨b1, r1, rfl, g1, n1⟩ := RepL.split n0
  obtain ⟨y1, rfl⟩ := list1 g1.length.symm
  obtain ⟨rfl, k1⟩ := g1.1.leaf_eq
  obtain ⟨b2, r2, rfl, g2, n2⟩ := RepL.split n1
  obtain ⟨y2, rfl⟩ := list1 g2.length.symm
  obtain ⟨rfl, k2⟩ := g2.1.leaf_eq
  obtain ⟨b3, r3, rfl, g3, n3⟩ := RepL.split n2
  obtain ⟨y3, rfl⟩ := list1 g3.length.symm
  obtain ⟨rfl, k3⟩ := g3.1.leaf_eq
  obtain ⟨b4, r4, rfl, g4, n4⟩ := RepL.split n3
  obtain ⟨x4_0, x4_1, x4_2, rfl⟩ := list3 (g4.length.symm.trans l4)
  obtain ⟨b5, r5, rfl, g5, n5⟩ := RepL.split n4
  obtain ⟨y5, rfl⟩ := list1 g5.length.symm
  obtain ⟨a5, c5, rfl, -, -⟩ := g5.1.shape
  obtain ⟨b6, r6, rfl, g6, n6⟩ := RepL.split n5
  obtain ⟨y6, rfl⟩ := list1 g6.length.symm
  obtain ⟨a6, c6, rfl, -, -⟩ := g6.1.shape
  obtain rfl := RepL.nil_eq n6
  clear hr
  obtain ⟨zb0, zr0, rfl, zg0, zn0⟩ := RepL.split hr'
  obtain ⟨zy0, rfl⟩ := list1 zg0.length.symm
  obtain ⟨rfl, zk0⟩ := zg0.1.leaf_eq
  obtain ⟨zb1, zr1, rfl, zg1, zn1⟩ := RepL.split zn0
  obtain ⟨zy1, rfl⟩ := list1 zg1.length.symm
  obtain ⟨rfl, zk1⟩ := zg1.1.leaf_eq
  obtain ⟨zb2, zr2, rfl, zg2, zn2⟩ := RepL.split zn1
  obtain ⟨zy2, rfl⟩ := list1 zg2.length.symm
  obtain ⟨rfl, zk2⟩ := zg2.1.leaf_eq
  obtain ⟨zb3, zr3, rfl, zg3, zn3⟩ := RepL.split zn2
  obtain ⟨zy3, rfl⟩ := list1 zg3.length.symm
  obtain ⟨rfl, zk3⟩ := zg3.1.leaf_eq
  obtain ⟨zb4, zr4, rfl, zg4, zn4⟩ := RepL.split zn3
  obtain ⟨zx4_0, zx4_1, zx4_2, rfl⟩ := list3 (zg4.length.symm.trans l4)
  obtain ⟨zb5, zr5, rfl, zg5, zn5⟩ := RepL.split zn4
  obtain ⟨zy5, rfl⟩ := list1 zg5.length.symm
  obtain ⟨za5, zc5, rfl, -, -⟩ := zg5.1.shape
  obtain ⟨zb6, zr6, rfl, zg6, zn6⟩ := RepL.split zn5
  obtain ⟨zy6, rfl⟩ := list1 zg6.length.symm
  obtain ⟨za6, zc6, rfl, -, -⟩ := zg6.1.shape
  obtain rfl := RepL.nil_eq zn6
  clear hr'
  have G0 := Lib.hid g0
  have K0 := Lib.hid k0
  clear g0 n0 k0
  have G1 := Lib.hid g1
  have K1 := Lib.hid k1
  clear g1 n1 k1
  have G2 := Lib.hid g2
  have K2 := Lib.hid k2
  clear g2 n2 k2
  have G3 := Lib.hid g3
  have K3 := Lib.hid k3
  clear g3 n3 k3
  have G4 := Lib.hid g4
  clear g4 n4
  have G5 := Lib.hid g5
  clear g5 n5
  have G6 := Lib.hid g6
  clear g6 n6
  have zG0 := Lib.hid zg0
  have zK0 := Lib.hid zk0
  clear zg0 zn0 zk0
  have zG1 := Lib.hid zg1
  have zK1 := Lib.hid zk1
  clear zg1 zn1 zk1
  have zG2 := Lib.hid zg2
  have zK2 := Lib.hid zk2
  clear zg2 zn2 zk2
  have zG3 := Lib.hid zg3
  have zK3 := Lib.hid zk3
  clear zg3 zn3 zk3
  have zG4 := Lib.hid zg4
  clear zg4 zn4
  have zG5 := Lib.hid zg5
  clear zg5 zn5
  have zG6 := Lib.hid zg6
  clear zg6 zn6
  simp only [List.cons_append, List.nil_append]
  go_enter Try.func229, Try.ntmps229
  go_wp2_with fail
  refine (h4 _ _ _ (G4.out.ext (.alloc (.alloc (.refl _) _) _)) (zG4.out.ext (.alloc (.alloc (.refl _) _) _))).mono ?_
  rintro e w4 ⟨rfl, hw4⟩
  have HW4 := Lib.hid hw4
  have ob4 := (Two.new w _ _ _ _).ext hw4
  have OBH := Lib.hid ob4
  have ce4 := ob4.o0.cell
  have cf4 := ob4.o1.cell
  clear hw4 ob4
  go_wp2_with fail
  refine (h5 _ _ _ (G5.out.1.ext (Ext.trans (.alloc (.alloc (.refl _) _) _) HW4.out)) (zG5.out.1.ext (Ext.trans (.alloc (.alloc (.refl _) _) _) HW4.out))).mono ?_
  rintro e w5 ⟨rfl, hw5⟩
  have HW5 := Lib.hid hw5
  have ob5 := OBH.out.ext hw5
  clear OBH ce4 cf4
  have OBH := Lib.hid ob5
  have ce5 := ob5.o0.cell
  have cf5 := ob5.o1.cell
  clear hw5 ob5
  go_wp2_with fail
  refine (h6 _ _ _ (G6.out.1.ext (Ext.trans (Ext.trans (.alloc (.alloc (.refl _) _) _) HW4.out) HW5.out)) (zG6.out.1.ext (Ext.trans (Ext.trans (.alloc (.alloc (.refl _) _) _) HW4.out) HW5.out))).mono ?_
  rintro e w6 ⟨rfl, hw6⟩
  have HW6 := Lib.hid hw6
  have ob6 := OBH.out.ext hw6
  clear OBH ce5 cf5
  have OBH := Lib.hid ob6
  have ce6 := ob6.o0.cell
  have cf6 := ob6.o1.cell
  clear hw6 ob6
  go_wp2_with fail
  go_ret
  exact ⟨rfl, (Ext.trans (Ext.trans (Ext.trans (.alloc (.alloc (.refl _) _) _) HW4.out) HW5.out) HW6.out)⟩

set_option maxRecDepth 100000 in
set_option maxHeartbeats 1000000 in
theorem szExprS_of (es : List (List Tr)) (h5 : ∀ e ∈ es, e.length = 9) (H : ∀ e ∈ es, SzC 227 e) : SzSC 246 9 es := by
  intro s left w hs h0 h1
  obtain ⟨a, cap, rfl, hl, hm⟩ := hs.shape
  unfold maxLen at hm
  have HS := Lib.hid hs
  have HH := Lib.hid H
  have H5 := Lib.hid h5
  clear hs H h5
  go_enter Try.func246, Try.ntmps246
  go_wp2_with fail
  · go_ret
    exact ⟨-1, rfl, .refl _, by omega, by omega, by omega⟩
  go_loopw [1, 5] (fun l i wr => ∃ (k : Nat) (r : Int), k ≤ es.length ∧ i = .int .i64 k ∧ l = .int .i64 r ∧ Ext w wr ∧ 0 ≤ r ∧ r + es.length + Tr.bulkAll (es.take k) ≤ left) (fun _ i _ => es.length - (intOf i).toNat)
  case atStart => exact ⟨0, _, Nat.zero_le _, rfl, rfl, .refl _, by omega, by simp [Tr.bulkAll]⟩
  case round =>
    obtain ⟨k, r, hk, rfl, rfl, hw, hr0, hrb⟩ := hrel
    by_cases hlt : k < es.length
    · obtain ⟨b, off, cs, rfl, hb, hcs, hc⟩ := (HS.out.ext hw).at2 (k := k) (List.getElem?_eq_getElem hlt)
      have hmem : es[k] ∈ es := List.getElem_mem hlt
      have l5 := H5.out _ hmem
      have hbt := Lib.hid (Tr.bulkAll_take es k hlt)
      have HCS := Lib.hid hcs
      have HC := Lib.hid hc
      have HM := Lib.hid hmem
      have HI : Hid ((Try.prog.info? 238).map (·.size) = some cs.length) := by rw [← hcs.length, l5]; exact isz238
      clear hcs hc hmem l5
      go_wp2_with (refine wpList_load_rep rfl 238 _ rfl b (off + k * 9) rfl cs _ Try.underlying238 HI.out HC.out ?_)
      refine (HH.out _ HM.out _ _ _ HCS.out hr0 (by omega)).mono ?_
      rintro e w1 ⟨r1, rfl, hw1, hr1, hr2, hr3⟩
      have HR3 := Lib.hid hr3
      have HW1 := Lib.hid hw1
      clear hr3 hw1
      go_wp2_with fail
      · go_ret
        exact ⟨-1, rfl, hw.trans HW1.out, by omega, by omega, by omega⟩
      · go_roundw
        case rel =>
          have p0 : 0 ≤ r1 := by assumption
          have e1 := HR3.out p0
          have e2 := hbt.out
          exact ⟨k + 1, r1, by omega, by go_num, rfl, hw.trans HW1.out, p0, by omega⟩
        case measure => simp [intOf]; omega
    · have hkl : k = es.length := by omega
      go_wp2_with fail
      go_ret
      refine ⟨r, rfl, hw, by omega, by omega, fun _ => ?_⟩
      rw [hkl, List.take_length] at hrb
      simp only [Tr.bulk]
      omega

set_option maxRecDepth 100000 in
set_option maxHeartbeats 1000000 in
theorem toExprS_of (es : List (List Tr)) (h5 : ∀ e ∈ es, e.length = 9) (H : ∀ e ∈ es, ToC 228 e) : ToSC 248 9 es := by
  intro s w hs hbk
  obtain ⟨a, cap, rfl, hl, hm⟩ := hs.shape
  unfold maxLen at hm
  have HS := Lib.hid hs
  have HH := Lib.hid H
  have H5 := Lib.hid h5
  have n0 : (0 : Int) ≤ es.length := by omega
  clear hs H h5
  go_enter Try.func248, Try.ntmps248
  go_wp2_with (refine wpList_make_rep rfl 209 (.tmp 6) rfl es.length rfl 212 Try.underlying209 9 144 iszb212 (by omega) (by omega) ?_; intro wm arr0 ha0 hob0 hx0 hz0; have HA0 := Lib.hid ha0; have HOB0 := Lib.hid hob0; have HX0 := Lib.hid hx0; have HZ0 := Lib.hid hz0; clear ha0 hob0 hx0 hz0)
  go_loopw [4] (fun i wr => ∃ (k : Nat) (arr : Array Value), k ≤ es.length ∧ i = .int .i64 k ∧ Ext w wr ∧ w.heap.size < wr.heap.size ∧ OB wr w.heap.size 212 arr ∧ arr.size = es.length * 9 ∧ Part wr w.heap.size arr 9 es k) (fun i _ => es.length - (intOf i).toNat)
  case atStart => exact ⟨0, arr0, Nat.zero_le _, rfl, HX0.out, by rw [HZ0.out]; omega, HOB0.out, HA0.out, Part.zero _ _ _ _ _⟩
  case round =>
    obtain ⟨k, arr, hk, rfl, hw, hgt, hob, hasz, hpart⟩ := hrel
    have HOB := Lib.hid hob
    have HAS := Lib.hid hasz
    have HP := Lib.hid hpart
    clear hob hasz hpart
    by_cases hlt : k < es.length
    · obtain ⟨b, off, cs, rfl, hb, hcs, hc⟩ := (HS.out.ext hw).at2 (k := k) (List.getElem?_eq_getElem hlt)
      have hmem : es[k] ∈ es := List.getElem_mem hlt
      have l5 := H5.out _ hmem
      have hbe := Tr.bulkAll_le hlt
      have HCS := Lib.hid hcs
      have HC := Lib.hid hc
      have HM := Lib.hid hmem
      have HL5 := Lib.hid l5
      have HI : Hid ((Try.prog.info? 238).map (·.size) = some cs.length) := by rw [← hcs.length, l5]; exact isz238
      clear hcs hc hmem l5
      go_wp2_with (refine wpList_load_rep rfl 238 (.tmp 18) rfl b (off + k * 9) rfl cs _ Try.underlying238 HI.out HC.out ?_)
      refine (HH.out _ HM.out _ _ HCS.out (by omega)).mono ?_
      rintro e w1 ⟨cs1, rfl, hw1, ho1⟩
      have HW1 := Lib.hid hw1
      have HO1 := Lib.hid ho1
      have hcl : cs1.length = 9 := ho1.1.trans HL5.out
      have HCL := Lib.hid hcl
      have hfit : 0 + k * 9 + cs1.length ≤ arr.size := by have := HAS.out; omega
      have HF := Lib.hid hfit
      clear hw1 ho1 hcl hfit
      go_wp2_with (refine wpList_store_rep rfl 212 (.tmp 21) (.tmp 20) rfl w.heap.size (k * 9) rfl cs1 rfl 212 arr (HOB.out.ext HW1.out) (by rw [HCL.out]; exact isz212) (by have := HF.out; omega) (HO1.out.rep.one) ?_; intro w2 hob2 hg2 hz2; have HOB2 := Lib.hid hob2; have HG2 := Lib.hid hg2; have HZ2 := Lib.hid hz2; clear hob2 hg2 hz2)
      go_roundw
      case rel =>
        have hfit : k * 9 + cs1.length ≤ arr.size := by have := HF.out; omega
        refine ⟨k + 1, _, by omega, by go_num, ?_, ?_, HOB2.out, by rw [splice_size hfit]; exact HAS.out, HP.out.step hgt HW1.out (List.getElem?_eq_getElem hlt) HO1.out HCL.out HAS.out HG2.out HOB2.out⟩
        · exact grown_ext (hw.trans HW1.out) HG2.out (Nat.le_refl _)
        · have := HW1.out.size
          have := HZ2.out
          omega
      case measure => simp [intOf]; omega
    · have hkl : k = es.length := by omega
      go_wp2_with fail
      go_ret
      subst hkl
      exact ⟨_, rfl, hw, (HP.out.done HOB.out H5.out (Nat.le_refl _) (by unfold maxLen; omega) (Nat.le_refl _)).mono fun x hx => ⟨hx.1, hx.2⟩⟩

set_option maxRecDepth 100000 in
set_option maxHeartbeats 1000000 in
theorem eqExprS_of (es : List (List Tr)) (h5 : ∀ e ∈ es, e.length = 9) (H : ∀ e ∈ es, EqC 229 e) : EqSC 250 9 es := by
  intro s u w hs hu
  obtain ⟨a, cap, rfl, hl, hm⟩ := hs.shape
  obtain ⟨a', cap', rfl, hl', hm'⟩ := hu.shape
  unfold maxLen at hm hm'
  have HS := Lib.hid hs
  have HU := Lib.hid hu
  have HH := Lib.hid H
  have H5 := Lib.hid h5
  clear hs hu H h5
  go_enter Try.func250, Try.ntmps250
  go_wp2_with fail
  go_loopw [5] (fun i wr => ∃ k : Nat, k ≤ es.length ∧ i = .int .i64 k ∧ Ext w wr) (fun i _ => es.length - (intOf i).toNat)
  case atStart => exact ⟨0, Nat.zero_le _, rfl, .refl _⟩
  case round =>
    obtain ⟨k, hk, rfl, hw⟩ := hrel
    by_cases hlt : k < es.length
    · obtain ⟨b, off, cs, rfl, hb, hcs, hc⟩ := (HS.out.ext hw).at2 (k := k) (List.getElem?_eq_getElem hlt)
      obtain ⟨b', off', ds, rfl, hb', hds, hd⟩ := (HU.out.ext hw).at2 (k := k) (List.getElem?_eq_getElem hlt)
      have hmem : es[k] ∈ es := List.getElem_mem hlt
      have l5 := H5.out _ hmem
      have HCS := Lib.hid hcs
      have HDS := Lib.hid hds
      have HM := Lib.hid hmem
      have HC := Lib.hid hc
      have HD := Lib.hid hd
      have HI : Hid ((Try.prog.info? 212).map (·.size) = some cs.length) := by rw [← hcs.length, l5]; exact isz212
      have HJ : Hid ((Try.prog.info? 212).map (·.size) = some ds.length) := by rw [← hds.length, l5]; exact isz212
      clear hcs hds hc hd l5 hmem
      go_wp2_with fail
      have ki : (k : Int) < (es.length : Int) := by omega
      have k0 : (0 : Int) ≤ (k : Int) := by omega
      refine wp_region_still_tail 8 (by kernel_rfl) (by kernel_rfl) ?_
      simp only [List.take_succ_cons, List.take_zero, List.drop_succ_cons, List.drop_zero]
      change wpStill _ _ wr.drew _ _ _
      repeat (first
        | (refine wpStill_load_rep rfl 212 (.tmp 19) rfl b (off + k * 9) rfl cs _ Try.underlying212 HI.out HC.out ?_; simp only [Act.put])
        | (refine wpStill_load_rep rfl 212 (.tmp 23) rfl b' (off' + k * 9) rfl ds _ Try.underlying212 HJ.out HD.out ?_; simp only [Act.put])
        | still_step)
      refine wpStill_nil ?_
      change wpList _ _ _ _ _ wr.drew
      go_wp2_with fail
      refine (HH.out _ HM.out _ _ _ (HCS.out.ext (.drew (.refl _))) (HDS.out.ext (.drew (.refl _)))).mono ?_
      rintro e w1 ⟨rfl, hw1⟩
      have HW1 := Lib.hid hw1
      clear hw1
      go_wp2_with fail
      go_roundw
      case rel => exact ⟨k + 1, by omega, by go_num, hw.trans (.trans (.drew (.refl _)) HW1.out)⟩
      case measure => simp [intOf]; omega
    · go_wp2_with fail
      go_ret
      exact ⟨rfl, hw⟩

end Go.Proofs.Ytoifjkggpanceaa

namespace Go.Proofs.Ytoifjkggpanceaa
open Go.RowKit Go.Proofs

set_option maxRecDepth 100000 in
set_option maxHeartbeats 1000000 in
theorem szArm_of (v0 : ByteArray) (es1 : List (List Tr)) (ts2 : List Tr) (l2 : ts2.length = 9) (h1 : SzSC 149 1 es1) (h2 : SzC 227 ts2) : SzC 258 ([.leaf (.string v0)] ++ ([.row 1 es1] ++ (ts2 ++ ([])))) := by
  intro cs left w hr hl0 hl1
  obtain ⟨b0, r0, rfl, g0, n0⟩ := RepL.split hr
  obtain ⟨y0, rfl⟩ := list1 g0.length.symm
  obtain ⟨rfl, k0⟩ := g0.1.leaf_eq
  obtain ⟨b1, r1, rfl, g1, n1⟩ := RepL.split n0
  obtain ⟨y1, rfl⟩ := list1 g1.length.symm
  obtain ⟨a1, c1, rfl, -, -⟩ := g1.1.shape
  obtain ⟨b2, r2, rfl, g2, n2⟩ := RepL.split n1
  obtain ⟨x2_0, x2_1, x2_2, x2_3, x2_4, x2_5, x2_6, x2_7, x2_8, rfl⟩ := list9 (g2.length.symm.trans l2)
  obtain rfl := RepL.nil_eq n2
  clear hr
  have q0 : v0.size ≤ 9223372036854775807 := by have := k0; simp only [LeafOk, maxLen] at this; omega
  have G0 := Lib.hid g0
  have K0 := Lib.hid k0
  clear g0 n0 k0
  have G1 := Lib.hid g1
  clear g1 n1
  have G2 := Lib.hid g2
  clear g2 n2
  simp only [List.cons_append, List.nil_append]
  go_enter Try.func258, Try.ntmps258
  go_wp2_with fail
  · go_ret
    exact ⟨-1, rfl, (.alloc (.refl _) _), by omega, by omega, by omega⟩
  refine (h1 _ _ _ (G1.out.1.ext (.alloc (.refl _) _)) (by omega) (by omega)).mono ?_
  rintro e w1 ⟨r1, rfl, hw1, ra1, rb1, rc1⟩
  have HW1 := Lib.hid hw1
  have HR1 := Lib.hid rc1
  have ob1 := (OB.new w _ _).ext hw1
  have OBH := Lib.hid ob1
  have ce1 := ob1.cell
  clear hw1 rc1 ob1
  go_wp2_with fail
  · go_ret
    exact ⟨-1, rfl, (Ext.trans (.alloc (.refl _) _) HW1.out), by omega, by omega, by omega⟩
  refine (h2 _ _ _ (G2.out.ext (Ext.trans (.alloc (.refl _) _) HW1.out)) (by omega) (by omega)).mono ?_
  rintro e w2 ⟨r2, rfl, hw2, ra2, rb2, rc2⟩
  have HW2 := Lib.hid hw2
  have HR2 := Lib.hid rc2
  have ob2 := OBH.out.ext hw2
  clear OBH ce1
  have OBH := Lib.hid ob2
  have ce2 := ob2.cell
  clear hw2 rc2 ob2
  go_wp2_with fail
  · go_ret
    exact ⟨-1, rfl, (Ext.trans (Ext.trans (.alloc (.refl _) _) HW1.out) HW2.out), by omega, by omega, by omega⟩
  go_ret
  refine ⟨_, rfl, (Ext.trans (Ext.trans (.alloc (.refl _) _) HW1.out) HW2.out), by omega, by omega, fun hp => ?_⟩
  have e1 := HR1.out (by omega)
  have e2 := HR2.out (by omega)
  simp only [Tr.bulkL_append, Tr.bulkL, Tr.bulk]
  simp only [Tr.bulk] at e1
  omega

set_option maxRecDepth 100000 in
set_option maxHeartbeats 1000000 in
theorem toArm_of (v0 : ByteArray) (es1 : List (List Tr)) (ts2 : List Tr) (l2 : ts2.length = 9) (h1 : ToSC 151 1 es1) (h2 : ToC 228 ts2) : ToC 259 ([.leaf (.string v0)] ++ ([.row 1 es1] ++ (ts2 ++ ([])))) := by
  intro cs w hr hbk
  simp only [Tr.bulkL_append, Tr.bulkL, Tr.bulk] at hbk
  obtain ⟨b0, r0, rfl, g0, n0⟩ := RepL.split hr
  obtain ⟨y0, rfl⟩ := list1 g0.length.symm
  obtain ⟨rfl, k0⟩ := g0.1.leaf_eq
  obtain ⟨b1, r1, rfl, g1, n1⟩ := RepL.split n0
  obtain ⟨y1, rfl⟩ := list1 g1.length.symm
  obtain ⟨a1, c1, rfl, -, -⟩ := g1.1.shape
  obtain ⟨b2, r2, rfl, g2, n2⟩ := RepL.split n1
  obtain ⟨x2_0, x2_1, x2_2, x2_3, x2_4, x2_5, x2_6, x2_7, x2_8, rfl⟩ := list9 (g2.length.symm.trans l2)
  obtain rfl := RepL.nil_eq n2
  clear hr
  have G0 := Lib.hid g0
  have K0 := Lib.hid k0
  clear g0 n0 k0
  have G1 := Lib.hid g1
  clear g1 n1
  have G2 := Lib.hid g2
  clear g2 n2
  simp only [List.cons_append, List.nil_append]
  go_enter Try.func259, Try.ntmps259
  go_wp2_with fail
  refine (h1 _ _ (G1.out.1.ext (.alloc (.alloc (.alloc (.refl _) _) _) _)) (by omega)).mono ?_
  rintro e w1 ⟨d1, rfl, hw1, ho1⟩
  obtain ⟨da1, dc1, rfl, -, -⟩ := ho1.rep.shape
  have HW1 := Lib.hid hw1
  have HO1 := Lib.hid ho1
  have ob1 := (Three.new w _ _ _ _ _ _).ext hw1
  have OBHw1 := Lib.hid ob1
  have cew1 := ob1.o0.cell
  have hzw1 : w.heap.size < w1.heap.size := ob1.o0.lt
  clear hw1 ob1 ho1
  go_wp2_with (first
    | (refine wpList_store_cell rfl 66 _ _ rfl (w.heap.size + 1 + 1) 1 rfl (.slice da1 es1.length dc1) rfl rfl 258 _ OBHw1.out.o2 isz66 (by simp [splice]) rfl ?_; intro u1 hou1 hgu1 hzu1; have OBHu1 := Lib.hid (OBHw1.out.grown hgu1 hou1 (by omega) (by omega)); have HGu1 := Lib.hid hgu1; have ceu1 := OBHu1.out.o0.cell; have hqu1 : w.heap.size < u1.heap.size := OBHu1.out.o0.lt; clear hou1 hgu1 hzu1 OBHw1 cew1))
  refine (h2 _ _ (G2.out.ext (grown_ext (Ext.trans (.alloc (.alloc (.alloc (.refl _) _) _) _) HW1.out) HGu1.out (by omega))) (by omega)).mono ?_
  rintro e w2 ⟨d2, rfl, hw2, ho2⟩
  obtain ⟨d2_0, d2_1, d2_2, d2_3, d2_4, d2_5, d2_6, d2_7, d2_8, rfl⟩ := list9 (ho2.1.trans l2)
  have HW2 := Lib.hid hw2
  have HO2 := Lib.hid ho2
  have ob2 := OBHu1.out.ext hw2
  clear OBHu1 ceu1
  have OBHw2 := Lib.hid ob2
  have cew2 := ob2.o0.cell
  have hzw2 : w.heap.size < w2.heap.size := ob2.o0.lt
  clear hw2 ob2 ho2
  have hone : Hid (∀ v ∈ ([.string v0, .slice da1 es1.length dc1, d2_0, d2_1, d2_2, d2_3, d2_4, d2_5, d2_6, d2_7, d2_8] : List Value), v.oneCell' = true) := by
    intro v hv
    simp only [List.mem_cons, List.not_mem_nil, or_false] at hv
    rcases hv with rfl | rfl | rfl | rfl | rfl | rfl | rfl | rfl | rfl | rfl | rfl <;> first | rfl | (refine HO2.out.rep.one _ ?_; simp; done)
  go_wp2_with (first
    | (refine wpList_store_rep rfl 212 _ _ rfl (w.heap.size + 1 + 1) 2 rfl [d2_0, d2_1, d2_2, d2_3, d2_4, d2_5, d2_6, d2_7, d2_8] rfl 258 _ OBHw2.out.o2 isz212 (by simp [splice]) HO2.out.rep.one ?_; intro u2 hou2 hgu2 hzu2; have OBHu2 := Lib.hid (OBHw2.out.grown hgu2 hou2 (by omega) (by omega)); have HGu2 := Lib.hid hgu2; have ceu2 := OBHu2.out.o0.cell; have hqu2 : w.heap.size < u2.heap.size := OBHu2.out.o0.lt; clear hou2 hgu2 hzu2 OBHw2 cew2)
    | (refine wpList_load_rep rfl 258 _ rfl (w.heap.size + 1 + 1) 0 rfl [.string v0, .slice da1 es1.length dc1, d2_0, d2_1, d2_2, d2_3, d2_4, d2_5, d2_6, d2_7, d2_8] _ Try.underlying258 isz258 (fun j v hv => by rw [OBHu2.out.o2.cell, Nat.zero_add]; simpa [splice] using hv) ?_)
    | (refine wpList_store_rep rfl 258 _ _ rfl (w.heap.size + 1) 0 rfl [.string v0, .slice da1 es1.length dc1, d2_0, d2_1, d2_2, d2_3, d2_4, d2_5, d2_6, d2_7, d2_8] rfl 258 _ OBHu2.out.o1 isz258 (by simp) hone.out ?_; intro wz hoz hgz hzz; have HOZ := Lib.hid hoz; have HGZ := Lib.hid hgz; clear hoz hgz hzz))
  have HOF : OB wz (w.heap.size + 1) 258 ⟨[.string v0, .slice da1 es1.length dc1, d2_0, d2_1, d2_2, d2_3, d2_4, d2_5, d2_6, d2_7, d2_8]⟩ := HOZ.out
  refine bodyPost_ret (results_cell_row Try.results259 _ _ (w.heap.size + 1) 258 ⟨[.string v0, .slice da1 es1.length dc1, d2_0, d2_1, d2_2, d2_3, d2_4, d2_5, d2_6, d2_7, d2_8]⟩ _ _ rfl HOF Try.underlying258 rfl isz258) rfl ⟨[.string v0, .slice da1 es1.length dc1, d2_0, d2_1, d2_2, d2_3, d2_4, d2_5, d2_6, d2_7, d2_8], rfl, (grown_ext (grown_ext (Ext.trans (grown_ext (Ext.trans (.alloc (.alloc (.alloc (.refl _) _) _) _) HW1.out) HGu1.out (by omega)) HW2.out) HGu2.out (by omega)) HGZ.out (by omega)), ?_⟩
  have sw1 := HW1.out.size
  have su1 := HGu1.out.size
  have sw2 := HW2.out.size
  have su2 := HGu2.out.size
  have swz := HGZ.out.size
  simp only [World.size_alloc] at sw1
  have ow1 := HO1.out.keeps (lo := w.heap.size + 1 + 1 + 1) (Keeps.trans (Keeps.of_grown HGu1.out (by omega)) (Keeps.trans (Keeps.of_ext HW2.out) (Keeps.trans (Keeps.of_grown HGu2.out (by omega)) (Keeps.of_grown HGZ.out (by omega))))) (by intro x hx; simp only [Between, World.size_alloc] at hx; omega)
  have ow2 := HO2.out.keeps (lo := w.heap.size + 1 + 1 + 1) (Keeps.trans (Keeps.of_grown HGu2.out (by omega)) (Keeps.of_grown HGZ.out (by omega))) (by intro x hx; simp only [Between, World.size_alloc] at hx; omega)
  have hall := OwnL.cons_leaf K0.out (OwnL.append (OwnL.one ow1) (OwnL.append (ow2) (OwnL.nil wz (fun _ => False)) (by intro x hx hy; simp only [Between, World.size_alloc, or_false] at hx hy <;> omega)) (by intro x hx hy; simp only [Between, World.size_alloc, or_false] at hx hy <;> omega))
  exact hall.mono (by intro x hx; simp only [Between, World.size_alloc, or_false] at hx ⊢; omega)

set_option maxRecDepth 100000 in
set_option maxHeartbeats 1000000 in
theorem eqArm_of (v0 : ByteArray) (es1 : List (List Tr)) (ts2 : List Tr) (l2 : ts2.length = 9) (h1 : EqSC 153 1 es1) (h2 : EqC 229 ts2) : EqC 260 ([.leaf (.string v0)] ++ ([.row 1 es1] ++ (ts2 ++ ([])))) := by
  intro cs ds w hr hr'
  obtain ⟨b0, r0, rfl, g0, n0⟩ := RepL.split hr
  obtain ⟨y0, rfl⟩ := list1 g0.length.symm
  obtain ⟨rfl, k0⟩ := g0.1.leaf_eq
  obtain ⟨b1, r1, rfl, g1, n1⟩ := RepL.split n0
  obtain ⟨y1, rfl⟩ := list1 g1.length.symm
  obtain ⟨a1, c1, rfl, -, -⟩ := g1.1.shape
  obtain ⟨b2, r2, rfl, g2, n2⟩ := RepL.split n1
  obtain ⟨x2_0, x2_1, x2_2, x2_3, x2_4, x2_5, x2_6, x2_7, x2_8, rfl⟩ := list9 (g2.length.symm.trans l2)
  obtain rfl := RepL.nil_eq n2
  clear hr
  obtain ⟨zb0, zr0, rfl, zg0, zn0⟩ := RepL.split hr'
  obtain ⟨zy0, rfl⟩ := list1 zg0.length.symm
  obtain ⟨rfl, zk0⟩ := zg0.1.leaf_eq
  obtain ⟨zb1, zr1, rfl, zg1, zn1⟩ := RepL.split zn0
  obtain ⟨zy1, rfl⟩ := list1 zg1.length.symm
  obtain ⟨za1, zc1, rfl, -, -⟩ := zg1.1.shape
  obtain ⟨zb2, zr2, rfl, zg2, zn2⟩ := RepL.split zn1
  obtain ⟨zx2_0, zx2_1, zx2_2, zx2_3, zx2_4, zx2_5, zx2_6, zx2_7, zx2_8, rfl⟩ := list9 (zg2.length.symm.trans l2)
  obtain rfl := RepL.nil_eq zn2
  clear hr'
  have G0 := Lib.hid g0
  have K0 := Lib.hid k0
  clear g0 n0 k0
  have G1 := Lib.hid g1
  clear g1 n1
  have G2 := Lib.hid g2
  clear g2 n2
  have zG0 := Lib.hid zg0
  have zK0 := Lib.hid zk0
  clear zg0 zn0 zk0
  have zG1 := Lib.hid zg1
  clear zg1 zn1
  have zG2 := Lib.hid zg2
  clear zg2 zn2
  simp only [List.cons_append, List.nil_append]
  go_enter Try.func260, Try.ntmps260
  go_wp2_with fail
  refine (h1 _ _ _ (G1.out.1.ext (.alloc (.alloc (.refl _) _) _)) (zG1.out.1.ext (.alloc (.alloc (.refl _) _) _))).mono ?_
  rintro e w1 ⟨rfl, hw1⟩
  have HW1 := Lib.hid hw1
  have ob1 := (Two.new w _ _ _ _).ext hw1
  have OBH := Lib.hid ob1
  have ce1 := ob1.o0.cell
  have cf1 := ob1.o1.cell
  clear hw1 ob1
  go_wp2_with fail
  refine (h2 _ _ _ (G2.out.ext (Ext.trans (.alloc (.alloc (.refl _) _) _) HW1.out)) (zG2.out.ext (Ext.trans (.alloc (.alloc (.refl _) _) _) HW1.out))).mono ?_
  rintro e w2 ⟨rfl, hw2⟩
  have HW2 := Lib.hid hw2
  have ob2 := OBH.out.ext hw2
  clear OBH ce1 cf1
  have OBH := Lib.hid ob2
  have ce2 := ob2.o0.cell
  have cf2 := ob2.o1.cell
  clear hw2 ob2
  go_wp2_with fail
  go_ret
  exact ⟨rfl, (Ext.trans (Ext.trans (.alloc (.alloc (.refl _) _) _) HW1.out) HW2.out)⟩

set_option maxRecDepth 100000 in
set_option maxHeartbeats 1000000 in
theorem szArmS_of (es : List (List Tr)) (h5 : ∀ e ∈ es, e.length = 11) (H : ∀ e ∈ es, SzC 258 e) : SzSC 247 11 es := by
  intro s left w hs h0 h1
  obtain ⟨a, cap, rfl, hl, hm⟩ := hs.shape
  unfold maxLen at hm
  have HS := Lib.hid hs
  have HH := Lib.hid H
  have H5 := Lib.hid h5
  clear hs H h5
  go_enter Try.func247, Try.ntmps247
  go_wp2_with fail
  · go_ret
    exact ⟨-1, rfl, .refl _, by omega, by omega, by omega⟩
  go_loopw [1, 5] (fun l i wr => ∃ (k : Nat) (r : Int), k ≤ es.length ∧ i = .int .i64 k ∧ l = .int .i64 r ∧ Ext w wr ∧ 0 ≤ r ∧ r + es.length + Tr.bulkAll (es.take k) ≤ left) (fun _ i _ => es.length - (intOf i).toNat)
  case atStart => exact ⟨0, _, Nat.zero_le _, rfl, rfl, .refl _, by omega, by simp [Tr.bulkAll]⟩
  case round =>
    obtain ⟨k, r, hk, rfl, rfl, hw, hr0, hrb⟩ := hrel
    by_cases hlt : k < es.length
    · obtain ⟨b, off, cs, rfl, hb, hcs, hc⟩ := (HS.out.ext hw).at2 (k := k) (List.getElem?_eq_getElem hlt)
      have hmem : es[k] ∈ es := List.getElem_mem hlt
      have l5 := H5.out _ hmem
      have hbt := Lib.hid (Tr.bulkAll_take es k hlt)
      have HCS := Lib.hid hcs
      have HC := Lib.hid hc
      have HM := Lib.hid hmem
      have HI : Hid ((Try.prog.info? 290).map (·.size) = some cs.length) := by rw [← hcs.length, l5]; exact isz290
      clear hcs hc hmem l5
      go_wp2_with (refine wpList_load_rep rfl 290 _ rfl b (off + k * 11) rfl cs _ Try.underlying290 HI.out HC.out ?_)
      refine (HH.out _ HM.out _ _ _ HCS.out hr0 (by omega)).mono ?_
      rintro e w1 ⟨r1, rfl, hw1, hr1, hr2, hr3⟩
      have HR3 := Lib.hid hr3
      have HW1 := Lib.hid hw1
      clear hr3 hw1
      go_wp2_with fail
      · go_ret
        exact ⟨-1, rfl, hw.trans HW1.out, by omega, by omega, by omega⟩
      · go_roundw
        case rel =>
          have p0 : 0 ≤ r1 := by assumption
          have e1 := HR3.out p0
          have e2 := hbt.out
          exact ⟨k + 1, r1, by omega, by go_num, rfl, hw.trans HW1.out, p0, by omega⟩
        case measure => simp [intOf]; omega
    · have hkl : k = es.length := by omega
      go_wp2_with fail
      go_ret
      refine ⟨r, rfl, hw, by omega, by omega, fun _ => ?_⟩
      rw [hkl, List.take_length] at hrb
      simp only [Tr.bulk]
      omega

set_option maxRecDepth 100000 in
set_option maxHeartbeats 1000000 in
theorem toArmS_of (es : List (List Tr)) (h5 : ∀ e ∈ es, e.length = 11) (H : ∀ e ∈ es, ToC 259 e) : ToSC 249 11 es := by
  intro s w hs hbk
  obtain ⟨a, cap, rfl, hl, hm⟩ := hs.shape
  unfold maxLen at hm
  have HS := Lib.hid hs
  have HH := Lib.hid H
  have H5 := Lib.hid h5
  have n0 : (0 : Int) ≤ es.length := by omega
  clear hs H h5
  go_enter Try.func249, Try.ntmps249
  go_wp2_with (refine wpList_make_rep rfl 210 (.tmp 6) rfl es.length rfl 258 Try.underlying210 11 184 iszb258 (by omega) (by omega) ?_; intro wm arr0 ha0 hob0 hx0 hz0; have HA0 := Lib.hid ha0; have HOB0 := Lib.hid hob0; have HX0 := Lib.hid hx0; have HZ0 := Lib.hid hz0; clear ha0 hob0 hx0 hz0)
  go_loopw [4] (fun i wr => ∃ (k : Nat) (arr : Array Value), k ≤ es.length ∧ i = .int .i64 k ∧ Ext w wr ∧ w.heap.size < wr.heap.size ∧ OB wr w.heap.size 258 arr ∧ arr.size = es.length * 11 ∧ Part wr w.heap.size arr 11 es k) (fun i _ => es.length - (intOf i).toNat)
  case atStart => exact ⟨0, arr0, Nat.zero_le _, rfl, HX0.out, by rw [HZ0.out]; omega, HOB0.out, HA0.out, Part.zero _ _ _ _ _⟩
  case round =>
    obtain ⟨k, arr, hk, rfl, hw, hgt, hob, hasz, hpart⟩ := hrel
    have HOB := Lib.hid hob
    have HAS := Lib.hid hasz
    have HP := Lib.hid hpart
    clear hob hasz hpart
    by_cases hlt : k < es.length
    · obtain ⟨b, off, cs, rfl, hb, hcs, hc⟩ := (HS.out.ext hw).at2 (k := k) (List.getElem?_eq_getElem hlt)
      have hmem : es[k] ∈ es := List.getElem_mem hlt
      have l5 := H5.out _ hmem
      have hbe := Tr.bulkAll_le hlt
      have HCS := Lib.hid hcs
      have HC := Lib.hid hc
      have HM := Lib.hid hmem
      have HL5 := Lib.hid l5
      have HI : Hid ((Try.prog.info? 290).map (·.size) = some cs.length) := by rw [← hcs.length, l5]; exact isz290
      clear hcs hc hmem l5
      go_wp2_with (refine wpList_load_rep rfl 290 (.tmp 18) rfl b (off + k * 11) rfl cs _ Try.underlying290 HI.out HC.out ?_)
      refine (HH.out _ HM.out _ _ HCS.out (by omega)).mono ?_
      rintro e w1 ⟨cs1, rfl, hw1, ho1⟩
      have HW1 := Lib.hid hw1
      have HO1 := Lib.hid ho1
      have hcl : cs1.length = 11 := ho1.1.trans HL5.out
      have HCL := Lib.hid hcl
      have hfit : 0 + k * 11 + cs1.length ≤ arr.size := by have := HAS.out; omega
      have HF := Lib.hid hfit
      clear hw1 ho1 hcl hfit
      go_wp2_with (refine wpList_store_rep rfl 258 (.tmp 21) (.tmp 20) rfl w.heap.size (k * 11) rfl cs1 rfl 258 arr (HOB.out.ext HW1.out) (by rw [HCL.out]; exact isz258) (by have := HF.out; omega) (HO1.out.rep.one) ?_; intro w2 hob2 hg2 hz2; have HOB2 := Lib.hid hob2; have HG2 := Lib.hid hg2; have HZ2 := Lib.hid hz2; clear hob2 hg2 hz2)
      go_roundw
      case rel =>
        have hfit : k * 11 + cs1.length ≤ arr.size := by have := HF.out; omega
        refine ⟨k + 1, _, by omega, by go_num, ?_, ?_, HOB2.out, by rw [splice_size hfit]; exact HAS.out, HP.out.step hgt HW1.out (List.getElem?_eq_getElem hlt) HO1.out HCL.out HAS.out HG2.out HOB2.out⟩
        · exact grown_ext (hw.trans HW1.out) HG2.out (Nat.le_refl _)
        · have := HW1.out.size
          have := HZ2.out
          omega
      case measure => simp [intOf]; omega
    · have hkl : k = es.length := by omega
      go_wp2_with fail
      go_ret
      subst hkl
      exact ⟨_, rfl, hw, (HP.out.done HOB.out H5.out (Nat.le_refl _) (by unfold maxLen; omega) (Nat.le_refl _)).mono fun x hx => ⟨hx.1, hx.2⟩⟩

set_option maxRecDepth 100000 in
set_option maxHeartbeats 1000000 in
theorem eqArmS_of (es : List (List Tr)) (h5 : ∀ e ∈ es, e.length = 11) (H : ∀ e ∈ es, EqC 260 e) : EqSC 251 11 es := by
  intro s u w hs hu
  obtain ⟨a, cap, rfl, hl, hm⟩ := hs.shape
  obtain ⟨a', cap', rfl, hl', hm'⟩ := hu.shape
  unfold maxLen at hm hm'
  have HS := Lib.hid hs
  have HU := Lib.hid hu
  have HH := Lib.hid H
  have H5 := Lib.hid h5
  clear hs hu H h5
  go_enter Try.func251, Try.ntmps251
  go_wp2_with fail
  go_loopw [5] (fun i wr => ∃ k : Nat, k ≤ es.length ∧ i = .int .i64 k ∧ Ext w wr) (fun i _ => es.length - (intOf i).toNat)
  case atStart => exact ⟨0, Nat.zero_le _, rfl, .refl _⟩
  case round =>
    obtain ⟨k, hk, rfl, hw⟩ := hrel
    by_cases hlt : k < es.length
    · obtain ⟨b, off, cs, rfl, hb, hcs, hc⟩ := (HS.out.ext hw).at2 (k := k) (List.getElem?_eq_getElem hlt)
      obtain ⟨b', off', ds, rfl, hb', hds, hd⟩ := (HU.out.ext hw).at2 (k := k) (List.getElem?_eq_getElem hlt)
      have hmem : es[k] ∈ es := List.getElem_mem hlt
      have l5 := H5.out _ hmem
      have HCS := Lib.hid hcs
      have HDS := Lib.hid hds
      have HM := Lib.hid hmem
      have HC := Lib.hid hc
      have HD := Lib.hid hd
      have HI : Hid ((Try.prog.info? 258).map (·.size) = some cs.length) := by rw [← hcs.length, l5]; exact isz258
      have HJ : Hid ((Try.prog.info? 258).map (·.size) = some ds.length) := by rw [← hds.length, l5]; exact isz258
      clear hcs hds hc hd l5 hmem
      go_wp2_with fail
      have ki : (k : Int) < (es.length : Int) := by omega
      have k0 : (0 : Int) ≤ (k : Int) := by omega
      refine wp_region_still_tail 8 (by kernel_rfl) (by kernel_rfl) ?_
      simp only [List.take_succ_cons, List.take_zero, List.drop_succ_cons, List.drop_zero]
      change wpStill _ _ wr.drew _ _ _
      repeat (first
        | (refine wpStill_load_rep rfl 258 (.tmp 19) rfl b (off + k * 11) rfl cs _ Try.underlying258 HI.out HC.out ?_; simp only [Act.put])
        | (refine wpStill_load_rep rfl 258 (.tmp 23) rfl b' (off' + k * 11) rfl ds _ Try.underlying258 HJ.out HD.out ?_; simp only [Act.put])
        | still_step)
      refine wpStill_nil ?_
      change wpList _ _ _ _ _ wr.drew
      go_wp2_with fail
      refine (HH.out _ HM.out _ _ _ (HCS.out.ext (.drew (.refl _))) (HDS.out.ext (.drew (.refl _)))).mono ?_
      rintro e w1 ⟨rfl, hw1⟩
      have HW1 := Lib.hid hw1
      clear hw1
      go_wp2_with fail
      go_roundw
      case rel => exact ⟨k + 1, by omega, by go_num, hw.trans (.trans (.drew (.refl _)) HW1.out)⟩
      case measure => simp [intOf]; omega
    · go_wp2_with fail
      go_ret
      exact ⟨rfl, hw⟩

end Go.Proofs.Ytoifjkggpanceaa

namespace Go.Proofs.Ytoifjkggpanceaa
open Go.RowKit Go.Proofs

set_option maxRecDepth 100000 in
set_option maxHeartbeats 1000000 in
theorem szMethod_of (v0 : ByteArray) (es1 : List (List Tr)) (ts2 : List Tr) (l2 : ts2.length = 9) (h1 : SzSC 149 1 es1) (h2 : SzC 227 ts2) : SzC 191 ([.leaf (.string v0)] ++ ([.row 1 es1] ++ (ts2 ++ ([])))) := by
  intro cs left w hr hl0 hl1
  obtain ⟨b0, r0, rfl, g0, n0⟩ := RepL.split hr
  obtain ⟨y0, rfl⟩ := list1 g0.length.symm
  obtain ⟨rfl, k0⟩ := g0.1.leaf_eq
  obtain ⟨b1, r1, rfl, g1, n1⟩ := RepL.split n0
  obtain ⟨y1, rfl⟩ := list1 g1.length.symm
  obtain ⟨a1, c1, rfl, -, -⟩ := g1.1.shape
  obtain ⟨b2, r2, rfl, g2, n2⟩ := RepL.split n1
  obtain ⟨x2_0, x2_1, x2_2, x2_3, x2_4, x2_5, x2_6, x2_7, x2_8, rfl⟩ := list9 (g2.length.symm.trans l2)
  obtain rfl := RepL.nil_eq n2
  clear hr
  have q0 : v0.size ≤ 9223372036854775807 := by have := k0; simp only [LeafOk, maxLen] at this; omega
  have G0 := Lib.hid g0
  have K0 := Lib.hid k0
  clear g0 n0 k0
  have G1 := Lib.hid g1
  clear g1 n1
  have G2 := Lib.hid g2
  clear g2 n2
  simp only [List.cons_append, List.nil_append]
  go_enter Try.func191, Try.ntmps191
  go_wp2_with fail
  · go_ret
    exact ⟨-1, rfl, (.alloc (.refl _) _), by omega, by omega, by omega⟩
  refine (h1 _ _ _ (G1.out.1.ext (.alloc (.refl _) _)) (by omega) (by omega)).mono ?_
  rintro e w1 ⟨r1, rfl, hw1, ra1, rb1, rc1⟩
  have HW1 := Lib.hid hw1
  have HR1 := Lib.hid rc1
  have ob1 := (OB.new w _ _).ext hw1
  have OBH := Lib.hid ob1
  have ce1 := ob1.cell
  clear hw1 rc1 ob1
  go_wp2_with fail
  · go_ret
    exact ⟨-1, rfl, (Ext.trans (.alloc (.refl _) _) HW1.out), by omega, by omega, by omega⟩
  refine (h2 _ _ _ (G2.out.ext (Ext.trans (.alloc (.refl _) _) HW1.out)) (by omega) (by omega)).mono ?_
  rintro e w2 ⟨r2, rfl, hw2, ra2, rb2, rc2⟩
  have HW2 := Lib.hid hw2
  have HR2 := Lib.hid rc2
  have ob2 := OBH.out.ext hw2
  clear OBH ce1
  have OBH := Lib.hid ob2
  have ce2 := ob2.cell
  clear hw2 rc2 ob2
  go_wp2_with fail
  · go_ret
    exact ⟨-1, rfl, (Ext.trans (Ext.trans (.alloc (.refl _) _) HW1.out) HW2.out), by omega, by omega, by omega⟩
  go_ret
  refine ⟨_, rfl, (Ext.trans (Ext.trans (.alloc (.refl _) _) HW1.out) HW2.out), by omega, by omega, fun hp => ?_⟩
  have e1 := HR1.out (by omega)
  have e2 := HR2.out (by omega)
  simp only [Tr.bulkL_append, Tr.bulkL, Tr.bulk]
  simp only [Tr.bulk] at e1
  omega

set_option maxRecDepth 100000 in
set_option maxHeartbeats 1000000 in
theorem toMethod_of (v0 : ByteArray) (es1 : List (List Tr)) (ts2 : List Tr) (l2 : ts2.length = 9) (h1 : ToSC 151 1 es1) (h2 : ToC 228 ts2) : ToC 192 ([.leaf (.string v0)] ++ ([.row 1 es1] ++ (ts2 ++ ([])))) := by
  intro cs w hr hbk
  simp only [Tr.bulkL_append, Tr.bulkL, Tr.bulk] at hbk
  obtain ⟨b0, r0, rfl, g0, n0⟩ := RepL.split hr
  obtain ⟨y0, rfl⟩ := list1 g0.length.symm
  obtain ⟨rfl, k0⟩ := g0.1.leaf_eq
  obtain ⟨b1, r1, rfl, g1, n1⟩ := RepL.split n0
  obtain ⟨y1, rfl⟩ := list1 g1.length.symm
  obtain ⟨a1, c1, rfl, -, -⟩ := g1.1.shape
  obtain ⟨b2, r2, rfl, g2, n2⟩ := RepL.split n1
  obtain ⟨x2_0, x2_1, x2_2, x2_3, x2_4, x2_5, x2_6, x2_7, x2_8, rfl⟩ := list9 (g2.length.symm.trans l2)
  obtain rfl := RepL.nil_eq n2
  clear hr
  have G0 := Lib.hid g0
  have K0 := Lib.hid k0
  clear g0 n0 k0
  have G1 := Lib.hid g1
  clear g1 n1
  have G2 := Lib.hid g2
  clear g2 n2
  simp only [List.cons_append, List.nil_append]
  go_enter Try.func192, Try.ntmps192
  go_wp2_with fail
  refine (h1 _ _ (G1.out.1.ext (.alloc (.alloc (.alloc (.refl _) _) _) _)) (by omega)).mono ?_
  rintro e w1 ⟨d1, rfl, hw1, ho1⟩
  obtain ⟨da1, dc1, rfl, -, -⟩ := ho1.rep.shape
  have HW1 := Lib.hid hw1
  have HO1 := Lib.hid ho1
  have ob1 := (Three.new w _ _ _ _ _ _).ext hw1
  have OBHw1 := Lib.hid ob1
  have cew1 := ob1.o0.cell
  have hzw1 : w.heap.size < w1.heap.size := ob1.o0.lt
  clear hw1 ob1 ho1
  go_wp2_with (first
    | (refine wpList_store_cell rfl 66 _ _ rfl (w.heap.size + 1 + 1) 1 rfl (.slice da1 es1.length dc1) rfl rfl 219 _ OBHw1.out.o2 isz66 (by simp [splice]) rfl ?_; intro u1 hou1 hgu1 hzu1; have OBHu1 := Lib.hid (OBHw1.out.grown hgu1 hou1 (by omega) (by omega)); have HGu1 := Lib.hid hgu1; have ceu1 := OBHu1.out.o0.cell; have hqu1 : w.heap.size < u1.heap.size := OBHu1.out.o0.lt; clear hou1 hgu1 hzu1 OBHw1 cew1))
  refine (h2 _ _ (G2.out.ext (grown_ext (Ext.trans (.alloc (.alloc (.alloc (.refl _) _) _) _) HW1.out) HGu1.out (by omega))) (by omega)).mono ?_
  rintro e w2 ⟨d2, rfl, hw2, ho2⟩
  obtain ⟨d2_0, d2_1, d2_2, d2_3, d2_4, d2_5, d2_6, d2_7, d2_8, rfl⟩ := list9 (ho2.1.trans l2)
  have HW2 := Lib.hid hw2
  have HO2 := Lib.hid ho2
  have ob2 := OBHu1.out.ext hw2
  clear OBHu1 ceu1
  have OBHw2 := Lib.hid ob2
  have cew2 := ob2.o0.cell
  have hzw2 : w.heap.size < w2.heap.size := ob2.o0.lt
  clear hw2 ob2 ho2
  have hone : Hid (∀ v ∈ ([.string v0, .slice da1 es1.length dc1, d2_0, d2_1, d2_2, d2_3, d2_4, d2_5, d2_6, d2_7, d2_8] : List Value), v.oneCell' = true) := by
    intro v hv
    simp only [List.mem_cons, List.not_mem_nil, or_false] at hv
    rcases hv with rfl | rfl | rfl | rfl | rfl | rfl | rfl | rfl | rfl | rfl | rfl <;> first | rfl | (refine HO2.out.rep.one _ ?_; simp; done)
  go_wp2_with (first
    | (refine wpList_store_rep rfl 212 _ _ rfl (w.heap.size + 1 + 1) 2 rfl [d2_0, d2_1, d2_2, d2_3, d2_4, d2_5, d2_6, d2_7, d2_8] rfl 219 _ OBHw2.out.o2 isz212 (by simp [splice]) HO2.out.rep.one ?_; intro u2 hou2 hgu2 hzu2; have OBHu2 := Lib.hid (OBHw2.out.grown hgu2 hou2 (by omega) (by omega)); have HGu2 := Lib.hid hgu2; have ceu2 := OBHu2.out.o0.cell; have hqu2 : w.heap.size < u2.heap.size := OBHu2.out.o0.lt; clear hou2 hgu2 hzu2 OBHw2 cew2)
    | (refine wpList_load_rep rfl 219 _ rfl (w.heap.size + 1 + 1) 0 rfl [.string v0, .slice da1 es1.length dc1, d2_0, d2_1, d2_2, d2_3, d2_4, d2_5, d2_6, d2_7, d2_8] _ Try.underlying219 isz219 (fun j v hv => by rw [OBHu2.out.o2.cell, Nat.zero_add]; simpa [splice] using hv) ?_)
    | (refine wpList_store_rep rfl 219 _ _ rfl (w.heap.size + 1) 0 rfl [.string v0, .slice da1 es1.length dc1, d2_0, d2_1, d2_2, d2_3, d2_4, d2_5, d2_6, d2_7, d2_8] rfl 219 _ OBHu2.out.o1 isz219 (by simp) hone.out ?_; intro wz hoz hgz hzz; have HOZ := Lib.hid hoz; have HGZ := Lib.hid hgz; clear hoz hgz hzz))
  have HOF : OB wz (w.heap.size + 1) 219 ⟨[.string v0, .slice da1 es1.length dc1, d2_0, d2_1, d2_2, d2_3, d2_4, d2_5, d2_6, d2_7, d2_8]⟩ := HOZ.out
  refine bodyPost_ret (results_cell_row Try.results192 _ _ (w.heap.size + 1) 219 ⟨[.string v0, .slice da1 es1.length dc1, d2_0, d2_1, d2_2, d2_3, d2_4, d2_5, d2_6, d2_7, d2_8]⟩ _ _ rfl HOF Try.underlying219 rfl isz219) rfl ⟨[.string v0, .slice da1 es1.length dc1, d2_0, d2_1, d2_2, d2_3, d2_4, d2_5, d2_6, d2_7, d2_8], rfl, (grown_ext (grown_ext (Ext.trans (grown_ext (Ext.trans (.alloc (.alloc (.alloc (.refl _) _) _) _) HW1.out) HGu1.out (by omega)) HW2.out) HGu2.out (by omega)) HGZ.out (by omega)), ?_⟩
  have sw1 := HW1.out.size
  have su1 := HGu1.out.size
  have sw2 := HW2.out.size
  have su2 := HGu2.out.size
  have swz := HGZ.out.size
  simp only [World.size_alloc] at sw1
  have ow1 := HO1.out.keeps (lo := w.heap.size + 1 + 1 + 1) (Keeps.trans (Keeps.of_grown HGu1.out (by omega)) (Keeps.trans (Keeps.of_ext HW2.out) (Keeps.trans (Keeps.of_grown HGu2.out (by omega)) (Keeps.of_grown HGZ.out (by omega))))) (by intro x hx; simp only [Between, World.size_alloc] at hx; omega)
  have ow2 := HO2.out.keeps (lo := w.heap.size + 1 + 1 + 1) (Keeps.trans (Keeps.of_grown HGu2.out (by omega)) (Keeps.of_grown HGZ.out (by omega))) (by intro x hx; simp only [Between, World.size_alloc] at hx; omega)
  have hall := OwnL.cons_leaf K0.out (OwnL.append (OwnL.one ow1) (OwnL.append (ow2) (OwnL.nil wz (fun _ => False)) (by intro x hx hy; simp only [Between, World.size_alloc, or_false] at hx hy <;> omega)) (by intro x hx hy; simp only [Between, World.size_alloc, or_false] at hx hy <;> omega))
  exact hall.mono (by intro x hx; simp only [Between, World.size_alloc, or_false] at hx ⊢; omega)

set_option maxRecDepth 100000 in
set_option maxHeartbeats 1000000 in
theorem eqMethod_of (v0 : ByteArray) (es1 : List (List Tr)) (ts2 : List Tr) (l2 : ts2.length = 9) (h1 : EqSC 153 1 es1) (h2 : EqC 229 ts2) : EqC 193 ([.leaf (.string v0)] ++ ([.row 1 es1] ++ (ts2 ++ ([])))) := by
  intro cs ds w hr hr'
  obtain ⟨b0, r0, rfl, g0, n0⟩ := RepL.split hr
  obtain ⟨y0, rfl⟩ := list1 g0.length.symm
  obtain ⟨rfl, k0⟩ := g0.1.leaf_eq
  obtain ⟨b1, r1, rfl, g1, n1⟩ := RepL.split n0
  obtain ⟨y1, rfl⟩ := list1 g1.length.symm
  obtain ⟨a1, c1, rfl, -, -⟩ := g1.1.shape
  obtain ⟨b2, r2, rfl, g2, n2⟩ := RepL.split n1
  obtain ⟨x2_0, x2_1, x2_2, x2_3, x2_4, x2_5, x2_6, x2_7, x2_8, rfl⟩ := list9 (g2.length.symm.trans l2)
  obtain rfl := RepL.nil_eq n2
  clear hr
  obtain ⟨zb0, zr0, rfl, zg0, zn0⟩ := RepL.split hr'
  obtain ⟨zy0, rfl⟩ := list1 zg0.length.symm
  obtain ⟨rfl, zk0⟩ := zg0.1.leaf_eq
  obtain ⟨zb1, zr1, rfl, zg1, zn1⟩ := RepL.split zn0
  obtain ⟨zy1, rfl⟩ := list1 zg1.length.symm
  obtain ⟨za1, zc1, rfl, -, -⟩ := zg1.1.shape
  obtain ⟨zb2, zr2, rfl, zg2, zn2⟩ := RepL.split zn1
  obtain ⟨zx2_0, zx2_1, zx2_2, zx2_3, zx2_4, zx2_5, zx2_6, zx2_7, zx2_8, rfl⟩ := list9 (zg2.length.symm.trans l2)
  obtain rfl := RepL.nil_eq zn2
  clear hr'
  have G0 := Lib.hid g0
  have K0 := Lib.hid k0
  clear g0 n0 k0
  have G1 := Lib.hid g1
  clear g1 n1
  have G2 := Lib.hid g2
  clear g2 n2
  have zG0 := Lib.hid zg0
  have zK0 := Lib.hid zk0
  clear zg0 zn0 zk0
  have zG1 := Lib.hid zg1
  clear zg1 zn1
  have zG2 := Lib.hid zg2
  clear zg2 zn2
  simp only [List.cons_append, List.nil_append]
  go_enter Try.func193, Try.ntmps193
  go_wp2_with fail
  refine (h1 _ _ _ (G1.out.1.ext (.alloc (.alloc (.refl _) _) _)) (zG1.out.1.ext (.alloc (.alloc (.refl _) _) _))).mono ?_
  rintro e w1 ⟨rfl, hw1⟩
  have HW1 := Lib.hid hw1
  have ob1 := (Two.new w _ _ _ _).ext hw1
  have OBH := Lib.hid ob1
  have ce1 := ob1.o0.cell
  have cf1 := ob1.o1.cell
  clear hw1 ob1
  go_wp2_with fail
  refine (h2 _ _ _ (G2.out.ext (Ext.trans (.alloc (.alloc (.refl _) _) _) HW1.out)) (zG2.out.ext (Ext.trans (.alloc (.alloc (.refl _) _) _) HW1.out))).mono ?_
  rintro e w2 ⟨rfl, hw2⟩
  have HW2 := Lib.hid hw2
  have ob2 := OBH.out.ext hw2
  clear OBH ce1 cf1
  have OBH := Lib.hid ob2
  have ce2 := ob2.o0.cell
  have cf2 := ob2.o1.cell
  clear hw2 ob2
  go_wp2_with fail
  go_ret
  exact ⟨rfl, (Ext.trans (Ext.trans (.alloc (.alloc (.refl _) _) _) HW1.out) HW2.out)⟩

set_option maxRecDepth 100000 in
set_option maxHeartbeats 1000000 in
theorem szMethodS_of (es : List (List Tr)) (h5 : ∀ e ∈ es, e.length = 11) (H : ∀ e ∈ es, SzC 191 e) : SzSC 150 11 es := by
  intro s left w hs h0 h1
  obtain ⟨a, cap, rfl, hl, hm⟩ := hs.shape
  unfold maxLen at hm
  have HS := Lib.hid hs
  have HH := Lib.hid H
  have H5 := Lib.hid h5
  clear hs H h5
  go_enter Try.func150, Try.ntmps150
  go_wp2_with fail
  · go_ret
    exact ⟨-1, rfl, .refl _, by omega, by omega, by omega⟩
  go_loopw [1, 5] (fun l i wr => ∃ (k : Nat) (r : Int), k ≤ es.length ∧ i = .int .i64 k ∧ l = .int .i64 r ∧ Ext w wr ∧ 0 ≤ r ∧ r + es.length + Tr.bulkAll (es.take k) ≤ left) (fun _ i _ => es.length - (intOf i).toNat)
  case atStart => exact ⟨0, _, Nat.zero_le _, rfl, rfl, .refl _, by omega, by simp [Tr.bulkAll]⟩
  case round =>
    obtain ⟨k, r, hk, rfl, rfl, hw, hr0, hrb⟩ := hrel
    by_cases hlt : k < es.length
    · obtain ⟨b, off, cs, rfl, hb, hcs, hc⟩ := (HS.out.ext hw).at2 (k := k) (List.getElem?_eq_getElem hlt)
      have hmem : es[k] ∈ es := List.getElem_mem hlt
      have l5 := H5.out _ hmem
      have hbt := Lib.hid (Tr.bulkAll_take es k hlt)
      have HCS := Lib.hid hcs
      have HC := Lib.hid hc
      have HM := Lib.hid hmem
      have HI : Hid ((Try.prog.info? 240).map (·.size) = some cs.length) := by rw [← hcs.length, l5]; exact isz240
      clear hcs hc hmem l5
      go_wp2_with (refine wpList_load_rep rfl 240 _ rfl b (off + k * 11) rfl cs _ Try.underlying240 HI.out HC.out ?_)
      refine (HH.out _ HM.out _ _ _ HCS.out hr0 (by omega)).mono ?_
      rintro e w1 ⟨r1, rfl, hw1, hr1, hr2, hr3⟩
      have HR3 := Lib.hid hr3
      have HW1 := Lib.hid hw1
      clear hr3 hw1
      go_wp2_with fail
      · go_ret
        exact ⟨-1, rfl, hw.trans HW1.out, by omega, by omega, by omega⟩
      · go_roundw
        case rel =>
          have p0 : 0 ≤ r1 := by assumption
          have e1 := HR3.out p0
          have e2 := hbt.out
          exact ⟨k + 1, r1, by omega, by go_num, rfl, hw.trans HW1.out, p0, by omega⟩
        case measure => simp [intOf]; omega
    · have hkl : k = es.length := by omega
      go_wp2_with fail
      go_ret
      refine ⟨r, rfl, hw, by omega, by omega, fun _ => ?_⟩
      rw [hkl, List.take_length] at hrb
      simp only [Tr.bulk]
      omega

set_option maxRecDepth 100000 in
set_option maxHeartbeats 1000000 in
theorem toMethodS_of (es : List (List Tr)) (h5 : ∀ e ∈ es, e.length = 11) (H : ∀ e ∈ es, ToC 192 e) : ToSC 152 11 es := by
  intro s w hs hbk
  obtain ⟨a, cap, rfl, hl, hm⟩ := hs.shape
  unfold maxLen at hm
  have HS := Lib.hid hs
  have HH := Lib.hid H
  have H5 := Lib.hid h5
  have n0 : (0 : Int) ≤ es.length := by omega
  clear hs H h5
  go_enter Try.func152, Try.ntmps152
  go_wp2_with (refine wpList_make_rep rfl 92 (.tmp 6) rfl es.length rfl 219 Try.underlying92 11 184 iszb219 (by omega) (by omega) ?_; intro wm arr0 ha0 hob0 hx0 hz0; have HA0 := Lib.hid ha0; have HOB0 := Lib.hid hob0; have HX0 := Lib.hid hx0; have HZ0 := Lib.hid hz0; clear ha0 hob0 hx0 hz0)
  go_loopw [4] (fun i wr => ∃ (k : Nat) (arr : Array Value), k ≤ es.length ∧ i = .int .i64 k ∧ Ext w wr ∧ w.heap.size < wr.heap.size ∧ OB wr w.heap.size 219 arr ∧ arr.size = es.length * 11 ∧ Part wr w.heap.size arr 11 es k) (fun i _ => es.length - (intOf i).toNat)
  case atStart => exact ⟨0, arr0, Nat.zero_le _, rfl, HX0.out, by rw [HZ0.out]; omega, HOB0.out, HA0.out, Part.zero _ _ _ _ _⟩
  case round =>
    obtain ⟨k, arr, hk, rfl, hw, hgt, hob, hasz, hpart⟩ := hrel
    have HOB := Lib.hid hob
    have HAS := Lib.hid hasz
    have HP := Lib.hid hpart
    clear hob hasz hpart
    by_cases hlt : k < es.length
    · obtain ⟨b, off, cs, rfl, hb, hcs, hc⟩ := (HS.out.ext hw).at2 (k := k) (List.getElem?_eq_getElem hlt)
      have hmem : es[k] ∈ es := List.getElem_mem hlt
      have l5 := H5.out _ hmem
      have hbe := Tr.bulkAll_le hlt
      have HCS := Lib.hid hcs
      have HC := Lib.hid hc
      have HM := Lib.hid hmem
      have HL5 := Lib.hid l5
      have HI : Hid ((Try.prog.info? 240).map (·.size) = some cs.length) := by rw [← hcs.length, l5]; exact isz240
      clear hcs hc hmem l5
      go_wp2_with (refine wpList_load_rep rfl 240 (.tmp 18) rfl b (off + k * 11) rfl cs _ Try.underlying240 HI.out HC.out ?_)
      refine (HH.out _ HM.out _ _ HCS.out (by omega)).mono ?_
      rintro e w1 ⟨cs1, rfl, hw1, ho1⟩
      have HW1 := Lib.hid hw1
      have HO1 := Lib.hid ho1
      have hcl : cs1.length = 11 := ho1.1.trans HL5.out
      have HCL := Lib.hid hcl
      have hfit : 0 + k * 11 + cs1.length ≤ arr.size := by have := HAS.out; omega
      have HF := Lib.hid hfit
      clear hw1 ho1 hcl hfit
      go_wp2_with (refine wpList_store_rep rfl 219 (.tmp 21) (.tmp 20) rfl w.heap.size (k * 11) rfl cs1 rfl 219 arr (HOB.out.ext HW1.out) (by rw [HCL.out]; exact isz219) (by have := HF.out; omega) (HO1.out.rep.one) ?_; intro w2 hob2 hg2 hz2; have HOB2 := Lib.hid hob2; have HG2 := Lib.hid hg2; have HZ2 := Lib.hid hz2; clear hob2 hg2 hz2)
      go_roundw
      case rel =>
        have hfit : k * 11 + cs1.length ≤ arr.size := by have := HF.out; omega
        refine ⟨k + 1, _, by omega, by go_num, ?_, ?_, HOB2.out, by rw [splice_size hfit]; exact HAS.out, HP.out.step hgt HW1.out (List.getElem?_eq_getElem hlt) HO1.out HCL.out HAS.out HG2.out HOB2.out⟩
        · exact grown_ext (hw.trans HW1.out) HG2.out (Nat.le_refl _)
        · have := HW1.out.size
          have := HZ2.out
          omega
      case measure => simp [intOf]; omega
    · have hkl : k = es.length := by omega
      go_wp2_with fail
      go_ret
      subst hkl
      exact ⟨_, rfl, hw, (HP.out.done HOB.out H5.out (Nat.le_refl _) (by unfold maxLen; omega) (Nat.le_refl _)).mono fun x hx => ⟨hx.1, hx.2⟩⟩

set_option maxRecDepth 100000 in
set_option maxHeartbeats 1000000 in
theorem eqMethodS_of (es : List (List Tr)) (h5 : ∀ e ∈ es, e.length = 11) (H : ∀ e ∈ es, EqC 193 e) : EqSC 154 11 es := by
  intro s u w hs hu
  obtain ⟨a, cap, rfl, hl, hm⟩ := hs.shape
  obtain ⟨a', cap', rfl, hl', hm'⟩ := hu.shape
  unfold maxLen at hm hm'
  have HS := Lib.hid hs
  have HU := Lib.hid hu
  have HH := Lib.hid H
  have H5 := Lib.hid h5
  clear hs hu H h5
  go_enter Try.func154, Try.ntmps154
  go_wp2_with fail
  go_loopw [5] (fun i wr => ∃ k : Nat, k ≤ es.length ∧ i = .int .i64 k ∧ Ext w wr) (fun i _ => es.length - (intOf i).toNat)
  case atStart => exact ⟨0, Nat.zero_le _, rfl, .refl _⟩
  case round =>
    obtain ⟨k, hk, rfl, hw⟩ := hrel
    by_cases hlt : k < es.length
    · obtain ⟨b, off, cs, rfl, hb, hcs, hc⟩ := (HS.out.ext hw).at2 (k := k) (List.getElem?_eq_getElem hlt)
      obtain ⟨b', off', ds, rfl, hb', hds, hd⟩ := (HU.out.ext hw).at2 (k := k) (List.getElem?_eq_getElem hlt)
      have hmem : es[k] ∈ es := List.getElem_mem hlt
      have l5 := H5.out _ hmem
      have HCS := Lib.hid hcs
      have HDS := Lib.hid hds
      have HM := Lib.hid hmem
      have HC := Lib.hid hc
      have HD := Lib.hid hd
      have HI : Hid ((Try.prog.info? 219).map (·.size) = some cs.length) := by rw [← hcs.length, l5]; exact isz219
      have HJ : Hid ((Try.prog.info? 219).map (·.size) = some ds.length) := by rw [← hds.length, l5]; exact isz219
      clear hcs hds hc hd l5 hmem
      go_wp2_with fail
      have ki : (k : Int) < (es.length : Int) := by omega
      have k0 : (0 : Int) ≤ (k : Int) := by omega
      refine wp_region_still_tail 8 (by kernel_rfl) (by kernel_rfl) ?_
      simp only [List.take_succ_cons, List.take_zero, List.drop_succ_cons, List.drop_zero]
      change wpStill _ _ wr.drew _ _ _
      repeat (first
        | (refine wpStill_load_rep rfl 219 (.tmp 19) rfl b (off + k * 11) rfl cs _ Try.underlying219 HI.out HC.out ?_; simp only [Act.put])
        | (refine wpStill_load_rep rfl 219 (.tmp 23) rfl b' (off' + k * 11) rfl ds _ Try.underlying219 HJ.out HD.out ?_; simp only [Act.put])
        | still_step)
      refine wpStill_nil ?_
      change wpList _ _ _ _ _ wr.drew
      go_wp2_with fail
      refine (HH.out _ HM.out _ _ _ (HCS.out.ext (.drew (.refl _))) (HDS.out.ext (.drew (.refl _)))).mono ?_
      rintro e w1 ⟨rfl, hw1⟩
      have HW1 := Lib.hid hw1
      clear hw1
      go_wp2_with fail
      go_roundw
      case rel => exact ⟨k + 1, by omega, by go_num, hw.trans (.trans (.drew (.refl _)) HW1.out)⟩
      case measure => simp [intOf]; omega
    · go_wp2_with fail
      go_ret
      exact ⟨rfl, hw⟩

end Go.Proofs.Ytoifjkggpanceaa

namespace Go.Proofs.Ytoifjkggpanceaa
open Go.RowKit Go.Proofs

set_option maxRecDepth 100000 in
set_option maxHeartbeats 1000000 in
theorem szInstance_of (v0 : ByteArray) (es1 : List (List Tr)) (ts2 : List Tr) (l2 : ts2.length = 3) (es3 : List (List Tr)) (v4 : Bool) (v5 : Bool) (ts6 : List Tr) (l6 : ts6.length = 3) (es7 : List (List Tr)) (h1 : SzSC 149 1 es1) (h2 : SzC 16 ts2) (h3 : SzSC 132 4 es3) (h6 : SzC 16 ts6) (h7 : SzSC 150 11 es7) : SzC 74 ([.leaf (.string v0)] ++ ([.row 1 es1] ++ (ts2 ++ ([.row 4 es3] ++ ([.leaf (.bool v4)] ++ ([.leaf (.bool v5)] ++ (ts6 ++ ([.row 11 es7] ++ ([]))))))))) := by
  intro cs left w hr hl0 hl1
  obtain ⟨b0, r0, rfl, g0, n0⟩ := RepL.split hr
  obtain ⟨y0, rfl⟩ := list1 g0.length.symm
  obtain ⟨rfl, k0⟩ := g0.1.leaf_eq
  obtain ⟨b1, r1, rfl, g1, n1⟩ := RepL.split n0
  obtain ⟨y1, rfl⟩ := list1 g1.length.symm
  obtain ⟨a1, c1, rfl, -, -⟩ := g1.1.shape
  obtain ⟨b2, r2, rfl, g2, n2⟩ := RepL.split n1
  obtain ⟨x2_0, x2_1, x2_2, rfl⟩ := list3 (g2.length.symm.trans l2)
  obtain ⟨b3, r3, rfl, g3, n3⟩ := RepL.split n2
  obtain ⟨y3, rfl⟩ := list1 g3.length.symm
  obtain ⟨a3, c3, rfl, -, -⟩ := g3.1.shape
  obtain ⟨b4, r4, rfl, g4, n4⟩ := RepL.split n3
  obtain ⟨y4, rfl⟩ := list1 g4.length.symm
  obtain ⟨rfl, k4⟩ := g4.1.leaf_eq
  obtain ⟨b5, r5, rfl, g5, n5⟩ := RepL.split n4
  obtain ⟨y5, rfl⟩ := list1 g5.length.symm
  obtain ⟨rfl, k5⟩ := g5.1.leaf_eq
  obtain ⟨b6, r6, rfl, g6, n6⟩ := RepL.split n5
  obtain ⟨x6_0, x6_1, x6_2, rfl⟩ := list3 (g6.length.symm.trans l6)
  obtain ⟨b7, r7, rfl, g7, n7⟩ := RepL.split n6
  obtain ⟨y7, rfl⟩ := list1 g7.length.symm
  obtain ⟨a7, c7, rfl, -, -⟩ := g7.1.shape
  obtain rfl := RepL.nil_eq n7
  clear hr
  have q0 : v0.size ≤ 9223372036854775807 := by have := k0; simp only [LeafOk, maxLen] at this; omega
  have G0 := Lib.hid g0
  have K0 := Lib.hid k0
  clear g0 n0 k0
  have G1 := Lib.hid g1
  clear g1 n1
  have G2 := Lib.hid g2
  clear g2 n2
  have G3 := Lib.hid g3
  clear g3 n3
  have G4 := Lib.hid g4
  have K4 := Lib.hid k4
  clear g4 n4 k4
  have G5 := Lib.hid g5
  have K5 := Lib.hid k5
  clear g5 n5 k5
  have G6 := Lib.hid g6
  clear g6 n6
  have G7 := Lib.hid g7
  clear g7 n7
  simp only [List.cons_append, List.nil_append]
  go_enter Try.func74, Try.ntmps74
  go_wp2_with fail
  · go_ret
    exact ⟨-1, rfl, (.alloc (.refl _) _), by omega, by omega, by omega⟩
  refine (h1 _ _ _ (G1.out.1.ext (.alloc (.refl _) _)) (by omega) (by omega)).mono ?_
  rintro e w1 ⟨r1, rfl, hw1, ra1, rb1, rc1⟩
  have HW1 := Lib.hid hw1
  have HR1 := Lib.hid rc1
  have ob1 := (OB.new w _ _).ext hw1
  have OBH := Lib.hid ob1
  have ce1 := ob1.cell
  clear hw1 rc1 ob1
  go_wp2_with fail
  · go_ret
    exact ⟨-1, rfl, (Ext.trans (.alloc (.refl _) _) HW1.out), by omega, by omega, by omega⟩
  refine (h2 _ _ _ (G2.out.ext (Ext.trans (.alloc (.refl _) _) HW1.out)) (by omega) (by omega)).mono ?_
  rintro e w2 ⟨r2, rfl, hw2, ra2, rb2, rc2⟩
  have HW2 := Lib.hid hw2
  have HR2 := Lib.hid rc2
  have ob2 := OBH.out.ext hw2
  clear OBH ce1
  have OBH := Lib.hid ob2
  have ce2 := ob2.cell
  clear hw2 rc2 ob2
  go_wp2_with fail
  · go_ret
    exact ⟨-1, rfl, (Ext.trans (Ext.trans (.alloc (.refl _) _) HW1.out) HW2.out), by omega, by omega, by omega⟩
  refine (h3 _ _ _ (G3.out.1.ext (Ext.trans (Ext.trans (.alloc (.refl _) _) HW1.out) HW2.out)) (by omega) (by omega)).mono ?_
  rintro e w3 ⟨r3, rfl, hw3, ra3, rb3, rc3⟩
  have HW3 := Lib.hid hw3
  have HR3 := Lib.hid rc3
  have ob3 := OBH.out.ext hw3
  clear OBH ce2
  have OBH := Lib.hid ob3
  have ce3 := ob3.cell
  clear hw3 rc3 ob3
  go_wp2_with fail
  · go_ret
    exact ⟨-1, rfl, (Ext.trans (Ext.trans (Ext.trans (.alloc (.refl _) _) HW1.out) HW2.out) HW3.out), by omega, by omega, by omega⟩
  refine (h6 _ _ _ (G6.out.ext (Ext.trans (Ext.trans (Ext.trans (.alloc (.refl _) _) HW1.out) HW2.out) HW3.out)) (by omega) (by omega)).mono ?_
  rintro e w6 ⟨r6, rfl, hw6, ra6, rb6, rc6⟩
  have HW6 := Lib.hid hw6
  have HR6 := Lib.hid rc6
  have ob6 := OBH.out.ext hw6
  clear OBH ce3
  have OBH := Lib.hid ob6
  have ce6 := ob6.cell
  clear hw6 rc6 ob6
  go_wp2_with fail
  · go_ret
    exact ⟨-1, rfl, (Ext.trans (Ext.trans (Ext.trans (Ext.trans (.alloc (.refl _) _) HW1.out) HW2.out) HW3.out) HW6.out), by omega, by omega, by omega⟩
  refine (h7 _ _ _ (G7.out.1.ext (Ext.trans (Ext.trans (Ext.trans (Ext.trans (.alloc (.refl _) _) HW1.out) HW2.out) HW3.out) HW6.out)) (by omega) (by omega)).mono ?_
  rintro e w7 ⟨r7, rfl, hw7, ra7, rb7, rc7⟩
  have HW7 := Lib.hid hw7
  have HR7 := Lib.hid rc7
  have ob7 := OBH.out.ext hw7
  clear OBH ce6
  have OBH := Lib.hid ob7
  have ce7 := ob7.cell
  clear hw7 rc7 ob7
  go_wp2_with fail
  · go_ret
    exact ⟨-1, rfl, (Ext.trans (Ext.trans (Ext.trans (Ext.trans (Ext.trans (.alloc (.refl _) _) HW1.out) HW2.out) HW3.out) HW6.out) HW7.out), by omega, by omega, by omega⟩
  go_ret
  refine ⟨_, rfl, (Ext.trans (Ext.trans (Ext.trans (Ext.trans (Ext.trans (.alloc (.refl _) _) HW1.out) HW2.out) HW3.out) HW6.out) HW7.out), by omega, by omega, fun hp => ?_⟩
  have e1 := HR1.out (by omega)
  have e2 := HR2.out (by omega)
  have e3 := HR3.out (by omega)
  have e6 := HR6.out (by omega)
  have e7 := HR7.out (by omega)
  simp only [Tr.bulkL_append, Tr.bulkL, Tr.bulk]
  simp only [Tr.bulk] at e1 e3 e7
  omega

set_option maxRecDepth 100000 in
set_option maxHeartbeats 1000000 in
theorem toInstance_of (v0 : ByteArray) (es1 : List (List Tr)) (ts2 : List Tr) (l2 : ts2.length = 3) (es3 : List (List Tr)) (v4 : Bool) (v5 : Bool) (ts6 : List Tr) (l6 : ts6.length = 3) (es7 : List (List Tr)) (h1 : ToSC 151 1 es1) (h2 : ToC 19 ts2) (h3 : ToSC 134 4 es3) (h6 : ToC 19 ts6) (h7 : ToSC 152 11 es7) : ToC 75 ([.leaf (.string v0)] ++ ([.row 1 es1] ++ (ts2 ++ ([.row 4 es3] ++ ([.leaf (.bool v4)] ++ ([.leaf (.bool v5)] ++ (ts6 ++ ([.row 11 es7] ++ ([]))))))))) := by
  intro cs w hr hbk
  simp only [Tr.bulkL_append, Tr.bulkL, Tr.bulk] at hbk
  obtain ⟨b0, r0, rfl, g0, n0⟩ := RepL.split hr
  obtain ⟨y0, rfl⟩ := list1 g0.length.symm
  obtain ⟨rfl, k0⟩ := g0.1.leaf_eq
  obtain ⟨b1, r1, rfl, g1, n1⟩ := RepL.split n0
  obtain ⟨y1, rfl⟩ := list1 g1.length.symm
  obtain ⟨a1, c1, rfl, -, -⟩ := g1.1.shape
  obtain ⟨b2, r2, rfl, g2, n2⟩ := RepL.split n1
  obtain ⟨x2_0, x2_1, x2_2, rfl⟩ := list3 (g2.length.symm.trans l2)
  obtain ⟨b3, r3, rfl, g3, n3⟩ := RepL.split n2
  obtain ⟨y3, rfl⟩ := list1 g3.length.symm
  obtain ⟨a3, c3, rfl, -, -⟩ := g3.1.shape
  obtain ⟨b4, r4, rfl, g4, n4⟩ := RepL.split n3
  obtain ⟨y4, rfl⟩ := list1 g4.length.symm
  obtain ⟨rfl, k4⟩ := g4.1.leaf_eq
  obtain ⟨b5, r5, rfl, g5, n5⟩ := RepL.split n4
  obtain ⟨y5, rfl⟩ := list1 g5.length.symm
  obtain ⟨rfl, k5⟩ := g5.1.leaf_eq
  obtain ⟨b6, r6, rfl, g6, n6⟩ := RepL.split n5
  obtain ⟨x6_0, x6_1, x6_2, rfl⟩ := list3 (g6.length.symm.trans l6)
  obtain ⟨b7, r7, rfl, g7, n7⟩ := RepL.split n6
  obtain ⟨y7, rfl⟩ := list1 g7.length.symm
  obtain ⟨a7, c7, rfl, -, -⟩ := g7.1.shape
  obtain rfl := RepL.nil_eq n7
  clear hr
  have G0 := Lib.hid g0
  have K0 := Lib.hid k0
  clear g0 n0 k0
  have G1 := Lib.hid g1
  clear g1 n1
  have G2 := Lib.hid g2
  clear g2 n2
  have G3 := Lib.hid g3
  clear g3 n3
  have G4 := Lib.hid g4
  have K4 := Lib.hid k4
  clear g4 n4 k4
  have G5 := Lib.hid g5
  have K5 := Lib.hid k5
  clear g5 n5 k5
  have G6 := Lib.hid g6
  clear g6 n6
  have G7 := Lib.hid g7
  clear g7 n7
  simp only [List.cons_append, List.nil_append]
  go_enter Try.func75, Try.ntmps75
  go_wp2_with fail
  refine (h1 _ _ (G1.out.1.ext (.alloc (.alloc (.alloc (.refl _) _) _) _)) (by omega)).mono ?_
  rintro e w1 ⟨d1, rfl, hw1, ho1⟩
  obtain ⟨da1, dc1, rfl, -, -⟩ := ho1.rep.shape
  have HW1 := Lib.hid hw1
  have HO1 := Lib.hid ho1
  have ob1 := (Three.new w _ _ _ _ _ _).ext hw1
  have OBHw1 := Lib.hid ob1
  have cew1 := ob1.o0.cell
  have hzw1 : w.heap.size < w1.heap.size := ob1.o0.lt
  clear hw1 ob1 ho1
  go_wp2_with (first
    | (refine wpList_store_cell rfl 66 _ _ rfl (w.heap.size + 1 + 1) 1 rfl (.slice da1 es1.length dc1) rfl rfl 94 _ OBHw1.out.o2 isz66 (by simp [splice]) rfl ?_; intro u1 hou1 hgu1 hzu1; have OBHu1 := Lib.hid (OBHw1.out.grown hgu1 hou1 (by omega) (by omega)); have HGu1 := Lib.hid hgu1; have ceu1 := OBHu1.out.o0.cell; have hqu1 : w.heap.size < u1.heap.size := OBHu1.out.o0.lt; clear hou1 hgu1 hzu1 OBHw1 cew1))
  refine (h2 _ _ (G2.out.ext (grown_ext (Ext.trans (.alloc (.alloc (.alloc (.refl _) _) _) _) HW1.out) HGu1.out (by omega))) (by omega)).mono ?_
  rintro e w2 ⟨d2, rfl, hw2, ho2⟩
  obtain ⟨d2_0, d2_1, d2_2, rfl⟩ := list3 (ho2.1.trans l2)
  have HW2 := Lib.hid hw2
  have HO2 := Lib.hid ho2
  have ob2 := OBHu1.out.ext hw2
  clear OBHu1 ceu1
  have OBHw2 := Lib.hid ob2
  have cew2 := ob2.o0.cell
  have hzw2 : w.heap.size < w2.heap.size := ob2.o0.lt
  clear hw2 ob2 ho2
  go_wp2_with (first
    | (refine wpList_store_rep rfl 32 _ _ rfl (w.heap.size + 1 + 1) 2 rfl [d2_0, d2_1, d2_2] rfl 94 _ OBHw2.out.o2 isz32 (by simp [splice]) HO2.out.rep.one ?_; intro u2 hou2 hgu2 hzu2; have OBHu2 := Lib.hid (OBHw2.out.grown hgu2 hou2 (by omega) (by omega)); have HGu2 := Lib.hid hgu2; have ceu2 := OBHu2.out.o0.cell; have hqu2 : w.heap.size < u2.heap.size := OBHu2.out.o0.lt; clear hou2 hgu2 hzu2 OBHw2 cew2))
  refine (h3 _ _ (G3.out.1.ext (grown_ext (Ext.trans (grown_ext (Ext.trans (.alloc (.alloc (.alloc (.refl _) _) _) _) HW1.out) HGu1.out (by omega)) HW2.out) HGu2.out (by omega))) (by omega)).mono ?_
  rintro e w3 ⟨d3, rfl, hw3, ho3⟩
  obtain ⟨da3, dc3, rfl, -, -⟩ := ho3.rep.shape
  have HW3 := Lib.hid hw3
  have HO3 := Lib.hid ho3
  have ob3 := OBHu2.out.ext hw3
  clear OBHu2 ceu2
  have OBHw3 := Lib.hid ob3
  have cew3 := ob3.o0.cell
  have hzw3 : w.heap.size < w3.heap.size := ob3.o0.lt
  clear hw3 ob3 ho3
  go_wp2_with (first
    | (refine wpList_store_cell rfl 86 _ _ rfl (w.heap.size + 1 + 1) 5 rfl (.slice da3 es3.length dc3) rfl rfl 94 _ OBHw3.out.o2 isz86 (by simp [splice]) rfl ?_; intro u3 hou3 hgu3 hzu3; have OBHu3 := Lib.hid (OBHw3.out.grown hgu3 hou3 (by omega) (by omega)); have HGu3 := Lib.hid hgu3; have ceu3 := OBHu3.out.o0.cell; have hqu3 : w.heap.size < u3.heap.size := OBHu3.out.o0.lt; clear hou3 hgu3 hzu3 OBHw3 cew3)
    | (refine wpList_store_cell rfl 4 _ _ rfl (w.heap.size + 1 + 1) 6 rfl (.bool v4) rfl rfl 94 _ OBHu3.out.o2 isz4 (by simp [splice]) rfl ?_; intro u4 hou4 hgu4 hzu4; have OBHu4 := Lib.hid (OBHu3.out.grown hgu4 hou4 (by omega) (by omega)); have HGu4 := Lib.hid hgu4; have ceu4 := OBHu4.out.o0.cell; have hqu4 : w.heap.size < u4.heap.size := OBHu4.out.o0.lt; clear hou4 hgu4 hzu4 OBHu3 ceu3)
    | (refine wpList_store_cell rfl 4 _ _ rfl (w.heap.size + 1 + 1) 7 rfl (.bool v5) rfl rfl 94 _ OBHu4.out.o2 isz4 (by simp [splice]) rfl ?_; intro u5 hou5 hgu5 hzu5; have OBHu5 := Lib.hid (OBHu4.out.grown hgu5 hou5 (by omega) (by omega)); have HGu5 := Lib.hid hgu5; have ceu5 := OBHu5.out.o0.cell; have hqu5 : w.heap.size < u5.heap.size := OBHu5.out.o0.lt; clear hou5 hgu5 hzu5 OBHu4 ceu4))
  refine (h6 _ _ (G6.out.ext (grown_ext (grown_ext (grown_ext (Ext.trans (grown_ext (Ext.trans (grown_ext (Ext.trans (.alloc (.alloc (.alloc (.refl _) _) _) _) HW1.out) HGu1.out (by omega)) HW2.out) HGu2.out (by omega)) HW3.out) HGu3.out (by omega)) HGu4.out (by omega)) HGu5.out (by omega))) (by omega)).mono ?_
  rintro e w6 ⟨d6, rfl, hw6, ho6⟩
  obtain ⟨d6_0, d6_1, d6_2, rfl⟩ := list3 (ho6.1.trans l6)
  have HW6 := Lib.hid hw6
  have HO6 := Lib.hid ho6
  have ob6 := OBHu5.out.ext hw6
  clear OBHu5 ceu5
  have OBHw6 := Lib.hid ob6
  have cew6 := ob6.o0.cell
  have hzw6 : w.heap.size < w6.heap.size := ob6.o0.lt
  clear hw6 ob6 ho6
  go_wp2_with (first
    | (refine wpList_store_rep rfl 32 _ _ rfl (w.heap.size + 1 + 1) 8 rfl [d6_0, d6_1, d6_2] rfl 94 _ OBHw6.out.o2 isz32 (by simp [splice]) HO6.out.rep.one ?_; intro u6 hou6 hgu6 hzu6; have OBHu6 := Lib.hid (OBHw6.out.grown hgu6 hou6 (by omega) (by omega)); have HGu6 := Lib.hid hgu6; have ceu6 := OBHu6.out.o0.cell; have hqu6 : w.heap.size < u6.heap.size := OBHu6.out.o0.lt; clear hou6 hgu6 hzu6 OBHw6 cew6))
  refine (h7 _ _ (G7.out.1.ext (grown_ext (Ext.trans (grown_ext (grown_ext (grown_ext (Ext.trans (grown_ext (Ext.trans (grown_ext (Ext.trans (.alloc (.alloc (.alloc (.refl _) _) _) _) HW1.out) HGu1.out (by omega)) HW2.out) HGu2.out (by omega)) HW3.out) HGu3.out (by omega)) HGu4.out (by omega)) HGu5.out (by omega)) HW6.out) HGu6.out (by omega))) (by omega)).mono ?_
  rintro e w7 ⟨d7, rfl, hw7, ho7⟩
  obtain ⟨da7, dc7, rfl, -, -⟩ := ho7.rep.shape
  have HW7 := Lib.hid hw7
  have HO7 := Lib.hid ho7
  have ob7 := OBHu6.out.ext hw7
  clear OBHu6 ceu6
  have OBHw7 := Lib.hid ob7
  have cew7 := ob7.o0.cell
  have hzw7 : w.heap.size < w7.heap.size := ob7.o0.lt
  clear hw7 ob7 ho7
  have hone : Hid (∀ v ∈ ([.string v0, .slice da1 es1.length dc1, d2_0, d2_1, d2_2, .slice da3 es3.length dc3, .bool v4, .bool v5, d6_0, d6_1, d6_2, .slice da7 es7.length dc7] : List Value), v.oneCell' = true) := by
    intro v hv
    simp only [List.mem_cons, List.not_mem_nil, or_false] at hv
    rcases hv with rfl | rfl | rfl | rfl | rfl | rfl | rfl | rfl | rfl | rfl | rfl | rfl <;> first | rfl | (refine HO2.out.rep.one _ ?_; simp; done) | (refine HO6.out.rep.one _ ?_; simp; done)
  go_wp2_with (first
    | (refine wpList_store_cell rfl 92 _ _ rfl (w.heap.size + 1 + 1) 11 rfl (.slice da7 es7.length dc7) rfl rfl 94 _ OBHw7.out.o2 isz92 (by simp [splice]) rfl ?_; intro u7 hou7 hgu7 hzu7; have OBHu7 := Lib.hid (OBHw7.out.grown hgu7 hou7 (by omega) (by omega)); have HGu7 := Lib.hid hgu7; have ceu7 := OBHu7.out.o0.cell; have hqu7 : w.heap.size < u7.heap.size := OBHu7.out.o0.lt; clear hou7 hgu7 hzu7 OBHw7 cew7)
    | (refine wpList_load_rep rfl 94 _ rfl (w.heap.size + 1 + 1) 0 rfl [.string v0, .slice da1 es1.length dc1, d2_0, d2_1, d2_2, .slice da3 es3.length dc3, .bool v4, .bool v5, d6_0, d6_1, d6_2, .slice da7 es7.length dc7] _ Try.underlying94 isz94 (fun j v hv => by rw [OBHu7.out.o2.cell, Nat.zero_add]; simpa [splice] using hv) ?_)
    | (refine wpList_store_rep rfl 94 _ _ rfl (w.heap.size + 1) 0 rfl [.string v0, .slice da1 es1.length dc1, d2_0, d2_1, d2_2, .slice da3 es3.length dc3, .bool v4, .bool v5, d6_0, d6_1, d6_2, .slice da7 es7.length dc7] rfl 94 _ OBHu7.out.o1 isz94 (by simp) hone.out ?_; intro wz hoz hgz hzz; have HOZ := Lib.hid hoz; have HGZ := Lib.hid hgz; clear hoz hgz hzz))
  have HOF : OB wz (w.heap.size + 1) 94 ⟨[.string v0, .slice da1 es1.length dc1, d2_0, d2_1, d2_2, .slice da3 es3.length dc3, .bool v4, .bool v5, d6_0, d6_1, d6_2, .slice da7 es7.length dc7]⟩ := HOZ.out
  refine bodyPost_ret (results_cell_row Try.results75 _ _ (w.heap.size + 1) 94 ⟨[.string v0, .slice da1 es1.length dc1, d2_0, d2_1, d2_2, .slice da3 es3.length dc3, .bool v4, .bool v5, d6_0, d6_1, d6_2, .slice da7 es7.length dc7]⟩ _ _ rfl HOF Try.underlying94 rfl isz94) rfl ⟨[.string v0, .slice da1 es1.length dc1, d2_0, d2_1, d2_2, .slice da3 es3.length dc3, .bool v4, .bool v5, d6_0, d6_1, d6_2, .slice da7 es7.length dc7], rfl, (grown_ext (grown_ext (Ext.trans (grown_ext (Ext.trans (grown_ext (grown_ext (grown_ext (Ext.trans (grown_ext (Ext.trans (grown_ext (Ext.trans (.alloc (.alloc (.alloc (.refl _) _) _) _) HW1.out) HGu1.out (by omega)) HW2.out) HGu2.out (by omega)) HW3.out) HGu3.out (by omega)) HGu4.out (by omega)) HGu5.out (by omega)) HW6.out) HGu6.out (by omega)) HW7.out) HGu7.out (by omega)) HGZ.out (by omega)), ?_⟩
  have sw1 := HW1.out.size
  have su1 := HGu1.out.size
  have sw2 := HW2.out.size
  have su2 := HGu2.out.size
  have sw3 := HW3.out.size
  have su3 := HGu3.out.size
  have su4 := HGu4.out.size
  have su5 := HGu5.out.size
  have sw6 := HW6.out.size
  have su6 := HGu6.out.size
  have sw7 := HW7.out.size
  have su7 := HGu7.out.size
  have swz := HGZ.out.size
  simp only [World.size_alloc] at sw1
  have ow1 := HO1.out.keeps (lo := w.heap.size + 1 + 1 + 1) (Keeps.trans (Keeps.of_grown HGu1.out (by omega)) (Keeps.trans (Keeps.of_ext HW2.out) (Keeps.trans (Keeps.of_grown HGu2.out (by omega)) (Keeps.trans (Keeps.of_ext HW3.out) (Keeps.trans (Keeps.of_grown HGu3.out (by omega)) (Keeps.trans (Keeps.of_grown HGu4.out (by omega)) (Keeps.trans (Keeps.of_grown HGu5.out (by omega)) (Keeps.trans (Keeps.of_ext HW6.out) (Keeps.trans (Keeps.of_grown HGu6.out (by omega)) (Keeps.trans (Keeps.of_ext HW7.out) (Keeps.trans (Keeps.of_grown HGu7.out (by omega)) (Keeps.of_grown HGZ.out (by omega))))))))))))) (by intro x hx; simp only [Between, World.size_alloc] at hx; omega)
  have ow2 := HO2.out.keeps (lo := w.heap.size + 1 + 1 + 1) (Keeps.trans (Keeps.of_grown HGu2.out (by omega)) (Keeps.trans (Keeps.of_ext HW3.out) (Keeps.trans (Keeps.of_grown HGu3.out (by omega)) (Keeps.trans (Keeps.of_grown HGu4.out (by omega)) (Keeps.trans (Keeps.of_grown HGu5.out (by omega)) (Keeps.trans (Keeps.of_ext HW6.out) (Keeps.trans (Keeps.of_grown HGu6.out (by omega)) (Keeps.trans (Keeps.of_ext HW7.out) (Keeps.trans (Keeps.of_grown HGu7.out (by omega)) (Keeps.of_grown HGZ.out (by omega))))))))))) (by intro x hx; simp only [Between, World.size_alloc] at hx; omega)
  have ow3 := HO3.out.keeps (lo := w.heap.size + 1 + 1 + 1) (Keeps.trans (Keeps.of_grown HGu3.out (by omega)) (Keeps.trans (Keeps.of_grown HGu4.out (by omega)) (Keeps.trans (Keeps.of_grown HGu5.out (by omega)) (Keeps.trans (Keeps.of_ext HW6.out) (Keeps.trans (Keeps.of_grown HGu6.out (by omega)) (Keeps.trans (Keeps.of_ext HW7.out) (Keeps.trans (Keeps.of_grown HGu7.out (by omega)) (Keeps.of_grown HGZ.out (by omega))))))))) (by intro x hx; simp only [Between, World.size_alloc] at hx; omega)
  have ow6 := HO6.out.keeps (lo := w.heap.size + 1 + 1 + 1) (Keeps.trans (Keeps.of_grown HGu6.out (by omega)) (Keeps.trans (Keeps.of_ext HW7.out) (Keeps.trans (Keeps.of_grown HGu7.out (by omega)) (Keeps.of_grown HGZ.out (by omega))))) (by intro x hx; simp only [Between, World.size_alloc] at hx; omega)
  have ow7 := HO7.out.keeps (lo := w.heap.size + 1 + 1 + 1) (Keeps.trans (Keeps.of_grown HGu7.out (by omega)) (Keeps.of_grown HGZ.out (by omega))) (by intro x hx; simp only [Between, World.size_alloc] at hx; omega)
  have hall := OwnL.cons_leaf K0.out (OwnL.append (OwnL.one ow1) (OwnL.append (ow2) (OwnL.append (OwnL.one ow3) (OwnL.cons_leaf K4.out (OwnL.cons_leaf K5.out (OwnL.append (ow6) (OwnL.append (OwnL.one ow7) (OwnL.nil wz (fun _ => False)) (by intro x hx hy; simp only [Between, World.size_alloc, or_false] at hx hy <;> omega)) (by intro x hx hy; simp only [Between, World.size_alloc, or_false] at hx hy <;> omega)))) (by intro x hx hy; simp only [Between, World.size_alloc, or_false] at hx hy <;> omega)) (by intro x hx hy; simp only [Between, World.size_alloc, or_false] at hx hy <;> omega)) (by intro x hx hy; simp only [Between, World.size_alloc, or_false] at hx hy <;> omega))
  exact hall.mono (by intro x hx; simp only [Between, World.size_alloc, or_false] at hx ⊢; omega)

set_option maxRecDepth 100000 in
set_option maxHeartbeats 1000000 in
theorem eqInstance_of (v0 : ByteArray) (es1 : List (List Tr)) (ts2 : List Tr) (l2 : ts2.length = 3) (es3 : List (List Tr)) (v4 : Bool) (v5 : Bool) (ts6 : List Tr) (l6 : ts6.length = 3) (es7 : List (List Tr)) (h1 : EqSC 153 1 es1) (h2 : EqC 22 ts2) (h3 : EqSC 51 4 es3) (h6 : EqC 22 ts6) (h7 : EqSC 154 11 es7) : EqC 76 ([.leaf (.string v0)] ++ ([.row 1 es1] ++ (ts2 ++ ([.row 4 es3] ++ ([.leaf (.bool v4)] ++ ([.leaf (.bool v5)] ++ (ts6 ++ ([.row 11 es7] ++ ([]))))))))) := by
  intro cs ds w hr hr'
  obtain ⟨b0, r0, rfl, g0, n0⟩ := RepL.split hr
  obtain ⟨y0, rfl⟩ := list1 g0.length.symm
  obtain ⟨rfl, k0⟩ := g0.1.leaf_eq
  obtain ⟨b1, r1, rfl, g1, n1⟩ := RepL.split n0
  obtain ⟨y1, rfl⟩ := list1 g1.length.symm
  obtain ⟨a1, c1, rfl, -, -⟩ := g1.1.shape
  obtain ⟨b2, r2, rfl, g2, n2⟩ := RepL.split n1
  obtain ⟨x2_0, x2_1, x2_2, rfl⟩ := list3 (g2.length.symm.trans l2)
  obtain ⟨b3, r3, rfl, g3, n3⟩ := RepL.split n2
  obtain ⟨y3, rfl⟩ := list1 g3.length.symm
  obtain ⟨a3, c3, rfl, -, -⟩ := g3.1.shape
  obtain ⟨b4, r4, rfl, g4, n4⟩ := RepL.split n3
  obtain ⟨y4, rfl⟩ := list1 g4.length.symm
  obtain ⟨rfl, k4⟩ := g4.1.leaf_eq
  obtain ⟨b5, r5, rfl, g5, n5⟩ := RepL.split n4
  obtain ⟨y5, rfl⟩ := list1 g5.length.symm
  obtain ⟨rfl, k5⟩ := g5.1.leaf_eq
  obtain ⟨b6, r6, rfl, g6, n6⟩ := RepL.split n5
  obtain ⟨x6_0, x6_1, x6_2, rfl⟩ := list3 (g6.length.symm.trans l6)
  obtain ⟨b7, r7, rfl, g7, n7⟩ := RepL.split n6
  obtain ⟨y7, rfl⟩ := list1 g7.length.symm
  obtain ⟨a7, c7, rfl, -, -⟩ := g7.1.shape
  obtain rfl := RepL.nil_eq n7
  clear hr
  obtain ⟨zb0, zr0, rfl, zg0, zn0⟩ := RepL.split hr'
  obtain ⟨zy0, rfl⟩ := list1 zg0.length.symm
  obtain ⟨rfl, zk0⟩ := zg0.1.leaf_eq
  obtain ⟨zb1, zr1, rfl, zg1, zn1⟩ := RepL.split zn0
  obtain ⟨zy1, rfl⟩ := list1 zg1.length.symm
  obtain ⟨za1, zc1, rfl, -, -⟩ := zg1.1.shape
  obtain ⟨zb2, zr2, rfl, zg2, zn2⟩ := RepL.split zn1
  obtain ⟨zx2_0, zx2_1, zx2_2, rfl⟩ := list3 (zg2.length.symm.trans l2)
  obtain ⟨zb3, zr3, rfl, zg3, zn3⟩ := RepL.split zn2
  obtain ⟨zy3, rfl⟩ := list1 zg3.length.symm
  obtain ⟨za3, zc3, rfl, -, -⟩ := zg3.1.shape
  obtain ⟨zb4, zr4, rfl, zg4, zn4⟩ := RepL.split zn3
  obtain ⟨zy4, rfl⟩ := list1 zg4.length.symm
  obtain ⟨rfl, zk4⟩ := zg4.1.leaf_eq
  obtain ⟨zb5, zr5, rfl, zg5, zn5⟩ := RepL.split zn4
  obtain ⟨zy5, rfl⟩ := list1 zg5.length.symm
  obtain ⟨rfl, zk5⟩ := zg5.1.leaf_eq
  obtain ⟨zb6, zr6, rfl, zg6, zn6⟩ := RepL.split zn5
  obtain ⟨zx6_0, zx6_1, zx6_2, rfl⟩ := list3 (zg6.length.symm.trans l6)
  obtain ⟨zb7, zr7, rfl, zg7, zn7⟩ := RepL.split zn6
  obtain ⟨zy7, rfl⟩ := list1 zg7.length.symm
  obtain ⟨za7, zc7, rfl, -, -⟩ := zg7.1.shape
  obtain rfl := RepL.nil_eq zn7
  clear hr'
  have G0 := Lib.hid g0
  have K0 := Lib.hid k0
  clear g0 n0 k0
  have G1 := Lib.hid g1
  clear g1 n1
  have G2 := Lib.hid g2
  clear g2 n2
  have G3 := Lib.hid g3
  clear g3 n3
  have G4 := Lib.hid g4
  have K4 := Lib.hid k4
  clear g4 n4 k4
  have G5 := Lib.hid g5
  have K5 := Lib.hid k5
  clear g5 n5 k5
  have G6 := Lib.hid g6
  clear g6 n6
  have G7 := Lib.hid g7
  clear g7 n7
  have zG0 := Lib.hid zg0
  have zK0 := Lib.hid zk0
  clear zg0 zn0 zk0
  have zG1 := Lib.hid zg1
  clear zg1 zn1
  have zG2 := Lib.hid zg2
  clear zg2 zn2
  have zG3 := Lib.hid zg3
  clear zg3 zn3
  have zG4 := Lib.hid zg4
  have zK4 := Lib.hid zk4
  clear zg4 zn4 zk4
  have zG5 := Lib.hid zg5
  have zK5 := Lib.hid zk5
  clear zg5 zn5 zk5
  have zG6 := Lib.hid zg6
  clear zg6 zn6
  have zG7 := Lib.hid zg7
  clear zg7 zn7
  simp only [List.cons_append, List.nil_append]
  go_enter Try.func76, Try.ntmps76
  go_wp2_with fail
  refine (h1 _ _ _ (G1.out.1.ext (.alloc (.alloc (.refl _) _) _)) (zG1.out.1.ext (.alloc (.alloc (.refl _) _) _))).mono ?_
  rintro e w1 ⟨rfl, hw1⟩
  have HW1 := Lib.hid hw1
  have ob1 := (Two.new w _ _ _ _).ext hw1
  have OBH := Lib.hid ob1
  have ce1 := ob1.o0.cell
  have cf1 := ob1.o1.cell
  clear hw1 ob1
  go_wp2_with fail
  refine (h2 _ _ _ (G2.out.ext (Ext.trans (.alloc (.alloc (.refl _) _) _) HW1.out)) (zG2.out.ext (Ext.trans (.alloc (.alloc (.refl _) _) _) HW1.out))).mono ?_
  rintro e w2 ⟨rfl, hw2⟩
  have HW2 := Lib.hid hw2
  have ob2 := OBH.out.ext hw2
  clear OBH ce1 cf1
  have OBH := Lib.hid ob2
  have ce2 := ob2.o0.cell
  have cf2 := ob2.o1.cell
  clear hw2 ob2
  go_wp2_with fail
  refine (h3 _ _ _ (G3.out.1.ext (Ext.trans (Ext.trans (.alloc (.alloc (.refl _) _) _) HW1.out) HW2.out)) (zG3.out.1.ext (Ext.trans (Ext.trans (.alloc (.alloc (.refl _) _) _) HW1.out) HW2.out))).mono ?_
  rintro e w3 ⟨rfl, hw3⟩
  have HW3 := Lib.hid hw3
  have ob3 := OBH.out.ext hw3
  clear OBH ce2 cf2
  have OBH := Lib.hid ob3
  have ce3 := ob3.o0.cell
  have cf3 := ob3.o1.cell
  clear hw3 ob3
  go_wp2_with fail
  refine (h6 _ _ _ (G6.out.ext (Ext.trans (Ext.trans (Ext.trans (.alloc (.alloc (.refl _) _) _) HW1.out) HW2.out) HW3.out)) (zG6.out.ext (Ext.trans (Ext.trans (Ext.trans (.alloc (.alloc (.refl _) _) _) HW1.out) HW2.out) HW3.out))).mono ?_
  rintro e w6 ⟨rfl, hw6⟩
  have HW6 := Lib.hid hw6
  have ob6 := OBH.out.ext hw6
  clear OBH ce3 cf3
  have OBH := Lib.hid ob6
  have ce6 := ob6.o0.cell
  have cf6 := ob6.o1.cell
  clear hw6 ob6
  go_wp2_with fail
  refine (h7 _ _ _ (G7.out.1.ext (Ext.trans (Ext.trans (Ext.trans (Ext.trans (.alloc (.alloc (.refl _) _) _) HW1.out) HW2.out) HW3.out) HW6.out)) (zG7.out.1.ext (Ext.trans (Ext.trans (Ext.trans (Ext.trans (.alloc (.alloc (.refl _) _) _) HW1.out) HW2.out) HW3.out) HW6.out))).mono ?_
  rintro e w7 ⟨rfl, hw7⟩
  have HW7 := Lib.hid hw7
  have ob7 := OBH.out.ext hw7
  clear OBH ce6 cf6
  have OBH := Lib.hid ob7
  have ce7 := ob7.o0.cell
  have cf7 := ob7.o1.cell
  clear hw7 ob7
  go_wp2_with fail
  go_ret
  exact ⟨rfl, (Ext.trans (Ext.trans (Ext.trans (Ext.trans (Ext.trans (.alloc (.alloc (.refl _) _) _) HW1.out) HW2.out) HW3.out) HW6.out) HW7.out)⟩

end Go.Proofs.Ytoifjkggpanceaa

namespace Go.Proofs.Ytoifjkggpanceaa
open Go.RowKit Go.Proofs

set_option maxRecDepth 100000 in
set_option maxHeartbeats 1000000 in
theorem szIntS_all (l : List Int) : SzSC 133 1 (intTrs l) := by
  intro s left w hs h0 h1
  obtain ⟨a, cap, rfl, hl, hm⟩ := hs.shape
  have hb := intTrs_bulk l
  rw [intTrs_len] at *
  unfold maxLen at hm
  clear hs
  have HB : Hid (Tr.bulk (.row 1 (intTrs l)) = l.length) := by show _ = _; simp only [Tr.bulk, hb, intTrs_len]; rfl
  clear hb
  go_enter Try.func133, Try.ntmps133
  go_wp2_with fail
  · go_ret
    exact ⟨-1, rfl, .refl _, by omega, by omega, by omega⟩
  · go_ret
    exact ⟨_, rfl, .refl _, by omega, by omega, fun _ => by rw [HB.out]; omega⟩

set_option maxRecDepth 100000 in
set_option maxHeartbeats 1000000 in
theorem szStringS_all (l : List ByteArray) : SzSC 149 1 (strTrs l) := by
  intro s left w hs h0 h1
  obtain ⟨a, cap, rfl, hl, hm⟩ := hs.shape
  rw [strTrs_len] at *
  unfold maxLen at hm
  have HS := Lib.hid hs
  clear hs
  go_enter Try.func149, Try.ntmps149
  go_wp2_with fail
  · go_ret
    exact ⟨-1, rfl, .refl _, by omega, by omega, by omega⟩
  go_loopw [1, 5] (fun lv i wr => ∃ (k : Nat) (r : Int), k ≤ l.length ∧ i = .int .i64 k ∧ lv = .int .i64 r ∧ wr = w ∧ 0 ≤ r ∧ Hid (r + l.length + Tr.bulkAll ((strTrs l).take k) ≤ left) ∧ r ≤ left) (fun _ i _ => l.length - (intOf i).toNat)
  case atStart => exact ⟨0, _, Nat.zero_le _, rfl, rfl, rfl, by omega, by show _ ≤ _; simp only [List.take_zero, Tr.bulkAll]; omega, by omega⟩
  case round =>
    obtain ⟨k, r, hk, rfl, rfl, rfl, hr0, HR, hrl⟩ := hrel
    by_cases hlt : k < l.length
    · obtain ⟨b, off, rfl, hb, hle, hcell⟩ := HS.out.str hlt
      have HT : Hid (Tr.bulkAll ((strTrs l).take (k + 1)) = Tr.bulkAll ((strTrs l).take k) + l[k].size) := by
        show _ = _
        have h1 : k < (strTrs l).length := by rw [strTrs_len]; exact hlt
        rw [Tr.bulkAll_take _ k h1]
        have h2 : (strTrs l)[k] = [.leaf (.string l[k])] := by simp [strTrs]
        rw [h2]
        simp [Tr.bulkL, Tr.bulk]
      unfold maxLen at hle
      generalize l[k] = z at *
      go_wp2_with fail
      · go_ret
        exact ⟨-1, rfl, .refl _, by omega, by omega, by omega⟩
      · go_roundw
        case rel => exact ⟨k + 1, _, by omega, by go_num, rfl, by first | trivial | rfl, by omega, by show _ ≤ _; have h1 := HR.out; have h2 := HT.out; omega, by omega⟩
        case measure => simp [intOf]; omega
    · have hkl : k = l.length := by omega
      go_wp2_with fail
      go_ret
      refine ⟨r, rfl, .refl _, by omega, by omega, fun _ => ?_⟩
      have h1 := HR.out
      rw [hkl, ← strTrs_len, List.take_length] at h1
      simp only [Tr.bulk]
      omega

set_option maxRecDepth 100000 in
set_option maxHeartbeats 1000000 in
theorem eqIntS_all (l : List Int) : EqSC 29 1 (intTrs l) := by
  intro s u w hs hu
  obtain ⟨a, cap, rfl, hl, hm⟩ := hs.shape
  obtain ⟨a', cap', rfl, hl', hm'⟩ := hu.shape
  rw [intTrs_len] at *
  unfold maxLen at hm hm'
  have HS := Lib.hid hs
  have HU := Lib.hid hu
  clear hs hu
  go_enter Try.func29, Try.ntmps29
  go_wp2_with fail
  go_loopw [5] (fun i wr => ∃ k : Nat, k ≤ l.length ∧ i = .int .i64 k ∧ Ext w wr) (fun i _ => l.length - (intOf i).toNat)
  case atStart => exact ⟨0, Nat.zero_le _, rfl, .refl _⟩
  case round =>
    obtain ⟨k, hk, rfl, hw⟩ := hrel
    by_cases hlt : k < l.length
    · obtain ⟨b, off, rfl, hb, -, hcell⟩ := (HS.out.ext hw).int hlt
      obtain ⟨b', off', rfl, hb', -, hcell'⟩ := (HU.out.ext hw).int hlt
      have ki : (k : Int) < (l.length : Int) := by omega
      have k0 : (0 : Int) ≤ (k : Int) := by omega
      have hk0 : 0 ≤ k := Nat.zero_le k
      generalize l[k] = z at *
      go_wp2_with fail
      go_quiet (fail)
      go_wp2_with fail
      go_roundw
      case rel => exact ⟨k + 1, by omega, by go_num, hw.drewN _⟩
      case measure => simp [intOf]; omega
    · go_wp2_with fail
      go_ret
      exact ⟨rfl, hw⟩

set_option maxRecDepth 100000 in
set_option maxHeartbeats 1000000 in
theorem eqStringS_all (l : List ByteArray) : EqSC 153 1 (strTrs l) := by
  intro s u w hs hu
  obtain ⟨a, cap, rfl, hl, hm⟩ := hs.shape
  obtain ⟨a', cap', rfl, hl', hm'⟩ := hu.shape
  rw [strTrs_len] at *
  unfold maxLen at hm hm'
  have HS := Lib.hid hs
  have HU := Lib.hid hu
  clear hs hu
  go_enter Try.func153, Try.ntmps153
  go_wp2_with fail
  go_loopw [5] (fun i wr => ∃ k : Nat, k ≤ l.length ∧ i = .int .i64 k ∧ Ext w wr) (fun i _ => l.length - (intOf i).toNat)
  case atStart => exact ⟨0, Nat.zero_le _, rfl, .refl _⟩
  case round =>
    obtain ⟨k, hk, rfl, hw⟩ := hrel
    by_cases hlt : k < l.length
    · obtain ⟨b, off, rfl, hb, -, hcell⟩ := (HS.out.ext hw).str hlt
      obtain ⟨b', off', rfl, hb', -, hcell'⟩ := (HU.out.ext hw).str hlt
      have ki : (k : Int) < (l.length : Int) := by omega
      have k0 : (0 : Int) ≤ (k : Int) := by omega
      have hk0 : 0 ≤ k := Nat.zero_le k
      generalize l[k] = z at *
      go_wp2_with fail
      go_quiet (fail)
      go_wp2_with fail
      go_roundw
      case rel => exact ⟨k + 1, by omega, by go_num, hw.drewN _⟩
      case measure => simp [intOf]; omega
    · go_wp2_with fail
      go_ret
      exact ⟨rfl, hw⟩

set_option maxRecDepth 100000 in
set_option maxHeartbeats 1000000 in
theorem toIntS_all (l : List Int) : ToSC 26 1 (intTrs l) := by
  intro s w hs hbk
  obtain ⟨a, cap, rfl, hl, hm⟩ := hs.shape
  rw [intTrs_len] at *
  unfold maxLen at hm
  have HS := Lib.hid hs
  have n0 : (0 : Int) ≤ l.length := by omega
  clear hs
  go_enter Try.func26, Try.ntmps26
  go_wp2_with (refine wpList_make_rep rfl 45 (.tmp 6) rfl l.length rfl 3 Try.underlying45 1 8 iszb3 (by omega) (by omega) ?_; intro wm arr0 ha0 hob0 hx0 hz0; have HA0 := Lib.hid ha0; have HOB0 := Lib.hid hob0; have HX0 := Lib.hid hx0; have HZ0 := Lib.hid hz0; clear ha0 hob0 hx0 hz0)
  go_loopw [4] (fun i wr => ∃ (k : Nat) (arr : Array Value), k ≤ l.length ∧ i = .int .i64 k ∧ Ext w wr ∧ w.heap.size < wr.heap.size ∧ OB wr w.heap.size 3 arr ∧ arr.size = (intTrs l).length * 1 ∧ Part wr w.heap.size arr 1 (intTrs l) k) (fun i _ => l.length - (intOf i).toNat)
  case atStart => exact ⟨0, arr0, Nat.zero_le _, rfl, HX0.out, by rw [HZ0.out]; omega, HOB0.out, by rw [intTrs_len]; exact HA0.out, Part.zero _ _ _ _ _⟩
  case round =>
    obtain ⟨k, arr, hk, rfl, hw, hgt, hob, hasz, hpart⟩ := hrel
    have HOB := Lib.hid hob
    have HAS := Lib.hid hasz
    have HP := Lib.hid hpart
    clear hob hasz hpart
    by_cases hlt : k < l.length
    · obtain ⟨b, off, rfl, hb, hle, hcell⟩ := (HS.out.ext hw).int hlt
      have HGT := Lib.hid (intTrs_get hlt)
      have HLE : Hid (LeafOk (Value.int .i64 l[k])) := hle
      have HF : Hid (0 + k * 1 + 1 ≤ arr.size) := by have h1 := HAS.out; rw [intTrs_len] at h1; show _ ≤ _; omega
      clear hle
      generalize l[k] = z at *
      go_wp2_with (refine wpList_store_cell rfl 3 (.tmp 20) (.tmp 19) rfl w.heap.size k rfl (.int .i64 z) rfl rfl 3 arr HOB.out isz3 (by have h1 := HF.out; omega) rfl ?_; intro w2 hob2 hg2 hz2; have HOB2 := Lib.hid hob2; have HG2 := Lib.hid hg2; have HZ2 := Lib.hid hz2; clear hob2 hg2 hz2)
      go_roundw
      case rel =>
        have hob2 : OB w2 w.heap.size 3 (splice arr (k * 1) [Value.int .i64 z]) := by rw [Nat.mul_one]; exact HOB2.out
        have hfit : k * 1 + [Value.int .i64 z].length ≤ arr.size := by have := HF.out; simp; omega
        refine ⟨k + 1, _, by omega, by go_num, grown_ext hw HG2.out (Nat.le_refl _), by rw [HZ2.out]; exact hgt, hob2, by rw [splice_size hfit]; exact HAS.out, HP.out.step hgt (.refl _) HGT.out (OwnL.cons_leaf HLE.out (OwnL.nil _ _)) rfl HAS.out HG2.out hob2⟩
      case measure => simp [intOf]; omega
    · have hkl : k = l.length := by omega
      go_wp2_with fail
      go_ret
      subst hkl
      have hp := HP.out
      rw [← intTrs_len] at hp
      have := (hp.done HOB.out (intTrs_sz l) (Nat.le_refl _) (by rw [intTrs_len]; unfold maxLen; omega) (Nat.le_refl _)).mono (S' := Between w wr) fun x hx => ⟨hx.1, hx.2⟩
      rw [intTrs_len] at this
      exact ⟨_, rfl, hw, this⟩

set_option maxRecDepth 100000 in
set_option maxHeartbeats 1000000 in
theorem toStringS_all (l : List ByteArray) : ToSC 151 1 (strTrs l) := by
  intro s w hs hbk
  obtain ⟨a, cap, rfl, hl, hm⟩ := hs.shape
  rw [strTrs_len] at *
  unfold maxLen at hm
  have HS := Lib.hid hs
  have n0 : (0 : Int) ≤ l.length := by omega
  clear hs
  go_enter Try.func151, Try.ntmps151
  go_wp2_with (refine wpList_make_rep rfl 66 (.tmp 6) rfl l.length rfl 9 Try.underlying66 1 16 iszb9 (by omega) (by omega) ?_; intro wm arr0 ha0 hob0 hx0 hz0; have HA0 := Lib.hid ha0; have HOB0 := Lib.hid hob0; have HX0 := Lib.hid hx0; have HZ0 := Lib.hid hz0; clear ha0 hob0 hx0 hz0)
  go_loopw [4] (fun i wr => ∃ (k : Nat) (arr : Array Value), k ≤ l.length ∧ i = .int .i64 k ∧ Ext w wr ∧ w.heap.size < wr.heap.size ∧ OB wr w.heap.size 9 arr ∧ arr.size = (strTrs l).length * 1 ∧ Part wr w.heap.size arr 1 (strTrs l) k) (fun i _ => l.length - (intOf i).toNat)
  case atStart => exact ⟨0, arr0, Nat.zero_le _, rfl, HX0.out, by rw [HZ0.out]; omega, HOB0.out, by rw [strTrs_len]; exact HA0.out, Part.zero _ _ _ _ _⟩
  case round =>
    obtain ⟨k, arr, hk, rfl, hw, hgt, hob, hasz, hpart⟩ := hrel
    have HOB := Lib.hid hob
    have HAS := Lib.hid hasz
    have HP := Lib.hid hpart
    clear hob hasz hpart
    by_cases hlt : k < l.length
    · obtain ⟨b, off, rfl, hb, hle, hcell⟩ := (HS.out.ext hw).str hlt
      have HGT := Lib.hid (strTrs_get hlt)
      have HLE : Hid (LeafOk (Value.string l[k])) := hle
      have HF : Hid (0 + k * 1 + 1 ≤ arr.size) := by have h1 := HAS.out; rw [strTrs_len] at h1; show _ ≤ _; omega
      clear hle
      generalize l[k] = z at *
      go_wp2_with (refine wpList_store_cell rfl 9 (.tmp 20) (.tmp 19) rfl w.heap.size k rfl (.string z) rfl rfl 9 arr HOB.out isz9 (by have h1 := HF.out; omega) rfl ?_; intro w2 hob2 hg2 hz2; have HOB2 := Lib.hid hob2; have HG2 := Lib.hid hg2; have HZ2 := Lib.hid hz2; clear hob2 hg2 hz2)
      go_roundw
      case rel =>
        have hob2 : OB w2 w.heap.size 9 (splice arr (k * 1) [Value.string z]) := by rw [Nat.mul_one]; exact HOB2.out
        have hfit : k * 1 + [Value.string z].length ≤ arr.size := by have := HF.out; simp; omega
        refine ⟨k + 1, _, by omega, by go_num, grown_ext hw HG2.out (Nat.le_refl _), by rw [HZ2.out]; exact hgt, hob2, by rw [splice_size hfit]; exact HAS.out, HP.out.step hgt (.refl _) HGT.out (OwnL.cons_leaf HLE.out (OwnL.nil _ _)) rfl HAS.out HG2.out hob2⟩
      case measure => simp [intOf]; omega
    · have hkl : k = l.length := by omega
      go_wp2_with fail
      go_ret
      subst hkl
      have hp := HP.out
      rw [← strTrs_len] at hp
      have := (hp.done HOB.out (strTrs_sz l) (Nat.le_refl _) (by rw [strTrs_len]; unfold maxLen; omega) (Nat.le_refl _)).mono (S' := Between w wr) fun x hx => ⟨hx.1, hx.2⟩
      rw [strTrs_len] at this
      exact ⟨_, rfl, hw, this⟩

end Go.Proofs.Ytoifjkggpanceaa

namespace Go.Proofs.Ytoifjkggpanceaa
open Go.RowKit Go.Proofs

theorem bulk0_InstanceRef (x : GInstanceRef) : Tr.bulkL x.tr = 0 := by
  obtain ⟨v0, v1⟩ := x
  simp [GInstanceRef.tr, Tr.bulkL, Tr.bulk]

theorem toInstanceRef_all (x : GInstanceRef) : ToC 91 x.tr := by
  obtain ⟨v0, v1⟩ := x
  exact toInstanceRef_of v0 v1

theorem eqInstanceRef_all (x : GInstanceRef) : EqC 94 x.tr := by
  obtain ⟨v0, v1⟩ := x
  exact eqInstanceRef_of v0 v1

theorem szEvidence_all : ∀ x : GEvidence, SzC 23 x.tr :=
  GEvidence.ind fun v0 v1 v2 v3 ih => szEvidence_of v0 v1 (GInstanceRef.tr v2) (GInstanceRef.tr_len v2) (GEvidence.trs v3) (szEvidenceS_of _ (GEvidence.sz v3) (GEvidence.all ih)) (bulk0_InstanceRef v2)

theorem szEvidenceS_all (l : List GEvidence) : SzSC 89 5 (GEvidence.trs l) := szEvidenceS_of _ (GEvidence.sz l) (GEvidence.all fun x _ => szEvidence_all x)

theorem toEvidence_all : ∀ x : GEvidence, ToC 25 x.tr :=
  GEvidence.ind fun v0 v1 v2 v3 ih => toEvidence_of v0 v1 (GInstanceRef.tr v2) (GInstanceRef.tr_len v2) (GEvidence.trs v3) (toInstanceRef_all v2) (toEvidenceS_of _ (GEvidence.sz v3) (GEvidence.all ih))

theorem toEvidenceS_all (l : List GEvidence) : ToSC 92 5 (GEvidence.trs l) := toEvidenceS_of _ (GEvidence.sz l) (GEvidence.all fun x _ => toEvidence_all x)

theorem eqEvidence_all : ∀ x : GEvidence, EqC 28 x.tr :=
  GEvidence.ind fun v0 v1 v2 v3 ih => eqEvidence_of v0 v1 (GInstanceRef.tr v2) (GInstanceRef.tr_len v2) (GEvidence.trs v3) (eqInstanceRef_all v2) (eqEvidenceS_of _ (GEvidence.sz v3) (GEvidence.all ih))

theorem eqEvidenceS_all (l : List GEvidence) : EqSC 95 5 (GEvidence.trs l) := eqEvidenceS_of _ (GEvidence.sz l) (GEvidence.all fun x _ => eqEvidence_all x)

theorem szType_all : ∀ x : GType, SzC 16 x.tr :=
  GType.ind fun v0 v1 v2 ih => szType_of v0 v1 (GType.trs v2) (szTypeS_of _ (GType.sz v2) (GType.all ih))

theorem szTypeS_all (l : List GType) : SzSC 81 3 (GType.trs l) := szTypeS_of _ (GType.sz l) (GType.all fun x _ => szType_all x)

theorem toType_all : ∀ x : GType, ToC 19 x.tr :=
  GType.ind fun v0 v1 v2 ih => toType_of v0 v1 (GType.trs v2) (toTypeS_of _ (GType.sz v2) (GType.all ih))

theorem toTypeS_all (l : List GType) : ToSC 85 3 (GType.trs l) := toTypeS_of _ (GType.sz l) (GType.all fun x _ => toType_all x)

theorem eqType_all : ∀ x : GType, EqC 22 x.tr :=
  GType.ind fun v0 v1 v2 ih => eqType_of v0 v1 (GType.trs v2) (eqTypeS_of _ (GType.sz v2) (GType.all ih))

theorem eqTypeS_all (l : List GType) : EqSC 88 3 (GType.trs l) := eqTypeS_of _ (GType.sz l) (GType.all fun x _ => eqType_all x)

theorem szBound_all (x : GBound) : SzC 15 x.tr := by
  obtain ⟨v0, v1⟩ := x
  exact szBound_of v0 (GType.tr v1) (GType.tr_len v1) (szType_all v1)

theorem szBoundS_all (l : List GBound) : SzSC 132 4 (GBound.trs l) := szBoundS_of _ (GBound.sz l) (GBound.all fun x _ => szBound_all x)

theorem toBound_all (x : GBound) : ToC 18 x.tr := by
  obtain ⟨v0, v1⟩ := x
  exact toBound_of v0 (GType.tr v1) (GType.tr_len v1) (toType_all v1)

theorem toBoundS_all (l : List GBound) : ToSC 134 4 (GBound.trs l) := toBoundS_of _ (GBound.sz l) (GBound.all fun x _ => toBound_all x)

theorem eqBound_all (x : GBound) : EqC 21 x.tr := by
  obtain ⟨v0, v1⟩ := x
  exact eqBound_of v0 (GType.tr v1) (GType.tr_len v1) (eqType_all v1)

theorem eqBoundS_all (l : List GBound) : EqSC 51 4 (GBound.trs l) := eqBoundS_of _ (GBound.sz l) (GBound.all fun x _ => eqBound_all x)

theorem szAssumption_all (x : GAssumption) : SzC 109 x.tr := by
  obtain ⟨v0, v1, v2⟩ := x
  exact szAssumption_of (GBound.tr v0) (GBound.tr_len v0) v1 (intTrs v2) (szBound_all v0) (szIntS_all v2)

theorem szAssumptionS_all (l : List GAssumption) : SzSC 44 6 (GAssumption.trs l) := szAssumptionS_of _ (GAssumption.sz l) (GAssumption.all fun x _ => szAssumption_all x)

theorem toAssumption_all (x : GAssumption) : ToC 111 x.tr := by
  obtain ⟨v0, v1, v2⟩ := x
  exact toAssumption_of (GBound.tr v0) (GBound.tr_len v0) v1 (intTrs v2) (toBound_all v0) (toIntS_all v2)

theorem toAssumptionS_all (l : List GAssumption) : ToSC 46 6 (GAssumption.trs l) := toAssumptionS_of _ (GAssumption.sz l) (GAssumption.all fun x _ => toAssumption_all x)

theorem eqAssumption_all (x : GAssumption) : EqC 114 x.tr := by
  obtain ⟨v0, v1, v2⟩ := x
  exact eqAssumption_of (GBound.tr v0) (GBound.tr_len v0) v1 (intTrs v2) (eqBound_all v0) (eqIntS_all v2)

theorem eqAssumptionS_all (l : List GAssumption) : EqSC 48 6 (GAssumption.trs l) := eqAssumptionS_of _ (GAssumption.sz l) (GAssumption.all fun x _ => eqAssumption_all x)

theorem szCache_all (x : GCache) : SzC 60 x.tr := by
  obtain ⟨v0, v1, v2⟩ := x
  exact szCache_of (GBound.trs v0) (intTrs v1) (GEvidence.trs v2) (szBoundS_all v0) (szIntS_all v1) (szEvidenceS_all v2)

theorem toCache_all (x : GCache) : ToC 62 x.tr := by
  obtain ⟨v0, v1, v2⟩ := x
  exact toCache_of (GBound.trs v0) (intTrs v1) (GEvidence.trs v2) (toBoundS_all v0) (toIntS_all v1) (toEvidenceS_all v2)

theorem eqCache_all (x : GCache) : EqC 64 x.tr := by
  obtain ⟨v0, v1, v2⟩ := x
  exact eqCache_of (GBound.trs v0) (intTrs v1) (GEvidence.trs v2) (eqBoundS_all v0) (eqIntS_all v1) (eqEvidenceS_all v2)

theorem szArm_in (x : GArm) (h : SzC 227 x.gBody.tr) : SzC 258 x.tr := by
  obtain ⟨v0, v1, v2⟩ := x
  exact szArm_of v0 (strTrs v1) (GExpr.tr v2) (GExpr.tr_len v2) (szStringS_all v1) h

theorem szExpr_all : ∀ x : GExpr, SzC 227 x.tr :=
  GExpr.ind fun v0 v1 v2 v3 v4 v5 v6 ih5 ih6 => szExpr_of v0 v1 v2 v3 (GType.tr v4) (GType.tr_len v4) (GExpr.trs v5) (GArm.trs v6) (szType_all v4) (szExprS_of _ (GExpr.sz v5) (GExpr.all ih5)) (szArmS_of _ (GArm.sz v6) (GArm.all fun x hx => szArm_in x (ih6 x hx)))

theorem szExprS_all (l : List GExpr) : SzSC 246 9 (GExpr.trs l) := szExprS_of _ (GExpr.sz l) (GExpr.all fun x _ => szExpr_all x)

theorem toArm_in (x : GArm) (h : ToC 228 x.gBody.tr) : ToC 259 x.tr := by
  obtain ⟨v0, v1, v2⟩ := x
  exact toArm_of v0 (strTrs v1) (GExpr.tr v2) (GExpr.tr_len v2) (toStringS_all v1) h

theorem toExpr_all : ∀ x : GExpr, ToC 228 x.tr :=
  GExpr.ind fun v0 v1 v2 v3 v4 v5 v6 ih5 ih6 => toExpr_of v0 v1 v2 v3 (GType.tr v4) (GType.tr_len v4) (GExpr.trs v5) (GArm.trs v6) (toType_all v4) (toExprS_of _ (GExpr.sz v5) (GExpr.all ih5)) (toArmS_of _ (GArm.sz v6) (GArm.all fun x hx => toArm_in x (ih6 x hx)))

theorem toExprS_all (l : List GExpr) : ToSC 248 9 (GExpr.trs l) := toExprS_of _ (GExpr.sz l) (GExpr.all fun x _ => toExpr_all x)

theorem eqArm_in (x : GArm) (h : EqC 229 x.gBody.tr) : EqC 260 x.tr := by
  obtain ⟨v0, v1, v2⟩ := x
  exact eqArm_of v0 (strTrs v1) (GExpr.tr v2) (GExpr.tr_len v2) (eqStringS_all v1) h

theorem eqExpr_all : ∀ x : GExpr, EqC 229 x.tr :=
  GExpr.ind fun v0 v1 v2 v3 v4 v5 v6 ih5 ih6 => eqExpr_of v0 v1 v2 v3 (GType.tr v4) (GType.tr_len v4) (GExpr.trs v5) (GArm.trs v6) (eqType_all v4) (eqExprS_of _ (GExpr.sz v5) (GExpr.all ih5)) (eqArmS_of _ (GArm.sz v6) (GArm.all fun x hx => eqArm_in x (ih6 x hx)))

theorem eqExprS_all (l : List GExpr) : EqSC 250 9 (GExpr.trs l) := eqExprS_of _ (GExpr.sz l) (GExpr.all fun x _ => eqExpr_all x)

theorem szMethod_all (x : GMethod) : SzC 191 x.tr := by
  obtain ⟨v0, v1, v2⟩ := x
  exact szMethod_of v0 (strTrs v1) (GExpr.tr v2) (GExpr.tr_len v2) (szStringS_all v1) (szExpr_all v2)

theorem szMethodS_all (l : List GMethod) : SzSC 150 11 (GMethod.trs l) := szMethodS_of _ (GMethod.sz l) (GMethod.all fun x _ => szMethod_all x)

theorem toMethod_all (x : GMethod) : ToC 192 x.tr := by
  obtain ⟨v0, v1, v2⟩ := x
  exact toMethod_of v0 (strTrs v1) (GExpr.tr v2) (GExpr.tr_len v2) (toStringS_all v1) (toExpr_all v2)

theorem toMethodS_all (l : List GMethod) : ToSC 152 11 (GMethod.trs l) := toMethodS_of _ (GMethod.sz l) (GMethod.all fun x _ => toMethod_all x)

theorem eqMethod_all (x : GMethod) : EqC 193 x.tr := by
  obtain ⟨v0, v1, v2⟩ := x
  exact eqMethod_of v0 (strTrs v1) (GExpr.tr v2) (GExpr.tr_len v2) (eqStringS_all v1) (eqExpr_all v2)

theorem eqMethodS_all (l : List GMethod) : EqSC 154 11 (GMethod.trs l) := eqMethodS_of _ (GMethod.sz l) (GMethod.all fun x _ => eqMethod_all x)

theorem szInstance_all (x : GInstance) : SzC 74 x.tr := by
  obtain ⟨v0, v1, v2, v3, v4, v5, v6, v7⟩ := x
  exact szInstance_of v0 (strTrs v1) (GType.tr v2) (GType.tr_len v2) (GBound.trs v3) v4 v5 (GType.tr v6) (GType.tr_len v6) (GMethod.trs v7) (szStringS_all v1) (szType_all v2) (szBoundS_all v3) (szType_all v6) (szMethodS_all v7)

theorem toInstance_all (x : GInstance) : ToC 75 x.tr := by
  obtain ⟨v0, v1, v2, v3, v4, v5, v6, v7⟩ := x
  exact toInstance_of v0 (strTrs v1) (GType.tr v2) (GType.tr_len v2) (GBound.trs v3) v4 v5 (GType.tr v6) (GType.tr_len v6) (GMethod.trs v7) (toStringS_all v1) (toType_all v2) (toBoundS_all v3) (toType_all v6) (toMethodS_all v7)

theorem eqInstance_all (x : GInstance) : EqC 76 x.tr := by
  obtain ⟨v0, v1, v2, v3, v4, v5, v6, v7⟩ := x
  exact eqInstance_of v0 (strTrs v1) (GType.tr v2) (GType.tr_len v2) (GBound.trs v3) v4 v5 (GType.tr v6) (GType.tr_len v6) (GMethod.trs v7) (eqStringS_all v1) (eqType_all v2) (eqBoundS_all v3) (eqType_all v6) (eqMethodS_all v7)

end Go.Proofs.Ytoifjkggpanceaa

namespace Go.Proofs.Ytoifjkggpanceaa
open Go.RowKit

section
variable {P : Program} {ops : Array Oper} {Q : Exit → Act → World → Prop} {md : Region.Mode} {S : World → Prop}

theorem wpAnyH_load_rep {i : Nat} {oi : Oper} {fuel : Nat} {listed : Array Bool} {a : Act} {w : World} (hi : ops[i]? = some oi)
    (hs : Region.noSelect ops = true) (hf : Region.free md ops listed i = true) (hr : (Region.ready md ops listed).contains i = true)
    (_hQ : ∀ c a w, Q (.panic c) (a.put oi.dst (.bool true)) w → Q (.panic c) a w) (hgd : oi.guard = none) (ty : TypeId) (x : Operand) (ho : oi.op = .load ty x)
    (b off : Nat) (hx : a.eval x = .pointer (some ⟨b, off, none⟩)) (cs : List Value) (fs : Array Field) (hu : P.underlying ty = some (.struct fs)) (hinfo : (P.info? ty).map (·.size) = some cs.length)
    (hS : ∀ w, S w → ∀ (j : Nat) (v : Value), cs[j]? = some v → w.cell? ⟨b, off + j, none⟩ = some v) (hw : S w) (hQ2 : ∀ c a w v, Q (.panic c) (a.put oi.dst v) w → Q (.panic c) a w)
    (h : wpAnyH P md ops Q S fuel (listed.setIfInBounds i true) (a.put oi.dst (.agg ⟨cs⟩)) w) : wpAnyH P md ops Q S (fuel + 1) listed a w :=
  wpAnyH_take hi hs hf hr (fun c a w => hQ2 c a w _) (.inl ⟨by simp [Region.wanted, hgd], fun w1 hw1 => by
    unfold execOp
    simp only [ho, hx, Instr.loadAt, Instr.sureAddr, Sem.run_bind, Sem.run_pure, Result.andThen_ok, run_loadVar_rep w1 b off ty cs fs hu hinfo (hS w1 hw1)]⟩) hw h

theorem run_call_func {o : Oper} {ev : Operand → Value} {f : FuncId} {fn : Func} {ars : Array Operand} {ts : Array TypeId} (ho : o.op = .call { callee := .value (.func f), args := ars, argTypes := ts })
    (hev : ev (.func f) = .func (.func f) #[] #[]) (vals : Array Value) (hv : ars.map ev = vals) (hf : P.funcs[f]? = some fn) (hname : (fn.name == "runtime.NumGoroutine") = false) (hb : fn.body.isNone = false) (w : World) :
    (execOp ev o).run P w = .ok (.enter f vals) w := by
  have hc := run_callFunc_body (P := P) hf hname hb
  unfold execOp
  simp only [ho]
  simp [resolve, invoke, Deferred.ofValue, hev, hv, hc]

theorem wpAnyH_call {i : Nat} {o : Oper} {fuel : Nat} {listed : Array Bool} {a : Act} {w : World} {f : FuncId} {vals : Array Value} {R : Ending → World → Prop} (hr : Region.ready md ops listed = [i]) (ho : ops[i]? = some o) (hgd : o.guard = none)
    (hrun : (execOp a.eval o).run P w = .ok (.enter f vals) w) (hc : Calls P f vals w R)
    (h : ∀ e w', R e w' → ∃ v, e = .returned v ∧ S w' ∧ wpAnyH P md ops Q S fuel (listed.setIfInBounds i true) (a.put o.dst v) w') : wpAnyH P md ops Q S (fuel + 1) listed a w := by
  refine wpAnyH_all hr (by simp) fun j hj => ?_
  obtain rfl : j = i := by simpa using hj
  have hw : Region.wanted o (yielded ops a.tmps) = true := by simp [Region.wanted, hgd]
  unfold wpOp
  simp only [ho]
  rw [if_pos hw]
  refine .inl ?_
  unfold Oper.wp
  rw [hrun]
  refine hc.mono fun e w' hR => ?_
  obtain ⟨v, rfl, h1, h2⟩ := h e w' hR
  exact ⟨h1, h2⟩

theorem run_loadVar_cell {w : World} {p : Addr} {ty : TypeId} {v : Value} {d : TypeDesc} (hu : P.underlying ty = some d) (hd : (match d with | .struct _ | .array _ _ => true | _ => false) = false) (hc : w.cell? p = some v) :
    (loadVar ty p).run P w = .ok v w := by
  have hagg : (isAgg ty).run P w = .ok false w := by
    unfold isAgg
    rw [Sem.run_bind, run_underlying hu w]
    cases d <;> simp_all
  simp [loadVar, Sem.run_bind, hagg, hc]

theorem wpAnyH_cell {i : Nat} {oi : Oper} {fuel : Nat} {listed : Array Bool} {a : Act} {w : World} (hi : ops[i]? = some oi)
    (hs : Region.noSelect ops = true) (hf : Region.free md ops listed i = true) (hr : (Region.ready md ops listed).contains i = true) (hgd : oi.guard = none) (ty : TypeId) (x : Operand) (ho : oi.op = .load ty x)
    (b off : Nat) (hx : a.eval x = .pointer (some ⟨b, off, none⟩)) (v : Value) (d : TypeDesc) (hu : P.underlying ty = some d) (hd : (match d with | .struct _ | .array _ _ => true | _ => false) = false)
    (hS : ∀ w, S w → w.cell? ⟨b, off, none⟩ = some v) (hw : S w) (hQ2 : ∀ c a w v, Q (.panic c) (a.put oi.dst v) w → Q (.panic c) a w)
    (h : wpAnyH P md ops Q S fuel (listed.setIfInBounds i true) (a.put oi.dst v) w) : wpAnyH P md ops Q S (fuel + 1) listed a w :=
  wpAnyH_take hi hs hf hr (fun c a w => hQ2 c a w _) (.inl ⟨by simp [Region.wanted, hgd], fun w1 hw1 => by
    unfold execOp
    simp only [ho, hx, Instr.loadAt, Instr.sureAddr, Sem.run_bind, Sem.run_pure, Result.andThen_ok, run_loadVar_cell hu hd (hS w1 hw1)]⟩) hw h

theorem wpAnyH_index {i : Nat} {oi : Oper} {fuel : Nat} {listed : Array Bool} {a : Act} {w : World} (hi : ops[i]? = some oi)
    (hs : Region.noSelect ops = true) (hf : Region.free md ops listed i = true) (hr : (Region.ready md ops listed).contains i = true) (hgd : oi.guard = none) (ty : TypeId) (x y : Operand) (ho : oi.op = .indexAddr ty x y)
    (b off len cap k sz : Nat) (hx : a.eval x = .slice (some ⟨b, off, none⟩) len cap) (hy : a.eval y = .int .i64 (k : Int)) (hk : k < len) (hu : P.underlying ty = some (.slice (P.elem ty))) (hinfo : (P.info? (P.elem ty)).map (·.size) = some sz)
    (hw : S w) (hQ2 : ∀ c a w v, Q (.panic c) (a.put oi.dst v) w → Q (.panic c) a w)
    (h : wpAnyH P md ops Q S fuel (listed.setIfInBounds i true) (a.put oi.dst (.pointer (some ⟨b, off + k * sz, none⟩))) w) : wpAnyH P md ops Q S (fuel + 1) listed a w :=
  wpAnyH_take hi hs hf hr (fun c a w => hQ2 c a w _) (.inl ⟨by simp [Region.wanted, hgd], fun w1 _ => by
    have hsz : (Go.sizeOf (P.elem ty)).run P w1 = .ok sz w1 := by
      cases hq : P.info? (P.elem ty) with
      | none => simp [hq] at hinfo
      | some j => have : j.size = sz := by simpa [hq] using hinfo
                  simp [Go.sizeOf, typeInfo, hq, this]
    have hadd : ∀ n, (⟨b, off, none⟩ : Addr).add n = ⟨b, off + n, none⟩ := fun n => by unfold Addr.add; split <;> simp_all
    unfold execOp
    simp only [ho, hx, hy, run_indexAt_slice _ _ _ _ _ _ _ hu, Sem.run_bind, hsz, Result.andThen_ok]
    rw [if_pos ⟨by omega, by omega⟩]
    simp [hadd]⟩) hw h

/-- The one operation that may come up now, carried out: it yields a value, in another world. -/
theorem wpAnyH_run {i : Nat} {o : Oper} {fuel : Nat} {listed : Array Bool} {a : Act} {w w' : World} {v : Value} (hr : Region.ready md ops listed = [i]) (ho : ops[i]? = some o) (hgd : o.guard = none)
    (hrun : (execOp a.eval o).run P w = .ok (.value v) w') (hS : S w') (h : wpAnyH P md ops Q S fuel (listed.setIfInBounds i true) (a.put o.dst v) w') : wpAnyH P md ops Q S (fuel + 1) listed a w := by
  refine wpAnyH_all hr (by simp) fun j hj => ?_
  obtain rfl : j = i := by simpa using hj
  have hw : Region.wanted o (yielded ops a.tmps) = true := by simp [Region.wanted, hgd]
  unfold wpOp
  simp only [ho]
  rw [if_pos hw]
  refine .inl ?_
  unfold Oper.wp
  rw [hrun]
  exact ⟨hS, h⟩
/-- The one operation that may come up now is a store of a struct into a block of our own. -/
theorem wpAnyH_store_rep {i : Nat} {o : Oper} {fuel : Nat} {listed : Array Bool} {a : Act} {w : World} (hr : Region.ready md ops listed = [i]) (ho0 : ops[i]? = some o) (hgd : o.guard = none) (ty : TypeId) (x y : Operand) (ho : o.op = .store ty x y)
    (B off : Nat) (hx : a.eval x = .pointer (some ⟨B, off, none⟩)) (cs : List Value) (hy : a.eval y = .agg ⟨cs⟩) (T : TypeId) (arr : Array Value) (hob : OB w B T arr) (hi : (P.info? ty).map (·.size) = some cs.length)
    (hfit : off + cs.length ≤ arr.size) (h1 : ∀ v ∈ cs, v.oneCell' = true)
    (h : ∀ w', OB w' B T (splice arr off cs) → w.grownBy w' (some B) → w'.heap.size = w.heap.size → S w' ∧ wpAnyH P md ops Q S fuel (listed.setIfInBounds i true) (a.put o.dst undef) w') : wpAnyH P md ops Q S (fuel + 1) listed a w := by
  refine wpAnyH_all hr (by simp) fun j hj => ?_
  obtain rfl : j = i := by simpa using hj
  have hw : Region.wanted o (yielded ops a.tmps) = true := by simp [Region.wanted, hgd]
  have hst := run_storeCells_at P B off T cs 0 arr w hob (by simpa using hfit) h1
  cases hq : P.info? ty with
  | none => simp [hq] at hi
  | some inf =>
    have hs : inf.size = cs.length := by simpa [hq] using hi
    have hrun : (storeVar ty ⟨B, off, none⟩ (.agg ⟨cs⟩)).run P w = .ok () (w.setRow B (splice arr off cs)) := by
      simp [storeVar, Go.sizeOf, typeInfo, hq, Value.cells, hs, hst, splice]
    unfold wpOp
    simp only [ho0]
    rw [if_pos hw]
    refine .inl ?_
    unfold Oper.wp execOp
    simp only [ho, hx, hy, Instr.storeAt, Instr.sureAddr, Sem.run_bind, Sem.run_pure, Result.andThen_ok, hrun]
    exact h _ (setRow_heap w B arr _ T _ hob) ⟨rfl, rfl, rfl, by simp, fun k _ hk => setRow_other w B k _ (fun e => hk (by rw [e]))⟩ (by simp)

theorem wpOp_call {i : Nat} {o : Oper} {a : Act} {w : World} {f : FuncId} {vals : Array Value} {R : Ending → World → Prop} {K : Act → World → Prop} (ho : ops[i]? = some o) (hgd : o.guard = none)
    (hrun : (execOp a.eval o).run P w = .ok (.enter f vals) w) (hc : Calls P f vals w R) (h : ∀ e w', R e w' → ∃ v, e = .returned v ∧ K (a.put o.dst v) w') : wpOp P ops Q i K a w := by
  have hw : Region.wanted o (yielded ops a.tmps) = true := by simp [Region.wanted, hgd]
  unfold wpOp
  simp only [ho]
  rw [if_pos hw]
  refine .inl ?_
  unfold Oper.wp
  rw [hrun]
  refine hc.mono fun e w' hR => ?_
  obtain ⟨v, rfl, h1⟩ := h e w' hR
  exact h1
theorem wpOp_run {i : Nat} {o : Oper} {a : Act} {w w' : World} {v : Value} {K : Act → World → Prop} (ho : ops[i]? = some o) (hgd : o.guard = none) (hrun : (execOp a.eval o).run P w = .ok (.value v) w') (h : K (a.put o.dst v) w') : wpOp P ops Q i K a w := by
  have hw : Region.wanted o (yielded ops a.tmps) = true := by simp [Region.wanted, hgd]
  unfold wpOp
  simp only [ho]
  rw [if_pos hw]
  refine .inl ?_
  unfold Oper.wp
  rw [hrun]
  exact h

theorem run_op_load_rep {o : Oper} {ev : Operand → Value} {w : World} (ty : TypeId) (x : Operand) (ho : o.op = .load ty x) (b off : Nat) (hx : ev x = .pointer (some ⟨b, off, none⟩)) (cs : List Value) (fs : Array Field) (hu : P.underlying ty = some (.struct fs)) (hi : (P.info? ty).map (·.size) = some cs.length)
    (hc : ∀ j v, cs[j]? = some v → w.cell? ⟨b, off + j, none⟩ = some v) : (execOp ev o).run P w = .ok (.value (.agg ⟨cs⟩)) w := by
  unfold execOp
  simp only [ho, hx, Instr.loadAt, Instr.sureAddr, Sem.run_bind, Sem.run_pure, Result.andThen_ok, run_loadVar_rep w b off ty cs fs hu hi hc]

theorem wpList_load_rep_g {rest : List Oper} {o : Oper} {a : Act} {w : World} (hwd : Region.wanted o (yielded ops a.tmps) = true) (ty : TypeId) (x : Operand) (ho : o.op = .load ty x)
    (b off : Nat) (hx : a.eval x = .pointer (some ⟨b, off, none⟩)) (cs : List Value) (fs : Array Field) (hu : P.underlying ty = some (.struct fs)) (hi : (P.info? ty).map (·.size) = some cs.length)
    (hc : ∀ j v, cs[j]? = some v → w.cell? ⟨b, off + j, none⟩ = some v) (h : wpList P ops Q rest (a.put o.dst (.agg ⟨cs⟩)) w) : wpList P ops Q (o :: rest) a w :=
  wpList_step fun _ hK => by
    rw [if_pos hwd]
    unfold Oper.wp execOp
    simp only [ho, hx, Instr.loadAt, Instr.sureAddr, Sem.run_bind, Sem.run_pure, Result.andThen_ok, run_loadVar_rep w b off ty cs fs hu hi hc]
    exact hK _ _ h

theorem wpAnyH_load_rep_g {i : Nat} {oi : Oper} {fuel : Nat} {listed : Array Bool} {a : Act} {w : World} (hi : ops[i]? = some oi)
    (hs : Region.noSelect ops = true) (hf : Region.free md ops listed i = true) (hr : (Region.ready md ops listed).contains i = true)
    (_hQ : ∀ c a w, Q (.panic c) (a.put oi.dst (.bool true)) w → Q (.panic c) a w) (hwd : Region.wanted oi (yielded ops a.tmps) = true) (ty : TypeId) (x : Operand) (ho : oi.op = .load ty x)
    (b off : Nat) (hx : a.eval x = .pointer (some ⟨b, off, none⟩)) (cs : List Value) (fs : Array Field) (hu : P.underlying ty = some (.struct fs)) (hinfo : (P.info? ty).map (·.size) = some cs.length)
    (hS : ∀ w, S w → ∀ (j : Nat) (v : Value), cs[j]? = some v → w.cell? ⟨b, off + j, none⟩ = some v) (hw : S w) (hQ2 : ∀ c a w v, Q (.panic c) (a.put oi.dst v) w → Q (.panic c) a w)
    (h : wpAnyH P md ops Q S fuel (listed.setIfInBounds i true) (a.put oi.dst (.agg ⟨cs⟩)) w) : wpAnyH P md ops Q S (fuel + 1) listed a w :=
  wpAnyH_take hi hs hf hr (fun c a w => hQ2 c a w _) (.inl ⟨hwd, fun w1 hw1 => by
    unfold execOp
    simp only [ho, hx, Instr.loadAt, Instr.sureAddr, Sem.run_bind, Sem.run_pure, Result.andThen_ok, run_loadVar_rep w1 b off ty cs fs hu hinfo (hS w1 hw1)]⟩) hw h

theorem wpAnyH_cell_g {i : Nat} {oi : Oper} {fuel : Nat} {listed : Array Bool} {a : Act} {w : World} (hi : ops[i]? = some oi)
    (hs : Region.noSelect ops = true) (hf : Region.free md ops listed i = true) (hr : (Region.ready md ops listed).contains i = true) (hwd : Region.wanted oi (yielded ops a.tmps) = true) (ty : TypeId) (x : Operand) (ho : oi.op = .load ty x)
    (b off : Nat) (hx : a.eval x = .pointer (some ⟨b, off, none⟩)) (v : Value) (d : TypeDesc) (hu : P.underlying ty = some d) (hd : (match d with | .struct _ | .array _ _ => true | _ => false) = false)
    (hS : ∀ w, S w → w.cell? ⟨b, off, none⟩ = some v) (hw : S w) (hQ2 : ∀ c a w v, Q (.panic c) (a.put oi.dst v) w → Q (.panic c) a w)
    (h : wpAnyH P md ops Q S fuel (listed.setIfInBounds i true) (a.put oi.dst v) w) : wpAnyH P md ops Q S (fuel + 1) listed a w :=
  wpAnyH_take hi hs hf hr (fun c a w => hQ2 c a w _) (.inl ⟨hwd, fun w1 hw1 => by
    unfold execOp
    simp only [ho, hx, Instr.loadAt, Instr.sureAddr, Sem.run_bind, Sem.run_pure, Result.andThen_ok, run_loadVar_cell hu hd (hS w1 hw1)]⟩) hw h

theorem wpAnyH_index_g {i : Nat} {oi : Oper} {fuel : Nat} {listed : Array Bool} {a : Act} {w : World} (hi : ops[i]? = some oi)
    (hs : Region.noSelect ops = true) (hf : Region.free md ops listed i = true) (hr : (Region.ready md ops listed).contains i = true) (hwd : Region.wanted oi (yielded ops a.tmps) = true) (ty : TypeId) (x y : Operand) (ho : oi.op = .indexAddr ty x y)
    (b off len cap k sz : Nat) (hx : a.eval x = .slice (some ⟨b, off, none⟩) len cap) (hy : a.eval y = .int .i64 (k : Int)) (hk : k < len) (hu : P.underlying ty = some (.slice (P.elem ty))) (hinfo : (P.info? (P.elem ty)).map (·.size) = some sz)
    (hw : S w) (hQ2 : ∀ c a w v, Q (.panic c) (a.put oi.dst v) w → Q (.panic c) a w)
    (h : wpAnyH P md ops Q S fuel (listed.setIfInBounds i true) (a.put oi.dst (.pointer (some ⟨b, off + k * sz, none⟩))) w) : wpAnyH P md ops Q S (fuel + 1) listed a w :=
  wpAnyH_take hi hs hf hr (fun c a w => hQ2 c a w _) (.inl ⟨hwd, fun w1 _ => by
    have hsz : (Go.sizeOf (P.elem ty)).run P w1 = .ok sz w1 := by
      cases hq : P.info? (P.elem ty) with
      | none => simp [hq] at hinfo
      | some j => have : j.size = sz := by simpa [hq] using hinfo
                  simp [Go.sizeOf, typeInfo, hq, this]
    have hadd : ∀ n, (⟨b, off, none⟩ : Addr).add n = ⟨b, off + n, none⟩ := fun n => by unfold Addr.add; split <;> simp_all
    unfold execOp
    simp only [ho, hx, hy, run_indexAt_slice _ _ _ _ _ _ _ hu, Sem.run_bind, hsz, Result.andThen_ok]
    rw [if_pos ⟨by omega, by omega⟩]
    simp [hadd]⟩) hw h

theorem wpAnyH_call_g {i : Nat} {o : Oper} {fuel : Nat} {listed : Array Bool} {a : Act} {w : World} {f : FuncId} {vals : Array Value} {R : Ending → World → Prop} (hr : Region.ready md ops listed = [i]) (ho : ops[i]? = some o) (hwd : Region.wanted o (yielded ops a.tmps) = true)
    (hrun : (execOp a.eval o).run P w = .ok (.enter f vals) w) (hc : Calls P f vals w R)
    (h : ∀ e w', R e w' → ∃ v, e = .returned v ∧ S w' ∧ wpAnyH P md ops Q S fuel (listed.setIfInBounds i true) (a.put o.dst v) w') : wpAnyH P md ops Q S (fuel + 1) listed a w := by
  refine wpAnyH_all hr (by simp) fun j hj => ?_
  obtain rfl : j = i := by simpa using hj
  unfold wpOp
  simp only [ho]
  rw [if_pos hwd]
  refine .inl ?_
  unfold Oper.wp
  rw [hrun]
  refine hc.mono fun e w' hR => ?_
  obtain ⟨v, rfl, h1, h2⟩ := h e w' hR
  exact ⟨h1, h2⟩

/-- string(b), b's cells the bytes l. -/
theorem wpList_bytes_back {rest : List Oper} {o : Oper} {a : Act} {w : World} (hgd : o.guard = none) (src dst e : TypeId) (x : Operand) (ho : o.op = .convert src dst x) (hs : P.underlying src = some (.slice e)) (he : P.underlying e = some (.int .u8)) (hd : P.underlying dst = some .string)
    (b cap n : Nat) (l : List UInt8) (hn : l.length = n) (hx : a.eval x = .slice (some ⟨b, 0, none⟩) n cap) (hc : ∀ j (hj : j < l.length), w.cell? ⟨b, j, none⟩ = some (.int .u8 (l[j].toNat : Int)))
    (h : wpList P ops Q rest (a.put o.dst (.string ⟨l.toArray⟩)) w) : wpList P ops Q (o :: rest) a w :=
  wpList_plain hgd fun _ hK => by
    subst hn
    have hadd : ∀ n, (⟨b, 0, none⟩ : Addr).add n = ⟨b, n, none⟩ := fun n => by unfold Addr.add; split <;> simp_all
    have hr := run_convert_bytes_back (P := P) w src dst e ⟨b, 0, none⟩ cap l hs he hd (fun j hj => by rw [hadd]; exact hc j hj)
    unfold Oper.wp execOp
    simp only [ho, hx, Sem.run_bind, hr, Result.andThen_ok, Sem.run_pure]
    exact hK _ _ h
theorem bytes_cons (x : UInt8) (l : List UInt8) : (⟨#[x]⟩ : ByteArray) ++ ⟨l.toArray⟩ = ⟨(x :: l).toArray⟩ := by
  apply ByteArray.ext
  simp [ByteArray.data_append]
end
end Go.Proofs.Ytoifjkggpanceaa

namespace Go.Proofs.Ytoifjkggpanceaa
open Go.RowKit

def digits (k : Nat) : List UInt8 := if _h : k = 0 then [] else digits (k / 10) ++ [UInt8.ofNat (48 + k % 10)]
termination_by k
decreasing_by omega
theorem digits_zero : digits 0 = [] := by rw [digits]; rfl
theorem digits_pos {k : Nat} (h : k ≠ 0) : digits k = digits (k / 10) ++ [UInt8.ofNat (48 + k % 10)] := by rw [digits, dif_neg h]
theorem digits_length (k n : Nat) (h : k < 10 ^ n) : (digits k).length ≤ n := by
  induction n generalizing k with
  | zero => simp at h; subst h; rw [digits_zero]; exact Nat.le_refl _
  | succ n ih =>
    by_cases hk : k = 0
    · subst hk; rw [digits_zero]; simp
    · rw [digits_pos hk, List.length_append]
      have := ih (k / 10) (by rw [Nat.div_lt_iff_lt_mul (by omega), ← Nat.pow_succ]; exact h)
      simp; omega
/-- The text of a mark. -/
def mtext (k : Nat) : ByteArray := ⟨((109 : UInt8) :: if k = 0 then [48] else digits k).toArray⟩

def markLeaf (k : Nat) : Value → Value
  | .int d _ => .int d k
  | .string _ => .string (mtext k)
  | .bool _ => .bool (k % 3 == 0)
  | v => v

mutual
def Tr.cnt : Tr → Nat
  | .leaf _ => 1
  | .row _ es => Tr.cntE es
def Tr.cntL : List Tr → Nat
  | [] => 0
  | t :: r => Tr.cnt t + Tr.cntL r
def Tr.cntE : List (List Tr) → Nat
  | [] => 0
  | e :: r => Tr.cntL e + Tr.cntE r
end
mutual
def Tr.mark : Tr → Nat → Tr
  | .leaf v, k => .leaf (markLeaf k v)
  | .row sz es, k => .row sz (Tr.markE es k)
def Tr.markL : List Tr → Nat → List Tr
  | [], _ => []
  | t :: r, k => Tr.mark t k :: Tr.markL r (k + Tr.cnt t)
def Tr.markE : List (List Tr) → Nat → List (List Tr)
  | [], _ => []
  | e :: r, k => Tr.markL e k :: Tr.markE r (k + Tr.cntL e)
end
theorem Tr.markE_length : ∀ (es : List (List Tr)) (k : Nat), (Tr.markE es k).length = es.length
  | [], _ => rfl
  | e :: r, k => by simp [Tr.markE, Tr.markE_length r]
theorem Tr.markL_length : ∀ (es : List Tr) (k : Nat), (Tr.markL es k).length = es.length
  | [], _ => rfl
  | e :: r, k => by simp [Tr.markL, Tr.markL_length r]
theorem Tr.markL_append : ∀ (a b : List Tr) (k : Nat), Tr.markL (a ++ b) k = Tr.markL a k ++ Tr.markL b (k + Tr.cntL a)
  | [], b, k => by simp [Tr.markL, Tr.cntL]
  | t :: a, b, k => by simp [Tr.markL, Tr.cntL, Tr.markL_append a b, Nat.add_assoc]
theorem Tr.cntL_append : ∀ (a b : List Tr), Tr.cntL (a ++ b) = Tr.cntL a + Tr.cntL b
  | [], b => by simp [Tr.cntL]
  | t :: a, b => by simp [Tr.cntL, Tr.cntL_append a b, Nat.add_assoc]
theorem Tr.cntE_take : ∀ (es : List (List Tr)) (i : Nat) (h : i < es.length), Tr.cntE (es.take (i + 1)) = Tr.cntE (es.take i) + Tr.cntL es[i]
  | [], i, h => by simp at h
  | e :: r, 0, h => by simp [Tr.cntE]
  | e :: r, i + 1, h => by
    have := Tr.cntE_take r i (by simpa using h)
    simp only [List.take_succ_cons, Tr.cntE, this, List.getElem_cons_succ, Nat.add_assoc]
/-- Element i of the marked slice. -/
theorem Tr.markE_get : ∀ (es : List (List Tr)) (k i : Nat) (h : i < es.length), (Tr.markE es k)[i]? = some (Tr.markL es[i] (k + Tr.cntE (es.take i)))
  | [], k, i, h => by simp at h
  | e :: r, k, 0, h => by simp [Tr.markE, Tr.cntE]
  | e :: r, k, i + 1, h => by
    have := Tr.markE_get r (k + Tr.cntL e) i (by simpa using h)
    simp only [Tr.markE, List.getElem?_cons_succ, this, List.take_succ_cons, Tr.cntE, List.getElem_cons_succ, Nat.add_assoc]

/-- Blocks outside S hold what they held; the rest of the world is as it was. -/
structure Chg (S : Nat → Prop) (w w' : World) : Prop where
  os : w'.os = w.os
  tape : w'.tape = w.tape
  output : w'.output = w.output
  size : w.heap.size ≤ w'.heap.size
  block : ∀ b, b < w.heap.size → ¬ S b → w'.heap[b]? = w.heap[b]?
theorem Chg.refl (S : Nat → Prop) (w : World) : Chg S w w := ⟨rfl, rfl, rfl, Nat.le_refl _, fun _ _ _ => rfl⟩
theorem Chg.trans {S : Nat → Prop} {a b c : World} (h : Chg S a b) (k : Chg S b c) : Chg S a c :=
  ⟨k.os.trans h.os, k.tape.trans h.tape, k.output.trans h.output, Nat.le_trans h.size k.size, fun x hx hs => (k.block x (Nat.lt_of_lt_of_le hx h.size) hs).trans (h.block x hx hs)⟩
theorem Chg.mono {S S' : Nat → Prop} {a b : World} (h : Chg S a b) (hS : ∀ x, S x → S' x) : Chg S' a b := ⟨h.os, h.tape, h.output, h.size, fun x hx hn => h.block x hx fun hs => hn (hS x hs)⟩
theorem Chg.of_ext {S : Nat → Prop} {a b : World} (h : Ext a b) : Chg S a b := ⟨h.os, h.tape, h.output, h.size, fun x hx _ => h.block x hx⟩
theorem Chg.of_grown {S : Nat → Prop} {B : Nat} {a b : World} (h : a.grownBy b (some B)) (hB : S B) : Chg S a b := ⟨h.os, h.tape, h.output, h.size, fun x hx hs => h.block x hx (by simp; rintro rfl; exact hs hB)⟩
theorem Chg.ext {S : Nat → Prop} {a b c : World} (h : Ext a b) (k : Chg S b c) (hS : ∀ x, S x → a.heap.size ≤ x) : Ext a c :=
  ⟨k.os.trans h.os, k.tape.trans h.tape, k.output.trans h.output, Nat.le_trans h.size k.size, fun x hx => (k.block x (Nat.lt_of_lt_of_le hx h.size) (fun hs => by have := hS x hs; omega)).trans (h.block x hx)⟩

/-- One element of an own slice, taken out and put back changed. -/
theorem Own.focus {w : World} {sz : Nat} {es : List (List Tr)} {a : Option Addr} {n cap i : Nat} {S : Nat → Prop} {e : List Tr} (h : Own w (.row sz es) (.slice a n cap) S) (hi : es[i]? = some e) (hl : ∀ x ∈ es, x.length = sz) :
    ∃ b off E arr cs T, a = some ⟨b, off, none⟩ ∧ OB w b E arr ∧ S b ∧ OwnL w e cs T ∧ (∀ x, T x → S x ∧ x ≠ b) ∧ cs.length = sz ∧ (0 < sz → off + i * sz + sz ≤ arr.size) ∧ (∀ j v, cs[j]? = some v → arr[off + i * sz + j]? = some v) ∧
      ∀ w' cs' e', e'.length = sz → OB w' b E (splice arr (off + i * sz) cs') → OwnL w' e' cs' T → (∀ x, x < w.heap.size → S x → x ≠ b → ¬ T x → w'.heap[x]? = w.heap[x]?) → off + i * sz + sz ≤ arr.size →
        Own w' (.row sz (es.set i e')) (.slice a n cap) S := by
  cases h with
  | row c T h1 h2 h3 h4 h5 h6 =>
    have hne : es ≠ [] := by rintro rfl; simp at hi
    obtain ⟨b, off, E, arr, rfl, hob, hs, hc⟩ := h3 hne
    have hlt : i < es.length := (List.getElem?_eq_some_iff.1 hi).1
    have hel : e.length = sz := hl e (List.mem_of_getElem? hi)
    have hgj : ∀ j, j < sz → ∃ d, e[j]? = some d := fun j hj => ⟨e[j]'(by omega), List.getElem?_eq_getElem _⟩
    refine ⟨b, off, E, arr, (List.range sz).map (c i), fun x => ∃ j, j < sz ∧ T i j x, rfl, hob, hs, ?_, ?_, by simp, ?_, ?_, ?_⟩
    · refine ⟨by simp [hel], fun j x => j < sz ∧ T i j x, ?_, ?_, ?_⟩
      · intro j d hd
        have hj : j < sz := by rw [← hel]; exact (List.getElem?_eq_some_iff.1 hd).1
        exact ⟨c i j, by simp [hj], (h4 i e hi j d hd).mono fun x hx => ⟨hj, hx⟩⟩
      · intro j d hd x hx
        exact ⟨j, hx⟩
      · intro j d hd j' d' hd' hne x hx hx'
        exact h6 i e hi j d hd i e hi j' d' hd' (fun _ => hne) x hx.2 hx'.2
    · rintro x ⟨j, hj, hx⟩
      obtain ⟨d, hd⟩ := hgj j hj
      exact ⟨h5 i e hi j d hd x hx, (hc i e hi j d hd).2 x hx⟩
    · intro h0
      obtain ⟨d, hd⟩ := hgj (sz - 1) (by omega)
      have := (hc i e hi _ d hd).1
      have := (Array.getElem?_eq_some_iff.1 this).1
      omega
    · intro j v hv
      rw [List.getElem?_map] at hv
      rcases Nat.lt_or_ge j sz with hj | hj
      · rw [List.getElem?_range hj] at hv
        simp at hv
        obtain ⟨d, hd⟩ := hgj j hj
        rw [← hv]
        exact (hc i e hi j d hd).1
      · rw [List.getElem?_eq_none (by simpa using hj)] at hv
        simp at hv
    · intro w' cs' e' hel' hob' how hx hfit
      obtain ⟨hcl, U, u1, u2, u3⟩ := how
      have hcl : cs'.length = sz := by omega
      have hset : (es.set i e').length = es.length := by simp
      have get : ∀ i' e2, (es.set i e')[i']? = some e2 → (i' = i ∧ e2 = e') ∨ (i' ≠ i ∧ es[i']? = some e2) := by
        intro i' e2 h
        rw [List.getElem?_set] at h
        split at h
        · rename_i hii
          subst hii
          simp only [Option.some.injEq] at h
          exact .inl ⟨rfl, h.symm⟩
        · rename_i hii
          exact .inr ⟨fun e => hii e.symm, h⟩
      have keep : ∀ i' e2, i' ≠ i → es[i']? = some e2 → ∀ j d, e2[j]? = some d → ∀ x, T i' j x → x < w.heap.size → w'.heap[x]? = w.heap[x]? := by
        intro i' e2 hne' he2 j d hd x hx' hxl
        refine hx x hxl (h5 i' e2 he2 j d hd x hx') ((hc i' e2 he2 j d hd).2 x hx') ?_
        rintro ⟨j', hj', hT⟩
        obtain ⟨d', hd'⟩ := hgj j' hj'
        exact h6 i' e2 he2 j d hd i e hi j' d' hd' (fun h => absurd h hne') x hx' hT
      rw [← hset]
      refine .row (fun i' j => if i' = i then (cs'[j]?).getD undef else c i' j) (fun i' j => if i' = i then U j else T i' j) (by rw [hset]; exact h1) h2 ?_ ?_ ?_ ?_
      · intro _
        refine ⟨b, off, E, _, rfl, hob', hs, ?_⟩
        intro i' e2 he2 j d hd
        rcases get i' e2 he2 with ⟨rfl, rfl⟩ | ⟨hne', he2⟩
        · simp only [if_true]
          have hj : j < sz := by rw [← hel']; exact (List.getElem?_eq_some_iff.1 hd).1
          refine ⟨?_, fun x hx' => ?_⟩
          · have h7 := splice_same (arr := arr) (o := off + i' * sz) (vs := cs') (by omega)
            have h8 : (((splice arr (off + i' * sz) cs').toList.drop (off + i' * sz)).take cs'.length)[j]? = cs'[j]? := by rw [h7]
            rw [List.getElem?_take, if_pos (by omega), List.getElem?_drop] at h8
            have h9 : cs'[j]? = some (cs'[j]'(by omega)) := List.getElem?_eq_getElem _
            rw [h9] at h8 ⊢
            simpa using h8
          · obtain ⟨j2, hj2, hT⟩ := u2 j d hd x hx'
            obtain ⟨d2, hd2⟩ := hgj j2 hj2
            exact (hc i' e hi j2 d2 hd2).2 x hT
        · simp only [if_neg hne']
          obtain ⟨q1, q2⟩ := hc i' e2 he2 j d hd
          have hl2 : e2.length = sz := hl e2 (List.mem_of_getElem? he2)
          have hj : j < sz := by rw [← hl2]; exact (List.getElem?_eq_some_iff.1 hd).1
          refine ⟨?_, q2⟩
          rw [← q1]
          unfold splice
          have hsz : 0 < sz := by omega
          rcases Nat.lt_or_ge i' i with hlt' | hge
          · have h10 : (i' + 1) * sz ≤ i * sz := Nat.mul_le_mul_right _ hlt'
            rw [Nat.succ_mul] at h10
            rw [List.getElem?_toArray, List.append_assoc, List.getElem?_append_left (by simp; omega), List.getElem?_take, if_pos (by omega)]
            simp
          · have h10 : (i + 1) * sz ≤ i' * sz := Nat.mul_le_mul_right _ (by omega)
            rw [Nat.succ_mul] at h10
            rw [List.getElem?_toArray, List.getElem?_append_right (by simp; omega), List.getElem?_drop]
            simp only [List.length_append, List.length_take, Array.length_toList]
            rw [Nat.min_eq_left (by omega), Array.getElem?_toList]
            congr 1
            omega
      · intro i' e2 he2 j d hd
        rcases get i' e2 he2 with ⟨rfl, rfl⟩ | ⟨hne', he2⟩
        · simp only [if_true]
          obtain ⟨v, hv, ho⟩ := u1 j d hd
          simpa [hv] using ho
        · simp only [if_neg hne']
          exact (h4 i' e2 he2 j d hd).keep fun x hx' hxl => keep i' e2 hne' he2 j d hd x hx' hxl
      · intro i' e2 he2 j d hd x hx'
        rcases get i' e2 he2 with ⟨rfl, rfl⟩ | ⟨hne', he2⟩
        · simp only [if_true] at hx'
          obtain ⟨j2, hj2, hT⟩ := u2 j d hd x hx'
          obtain ⟨d2, hd2⟩ := hgj j2 hj2
          exact h5 i' e hi j2 d2 hd2 x hT
        · simp only [if_neg hne'] at hx'
          exact h5 i' e2 he2 j d hd x hx'
      · intro i' e2 he2 j d hd i'' e3 he3 j' d' hd' hne x hx1 hx2
        rcases get i' e2 he2 with ⟨rfl, rfl⟩ | ⟨hne', he2⟩
        · simp only [if_true] at hx1
          rcases get i'' e3 he3 with ⟨rfl, rfl⟩ | ⟨hne'', he3⟩
          · simp only [if_true] at hx2
            exact u3 j d hd j' d' hd' (hne rfl) x hx1 hx2
          · simp only [if_neg hne''] at hx2
            obtain ⟨j2, hj2, hT⟩ := u2 j d hd x hx1
            obtain ⟨d2, hd2⟩ := hgj j2 hj2
            exact h6 i'' e3 he3 j' d' hd' i' e hi j2 d2 hd2 (fun h => absurd h hne'') x hx2 hT
        · simp only [if_neg hne'] at hx1
          have he2' := he2
          rcases get i'' e3 he3 with ⟨rfl, rfl⟩ | ⟨hne'', he3⟩
          · simp only [if_true] at hx2
            obtain ⟨j2, hj2, hT⟩ := u2 j' d' hd' x hx2
            obtain ⟨d2, hd2⟩ := hgj j2 hj2
            exact h6 i' e2 he2' j d hd i'' e hi j2 d2 hd2 (fun h => absurd h hne') x hx1 hT
          · simp only [if_neg hne''] at hx2
            exact h6 i' e2 he2 j d hd i'' e3 he3 j' d' hd' hne x hx1 hx2

end Go.Proofs.Ytoifjkggpanceaa

namespace Go.Proofs.Ytoifjkggpanceaa
open Go.RowKit

theorem OwnL.setLeaf {w : World} {ts : List Tr} {cs : List Value} {T : Nat → Prop} {j : Nat} {u : Tr} {v : Value} (h : OwnL w ts cs T) (hj : ts[j]? = some u) (hv : LeafOk v) : OwnL w (ts.set j (.leaf v)) (cs.set j v) T := by
  obtain ⟨hl, U, h1, h2, h3⟩ := h
  have hlt : j < ts.length := (List.getElem?_eq_some_iff.1 hj).1
  have old : ∀ i d, (ts.set j (.leaf v))[i]? = some d → (i = j ∧ d = .leaf v) ∨ (i ≠ j ∧ ts[i]? = some d) := by
    intro i d hd
    rw [List.getElem?_set] at hd
    split at hd
    · rename_i hij
      subst hij
      simp only [Option.some.injEq] at hd
      exact .inl ⟨rfl, hd.symm⟩
    · rename_i hij
      exact .inr ⟨fun e => hij e.symm, hd⟩
  refine ⟨by simp [hl], fun i x => i ≠ j ∧ U i x, ?_, ?_, ?_⟩
  · intro i d hd
    rcases old i d hd with ⟨rfl, rfl⟩ | ⟨hne, hd⟩
    · exact ⟨v, by rw [List.getElem?_set]; simp [hl, hlt], .leaf hv⟩
    · obtain ⟨v', hv', ho⟩ := h1 i d hd
      exact ⟨v', by rw [List.getElem?_set]; rw [if_neg (fun e => hne e.symm)]; exact hv', ho.mono fun x hx => ⟨hne, hx⟩⟩
  · intro i d hd x hx
    rcases old i d hd with ⟨rfl, rfl⟩ | ⟨hne, hd⟩
    · exact (hx.1 rfl).elim
    · exact h2 i d hd x hx.2
  · intro i d hd i' d' hd' hne x hx hx'
    rcases old i d hd with ⟨rfl, rfl⟩ | ⟨_, hd⟩
    · exact hx.1 rfl
    · rcases old i' d' hd' with ⟨rfl, rfl⟩ | ⟨_, hd'⟩
      · exact hx'.1 rfl
      · exact h3 i d hd i' d' hd' hne x hx.2 hx'.2

theorem OwnL.setRow {w : World} {ts : List Tr} {cs : List Value} {T : Nat → Prop} {j : Nat} {t : Tr} {v : Value} (h : OwnL w ts cs T) (hj : ts[j]? = some t) (hv : cs[j]? = some v) :
    ∃ U : Nat → Prop, Own w t v U ∧ (∀ x, U x → T x) ∧ ∀ w' t', Own w' t' v U → (∀ x, x < w.heap.size → T x → ¬ U x → w'.heap[x]? = w.heap[x]?) → OwnL w' (ts.set j t') cs T := by
  obtain ⟨hl, U, h1, h2, h3⟩ := h
  have hlt : j < ts.length := (List.getElem?_eq_some_iff.1 hj).1
  obtain ⟨v1, hv1, ho1⟩ := h1 j t hj
  rw [hv] at hv1
  injection hv1 with hv1
  subst hv1
  refine ⟨U j, ho1, h2 j t hj, fun w' t' ho' hk => ⟨by simp [hl], U, ?_, ?_, ?_⟩⟩
  all_goals
    have old : ∀ i d, (ts.set j t')[i]? = some d → (i = j ∧ d = t') ∨ (i ≠ j ∧ ts[i]? = some d) := by
      intro i d hd
      rw [List.getElem?_set] at hd
      split at hd
      · rename_i hij
        subst hij
        simp only [Option.some.injEq] at hd
        exact .inl ⟨rfl, hd.symm⟩
      · rename_i hij
        exact .inr ⟨fun e => hij e.symm, hd⟩
  · intro i d hd
    rcases old i d hd with ⟨rfl, rfl⟩ | ⟨hne, hd⟩
    · exact ⟨v, hv, ho'⟩
    · obtain ⟨v', hv', ho⟩ := h1 i d hd
      exact ⟨v', hv', ho.keep fun x hx hxl => hk x hxl (h2 i d hd x hx) (fun hu => h3 i d hd j t hj hne x hx hu)⟩
  · intro i d hd x hx
    rcases old i d hd with ⟨rfl, rfl⟩ | ⟨hne, hd⟩
    · exact h2 i t hj x hx
    · exact h2 i d hd x hx
  · intro i d hd i' d' hd' hne x hx hx'
    rcases old i d hd with ⟨rfl, rfl⟩ | ⟨hne1, hd1⟩
    · rcases old i' d' hd' with ⟨rfl, rfl⟩ | ⟨_, hd2⟩
      · exact hne rfl
      · exact h3 i t hj i' d' hd2 hne x hx hx'
    · rcases old i' d' hd' with ⟨rfl, rfl⟩ | ⟨_, hd2⟩
      · exact h3 i d hd1 i' t hj hne x hx hx'
      · exact h3 i d hd1 i' d' hd2 hne x hx hx'

structure Foc (w0 wr : World) (b : Nat) (E : TypeId) (arr0 : Array Value) (o sz : Nat) (ts : List Tr) (cs : List Value) (T : Nat → Prop) : Prop where
  arr : ∃ arr, OB wr b E arr ∧ arr.size = arr0.size ∧ (∀ q, q < o ∨ o + sz ≤ q → arr[q]? = arr0[q]?) ∧ (∀ j v, cs[j]? = some v → arr[o + j]? = some v)
  own : OwnL wr ts cs T
  chg : Chg (fun x => x = b ∨ T x) w0 wr
  notin : ¬ T b
  len : cs.length = sz
  fit : o + sz ≤ arr0.size
  tlt : ∀ x, T x → x < w0.heap.size
  blt : b < w0.heap.size

theorem Foc.cell {w0 wr : World} {b : Nat} {E : TypeId} {arr0 : Array Value} {o sz : Nat} {ts : List Tr} {cs : List Value} {T : Nat → Prop} (h : Foc w0 wr b E arr0 o sz ts cs T) {j : Nat} {v : Value} (hj : cs[j]? = some v) : wr.cell? ⟨b, o + j, none⟩ = some v := by
  obtain ⟨arr, h1, -, -, h4⟩ := h.arr
  rw [h1.cell]
  exact h4 j v hj
theorem Foc.ext {w0 wr w' : World} {b : Nat} {E : TypeId} {arr0 : Array Value} {o sz : Nat} {ts : List Tr} {cs : List Value} {T : Nat → Prop} (h : Foc w0 wr b E arr0 o sz ts cs T) (hx : Ext wr w') : Foc w0 w' b E arr0 o sz ts cs T := by
  obtain ⟨arr, h1, h2, h3, h4⟩ := h.arr
  exact ⟨⟨arr, h1.ext hx, h2, h3, h4⟩, h.own.ext hx, h.chg.trans (.of_ext hx), h.notin, h.len, h.fit, h.tlt, h.blt⟩

theorem splice_get {arr : Array Value} {o : Nat} {cs : List Value} (h : o + cs.length ≤ arr.size) (q : Nat) : (splice arr o cs)[q]? = if q < o then arr[q]? else if q < o + cs.length then cs[q - o]? else arr[q]? := by
  unfold splice
  rw [List.getElem?_toArray, List.append_assoc]
  by_cases h1 : q < o
  · rw [if_pos h1, List.getElem?_append_left (by simp; omega), List.getElem?_take, if_pos h1]; simp
  · rw [if_neg h1, List.getElem?_append_right (by simp; omega)]
    have hl : (List.take o arr.toList).length = o := by simp; omega
    rw [hl]
    by_cases h2 : q < o + cs.length
    · rw [if_pos h2, List.getElem?_append_left (by omega)]
    · rw [if_neg h2, List.getElem?_append_right (by omega), List.getElem?_drop, Array.getElem?_toList]
      congr 1; omega

theorem Foc.leaf {w0 wr w' : World} {b : Nat} {E : TypeId} {arr0 arr : Array Value} {o sz : Nat} {ts : List Tr} {cs : List Value} {T : Nat → Prop} (h : Foc w0 wr b E arr0 o sz ts cs T) {j : Nat} {u : Tr} {v : Value} (hj : ts[j]? = some u) (hv : LeafOk v)
    (ha : OB wr b E arr) (hob : OB w' b E (splice arr (o + j) [v])) (hg : wr.grownBy w' (some b)) : Foc w0 w' b E arr0 o sz (ts.set j (.leaf v)) (cs.set j v) T := by
  obtain ⟨arr1, h1, h2, h3, h4⟩ := h.arr
  have he := ha.symm.trans h1
  injection he with he
  injection he with he
  subst he
  have hlt : j < ts.length := (List.getElem?_eq_some_iff.1 hj).1
  have hsz : j < sz := by rw [← h.len, h.own.1]; exact hlt
  have hfit := h.fit
  have hw : Chg (fun x => x = b) wr w' := Chg.of_grown hg rfl
  refine ⟨⟨_, hob, by rw [splice_size (by simp; omega)]; exact h2, ?_, ?_⟩, (h.own.setLeaf hj hv).keep fun x hx hxl => hw.block x hxl (by rintro rfl; exact h.notin hx), h.chg.trans (hw.mono fun x hx => .inl hx), h.notin, by rw [List.length_set]; exact h.len, h.fit, h.tlt, h.blt⟩
  · intro q hq
    rw [splice_get (by simp; omega)]
    simp only [List.length_cons, List.length_nil]
    rw [← h3 q hq]
    split
    · rfl
    · rw [if_neg (by omega)]
  · intro i x hx
    rw [splice_get (by simp; omega)]
    simp only [List.length_cons, List.length_nil]
    rw [List.getElem?_set] at hx
    split at hx
    · rename_i hji
      subst hji
      split at hx
      · injection hx with hx
        subst hx
        rw [if_neg (by omega), if_pos (by omega)]
        simp
      · simp at hx
    · rename_i hji
      have := h4 i x hx
      split
      · exact this
      · rw [if_neg (by omega)]; exact this

theorem Foc.row {w0 wr : World} {b : Nat} {E : TypeId} {arr0 : Array Value} {o sz : Nat} {ts : List Tr} {cs : List Value} {T : Nat → Prop} (h : Foc w0 wr b E arr0 o sz ts cs T) {j : Nat} {t : Tr} {v : Value} (hj : ts[j]? = some t) (hv : cs[j]? = some v) :
    ∃ U : Nat → Prop, Own wr t v U ∧ (∀ x, U x → x < wr.heap.size) ∧ ∀ w' t', Own w' t' v U → Chg U wr w' → Foc w0 w' b E arr0 o sz (ts.set j t') cs T := by
  obtain ⟨U, hu1, hu2, hu3⟩ := h.own.setRow hj hv
  refine ⟨U, hu1, fun x hx => Nat.lt_of_lt_of_le (h.tlt x (hu2 x hx)) h.chg.size, fun w' t' ho hc => ?_⟩
  obtain ⟨arr, h1, h2, h3, h4⟩ := h.arr
  have hnb : ¬ U b := fun hx => h.notin (hu2 b hx)
  exact ⟨⟨arr, (hc.block b h1.lt hnb).trans h1, h2, h3, h4⟩, hu3 w' t' ho fun x hxl _ hn => hc.block x hxl hn, h.chg.trans (hc.mono fun x hx => .inr (hu2 x hx)), h.notin, h.len, h.fit, h.tlt, h.blt⟩

/-- Element i is taken in hand. -/
theorem Own.take {w : World} {sz : Nat} {es : List (List Tr)} {a : Option Addr} {n cap i : Nat} {S : Nat → Prop} {e : List Tr} (h : Own w (.row sz es) (.slice a n cap) S) (hi : es[i]? = some e) (hl : ∀ x ∈ es, x.length = sz) (hsz : 0 < sz) (hS : ∀ x, S x → x < w.heap.size) :
    ∃ b off E arr cs T, a = some ⟨b, off, none⟩ ∧ Foc w w b E arr (off + i * sz) sz e cs T ∧ RepL w e cs ∧
      ∀ w' cs' e', e'.length = sz → Foc w w' b E arr (off + i * sz) sz e' cs' T → Own w' (.row sz (es.set i e')) (.slice a n cap) S ∧ Chg S w w' := by
  obtain ⟨b, off, E, arr, cs, T, rfl, hob, hsb, how, hT, hcl, hfit, hc, hback⟩ := h.focus hi hl
  refine ⟨b, off, E, arr, cs, T, rfl, ⟨⟨arr, hob, rfl, fun _ _ => rfl, fun j v hv => hc j v hv⟩, how, Chg.refl _ _, fun hb => (hT b hb).2 rfl, hcl, hfit hsz, fun x hx => hS x (hT x hx).1, hob.lt⟩, how.rep, fun w' cs' e' he' hf => ?_⟩
  obtain ⟨arr', h1, h2, h3, h4⟩ := hf.arr
  have hz := hf.len
  have hfit := hf.fit
  have harr : arr' = splice arr (off + i * sz) cs' := by
    apply Array.ext_getElem?
    intro q
    rw [splice_get (by omega)]
    split
    · rename_i hq
      exact h3 q (.inl hq)
    · split
      · rename_i hq1 hq2
        obtain ⟨v, hv⟩ : ∃ v, cs'[q - (off + i * sz)]? = some v := ⟨cs'[q - (off + i * sz)]'(by omega), List.getElem?_eq_getElem _⟩
        rw [hv, ← h4 _ v hv]
        congr 1; omega
      · rename_i hq1 hq2
        exact h3 q (.inr (by omega))
  rw [harr] at h1
  have hch : Chg S w w' := hf.chg.mono fun x hx => by rcases hx with rfl | hx; exact hsb; exact (hT x hx).1
  exact ⟨hback w' cs' e' he' h1 hf.own (fun x hxl _ hne hnt => hf.chg.block x hxl (by rintro (h | h); exact hne h; exact hnt h)) hf.fit, hch⟩

/-- How the marks of a struct handed by value run: only what lies in its slices is marked. -/
def Tr.topL : List Tr → Nat → List Tr
  | [], _ => []
  | .leaf v :: r, k => .leaf v :: Tr.topL r k
  | .row sz es :: r, k => .row sz (Tr.markE es k) :: Tr.topL r (k + Tr.cntE es)
def Tr.topN : List Tr → Nat
  | [] => 0
  | .leaf _ :: r => Tr.topN r
  | .row _ es :: r => Tr.cntE es + Tr.topN r
theorem Tr.topL_append : ∀ (a b : List Tr) (k : Nat), Tr.topL (a ++ b) k = Tr.topL a k ++ Tr.topL b (k + Tr.topN a)
  | [], b, k => by simp [Tr.topL, Tr.topN]
  | .leaf v :: a, b, k => by simp [Tr.topL, Tr.topN, Tr.topL_append a b]
  | .row sz es :: a, b, k => by simp [Tr.topL, Tr.topN, Tr.topL_append a b, Nat.add_assoc]
theorem Tr.topN_append : ∀ (a b : List Tr), Tr.topN (a ++ b) = Tr.topN a + Tr.topN b
  | [], b => by simp [Tr.topN]
  | .leaf v :: a, b => by simp [Tr.topN, Tr.topN_append a b]
  | .row sz es :: a, b => by simp [Tr.topN, Tr.topN_append a b, Nat.add_assoc]

/-- The first i elements are marked, the others are not. -/
def Tr.mid (es : List (List Tr)) (k i : Nat) : List (List Tr) := (Tr.markE es k).take i ++ es.drop i
theorem Tr.mid_zero (es : List (List Tr)) (k : Nat) : Tr.mid es k 0 = es := by simp [Tr.mid]
theorem Tr.mid_end (es : List (List Tr)) (k : Nat) : Tr.mid es k es.length = Tr.markE es k := by
  unfold Tr.mid
  rw [List.drop_length, List.append_nil, List.take_of_length_le (by rw [Tr.markE_length]; exact Nat.le_refl _)]
theorem Tr.mid_len (es : List (List Tr)) (k i : Nat) : (Tr.mid es k i).length = es.length := by
  unfold Tr.mid
  rw [List.length_append, List.length_take, List.length_drop, Tr.markE_length]
  omega
theorem Tr.mid_get {es : List (List Tr)} {k i : Nat} (h : i < es.length) : (Tr.mid es k i)[i]? = some es[i] := by
  unfold Tr.mid
  have hl : ((Tr.markE es k).take i).length = i := by rw [List.length_take, Tr.markE_length]; omega
  rw [List.getElem?_append_right (by omega), hl, Nat.sub_self, List.getElem?_drop, Nat.add_zero, List.getElem?_eq_getElem h]
theorem Tr.mid_set {es : List (List Tr)} {k i : Nat} (h : i < es.length) : (Tr.mid es k i).set i (Tr.markL es[i] (k + Tr.cntE (es.take i))) = Tr.mid es k (i + 1) := by
  unfold Tr.mid
  have hl : ((Tr.markE es k).take i).length = i := by rw [List.length_take, Tr.markE_length]; omega
  have hm : (Tr.markE es k)[i]? = some (Tr.markL es[i] (k + Tr.cntE (es.take i))) := Tr.markE_get es k i h
  have hlt : i < (Tr.markE es k).length := by rw [Tr.markE_length]; exact h
  rw [List.getElem?_eq_getElem hlt] at hm
  injection hm with hm
  rw [List.set_append_right _ _ (by omega), hl, Nat.sub_self, List.drop_eq_getElem_cons h, List.set_cons_zero, List.take_succ_eq_append_getElem hlt, hm]
  simp
theorem Tr.markE_sz {es : List (List Tr)} {k sz : Nat} (h : ∀ e ∈ es, e.length = sz) : ∀ e ∈ Tr.markE es k, e.length = sz := by
  induction es generalizing k with
  | nil => intro e he; simp [Tr.markE] at he
  | cons a r ih =>
    intro e he
    simp only [Tr.markE, List.mem_cons] at he
    rcases he with rfl | he
    · rw [Tr.markL_length]; exact h a (by simp)
    · exact ih (fun x hx => h x (by simp [hx])) e he
theorem Tr.mid_sz {es : List (List Tr)} {k i sz : Nat} (h : ∀ e ∈ es, e.length = sz) : ∀ e ∈ Tr.mid es k i, e.length = sz := by
  intro e he
  unfold Tr.mid at he
  rcases List.mem_append.1 he with h1 | h1
  · exact Tr.markE_sz h e (List.mem_of_mem_take h1)
  · exact h e (List.mem_of_mem_drop h1)
theorem Tr.cntE_le {es : List (List Tr)} {i : Nat} (h : i < es.length) : Tr.cntE (es.take i) + Tr.cntL es[i] ≤ Tr.cntE es := by
  induction es generalizing i with
  | nil => simp at h
  | cons a r ih =>
    cases i with
    | zero => simp [Tr.cntE]
    | succ i => have := ih (i := i) (by simpa using h); simp [Tr.cntE]; omega
theorem mtext_size (k : Nat) (h : k ≤ 2305843009213693952) : (mtext k).size ≤ 20 := by
  have h1 : (digits k).length ≤ 19 := digits_length k 19 (by omega)
  unfold mtext
  show ((109 : UInt8) :: if k = 0 then [48] else digits k).toArray.size ≤ 20
  simp only [List.size_toArray, List.length_cons]
  split
  · simp
  · omega
theorem markLeaf_ok {v : Value} {k : Nat} (hv : LeafOk v) (h : k ≤ 2305843009213693952) (hi : ∀ d n, v = .int d n → d = .i64) : LeafOk (markLeaf k v) := by
  cases v with
  | int d n =>
    obtain rfl := hi d n rfl
    show (Lit.int .i64 (k : Int)).wf = true
    exact WalkArith.wf_i64 (by omega)
  | string s => have := mtext_size k h; show (mtext k).size ≤ maxLen; unfold maxLen; omega
  | bool b => trivial
  | _ => exact hv

end Go.Proofs.Ytoifjkggpanceaa

namespace Go.Proofs.Ytoifjkggpanceaa
open Go.RowKit Go.Proofs

def MarkSC (f : FuncId) (sz : Nat) (es : List (List Tr)) : Prop := ∀ (s : Value) (kz : Int) (k : Nat) (S : Nat → Prop) (w : World), kz = (k : Int) → Own w (.row sz es) s S → (∀ x, S x → x < w.heap.size) → k + Tr.cntE es ≤ 1152921504606846976 →
  Calls Try.prog f #[s, .int .i64 kz] w fun e w' => e = .returned (.int .i64 ((k + Tr.cntE es : Nat) : Int)) ∧ Own w' (.row sz (Tr.markE es k)) s S ∧ Chg S w w'
def HeldSC (f : FuncId) (sz : Nat) (es : List (List Tr)) : Prop := ∀ (s : Value) (kz : Int) (k : Nat) (w : World), kz = (k : Int) → Rep w (.row sz (Tr.markE es k)) s → k + Tr.cntE es ≤ 1152921504606846976 →
  Calls Try.prog f #[s, .int .i64 kz] w fun e w' => e = .returned (.int .i64 ((k + Tr.cntE es : Nat) : Int)) ∧ Ext w w'
def MarkC (f : FuncId) (ts : List Tr) : Prop := ∀ (cs : List Value) (kz : Int) (k : Nat) (S : Nat → Prop) (w : World), kz = (k : Int) → OwnL w ts cs S → (∀ x, S x → x < w.heap.size) → k + Tr.topN ts ≤ 1152921504606846976 →
  Calls Try.prog f #[.agg ⟨cs⟩, .int .i64 kz] w fun e w' => e = .returned (.int .i64 ((k + Tr.topN ts : Nat) : Int)) ∧ OwnL w' (Tr.topL ts k) cs S ∧ Chg S w w'
def HeldC (f : FuncId) (ts : List Tr) : Prop := ∀ (cs : List Value) (kz : Int) (k : Nat) (w : World), kz = (k : Int) → RepL w (Tr.topL ts k) cs → k + Tr.topN ts ≤ 1152921504606846976 →
  Calls Try.prog f #[.agg ⟨cs⟩, .int .i64 kz] w fun e w' => e = .returned (.int .i64 ((k + Tr.topN ts : Nat) : Int)) ∧ Ext w w'
theorem bytes_same (a : ByteArray) : (a.toList == a.toList) = true := by simp

set_option maxRecDepth 100000 in
set_option maxHeartbeats 2000000 in
theorem markText_any (kz : Int) (k : Nat) (w : World) (hz : kz = (k : Int)) (hk : k ≤ 2305843009213693952) :
    Calls Try.prog 121 #[.int .i64 kz] w fun e w' => e = .returned (.string (mtext k)) ∧ Ext w w' := by
  subst hz
  by_cases h0 : k = 0
  · subst h0
    go_enter Try.func121, Try.ntmps121
    go_wp2_with fail
    go_ret
    exact ⟨rfl, .refl _⟩
  · have hp : ¬ ((k : Int) ≤ 0) := by omega
    have HK : Hid (mtext k = ⟨((109 : UInt8) :: digits k).toArray⟩) := by show _ = _; unfold mtext; rw [if_neg h0]
    go_enter Try.func121, Try.ntmps121
    go_wp2_with fail
    go_loopw [0, 3] (fun kv ov wr => ∃ (j : Nat) (out : List UInt8), j ≤ k ∧ kv = .int .i64 j ∧ ov = .string ⟨out.toArray⟩ ∧ Ext w wr ∧ Hid (digits j ++ out = digits k) ∧ out.length ≤ 19 ∧ Hid ((digits j).length + out.length ≤ 19)) (fun kv _ _ => (intOf kv).toNat)
    case atStart => exact ⟨k, [], Nat.le_refl _, rfl, rfl, .refl _, by show _ = _; rw [List.append_nil], by simp, by have := digits_length k 19 (by omega); show _ ≤ _; simpa using this⟩
    case round =>
      obtain ⟨j, out, hj, rfl, rfl, hw, HD, hol, HL⟩ := hrel
      by_cases hlt : j = 0
      · subst hlt
        go_wp2_with fail
        go_ret
        refine ⟨?_, hw⟩
        have hd := HD.out
        rw [digits_zero, List.nil_append] at hd
        have he : (⟨#[109]⟩ : ByteArray) ++ ⟨out.toArray⟩ = mtext k := by rw [HK.out, bytes_cons, hd]
        exact congrArg (fun s => Ending.returned (.string s)) he
      · have hj0 : (0 : Int) < (j : Int) := by omega
        have HB : Hid (∀ q (hq : q < [UInt8.ofNat (48 + j % 10)].length), (wr.alloc (.cells #[.int .u8 (48 + (j : Int) % 10)] 5)).cell? ⟨wr.heap.size, q, none⟩ = some (.int .u8 (([UInt8.ofNat (48 + j % 10)][q]'hq).toNat : Int))) := by
          intro q hq
          obtain rfl : q = 0 := by simpa using hq
          rw [(OB.new wr _ _).cell]
          simp
          omega
        have HS : Hid ((digits j).length = (digits (j / 10)).length + 1) := by show _ = _; rw [digits_pos hlt]; simp
        have HR : Hid (digits (j / 10) ++ (UInt8.ofNat (48 + j % 10) :: out) = digits k) := by show _ = _; rw [← HD.out, digits_pos hlt]; simp
        have hsz : ({data := out.toArray} : ByteArray).size ≤ 19 := by show out.toArray.size ≤ 19; simpa using hol
        generalize UInt8.ofNat (48 + j % 10) = d at *
        go_wp2_with (refine wpList_bytes_back rfl 59 9 5 (.tmp 12) rfl Try.underlying59 Try.underlying5 Try.underlying9 wr.heap.size 1 1 [d] rfl rfl HB.out ?_)
        go_roundw
        case rel => exact ⟨j / 10, d :: out, by omega, by go_num, by congr 1, .trans hw (.alloc (.refl _) _), HR.out, by have h1 := HL.out; have h2 := HS.out; simp only [List.length_cons]; omega, by have h1 := HL.out; have h2 := HS.out; show _ ≤ _; simp only [List.length_cons]; omega⟩
        case measure => simp [intOf]; omega

set_option maxRecDepth 100000 in
set_option maxHeartbeats 2000000 in
theorem markIntS_all (l : List Int) : MarkSC 31 1 (intTrs l) := by
  intro s kz k S w hz hown hS hbd
  subst hz
  obtain ⟨a, cap, rfl, hl, hm⟩ := hown.rep.shape
  rw [intTrs_len] at *
  unfold maxLen at hm
  have HO := Lib.hid hown
  have HSS := Lib.hid hS
  clear hown hS
  go_enter Try.func31, Try.ntmps31
  go_wp2_with fail
  go_loopw [1, 5] (fun kv i wr => ∃ j m : Nat, j ≤ l.length ∧ i = .int .i64 j ∧ kv = .int .i64 (m : Int) ∧ Hid (m = k + Tr.cntE ((intTrs l).take j)) ∧ Hid (Own wr (.row 1 (Tr.mid (intTrs l) k j)) (.slice a l.length cap) S) ∧ Hid (Chg S w wr)) (fun _ i _ => l.length - (intOf i).toNat)
  case atStart => exact ⟨0, k, Nat.zero_le _, rfl, rfl, by show _ = _; simp [Tr.cntE], by show Own _ _ _ _; rw [Tr.mid_zero]; exact HO.out, Chg.refl _ _⟩
  case round =>
    obtain ⟨j, m, hj, rfl, rfl, HM1, HO1, HC1⟩ := hrel
    by_cases hlt : j < l.length
    · have hlt2 : j < (intTrs l).length := by rw [intTrs_len]; exact hlt
      have hge : (intTrs l)[j] = [.leaf (Value.int .i64 l[j])] := by have h1 := intTrs_get hlt; rw [List.getElem?_eq_getElem hlt2] at h1; exact Option.some.inj h1
      have hcl := Tr.cntE_le hlt2
      have hms := Tr.mid_set (k := k) hlt2
      have hmg := Tr.mid_get (k := k) hlt2
      have htk : Tr.cntE ((intTrs l).take (j + 1)) = Tr.cntE ((intTrs l).take j) + Tr.cntL (intTrs l)[j] := Tr.cntE_take _ j hlt2
      rw [hge] at hcl hms hmg htk
      have hm1 := HM1.out
      rw [← hm1] at hms
      generalize l[j] = x at *
      have hcw : Tr.cntL [.leaf (Value.int .i64 x)] = 1 := rfl
      obtain ⟨b, off, E0, arr0, cs0, T, rfl, hfoc, hrep, hback⟩ := HO1.out.take hmg (Tr.mid_sz (intTrs_sz l)) (by omega) (fun x hx => Nat.lt_of_lt_of_le (HSS.out x hx) HC1.out.size)
      obtain ⟨d0, rfl⟩ := list1 hfoc.len
      have HF0 := Lib.hid hfoc
      have HBK := Lib.hid hback
      obtain ⟨arr1, hob1, hsz1, -, -⟩ := hfoc.arr
      have HOB0 := Lib.hid hob1
      have HFIT : Hid (off + j * 1 + 1 ≤ arr1.size) := by show _ ≤ _; rw [hsz1]; exact hfoc.fit
      have hmb : m + 1 ≤ 1152921504606846976 := by rw [← hcw]; omega
      rw [hcw] at htk
      have HMS := Lib.hid hms
      have HTK := Lib.hid htk
      have hlo : (0 : Int) ≤ (j : Int) := by omega
      clear hfoc hrep hback hob1 hsz1 hms hmg htk hge hcl hcw hm1
      have HXP := Lib.hid (Ext.refl wr)
      go_wp2_with (refine wpList_store_cell rfl 3 (.tmp 15) (.tmp 14) rfl b (off + j) rfl (.int .i64 ((m : Nat) : Int)) rfl rfl E0 arr1 HOB0.out isz3 (by have := HFIT.out; omega) rfl ?_; intro w1 hob hg hq; have HOB1 : Hid (OB w1 b E0 (splice arr1 (off + j * 1 + 0) [Value.int .i64 ((m : Nat) : Int)])) := Lib.hid (by rw [Nat.mul_one]; exact hob); have HG1 := Lib.hid hg; clear hob hg hq)
      go_roundw
      case rel =>
        have hf := HF0.out.leaf (j := 0) (v := .int .i64 ((m : Nat) : Int)) rfl (WalkArith.wf_i64 (by omega)) HOB0.out HOB1.out HG1.out
        obtain ⟨hown2, hchg2⟩ := HBK.out _ _ _ rfl hf
        refine ⟨j + 1, m + 1, by omega, by go_num, by first | rfl | go_num, by have h1 := HTK.out; have h2 := HM1.out; show _ = _; omega, ?_, (HC1.out.trans (.of_ext HXP.out)).trans hchg2⟩
        show Own _ _ _ _
        rw [← HMS.out]
        exact hown2
      case measure => simp [intOf]; omega
    · have hkl : j = (intTrs l).length := by rw [intTrs_len]; omega
      go_wp2_with fail
      go_ret
      have ho := HO1.out
      rw [hkl, Tr.mid_end] at ho
      have hm1 := HM1.out
      rw [hkl, List.take_length] at hm1
      subst hm1
      exact ⟨rfl, ho, HC1.out⟩

set_option maxRecDepth 100000 in
set_option maxHeartbeats 2000000 in
theorem markTypeS_of (l : List GType) (H : ∀ x ∈ l, MarkSC 120 3 (GType.trs x.gArgs)) : MarkSC 120 3 (GType.trs l) := by
  intro s kz k S w hz hown hS hbd
  subst hz
  obtain ⟨a, cap, rfl, hl, hm⟩ := hown.rep.shape
  rw [GType.trs_len] at *
  unfold maxLen at hm
  have HO := Lib.hid hown
  have HSS := Lib.hid hS
  have HH := Lib.hid H
  clear H
  clear hown hS
  go_enter Try.func120, Try.ntmps120
  go_wp2_with fail
  go_loopw [1, 5] (fun kv i wr => ∃ j m : Nat, j ≤ l.length ∧ i = .int .i64 j ∧ kv = .int .i64 (m : Int) ∧ Hid (m = k + Tr.cntE ((GType.trs l).take j)) ∧ Hid (Own wr (.row 3 (Tr.mid (GType.trs l) k j)) (.slice a l.length cap) S) ∧ Hid (Chg S w wr)) (fun _ i _ => l.length - (intOf i).toNat)
  case atStart => exact ⟨0, k, Nat.zero_le _, rfl, rfl, by show _ = _; simp [Tr.cntE], by show Own _ _ _ _; rw [Tr.mid_zero]; exact HO.out, Chg.refl _ _⟩
  case round =>
    obtain ⟨j, m, hj, rfl, rfl, HM1, HO1, HC1⟩ := hrel
    by_cases hlt : j < l.length
    · have hlt2 : j < (GType.trs l).length := by rw [GType.trs_len]; exact hlt
      have hge : (GType.trs l)[j] = (l[j]).tr := by have h1 := GType.trs_get hlt; rw [List.getElem?_eq_getElem hlt2] at h1; exact Option.some.inj h1
      have hcl := Tr.cntE_le hlt2
      have hms := Tr.mid_set (k := k) hlt2
      have hmg := Tr.mid_get (k := k) hlt2
      have htk : Tr.cntE ((GType.trs l).take (j + 1)) = Tr.cntE ((GType.trs l).take j) + Tr.cntL (GType.trs l)[j] := Tr.cntE_take _ j hlt2
      rw [hge] at hcl hms hmg htk
      have hm1 := HM1.out
      rw [← hm1] at hms
      have HM := Lib.hid (HH.out _ (List.getElem_mem hlt))
      generalize l[j] = x at *
      obtain ⟨v0, v1, v2⟩ := x
      have HM : Hid (MarkSC 120 3 (GType.trs v2)) := HM
      have htr : GType.tr (.mk v0 v1 v2) = [.leaf (.int .i64 v0), .leaf (.string v1), .row 3 (GType.trs v2)] := by simp [GType.tr]
      rw [htr] at hcl hms hmg htk
      have hcw : Tr.cntL [.leaf (.int .i64 v0), .leaf (.string v1), .row 3 (GType.trs v2)] = 1 + 1 + Tr.cntE (GType.trs v2) := by simp only [Tr.cntL, Tr.cnt]; omega
      obtain ⟨b, off, E0, arr0, cs0, T, rfl, hfoc, hrep, hback⟩ := HO1.out.take hmg (Tr.mid_sz (GType.sz l)) (by omega) (fun x hx => Nat.lt_of_lt_of_le (HSS.out x hx) HC1.out.size)
      obtain ⟨d0, d1, d2, rfl⟩ := list3 hfoc.len
      obtain ⟨rfl, -⟩ := (hrep.1).leaf_eq
      obtain ⟨rfl, -⟩ := (hrep.2.1).leaf_eq
      obtain ⟨sa2, sc2, rfl, -, -⟩ := (hrep.2.2.1).shape
      have HF0 := Lib.hid hfoc
      have HBK := Lib.hid hback
      obtain ⟨arr1, hob1, hsz1, -, -⟩ := hfoc.arr
      have HOB0 := Lib.hid hob1
      have HFIT : Hid (off + j * 3 + 3 ≤ arr1.size) := by show _ ≤ _; rw [hsz1]; exact hfoc.fit
      have hmb : m + (1 + 1 + Tr.cntE (GType.trs v2)) ≤ 1152921504606846976 := by rw [← hcw]; omega
      rw [hcw] at htk
      have HMS := Lib.hid hms
      have HTK := Lib.hid htk
      have hlo : (0 : Int) ≤ (j : Int) := by omega
      clear hfoc hrep hback hob1 hsz1 hms hmg htk hge hcl hcw hm1 htr
      go_wp2_with (first
        | (refine wpList_store_cell rfl 3 (.tmp 16) (.tmp 14) rfl b (off + j * 3 + 0) rfl (.int .i64 ((m : Nat) : Int)) (by first | rfl | (simp only [Nat.cast_add, Nat.cast_one] <;> rfl)) rfl E0 arr1 HOB0.out isz3 (by have := HFIT.out; omega) rfl ?_; intro w1 hob hg hq; have HF1 := Lib.hid (HF0.out.leaf (j := 0) rfl (v := .int .i64 ((m : Nat) : Int)) (WalkArith.wf_i64 (by omega)) HOB0.out hob hg); obtain ⟨ar1, ho, hzz, -, -⟩ := HF1.out.arr; have HOB1 := Lib.hid ho; have HFT1 : Hid (off + j * 3 + 3 ≤ ar1.size) := (by show _ ≤ _; rw [hzz]; exact HF1.out.fit); clear hob hg hq ho hzz))
      refine (markText_any _ (m + 1) _ (by omega) (by omega)).mono ?_
      rintro e w2 ⟨rfl, hw⟩
      have HF2 := Lib.hid (HF1.out.ext hw)
      obtain ⟨ar2, ho, hzz, -, -⟩ := HF2.out.arr
      have HOB2 := Lib.hid ho
      have HFT2 : Hid (off + j * 3 + 3 ≤ ar2.size) := by show _ ≤ _; rw [hzz]; exact HF2.out.fit
      clear hw ho hzz
      go_wp2_with (first
        | (refine wpList_store_cell rfl 9 (.tmp 24) (.tmp 22) rfl b (off + j * 3 + 1) rfl (.string (mtext (m + 1))) rfl rfl E0 ar2 HOB2.out isz9 (by have := HFT2.out; omega) rfl ?_; intro w3 hob hg hq; have HF3 := Lib.hid (HF2.out.leaf (j := 1) rfl (v := .string (mtext (m + 1))) (by have := mtext_size (m + 1) (by omega); show _ ≤ maxLen; unfold maxLen; omega) HOB2.out hob hg); obtain ⟨ar3, ho, hzz, -, -⟩ := HF3.out.arr; have HOB3 := Lib.hid ho; have HFT3 : Hid (off + j * 3 + 3 ≤ ar3.size) := (by show _ ≤ _; rw [hzz]; exact HF3.out.fit); clear hob hg hq ho hzz; have hcell2 := HF3.out.cell (j := 2) rfl))
      obtain ⟨U2, hu1, hu2, hu3⟩ := HF3.out.row (j := 2) rfl rfl
      refine (HM.out _ _ ((m + 1) + 1) U2 _ (by omega) hu1 hu2 (by omega)).mono ?_
      rintro e w4 ⟨rfl, how, hch⟩
      have HF4 := Lib.hid (hu3 w4 _ how hch)
      clear how hch hu1 hu2 hu3 hcell2
      go_wp2_with fail
      go_roundw
      case rel =>
        obtain ⟨hown2, hchg2⟩ := HBK.out _ _ _ rfl HF4.out
        refine ⟨j + 1, (((m + 1) + 1) + Tr.cntE (GType.trs v2)), by omega, by go_num, by first | rfl | go_num, by have h1 := HTK.out; have h2 := HM1.out; show _ = _; omega, ?_, HC1.out.trans hchg2⟩
        show Own _ _ _ _
        rw [← HMS.out]
        exact hown2
      case measure => simp [intOf]; omega
    · have hkl : j = (GType.trs l).length := by rw [GType.trs_len]; omega
      go_wp2_with fail
      go_ret
      have ho := HO1.out
      rw [hkl, Tr.mid_end] at ho
      have hm1 := HM1.out
      rw [hkl, List.take_length] at hm1
      subst hm1
      exact ⟨rfl, ho, HC1.out⟩
theorem markTypeS_in : ∀ x : GType, MarkSC 120 3 (GType.trs x.gArgs) :=
  GType.ind fun v0 v1 v2 ih => markTypeS_of v2 ih
theorem markTypeS_all (l : List GType) : MarkSC 120 3 (GType.trs l) := markTypeS_of l fun x _ => markTypeS_in x

set_option maxRecDepth 100000 in
set_option maxHeartbeats 2000000 in
theorem heldTypeS_of (l : List GType) (H : ∀ x ∈ l, HeldSC 122 3 (GType.trs x.gArgs)) : HeldSC 122 3 (GType.trs l) := by
  intro s kz k w hz hrep0 hbd
  subst hz
  obtain ⟨a, cap, rfl, hl, hm⟩ := hrep0.shape
  rw [Tr.markE_length, GType.trs_len] at *
  unfold maxLen at hm
  have HO := Lib.hid hrep0
  have HH := Lib.hid H
  clear H
  clear hrep0
  go_enter Try.func122, Try.ntmps122
  go_wp2_with fail
  go_loopw [1, 5] (fun kv i wr => ∃ j m : Nat, j ≤ l.length ∧ i = .int .i64 j ∧ kv = .int .i64 (m : Int) ∧ Hid (m = k + Tr.cntE ((GType.trs l).take j)) ∧ Ext w wr) (fun _ i _ => l.length - (intOf i).toNat)
  case atStart => exact ⟨0, k, Nat.zero_le _, rfl, rfl, by show _ = _; simp [Tr.cntE], .refl _⟩
  case round =>
    obtain ⟨j, m, hj, rfl, rfl, HM1, hw⟩ := hrel
    by_cases hlt : j < l.length
    · have hlt2 : j < (GType.trs l).length := by rw [GType.trs_len]; exact hlt
      have hge : (GType.trs l)[j] = (l[j]).tr := by have h1 := GType.trs_get hlt; rw [List.getElem?_eq_getElem hlt2] at h1; exact Option.some.inj h1
      have hcl := Tr.cntE_le hlt2
      have hmg := Tr.markE_get (GType.trs l) k j hlt2
      have htk : Tr.cntE ((GType.trs l).take (j + 1)) = Tr.cntE ((GType.trs l).take j) + Tr.cntL (GType.trs l)[j] := Tr.cntE_take _ j hlt2
      rw [hge] at hcl hmg htk
      have hm1 := HM1.out
      rw [← hm1] at hmg
      have HM := Lib.hid (HH.out _ (List.getElem_mem hlt))
      generalize l[j] = x at *
      obtain ⟨v0, v1, v2⟩ := x
      have HM : Hid (HeldSC 122 3 (GType.trs v2)) := HM
      have htr : GType.tr (.mk v0 v1 v2) = [.leaf (.int .i64 v0), .leaf (.string v1), .row 3 (GType.trs v2)] := by simp [GType.tr]
      rw [htr] at hcl hmg htk
      have hcw : Tr.cntL [.leaf (.int .i64 v0), .leaf (.string v1), .row 3 (GType.trs v2)] = 1 + 1 + Tr.cntE (GType.trs v2) := by simp only [Tr.cntL, Tr.cnt]; omega
      obtain ⟨b, off, cs0, rfl, hb, hrep, hc⟩ := (HO.out.ext hw).at2 hmg
      obtain ⟨d0, d1, d2, rfl⟩ := list3 hrep.length.symm
      obtain ⟨rfl, -⟩ := (hrep.1).leaf_eq
      obtain ⟨rfl, -⟩ := (hrep.2.1).leaf_eq
      have HR2 := Lib.hid (hrep.2.2.1)
      obtain ⟨sa2, sc2, hd2, -, -⟩ := HR2.out.shape
      rw [Tr.markE_length] at hd2
      subst hd2
      have hmb : m + (1 + 1 + Tr.cntE (GType.trs v2)) ≤ 1152921504606846976 := by rw [← hcw]; omega
      rw [hcw] at htk
      have HTK := Lib.hid htk
      have HC := Lib.hid hc
      have HB := Lib.hid hb
      have hki := hlt
      simp only [markLeaf, Tr.cnt] at *
      have hcell0 : wr.cell? ⟨b, off + j * 3, none⟩ = some _ := HC.out 0 _ rfl
      have hcell1 : wr.cell? ⟨b, off + j * 3 + 1, none⟩ = some _ := HC.out 1 _ rfl
      have hcell2 : wr.cell? ⟨b, off + j * 3 + 2, none⟩ = some _ := HC.out 2 _ rfl
      clear hrep hc hmg htk hge hcl hcw hm1 htr hb
      go_wp2_with fail
      have HX0 := Lib.hid (Ext.refl wr)
      refine wp_region_held_drew (S := Ext wr) (by kernel_rfl) ?_ (fun hHeld => ?_)
      · exact .drew (.refl _)
      refine wpAnyH_take (i := 0) rfl (by kernel_rfl) (by kernel_rfl) (by kernel_rfl) (fun _ _ _ h => h) (.inl ⟨rfl, fun _ _ => rfl⟩) (by assumption) ?_
      simp only [Act.put, List.getElem_toArray, List.getElem_cons_zero, List.setIfInBounds_toArray, List.set_cons_zero, List.set_cons_succ]
      refine wpAnyH_take (i := 1) rfl (by kernel_rfl) (by kernel_rfl) (by kernel_rfl) (fun _ _ _ h => h) (.inl ⟨rfl, fun _ _ => rfl⟩) (by assumption) ?_
      simp only [Act.put, List.getElem_toArray, List.getElem_cons_zero, List.getElem_cons_succ, List.setIfInBounds_toArray, List.set_cons_zero, List.set_cons_succ]
      refine wpAnyH_index (i := 2) rfl (by kernel_rfl) (by kernel_rfl) (by kernel_rfl) rfl 30 (.tmp 21) (.tmp 22) rfl (b) (off) (l.length) (cap) (j) (3) rfl rfl (hki) Try.underlying30 (by kernel_rfl) (by assumption) (fun _ _ _ _ h => h) ?_
      simp only [Act.put, List.getElem_toArray, List.getElem_cons_zero, List.getElem_cons_succ, List.setIfInBounds_toArray, List.set_cons_zero, List.set_cons_succ]
      refine wpAnyH_take (i := 3) rfl (by kernel_rfl) (by kernel_rfl) (by kernel_rfl) (fun _ _ _ h => h) (.inl ⟨rfl, fun _ _ => rfl⟩) (by assumption) ?_
      simp only [Act.put, List.getElem_toArray, List.getElem_cons_zero, List.getElem_cons_succ, List.setIfInBounds_toArray, List.set_cons_zero, List.set_cons_succ]
      refine wpAnyH_cell (i := 4) rfl (by kernel_rfl) (by kernel_rfl) (by kernel_rfl) rfl 9 (.tmp 24) rfl (b) (off + j * 3 + 1) rfl (.string (mtext (m + 1))) _ Try.underlying9 rfl (fun W hW => (hW.cell (p := ⟨b, off + j * 3 + 1, none⟩) (Nat.lt_of_lt_of_le HB.out (HX0.out).size)).trans hcell1) (by assumption) (fun _ _ _ _ h => h) ?_
      simp only [Act.put, List.getElem_toArray, List.getElem_cons_zero, List.getElem_cons_succ, List.setIfInBounds_toArray, List.set_cons_zero, List.set_cons_succ]
      refine wpAnyH_take (i := 5) rfl (by kernel_rfl) (by kernel_rfl) (by kernel_rfl) (fun _ _ _ h => h) (.inl ⟨rfl, fun _ _ => rfl⟩) (by assumption) ?_
      simp only [Act.put, List.getElem_toArray, List.getElem_cons_zero, List.getElem_cons_succ, List.setIfInBounds_toArray, List.set_cons_zero, List.set_cons_succ]
      refine wpAnyH_call (i := 6) (by kernel_rfl) rfl rfl (run_call_func rfl rfl #[.int .i64 _] (by simp only [List.map_toArray, List.map_cons, List.map_nil, Act.eval]; rfl) Try.func121 (by kernel_rfl) (by kernel_rfl) _) (markText_any _ (m + 1) _ (by omega) (by omega)) ?_
      rintro e wh1 ⟨rfl, hv1⟩
      have hs1 := Ext.trans hHeld hv1
      refine ⟨_, rfl, hs1, ?_⟩
      simp only [Act.put, List.getElem_toArray, List.getElem_cons_zero, List.getElem_cons_succ, List.setIfInBounds_toArray, List.set_cons_zero, List.set_cons_succ]
      refine wpAnyH_take (i := 7) rfl (by kernel_rfl) (by kernel_rfl) (by kernel_rfl) (fun _ _ _ h => h) (.inl ⟨rfl, fun _ _ => rfl⟩) (by assumption) ?_
      simp only [Act.put, List.getElem_toArray, List.getElem_cons_zero, List.getElem_cons_succ, List.setIfInBounds_toArray, List.set_cons_zero, List.set_cons_succ]
      refine wpAnyH_done (by kernel_rfl) ?_ _
      clear hHeld
      have HX1 := Lib.hid (Ext.trans HX0.out hs1)
      have hcell2 := (hs1.cell (p := ⟨b, off + j * 3 + 2, none⟩) (Nat.lt_of_lt_of_le HB.out HX0.out.size)).trans hcell2
      clear hs1 hv1
      simp only [beq_self_eq_true, Bool.not_true]
      go_wp2_with fail
      refine (HM.out _ _ ((m + 1) + 1) _ (by omega) (HR2.out.ext HX1.out) (by omega)).mono ?_
      rintro e wh2 ⟨rfl, hv2⟩
      have HX2 := Lib.hid (Ext.trans HX1.out hv2)
      clear hv2
      have hng : ¬ (((((m + 1) + 1) + Tr.cntE (GType.trs v2)) : Nat) : Int) < 0 := by omega
      go_wp2_with fail
      go_roundw
      case rel => exact ⟨j + 1, (((m + 1) + 1) + Tr.cntE (GType.trs v2)), by omega, by go_num, by first | rfl | go_num, by have h1 := HTK.out; have h2 := HM1.out; show _ = _; omega, hw.trans HX2.out⟩
      case measure => simp [intOf]; omega
    · have hkl : j = (GType.trs l).length := by rw [GType.trs_len]; omega
      go_wp2_with fail
      go_ret
      have hm1 := HM1.out
      rw [hkl, List.take_length] at hm1
      subst hm1
      exact ⟨rfl, hw⟩
theorem heldTypeS_in : ∀ x : GType, HeldSC 122 3 (GType.trs x.gArgs) :=
  GType.ind fun v0 v1 v2 ih => heldTypeS_of v2 ih
theorem heldTypeS_all (l : List GType) : HeldSC 122 3 (GType.trs l) := heldTypeS_of l fun x _ => heldTypeS_in x

set_option maxRecDepth 100000 in
set_option maxHeartbeats 2000000 in
theorem markBoundS_of (l : List GBound)  : MarkSC 53 4 (GBound.trs l) := by
  intro s kz k S w hz hown hS hbd
  subst hz
  obtain ⟨a, cap, rfl, hl, hm⟩ := hown.rep.shape
  rw [GBound.trs_len] at *
  unfold maxLen at hm
  have HO := Lib.hid hown
  have HSS := Lib.hid hS
  clear hown hS
  go_enter Try.func53, Try.ntmps53
  go_wp2_with fail
  go_loopw [1, 5] (fun kv i wr => ∃ j m : Nat, j ≤ l.length ∧ i = .int .i64 j ∧ kv = .int .i64 (m : Int) ∧ Hid (m = k + Tr.cntE ((GBound.trs l).take j)) ∧ Hid (Own wr (.row 4 (Tr.mid (GBound.trs l) k j)) (.slice a l.length cap) S) ∧ Hid (Chg S w wr)) (fun _ i _ => l.length - (intOf i).toNat)
  case atStart => exact ⟨0, k, Nat.zero_le _, rfl, rfl, by show _ = _; simp [Tr.cntE], by show Own _ _ _ _; rw [Tr.mid_zero]; exact HO.out, Chg.refl _ _⟩
  case round =>
    obtain ⟨j, m, hj, rfl, rfl, HM1, HO1, HC1⟩ := hrel
    by_cases hlt : j < l.length
    · have hlt2 : j < (GBound.trs l).length := by rw [GBound.trs_len]; exact hlt
      have hge : (GBound.trs l)[j] = (l[j]).tr := by have h1 := GBound.trs_get hlt; rw [List.getElem?_eq_getElem hlt2] at h1; exact Option.some.inj h1
      have hcl := Tr.cntE_le hlt2
      have hms := Tr.mid_set (k := k) hlt2
      have hmg := Tr.mid_get (k := k) hlt2
      have htk : Tr.cntE ((GBound.trs l).take (j + 1)) = Tr.cntE ((GBound.trs l).take j) + Tr.cntL (GBound.trs l)[j] := Tr.cntE_take _ j hlt2
      rw [hge] at hcl hms hmg htk
      have hm1 := HM1.out
      rw [← hm1] at hms
      generalize l[j] = x at *
      obtain ⟨v0, ⟨v1_0, v1_1, v1_2⟩⟩ := x
      have htr : GBound.tr (.mk v0 (.mk v1_0 v1_1 v1_2)) = [.leaf (.string v0), .leaf (.int .i64 v1_0), .leaf (.string v1_1), .row 3 (GType.trs v1_2)] := by simp [GBound.tr, GType.tr]
      rw [htr] at hcl hms hmg htk
      have hcw : Tr.cntL [.leaf (.string v0), .leaf (.int .i64 v1_0), .leaf (.string v1_1), .row 3 (GType.trs v1_2)] = 1 + 1 + 1 + Tr.cntE (GType.trs v1_2) := by simp only [Tr.cntL, Tr.cnt]; omega
      obtain ⟨b, off, E0, arr0, cs0, T, rfl, hfoc, hrep, hback⟩ := HO1.out.take hmg (Tr.mid_sz (GBound.sz l)) (by omega) (fun x hx => Nat.lt_of_lt_of_le (HSS.out x hx) HC1.out.size)
      obtain ⟨d0, d1, d2, d3, rfl⟩ := list4 hfoc.len
      obtain ⟨rfl, -⟩ := (hrep.1).leaf_eq
      obtain ⟨rfl, -⟩ := (hrep.2.1).leaf_eq
      obtain ⟨rfl, -⟩ := (hrep.2.2.1).leaf_eq
      obtain ⟨sa3, sc3, rfl, -, -⟩ := (hrep.2.2.2.1).shape
      have HF0 := Lib.hid hfoc
      have HBK := Lib.hid hback
      obtain ⟨arr1, hob1, hsz1, -, -⟩ := hfoc.arr
      have HOB0 := Lib.hid hob1
      have HFIT : Hid (off + j * 4 + 4 ≤ arr1.size) := by show _ ≤ _; rw [hsz1]; exact hfoc.fit
      have hmb : m + (1 + 1 + 1 + Tr.cntE (GType.trs v1_2)) ≤ 1152921504606846976 := by rw [← hcw]; omega
      rw [hcw] at htk
      have HMS := Lib.hid hms
      have HTK := Lib.hid htk
      have hlo : (0 : Int) ≤ (j : Int) := by omega
      clear hfoc hrep hback hob1 hsz1 hms hmg htk hge hcl hcw hm1 htr
      go_wp2_with fail
      refine (markText_any _ m _ (by omega) (by omega)).mono ?_
      rintro e w1 ⟨rfl, hw⟩
      have HF1 := Lib.hid (HF0.out.ext hw)
      obtain ⟨ar1, ho, hzz, -, -⟩ := HF1.out.arr
      have HOB1 := Lib.hid ho
      have HFT1 : Hid (off + j * 4 + 4 ≤ ar1.size) := by show _ ≤ _; rw [hzz]; exact HF1.out.fit
      clear hw ho hzz
      go_wp2_with (first
        | (refine wpList_store_cell rfl 9 (.tmp 17) (.tmp 15) rfl b (off + j * 4 + 0) rfl (.string (mtext m)) rfl rfl E0 ar1 HOB1.out isz9 (by have := HFT1.out; omega) rfl ?_; intro w2 hob hg hq; have HF2 := Lib.hid (HF1.out.leaf (j := 0) rfl (v := .string (mtext m)) (by have := mtext_size m (by omega); show _ ≤ maxLen; unfold maxLen; omega) HOB1.out hob hg); obtain ⟨ar2, ho, hzz, -, -⟩ := HF2.out.arr; have HOB2 := Lib.hid ho; have HFT2 : Hid (off + j * 4 + 4 ≤ ar2.size) := (by show _ ≤ _; rw [hzz]; exact HF2.out.fit); clear hob hg hq ho hzz)
        | (refine wpList_store_cell rfl 3 (.tmp 25) (.tmp 22) rfl b (off + j * 4 + 1) rfl (.int .i64 (((m + 1) : Nat) : Int)) (by first | rfl | (simp only [Nat.cast_add, Nat.cast_one] <;> rfl)) rfl E0 ar2 HOB2.out isz3 (by have := HFT2.out; omega) rfl ?_; intro w3 hob hg hq; have HF3 := Lib.hid (HF2.out.leaf (j := 1) rfl (v := .int .i64 (((m + 1) : Nat) : Int)) (WalkArith.wf_i64 (by omega)) HOB2.out hob hg); obtain ⟨ar3, ho, hzz, -, -⟩ := HF3.out.arr; have HOB3 := Lib.hid ho; have HFT3 : Hid (off + j * 4 + 4 ≤ ar3.size) := (by show _ ≤ _; rw [hzz]; exact HF3.out.fit); clear hob hg hq ho hzz))
      refine (markText_any _ ((m + 1) + 1) _ (by omega) (by omega)).mono ?_
      rintro e w4 ⟨rfl, hw⟩
      have HF4 := Lib.hid (HF3.out.ext hw)
      obtain ⟨ar4, ho, hzz, -, -⟩ := HF4.out.arr
      have HOB4 := Lib.hid ho
      have HFT4 : Hid (off + j * 4 + 4 ≤ ar4.size) := by show _ ≤ _; rw [hzz]; exact HF4.out.fit
      clear hw ho hzz
      go_wp2_with (first
        | (refine wpList_store_cell rfl 9 (.tmp 34) (.tmp 31) rfl b (off + j * 4 + 2) rfl (.string (mtext ((m + 1) + 1))) rfl rfl E0 ar4 HOB4.out isz9 (by have := HFT4.out; omega) rfl ?_; intro w5 hob hg hq; have HF5 := Lib.hid (HF4.out.leaf (j := 2) rfl (v := .string (mtext ((m + 1) + 1))) (by have := mtext_size ((m + 1) + 1) (by omega); show _ ≤ maxLen; unfold maxLen; omega) HOB4.out hob hg); obtain ⟨ar5, ho, hzz, -, -⟩ := HF5.out.arr; have HOB5 := Lib.hid ho; have HFT5 : Hid (off + j * 4 + 4 ≤ ar5.size) := (by show _ ≤ _; rw [hzz]; exact HF5.out.fit); clear hob hg hq ho hzz; have hcell3 := HF5.out.cell (j := 3) rfl))
      obtain ⟨U3, hu1, hu2, hu3⟩ := HF5.out.row (j := 3) rfl rfl
      refine ((markTypeS_all v1_2) _ _ (((m + 1) + 1) + 1) U3 _ (by omega) hu1 hu2 (by omega)).mono ?_
      rintro e w6 ⟨rfl, how, hch⟩
      have HF6 := Lib.hid (hu3 w6 _ how hch)
      clear how hch hu1 hu2 hu3 hcell3
      go_wp2_with fail
      go_roundw
      case rel =>
        obtain ⟨hown2, hchg2⟩ := HBK.out _ _ _ rfl HF6.out
        refine ⟨j + 1, ((((m + 1) + 1) + 1) + Tr.cntE (GType.trs v1_2)), by omega, by go_num, by first | rfl | go_num, by have h1 := HTK.out; have h2 := HM1.out; show _ = _; omega, ?_, HC1.out.trans hchg2⟩
        show Own _ _ _ _
        rw [← HMS.out]
        exact hown2
      case measure => simp [intOf]; omega
    · have hkl : j = (GBound.trs l).length := by rw [GBound.trs_len]; omega
      go_wp2_with fail
      go_ret
      have ho := HO1.out
      rw [hkl, Tr.mid_end] at ho
      have hm1 := HM1.out
      rw [hkl, List.take_length] at hm1
      subst hm1
      exact ⟨rfl, ho, HC1.out⟩
theorem markBoundS_all (l : List GBound) : MarkSC 53 4 (GBound.trs l) := markBoundS_of l

set_option maxRecDepth 100000 in
set_option maxHeartbeats 2000000 in
theorem heldBoundS_of (l : List GBound)  : HeldSC 54 4 (GBound.trs l) := by
  intro s kz k w hz hrep0 hbd
  subst hz
  obtain ⟨a, cap, rfl, hl, hm⟩ := hrep0.shape
  rw [Tr.markE_length, GBound.trs_len] at *
  unfold maxLen at hm
  have HO := Lib.hid hrep0
  clear hrep0
  go_enter Try.func54, Try.ntmps54
  go_wp2_with fail
  go_loopw [1, 5] (fun kv i wr => ∃ j m : Nat, j ≤ l.length ∧ i = .int .i64 j ∧ kv = .int .i64 (m : Int) ∧ Hid (m = k + Tr.cntE ((GBound.trs l).take j)) ∧ Ext w wr) (fun _ i _ => l.length - (intOf i).toNat)
  case atStart => exact ⟨0, k, Nat.zero_le _, rfl, rfl, by show _ = _; simp [Tr.cntE], .refl _⟩
  case round =>
    obtain ⟨j, m, hj, rfl, rfl, HM1, hw⟩ := hrel
    by_cases hlt : j < l.length
    · have hlt2 : j < (GBound.trs l).length := by rw [GBound.trs_len]; exact hlt
      have hge : (GBound.trs l)[j] = (l[j]).tr := by have h1 := GBound.trs_get hlt; rw [List.getElem?_eq_getElem hlt2] at h1; exact Option.some.inj h1
      have hcl := Tr.cntE_le hlt2
      have hmg := Tr.markE_get (GBound.trs l) k j hlt2
      have htk : Tr.cntE ((GBound.trs l).take (j + 1)) = Tr.cntE ((GBound.trs l).take j) + Tr.cntL (GBound.trs l)[j] := Tr.cntE_take _ j hlt2
      rw [hge] at hcl hmg htk
      have hm1 := HM1.out
      rw [← hm1] at hmg
      generalize l[j] = x at *
      obtain ⟨v0, ⟨v1_0, v1_1, v1_2⟩⟩ := x
      have htr : GBound.tr (.mk v0 (.mk v1_0 v1_1 v1_2)) = [.leaf (.string v0), .leaf (.int .i64 v1_0), .leaf (.string v1_1), .row 3 (GType.trs v1_2)] := by simp [GBound.tr, GType.tr]
      rw [htr] at hcl hmg htk
      have hcw : Tr.cntL [.leaf (.string v0), .leaf (.int .i64 v1_0), .leaf (.string v1_1), .row 3 (GType.trs v1_2)] = 1 + 1 + 1 + Tr.cntE (GType.trs v1_2) := by simp only [Tr.cntL, Tr.cnt]; omega
      obtain ⟨b, off, cs0, rfl, hb, hrep, hc⟩ := (HO.out.ext hw).at2 hmg
      obtain ⟨d0, d1, d2, d3, rfl⟩ := list4 hrep.length.symm
      obtain ⟨rfl, -⟩ := (hrep.1).leaf_eq
      obtain ⟨rfl, -⟩ := (hrep.2.1).leaf_eq
      obtain ⟨rfl, -⟩ := (hrep.2.2.1).leaf_eq
      have HR3 := Lib.hid (hrep.2.2.2.1)
      obtain ⟨sa3, sc3, hd3, -, -⟩ := HR3.out.shape
      rw [Tr.markE_length] at hd3
      subst hd3
      have hmb : m + (1 + 1 + 1 + Tr.cntE (GType.trs v1_2)) ≤ 1152921504606846976 := by rw [← hcw]; omega
      rw [hcw] at htk
      have HTK := Lib.hid htk
      have HC := Lib.hid hc
      have HB := Lib.hid hb
      have hki := hlt
      simp only [markLeaf, Tr.cnt] at *
      have hcell0 : wr.cell? ⟨b, off + j * 4, none⟩ = some _ := HC.out 0 _ rfl
      have hcell1 : wr.cell? ⟨b, off + j * 4 + 1, none⟩ = some _ := HC.out 1 _ rfl
      have hcell2 : wr.cell? ⟨b, off + j * 4 + 2, none⟩ = some _ := HC.out 2 _ rfl
      have hcell3 : wr.cell? ⟨b, off + j * 4 + 3, none⟩ = some _ := HC.out 3 _ rfl
      clear hrep hc hmg htk hge hcl hcw hm1 htr hb
      go_wp2_with fail
      have HX0 := Lib.hid (Ext.refl wr)
      refine wp_region_held_drew (S := Ext wr) (by kernel_rfl) ?_ (fun hHeld => ?_)
      · exact .drew (.refl _)
      refine wpAnyH_take (i := 0) rfl (by kernel_rfl) (by kernel_rfl) (by kernel_rfl) (fun _ _ _ h => h) (.inl ⟨rfl, fun _ _ => rfl⟩) (by assumption) ?_
      simp only [Act.put, List.getElem_toArray, List.getElem_cons_zero, List.setIfInBounds_toArray, List.set_cons_zero, List.set_cons_succ]
      refine wpAnyH_take (i := 1) rfl (by kernel_rfl) (by kernel_rfl) (by kernel_rfl) (fun _ _ _ h => h) (.inl ⟨rfl, fun _ _ => rfl⟩) (by assumption) ?_
      simp only [Act.put, List.getElem_toArray, List.getElem_cons_zero, List.getElem_cons_succ, List.setIfInBounds_toArray, List.set_cons_zero, List.set_cons_succ]
      refine wpAnyH_index (i := 2) rfl (by kernel_rfl) (by kernel_rfl) (by kernel_rfl) rfl 86 (.tmp 12) (.tmp 13) rfl (b) (off) (l.length) (cap) (j) (4) rfl rfl (hki) Try.underlying86 (by kernel_rfl) (by assumption) (fun _ _ _ _ h => h) ?_
      simp only [Act.put, List.getElem_toArray, List.getElem_cons_zero, List.getElem_cons_succ, List.setIfInBounds_toArray, List.set_cons_zero, List.set_cons_succ]
      refine wpAnyH_take (i := 3) rfl (by kernel_rfl) (by kernel_rfl) (by kernel_rfl) (fun _ _ _ h => h) (.inl ⟨rfl, fun _ _ => rfl⟩) (by assumption) ?_
      simp only [Act.put, List.getElem_toArray, List.getElem_cons_zero, List.getElem_cons_succ, List.setIfInBounds_toArray, List.set_cons_zero, List.set_cons_succ]
      refine wpAnyH_cell (i := 4) rfl (by kernel_rfl) (by kernel_rfl) (by kernel_rfl) rfl 9 (.tmp 15) rfl (b) (off + j * 4) rfl (.string (mtext m)) _ Try.underlying9 rfl (fun W hW => (hW.cell (p := ⟨b, off + j * 4, none⟩) (Nat.lt_of_lt_of_le HB.out (HX0.out).size)).trans hcell0) (by assumption) (fun _ _ _ _ h => h) ?_
      simp only [Act.put, List.getElem_toArray, List.getElem_cons_zero, List.getElem_cons_succ, List.setIfInBounds_toArray, List.set_cons_zero, List.set_cons_succ]
      refine wpAnyH_take (i := 5) rfl (by kernel_rfl) (by kernel_rfl) (by kernel_rfl) (fun _ _ _ h => h) (.inl ⟨rfl, fun _ _ => rfl⟩) (by assumption) ?_
      simp only [Act.put, List.getElem_toArray, List.getElem_cons_zero, List.getElem_cons_succ, List.setIfInBounds_toArray, List.set_cons_zero, List.set_cons_succ]
      refine wpAnyH_call (i := 6) (by kernel_rfl) rfl rfl (run_call_func rfl rfl #[.int .i64 _] (by simp only [List.map_toArray, List.map_cons, List.map_nil, Act.eval]; rfl) Try.func121 (by kernel_rfl) (by kernel_rfl) _) (markText_any _ m _ (by omega) (by omega)) ?_
      rintro e wh1 ⟨rfl, hv1⟩
      have hs1 := Ext.trans hHeld hv1
      refine ⟨_, rfl, hs1, ?_⟩
      simp only [Act.put, List.getElem_toArray, List.getElem_cons_zero, List.getElem_cons_succ, List.setIfInBounds_toArray, List.set_cons_zero, List.set_cons_succ]
      refine wpAnyH_take (i := 7) rfl (by kernel_rfl) (by kernel_rfl) (by kernel_rfl) (fun _ _ _ h => h) (.inl ⟨rfl, fun _ _ => rfl⟩) (by assumption) ?_
      simp only [Act.put, List.getElem_toArray, List.getElem_cons_zero, List.getElem_cons_succ, List.setIfInBounds_toArray, List.set_cons_zero, List.set_cons_succ]
      refine wpAnyH_done (by kernel_rfl) ?_ _
      clear hHeld
      have HX1 := Lib.hid (Ext.trans HX0.out hs1)
      have hcell1 := (hs1.cell (p := ⟨b, off + j * 4 + 1, none⟩) (Nat.lt_of_lt_of_le HB.out HX0.out.size)).trans hcell1
      have hcell2 := (hs1.cell (p := ⟨b, off + j * 4 + 2, none⟩) (Nat.lt_of_lt_of_le HB.out HX0.out.size)).trans hcell2
      have hcell3 := (hs1.cell (p := ⟨b, off + j * 4 + 3, none⟩) (Nat.lt_of_lt_of_le HB.out HX0.out.size)).trans hcell3
      clear hs1 hv1
      simp only [beq_self_eq_true, Bool.not_true]
      go_wp2_with fail
      refine wp_region_held_drew (S := Ext wh1) (by kernel_rfl) ?_ (fun hHeld => ?_)
      · exact .drew (.refl _)
      refine wpAnyH_take (i := 0) rfl (by kernel_rfl) (by kernel_rfl) (by kernel_rfl) (fun _ _ _ h => h) (.inl ⟨rfl, fun _ _ => rfl⟩) (by assumption) ?_
      simp only [Act.put, List.getElem_toArray, List.getElem_cons_zero, List.setIfInBounds_toArray, List.set_cons_zero, List.set_cons_succ]
      refine wpAnyH_take (i := 1) rfl (by kernel_rfl) (by kernel_rfl) (by kernel_rfl) (fun _ _ _ h => h) (.inl ⟨rfl, fun _ _ => rfl⟩) (by assumption) ?_
      simp only [Act.put, List.getElem_toArray, List.getElem_cons_zero, List.getElem_cons_succ, List.setIfInBounds_toArray, List.set_cons_zero, List.set_cons_succ]
      refine wpAnyH_index (i := 2) rfl (by kernel_rfl) (by kernel_rfl) (by kernel_rfl) rfl 86 (.tmp 32) (.tmp 33) rfl (b) (off) (l.length) (cap) (j) (4) rfl rfl (hki) Try.underlying86 (by kernel_rfl) (by assumption) (fun _ _ _ _ h => h) ?_
      simp only [Act.put, List.getElem_toArray, List.getElem_cons_zero, List.getElem_cons_succ, List.setIfInBounds_toArray, List.set_cons_zero, List.set_cons_succ]
      refine wpAnyH_take (i := 3) rfl (by kernel_rfl) (by kernel_rfl) (by kernel_rfl) (fun _ _ _ h => h) (.inl ⟨rfl, fun _ _ => rfl⟩) (by assumption) ?_
      simp only [Act.put, List.getElem_toArray, List.getElem_cons_zero, List.getElem_cons_succ, List.setIfInBounds_toArray, List.set_cons_zero, List.set_cons_succ]
      refine wpAnyH_take (i := 4) rfl (by kernel_rfl) (by kernel_rfl) (by kernel_rfl) (fun _ _ _ h => h) (.inl ⟨rfl, fun _ _ => rfl⟩) (by assumption) ?_
      simp only [Act.put, List.getElem_toArray, List.getElem_cons_zero, List.getElem_cons_succ, List.setIfInBounds_toArray, List.set_cons_zero, List.set_cons_succ]
      refine wpAnyH_cell (i := 5) rfl (by kernel_rfl) (by kernel_rfl) (by kernel_rfl) rfl 9 (.tmp 36) rfl (b) (off + j * 4 + 2) rfl (.string (mtext ((m + 1) + 1))) _ Try.underlying9 rfl (fun W hW => (hW.cell (p := ⟨b, off + j * 4 + 2, none⟩) (Nat.lt_of_lt_of_le HB.out (HX1.out).size)).trans hcell2) (by assumption) (fun _ _ _ _ h => h) ?_
      simp only [Act.put, List.getElem_toArray, List.getElem_cons_zero, List.getElem_cons_succ, List.setIfInBounds_toArray, List.set_cons_zero, List.set_cons_succ]
      refine wpAnyH_take (i := 6) rfl (by kernel_rfl) (by kernel_rfl) (by kernel_rfl) (fun _ _ _ h => h) (.inl ⟨rfl, fun _ _ => rfl⟩) (by assumption) ?_
      simp only [Act.put, List.getElem_toArray, List.getElem_cons_zero, List.getElem_cons_succ, List.setIfInBounds_toArray, List.set_cons_zero, List.set_cons_succ]
      refine wpAnyH_call (i := 7) (by kernel_rfl) rfl rfl (run_call_func rfl rfl #[.int .i64 _] (by simp only [List.map_toArray, List.map_cons, List.map_nil, Act.eval]; rfl) Try.func121 (by kernel_rfl) (by kernel_rfl) _) (markText_any _ ((m + 1) + 1) _ (by omega) (by omega)) ?_
      rintro e wh2 ⟨rfl, hv2⟩
      have hs1 := Ext.trans hHeld hv2
      refine ⟨_, rfl, hs1, ?_⟩
      simp only [Act.put, List.getElem_toArray, List.getElem_cons_zero, List.getElem_cons_succ, List.setIfInBounds_toArray, List.set_cons_zero, List.set_cons_succ]
      refine wpAnyH_take (i := 8) rfl (by kernel_rfl) (by kernel_rfl) (by kernel_rfl) (fun _ _ _ h => h) (.inl ⟨rfl, fun _ _ => rfl⟩) (by assumption) ?_
      simp only [Act.put, List.getElem_toArray, List.getElem_cons_zero, List.getElem_cons_succ, List.setIfInBounds_toArray, List.set_cons_zero, List.set_cons_succ]
      refine wpAnyH_done (by kernel_rfl) ?_ _
      clear hHeld
      have HX2 := Lib.hid (Ext.trans HX1.out hs1)
      have hcell3 := (hs1.cell (p := ⟨b, off + j * 4 + 3, none⟩) (Nat.lt_of_lt_of_le HB.out HX1.out.size)).trans hcell3
      clear hs1 hv2
      simp only [beq_self_eq_true, Bool.not_true]
      go_wp2_with fail
      refine ((heldTypeS_all v1_2) _ _ (((m + 1) + 1) + 1) _ (by omega) (HR3.out.ext HX2.out) (by omega)).mono ?_
      rintro e wh3 ⟨rfl, hv3⟩
      have HX3 := Lib.hid (Ext.trans HX2.out hv3)
      clear hv3
      have hng : ¬ ((((((m + 1) + 1) + 1) + Tr.cntE (GType.trs v1_2)) : Nat) : Int) < 0 := by omega
      go_wp2_with fail
      go_roundw
      case rel => exact ⟨j + 1, ((((m + 1) + 1) + 1) + Tr.cntE (GType.trs v1_2)), by omega, by go_num, by first | rfl | go_num, by have h1 := HTK.out; have h2 := HM1.out; show _ = _; omega, hw.trans HX3.out⟩
      case measure => simp [intOf]; omega
    · have hkl : j = (GBound.trs l).length := by rw [GBound.trs_len]; omega
      go_wp2_with fail
      go_ret
      have hm1 := HM1.out
      rw [hkl, List.take_length] at hm1
      subst hm1
      exact ⟨rfl, hw⟩
theorem heldBoundS_all (l : List GBound) : HeldSC 54 4 (GBound.trs l) := heldBoundS_of l

set_option maxRecDepth 100000 in
set_option maxHeartbeats 2000000 in
theorem markEvidenceS_of (l : List GEvidence) (H : ∀ x ∈ l, MarkSC 96 5 (GEvidence.trs x.gArgs)) : MarkSC 96 5 (GEvidence.trs l) := by
  intro s kz k S w hz hown hS hbd
  subst hz
  obtain ⟨a, cap, rfl, hl, hm⟩ := hown.rep.shape
  rw [GEvidence.trs_len] at *
  unfold maxLen at hm
  have HO := Lib.hid hown
  have HSS := Lib.hid hS
  have HH := Lib.hid H
  clear H
  clear hown hS
  go_enter Try.func96, Try.ntmps96
  go_wp2_with fail
  go_loopw [1, 5] (fun kv i wr => ∃ j m : Nat, j ≤ l.length ∧ i = .int .i64 j ∧ kv = .int .i64 (m : Int) ∧ Hid (m = k + Tr.cntE ((GEvidence.trs l).take j)) ∧ Hid (Own wr (.row 5 (Tr.mid (GEvidence.trs l) k j)) (.slice a l.length cap) S) ∧ Hid (Chg S w wr)) (fun _ i _ => l.length - (intOf i).toNat)
  case atStart => exact ⟨0, k, Nat.zero_le _, rfl, rfl, by show _ = _; simp [Tr.cntE], by show Own _ _ _ _; rw [Tr.mid_zero]; exact HO.out, Chg.refl _ _⟩
  case round =>
    obtain ⟨j, m, hj, rfl, rfl, HM1, HO1, HC1⟩ := hrel
    by_cases hlt : j < l.length
    · have hlt2 : j < (GEvidence.trs l).length := by rw [GEvidence.trs_len]; exact hlt
      have hge : (GEvidence.trs l)[j] = (l[j]).tr := by have h1 := GEvidence.trs_get hlt; rw [List.getElem?_eq_getElem hlt2] at h1; exact Option.some.inj h1
      have hcl := Tr.cntE_le hlt2
      have hms := Tr.mid_set (k := k) hlt2
      have hmg := Tr.mid_get (k := k) hlt2
      have htk : Tr.cntE ((GEvidence.trs l).take (j + 1)) = Tr.cntE ((GEvidence.trs l).take j) + Tr.cntL (GEvidence.trs l)[j] := Tr.cntE_take _ j hlt2
      rw [hge] at hcl hms hmg htk
      have hm1 := HM1.out
      rw [← hm1] at hms
      have HM := Lib.hid (HH.out _ (List.getElem_mem hlt))
      generalize l[j] = x at *
      obtain ⟨v0, v1, ⟨v2_0, v2_1⟩, v3⟩ := x
      have HM : Hid (MarkSC 96 5 (GEvidence.trs v3)) := HM
      have htr : GEvidence.tr (.mk v0 v1 (.mk v2_0 v2_1) v3) = [.leaf (.int .i64 v0), .leaf (.int .i64 v1), .leaf (.int .i64 v2_0), .leaf (.int .i64 v2_1), .row 5 (GEvidence.trs v3)] := by simp [GEvidence.tr, GInstanceRef.tr]
      rw [htr] at hcl hms hmg htk
      have hcw : Tr.cntL [.leaf (.int .i64 v0), .leaf (.int .i64 v1), .leaf (.int .i64 v2_0), .leaf (.int .i64 v2_1), .row 5 (GEvidence.trs v3)] = 1 + 1 + 1 + 1 + Tr.cntE (GEvidence.trs v3) := by simp only [Tr.cntL, Tr.cnt]; omega
      obtain ⟨b, off, E0, arr0, cs0, T, rfl, hfoc, hrep, hback⟩ := HO1.out.take hmg (Tr.mid_sz (GEvidence.sz l)) (by omega) (fun x hx => Nat.lt_of_lt_of_le (HSS.out x hx) HC1.out.size)
      obtain ⟨d0, d1, d2, d3, d4, rfl⟩ := list5 hfoc.len
      obtain ⟨rfl, -⟩ := (hrep.1).leaf_eq
      obtain ⟨rfl, -⟩ := (hrep.2.1).leaf_eq
      obtain ⟨rfl, -⟩ := (hrep.2.2.1).leaf_eq
      obtain ⟨rfl, -⟩ := (hrep.2.2.2.1).leaf_eq
      obtain ⟨sa4, sc4, rfl, -, -⟩ := (hrep.2.2.2.2.1).shape
      have HF0 := Lib.hid hfoc
      have HBK := Lib.hid hback
      obtain ⟨arr1, hob1, hsz1, -, -⟩ := hfoc.arr
      have HOB0 := Lib.hid hob1
      have HFIT : Hid (off + j * 5 + 5 ≤ arr1.size) := by show _ ≤ _; rw [hsz1]; exact hfoc.fit
      have hmb : m + (1 + 1 + 1 + 1 + Tr.cntE (GEvidence.trs v3)) ≤ 1152921504606846976 := by rw [← hcw]; omega
      rw [hcw] at htk
      have HMS := Lib.hid hms
      have HTK := Lib.hid htk
      have hlo : (0 : Int) ≤ (j : Int) := by omega
      clear hfoc hrep hback hob1 hsz1 hms hmg htk hge hcl hcw hm1 htr
      go_wp2_with (first
        | (refine wpList_store_cell rfl 3 (.tmp 16) (.tmp 14) rfl b (off + j * 5 + 0) rfl (.int .i64 ((m : Nat) : Int)) (by first | rfl | (simp only [Nat.cast_add, Nat.cast_one] <;> rfl)) rfl E0 arr1 HOB0.out isz3 (by have := HFIT.out; omega) rfl ?_; intro w1 hob hg hq; have HF1 := Lib.hid (HF0.out.leaf (j := 0) rfl (v := .int .i64 ((m : Nat) : Int)) (WalkArith.wf_i64 (by omega)) HOB0.out hob hg); obtain ⟨ar1, ho, hzz, -, -⟩ := HF1.out.arr; have HOB1 := Lib.hid ho; have HFT1 : Hid (off + j * 5 + 5 ≤ ar1.size) := (by show _ ≤ _; rw [hzz]; exact HF1.out.fit); clear hob hg hq ho hzz)
        | (refine wpList_store_cell rfl 3 (.tmp 23) (.tmp 21) rfl b (off + j * 5 + 1) rfl (.int .i64 (((m + 1) : Nat) : Int)) (by first | rfl | (simp only [Nat.cast_add, Nat.cast_one] <;> rfl)) rfl E0 ar1 HOB1.out isz3 (by have := HFT1.out; omega) rfl ?_; intro w2 hob hg hq; have HF2 := Lib.hid (HF1.out.leaf (j := 1) rfl (v := .int .i64 (((m + 1) : Nat) : Int)) (WalkArith.wf_i64 (by omega)) HOB1.out hob hg); obtain ⟨ar2, ho, hzz, -, -⟩ := HF2.out.arr; have HOB2 := Lib.hid ho; have HFT2 : Hid (off + j * 5 + 5 ≤ ar2.size) := (by show _ ≤ _; rw [hzz]; exact HF2.out.fit); clear hob hg hq ho hzz)
        | (refine wpList_store_cell rfl 3 (.tmp 31) (.tmp 28) rfl b (off + j * 5 + 2) rfl (.int .i64 ((((m + 1) + 1) : Nat) : Int)) (by first | rfl | (simp only [Nat.cast_add, Nat.cast_one] <;> rfl)) rfl E0 ar2 HOB2.out isz3 (by have := HFT2.out; omega) rfl ?_; intro w3 hob hg hq; have HF3 := Lib.hid (HF2.out.leaf (j := 2) rfl (v := .int .i64 ((((m + 1) + 1) : Nat) : Int)) (WalkArith.wf_i64 (by omega)) HOB2.out hob hg); obtain ⟨ar3, ho, hzz, -, -⟩ := HF3.out.arr; have HOB3 := Lib.hid ho; have HFT3 : Hid (off + j * 5 + 5 ≤ ar3.size) := (by show _ ≤ _; rw [hzz]; exact HF3.out.fit); clear hob hg hq ho hzz)
        | (refine wpList_store_cell rfl 3 (.tmp 39) (.tmp 36) rfl b (off + j * 5 + 3) rfl (.int .i64 (((((m + 1) + 1) + 1) : Nat) : Int)) (by first | rfl | (simp only [Nat.cast_add, Nat.cast_one] <;> rfl)) rfl E0 ar3 HOB3.out isz3 (by have := HFT3.out; omega) rfl ?_; intro w4 hob hg hq; have HF4 := Lib.hid (HF3.out.leaf (j := 3) rfl (v := .int .i64 (((((m + 1) + 1) + 1) : Nat) : Int)) (WalkArith.wf_i64 (by omega)) HOB3.out hob hg); obtain ⟨ar4, ho, hzz, -, -⟩ := HF4.out.arr; have HOB4 := Lib.hid ho; have HFT4 : Hid (off + j * 5 + 5 ≤ ar4.size) := (by show _ ≤ _; rw [hzz]; exact HF4.out.fit); clear hob hg hq ho hzz; have hcell4 := HF4.out.cell (j := 4) rfl))
      obtain ⟨U4, hu1, hu2, hu3⟩ := HF4.out.row (j := 4) rfl rfl
      refine (HM.out _ _ ((((m + 1) + 1) + 1) + 1) U4 _ (by omega) hu1 hu2 (by omega)).mono ?_
      rintro e w5 ⟨rfl, how, hch⟩
      have HF5 := Lib.hid (hu3 w5 _ how hch)
      clear how hch hu1 hu2 hu3 hcell4
      go_wp2_with fail
      go_roundw
      case rel =>
        obtain ⟨hown2, hchg2⟩ := HBK.out _ _ _ rfl HF5.out
        refine ⟨j + 1, (((((m + 1) + 1) + 1) + 1) + Tr.cntE (GEvidence.trs v3)), by omega, by go_num, by first | rfl | go_num, by have h1 := HTK.out; have h2 := HM1.out; show _ = _; omega, ?_, HC1.out.trans hchg2⟩
        show Own _ _ _ _
        rw [← HMS.out]
        exact hown2
      case measure => simp [intOf]; omega
    · have hkl : j = (GEvidence.trs l).length := by rw [GEvidence.trs_len]; omega
      go_wp2_with fail
      go_ret
      have ho := HO1.out
      rw [hkl, Tr.mid_end] at ho
      have hm1 := HM1.out
      rw [hkl, List.take_length] at hm1
      subst hm1
      exact ⟨rfl, ho, HC1.out⟩
theorem markEvidenceS_in : ∀ x : GEvidence, MarkSC 96 5 (GEvidence.trs x.gArgs) :=
  GEvidence.ind fun v0 v1 v2 v3 ih => markEvidenceS_of v3 ih
theorem markEvidenceS_all (l : List GEvidence) : MarkSC 96 5 (GEvidence.trs l) := markEvidenceS_of l fun x _ => markEvidenceS_in x

set_option maxRecDepth 100000 in
set_option maxHeartbeats 2000000 in
theorem heldEvidenceS_of (l : List GEvidence) (H : ∀ x ∈ l, HeldSC 97 5 (GEvidence.trs x.gArgs)) : HeldSC 97 5 (GEvidence.trs l) := by
  intro s kz k w hz hrep0 hbd
  subst hz
  obtain ⟨a, cap, rfl, hl, hm⟩ := hrep0.shape
  rw [Tr.markE_length, GEvidence.trs_len] at *
  unfold maxLen at hm
  have HO := Lib.hid hrep0
  have HH := Lib.hid H
  clear H
  clear hrep0
  go_enter Try.func97, Try.ntmps97
  go_wp2_with fail
  go_loopw [1, 5] (fun kv i wr => ∃ j m : Nat, j ≤ l.length ∧ i = .int .i64 j ∧ kv = .int .i64 (m : Int) ∧ Hid (m = k + Tr.cntE ((GEvidence.trs l).take j)) ∧ Ext w wr) (fun _ i _ => l.length - (intOf i).toNat)
  case atStart => exact ⟨0, k, Nat.zero_le _, rfl, rfl, by show _ = _; simp [Tr.cntE], .refl _⟩
  case round =>
    obtain ⟨j, m, hj, rfl, rfl, HM1, hw⟩ := hrel
    by_cases hlt : j < l.length
    · have hlt2 : j < (GEvidence.trs l).length := by rw [GEvidence.trs_len]; exact hlt
      have hge : (GEvidence.trs l)[j] = (l[j]).tr := by have h1 := GEvidence.trs_get hlt; rw [List.getElem?_eq_getElem hlt2] at h1; exact Option.some.inj h1
      have hcl := Tr.cntE_le hlt2
      have hmg := Tr.markE_get (GEvidence.trs l) k j hlt2
      have htk : Tr.cntE ((GEvidence.trs l).take (j + 1)) = Tr.cntE ((GEvidence.trs l).take j) + Tr.cntL (GEvidence.trs l)[j] := Tr.cntE_take _ j hlt2
      rw [hge] at hcl hmg htk
      have hm1 := HM1.out
      rw [← hm1] at hmg
      have HM := Lib.hid (HH.out _ (List.getElem_mem hlt))
      generalize l[j] = x at *
      obtain ⟨v0, v1, ⟨v2_0, v2_1⟩, v3⟩ := x
      have HM : Hid (HeldSC 97 5 (GEvidence.trs v3)) := HM
      have htr : GEvidence.tr (.mk v0 v1 (.mk v2_0 v2_1) v3) = [.leaf (.int .i64 v0), .leaf (.int .i64 v1), .leaf (.int .i64 v2_0), .leaf (.int .i64 v2_1), .row 5 (GEvidence.trs v3)] := by simp [GEvidence.tr, GInstanceRef.tr]
      rw [htr] at hcl hmg htk
      have hcw : Tr.cntL [.leaf (.int .i64 v0), .leaf (.int .i64 v1), .leaf (.int .i64 v2_0), .leaf (.int .i64 v2_1), .row 5 (GEvidence.trs v3)] = 1 + 1 + 1 + 1 + Tr.cntE (GEvidence.trs v3) := by simp only [Tr.cntL, Tr.cnt]; omega
      obtain ⟨b, off, cs0, rfl, hb, hrep, hc⟩ := (HO.out.ext hw).at2 hmg
      obtain ⟨d0, d1, d2, d3, d4, rfl⟩ := list5 hrep.length.symm
      obtain ⟨rfl, -⟩ := (hrep.1).leaf_eq
      obtain ⟨rfl, -⟩ := (hrep.2.1).leaf_eq
      obtain ⟨rfl, -⟩ := (hrep.2.2.1).leaf_eq
      obtain ⟨rfl, -⟩ := (hrep.2.2.2.1).leaf_eq
      have HR4 := Lib.hid (hrep.2.2.2.2.1)
      obtain ⟨sa4, sc4, hd4, -, -⟩ := HR4.out.shape
      rw [Tr.markE_length] at hd4
      subst hd4
      have hmb : m + (1 + 1 + 1 + 1 + Tr.cntE (GEvidence.trs v3)) ≤ 1152921504606846976 := by rw [← hcw]; omega
      rw [hcw] at htk
      have HTK := Lib.hid htk
      have HC := Lib.hid hc
      have HB := Lib.hid hb
      have hki := hlt
      simp only [markLeaf, Tr.cnt] at *
      have hcell0 : wr.cell? ⟨b, off + j * 5, none⟩ = some _ := HC.out 0 _ rfl
      have hcell1 : wr.cell? ⟨b, off + j * 5 + 1, none⟩ = some _ := HC.out 1 _ rfl
      have hcell2 : wr.cell? ⟨b, off + j * 5 + 2, none⟩ = some _ := HC.out 2 _ rfl
      have hcell3 : wr.cell? ⟨b, off + j * 5 + 3, none⟩ = some _ := HC.out 3 _ rfl
      have hcell4 : wr.cell? ⟨b, off + j * 5 + 4, none⟩ = some _ := HC.out 4 _ rfl
      clear hrep hc hmg htk hge hcl hcw hm1 htr hb
      go_wp2_with fail
      have HX0 := Lib.hid (Ext.refl wr)
      refine (HM.out _ _ ((((m + 1) + 1) + 1) + 1) _ (by omega) (HR4.out.ext HX0.out) (by omega)).mono ?_
      rintro e wh1 ⟨rfl, hv1⟩
      have HX1 := Lib.hid (Ext.trans HX0.out hv1)
      clear hv1
      have hng : ¬ (((((((m + 1) + 1) + 1) + 1) + Tr.cntE (GEvidence.trs v3)) : Nat) : Int) < 0 := by omega
      go_wp2_with fail
      go_roundw
      case rel => exact ⟨j + 1, (((((m + 1) + 1) + 1) + 1) + Tr.cntE (GEvidence.trs v3)), by omega, by go_num, by first | rfl | go_num, by have h1 := HTK.out; have h2 := HM1.out; show _ = _; omega, hw.trans HX1.out⟩
      case measure => simp [intOf]; omega
    · have hkl : j = (GEvidence.trs l).length := by rw [GEvidence.trs_len]; omega
      go_wp2_with fail
      go_ret
      have hm1 := HM1.out
      rw [hkl, List.take_length] at hm1
      subst hm1
      exact ⟨rfl, hw⟩
theorem heldEvidenceS_in : ∀ x : GEvidence, HeldSC 97 5 (GEvidence.trs x.gArgs) :=
  GEvidence.ind fun v0 v1 v2 v3 ih => heldEvidenceS_of v3 ih
theorem heldEvidenceS_all (l : List GEvidence) : HeldSC 97 5 (GEvidence.trs l) := heldEvidenceS_of l fun x _ => heldEvidenceS_in x

set_option maxRecDepth 100000 in
set_option maxHeartbeats 2000000 in
theorem markType_all (x : GType) : MarkC 52 x.tr := by
  obtain ⟨v0, v1, v2⟩ := x
  have htr : GType.tr (.mk v0 v1 v2) = [.leaf (.int .i64 v0), .leaf (.string v1), .row 3 (GType.trs v2)] := by simp [GType.tr]
  rw [htr]
  clear htr
  intro cs kz k S w hz ho hS hbd
  subst hz
  simp only [Tr.topN, Tr.topL, Nat.add_zero] at *
  have hr := ho.rep
  obtain ⟨d0, d1, d2, rfl⟩ := list3 hr.length.symm
  obtain ⟨rfl, -⟩ := (hr.1).leaf_eq
  obtain ⟨rfl, -⟩ := (hr.2.1).leaf_eq
  have HR := Lib.hid (hr.2.2.1)
  obtain ⟨sa, sc, hd, -, -⟩ := HR.out.shape
  rw [GType.trs_len] at hd
  subst hd
  obtain ⟨U, hu1, hu2, hu3⟩ := ho.setRow (j := 2) rfl rfl
  have HU1 := Lib.hid hu1
  have HU2 := Lib.hid hu2
  have HU3 := Lib.hid hu3
  have HSS := Lib.hid hS
  clear ho hS hr hu1 hu2 hu3
  go_enter Try.func52, Try.ntmps52
  go_wp2_with fail
  refine (markTypeS_all v2 _ _ k U _ (by rfl) (HU1.out.ext (.alloc (.refl _) _)) (fun x hx => by have := HSS.out x (HU2.out x hx); simp only [World.size_alloc]; omega) (by omega)).mono ?_
  rintro e w1 ⟨rfl, how, hch⟩
  have hown := HU3.out w1 _ how (fun x hx _ hn => (hch.block x (by simp only [World.size_alloc]; omega) hn).trans ((Ext.alloc (.refl w) _).block x hx))
  have hchg := (Chg.of_ext (.alloc (.refl w) _)).trans (hch.mono HU2.out)
  have HOWN := Lib.hid hown
  have HCHG := Lib.hid hchg
  clear how hch hown hchg
  go_wp2_with fail
  go_ret
  exact ⟨rfl, HOWN.out, HCHG.out⟩

set_option maxRecDepth 100000 in
set_option maxHeartbeats 2000000 in
theorem heldType_all (x : GType) : HeldC 159 x.tr := by
  obtain ⟨v0, v1, v2⟩ := x
  have htr : GType.tr (.mk v0 v1 v2) = [.leaf (.int .i64 v0), .leaf (.string v1), .row 3 (GType.trs v2)] := by simp [GType.tr]
  rw [htr]
  clear htr
  intro cs kz k w hz hr hbd
  subst hz
  simp only [Tr.topN, Tr.topL, Nat.add_zero] at *
  obtain ⟨d0, d1, d2, rfl⟩ := list3 hr.length.symm
  obtain ⟨rfl, -⟩ := (hr.1).leaf_eq
  obtain ⟨rfl, -⟩ := (hr.2.1).leaf_eq
  have HR := Lib.hid (hr.2.2.1)
  obtain ⟨sa, sc, hd, -, -⟩ := HR.out.shape
  rw [Tr.markE_length] at hd
  rw [GType.trs_len] at hd
  subst hd
  clear hr
  go_enter Try.func159, Try.ntmps159
  go_wp2_with fail
  refine (heldTypeS_all v2 _ _ k _ (by rfl) (HR.out.ext (.alloc (.refl _) _)) (by omega)).mono ?_
  rintro e w1 ⟨rfl, hw1⟩
  have HW1 := Lib.hid (Ext.trans (.alloc (.refl _) _) hw1)
  clear hw1
  have hng : ¬ ((k + Tr.cntE (GType.trs v2) : Nat) : Int) < 0 := by omega
  go_wp2_with fail
  go_ret
  exact ⟨rfl, HW1.out⟩
-- markBound: not served
-- heldBound: not served

set_option maxRecDepth 100000 in
set_option maxHeartbeats 2000000 in
theorem markEvidence_all (x : GEvidence) : MarkC 30 x.tr := by
  obtain ⟨v0, v1, ⟨v2_0, v2_1⟩, v3⟩ := x
  have htr : GEvidence.tr (.mk v0 v1 (.mk v2_0 v2_1) v3) = [.leaf (.int .i64 v0), .leaf (.int .i64 v1), .leaf (.int .i64 v2_0), .leaf (.int .i64 v2_1), .row 5 (GEvidence.trs v3)] := by simp [GEvidence.tr, GInstanceRef.tr]
  rw [htr]
  clear htr
  intro cs kz k S w hz ho hS hbd
  subst hz
  simp only [Tr.topN, Tr.topL, Nat.add_zero] at *
  have hr := ho.rep
  obtain ⟨d0, d1, d2, d3, d4, rfl⟩ := list5 hr.length.symm
  obtain ⟨rfl, -⟩ := (hr.1).leaf_eq
  obtain ⟨rfl, -⟩ := (hr.2.1).leaf_eq
  obtain ⟨rfl, -⟩ := (hr.2.2.1).leaf_eq
  obtain ⟨rfl, -⟩ := (hr.2.2.2.1).leaf_eq
  have HR := Lib.hid (hr.2.2.2.2.1)
  obtain ⟨sa, sc, hd, -, -⟩ := HR.out.shape
  rw [GEvidence.trs_len] at hd
  subst hd
  obtain ⟨U, hu1, hu2, hu3⟩ := ho.setRow (j := 4) rfl rfl
  have HU1 := Lib.hid hu1
  have HU2 := Lib.hid hu2
  have HU3 := Lib.hid hu3
  have HSS := Lib.hid hS
  clear ho hS hr hu1 hu2 hu3
  go_enter Try.func30, Try.ntmps30
  go_wp2_with fail
  refine (markEvidenceS_all v3 _ _ k U _ (by rfl) (HU1.out.ext (.alloc (.refl _) _)) (fun x hx => by have := HSS.out x (HU2.out x hx); simp only [World.size_alloc]; omega) (by omega)).mono ?_
  rintro e w1 ⟨rfl, how, hch⟩
  have hown := HU3.out w1 _ how (fun x hx _ hn => (hch.block x (by simp only [World.size_alloc]; omega) hn).trans ((Ext.alloc (.refl w) _).block x hx))
  have hchg := (Chg.of_ext (.alloc (.refl w) _)).trans (hch.mono HU2.out)
  have HOWN := Lib.hid hown
  have HCHG := Lib.hid hchg
  clear how hch hown hchg
  go_wp2_with fail
  go_ret
  exact ⟨rfl, HOWN.out, HCHG.out⟩

set_option maxRecDepth 100000 in
set_option maxHeartbeats 2000000 in
theorem heldEvidence_all (x : GEvidence) : HeldC 32 x.tr := by
  obtain ⟨v0, v1, ⟨v2_0, v2_1⟩, v3⟩ := x
  have htr : GEvidence.tr (.mk v0 v1 (.mk v2_0 v2_1) v3) = [.leaf (.int .i64 v0), .leaf (.int .i64 v1), .leaf (.int .i64 v2_0), .leaf (.int .i64 v2_1), .row 5 (GEvidence.trs v3)] := by simp [GEvidence.tr, GInstanceRef.tr]
  rw [htr]
  clear htr
  intro cs kz k w hz hr hbd
  subst hz
  simp only [Tr.topN, Tr.topL, Nat.add_zero] at *
  obtain ⟨d0, d1, d2, d3, d4, rfl⟩ := list5 hr.length.symm
  obtain ⟨rfl, -⟩ := (hr.1).leaf_eq
  obtain ⟨rfl, -⟩ := (hr.2.1).leaf_eq
  obtain ⟨rfl, -⟩ := (hr.2.2.1).leaf_eq
  obtain ⟨rfl, -⟩ := (hr.2.2.2.1).leaf_eq
  have HR := Lib.hid (hr.2.2.2.2.1)
  obtain ⟨sa, sc, hd, -, -⟩ := HR.out.shape
  rw [Tr.markE_length] at hd
  rw [GEvidence.trs_len] at hd
  subst hd
  clear hr
  go_enter Try.func32, Try.ntmps32
  go_wp2_with fail
  refine (heldEvidenceS_all v3 _ _ k _ (by rfl) (HR.out.ext (.alloc (.refl _) _)) (by omega)).mono ?_
  rintro e w1 ⟨rfl, hw1⟩
  have HW1 := Lib.hid (Ext.trans (.alloc (.refl _) _) hw1)
  clear hw1
  have hng : ¬ ((k + Tr.cntE (GEvidence.trs v3) : Nat) : Int) < 0 := by omega
  go_wp2_with fail
  go_ret
  exact ⟨rfl, HW1.out⟩

end Go.Proofs.Ytoifjkggpanceaa
