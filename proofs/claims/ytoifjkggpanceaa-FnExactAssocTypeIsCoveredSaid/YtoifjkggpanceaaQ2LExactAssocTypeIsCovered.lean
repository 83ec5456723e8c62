/- Words, rules and walks of several kinds, laid together: BCache, BExpr, BArm, BMethod, BInstance, BLeaf, BAll, Reg, Pm, Pm2, Pm3, Pm4, Pm5. No conditions but those that each theorem states. -/
import Derived.Test.YtoifjkggpanceaaProg
import Derived.Test.YtoifjkggpanceaaQ1LExactAssocTypeIsCovered
import Derived.BigQuiet
import Derived.Deep.QuietTactic
import Derived.Deep.RegionHeld3
import Derived.Laws.IdiomStrings
import Derived.WalkArith
import Derived.WideShapes4
import Derived.IntWalk
import Derived.Deep.AppendSrc
set_option linter.unusedSimpArgs false
set_option linter.unusedVariables false
namespace Go.Proofs.Ytoifjkggpanceaa
open Go.RowKit Go.Proofs

set_option maxRecDepth 100000 in
set_option maxHeartbeats 1000000 in
theorem szCache_of (es0 : List (List Tr)) (es1 : List (List Tr)) (es2 : List (List Tr)) (h0 : SzSC 132 4 es0) (h1 : SzSC 133 1 es1) (h2 : SzSC 89 5 es2) : SzC 60 ([.row 4 es0] ++ ([.row 1 es1] ++ ([.row 5 es2] ++ ([])))) := by
  intro cs left w hr hl0 hl1
  obtain ⟨b0, r0, rfl, g0, n0⟩ := RepL.split hr
  obtain ⟨y0, rfl⟩ := list1 g0.length.symm
  obtain ⟨a0, c0, rfl, -, -⟩ := g0.1.shape
  obtain ⟨b1, r1, rfl, g1, n1⟩ := RepL.split n0
  obtain ⟨y1, rfl⟩ := list1 g1.length.symm
  obtain ⟨a1, c1, rfl, -, -⟩ := g1.1.shape
  obtain ⟨b2, r2, rfl, g2, n2⟩ := RepL.split n1
  obtain ⟨y2, rfl⟩ := list1 g2.length.symm
  obtain ⟨a2, c2, rfl, -, -⟩ := g2.1.shape
  obtain rfl := RepL.nil_eq n2
  clear hr
  have G0 := Lib.hid g0
  clear g0 n0
  have G1 := Lib.hid g1
  clear g1 n1
  have G2 := Lib.hid g2
  clear g2 n2
  simp only [List.cons_append, List.nil_append]
  go_enter Try.func60, Try.ntmps60
  go_wp2_with fail
  refine (h0 _ _ _ (G0.out.1.ext (.alloc (.refl _) _)) (by omega) (by omega)).mono ?_
  rintro e w0 ⟨r0, rfl, hw0, ra0, rb0, rc0⟩
  have HW0 := Lib.hid hw0
  have HR0 := Lib.hid rc0
  have ob0 := (OB.new w _ _).ext hw0
  have OBH := Lib.hid ob0
  have ce0 := ob0.cell
  clear hw0 rc0 ob0
  go_wp2_with fail
  · go_ret
    exact ⟨-1, rfl, (Ext.trans (.alloc (.refl _) _) HW0.out), by omega, by omega, by omega⟩
  refine (h1 _ _ _ (G1.out.1.ext (Ext.trans (.alloc (.refl _) _) HW0.out)) (by omega) (by omega)).mono ?_
  rintro e w1 ⟨r1, rfl, hw1, ra1, rb1, rc1⟩
  have HW1 := Lib.hid hw1
  have HR1 := Lib.hid rc1
  have ob1 := OBH.out.ext hw1
  clear OBH ce0
  have OBH := Lib.hid ob1
  have ce1 := ob1.cell
  clear hw1 rc1 ob1
  go_wp2_with fail
  · go_ret
    exact ⟨-1, rfl, (Ext.trans (Ext.trans (.alloc (.refl _) _) HW0.out) HW1.out), by omega, by omega, by omega⟩
  refine (h2 _ _ _ (G2.out.1.ext (Ext.trans (Ext.trans (.alloc (.refl _) _) HW0.out) HW1.out)) (by omega) (by omega)).mono ?_
  rintro e w2 ⟨r2, rfl, hw2, ra2, rb2, rc2⟩
  have HW2 := Lib.hid hw2
  have HR2 := Lib.hid rc2
  have ob2 := OBH.out.ext hw2
  clear OBH ce1
  have OBH := Lib.hid ob2
  have ce2 := ob2.cell
  clear hw2 rc2 ob2
  go_wp2_with fail
  · go_ret
    exact ⟨-1, rfl, (Ext.trans (Ext.trans (Ext.trans (.alloc (.refl _) _) HW0.out) HW1.out) HW2.out), by omega, by omega, by omega⟩
  go_ret
  refine ⟨_, rfl, (Ext.trans (Ext.trans (Ext.trans (.alloc (.refl _) _) HW0.out) HW1.out) HW2.out), by omega, by omega, fun hp => ?_⟩
  have e0 := HR0.out (by omega)
  have e1 := HR1.out (by omega)
  have e2 := HR2.out (by omega)
  simp only [Tr.bulkL_append, Tr.bulkL, Tr.bulk]
  simp only [Tr.bulk] at e0 e1 e2
  omega

set_option maxRecDepth 100000 in
set_option maxHeartbeats 1000000 in
theorem toCache_of (es0 : List (List Tr)) (es1 : List (List Tr)) (es2 : List (List Tr)) (h0 : ToSC 134 4 es0) (h1 : ToSC 26 1 es1) (h2 : ToSC 92 5 es2) : ToC 62 ([.row 4 es0] ++ ([.row 1 es1] ++ ([.row 5 es2] ++ ([])))) := by
  intro cs w hr hbk
  simp only [Tr.bulkL_append, Tr.bulkL, Tr.bulk] at hbk
  obtain ⟨b0, r0, rfl, g0, n0⟩ := RepL.split hr
  obtain ⟨y0, rfl⟩ := list1 g0.length.symm
  obtain ⟨a0, c0, rfl, -, -⟩ := g0.1.shape
  obtain ⟨b1, r1, rfl, g1, n1⟩ := RepL.split n0
  obtain ⟨y1, rfl⟩ := list1 g1.length.symm
  obtain ⟨a1, c1, rfl, -, -⟩ := g1.1.shape
  obtain ⟨b2, r2, rfl, g2, n2⟩ := RepL.split n1
  obtain ⟨y2, rfl⟩ := list1 g2.length.symm
  obtain ⟨a2, c2, rfl, -, -⟩ := g2.1.shape
  obtain rfl := RepL.nil_eq n2
  clear hr
  have G0 := Lib.hid g0
  clear g0 n0
  have G1 := Lib.hid g1
  clear g1 n1
  have G2 := Lib.hid g2
  clear g2 n2
  simp only [List.cons_append, List.nil_append]
  go_enter Try.func62, Try.ntmps62
  go_wp2_with fail
  refine (h0 _ _ (G0.out.1.ext (.alloc (.alloc (.alloc (.refl _) _) _) _)) (by omega)).mono ?_
  rintro e w0 ⟨d0, rfl, hw0, ho0⟩
  obtain ⟨da0, dc0, rfl, -, -⟩ := ho0.rep.shape
  have HW0 := Lib.hid hw0
  have HO0 := Lib.hid ho0
  have ob0 := (Three.new w _ _ _ _ _ _).ext hw0
  have OBHw0 := Lib.hid ob0
  have cew0 := ob0.o0.cell
  have hzw0 : w.heap.size < w0.heap.size := ob0.o0.lt
  clear hw0 ob0 ho0
  go_wp2_with (first
    | (refine wpList_store_cell rfl 86 _ _ rfl (w.heap.size + 1 + 1) 0 rfl (.slice da0 es0.length dc0) rfl rfl 104 _ OBHw0.out.o2 isz86 (by simp [splice]) rfl ?_; intro u0 hou0 hgu0 hzu0; have OBHu0 := Lib.hid (OBHw0.out.grown hgu0 hou0 (by omega) (by omega)); have HGu0 := Lib.hid hgu0; have ceu0 := OBHu0.out.o0.cell; have hqu0 : w.heap.size < u0.heap.size := OBHu0.out.o0.lt; clear hou0 hgu0 hzu0 OBHw0 cew0))
  refine (h1 _ _ (G1.out.1.ext (grown_ext (Ext.trans (.alloc (.alloc (.alloc (.refl _) _) _) _) HW0.out) HGu0.out (by omega))) (by omega)).mono ?_
  rintro e w1 ⟨d1, rfl, hw1, ho1⟩
  obtain ⟨da1, dc1, rfl, -, -⟩ := ho1.rep.shape
  have HW1 := Lib.hid hw1
  have HO1 := Lib.hid ho1
  have ob1 := OBHu0.out.ext hw1
  clear OBHu0 ceu0
  have OBHw1 := Lib.hid ob1
  have cew1 := ob1.o0.cell
  have hzw1 : w.heap.size < w1.heap.size := ob1.o0.lt
  clear hw1 ob1 ho1
  go_wp2_with (first
    | (refine wpList_store_cell rfl 45 _ _ rfl (w.heap.size + 1 + 1) 1 rfl (.slice da1 es1.length dc1) rfl rfl 104 _ OBHw1.out.o2 isz45 (by simp [splice]) rfl ?_; intro u1 hou1 hgu1 hzu1; have OBHu1 := Lib.hid (OBHw1.out.grown hgu1 hou1 (by omega) (by omega)); have HGu1 := Lib.hid hgu1; have ceu1 := OBHu1.out.o0.cell; have hqu1 : w.heap.size < u1.heap.size := OBHu1.out.o0.lt; clear hou1 hgu1 hzu1 OBHw1 cew1))
  refine (h2 _ _ (G2.out.1.ext (grown_ext (Ext.trans (grown_ext (Ext.trans (.alloc (.alloc (.alloc (.refl _) _) _) _) HW0.out) HGu0.out (by omega)) HW1.out) HGu1.out (by omega))) (by omega)).mono ?_
  rintro e w2 ⟨d2, rfl, hw2, ho2⟩
  obtain ⟨da2, dc2, rfl, -, -⟩ := ho2.rep.shape
  have HW2 := Lib.hid hw2
  have HO2 := Lib.hid ho2
  have ob2 := OBHu1.out.ext hw2
  clear OBHu1 ceu1
  have OBHw2 := Lib.hid ob2
  have cew2 := ob2.o0.cell
  have hzw2 : w.heap.size < w2.heap.size := ob2.o0.lt
  clear hw2 ob2 ho2
  have hone : Hid (∀ v ∈ ([.slice da0 es0.length dc0, .slice da1 es1.length dc1, .slice da2 es2.length dc2] : List Value), v.oneCell' = true) := by
    intro v hv
    simp only [List.mem_cons, List.not_mem_nil, or_false] at hv
    rcases hv with rfl | rfl | rfl <;> first | rfl
  go_wp2_with (first
    | (refine wpList_store_cell rfl 48 _ _ rfl (w.heap.size + 1 + 1) 2 rfl (.slice da2 es2.length dc2) rfl rfl 104 _ OBHw2.out.o2 isz48 (by simp [splice]) rfl ?_; intro u2 hou2 hgu2 hzu2; have OBHu2 := Lib.hid (OBHw2.out.grown hgu2 hou2 (by omega) (by omega)); have HGu2 := Lib.hid hgu2; have ceu2 := OBHu2.out.o0.cell; have hqu2 : w.heap.size < u2.heap.size := OBHu2.out.o0.lt; clear hou2 hgu2 hzu2 OBHw2 cew2)
    | (refine wpList_load_rep rfl 104 _ rfl (w.heap.size + 1 + 1) 0 rfl [.slice da0 es0.length dc0, .slice da1 es1.length dc1, .slice da2 es2.length dc2] _ Try.underlying104 isz104 (fun j v hv => by rw [OBHu2.out.o2.cell, Nat.zero_add]; simpa [splice] using hv) ?_)
    | (refine wpList_store_rep rfl 104 _ _ rfl (w.heap.size + 1) 0 rfl [.slice da0 es0.length dc0, .slice da1 es1.length dc1, .slice da2 es2.length dc2] rfl 104 _ OBHu2.out.o1 isz104 (by simp) hone.out ?_; intro wz hoz hgz hzz; have HOZ := Lib.hid hoz; have HGZ := Lib.hid hgz; clear hoz hgz hzz))
  have HOF : OB wz (w.heap.size + 1) 104 ⟨[.slice da0 es0.length dc0, .slice da1 es1.length dc1, .slice da2 es2.length dc2]⟩ := HOZ.out
  refine bodyPost_ret (results_cell_row Try.results62 _ _ (w.heap.size + 1) 104 ⟨[.slice da0 es0.length dc0, .slice da1 es1.length dc1, .slice da2 es2.length dc2]⟩ _ _ rfl HOF Try.underlying104 rfl isz104) rfl ⟨[.slice da0 es0.length dc0, .slice da1 es1.length dc1, .slice da2 es2.length dc2], rfl, (grown_ext (grown_ext (Ext.trans (grown_ext (Ext.trans (grown_ext (Ext.trans (.alloc (.alloc (.alloc (.refl _) _) _) _) HW0.out) HGu0.out (by omega)) HW1.out) HGu1.out (by omega)) HW2.out) HGu2.out (by omega)) HGZ.out (by omega)), ?_⟩
  have sw0 := HW0.out.size
  have su0 := HGu0.out.size
  have sw1 := HW1.out.size
  have su1 := HGu1.out.size
  have sw2 := HW2.out.size
  have su2 := HGu2.out.size
  have swz := HGZ.out.size
  simp only [World.size_alloc] at sw0
  have ow0 := HO0.out.keeps (lo := w.heap.size + 1 + 1 + 1) (Keeps.trans (Keeps.of_grown HGu0.out (by omega)) (Keeps.trans (Keeps.of_ext HW1.out) (Keeps.trans (Keeps.of_grown HGu1.out (by omega)) (Keeps.trans (Keeps.of_ext HW2.out) (Keeps.trans (Keeps.of_grown HGu2.out (by omega)) (Keeps.of_grown HGZ.out (by omega))))))) (by intro x hx; simp only [Between, World.size_alloc] at hx; omega)
  have ow1 := HO1.out.keeps (lo := w.heap.size + 1 + 1 + 1) (Keeps.trans (Keeps.of_grown HGu1.out (by omega)) (Keeps.trans (Keeps.of_ext HW2.out) (Keeps.trans (Keeps.of_grown HGu2.out (by omega)) (Keeps.of_grown HGZ.out (by omega))))) (by intro x hx; simp only [Between, World.size_alloc] at hx; omega)
  have ow2 := HO2.out.keeps (lo := w.heap.size + 1 + 1 + 1) (Keeps.trans (Keeps.of_grown HGu2.out (by omega)) (Keeps.of_grown HGZ.out (by omega))) (by intro x hx; simp only [Between, World.size_alloc] at hx; omega)
  have hall := OwnL.append (OwnL.one ow0) (OwnL.append (OwnL.one ow1) (OwnL.append (OwnL.one ow2) (OwnL.nil wz (fun _ => False)) (by intro x hx hy; simp only [Between, World.size_alloc, or_false] at hx hy <;> omega)) (by intro x hx hy; simp only [Between, World.size_alloc, or_false] at hx hy <;> omega)) (by intro x hx hy; simp only [Between, World.size_alloc, or_false] at hx hy <;> omega)
  exact hall.mono (by intro x hx; simp only [Between, World.size_alloc, or_false] at hx ⊢; omega)

set_option maxRecDepth 100000 in
set_option maxHeartbeats 1000000 in
theorem eqCache_of (es0 : List (List Tr)) (es1 : List (List Tr)) (es2 : List (List Tr)) (h0 : EqSC 51 4 es0) (h1 : EqSC 29 1 es1) (h2 : EqSC 95 5 es2) : EqC 64 ([.row 4 es0] ++ ([.row 1 es1] ++ ([.row 5 es2] ++ ([])))) := by
  intro cs ds w hr hr'
  obtain ⟨b0, r0, rfl, g0, n0⟩ := RepL.split hr
  obtain ⟨y0, rfl⟩ := list1 g0.length.symm
  obtain ⟨a0, c0, rfl, -, -⟩ := g0.1.shape
  obtain ⟨b1, r1, rfl, g1, n1⟩ := RepL.split n0
  obtain ⟨y1, rfl⟩ := list1 g1.length.symm
  obtain ⟨a1, c1, rfl, -, -⟩ := g1.1.shape
  obtain ⟨b2, r2, rfl, g2, n2⟩ := RepL.split n1
  obtain ⟨y2, rfl⟩ := list1 g2.length.symm
  obtain ⟨a2, c2, rfl, -, -⟩ := g2.1.shape
  obtain rfl := RepL.nil_eq n2
  clear hr
  obtain ⟨zb0, zr0, rfl, zg0, zn0⟩ := RepL.split hr'
  obtain ⟨zy0, rfl⟩ := list1 zg0.length.symm
  obtain ⟨za0, zc0, rfl, -, -⟩ := zg0.1.shape
  obtain ⟨zb1, zr1, rfl, zg1, zn1⟩ := RepL.split zn0
  obtain ⟨zy1, rfl⟩ := list1 zg1.length.symm
  obtain ⟨za1, zc1, rfl, -, -⟩ := zg1.1.shape
  obtain ⟨zb2, zr2, rfl, zg2, zn2⟩ := RepL.split zn1
  obtain ⟨zy2, rfl⟩ := list1 zg2.length.symm
  obtain ⟨za2, zc2, rfl, -, -⟩ := zg2.1.shape
  obtain rfl := RepL.nil_eq zn2
  clear hr'
  have G0 := Lib.hid g0
  clear g0 n0
  have G1 := Lib.hid g1
  clear g1 n1
  have G2 := Lib.hid g2
  clear g2 n2
  have zG0 := Lib.hid zg0
  clear zg0 zn0
  have zG1 := Lib.hid zg1
  clear zg1 zn1
  have zG2 := Lib.hid zg2
  clear zg2 zn2
  simp only [List.cons_append, List.nil_append]
  go_enter Try.func64, Try.ntmps64
  go_wp2_with fail
  refine (h0 _ _ _ (G0.out.1.ext (.alloc (.alloc (.refl _) _) _)) (zG0.out.1.ext (.alloc (.alloc (.refl _) _) _))).mono ?_
  rintro e w0 ⟨rfl, hw0⟩
  have HW0 := Lib.hid hw0
  have ob0 := (Two.new w _ _ _ _).ext hw0
  have OBH := Lib.hid ob0
  have ce0 := ob0.o0.cell
  have cf0 := ob0.o1.cell
  clear hw0 ob0
  go_wp2_with fail
  refine (h1 _ _ _ (G1.out.1.ext (Ext.trans (.alloc (.alloc (.refl _) _) _) HW0.out)) (zG1.out.1.ext (Ext.trans (.alloc (.alloc (.refl _) _) _) HW0.out))).mono ?_
  rintro e w1 ⟨rfl, hw1⟩
  have HW1 := Lib.hid hw1
  have ob1 := OBH.out.ext hw1
  clear OBH ce0 cf0
  have OBH := Lib.hid ob1
  have ce1 := ob1.o0.cell
  have cf1 := ob1.o1.cell
  clear hw1 ob1
  go_wp2_with fail
  refine (h2 _ _ _ (G2.out.1.ext (Ext.trans (Ext.trans (.alloc (.alloc (.refl _) _) _) HW0.out) HW1.out)) (zG2.out.1.ext (Ext.trans (Ext.trans (.alloc (.alloc (.refl _) _) _) HW0.out) HW1.out))).mono ?_
  rintro e w2 ⟨rfl, hw2⟩
  have HW2 := Lib.hid hw2
  have ob2 := OBH.out.ext hw2
  clear OBH ce1 cf1
  have OBH := Lib.hid ob2
  have ce2 := ob2.o0.cell
  have cf2 := ob2.o1.cell
  clear hw2 ob2
  go_wp2_with fail
  go_ret
  exact ⟨rfl, (Ext.trans (Ext.trans (Ext.trans (.alloc (.alloc (.refl _) _) _) HW0.out) HW1.out) HW2.out)⟩

end Go.Proofs.Ytoifjkggpanceaa

namespace Go.Proofs.Ytoifjkggpanceaa
open Go.RowKit Go.Proofs

set_option maxRecDepth 100000 in
set_option maxHeartbeats 1000000 in
theorem szExpr_of (v0 : Int) (v1 : ByteArray) (v2 : ByteArray) (v3 : Int) (ts4 : List Tr) (l4 : ts4.length = 3) (es5 : List (List Tr)) (es6 : List (List Tr)) (h4 : SzC 16 ts4) (h5 : SzSC 246 9 es5) (h6 : SzSC 247 11 es6) : SzC 227 ([.leaf (.int .i64 v0)] ++ ([.leaf (.string v1)] ++ ([.leaf (.string v2)] ++ ([.leaf (.int .i64 v3)] ++ (ts4 ++ ([.row 9 es5] ++ ([.row 11 es6] ++ ([])))))))) := by
  intro cs left w hr hl0 hl1
  obtain ⟨b0, r0, rfl, g0, n0⟩ := RepL.split hr
  obtain ⟨y0, rfl⟩ := list1 g0.length.symm
  obtain ⟨rfl, k0⟩ := g0.1.leaf_eq
  obtain ⟨b1, r1, rfl, g1, n1⟩ := RepL.split n0
  obtain ⟨y1, rfl⟩ := list1 g1.length.symm
  obtain ⟨rfl, k1⟩ := g1.1.leaf_eq
  obtain ⟨b2, r2, rfl, g2, n2⟩ := RepL.split n1
  obtain ⟨y2, rfl⟩ := list1 g2.length.symm
  obtain ⟨rfl, k2⟩ := g2.1.leaf_eq
  obtain ⟨b3, r3, rfl, g3, n3⟩ := RepL.split n2
  obtain ⟨y3, rfl⟩ := list1 g3.length.symm
  obtain ⟨rfl, k3⟩ := g3.1.leaf_eq
  obtain ⟨b4, r4, rfl, g4, n4⟩ := RepL.split n3
  obtain ⟨x4_0, x4_1, x4_2, rfl⟩ := list3 (g4.length.symm.trans l4)
  obtain ⟨b5, r5, rfl, g5, n5⟩ := RepL.split n4
  obtain ⟨y5, rfl⟩ := list1 g5.length.symm
  obtain ⟨a5, c5, rfl, -, -⟩ := g5.1.shape
  obtain ⟨b6, r6, rfl, g6, n6⟩ := RepL.split n5
  obtain ⟨y6, rfl⟩ := list1 g6.length.symm
  obtain ⟨a6, c6, rfl, -, -⟩ := g6.1.shape
  obtain rfl := RepL.nil_eq n6
  clear hr
  have q1 : v1.size ≤ 9223372036854775807 := by have := k1; simp only [LeafOk, maxLen] at this; omega
  have q2 : v2.size ≤ 9223372036854775807 := by have := k2; simp only [LeafOk, maxLen] at this; omega
  have G0 := Lib.hid g0
  have K0 := Lib.hid k0
  clear g0 n0 k0
  have G1 := Lib.hid g1
  have K1 := Lib.hid k1
  clear g1 n1 k1
  have G2 := Lib.hid g2
  have K2 := Lib.hid k2
  clear g2 n2 k2
  have G3 := Lib.hid g3
  have K3 := Lib.hid k3
  clear g3 n3 k3
  have G4 := Lib.hid g4
  clear g4 n4
  have G5 := Lib.hid g5
  clear g5 n5
  have G6 := Lib.hid g6
  clear g6 n6
  simp only [List.cons_append, List.nil_append]
  go_enter Try.func227, Try.ntmps227
  go_wp2_with fail
  · go_ret
    exact ⟨-1, rfl, (.alloc (.refl _) _), by omega, by omega, by omega⟩
  · go_ret
    exact ⟨-1, rfl, (.alloc (.refl _) _), by omega, by omega, by omega⟩
  refine (h4 _ _ _ (G4.out.ext (.alloc (.refl _) _)) (by omega) (by omega)).mono ?_
  rintro e w4 ⟨r4, rfl, hw4, ra4, rb4, rc4⟩
  have HW4 := Lib.hid hw4
  have HR4 := Lib.hid rc4
  have ob4 := (OB.new w _ _).ext hw4
  have OBH := Lib.hid ob4
  have ce4 := ob4.cell
  clear hw4 rc4 ob4
  go_wp2_with fail
  · go_ret
    exact ⟨-1, rfl, (Ext.trans (.alloc (.refl _) _) HW4.out), by omega, by omega, by omega⟩
  refine (h5 _ _ _ (G5.out.1.ext (Ext.trans (.alloc (.refl _) _) HW4.out)) (by omega) (by omega)).mono ?_
  rintro e w5 ⟨r5, rfl, hw5, ra5, rb5, rc5⟩
  have HW5 := Lib.hid hw5
  have HR5 := Lib.hid rc5
  have ob5 := OBH.out.ext hw5
  clear OBH ce4
  have OBH := Lib.hid ob5
  have ce5 := ob5.cell
  clear hw5 rc5 ob5
  go_wp2_with fail
  · go_ret
    exact ⟨-1, rfl, (Ext.trans (Ext.trans (.alloc (.refl _) _) HW4.out) HW5.out), by omega, by omega, by omega⟩
  refine (h6 _ _ _ (G6.out.1.ext (Ext.trans (Ext.trans (.alloc (.refl _) _) HW4.out) HW5.out)) (by omega) (by omega)).mono ?_
  rintro e w6 ⟨r6, rfl, hw6, ra6, rb6, rc6⟩
  have HW6 := Lib.hid hw6
  have HR6 := Lib.hid rc6
  have ob6 := OBH.out.ext hw6
  clear OBH ce5
  have OBH := Lib.hid ob6
  have ce6 := ob6.cell
  clear hw6 rc6 ob6
  go_wp2_with fail
  · go_ret
    exact ⟨-1, rfl, (Ext.trans (Ext.trans (Ext.trans (.alloc (.refl _) _) HW4.out) HW5.out) HW6.out), by omega, by omega, by omega⟩
  go_ret
  refine ⟨_, rfl, (Ext.trans (Ext.trans (Ext.trans (.alloc (.refl _) _) HW4.out) HW5.out) HW6.out), by omega, by omega, fun hp => ?_⟩
  have e4 := HR4.out (by omega)
  have e5 := HR5.out (by omega)
  have e6 := HR6.out (by omega)
  simp only [Tr.bulkL_append, Tr.bulkL, Tr.bulk]
  simp only [Tr.bulk] at e5 e6
  omega

set_option maxRecDepth 100000 in
set_option maxHeartbeats 1000000 in
theorem toExpr_of (v0 : Int) (v1 : ByteArray) (v2 : ByteArray) (v3 : Int) (ts4 : List Tr) (l4 : ts4.length = 3) (es5 : List (List Tr)) (es6 : List (List Tr)) (h4 : ToC 19 ts4) (h5 : ToSC 248 9 es5) (h6 : ToSC 249 11 es6) : ToC 228 ([.leaf (.int .i64 v0)] ++ ([.leaf (.string v1)] ++ ([.leaf (.string v2)] ++ ([.leaf (.int .i64 v3)] ++ (ts4 ++ ([.row 9 es5] ++ ([.row 11 es6] ++ ([])))))))) := by
  intro cs w hr hbk
  simp only [Tr.bulkL_append, Tr.bulkL, Tr.bulk] at hbk
  obtain ⟨b0, r0, rfl, g0, n0⟩ := RepL.split hr
  obtain ⟨y0, rfl⟩ := list1 g0.length.symm
  obtain ⟨rfl, k0⟩ := g0.1.leaf_eq
  obtain ⟨b1, r1, rfl, g1, n1⟩ := RepL.split n0
  obtain ⟨y1, rfl⟩ := list1 g1.length.symm
  obtain ⟨rfl, k1⟩ := g1.1.leaf_eq
  obtain ⟨b2, r2, rfl, g2, n2⟩ := RepL.split n1
  obtain ⟨y2, rfl⟩ := list1 g2.length.symm
  obtain ⟨rfl, k2⟩ := g2.1.leaf_eq
  obtain ⟨b3, r3, rfl, g3, n3⟩ := RepL.split n2
  obtain ⟨y3, rfl⟩ := list1 g3.length.symm
  obtain ⟨rfl, k3⟩ := g3.1.leaf_eq
  obtain ⟨b4, r4, rfl, g4, n4⟩ := RepL.split n3
  obtain ⟨x4_0, x4_1, x4_2, rfl⟩ := list3 (g4.length.symm.trans l4)
  obtain ⟨b5, r5, rfl, g5, n5⟩ := RepL.split n4
  obtain ⟨y5, rfl⟩ := list1 g5.length.symm
  obtain ⟨a5, c5, rfl, -, -⟩ := g5.1.shape
  obtain ⟨b6, r6, rfl, g6, n6⟩ := RepL.split n5
  obtain ⟨y6, rfl⟩ := list1 g6.length.symm
  obtain ⟨a6, c6, rfl, -, -⟩ := g6.1.shape
  obtain rfl := RepL.nil_eq n6
  clear hr
  have G0 := Lib.hid g0
  have K0 := Lib.hid k0
  clear g0 n0 k0
  have G1 := Lib.hid g1
  have K1 := Lib.hid k1
  clear g1 n1 k1
  have G2 := Lib.hid g2
  have K2 := Lib.hid k2
  clear g2 n2 k2
  have G3 := Lib.hid g3
  have K3 := Lib.hid k3
  clear g3 n3 k3
  have G4 := Lib.hid g4
  clear g4 n4
  have G5 := Lib.hid g5
  clear g5 n5
  have G6 := Lib.hid g6
  clear g6 n6
  simp only [List.cons_append, List.nil_append]
  go_enter Try.func228, Try.ntmps228
  go_wp2_with fail
  refine (h4 _ _ (G4.out.ext (.alloc (.alloc (.alloc (.refl _) _) _) _)) (by omega)).mono ?_
  rintro e w4 ⟨d4, rfl, hw4, ho4⟩
  obtain ⟨d4_0, d4_1, d4_2, rfl⟩ := list3 (ho4.1.trans l4)
  have HW4 := Lib.hid hw4
  have HO4 := Lib.hid ho4
  have ob4 := (Three.new w _ _ _ _ _ _).ext hw4
  have OBHw4 := Lib.hid ob4
  have cew4 := ob4.o0.cell
  have hzw4 : w.heap.size < w4.heap.size := ob4.o0.lt
  clear hw4 ob4 ho4
  go_wp2_with (first
    | (refine wpList_store_rep rfl 32 _ _ rfl (w.heap.size + 1 + 1) 4 rfl [d4_0, d4_1, d4_2] rfl 212 _ OBHw4.out.o2 isz32 (by simp [splice]) HO4.out.rep.one ?_; intro u4 hou4 hgu4 hzu4; have OBHu4 := Lib.hid (OBHw4.out.grown hgu4 hou4 (by omega) (by omega)); have HGu4 := Lib.hid hgu4; have ceu4 := OBHu4.out.o0.cell; have hqu4 : w.heap.size < u4.heap.size := OBHu4.out.o0.lt; clear hou4 hgu4 hzu4 OBHw4 cew4))
  refine (h5 _ _ (G5.out.1.ext (grown_ext (Ext.trans (.alloc (.alloc (.alloc (.refl _) _) _) _) HW4.out) HGu4.out (by omega))) (by omega)).mono ?_
  rintro e w5 ⟨d5, rfl, hw5, ho5⟩
  obtain ⟨da5, dc5, rfl, -, -⟩ := ho5.rep.shape
  have HW5 := Lib.hid hw5
  have HO5 := Lib.hid ho5
  have ob5 := OBHu4.out.ext hw5
  clear OBHu4 ceu4
  have OBHw5 := Lib.hid ob5
  have cew5 := ob5.o0.cell
  have hzw5 : w.heap.size < w5.heap.size := ob5.o0.lt
  clear hw5 ob5 ho5
  go_wp2_with (first
    | (refine wpList_store_cell rfl 209 _ _ rfl (w.heap.size + 1 + 1) 7 rfl (.slice da5 es5.length dc5) rfl rfl 212 _ OBHw5.out.o2 isz209 (by simp [splice]) rfl ?_; intro u5 hou5 hgu5 hzu5; have OBHu5 := Lib.hid (OBHw5.out.grown hgu5 hou5 (by omega) (by omega)); have HGu5 := Lib.hid hgu5; have ceu5 := OBHu5.out.o0.cell; have hqu5 : w.heap.size < u5.heap.size := OBHu5.out.o0.lt; clear hou5 hgu5 hzu5 OBHw5 cew5))
  refine (h6 _ _ (G6.out.1.ext (grown_ext (Ext.trans (grown_ext (Ext.trans (.alloc (.alloc (.alloc (.refl _) _) _) _) HW4.out) HGu4.out (by omega)) HW5.out) HGu5.out (by omega))) (by omega)).mono ?_
  rintro e w6 ⟨d6, rfl, hw6, ho6⟩
  obtain ⟨da6, dc6, rfl, -, -⟩ := ho6.rep.shape
  have HW6 := Lib.hid hw6
  have HO6 := Lib.hid ho6
  have ob6 := OBHu5.out.ext hw6
  clear OBHu5 ceu5
  have OBHw6 := Lib.hid ob6
  have cew6 := ob6.o0.cell
  have hzw6 : w.heap.size < w6.heap.size := ob6.o0.lt
  clear hw6 ob6 ho6
  have hone : Hid (∀ v ∈ ([.int .i64 v0, .string v1, .string v2, .int .i64 v3, d4_0, d4_1, d4_2, .slice da5 es5.length dc5, .slice da6 es6.length dc6] : List Value), v.oneCell' = true) := by
    intro v hv
    simp only [List.mem_cons, List.not_mem_nil, or_false] at hv
    rcases hv with rfl | rfl | rfl | rfl | rfl | rfl | rfl | rfl | rfl <;> first | rfl | (refine HO4.out.rep.one _ ?_; simp; done)
  go_wp2_with (first
    | (refine wpList_store_cell rfl 210 _ _ rfl (w.heap.size + 1 + 1) 8 rfl (.slice da6 es6.length dc6) rfl rfl 212 _ OBHw6.out.o2 isz210 (by simp [splice]) rfl ?_; intro u6 hou6 hgu6 hzu6; have OBHu6 := Lib.hid (OBHw6.out.grown hgu6 hou6 (by omega) (by omega)); have HGu6 := Lib.hid hgu6; have ceu6 := OBHu6.out.o0.cell; have hqu6 : w.heap.size < u6.heap.size := OBHu6.out.o0.lt; clear hou6 hgu6 hzu6 OBHw6 cew6)
    | (refine wpList_load_rep rfl 212 _ rfl (w.heap.size + 1 + 1) 0 rfl [.int .i64 v0, .string v1, .string v2, .int .i64 v3, d4_0, d4_1, d4_2, .slice da5 es5.length dc5, .slice da6 es6.length dc6] _ Try.underlying212 isz212 (fun j v hv => by rw [OBHu6.out.o2.cell, Nat.zero_add]; simpa [splice] using hv) ?_)
    | (refine wpList_store_rep rfl 212 _ _ rfl (w.heap.size + 1) 0 rfl [.int .i64 v0, .string v1, .string v2, .int .i64 v3, d4_0, d4_1, d4_2, .slice da5 es5.length dc5, .slice da6 es6.length dc6] rfl 212 _ OBHu6.out.o1 isz212 (by simp) hone.out ?_; intro wz hoz hgz hzz; have HOZ := Lib.hid hoz; have HGZ := Lib.hid hgz; clear hoz hgz hzz))
  have HOF : OB wz (w.heap.size + 1) 212 ⟨[.int .i64 v0, .string v1, .string v2, .int .i64 v3, d4_0, d4_1, d4_2, .slice da5 es5.length dc5, .slice da6 es6.length dc6]⟩ := HOZ.out
  refine bodyPost_ret (results_cell_row Try.results228 _ _ (w.heap.size + 1) 212 ⟨[.int .i64 v0, .string v1, .string v2, .int .i64 v3, d4_0, d4_1, d4_2, .slice da5 es5.length dc5, .slice da6 es6.length dc6]⟩ _ _ rfl HOF Try.underlying212 rfl isz212) rfl ⟨[.int .i64 v0, .string v1, .string v2, .int .i64 v3, d4_0, d4_1, d4_2, .slice da5 es5.length dc5, .slice da6 es6.length dc6], rfl, (grown_ext (grown_ext (Ext.trans (grown_ext (Ext.trans (grown_ext (Ext.trans (.alloc (.alloc (.alloc (.refl _) _) _) _) HW4.out) HGu4.out (by omega)) HW5.out) HGu5.out (by omega)) HW6.out) HGu6.out (by omega)) HGZ.out (by omega)), ?_⟩
  have sw4 := HW4.out.size
  have su4 := HGu4.out.size
  have sw5 := HW5.out.size
  have su5 := HGu5.out.size
  have sw6 := HW6.out.size
  have su6 := HGu6.out.size
  have swz := HGZ.out.size
  simp only [World.size_alloc] at sw4
  have ow4 := HO4.out.keeps (lo := w.heap.size + 1 + 1 + 1) (Keeps.trans (Keeps.of_grown HGu4.out (by omega)) (Keeps.trans (Keeps.of_ext HW5.out) (Keeps.trans (Keeps.of_grown HGu5.out (by omega)) (Keeps.trans (Keeps.of_ext HW6.out) (Keeps.trans (Keeps.of_grown HGu6.out (by omega)) (Keeps.of_grown HGZ.out (by omega))))))) (by intro x hx; simp only [Between, World.size_alloc] at hx; omega)
  have ow5 := HO5.out.keeps (lo := w.heap.size + 1 + 1 + 1) (Keeps.trans (Keeps.of_grown HGu5.out (by omega)) (Keeps.trans (Keeps.of_ext HW6.out) (Keeps.trans (Keeps.of_grown HGu6.out (by omega)) (Keeps.of_grown HGZ.out (by omega))))) (by intro x hx; simp only [Between, World.size_alloc] at hx; omega)
  have ow6 := HO6.out.keeps (lo := w.heap.size + 1 + 1 + 1) (Keeps.trans (Keeps.of_grown HGu6.out (by omega)) (Keeps.of_grown HGZ.out (by omega))) (by intro x hx; simp only [Between, World.size_alloc] at hx; omega)
  have hall := OwnL.cons_leaf K0.out (OwnL.cons_leaf K1.out (OwnL.cons_leaf K2.out (OwnL.cons_leaf K3.out (OwnL.append (ow4) (OwnL.append (OwnL.one ow5) (OwnL.append (OwnL.one ow6) (OwnL.nil wz (fun _ => False)) (by intro x hx hy; simp only [Between, World.size_alloc, or_false] at hx hy <;> omega)) (by intro x hx hy; simp only [Between, World.size_alloc, or_false] at hx hy <;> omega)) (by intro x hx hy; simp only [Between, World.size_alloc, or_false] at hx hy <;> omega)))))
  exact hall.mono (by intro x hx; simp only [Between, World.size_alloc, or_false] at hx ⊢; omega)

set_option maxRecDepth 100000 in
set_option maxHeartbeats 1000000 in
theorem eqExpr_of (v0 : Int) (v1 : ByteArray) (v2 : ByteArray) (v3 : Int) (ts4 : List Tr) (l4 : ts4.length = 3) (es5 : List (List Tr)) (es6 : List (List Tr)) (h4 : EqC 22 ts4) (h5 : EqSC 250 9 es5) (h6 : EqSC 251 11 es6) : EqC 229 ([.leaf (.int .i64 v0)] ++ ([.leaf (.string v1)] ++ ([.leaf (.string v2)] ++ ([.leaf (.int .i64 v3)] ++ (ts4 ++ ([.row 9 es5] ++ ([.row 11 es6] ++ ([])))))))) := by
  intro cs ds w hr hr'
  obtain ⟨b0, r0, rfl, g0, n0⟩ := RepL.split hr
  obtain ⟨y0, rfl⟩ := list1 g0.length.symm
  obtain ⟨rfl, k0⟩ := g0.1.leaf_eq
  obtain ⟨b1, r1, rfl, g1, n1⟩ := RepL.split n0
  obtain ⟨y1, rfl⟩ := list1 g1.length.symm
  obtain ⟨rfl, k1⟩ := g1.1.leaf_eq
  obtain ⟨b2, r2, rfl, g2, n2⟩ := RepL.split n1
  obtain ⟨y2, rfl⟩ := list1 g2.length.symm
  obtain ⟨rfl, k2⟩ := g2.1.leaf_eq
  obtain ⟨b3, r3, rfl, g3, n3⟩ := RepL.split n2
  obtain ⟨y3, rfl⟩ := list1 g3.length.symm
  obtain ⟨rfl, k3⟩ := g3.1.leaf_eq
  obtain ⟨b4, r4, rfl, g4, n4⟩ := RepL.split n3
  obtain ⟨x4_0, x4_1, x4_2, rfl⟩ := list3 (g4.length.symm.trans l4)
  obtain ⟨b5, r5, rfl, g5, n5⟩ := RepL.split n4
  obtain ⟨y5, rfl⟩ := list1 g5.length.symm
  obtain ⟨a5, c5, rfl, -, -⟩ := g5.1.shape
  obtain ⟨b6, r6, rfl, g6, n6⟩ := RepL.split n5
  obtain ⟨y6, rfl⟩ := list1 g6.length.symm
  obtain ⟨a6, c6, rfl, -, -⟩ := g6.1.shape
  obtain rfl := RepL.nil_eq n6
  clear hr
  obtain ⟨zb0, zr0, rfl, zg0, zn0⟩ := RepL.split hr'
  obtain ⟨zy0, rfl⟩ := list1 zg0.length.symm
  obtain ⟨rfl, zk0⟩ := zg0.1.leaf_eq
  obtain ⟨zb1, zr1, rfl, zg1, zn1⟩ := RepL.split zn0
  obtain ⟨zy1, rfl⟩ := list1 zg1.length.symm
  obtain ⟨rfl, zk1⟩ := zg1.1.leaf_eq
  obtain ⟨zb2, zr2, rfl, zg2, zn2⟩ := RepL.split zn1
  obtain ⟨zy2, rfl⟩ := list1 zg2.length.symm
  obtain ⟨rfl, zk2⟩ := zg2.1.leaf_eq
  obtain ⟨zb3, zr3, rfl, zg3, zn3⟩ := RepL.split zn2
  obtain ⟨zy3, rfl⟩ := list1 zg3.length.symm
  obtain ⟨rfl, zk3⟩ := zg3.1.leaf_eq
  obtain ⟨zb4, zr4, rfl, zg4, zn4⟩ := RepL.split zn3
  obtain ⟨zx4_0, zx4_1, zx4_2, rfl⟩ := list3 (zg4.length.symm.trans l4)
  obtain ⟨zb5, zr5, rfl, zg5, zn5⟩ := RepL.split zn4
  obtain ⟨zy5, rfl⟩ := list1 zg5.length.symm
  obtain ⟨za5, zc5, rfl, -, -⟩ := zg5.1.shape
  obtain ⟨zb6, zr6, rfl, zg6, zn6⟩ := RepL.split zn5
  obtain ⟨zy6, rfl⟩ := list1 zg6.length.symm
  obtain ⟨za6, zc6, rfl, -, -⟩ := zg6.1.shape
  obtain rfl := RepL.nil_eq zn6
  clear hr'
  have G0 := Lib.hid g0
  have K0 := Lib.hid k0
  clear g0 n0 k0
  have G1 := Lib.hid g1
  have K1 := Lib.hid k1
  clear g1 n1 k1
  have G2 := Lib.hid g2
  have K2 := Lib.hid k2
  clear g2 n2 k2
  have G3 := Lib.hid g3
  have K3 := Lib.hid k3
  clear g3 n3 k3
  have G4 := Lib.hid g4
  clear g4 n4
  have G5 := Lib.hid g5
  clear g5 n5
  have G6 := Lib.hid g6
  clear g6 n6
  have zG0 := Lib.hid zg0
  have zK0 := Lib.hid zk0
  clear zg0 zn0 zk0
  have zG1 := Lib.hid zg1
  have zK1 := Lib.hid zk1
  clear zg1 zn1 zk1
  have zG2 := Lib.hid zg2
  have zK2 := Lib.hid zk2
  clear zg2 zn2 zk2
  have zG3 := Lib.hid zg3
  have zK3 := Lib.hid zk3
  clear zg3 zn3 zk3
  have zG4 := Lib.hid zg4
  clear zg4 zn4
  have zG5 := Lib.hid zg5
  clear zg5 zn5
  have zG6 := Lib.hid zg6
  clear zg6 zn6
  simp only [List.cons_append, List.nil_append]
  go_enter Try.func229, Try.ntmps229
  go_wp2_with fail
  refine (h4 _ _ _ (G4.out.ext (.alloc (.alloc (.refl _) _) _)) (zG4.out.ext (.alloc (.alloc (.refl _) _) _))).mono ?_
  rintro e w4 ⟨rfl, hw4⟩
  have HW4 := Lib.hid hw4
  have ob4 := (Two.new w _ _ _ _).ext hw4
  have OBH := Lib.hid ob4
  have ce4 := ob4.o0.cell
  have cf4 := ob4.o1.cell
  clear hw4 ob4
  go_wp2_with fail
  refine (h5 _ _ _ (G5.out.1.ext (Ext.trans (.alloc (.alloc (.refl _) _) _) HW4.out)) (zG5.out.1.ext (Ext.trans (.alloc (.alloc (.refl _) _) _) HW4.out))).mono ?_
  rintro e w5 ⟨rfl, hw5⟩
  have HW5 := Lib.hid hw5
  have ob5 := OBH.out.ext hw5
  clear OBH ce4 cf4
  have OBH := Lib.hid ob5
  have ce5 := ob5.o0.cell
  have cf5 := ob5.o1.cell
  clear hw5 ob5
  go_wp2_with fail
  refine (h6 _ _ _ (G6.out.1.ext (Ext.trans (Ext.trans (.alloc (.alloc (.refl _) _) _) HW4.out) HW5.out)) (zG6.out.1.ext (Ext.trans (Ext.trans (.alloc (.alloc (.refl _) _) _) HW4.out) HW5.out))).mono ?_
  rintro e w6 ⟨rfl, hw6⟩
  have HW6 := Lib.hid hw6
  have ob6 := OBH.out.ext hw6
  clear OBH ce5 cf5
  have OBH := Lib.hid ob6
  have ce6 := ob6.o0.cell
  have cf6 := ob6.o1.cell
  clear hw6 ob6
  go_wp2_with fail
  go_ret
  exact ⟨rfl, (Ext.trans (Ext.trans (Ext.trans (.alloc (.alloc (.refl _) _) _) HW4.out) HW5.out) HW6.out)⟩

set_option maxRecDepth 100000 in
set_option maxHeartbeats 1000000 in
theorem szExprS_of (es : List (List Tr)) (h5 : ∀ e ∈ es, e.length = 9) (H : ∀ e ∈ es, SzC 227 e) : SzSC 246 9 es := by
  intro s left w hs h0 h1
  obtain ⟨a, cap, rfl, hl, hm⟩ := hs.shape
  unfold maxLen at hm
  have HS := Lib.hid hs
  have HH := Lib.hid H
  have H5 := Lib.hid h5
  clear hs H h5
  go_enter Try.func246, Try.ntmps246
  go_wp2_with fail
  · go_ret
    exact ⟨-1, rfl, .refl _, by omega, by omega, by omega⟩
  go_loopw [1, 5] (fun l i wr => ∃ (k : Nat) (r : Int), k ≤ es.length ∧ i = .int .i64 k ∧ l = .int .i64 r ∧ Ext w wr ∧ 0 ≤ r ∧ r + es.length + Tr.bulkAll (es.take k) ≤ left) (fun _ i _ => es.length - (intOf i).toNat)
  case atStart => exact ⟨0, _, Nat.zero_le _, rfl, rfl, .refl _, by omega, by simp [Tr.bulkAll]⟩
  case round =>
    obtain ⟨k, r, hk, rfl, rfl, hw, hr0, hrb⟩ := hrel
    by_cases hlt : k < es.length
    · obtain ⟨b, off, cs, rfl, hb, hcs, hc⟩ := (HS.out.ext hw).at2 (k := k) (List.getElem?_eq_getElem hlt)
      have hmem : es[k] ∈ es := List.getElem_mem hlt
      have l5 := H5.out _ hmem
      have hbt := Lib.hid (Tr.bulkAll_take es k hlt)
      have HCS := Lib.hid hcs
      have HC := Lib.hid hc
      have HM := Lib.hid hmem
      have HI : Hid ((Try.prog.info? 238).map (·.size) = some cs.length) := by rw [← hcs.length, l5]; exact isz238
      clear hcs hc hmem l5
      go_wp2_with (refine wpList_load_rep rfl 238 _ rfl b (off + k * 9) rfl cs _ Try.underlying238 HI.out HC.out ?_)
      refine (HH.out _ HM.out _ _ _ HCS.out hr0 (by omega)).mono ?_
      rintro e w1 ⟨r1, rfl, hw1, hr1, hr2, hr3⟩
      have HR3 := Lib.hid hr3
      have HW1 := Lib.hid hw1
      clear hr3 hw1
      go_wp2_with fail
      · go_ret
        exact ⟨-1, rfl, hw.trans HW1.out, by omega, by omega, by omega⟩
      · go_roundw
        case rel =>
          have p0 : 0 ≤ r1 := by assumption
          have e1 := HR3.out p0
          have e2 := hbt.out
          exact ⟨k + 1, r1, by omega, by go_num, rfl, hw.trans HW1.out, p0, by omega⟩
        case measure => simp [intOf]; omega
    · have hkl : k = es.length := by omega
      go_wp2_with fail
      go_ret
      refine ⟨r, rfl, hw, by omega, by omega, fun _ => ?_⟩
      rw [hkl, List.take_length] at hrb
      simp only [Tr.bulk]
      omega

set_option maxRecDepth 100000 in
set_option maxHeartbeats 1000000 in
theorem toExprS_of (es : List (List Tr)) (h5 : ∀ e ∈ es, e.length = 9) (H : ∀ e ∈ es, ToC 228 e) : ToSC 248 9 es := by
  intro s w hs hbk
  obtain ⟨a, cap, rfl, hl, hm⟩ := hs.shape
  unfold maxLen at hm
  have HS := Lib.hid hs
  have HH := Lib.hid H
  have H5 := Lib.hid h5
  have n0 : (0 : Int) ≤ es.length := by omega
  clear hs H h5
  go_enter Try.func248, Try.ntmps248
  go_wp2_with (refine wpList_make_rep rfl 209 (.tmp 6) rfl es.length rfl 212 Try.underlying209 9 144 iszb212 (by omega) (by omega) ?_; intro wm arr0 ha0 hob0 hx0 hz0; have HA0 := Lib.hid ha0; have HOB0 := Lib.hid hob0; have HX0 := Lib.hid hx0; have HZ0 := Lib.hid hz0; clear ha0 hob0 hx0 hz0)
  go_loopw [4] (fun i wr => ∃ (k : Nat) (arr : Array Value), k ≤ es.length ∧ i = .int .i64 k ∧ Ext w wr ∧ w.heap.size < wr.heap.size ∧ OB wr w.heap.size 212 arr ∧ arr.size = es.length * 9 ∧ Part wr w.heap.size arr 9 es k) (fun i _ => es.length - (intOf i).toNat)
  case atStart => exact ⟨0, arr0, Nat.zero_le _, rfl, HX0.out, by rw [HZ0.out]; omega, HOB0.out, HA0.out, Part.zero _ _ _ _ _⟩
  case round =>
    obtain ⟨k, arr, hk, rfl, hw, hgt, hob, hasz, hpart⟩ := hrel
    have HOB := Lib.hid hob
    have HAS := Lib.hid hasz
    have HP := Lib.hid hpart
    clear hob hasz hpart
    by_cases hlt : k < es.length
    · obtain ⟨b, off, cs, rfl, hb, hcs, hc⟩ := (HS.out.ext hw).at2 (k := k) (List.getElem?_eq_getElem hlt)
      have hmem : es[k] ∈ es := List.getElem_mem hlt
      have l5 := H5.out _ hmem
      have hbe := Tr.bulkAll_le hlt
      have HCS := Lib.hid hcs
      have HC := Lib.hid hc
      have HM := Lib.hid hmem
      have HL5 := Lib.hid l5
      have HI : Hid ((Try.prog.info? 238).map (·.size) = some cs.length) := by rw [← hcs.length, l5]; exact isz238
      clear hcs hc hmem l5
      go_wp2_with (refine wpList_load_rep rfl 238 (.tmp 18) rfl b (off + k * 9) rfl cs _ Try.underlying238 HI.out HC.out ?_)
      refine (HH.out _ HM.out _ _ HCS.out (by omega)).mono ?_
      rintro e w1 ⟨cs1, rfl, hw1, ho1⟩
      have HW1 := Lib.hid hw1
      have HO1 := Lib.hid ho1
      have hcl : cs1.length = 9 := ho1.1.trans HL5.out
      have HCL := Lib.hid hcl
      have hfit : 0 + k * 9 + cs1.length ≤ arr.size := by have := HAS.out; omega
      have HF := Lib.hid hfit
      clear hw1 ho1 hcl hfit
      go_wp2_with (refine wpList_store_rep rfl 212 (.tmp 21) (.tmp 20) rfl w.heap.size (k * 9) rfl cs1 rfl 212 arr (HOB.out.ext HW1.out) (by rw [HCL.out]; exact isz212) (by have := HF.out; omega) (HO1.out.rep.one) ?_; intro w2 hob2 hg2 hz2; have HOB2 := Lib.hid hob2; have HG2 := Lib.hid hg2; have HZ2 := Lib.hid hz2; clear hob2 hg2 hz2)
      go_roundw
      case rel =>
        have hfit : k * 9 + cs1.length ≤ arr.size := by have := HF.out; omega
        refine ⟨k + 1, _, by omega, by go_num, ?_, ?_, HOB2.out, by rw [splice_size hfit]; exact HAS.out, HP.out.step hgt HW1.out (List.getElem?_eq_getElem hlt) HO1.out HCL.out HAS.out HG2.out HOB2.out⟩
        · exact grown_ext (hw.trans HW1.out) HG2.out (Nat.le_refl _)
        · have := HW1.out.size
          have := HZ2.out
          omega
      case measure => simp [intOf]; omega
    · have hkl : k = es.length := by omega
      go_wp2_with fail
      go_ret
      subst hkl
      exact ⟨_, rfl, hw, (HP.out.done HOB.out H5.out (Nat.le_refl _) (by unfold maxLen; omega) (Nat.le_refl _)).mono fun x hx => ⟨hx.1, hx.2⟩⟩

set_option maxRecDepth 100000 in
set_option maxHeartbeats 1000000 in
theorem eqExprS_of (es : List (List Tr)) (h5 : ∀ e ∈ es, e.length = 9) (H : ∀ e ∈ es, EqC 229 e) : EqSC 250 9 es := by
  intro s u w hs hu
  obtain ⟨a, cap, rfl, hl, hm⟩ := hs.shape
  obtain ⟨a', cap', rfl, hl', hm'⟩ := hu.shape
  unfold maxLen at hm hm'
  have HS := Lib.hid hs
  have HU := Lib.hid hu
  have HH := Lib.hid H
  have H5 := Lib.hid h5
  clear hs hu H h5
  go_enter Try.func250, Try.ntmps250
  go_wp2_with fail
  go_loopw [5] (fun i wr => ∃ k : Nat, k ≤ es.length ∧ i = .int .i64 k ∧ Ext w wr) (fun i _ => es.length - (intOf i).toNat)
  case atStart => exact ⟨0, Nat.zero_le _, rfl, .refl _⟩
  case round =>
    obtain ⟨k, hk, rfl, hw⟩ := hrel
    by_cases hlt : k < es.length
    · obtain ⟨b, off, cs, rfl, hb, hcs, hc⟩ := (HS.out.ext hw).at2 (k := k) (List.getElem?_eq_getElem hlt)
      obtain ⟨b', off', ds, rfl, hb', hds, hd⟩ := (HU.out.ext hw).at2 (k := k) (List.getElem?_eq_getElem hlt)
      have hmem : es[k] ∈ es := List.getElem_mem hlt
      have l5 := H5.out _ hmem
      have HCS := Lib.hid hcs
      have HDS := Lib.hid hds
      have HM := Lib.hid hmem
      have HC := Lib.hid hc
      have HD := Lib.hid hd
      have HI : Hid ((Try.prog.info? 212).map (·.size) = some cs.length) := by rw [← hcs.length, l5]; exact isz212
      have HJ : Hid ((Try.prog.info? 212).map (·.size) = some ds.length) := by rw [← hds.length, l5]; exact isz212
      clear hcs hds hc hd l5 hmem
      go_wp2_with fail
      have ki : (k : Int) < (es.length : Int) := by omega
      have k0 : (0 : Int) ≤ (k : Int) := by omega
      refine wp_region_still_tail 8 (by kernel_rfl) (by kernel_rfl) ?_
      simp only [List.take_succ_cons, List.take_zero, List.drop_succ_cons, List.drop_zero]
      change wpStill _ _ wr.drew _ _ _
      repeat (first
        | (refine wpStill_load_rep rfl 212 (.tmp 19) rfl b (off + k * 9) rfl cs _ Try.underlying212 HI.out HC.out ?_; simp only [Act.put])
        | (refine wpStill_load_rep rfl 212 (.tmp 23) rfl b' (off' + k * 9) rfl ds _ Try.underlying212 HJ.out HD.out ?_; simp only [Act.put])
        | still_step)
      refine wpStill_nil ?_
      change wpList _ _ _ _ _ wr.drew
      go_wp2_with fail
      refine (HH.out _ HM.out _ _ _ (HCS.out.ext (.drew (.refl _))) (HDS.out.ext (.drew (.refl _)))).mono ?_
      rintro e w1 ⟨rfl, hw1⟩
      have HW1 := Lib.hid hw1
      clear hw1
      go_wp2_with fail
      go_roundw
      case rel => exact ⟨k + 1, by omega, by go_num, hw.trans (.trans (.drew (.refl _)) HW1.out)⟩
      case measure => simp [intOf]; omega
    · go_wp2_with fail
      go_ret
      exact ⟨rfl, hw⟩

end Go.Proofs.Ytoifjkggpanceaa

namespace Go.Proofs.Ytoifjkggpanceaa
open Go.RowKit Go.Proofs

set_option maxRecDepth 100000 in
set_option maxHeartbeats 1000000 in
theorem szArm_of (v0 : ByteArray) (es1 : List (List Tr)) (ts2 : List Tr) (l2 : ts2.length = 9) (h1 : SzSC 149 1 es1) (h2 : SzC 227 ts2) : SzC 258 ([.leaf (.string v0)] ++ ([.row 1 es1] ++ (ts2 ++ ([])))) := by
  intro cs left w hr hl0 hl1
  obtain ⟨b0, r0, rfl, g0, n0⟩ := RepL.split hr
  obtain ⟨y0, rfl⟩ := list1 g0.length.symm
  obtain ⟨rfl, k0⟩ := g0.1.leaf_eq
  obtain ⟨b1, r1, rfl, g1, n1⟩ := RepL.split n0
  obtain ⟨y1, rfl⟩ := list1 g1.length.symm
  obtain ⟨a1, c1, rfl, -, -⟩ := g1.1.shape
  obtain ⟨b2, r2, rfl, g2, n2⟩ := RepL.split n1
  obtain ⟨x2_0, x2_1, x2_2, x2_3, x2_4, x2_5, x2_6, x2_7, x2_8, rfl⟩ := list9 (g2.length.symm.trans l2)
  obtain rfl := RepL.nil_eq n2
  clear hr
  have q0 : v0.size ≤ 9223372036854775807 := by have := k0; simp only [LeafOk, maxLen] at this; omega
  have G0 := Lib.hid g0
  have K0 := Lib.hid k0
  clear g0 n0 k0
  have G1 := Lib.hid g1
  clear g1 n1
  have G2 := Lib.hid g2
  clear g2 n2
  simp only [List.cons_append, List.nil_append]
  go_enter Try.func258, Try.ntmps258
  go_wp2_with fail
  · go_ret
    exact ⟨-1, rfl, (.alloc (.refl _) _), by omega, by omega, by omega⟩
  refine (h1 _ _ _ (G1.out.1.ext (.alloc (.refl _) _)) (by omega) (by omega)).mono ?_
  rintro e w1 ⟨r1, rfl, hw1, ra1, rb1, rc1⟩
  have HW1 := Lib.hid hw1
  have HR1 := Lib.hid rc1
  have ob1 := (OB.new w _ _).ext hw1
  have OBH := Lib.hid ob1
  have ce1 := ob1.cell
  clear hw1 rc1 ob1
  go_wp2_with fail
  · go_ret
    exact ⟨-1, rfl, (Ext.trans (.alloc (.refl _) _) HW1.out), by omega, by omega, by omega⟩
  refine (h2 _ _ _ (G2.out.ext (Ext.trans (.alloc (.refl _) _) HW1.out)) (by omega) (by omega)).mono ?_
  rintro e w2 ⟨r2, rfl, hw2, ra2, rb2, rc2⟩
  have HW2 := Lib.hid hw2
  have HR2 := Lib.hid rc2
  have ob2 := OBH.out.ext hw2
  clear OBH ce1
  have OBH := Lib.hid ob2
  have ce2 := ob2.cell
  clear hw2 rc2 ob2
  go_wp2_with fail
  · go_ret
    exact ⟨-1, rfl, (Ext.trans (Ext.trans (.alloc (.refl _) _) HW1.out) HW2.out), by omega, by omega, by omega⟩
  go_ret
  refine ⟨_, rfl, (Ext.trans (Ext.trans (.alloc (.refl _) _) HW1.out) HW2.out), by omega, by omega, fun hp => ?_⟩
  have e1 := HR1.out (by omega)
  have e2 := HR2.out (by omega)
  simp only [Tr.bulkL_append, Tr.bulkL, Tr.bulk]
  simp only [Tr.bulk] at e1
  omega

set_option maxRecDepth 100000 in
set_option maxHeartbeats 1000000 in
theorem toArm_of (v0 : ByteArray) (es1 : List (List Tr)) (ts2 : List Tr) (l2 : ts2.length = 9) (h1 : ToSC 151 1 es1) (h2 : ToC 228 ts2) : ToC 259 ([.leaf (.string v0)] ++ ([.row 1 es1] ++ (ts2 ++ ([])))) := by
  intro cs w hr hbk
  simp only [Tr.bulkL_append, Tr.bulkL, Tr.bulk] at hbk
  obtain ⟨b0, r0, rfl, g0, n0⟩ := RepL.split hr
  obtain ⟨y0, rfl⟩ := list1 g0.length.symm
  obtain ⟨rfl, k0⟩ := g0.1.leaf_eq
  obtain ⟨b1, r1, rfl, g1, n1⟩ := RepL.split n0
  obtain ⟨y1, rfl⟩ := list1 g1.length.symm
  obtain ⟨a1, c1, rfl, -, -⟩ := g1.1.shape
  obtain ⟨b2, r2, rfl, g2, n2⟩ := RepL.split n1
  obtain ⟨x2_0, x2_1, x2_2, x2_3, x2_4, x2_5, x2_6, x2_7, x2_8, rfl⟩ := list9 (g2.length.symm.trans l2)
  obtain rfl := RepL.nil_eq n2
  clear hr
  have G0 := Lib.hid g0
  have K0 := Lib.hid k0
  clear g0 n0 k0
  have G1 := Lib.hid g1
  clear g1 n1
  have G2 := Lib.hid g2
  clear g2 n2
  simp only [List.cons_append, List.nil_append]
  go_enter Try.func259, Try.ntmps259
  go_wp2_with fail
  refine (h1 _ _ (G1.out.1.ext (.alloc (.alloc (.alloc (.refl _) _) _) _)) (by omega)).mono ?_
  rintro e w1 ⟨d1, rfl, hw1, ho1⟩
  obtain ⟨da1, dc1, rfl, -, -⟩ := ho1.rep.shape
  have HW1 := Lib.hid hw1
  have HO1 := Lib.hid ho1
  have ob1 := (Three.new w _ _ _ _ _ _).ext hw1
  have OBHw1 := Lib.hid ob1
  have cew1 := ob1.o0.cell
  have hzw1 : w.heap.size < w1.heap.size := ob1.o0.lt
  clear hw1 ob1 ho1
  go_wp2_with (first
    | (refine wpList_store_cell rfl 66 _ _ rfl (w.heap.size + 1 + 1) 1 rfl (.slice da1 es1.length dc1) rfl rfl 258 _ OBHw1.out.o2 isz66 (by simp [splice]) rfl ?_; intro u1 hou1 hgu1 hzu1; have OBHu1 := Lib.hid (OBHw1.out.grown hgu1 hou1 (by omega) (by omega)); have HGu1 := Lib.hid hgu1; have ceu1 := OBHu1.out.o0.cell; have hqu1 : w.heap.size < u1.heap.size := OBHu1.out.o0.lt; clear hou1 hgu1 hzu1 OBHw1 cew1))
  refine (h2 _ _ (G2.out.ext (grown_ext (Ext.trans (.alloc (.alloc (.alloc (.refl _) _) _) _) HW1.out) HGu1.out (by omega))) (by omega)).mono ?_
  rintro e w2 ⟨d2, rfl, hw2, ho2⟩
  obtain ⟨d2_0, d2_1, d2_2, d2_3, d2_4, d2_5, d2_6, d2_7, d2_8, rfl⟩ := list9 (ho2.1.trans l2)
  have HW2 := Lib.hid hw2
  have HO2 := Lib.hid ho2
  have ob2 := OBHu1.out.ext hw2
  clear OBHu1 ceu1
  have OBHw2 := Lib.hid ob2
  have cew2 := ob2.o0.cell
  have hzw2 : w.heap.size < w2.heap.size := ob2.o0.lt
  clear hw2 ob2 ho2
  have hone : Hid (∀ v ∈ ([.string v0, .slice da1 es1.length dc1, d2_0, d2_1, d2_2, d2_3, d2_4, d2_5, d2_6, d2_7, d2_8] : List Value), v.oneCell' = true) := by
    intro v hv
    simp only [List.mem_cons, List.not_mem_nil, or_false] at hv
    rcases hv with rfl | rfl | rfl | rfl | rfl | rfl | rfl | rfl | rfl | rfl | rfl <;> first | rfl | (refine HO2.out.rep.one _ ?_; simp; done)
  go_wp2_with (first
    | (refine wpList_store_rep rfl 212 _ _ rfl (w.heap.size + 1 + 1) 2 rfl [d2_0, d2_1, d2_2, d2_3, d2_4, d2_5, d2_6, d2_7, d2_8] rfl 258 _ OBHw2.out.o2 isz212 (by simp [splice]) HO2.out.rep.one ?_; intro u2 hou2 hgu2 hzu2; have OBHu2 := Lib.hid (OBHw2.out.grown hgu2 hou2 (by omega) (by omega)); have HGu2 := Lib.hid hgu2; have ceu2 := OBHu2.out.o0.cell; have hqu2 : w.heap.size < u2.heap.size := OBHu2.out.o0.lt; clear hou2 hgu2 hzu2 OBHw2 cew2)
    | (refine wpList_load_rep rfl 258 _ rfl (w.heap.size + 1 + 1) 0 rfl [.string v0, .slice da1 es1.length dc1, d2_0, d2_1, d2_2, d2_3, d2_4, d2_5, d2_6, d2_7, d2_8] _ Try.underlying258 isz258 (fun j v hv => by rw [OBHu2.out.o2.cell, Nat.zero_add]; simpa [splice] using hv) ?_)
    | (refine wpList_store_rep rfl 258 _ _ rfl (w.heap.size + 1) 0 rfl [.string v0, .slice da1 es1.length dc1, d2_0, d2_1, d2_2, d2_3, d2_4, d2_5, d2_6, d2_7, d2_8] rfl 258 _ OBHu2.out.o1 isz258 (by simp) hone.out ?_; intro wz hoz hgz hzz; have HOZ := Lib.hid hoz; have HGZ := Lib.hid hgz; clear hoz hgz hzz))
  have HOF : OB wz (w.heap.size + 1) 258 ⟨[.string v0, .slice da1 es1.length dc1, d2_0, d2_1, d2_2, d2_3, d2_4, d2_5, d2_6, d2_7, d2_8]⟩ := HOZ.out
  refine bodyPost_ret (results_cell_row Try.results259 _ _ (w.heap.size + 1) 258 ⟨[.string v0, .slice da1 es1.length dc1, d2_0, d2_1, d2_2, d2_3, d2_4, d2_5, d2_6, d2_7, d2_8]⟩ _ _ rfl HOF Try.underlying258 rfl isz258) rfl ⟨[.string v0, .slice da1 es1.length dc1, d2_0, d2_1, d2_2, d2_3, d2_4, d2_5, d2_6, d2_7, d2_8], rfl, (grown_ext (grown_ext (Ext.trans (grown_ext (Ext.trans (.alloc (.alloc (.alloc (.refl _) _) _) _) HW1.out) HGu1.out (by omega)) HW2.out) HGu2.out (by omega)) HGZ.out (by omega)), ?_⟩
  have sw1 := HW1.out.size
  have su1 := HGu1.out.size
  have sw2 := HW2.out.size
  have su2 := HGu2.out.size
  have swz := HGZ.out.size
  simp only [World.size_alloc] at sw1
  have ow1 := HO1.out.keeps (lo := w.heap.size + 1 + 1 + 1) (Keeps.trans (Keeps.of_grown HGu1.out (by omega)) (Keeps.trans (Keeps.of_ext HW2.out) (Keeps.trans (Keeps.of_grown HGu2.out (by omega)) (Keeps.of_grown HGZ.out (by omega))))) (by intro x hx; simp only [Between, World.size_alloc] at hx; omega)
  have ow2 := HO2.out.keeps (lo := w.heap.size + 1 + 1 + 1) (Keeps.trans (Keeps.of_grown HGu2.out (by omega)) (Keeps.of_grown HGZ.out (by omega))) (by intro x hx; simp only [Between, World.size_alloc] at hx; omega)
  have hall := OwnL.cons_leaf K0.out (OwnL.append (OwnL.one ow1) (OwnL.append (ow2) (OwnL.nil wz (fun _ => False)) (by intro x hx hy; simp only [Between, World.size_alloc, or_false] at hx hy <;> omega)) (by intro x hx hy; simp only [Between, World.size_alloc, or_false] at hx hy <;> omega))
  exact hall.mono (by intro x hx; simp only [Between, World.size_alloc, or_false] at hx ⊢; omega)

set_option maxRecDepth 100000 in
set_option maxHeartbeats 1000000 in
theorem eqArm_of (v0 : ByteArray) (es1 : List (List Tr)) (ts2 : List Tr) (l2 : ts2.length = 9) (h1 : EqSC 153 1 es1) (h2 : EqC 229 ts2) : EqC 260 ([.leaf (.string v0)] ++ ([.row 1 es1] ++ (ts2 ++ ([])))) := by
  intro cs ds w hr hr'
  obtain ⟨b0, r0, rfl, g0, n0⟩ := RepL.split hr
  obtain ⟨y0, rfl⟩ := list1 g0.length.symm
  obtain ⟨rfl, k0⟩ := g0.1.leaf_eq
  obtain ⟨b1, r1, rfl, g1, n1⟩ := RepL.split n0
  obtain ⟨y1, rfl⟩ := list1 g1.length.symm
  obtain ⟨a1, c1, rfl, -, -⟩ := g1.1.shape
  obtain ⟨b2, r2, rfl, g2, n2⟩ := RepL.split n1
  obtain ⟨x2_0, x2_1, x2_2, x2_3, x2_4, x2_5, x2_6, x2_7, x2_8, rfl⟩ := list9 (g2.length.symm.trans l2)
  obtain rfl := RepL.nil_eq n2
  clear hr
  obtain ⟨zb0, zr0, rfl, zg0, zn0⟩ := RepL.split hr'
  obtain ⟨zy0, rfl⟩ := list1 zg0.length.symm
  obtain ⟨rfl, zk0⟩ := zg0.1.leaf_eq
  obtain ⟨zb1, zr1, rfl, zg1, zn1⟩ := RepL.split zn0
  obtain ⟨zy1, rfl⟩ := list1 zg1.length.symm
  obtain ⟨za1, zc1, rfl, -, -⟩ := zg1.1.shape
  obtain ⟨zb2, zr2, rfl, zg2, zn2⟩ := RepL.split zn1
  obtain ⟨zx2_0, zx2_1, zx2_2, zx2_3, zx2_4, zx2_5, zx2_6, zx2_7, zx2_8, rfl⟩ := list9 (zg2.length.symm.trans l2)
  obtain rfl := RepL.nil_eq zn2
  clear hr'
  have G0 := Lib.hid g0
  have K0 := Lib.hid k0
  clear g0 n0 k0
  have G1 := Lib.hid g1
  clear g1 n1
  have G2 := Lib.hid g2
  clear g2 n2
  have zG0 := Lib.hid zg0
  have zK0 := Lib.hid zk0
  clear zg0 zn0 zk0
  have zG1 := Lib.hid zg1
  clear zg1 zn1
  have zG2 := Lib.hid zg2
  clear zg2 zn2
  simp only [List.cons_append, List.nil_append]
  go_enter Try.func260, Try.ntmps260
  go_wp2_with fail
  refine (h1 _ _ _ (G1.out.1.ext (.alloc (.alloc (.refl _) _) _)) (zG1.out.1.ext (.alloc (.alloc (.refl _) _) _))).mono ?_
  rintro e w1 ⟨rfl, hw1⟩
  have HW1 := Lib.hid hw1
  have ob1 := (Two.new w _ _ _ _).ext hw1
  have OBH := Lib.hid ob1
  have ce1 := ob1.o0.cell
  have cf1 := ob1.o1.cell
  clear hw1 ob1
  go_wp2_with fail
  refine (h2 _ _ _ (G2.out.ext (Ext.trans (.alloc (.alloc (.refl _) _) _) HW1.out)) (zG2.out.ext (Ext.trans (.alloc (.alloc (.refl _) _) _) HW1.out))).mono ?_
  rintro e w2 ⟨rfl, hw2⟩
  have HW2 := Lib.hid hw2
  have ob2 := OBH.out.ext hw2
  clear OBH ce1 cf1
  have OBH := Lib.hid ob2
  have ce2 := ob2.o0.cell
  have cf2 := ob2.o1.cell
  clear hw2 ob2
  go_wp2_with fail
  go_ret
  exact ⟨rfl, (Ext.trans (Ext.trans (.alloc (.alloc (.refl _) _) _) HW1.out) HW2.out)⟩

set_option maxRecDepth 100000 in
set_option maxHeartbeats 1000000 in
theorem szArmS_of (es : List (List Tr)) (h5 : ∀ e ∈ es, e.length = 11) (H : ∀ e ∈ es, SzC 258 e) : SzSC 247 11 es := by
  intro s left w hs h0 h1
  obtain ⟨a, cap, rfl, hl, hm⟩ := hs.shape
  unfold maxLen at hm
  have HS := Lib.hid hs
  have HH := Lib.hid H
  have H5 := Lib.hid h5
  clear hs H h5
  go_enter Try.func247, Try.ntmps247
  go_wp2_with fail
  · go_ret
    exact ⟨-1, rfl, .refl _, by omega, by omega, by omega⟩
  go_loopw [1, 5] (fun l i wr => ∃ (k : Nat) (r : Int), k ≤ es.length ∧ i = .int .i64 k ∧ l = .int .i64 r ∧ Ext w wr ∧ 0 ≤ r ∧ r + es.length + Tr.bulkAll (es.take k) ≤ left) (fun _ i _ => es.length - (intOf i).toNat)
  case atStart => exact ⟨0, _, Nat.zero_le _, rfl, rfl, .refl _, by omega, by simp [Tr.bulkAll]⟩
  case round =>
    obtain ⟨k, r, hk, rfl, rfl, hw, hr0, hrb⟩ := hrel
    by_cases hlt : k < es.length
    · obtain ⟨b, off, cs, rfl, hb, hcs, hc⟩ := (HS.out.ext hw).at2 (k := k) (List.getElem?_eq_getElem hlt)
      have hmem : es[k] ∈ es := List.getElem_mem hlt
      have l5 := H5.out _ hmem
      have hbt := Lib.hid (Tr.bulkAll_take es k hlt)
      have HCS := Lib.hid hcs
      have HC := Lib.hid hc
      have HM := Lib.hid hmem
      have HI : Hid ((Try.prog.info? 290).map (·.size) = some cs.length) := by rw [← hcs.length, l5]; exact isz290
      clear hcs hc hmem l5
      go_wp2_with (refine wpList_load_rep rfl 290 _ rfl b (off + k * 11) rfl cs _ Try.underlying290 HI.out HC.out ?_)
      refine (HH.out _ HM.out _ _ _ HCS.out hr0 (by omega)).mono ?_
      rintro e w1 ⟨r1, rfl, hw1, hr1, hr2, hr3⟩
      have HR3 := Lib.hid hr3
      have HW1 := Lib.hid hw1
      clear hr3 hw1
      go_wp2_with fail
      · go_ret
        exact ⟨-1, rfl, hw.trans HW1.out, by omega, by omega, by omega⟩
      · go_roundw
        case rel =>
          have p0 : 0 ≤ r1 := by assumption
          have e1 := HR3.out p0
          have e2 := hbt.out
          exact ⟨k + 1, r1, by omega, by go_num, rfl, hw.trans HW1.out, p0, by omega⟩
        case measure => simp [intOf]; omega
    · have hkl : k = es.length := by omega
      go_wp2_with fail
      go_ret
      refine ⟨r, rfl, hw, by omega, by omega, fun _ => ?_⟩
      rw [hkl, List.take_length] at hrb
      simp only [Tr.bulk]
      omega

set_option maxRecDepth 100000 in
set_option maxHeartbeats 1000000 in
theorem toArmS_of (es : List (List Tr)) (h5 : ∀ e ∈ es, e.length = 11) (H : ∀ e ∈ es, ToC 259 e) : ToSC 249 11 es := by
  intro s w hs hbk
  obtain ⟨a, cap, rfl, hl, hm⟩ := hs.shape
  unfold maxLen at hm
  have HS := Lib.hid hs
  have HH := Lib.hid H
  have H5 := Lib.hid h5
  have n0 : (0 : Int) ≤ es.length := by omega
  clear hs H h5
  go_enter Try.func249, Try.ntmps249
  go_wp2_with (refine wpList_make_rep rfl 210 (.tmp 6) rfl es.length rfl 258 Try.underlying210 11 184 iszb258 (by omega) (by omega) ?_; intro wm arr0 ha0 hob0 hx0 hz0; have HA0 := Lib.hid ha0; have HOB0 := Lib.hid hob0; have HX0 := Lib.hid hx0; have HZ0 := Lib.hid hz0; clear ha0 hob0 hx0 hz0)
  go_loopw [4] (fun i wr => ∃ (k : Nat) (arr : Array Value), k ≤ es.length ∧ i = .int .i64 k ∧ Ext w wr ∧ w.heap.size < wr.heap.size ∧ OB wr w.heap.size 258 arr ∧ arr.size = es.length * 11 ∧ Part wr w.heap.size arr 11 es k) (fun i _ => es.length - (intOf i).toNat)
  case atStart => exact ⟨0, arr0, Nat.zero_le _, rfl, HX0.out, by rw [HZ0.out]; omega, HOB0.out, HA0.out, Part.zero _ _ _ _ _⟩
  case round =>
    obtain ⟨k, arr, hk, rfl, hw, hgt, hob, hasz, hpart⟩ := hrel
    have HOB := Lib.hid hob
    have HAS := Lib.hid hasz
    have HP := Lib.hid hpart
    clear hob hasz hpart
    by_cases hlt : k < es.length
    · obtain ⟨b, off, cs, rfl, hb, hcs, hc⟩ := (HS.out.ext hw).at2 (k := k) (List.getElem?_eq_getElem hlt)
      have hmem : es[k] ∈ es := List.getElem_mem hlt
      have l5 := H5.out _ hmem
      have hbe := Tr.bulkAll_le hlt
      have HCS := Lib.hid hcs
      have HC := Lib.hid hc
      have HM := Lib.hid hmem
      have HL5 := Lib.hid l5
      have HI : Hid ((Try.prog.info? 290).map (·.size) = some cs.length) := by rw [← hcs.length, l5]; exact isz290
      clear hcs hc hmem l5
      go_wp2_with (refine wpList_load_rep rfl 290 (.tmp 18) rfl b (off + k * 11) rfl cs _ Try.underlying290 HI.out HC.out ?_)
      refine (HH.out _ HM.out _ _ HCS.out (by omega)).mono ?_
      rintro e w1 ⟨cs1, rfl, hw1, ho1⟩
      have HW1 := Lib.hid hw1
      have HO1 := Lib.hid ho1
      have hcl : cs1.length = 11 := ho1.1.trans HL5.out
      have HCL := Lib.hid hcl
      have hfit : 0 + k * 11 + cs1.length ≤ arr.size := by have := HAS.out; omega
      have HF := Lib.hid hfit
      clear hw1 ho1 hcl hfit
      go_wp2_with (refine wpList_store_rep rfl 258 (.tmp 21) (.tmp 20) rfl w.heap.size (k * 11) rfl cs1 rfl 258 arr (HOB.out.ext HW1.out) (by rw [HCL.out]; exact isz258) (by have := HF.out; omega) (HO1.out.rep.one) ?_; intro w2 hob2 hg2 hz2; have HOB2 := Lib.hid hob2; have HG2 := Lib.hid hg2; have HZ2 := Lib.hid hz2; clear hob2 hg2 hz2)
      go_roundw
      case rel =>
        have hfit : k * 11 + cs1.length ≤ arr.size := by have := HF.out; omega
        refine ⟨k + 1, _, by omega, by go_num, ?_, ?_, HOB2.out, by rw [splice_size hfit]; exact HAS.out, HP.out.step hgt HW1.out (List.getElem?_eq_getElem hlt) HO1.out HCL.out HAS.out HG2.out HOB2.out⟩
        · exact grown_ext (hw.trans HW1.out) HG2.out (Nat.le_refl _)
        · have := HW1.out.size
          have := HZ2.out
          omega
      case measure => simp [intOf]; omega
    · have hkl : k = es.length := by omega
      go_wp2_with fail
      go_ret
      subst hkl
      exact ⟨_, rfl, hw, (HP.out.done HOB.out H5.out (Nat.le_refl _) (by unfold maxLen; omega) (Nat.le_refl _)).mono fun x hx => ⟨hx.1, hx.2⟩⟩

set_option maxRecDepth 100000 in
set_option maxHeartbeats 1000000 in
theorem eqArmS_of (es : List (List Tr)) (h5 : ∀ e ∈ es, e.length = 11) (H : ∀ e ∈ es, EqC 260 e) : EqSC 251 11 es := by
  intro s u w hs hu
  obtain ⟨a, cap, rfl, hl, hm⟩ := hs.shape
  obtain ⟨a', cap', rfl, hl', hm'⟩ := hu.shape
  unfold maxLen at hm hm'
  have HS := Lib.hid hs
  have HU := Lib.hid hu
  have HH := Lib.hid H
  have H5 := Lib.hid h5
  clear hs hu H h5
  go_enter Try.func251, Try.ntmps251
  go_wp2_with fail
  go_loopw [5] (fun i wr => ∃ k : Nat, k ≤ es.length ∧ i = .int .i64 k ∧ Ext w wr) (fun i _ => es.length - (intOf i).toNat)
  case atStart => exact ⟨0, Nat.zero_le _, rfl, .refl _⟩
  case round =>
    obtain ⟨k, hk, rfl, hw⟩ := hrel
    by_cases hlt : k < es.length
    · obtain ⟨b, off, cs, rfl, hb, hcs, hc⟩ := (HS.out.ext hw).at2 (k := k) (List.getElem?_eq_getElem hlt)
      obtain ⟨b', off', ds, rfl, hb', hds, hd⟩ := (HU.out.ext hw).at2 (k := k) (List.getElem?_eq_getElem hlt)
      have hmem : es[k] ∈ es := List.getElem_mem hlt
      have l5 := H5.out _ hmem
      have HCS := Lib.hid hcs
      have HDS := Lib.hid hds
      have HM := Lib.hid hmem
      have HC := Lib.hid hc
      have HD := Lib.hid hd
      have HI : Hid ((Try.prog.info? 258).map (·.size) = some cs.length) := by rw [← hcs.length, l5]; exact isz258
      have HJ : Hid ((Try.prog.info? 258).map (·.size) = some ds.length) := by rw [← hds.length, l5]; exact isz258
      clear hcs hds hc hd l5 hmem
      go_wp2_with fail
      have ki : (k : Int) < (es.length : Int) := by omega
      have k0 : (0 : Int) ≤ (k : Int) := by omega
      refine wp_region_still_tail 8 (by kernel_rfl) (by kernel_rfl) ?_
      simp only [List.take_succ_cons, List.take_zero, List.drop_succ_cons, List.drop_zero]
      change wpStill _ _ wr.drew _ _ _
      repeat (first
        | (refine wpStill_load_rep rfl 258 (.tmp 19) rfl b (off + k * 11) rfl cs _ Try.underlying258 HI.out HC.out ?_; simp only [Act.put])
        | (refine wpStill_load_rep rfl 258 (.tmp 23) rfl b' (off' + k * 11) rfl ds _ Try.underlying258 HJ.out HD.out ?_; simp only [Act.put])
        | still_step)
      refine wpStill_nil ?_
      change wpList _ _ _ _ _ wr.drew
      go_wp2_with fail
      refine (HH.out _ HM.out _ _ _ (HCS.out.ext (.drew (.refl _))) (HDS.out.ext (.drew (.refl _)))).mono ?_
      rintro e w1 ⟨rfl, hw1⟩
      have HW1 := Lib.hid hw1
      clear hw1
      go_wp2_with fail
      go_roundw
      case rel => exact ⟨k + 1, by omega, by go_num, hw.trans (.trans (.drew (.refl _)) HW1.out)⟩
      case measure => simp [intOf]; omega
    · go_wp2_with fail
      go_ret
      exact ⟨rfl, hw⟩

end Go.Proofs.Ytoifjkggpanceaa

namespace Go.Proofs.Ytoifjkggpanceaa
open Go.RowKit Go.Proofs

set_option maxRecDepth 100000 in
set_option maxHeartbeats 1000000 in
theorem szMethod_of (v0 : ByteArray) (es1 : List (List Tr)) (ts2 : List Tr) (l2 : ts2.length = 9) (h1 : SzSC 149 1 es1) (h2 : SzC 227 ts2) : SzC 191 ([.leaf (.string v0)] ++ ([.row 1 es1] ++ (ts2 ++ ([])))) := by
  intro cs left w hr hl0 hl1
  obtain ⟨b0, r0, rfl, g0, n0⟩ := RepL.split hr
  obtain ⟨y0, rfl⟩ := list1 g0.length.symm
  obtain ⟨rfl, k0⟩ := g0.1.leaf_eq
  obtain ⟨b1, r1, rfl, g1, n1⟩ := RepL.split n0
  obtain ⟨y1, rfl⟩ := list1 g1.length.symm
  obtain ⟨a1, c1, rfl, -, -⟩ := g1.1.shape
  obtain ⟨b2, r2, rfl, g2, n2⟩ := RepL.split n1
  obtain ⟨x2_0, x2_1, x2_2, x2_3, x2_4, x2_5, x2_6, x2_7, x2_8, rfl⟩ := list9 (g2.length.symm.trans l2)
  obtain rfl := RepL.nil_eq n2
  clear hr
  have q0 : v0.size ≤ 9223372036854775807 := by have := k0; simp only [LeafOk, maxLen] at this; omega
  have G0 := Lib.hid g0
  have K0 := Lib.hid k0
  clear g0 n0 k0
  have G1 := Lib.hid g1
  clear g1 n1
  have G2 := Lib.hid g2
  clear g2 n2
  simp only [List.cons_append, List.nil_append]
  go_enter Try.func191, Try.ntmps191
  go_wp2_with fail
  · go_ret
    exact ⟨-1, rfl, (.alloc (.refl _) _), by omega, by omega, by omega⟩
  refine (h1 _ _ _ (G1.out.1.ext (.alloc (.refl _) _)) (by omega) (by omega)).mono ?_
  rintro e w1 ⟨r1, rfl, hw1, ra1, rb1, rc1⟩
  have HW1 := Lib.hid hw1
  have HR1 := Lib.hid rc1
  have ob1 := (OB.new w _ _).ext hw1
  have OBH := Lib.hid ob1
  have ce1 := ob1.cell
  clear hw1 rc1 ob1
  go_wp2_with fail
  · go_ret
    exact ⟨-1, rfl, (Ext.trans (.alloc (.refl _) _) HW1.out), by omega, by omega, by omega⟩
  refine (h2 _ _ _ (G2.out.ext (Ext.trans (.alloc (.refl _) _) HW1.out)) (by omega) (by omega)).mono ?_
  rintro e w2 ⟨r2, rfl, hw2, ra2, rb2, rc2⟩
  have HW2 := Lib.hid hw2
  have HR2 := Lib.hid rc2
  have ob2 := OBH.out.ext hw2
  clear OBH ce1
  have OBH := Lib.hid ob2
  have ce2 := ob2.cell
  clear hw2 rc2 ob2
  go_wp2_with fail
  · go_ret
    exact ⟨-1, rfl, (Ext.trans (Ext.trans (.alloc (.refl _) _) HW1.out) HW2.out), by omega, by omega, by omega⟩
  go_ret
  refine ⟨_, rfl, (Ext.trans (Ext.trans (.alloc (.refl _) _) HW1.out) HW2.out), by omega, by omega, fun hp => ?_⟩
  have e1 := HR1.out (by omega)
  have e2 := HR2.out (by omega)
  simp only [Tr.bulkL_append, Tr.bulkL, Tr.bulk]
  simp only [Tr.bulk] at e1
  omega

set_option maxRecDepth 100000 in
set_option maxHeartbeats 1000000 in
theorem toMethod_of (v0 : ByteArray) (es1 : List (List Tr)) (ts2 : List Tr) (l2 : ts2.length = 9) (h1 : ToSC 151 1 es1) (h2 : ToC 228 ts2) : ToC 192 ([.leaf (.string v0)] ++ ([.row 1 es1] ++ (ts2 ++ ([])))) := by
  intro cs w hr hbk
  simp only [Tr.bulkL_append, Tr.bulkL, Tr.bulk] at hbk
  obtain ⟨b0, r0, rfl, g0, n0⟩ := RepL.split hr
  obtain ⟨y0, rfl⟩ := list1 g0.length.symm
  obtain ⟨rfl, k0⟩ := g0.1.leaf_eq
  obtain ⟨b1, r1, rfl, g1, n1⟩ := RepL.split n0
  obtain ⟨y1, rfl⟩ := list1 g1.length.symm
  obtain ⟨a1, c1, rfl, -, -⟩ := g1.1.shape
  obtain ⟨b2, r2, rfl, g2, n2⟩ := RepL.split n1
  obtain ⟨x2_0, x2_1, x2_2, x2_3, x2_4, x2_5, x2_6, x2_7, x2_8, rfl⟩ := list9 (g2.length.symm.trans l2)
  obtain rfl := RepL.nil_eq n2
  clear hr
  have G0 := Lib.hid g0
  have K0 := Lib.hid k0
  clear g0 n0 k0
  have G1 := Lib.hid g1
  clear g1 n1
  have G2 := Lib.hid g2
  clear g2 n2
  simp only [List.cons_append, List.nil_append]
  go_enter Try.func192, Try.ntmps192
  go_wp2_with fail
  refine (h1 _ _ (G1.out.1.ext (.alloc (.alloc (.alloc (.refl _) _) _) _)) (by omega)).mono ?_
  rintro e w1 ⟨d1, rfl, hw1, ho1⟩
  obtain ⟨da1, dc1, rfl, -, -⟩ := ho1.rep.shape
  have HW1 := Lib.hid hw1
  have HO1 := Lib.hid ho1
  have ob1 := (Three.new w _ _ _ _ _ _).ext hw1
  have OBHw1 := Lib.hid ob1
  have cew1 := ob1.o0.cell
  have hzw1 : w.heap.size < w1.heap.size := ob1.o0.lt
  clear hw1 ob1 ho1
  go_wp2_with (first
    | (refine wpList_store_cell rfl 66 _ _ rfl (w.heap.size + 1 + 1) 1 rfl (.slice da1 es1.length dc1) rfl rfl 219 _ OBHw1.out.o2 isz66 (by simp [splice]) rfl ?_; intro u1 hou1 hgu1 hzu1; have OBHu1 := Lib.hid (OBHw1.out.grown hgu1 hou1 (by omega) (by omega)); have HGu1 := Lib.hid hgu1; have ceu1 := OBHu1.out.o0.cell; have hqu1 : w.heap.size < u1.heap.size := OBHu1.out.o0.lt; clear hou1 hgu1 hzu1 OBHw1 cew1))
  refine (h2 _ _ (G2.out.ext (grown_ext (Ext.trans (.alloc (.alloc (.alloc (.refl _) _) _) _) HW1.out) HGu1.out (by omega))) (by omega)).mono ?_
  rintro e w2 ⟨d2, rfl, hw2, ho2⟩
  obtain ⟨d2_0, d2_1, d2_2, d2_3, d2_4, d2_5, d2_6, d2_7, d2_8, rfl⟩ := list9 (ho2.1.trans l2)
  have HW2 := Lib.hid hw2
  have HO2 := Lib.hid ho2
  have ob2 := OBHu1.out.ext hw2
  clear OBHu1 ceu1
  have OBHw2 := Lib.hid ob2
  have cew2 := ob2.o0.cell
  have hzw2 : w.heap.size < w2.heap.size := ob2.o0.lt
  clear hw2 ob2 ho2
  have hone : Hid (∀ v ∈ ([.string v0, .slice da1 es1.length dc1, d2_0, d2_1, d2_2, d2_3, d2_4, d2_5, d2_6, d2_7, d2_8] : List Value), v.oneCell' = true) := by
    intro v hv
    simp only [List.mem_cons, List.not_mem_nil, or_false] at hv
    rcases hv with rfl | rfl | rfl | rfl | rfl | rfl | rfl | rfl | rfl | rfl | rfl <;> first | rfl | (refine HO2.out.rep.one _ ?_; simp; done)
  go_wp2_with (first
    | (refine wpList_store_rep rfl 212 _ _ rfl (w.heap.size + 1 + 1) 2 rfl [d2_0, d2_1, d2_2, d2_3, d2_4, d2_5, d2_6, d2_7, d2_8] rfl 219 _ OBHw2.out.o2 isz212 (by simp [splice]) HO2.out.rep.one ?_; intro u2 hou2 hgu2 hzu2; have OBHu2 := Lib.hid (OBHw2.out.grown hgu2 hou2 (by omega) (by omega)); have HGu2 := Lib.hid hgu2; have ceu2 := OBHu2.out.o0.cell; have hqu2 : w.heap.size < u2.heap.size := OBHu2.out.o0.lt; clear hou2 hgu2 hzu2 OBHw2 cew2)
    | (refine wpList_load_rep rfl 219 _ rfl (w.heap.size + 1 + 1) 0 rfl [.string v0, .slice da1 es1.length dc1, d2_0, d2_1, d2_2, d2_3, d2_4, d2_5, d2_6, d2_7, d2_8] _ Try.underlying219 isz219 (fun j v hv => by rw [OBHu2.out.o2.cell, Nat.zero_add]; simpa [splice] using hv) ?_)
    | (refine wpList_store_rep rfl 219 _ _ rfl (w.heap.size + 1) 0 rfl [.string v0, .slice da1 es1.length dc1, d2_0, d2_1, d2_2, d2_3, d2_4, d2_5, d2_6, d2_7, d2_8] rfl 219 _ OBHu2.out.o1 isz219 (by simp) hone.out ?_; intro wz hoz hgz hzz; have HOZ := Lib.hid hoz; have HGZ := Lib.hid hgz; clear hoz hgz hzz))
  have HOF : OB wz (w.heap.size + 1) 219 ⟨[.string v0, .slice da1 es1.length dc1, d2_0, d2_1, d2_2, d2_3, d2_4, d2_5, d2_6, d2_7, d2_8]⟩ := HOZ.out
  refine bodyPost_ret (results_cell_row Try.results192 _ _ (w.heap.size + 1) 219 ⟨[.string v0, .slice da1 es1.length dc1, d2_0, d2_1, d2_2, d2_3, d2_4, d2_5, d2_6, d2_7, d2_8]⟩ _ _ rfl HOF Try.underlying219 rfl isz219) rfl ⟨[.string v0, .slice da1 es1.length dc1, d2_0, d2_1, d2_2, d2_3, d2_4, d2_5, d2_6, d2_7, d2_8], rfl, (grown_ext (grown_ext (Ext.trans (grown_ext (Ext.trans (.alloc (.alloc (.alloc (.refl _) _) _) _) HW1.out) HGu1.out (by omega)) HW2.out) HGu2.out (by omega)) HGZ.out (by omega)), ?_⟩
  have sw1 := HW1.out.size
  have su1 := HGu1.out.size
  have sw2 := HW2.out.size
  have su2 := HGu2.out.size
  have swz := HGZ.out.size
  simp only [World.size_alloc] at sw1
  have ow1 := HO1.out.keeps (lo := w.heap.size + 1 + 1 + 1) (Keeps.trans (Keeps.of_grown HGu1.out (by omega)) (Keeps.trans (Keeps.of_ext HW2.out) (Keeps.trans (Keeps.of_grown HGu2.out (by omega)) (Keeps.of_grown HGZ.out (by omega))))) (by intro x hx; simp only [Between, World.size_alloc] at hx; omega)
  have ow2 := HO2.out.keeps (lo := w.heap.size + 1 + 1 + 1) (Keeps.trans (Keeps.of_grown HGu2.out (by omega)) (Keeps.of_grown HGZ.out (by omega))) (by intro x hx; simp only [Between, World.size_alloc] at hx; omega)
  have hall := OwnL.cons_leaf K0.out (OwnL.append (OwnL.one ow1) (OwnL.append (ow2) (OwnL.nil wz (fun _ => False)) (by intro x hx hy; simp only [Between, World.size_alloc, or_false] at hx hy <;> omega)) (by intro x hx hy; simp only [Between, World.size_alloc, or_false] at hx hy <;> omega))
  exact hall.mono (by intro x hx; simp only [Between, World.size_alloc, or_false] at hx ⊢; omega)

set_option maxRecDepth 100000 in
set_option maxHeartbeats 1000000 in
theorem eqMethod_of (v0 : ByteArray) (es1 : List (List Tr)) (ts2 : List Tr) (l2 : ts2.length = 9) (h1 : EqSC 153 1 es1) (h2 : EqC 229 ts2) : EqC 193 ([.leaf (.string v0)] ++ ([.row 1 es1] ++ (ts2 ++ ([])))) := by
  intro cs ds w hr hr'
  obtain ⟨b0, r0, rfl, g0, n0⟩ := RepL.split hr
  obtain ⟨y0, rfl⟩ := list1 g0.length.symm
  obtain ⟨rfl, k0⟩ := g0.1.leaf_eq
  obtain ⟨b1, r1, rfl, g1, n1⟩ := RepL.split n0
  obtain ⟨y1, rfl⟩ := list1 g1.length.symm
  obtain ⟨a1, c1, rfl, -, -⟩ := g1.1.shape
  obtain ⟨b2, r2, rfl, g2, n2⟩ := RepL.split n1
  obtain ⟨x2_0, x2_1, x2_2, x2_3, x2_4, x2_5, x2_6, x2_7, x2_8, rfl⟩ := list9 (g2.length.symm.trans l2)
  obtain rfl := RepL.nil_eq n2
  clear hr
  obtain ⟨zb0, zr0, rfl, zg0, zn0⟩ := RepL.split hr'
  obtain ⟨zy0, rfl⟩ := list1 zg0.length.symm
  obtain ⟨rfl, zk0⟩ := zg0.1.leaf_eq
  obtain ⟨zb1, zr1, rfl, zg1, zn1⟩ := RepL.split zn0
  obtain ⟨zy1, rfl⟩ := list1 zg1.length.symm
  obtain ⟨za1, zc1, rfl, -, -⟩ := zg1.1.shape
  obtain ⟨zb2, zr2, rfl, zg2, zn2⟩ := RepL.split zn1
  obtain ⟨zx2_0, zx2_1, zx2_2, zx2_3, zx2_4, zx2_5, zx2_6, zx2_7, zx2_8, rfl⟩ := list9 (zg2.length.symm.trans l2)
  obtain rfl := RepL.nil_eq zn2
  clear hr'
  have G0 := Lib.hid g0
  have K0 := Lib.hid k0
  clear g0 n0 k0
  have G1 := Lib.hid g1
  clear g1 n1
  have G2 := Lib.hid g2
  clear g2 n2
  have zG0 := Lib.hid zg0
  have zK0 := Lib.hid zk0
  clear zg0 zn0 zk0
  have zG1 := Lib.hid zg1
  clear zg1 zn1
  have zG2 := Lib.hid zg2
  clear zg2 zn2
  simp only [List.cons_append, List.nil_append]
  go_enter Try.func193, Try.ntmps193
  go_wp2_with fail
  refine (h1 _ _ _ (G1.out.1.ext (.alloc (.alloc (.refl _) _) _)) (zG1.out.1.ext (.alloc (.alloc (.refl _) _) _))).mono ?_
  rintro e w1 ⟨rfl, hw1⟩
  have HW1 := Lib.hid hw1
  have ob1 := (Two.new w _ _ _ _).ext hw1
  have OBH := Lib.hid ob1
  have ce1 := ob1.o0.cell
  have cf1 := ob1.o1.cell
  clear hw1 ob1
  go_wp2_with fail
  refine (h2 _ _ _ (G2.out.ext (Ext.trans (.alloc (.alloc (.refl _) _) _) HW1.out)) (zG2.out.ext (Ext.trans (.alloc (.alloc (.refl _) _) _) HW1.out))).mono ?_
  rintro e w2 ⟨rfl, hw2⟩
  have HW2 := Lib.hid hw2
  have ob2 := OBH.out.ext hw2
  clear OBH ce1 cf1
  have OBH := Lib.hid ob2
  have ce2 := ob2.o0.cell
  have cf2 := ob2.o1.cell
  clear hw2 ob2
  go_wp2_with fail
  go_ret
  exact ⟨rfl, (Ext.trans (Ext.trans (.alloc (.alloc (.refl _) _) _) HW1.out) HW2.out)⟩

set_option maxRecDepth 100000 in
set_option maxHeartbeats 1000000 in
theorem szMethodS_of (es : List (List Tr)) (h5 : ∀ e ∈ es, e.length = 11) (H : ∀ e ∈ es, SzC 191 e) : SzSC 150 11 es := by
  intro s left w hs h0 h1
  obtain ⟨a, cap, rfl, hl, hm⟩ := hs.shape
  unfold maxLen at hm
  have HS := Lib.hid hs
  have HH := Lib.hid H
  have H5 := Lib.hid h5
  clear hs H h5
  go_enter Try.func150, Try.ntmps150
  go_wp2_with fail
  · go_ret
    exact ⟨-1, rfl, .refl _, by omega, by omega, by omega⟩
  go_loopw [1, 5] (fun l i wr => ∃ (k : Nat) (r : Int), k ≤ es.length ∧ i = .int .i64 k ∧ l = .int .i64 r ∧ Ext w wr ∧ 0 ≤ r ∧ r + es.length + Tr.bulkAll (es.take k) ≤ left) (fun _ i _ => es.length - (intOf i).toNat)
  case atStart => exact ⟨0, _, Nat.zero_le _, rfl, rfl, .refl _, by omega, by simp [Tr.bulkAll]⟩
  case round =>
    obtain ⟨k, r, hk, rfl, rfl, hw, hr0, hrb⟩ := hrel
    by_cases hlt : k < es.length
    · obtain ⟨b, off, cs, rfl, hb, hcs, hc⟩ := (HS.out.ext hw).at2 (k := k) (List.getElem?_eq_getElem hlt)
      have hmem : es[k] ∈ es := List.getElem_mem hlt
      have l5 := H5.out _ hmem
      have hbt := Lib.hid (Tr.bulkAll_take es k hlt)
      have HCS := Lib.hid hcs
      have HC := Lib.hid hc
      have HM := Lib.hid hmem
      have HI : Hid ((Try.prog.info? 240).map (·.size) = some cs.length) := by rw [← hcs.length, l5]; exact isz240
      clear hcs hc hmem l5
      go_wp2_with (refine wpList_load_rep rfl 240 _ rfl b (off + k * 11) rfl cs _ Try.underlying240 HI.out HC.out ?_)
      refine (HH.out _ HM.out _ _ _ HCS.out hr0 (by omega)).mono ?_
      rintro e w1 ⟨r1, rfl, hw1, hr1, hr2, hr3⟩
      have HR3 := Lib.hid hr3
      have HW1 := Lib.hid hw1
      clear hr3 hw1
      go_wp2_with fail
      · go_ret
        exact ⟨-1, rfl, hw.trans HW1.out, by omega, by omega, by omega⟩
      · go_roundw
        case rel =>
          have p0 : 0 ≤ r1 := by assumption
          have e1 := HR3.out p0
          have e2 := hbt.out
          exact ⟨k + 1, r1, by omega, by go_num, rfl, hw.trans HW1.out, p0, by omega⟩
        case measure => simp [intOf]; omega
    · have hkl : k = es.length := by omega
      go_wp2_with fail
      go_ret
      refine ⟨r, rfl, hw, by omega, by omega, fun _ => ?_⟩
      rw [hkl, List.take_length] at hrb
      simp only [Tr.bulk]
      omega

set_option maxRecDepth 100000 in
set_option maxHeartbeats 1000000 in
theorem toMethodS_of (es : List (List Tr)) (h5 : ∀ e ∈ es, e.length = 11) (H : ∀ e ∈ es, ToC 192 e) : ToSC 152 11 es := by
  intro s w hs hbk
  obtain ⟨a, cap, rfl, hl, hm⟩ := hs.shape
  unfold maxLen at hm
  have HS := Lib.hid hs
  have HH := Lib.hid H
  have H5 := Lib.hid h5
  have n0 : (0 : Int) ≤ es.length := by omega
  clear hs H h5
  go_enter Try.func152, Try.ntmps152
  go_wp2_with (refine wpList_make_rep rfl 92 (.tmp 6) rfl es.length rfl 219 Try.underlying92 11 184 iszb219 (by omega) (by omega) ?_; intro wm arr0 ha0 hob0 hx0 hz0; have HA0 := Lib.hid ha0; have HOB0 := Lib.hid hob0; have HX0 := Lib.hid hx0; have HZ0 := Lib.hid hz0; clear ha0 hob0 hx0 hz0)
  go_loopw [4] (fun i wr => ∃ (k : Nat) (arr : Array Value), k ≤ es.length ∧ i = .int .i64 k ∧ Ext w wr ∧ w.heap.size < wr.heap.size ∧ OB wr w.heap.size 219 arr ∧ arr.size = es.length * 11 ∧ Part wr w.heap.size arr 11 es k) (fun i _ => es.length - (intOf i).toNat)
  case atStart => exact ⟨0, arr0, Nat.zero_le _, rfl, HX0.out, by rw [HZ0.out]; omega, HOB0.out, HA0.out, Part.zero _ _ _ _ _⟩
  case round =>
    obtain ⟨k, arr, hk, rfl, hw, hgt, hob, hasz, hpart⟩ := hrel
    have HOB := Lib.hid hob
    have HAS := Lib.hid hasz
    have HP := Lib.hid hpart
    clear hob hasz hpart
    by_cases hlt : k < es.length
    · obtain ⟨b, off, cs, rfl, hb, hcs, hc⟩ := (HS.out.ext hw).at2 (k := k) (List.getElem?_eq_getElem hlt)
      have hmem : es[k] ∈ es := List.getElem_mem hlt
      have l5 := H5.out _ hmem
      have hbe := Tr.bulkAll_le hlt
      have HCS := Lib.hid hcs
      have HC := Lib.hid hc
      have HM := Lib.hid hmem
      have HL5 := Lib.hid l5
      have HI : Hid ((Try.prog.info? 240).map (·.size) = some cs.length) := by rw [← hcs.length, l5]; exact isz240
      clear hcs hc hmem l5
      go_wp2_with (refine wpList_load_rep rfl 240 (.tmp 18) rfl b (off + k * 11) rfl cs _ Try.underlying240 HI.out HC.out ?_)
      refine (HH.out _ HM.out _ _ HCS.out (by omega)).mono ?_
      rintro e w1 ⟨cs1, rfl, hw1, ho1⟩
      have HW1 := Lib.hid hw1
      have HO1 := Lib.hid ho1
      have hcl : cs1.length = 11 := ho1.1.trans HL5.out
      have HCL := Lib.hid hcl
      have hfit : 0 + k * 11 + cs1.length ≤ arr.size := by have := HAS.out; omega
      have HF := Lib.hid hfit
      clear hw1 ho1 hcl hfit
      go_wp2_with (refine wpList_store_rep rfl 219 (.tmp 21) (.tmp 20) rfl w.heap.size (k * 11) rfl cs1 rfl 219 arr (HOB.out.ext HW1.out) (by rw [HCL.out]; exact isz219) (by have := HF.out; omega) (HO1.out.rep.one) ?_; intro w2 hob2 hg2 hz2; have HOB2 := Lib.hid hob2; have HG2 := Lib.hid hg2; have HZ2 := Lib.hid hz2; clear hob2 hg2 hz2)
      go_roundw
      case rel =>
        have hfit : k * 11 + cs1.length ≤ arr.size := by have := HF.out; omega
        refine ⟨k + 1, _, by omega, by go_num, ?_, ?_, HOB2.out, by rw [splice_size hfit]; exact HAS.out, HP.out.step hgt HW1.out (List.getElem?_eq_getElem hlt) HO1.out HCL.out HAS.out HG2.out HOB2.out⟩
        · exact grown_ext (hw.trans HW1.out) HG2.out (Nat.le_refl _)
        · have := HW1.out.size
          have := HZ2.out
          omega
      case measure => simp [intOf]; omega
    · have hkl : k = es.length := by omega
      go_wp2_with fail
      go_ret
      subst hkl
      exact ⟨_, rfl, hw, (HP.out.done HOB.out H5.out (Nat.le_refl _) (by unfold maxLen; omega) (Nat.le_refl _)).mono fun x hx => ⟨hx.1, hx.2⟩⟩

set_option maxRecDepth 100000 in
set_option maxHeartbeats 1000000 in
theorem eqMethodS_of (es : List (List Tr)) (h5 : ∀ e ∈ es, e.length = 11) (H : ∀ e ∈ es, EqC 193 e) : EqSC 154 11 es := by
  intro s u w hs hu
  obtain ⟨a, cap, rfl, hl, hm⟩ := hs.shape
  obtain ⟨a', cap', rfl, hl', hm'⟩ := hu.shape
  unfold maxLen at hm hm'
  have HS := Lib.hid hs
  have HU := Lib.hid hu
  have HH := Lib.hid H
  have H5 := Lib.hid h5
  clear hs hu H h5
  go_enter Try.func154, Try.ntmps154
  go_wp2_with fail
  go_loopw [5] (fun i wr => ∃ k : Nat, k ≤ es.length ∧ i = .int .i64 k ∧ Ext w wr) (fun i _ => es.length - (intOf i).toNat)
  case atStart => exact ⟨0, Nat.zero_le _, rfl, .refl _⟩
  case round =>
    obtain ⟨k, hk, rfl, hw⟩ := hrel
    by_cases hlt : k < es.length
    · obtain ⟨b, off, cs, rfl, hb, hcs, hc⟩ := (HS.out.ext hw).at2 (k := k) (List.getElem?_eq_getElem hlt)
      obtain ⟨b', off', ds, rfl, hb', hds, hd⟩ := (HU.out.ext hw).at2 (k := k) (List.getElem?_eq_getElem hlt)
      have hmem : es[k] ∈ es := List.getElem_mem hlt
      have l5 := H5.out _ hmem
      have HCS := Lib.hid hcs
      have HDS := Lib.hid hds
      have HM := Lib.hid hmem
      have HC := Lib.hid hc
      have HD := Lib.hid hd
      have HI : Hid ((Try.prog.info? 219).map (·.size) = some cs.length) := by rw [← hcs.length, l5]; exact isz219
      have HJ : Hid ((Try.prog.info? 219).map (·.size) = some ds.length) := by rw [← hds.length, l5]; exact isz219
      clear hcs hds hc hd l5 hmem
      go_wp2_with fail
      have ki : (k : Int) < (es.length : Int) := by omega
      have k0 : (0 : Int) ≤ (k : Int) := by omega
      refine wp_region_still_tail 8 (by kernel_rfl) (by kernel_rfl) ?_
      simp only [List.take_succ_cons, List.take_zero, List.drop_succ_cons, List.drop_zero]
      change wpStill _ _ wr.drew _ _ _
      repeat (first
        | (refine wpStill_load_rep rfl 219 (.tmp 19) rfl b (off + k * 11) rfl cs _ Try.underlying219 HI.out HC.out ?_; simp only [Act.put])
        | (refine wpStill_load_rep rfl 219 (.tmp 23) rfl b' (off' + k * 11) rfl ds _ Try.underlying219 HJ.out HD.out ?_; simp only [Act.put])
        | still_step)
      refine wpStill_nil ?_
      change wpList _ _ _ _ _ wr.drew
      go_wp2_with fail
      refine (HH.out _ HM.out _ _ _ (HCS.out.ext (.drew (.refl _))) (HDS.out.ext (.drew (.refl _)))).mono ?_
      rintro e w1 ⟨rfl, hw1⟩
      have HW1 := Lib.hid hw1
      clear hw1
      go_wp2_with fail
      go_roundw
      case rel => exact ⟨k + 1, by omega, by go_num, hw.trans (.trans (.drew (.refl _)) HW1.out)⟩
      case measure => simp [intOf]; omega
    · go_wp2_with fail
      go_ret
      exact ⟨rfl, hw⟩

end Go.Proofs.Ytoifjkggpanceaa

namespace Go.Proofs.Ytoifjkggpanceaa
open Go.RowKit Go.Proofs

set_option maxRecDepth 100000 in
set_option maxHeartbeats 1000000 in
theorem szInstance_of (v0 : ByteArray) (es1 : List (List Tr)) (ts2 : List Tr) (l2 : ts2.length = 3) (es3 : List (List Tr)) (v4 : Bool) (v5 : Bool) (ts6 : List Tr) (l6 : ts6.length = 3) (es7 : List (List Tr)) (h1 : SzSC 149 1 es1) (h2 : SzC 16 ts2) (h3 : SzSC 132 4 es3) (h6 : SzC 16 ts6) (h7 : SzSC 150 11 es7) : SzC 74 ([.leaf (.string v0)] ++ ([.row 1 es1] ++ (ts2 ++ ([.row 4 es3] ++ ([.leaf (.bool v4)] ++ ([.leaf (.bool v5)] ++ (ts6 ++ ([.row 11 es7] ++ ([]))))))))) := by
  intro cs left w hr hl0 hl1
  obtain ⟨b0, r0, rfl, g0, n0⟩ := RepL.split hr
  obtain ⟨y0, rfl⟩ := list1 g0.length.symm
  obtain ⟨rfl, k0⟩ := g0.1.leaf_eq
  obtain ⟨b1, r1, rfl, g1, n1⟩ := RepL.split n0
  obtain ⟨y1, rfl⟩ := list1 g1.length.symm
  obtain ⟨a1, c1, rfl, -, -⟩ := g1.1.shape
  obtain ⟨b2, r2, rfl, g2, n2⟩ := RepL.split n1
  obtain ⟨x2_0, x2_1, x2_2, rfl⟩ := list3 (g2.length.symm.trans l2)
  obtain ⟨b3, r3, rfl, g3, n3⟩ := RepL.split n2
  obtain ⟨y3, rfl⟩ := list1 g3.length.symm
  obtain ⟨a3, c3, rfl, -, -⟩ := g3.1.shape
  obtain ⟨b4, r4, rfl, g4, n4⟩ := RepL.split n3
  obtain ⟨y4, rfl⟩ := list1 g4.length.symm
  obtain ⟨rfl, k4⟩ := g4.1.leaf_eq
  obtain ⟨b5, r5, rfl, g5, n5⟩ := RepL.split n4
  obtain ⟨y5, rfl⟩ := list1 g5.length.symm
  obtain ⟨rfl, k5⟩ := g5.1.leaf_eq
  obtain ⟨b6, r6, rfl, g6, n6⟩ := RepL.split n5
  obtain ⟨x6_0, x6_1, x6_2, rfl⟩ := list3 (g6.length.symm.trans l6)
  obtain ⟨b7, r7, rfl, g7, n7⟩ := RepL.split n6
  obtain ⟨y7, rfl⟩ := list1 g7.length.symm
  obtain ⟨a7, c7, rfl, -, -⟩ := g7.1.shape
  obtain rfl := RepL.nil_eq n7
  clear hr
  have q0 : v0.size ≤ 9223372036854775807 := by have := k0; simp only [LeafOk, maxLen] at this; omega
  have G0 := Lib.hid g0
  have K0 := Lib.hid k0
  clear g0 n0 k0
  have G1 := Lib.hid g1
  clear g1 n1
  have G2 := Lib.hid g2
  clear g2 n2
  have G3 := Lib.hid g3
  clear g3 n3
  have G4 := Lib.hid g4
  have K4 := Lib.hid k4
  clear g4 n4 k4
  have G5 := Lib.hid g5
  have K5 := Lib.hid k5
  clear g5 n5 k5
  have G6 := Lib.hid g6
  clear g6 n6
  have G7 := Lib.hid g7
  clear g7 n7
  simp only [List.cons_append, List.nil_append]
  go_enter Try.func74, Try.ntmps74
  go_wp2_with fail
  · go_ret
    exact ⟨-1, rfl, (.alloc (.refl _) _), by omega, by omega, by omega⟩
  refine (h1 _ _ _ (G1.out.1.ext (.alloc (.refl _) _)) (by omega) (by omega)).mono ?_
  rintro e w1 ⟨r1, rfl, hw1, ra1, rb1, rc1⟩
  have HW1 := Lib.hid hw1
  have HR1 := Lib.hid rc1
  have ob1 := (OB.new w _ _).ext hw1
  have OBH := Lib.hid ob1
  have ce1 := ob1.cell
  clear hw1 rc1 ob1
  go_wp2_with fail
  · go_ret
    exact ⟨-1, rfl, (Ext.trans (.alloc (.refl _) _) HW1.out), by omega, by omega, by omega⟩
  refine (h2 _ _ _ (G2.out.ext (Ext.trans (.alloc (.refl _) _) HW1.out)) (by omega) (by omega)).mono ?_
  rintro e w2 ⟨r2, rfl, hw2, ra2, rb2, rc2⟩
  have HW2 := Lib.hid hw2
  have HR2 := Lib.hid rc2
  have ob2 := OBH.out.ext hw2
  clear OBH ce1
  have OBH := Lib.hid ob2
  have ce2 := ob2.cell
  clear hw2 rc2 ob2
  go_wp2_with fail
  · go_ret
    exact ⟨-1, rfl, (Ext.trans (Ext.trans (.alloc (.refl _) _) HW1.out) HW2.out), by omega, by omega, by omega⟩
  refine (h3 _ _ _ (G3.out.1.ext (Ext.trans (Ext.trans (.alloc (.refl _) _) HW1.out) HW2.out)) (by omega) (by omega)).mono ?_
  rintro e w3 ⟨r3, rfl, hw3, ra3, rb3, rc3⟩
  have HW3 := Lib.hid hw3
  have HR3 := Lib.hid rc3
  have ob3 := OBH.out.ext hw3
  clear OBH ce2
  have OBH := Lib.hid ob3
  have ce3 := ob3.cell
  clear hw3 rc3 ob3
  go_wp2_with fail
  · go_ret
    exact ⟨-1, rfl, (Ext.trans (Ext.trans (Ext.trans (.alloc (.refl _) _) HW1.out) HW2.out) HW3.out), by omega, by omega, by omega⟩
  refine (h6 _ _ _ (G6.out.ext (Ext.trans (Ext.trans (Ext.trans (.alloc (.refl _) _) HW1.out) HW2.out) HW3.out)) (by omega) (by omega)).mono ?_
  rintro e w6 ⟨r6, rfl, hw6, ra6, rb6, rc6⟩
  have HW6 := Lib.hid hw6
  have HR6 := Lib.hid rc6
  have ob6 := OBH.out.ext hw6
  clear OBH ce3
  have OBH := Lib.hid ob6
  have ce6 := ob6.cell
  clear hw6 rc6 ob6
  go_wp2_with fail
  · go_ret
    exact ⟨-1, rfl, (Ext.trans (Ext.trans (Ext.trans (Ext.trans (.alloc (.refl _) _) HW1.out) HW2.out) HW3.out) HW6.out), by omega, by omega, by omega⟩
  refine (h7 _ _ _ (G7.out.1.ext (Ext.trans (Ext.trans (Ext.trans (Ext.trans (.alloc (.refl _) _) HW1.out) HW2.out) HW3.out) HW6.out)) (by omega) (by omega)).mono ?_
  rintro e w7 ⟨r7, rfl, hw7, ra7, rb7, rc7⟩
  have HW7 := Lib.hid hw7
  have HR7 := Lib.hid rc7
  have ob7 := OBH.out.ext hw7
  clear OBH ce6
  have OBH := Lib.hid ob7
  have ce7 := ob7.cell
  clear hw7 rc7 ob7
  go_wp2_with fail
  · go_ret
    exact ⟨-1, rfl, (Ext.trans (Ext.trans (Ext.trans (Ext.trans (Ext.trans (.alloc (.refl _) _) HW1.out) HW2.out) HW3.out) HW6.out) HW7.out), by omega, by omega, by omega⟩
  go_ret
  refine ⟨_, rfl, (Ext.trans (Ext.trans (Ext.trans (Ext.trans (Ext.trans (.alloc (.refl _) _) HW1.out) HW2.out) HW3.out) HW6.out) HW7.out), by omega, by omega, fun hp => ?_⟩
  have e1 := HR1.out (by omega)
  have e2 := HR2.out (by omega)
  have e3 := HR3.out (by omega)
  have e6 := HR6.out (by omega)
  have e7 := HR7.out (by omega)
  simp only [Tr.bulkL_append, Tr.bulkL, Tr.bulk]
  simp only [Tr.bulk] at e1 e3 e7
  omega

set_option maxRecDepth 100000 in
set_option maxHeartbeats 1000000 in
theorem toInstance_of (v0 : ByteArray) (es1 : List (List Tr)) (ts2 : List Tr) (l2 : ts2.length = 3) (es3 : List (List Tr)) (v4 : Bool) (v5 : Bool) (ts6 : List Tr) (l6 : ts6.length = 3) (es7 : List (List Tr)) (h1 : ToSC 151 1 es1) (h2 : ToC 19 ts2) (h3 : ToSC 134 4 es3) (h6 : ToC 19 ts6) (h7 : ToSC 152 11 es7) : ToC 75 ([.leaf (.string v0)] ++ ([.row 1 es1] ++ (ts2 ++ ([.row 4 es3] ++ ([.leaf (.bool v4)] ++ ([.leaf (.bool v5)] ++ (ts6 ++ ([.row 11 es7] ++ ([]))))))))) := by
  intro cs w hr hbk
  simp only [Tr.bulkL_append, Tr.bulkL, Tr.bulk] at hbk
  obtain ⟨b0, r0, rfl, g0, n0⟩ := RepL.split hr
  obtain ⟨y0, rfl⟩ := list1 g0.length.symm
  obtain ⟨rfl, k0⟩ := g0.1.leaf_eq
  obtain ⟨b1, r1, rfl, g1, n1⟩ := RepL.split n0
  obtain ⟨y1, rfl⟩ := list1 g1.length.symm
  obtain ⟨a1, c1, rfl, -, -⟩ := g1.1.shape
  obtain ⟨b2, r2, rfl, g2, n2⟩ := RepL.split n1
  obtain ⟨x2_0, x2_1, x2_2, rfl⟩ := list3 (g2.length.symm.trans l2)
  obtain ⟨b3, r3, rfl, g3, n3⟩ := RepL.split n2
  obtain ⟨y3, rfl⟩ := list1 g3.length.symm
  obtain ⟨a3, c3, rfl, -, -⟩ := g3.1.shape
  obtain ⟨b4, r4, rfl, g4, n4⟩ := RepL.split n3
  obtain ⟨y4, rfl⟩ := list1 g4.length.symm
  obtain ⟨rfl, k4⟩ := g4.1.leaf_eq
  obtain ⟨b5, r5, rfl, g5, n5⟩ := RepL.split n4
  obtain ⟨y5, rfl⟩ := list1 g5.length.symm
  obtain ⟨rfl, k5⟩ := g5.1.leaf_eq
  obtain ⟨b6, r6, rfl, g6, n6⟩ := RepL.split n5
  obtain ⟨x6_0, x6_1, x6_2, rfl⟩ := list3 (g6.length.symm.trans l6)
  obtain ⟨b7, r7, rfl, g7, n7⟩ := RepL.split n6
  obtain ⟨y7, rfl⟩ := list1 g7.length.symm
  obtain ⟨a7, c7, rfl, -, -⟩ := g7.1.shape
  obtain rfl := RepL.nil_eq n7
  clear hr
  have G0 := Lib.hid g0
  have K0 := Lib.hid k0
  clear g0 n0 k0
  have G1 := Lib.hid g1
  clear g1 n1
  have G2 := Lib.hid g2
  clear g2 n2
  have G3 := Lib.hid g3
  clear g3 n3
  have G4 := Lib.hid g4
  have K4 := Lib.hid k4
  clear g4 n4 k4
  have G5 := Lib.hid g5
  have K5 := Lib.hid k5
  clear g5 n5 k5
  have G6 := Lib.hid g6
  clear g6 n6
  have G7 := Lib.hid g7
  clear g7 n7
  simp only [List.cons_append, List.nil_append]
  go_enter Try.func75, Try.ntmps75
  go_wp2_with fail
  refine (h1 _ _ (G1.out.1.ext (.alloc (.alloc (.alloc (.refl _) _) _) _)) (by omega)).mono ?_
  rintro e w1 ⟨d1, rfl, hw1, ho1⟩
  obtain ⟨da1, dc1, rfl, -, -⟩ := ho1.rep.shape
  have HW1 := Lib.hid hw1
  have HO1 := Lib.hid ho1
  have ob1 := (Three.new w _ _ _ _ _ _).ext hw1
  have OBHw1 := Lib.hid ob1
  have cew1 := ob1.o0.cell
  have hzw1 : w.heap.size < w1.heap.size := ob1.o0.lt
  clear hw1 ob1 ho1
  go_wp2_with (first
    | (refine wpList_store_cell rfl 66 _ _ rfl (w.heap.size + 1 + 1) 1 rfl (.slice da1 es1.length dc1) rfl rfl 94 _ OBHw1.out.o2 isz66 (by simp [splice]) rfl ?_; intro u1 hou1 hgu1 hzu1; have OBHu1 := Lib.hid (OBHw1.out.grown hgu1 hou1 (by omega) (by omega)); have HGu1 := Lib.hid hgu1; have ceu1 := OBHu1.out.o0.cell; have hqu1 : w.heap.size < u1.heap.size := OBHu1.out.o0.lt; clear hou1 hgu1 hzu1 OBHw1 cew1))
  refine (h2 _ _ (G2.out.ext (grown_ext (Ext.trans (.alloc (.alloc (.alloc (.refl _) _) _) _) HW1.out) HGu1.out (by omega))) (by omega)).mono ?_
  rintro e w2 ⟨d2, rfl, hw2, ho2⟩
  obtain ⟨d2_0, d2_1, d2_2, rfl⟩ := list3 (ho2.1.trans l2)
  have HW2 := Lib.hid hw2
  have HO2 := Lib.hid ho2
  have ob2 := OBHu1.out.ext hw2
  clear OBHu1 ceu1
  have OBHw2 := Lib.hid ob2
  have cew2 := ob2.o0.cell
  have hzw2 : w.heap.size < w2.heap.size := ob2.o0.lt
  clear hw2 ob2 ho2
  go_wp2_with (first
    | (refine wpList_store_rep rfl 32 _ _ rfl (w.heap.size + 1 + 1) 2 rfl [d2_0, d2_1, d2_2] rfl 94 _ OBHw2.out.o2 isz32 (by simp [splice]) HO2.out.rep.one ?_; intro u2 hou2 hgu2 hzu2; have OBHu2 := Lib.hid (OBHw2.out.grown hgu2 hou2 (by omega) (by omega)); have HGu2 := Lib.hid hgu2; have ceu2 := OBHu2.out.o0.cell; have hqu2 : w.heap.size < u2.heap.size := OBHu2.out.o0.lt; clear hou2 hgu2 hzu2 OBHw2 cew2))
  refine (h3 _ _ (G3.out.1.ext (grown_ext (Ext.trans (grown_ext (Ext.trans (.alloc (.alloc (.alloc (.refl _) _) _) _) HW1.out) HGu1.out (by omega)) HW2.out) HGu2.out (by omega))) (by omega)).mono ?_
  rintro e w3 ⟨d3, rfl, hw3, ho3⟩
  obtain ⟨da3, dc3, rfl, -, -⟩ := ho3.rep.shape
  have HW3 := Lib.hid hw3
  have HO3 := Lib.hid ho3
  have ob3 := OBHu2.out.ext hw3
  clear OBHu2 ceu2
  have OBHw3 := Lib.hid ob3
  have cew3 := ob3.o0.cell
  have hzw3 : w.heap.size < w3.heap.size := ob3.o0.lt
  clear hw3 ob3 ho3
  go_wp2_with (first
    | (refine wpList_store_cell rfl 86 _ _ rfl (w.heap.size + 1 + 1) 5 rfl (.slice da3 es3.length dc3) rfl rfl 94 _ OBHw3.out.o2 isz86 (by simp [splice]) rfl ?_; intro u3 hou3 hgu3 hzu3; have OBHu3 := Lib.hid (OBHw3.out.grown hgu3 hou3 (by omega) (by omega)); have HGu3 := Lib.hid hgu3; have ceu3 := OBHu3.out.o0.cell; have hqu3 : w.heap.size < u3.heap.size := OBHu3.out.o0.lt; clear hou3 hgu3 hzu3 OBHw3 cew3)
    | (refine wpList_store_cell rfl 4 _ _ rfl (w.heap.size + 1 + 1) 6 rfl (.bool v4) rfl rfl 94 _ OBHu3.out.o2 isz4 (by simp [splice]) rfl ?_; intro u4 hou4 hgu4 hzu4; have OBHu4 := Lib.hid (OBHu3.out.grown hgu4 hou4 (by omega) (by omega)); have HGu4 := Lib.hid hgu4; have ceu4 := OBHu4.out.o0.cell; have hqu4 : w.heap.size < u4.heap.size := OBHu4.out.o0.lt; clear hou4 hgu4 hzu4 OBHu3 ceu3)
    | (refine wpList_store_cell rfl 4 _ _ rfl (w.heap.size + 1 + 1) 7 rfl (.bool v5) rfl rfl 94 _ OBHu4.out.o2 isz4 (by simp [splice]) rfl ?_; intro u5 hou5 hgu5 hzu5; have OBHu5 := Lib.hid (OBHu4.out.grown hgu5 hou5 (by omega) (by omega)); have HGu5 := Lib.hid hgu5; have ceu5 := OBHu5.out.o0.cell; have hqu5 : w.heap.size < u5.heap.size := OBHu5.out.o0.lt; clear hou5 hgu5 hzu5 OBHu4 ceu4))
  refine (h6 _ _ (G6.out.ext (grown_ext (grown_ext (grown_ext (Ext.trans (grown_ext (Ext.trans (grown_ext (Ext.trans (.alloc (.alloc (.alloc (.refl _) _) _) _) HW1.out) HGu1.out (by omega)) HW2.out) HGu2.out (by omega)) HW3.out) HGu3.out (by omega)) HGu4.out (by omega)) HGu5.out (by omega))) (by omega)).mono ?_
  rintro e w6 ⟨d6, rfl, hw6, ho6⟩
  obtain ⟨d6_0, d6_1, d6_2, rfl⟩ := list3 (ho6.1.trans l6)
  have HW6 := Lib.hid hw6
  have HO6 := Lib.hid ho6
  have ob6 := OBHu5.out.ext hw6
  clear OBHu5 ceu5
  have OBHw6 := Lib.hid ob6
  have cew6 := ob6.o0.cell
  have hzw6 : w.heap.size < w6.heap.size := ob6.o0.lt
  clear hw6 ob6 ho6
  go_wp2_with (first
    | (refine wpList_store_rep rfl 32 _ _ rfl (w.heap.size + 1 + 1) 8 rfl [d6_0, d6_1, d6_2] rfl 94 _ OBHw6.out.o2 isz32 (by simp [splice]) HO6.out.rep.one ?_; intro u6 hou6 hgu6 hzu6; have OBHu6 := Lib.hid (OBHw6.out.grown hgu6 hou6 (by omega) (by omega)); have HGu6 := Lib.hid hgu6; have ceu6 := OBHu6.out.o0.cell; have hqu6 : w.heap.size < u6.heap.size := OBHu6.out.o0.lt; clear hou6 hgu6 hzu6 OBHw6 cew6))
  refine (h7 _ _ (G7.out.1.ext (grown_ext (Ext.trans (grown_ext (grown_ext (grown_ext (Ext.trans (grown_ext (Ext.trans (grown_ext (Ext.trans (.alloc (.alloc (.alloc (.refl _) _) _) _) HW1.out) HGu1.out (by omega)) HW2.out) HGu2.out (by omega)) HW3.out) HGu3.out (by omega)) HGu4.out (by omega)) HGu5.out (by omega)) HW6.out) HGu6.out (by omega))) (by omega)).mono ?_
  rintro e w7 ⟨d7, rfl, hw7, ho7⟩
  obtain ⟨da7, dc7, rfl, -, -⟩ := ho7.rep.shape
  have HW7 := Lib.hid hw7
  have HO7 := Lib.hid ho7
  have ob7 := OBHu6.out.ext hw7
  clear OBHu6 ceu6
  have OBHw7 := Lib.hid ob7
  have cew7 := ob7.o0.cell
  have hzw7 : w.heap.size < w7.heap.size := ob7.o0.lt
  clear hw7 ob7 ho7
  have hone : Hid (∀ v ∈ ([.string v0, .slice da1 es1.length dc1, d2_0, d2_1, d2_2, .slice da3 es3.length dc3, .bool v4, .bool v5, d6_0, d6_1, d6_2, .slice da7 es7.length dc7] : List Value), v.oneCell' = true) := by
    intro v hv
    simp only [List.mem_cons, List.not_mem_nil, or_false] at hv
    rcases hv with rfl | rfl | rfl | rfl | rfl | rfl | rfl | rfl | rfl | rfl | rfl | rfl <;> first | rfl | (refine HO2.out.rep.one _ ?_; simp; done) | (refine HO6.out.rep.one _ ?_; simp; done)
  go_wp2_with (first
    | (refine wpList_store_cell rfl 92 _ _ rfl (w.heap.size + 1 + 1) 11 rfl (.slice da7 es7.length dc7) rfl rfl 94 _ OBHw7.out.o2 isz92 (by simp [splice]) rfl ?_; intro u7 hou7 hgu7 hzu7; have OBHu7 := Lib.hid (OBHw7.out.grown hgu7 hou7 (by omega) (by omega)); have HGu7 := Lib.hid hgu7; have ceu7 := OBHu7.out.o0.cell; have hqu7 : w.heap.size < u7.heap.size := OBHu7.out.o0.lt; clear hou7 hgu7 hzu7 OBHw7 cew7)
    | (refine wpList_load_rep rfl 94 _ rfl (w.heap.size + 1 + 1) 0 rfl [.string v0, .slice da1 es1.length dc1, d2_0, d2_1, d2_2, .slice da3 es3.length dc3, .bool v4, .bool v5, d6_0, d6_1, d6_2, .slice da7 es7.length dc7] _ Try.underlying94 isz94 (fun j v hv => by rw [OBHu7.out.o2.cell, Nat.zero_add]; simpa [splice] using hv) ?_)
    | (refine wpList_store_rep rfl 94 _ _ rfl (w.heap.size + 1) 0 rfl [.string v0, .slice da1 es1.length dc1, d2_0, d2_1, d2_2, .slice da3 es3.length dc3, .bool v4, .bool v5, d6_0, d6_1, d6_2, .slice da7 es7.length dc7] rfl 94 _ OBHu7.out.o1 isz94 (by simp) hone.out ?_; intro wz hoz hgz hzz; have HOZ := Lib.hid hoz; have HGZ := Lib.hid hgz; clear hoz hgz hzz))
  have HOF : OB wz (w.heap.size + 1) 94 ⟨[.string v0, .slice da1 es1.length dc1, d2_0, d2_1, d2_2, .slice da3 es3.length dc3, .bool v4, .bool v5, d6_0, d6_1, d6_2, .slice da7 es7.length dc7]⟩ := HOZ.out
  refine bodyPost_ret (results_cell_row Try.results75 _ _ (w.heap.size + 1) 94 ⟨[.string v0, .slice da1 es1.length dc1, d2_0, d2_1, d2_2, .slice da3 es3.length dc3, .bool v4, .bool v5, d6_0, d6_1, d6_2, .slice da7 es7.length dc7]⟩ _ _ rfl HOF Try.underlying94 rfl isz94) rfl ⟨[.string v0, .slice da1 es1.length dc1, d2_0, d2_1, d2_2, .slice da3 es3.length dc3, .bool v4, .bool v5, d6_0, d6_1, d6_2, .slice da7 es7.length dc7], rfl, (grown_ext (grown_ext (Ext.trans (grown_ext (Ext.trans (grown_ext (grown_ext (grown_ext (Ext.trans (grown_ext (Ext.trans (grown_ext (Ext.trans (.alloc (.alloc (.alloc (.refl _) _) _) _) HW1.out) HGu1.out (by omega)) HW2.out) HGu2.out (by omega)) HW3.out) HGu3.out (by omega)) HGu4.out (by omega)) HGu5.out (by omega)) HW6.out) HGu6.out (by omega)) HW7.out) HGu7.out (by omega)) HGZ.out (by omega)), ?_⟩
  have sw1 := HW1.out.size
  have su1 := HGu1.out.size
  have sw2 := HW2.out.size
  have su2 := HGu2.out.size
  have sw3 := HW3.out.size
  have su3 := HGu3.out.size
  have su4 := HGu4.out.size
  have su5 := HGu5.out.size
  have sw6 := HW6.out.size
  have su6 := HGu6.out.size
  have sw7 := HW7.out.size
  have su7 := HGu7.out.size
  have swz := HGZ.out.size
  simp only [World.size_alloc] at sw1
  have ow1 := HO1.out.keeps (lo := w.heap.size + 1 + 1 + 1) (Keeps.trans (Keeps.of_grown HGu1.out (by omega)) (Keeps.trans (Keeps.of_ext HW2.out) (Keeps.trans (Keeps.of_grown HGu2.out (by omega)) (Keeps.trans (Keeps.of_ext HW3.out) (Keeps.trans (Keeps.of_grown HGu3.out (by omega)) (Keeps.trans (Keeps.of_grown HGu4.out (by omega)) (Keeps.trans (Keeps.of_grown HGu5.out (by omega)) (Keeps.trans (Keeps.of_ext HW6.out) (Keeps.trans (Keeps.of_grown HGu6.out (by omega)) (Keeps.trans (Keeps.of_ext HW7.out) (Keeps.trans (Keeps.of_grown HGu7.out (by omega)) (Keeps.of_grown HGZ.out (by omega))))))))))))) (by intro x hx; simp only [Between, World.size_alloc] at hx; omega)
  have ow2 := HO2.out.keeps (lo := w.heap.size + 1 + 1 + 1) (Keeps.trans (Keeps.of_grown HGu2.out (by omega)) (Keeps.trans (Keeps.of_ext HW3.out) (Keeps.trans (Keeps.of_grown HGu3.out (by omega)) (Keeps.trans (Keeps.of_grown HGu4.out (by omega)) (Keeps.trans (Keeps.of_grown HGu5.out (by omega)) (Keeps.trans (Keeps.of_ext HW6.out) (Keeps.trans (Keeps.of_grown HGu6.out (by omega)) (Keeps.trans (Keeps.of_ext HW7.out) (Keeps.trans (Keeps.of_grown HGu7.out (by omega)) (Keeps.of_grown HGZ.out (by omega))))))))))) (by intro x hx; simp only [Between, World.size_alloc] at hx; omega)
  have ow3 := HO3.out.keeps (lo := w.heap.size + 1 + 1 + 1) (Keeps.trans (Keeps.of_grown HGu3.out (by omega)) (Keeps.trans (Keeps.of_grown HGu4.out (by omega)) (Keeps.trans (Keeps.of_grown HGu5.out (by omega)) (Keeps.trans (Keeps.of_ext HW6.out) (Keeps.trans (Keeps.of_grown HGu6.out (by omega)) (Keeps.trans (Keeps.of_ext HW7.out) (Keeps.trans (Keeps.of_grown HGu7.out (by omega)) (Keeps.of_grown HGZ.out (by omega))))))))) (by intro x hx; simp only [Between, World.size_alloc] at hx; omega)
  have ow6 := HO6.out.keeps (lo := w.heap.size + 1 + 1 + 1) (Keeps.trans (Keeps.of_grown HGu6.out (by omega)) (Keeps.trans (Keeps.of_ext HW7.out) (Keeps.trans (Keeps.of_grown HGu7.out (by omega)) (Keeps.of_grown HGZ.out (by omega))))) (by intro x hx; simp only [Between, World.size_alloc] at hx; omega)
  have ow7 := HO7.out.keeps (lo := w.heap.size + 1 + 1 + 1) (Keeps.trans (Keeps.of_grown HGu7.out (by omega)) (Keeps.of_grown HGZ.out (by omega))) (by intro x hx; simp only [Between, World.size_alloc] at hx; omega)
  have hall := OwnL.cons_leaf K0.out (OwnL.append (OwnL.one ow1) (OwnL.append (ow2) (OwnL.append (OwnL.one ow3) (OwnL.cons_leaf K4.out (OwnL.cons_leaf K5.out (OwnL.append (ow6) (OwnL.append (OwnL.one ow7) (OwnL.nil wz (fun _ => False)) (by intro x hx hy; simp only [Between, World.size_alloc, or_false] at hx hy <;> omega)) (by intro x hx hy; simp only [Between, World.size_alloc, or_false] at hx hy <;> omega)))) (by intro x hx hy; simp only [Between, World.size_alloc, or_false] at hx hy <;> omega)) (by intro x hx hy; simp only [Between, World.size_alloc, or_false] at hx hy <;> omega)) (by intro x hx hy; simp only [Between, World.size_alloc, or_false] at hx hy <;> omega))
  exact hall.mono (by intro x hx; simp only [Between, World.size_alloc, or_false] at hx ⊢; omega)

set_option maxRecDepth 100000 in
set_option maxHeartbeats 1000000 in
theorem eqInstance_of (v0 : ByteArray) (es1 : List (List Tr)) (ts2 : List Tr) (l2 : ts2.length = 3) (es3 : List (List Tr)) (v4 : Bool) (v5 : Bool) (ts6 : List Tr) (l6 : ts6.length = 3) (es7 : List (List Tr)) (h1 : EqSC 153 1 es1) (h2 : EqC 22 ts2) (h3 : EqSC 51 4 es3) (h6 : EqC 22 ts6) (h7 : EqSC 154 11 es7) : EqC 76 ([.leaf (.string v0)] ++ ([.row 1 es1] ++ (ts2 ++ ([.row 4 es3] ++ ([.leaf (.bool v4)] ++ ([.leaf (.bool v5)] ++ (ts6 ++ ([.row 11 es7] ++ ([]))))))))) := by
  intro cs ds w hr hr'
  obtain ⟨b0, r0, rfl, g0, n0⟩ := RepL.split hr
  obtain ⟨y0, rfl⟩ := list1 g0.length.symm
  obtain ⟨rfl, k0⟩ := g0.1.leaf_eq
  obtain ⟨b1, r1, rfl, g1, n1⟩ := RepL.split n0
  obtain ⟨y1, rfl⟩ := list1 g1.length.symm
  obtain ⟨a1, c1, rfl, -, -⟩ := g1.1.shape
  obtain ⟨b2, r2, rfl, g2, n2⟩ := RepL.split n1
  obtain ⟨x2_0, x2_1, x2_2, rfl⟩ := list3 (g2.length.symm.trans l2)
  obtain ⟨b3, r3, rfl, g3, n3⟩ := RepL.split n2
  obtain ⟨y3, rfl⟩ := list1 g3.length.symm
  obtain ⟨a3, c3, rfl, -, -⟩ := g3.1.shape
  obtain ⟨b4, r4, rfl, g4, n4⟩ := RepL.split n3
  obtain ⟨y4, rfl⟩ := list1 g4.length.symm
  obtain ⟨rfl, k4⟩ := g4.1.leaf_eq
  obtain ⟨b5, r5, rfl, g5, n5⟩ := RepL.split n4
  obtain ⟨y5, rfl⟩ := list1 g5.length.symm
  obtain ⟨rfl, k5⟩ := g5.1.leaf_eq
  obtain ⟨b6, r6, rfl, g6, n6⟩ := RepL.split n5
  obtain ⟨x6_0, x6_1, x6_2, rfl⟩ := list3 (g6.length.symm.trans l6)
  obtain ⟨b7, r7, rfl, g7, n7⟩ := RepL.split n6
  obtain ⟨y7, rfl⟩ := list1 g7.length.symm
  obtain ⟨a7, c7, rfl, -, -⟩ := g7.1.shape
  obtain rfl := RepL.nil_eq n7
  clear hr
  obtain ⟨zb0, zr0, rfl, zg0, zn0⟩ := RepL.split hr'
  obtain ⟨zy0, rfl⟩ := list1 zg0.length.symm
  obtain ⟨rfl, zk0⟩ := zg0.1.leaf_eq
  obtain ⟨zb1, zr1, rfl, zg1, zn1⟩ := RepL.split zn0
  obtain ⟨zy1, rfl⟩ := list1 zg1.length.symm
  obtain ⟨za1, zc1, rfl, -, -⟩ := zg1.1.shape
  obtain ⟨zb2, zr2, rfl, zg2, zn2⟩ := RepL.split zn1
  obtain ⟨zx2_0, zx2_1, zx2_2, rfl⟩ := list3 (zg2.length.symm.trans l2)
  obtain ⟨zb3, zr3, rfl, zg3, zn3⟩ := RepL.split zn2
  obtain ⟨zy3, rfl⟩ := list1 zg3.length.symm
  obtain ⟨za3, zc3, rfl, -, -⟩ := zg3.1.shape
  obtain ⟨zb4, zr4, rfl, zg4, zn4⟩ := RepL.split zn3
  obtain ⟨zy4, rfl⟩ := list1 zg4.length.symm
  obtain ⟨rfl, zk4⟩ := zg4.1.leaf_eq
  obtain ⟨zb5, zr5, rfl, zg5, zn5⟩ := RepL.split zn4
  obtain ⟨zy5, rfl⟩ := list1 zg5.length.symm
  obtain ⟨rfl, zk5⟩ := zg5.1.leaf_eq
  obtain ⟨zb6, zr6, rfl, zg6, zn6⟩ := RepL.split zn5
  obtain ⟨zx6_0, zx6_1, zx6_2, rfl⟩ := list3 (zg6.length.symm.trans l6)
  obtain ⟨zb7, zr7, rfl, zg7, zn7⟩ := RepL.split zn6
  obtain ⟨zy7, rfl⟩ := list1 zg7.length.symm
  obtain ⟨za7, zc7, rfl, -, -⟩ := zg7.1.shape
  obtain rfl := RepL.nil_eq zn7
  clear hr'
  have G0 := Lib.hid g0
  have K0 := Lib.hid k0
  clear g0 n0 k0
  have G1 := Lib.hid g1
  clear g1 n1
  have G2 := Lib.hid g2
  clear g2 n2
  have G3 := Lib.hid g3
  clear g3 n3
  have G4 := Lib.hid g4
  have K4 := Lib.hid k4
  clear g4 n4 k4
  have G5 := Lib.hid g5
  have K5 := Lib.hid k5
  clear g5 n5 k5
  have G6 := Lib.hid g6
  clear g6 n6
  have G7 := Lib.hid g7
  clear g7 n7
  have zG0 := Lib.hid zg0
  have zK0 := Lib.hid zk0
  clear zg0 zn0 zk0
  have zG1 := Lib.hid zg1
  clear zg1 zn1
  have zG2 := Lib.hid zg2
  clear zg2 zn2
  have zG3 := Lib.hid zg3
  clear zg3 zn3
  have zG4 := Lib.hid zg4
  have zK4 := Lib.hid zk4
  clear zg4 zn4 zk4
  have zG5 := Lib.hid zg5
  have zK5 := Lib.hid zk5
  clear zg5 zn5 zk5
  have zG6 := Lib.hid zg6
  clear zg6 zn6
  have zG7 := Lib.hid zg7
  clear zg7 zn7
  simp only [List.cons_append, List.nil_append]
  go_enter Try.func76, Try.ntmps76
  go_wp2_with fail
  refine (h1 _ _ _ (G1.out.1.ext (.alloc (.alloc (.refl _) _) _)) (zG1.out.1.ext (.alloc (.alloc (.refl _) _) _))).mono ?_
  rintro e w1 ⟨rfl, hw1⟩
  have HW1 := Lib.hid hw1
  have ob1 := (Two.new w _ _ _ _).ext hw1
  have OBH := Lib.hid ob1
  have ce1 := ob1.o0.cell
  have cf1 := ob1.o1.cell
  clear hw1 ob1
  go_wp2_with fail
  refine (h2 _ _ _ (G2.out.ext (Ext.trans (.alloc (.alloc (.refl _) _) _) HW1.out)) (zG2.out.ext (Ext.trans (.alloc (.alloc (.refl _) _) _) HW1.out))).mono ?_
  rintro e w2 ⟨rfl, hw2⟩
  have HW2 := Lib.hid hw2
  have ob2 := OBH.out.ext hw2
  clear OBH ce1 cf1
  have OBH := Lib.hid ob2
  have ce2 := ob2.o0.cell
  have cf2 := ob2.o1.cell
  clear hw2 ob2
  go_wp2_with fail
  refine (h3 _ _ _ (G3.out.1.ext (Ext.trans (Ext.trans (.alloc (.alloc (.refl _) _) _) HW1.out) HW2.out)) (zG3.out.1.ext (Ext.trans (Ext.trans (.alloc (.alloc (.refl _) _) _) HW1.out) HW2.out))).mono ?_
  rintro e w3 ⟨rfl, hw3⟩
  have HW3 := Lib.hid hw3
  have ob3 := OBH.out.ext hw3
  clear OBH ce2 cf2
  have OBH := Lib.hid ob3
  have ce3 := ob3.o0.cell
  have cf3 := ob3.o1.cell
  clear hw3 ob3
  go_wp2_with fail
  refine (h6 _ _ _ (G6.out.ext (Ext.trans (Ext.trans (Ext.trans (.alloc (.alloc (.refl _) _) _) HW1.out) HW2.out) HW3.out)) (zG6.out.ext (Ext.trans (Ext.trans (Ext.trans (.alloc (.alloc (.refl _) _) _) HW1.out) HW2.out) HW3.out))).mono ?_
  rintro e w6 ⟨rfl, hw6⟩
  have HW6 := Lib.hid hw6
  have ob6 := OBH.out.ext hw6
  clear OBH ce3 cf3
  have OBH := Lib.hid ob6
  have ce6 := ob6.o0.cell
  have cf6 := ob6.o1.cell
  clear hw6 ob6
  go_wp2_with fail
  refine (h7 _ _ _ (G7.out.1.ext (Ext.trans (Ext.trans (Ext.trans (Ext.trans (.alloc (.alloc (.refl _) _) _) HW1.out) HW2.out) HW3.out) HW6.out)) (zG7.out.1.ext (Ext.trans (Ext.trans (Ext.trans (Ext.trans (.alloc (.alloc (.refl _) _) _) HW1.out) HW2.out) HW3.out) HW6.out))).mono ?_
  rintro e w7 ⟨rfl, hw7⟩
  have HW7 := Lib.hid hw7
  have ob7 := OBH.out.ext hw7
  clear OBH ce6 cf6
  have OBH := Lib.hid ob7
  have ce7 := ob7.o0.cell
  have cf7 := ob7.o1.cell
  clear hw7 ob7
  go_wp2_with fail
  go_ret
  exact ⟨rfl, (Ext.trans (Ext.trans (Ext.trans (Ext.trans (Ext.trans (.alloc (.alloc (.refl _) _) _) HW1.out) HW2.out) HW3.out) HW6.out) HW7.out)⟩

end Go.Proofs.Ytoifjkggpanceaa

namespace Go.Proofs.Ytoifjkggpanceaa
open Go.RowKit Go.Proofs

set_option maxRecDepth 100000 in
set_option maxHeartbeats 1000000 in
theorem szIntS_all (l : List Int) : SzSC 133 1 (intTrs l) := by
  intro s left w hs h0 h1
  obtain ⟨a, cap, rfl, hl, hm⟩ := hs.shape
  have hb := intTrs_bulk l
  rw [intTrs_len] at *
  unfold maxLen at hm
  clear hs
  have HB : Hid (Tr.bulk (.row 1 (intTrs l)) = l.length) := by show _ = _; simp only [Tr.bulk, hb, intTrs_len]; rfl
  clear hb
  go_enter Try.func133, Try.ntmps133
  go_wp2_with fail
  · go_ret
    exact ⟨-1, rfl, .refl _, by omega, by omega, by omega⟩
  · go_ret
    exact ⟨_, rfl, .refl _, by omega, by omega, fun _ => by rw [HB.out]; omega⟩

set_option maxRecDepth 100000 in
set_option maxHeartbeats 1000000 in
theorem szStringS_all (l : List ByteArray) : SzSC 149 1 (strTrs l) := by
  intro s left w hs h0 h1
  obtain ⟨a, cap, rfl, hl, hm⟩ := hs.shape
  rw [strTrs_len] at *
  unfold maxLen at hm
  have HS := Lib.hid hs
  clear hs
  go_enter Try.func149, Try.ntmps149
  go_wp2_with fail
  · go_ret
    exact ⟨-1, rfl, .refl _, by omega, by omega, by omega⟩
  go_loopw [1, 5] (fun lv i wr => ∃ (k : Nat) (r : Int), k ≤ l.length ∧ i = .int .i64 k ∧ lv = .int .i64 r ∧ wr = w ∧ 0 ≤ r ∧ Hid (r + l.length + Tr.bulkAll ((strTrs l).take k) ≤ left) ∧ r ≤ left) (fun _ i _ => l.length - (intOf i).toNat)
  case atStart => exact ⟨0, _, Nat.zero_le _, rfl, rfl, rfl, by omega, by show _ ≤ _; simp only [List.take_zero, Tr.bulkAll]; omega, by omega⟩
  case round =>
    obtain ⟨k, r, hk, rfl, rfl, rfl, hr0, HR, hrl⟩ := hrel
    by_cases hlt : k < l.length
    · obtain ⟨b, off, rfl, hb, hle, hcell⟩ := HS.out.str hlt
      have HT : Hid (Tr.bulkAll ((strTrs l).take (k + 1)) = Tr.bulkAll ((strTrs l).take k) + l[k].size) := by
        show _ = _
        have h1 : k < (strTrs l).length := by rw [strTrs_len]; exact hlt
        rw [Tr.bulkAll_take _ k h1]
        have h2 : (strTrs l)[k] = [.leaf (.string l[k])] := by simp [strTrs]
        rw [h2]
        simp [Tr.bulkL, Tr.bulk]
      unfold maxLen at hle
      generalize l[k] = z at *
      go_wp2_with fail
      · go_ret
        exact ⟨-1, rfl, .refl _, by omega, by omega, by omega⟩
      · go_roundw
        case rel => exact ⟨k + 1, _, by omega, by go_num, rfl, by first | trivial | rfl, by omega, by show _ ≤ _; have h1 := HR.out; have h2 := HT.out; omega, by omega⟩
        case measure => simp [intOf]; omega
    · have hkl : k = l.length := by omega
      go_wp2_with fail
      go_ret
      refine ⟨r, rfl, .refl _, by omega, by omega, fun _ => ?_⟩
      have h1 := HR.out
      rw [hkl, ← strTrs_len, List.take_length] at h1
      simp only [Tr.bulk]
      omega

set_option maxRecDepth 100000 in
set_option maxHeartbeats 1000000 in
theorem eqIntS_all (l : List Int) : EqSC 29 1 (intTrs l) := by
  intro s u w hs hu
  obtain ⟨a, cap, rfl, hl, hm⟩ := hs.shape
  obtain ⟨a', cap', rfl, hl', hm'⟩ := hu.shape
  rw [intTrs_len] at *
  unfold maxLen at hm hm'
  have HS := Lib.hid hs
  have HU := Lib.hid hu
  clear hs hu
  go_enter Try.func29, Try.ntmps29
  go_wp2_with fail
  go_loopw [5] (fun i wr => ∃ k : Nat, k ≤ l.length ∧ i = .int .i64 k ∧ Ext w wr) (fun i _ => l.length - (intOf i).toNat)
  case atStart => exact ⟨0, Nat.zero_le _, rfl, .refl _⟩
  case round =>
    obtain ⟨k, hk, rfl, hw⟩ := hrel
    by_cases hlt : k < l.length
    · obtain ⟨b, off, rfl, hb, -, hcell⟩ := (HS.out.ext hw).int hlt
      obtain ⟨b', off', rfl, hb', -, hcell'⟩ := (HU.out.ext hw).int hlt
      have ki : (k : Int) < (l.length : Int) := by omega
      have k0 : (0 : Int) ≤ (k : Int) := by omega
      have hk0 : 0 ≤ k := Nat.zero_le k
      generalize l[k] = z at *
      go_wp2_with fail
      go_quiet (fail)
      go_wp2_with fail
      go_roundw
      case rel => exact ⟨k + 1, by omega, by go_num, hw.drewN _⟩
      case measure => simp [intOf]; omega
    · go_wp2_with fail
      go_ret
      exact ⟨rfl, hw⟩

set_option maxRecDepth 100000 in
set_option maxHeartbeats 1000000 in
theorem eqStringS_all (l : List ByteArray) : EqSC 153 1 (strTrs l) := by
  intro s u w hs hu
  obtain ⟨a, cap, rfl, hl, hm⟩ := hs.shape
  obtain ⟨a', cap', rfl, hl', hm'⟩ := hu.shape
  rw [strTrs_len] at *
  unfold maxLen at hm hm'
  have HS := Lib.hid hs
  have HU := Lib.hid hu
  clear hs hu
  go_enter Try.func153, Try.ntmps153
  go_wp2_with fail
  go_loopw [5] (fun i wr => ∃ k : Nat, k ≤ l.length ∧ i = .int .i64 k ∧ Ext w wr) (fun i _ => l.length - (intOf i).toNat)
  case atStart => exact ⟨0, Nat.zero_le _, rfl, .refl _⟩
  case round =>
    obtain ⟨k, hk, rfl, hw⟩ := hrel
    by_cases hlt : k < l.length
    · obtain ⟨b, off, rfl, hb, -, hcell⟩ := (HS.out.ext hw).str hlt
      obtain ⟨b', off', rfl, hb', -, hcell'⟩ := (HU.out.ext hw).str hlt
      have ki : (k : Int) < (l.length : Int) := by omega
      have k0 : (0 : Int) ≤ (k : Int) := by omega
      have hk0 : 0 ≤ k := Nat.zero_le k
      generalize l[k] = z at *
      go_wp2_with fail
      go_quiet (fail)
      go_wp2_with fail
      go_roundw
      case rel => exact ⟨k + 1, by omega, by go_num, hw.drewN _⟩
      case measure => simp [intOf]; omega
    · go_wp2_with fail
      go_ret
      exact ⟨rfl, hw⟩

set_option maxRecDepth 100000 in
set_option maxHeartbeats 1000000 in
theorem toIntS_all (l : List Int) : ToSC 26 1 (intTrs l) := by
  intro s w hs hbk
  obtain ⟨a, cap, rfl, hl, hm⟩ := hs.shape
  rw [intTrs_len] at *
  unfold maxLen at hm
  have HS := Lib.hid hs
  have n0 : (0 : Int) ≤ l.length := by omega
  clear hs
  go_enter Try.func26, Try.ntmps26
  go_wp2_with (refine wpList_make_rep rfl 45 (.tmp 6) rfl l.length rfl 3 Try.underlying45 1 8 iszb3 (by omega) (by omega) ?_; intro wm arr0 ha0 hob0 hx0 hz0; have HA0 := Lib.hid ha0; have HOB0 := Lib.hid hob0; have HX0 := Lib.hid hx0; have HZ0 := Lib.hid hz0; clear ha0 hob0 hx0 hz0)
  go_loopw [4] (fun i wr => ∃ (k : Nat) (arr : Array Value), k ≤ l.length ∧ i = .int .i64 k ∧ Ext w wr ∧ w.heap.size < wr.heap.size ∧ OB wr w.heap.size 3 arr ∧ arr.size = (intTrs l).length * 1 ∧ Part wr w.heap.size arr 1 (intTrs l) k) (fun i _ => l.length - (intOf i).toNat)
  case atStart => exact ⟨0, arr0, Nat.zero_le _, rfl, HX0.out, by rw [HZ0.out]; omega, HOB0.out, by rw [intTrs_len]; exact HA0.out, Part.zero _ _ _ _ _⟩
  case round =>
    obtain ⟨k, arr, hk, rfl, hw, hgt, hob, hasz, hpart⟩ := hrel
    have HOB := Lib.hid hob
    have HAS := Lib.hid hasz
    have HP := Lib.hid hpart
    clear hob hasz hpart
    by_cases hlt : k < l.length
    · obtain ⟨b, off, rfl, hb, hle, hcell⟩ := (HS.out.ext hw).int hlt
      have HGT := Lib.hid (intTrs_get hlt)
      have HLE : Hid (LeafOk (Value.int .i64 l[k])) := hle
      have HF : Hid (0 + k * 1 + 1 ≤ arr.size) := by have h1 := HAS.out; rw [intTrs_len] at h1; show _ ≤ _; omega
      clear hle
      generalize l[k] = z at *
      go_wp2_with (refine wpList_store_cell rfl 3 (.tmp 20) (.tmp 19) rfl w.heap.size k rfl (.int .i64 z) rfl rfl 3 arr HOB.out isz3 (by have h1 := HF.out; omega) rfl ?_; intro w2 hob2 hg2 hz2; have HOB2 := Lib.hid hob2; have HG2 := Lib.hid hg2; have HZ2 := Lib.hid hz2; clear hob2 hg2 hz2)
      go_roundw
      case rel =>
        have hob2 : OB w2 w.heap.size 3 (splice arr (k * 1) [Value.int .i64 z]) := by rw [Nat.mul_one]; exact HOB2.out
        have hfit : k * 1 + [Value.int .i64 z].length ≤ arr.size := by have := HF.out; simp; omega
        refine ⟨k + 1, _, by omega, by go_num, grown_ext hw HG2.out (Nat.le_refl _), by rw [HZ2.out]; exact hgt, hob2, by rw [splice_size hfit]; exact HAS.out, HP.out.step hgt (.refl _) HGT.out (OwnL.cons_leaf HLE.out (OwnL.nil _ _)) rfl HAS.out HG2.out hob2⟩
      case measure => simp [intOf]; omega
    · have hkl : k = l.length := by omega
      go_wp2_with fail
      go_ret
      subst hkl
      have hp := HP.out
      rw [← intTrs_len] at hp
      have := (hp.done HOB.out (intTrs_sz l) (Nat.le_refl _) (by rw [intTrs_len]; unfold maxLen; omega) (Nat.le_refl _)).mono (S' := Between w wr) fun x hx => ⟨hx.1, hx.2⟩
      rw [intTrs_len] at this
      exact ⟨_, rfl, hw, this⟩

set_option maxRecDepth 100000 in
set_option maxHeartbeats 1000000 in
theorem toStringS_all (l : List ByteArray) : ToSC 151 1 (strTrs l) := by
  intro s w hs hbk
  obtain ⟨a, cap, rfl, hl, hm⟩ := hs.shape
  rw [strTrs_len] at *
  unfold maxLen at hm
  have HS := Lib.hid hs
  have n0 : (0 : Int) ≤ l.length := by omega
  clear hs
  go_enter Try.func151, Try.ntmps151
  go_wp2_with (refine wpList_make_rep rfl 66 (.tmp 6) rfl l.length rfl 9 Try.underlying66 1 16 iszb9 (by omega) (by omega) ?_; intro wm arr0 ha0 hob0 hx0 hz0; have HA0 := Lib.hid ha0; have HOB0 := Lib.hid hob0; have HX0 := Lib.hid hx0; have HZ0 := Lib.hid hz0; clear ha0 hob0 hx0 hz0)
  go_loopw [4] (fun i wr => ∃ (k : Nat) (arr : Array Value), k ≤ l.length ∧ i = .int .i64 k ∧ Ext w wr ∧ w.heap.size < wr.heap.size ∧ OB wr w.heap.size 9 arr ∧ arr.size = (strTrs l).length * 1 ∧ Part wr w.heap.size arr 1 (strTrs l) k) (fun i _ => l.length - (intOf i).toNat)
  case atStart => exact ⟨0, arr0, Nat.zero_le _, rfl, HX0.out, by rw [HZ0.out]; omega, HOB0.out, by rw [strTrs_len]; exact HA0.out, Part.zero _ _ _ _ _⟩
  case round =>
    obtain ⟨k, arr, hk, rfl, hw, hgt, hob, hasz, hpart⟩ := hrel
    have HOB := Lib.hid hob
    have HAS := Lib.hid hasz
    have HP := Lib.hid hpart
    clear hob hasz hpart
    by_cases hlt : k < l.length
    · obtain ⟨b, off, rfl, hb, hle, hcell⟩ := (HS.out.ext hw).str hlt
      have HGT := Lib.hid (strTrs_get hlt)
      have HLE : Hid (LeafOk (Value.string l[k])) := hle
      have HF : Hid (0 + k * 1 + 1 ≤ arr.size) := by have h1 := HAS.out; rw [strTrs_len] at h1; show _ ≤ _; omega
      clear hle
      generalize l[k] = z at *
      go_wp2_with (refine wpList_store_cell rfl 9 (.tmp 20) (.tmp 19) rfl w.heap.size k rfl (.string z) rfl rfl 9 arr HOB.out isz9 (by have h1 := HF.out; omega) rfl ?_; intro w2 hob2 hg2 hz2; have HOB2 := Lib.hid hob2; have HG2 := Lib.hid hg2; have HZ2 := Lib.hid hz2; clear hob2 hg2 hz2)
      go_roundw
      case rel =>
        have hob2 : OB w2 w.heap.size 9 (splice arr (k * 1) [Value.string z]) := by rw [Nat.mul_one]; exact HOB2.out
        have hfit : k * 1 + [Value.string z].length ≤ arr.size := by have := HF.out; simp; omega
        refine ⟨k + 1, _, by omega, by go_num, grown_ext hw HG2.out (Nat.le_refl _), by rw [HZ2.out]; exact hgt, hob2, by rw [splice_size hfit]; exact HAS.out, HP.out.step hgt (.refl _) HGT.out (OwnL.cons_leaf HLE.out (OwnL.nil _ _)) rfl HAS.out HG2.out hob2⟩
      case measure => simp [intOf]; omega
    · have hkl : k = l.length := by omega
      go_wp2_with fail
      go_ret
      subst hkl
      have hp := HP.out
      rw [← strTrs_len] at hp
      have := (hp.done HOB.out (strTrs_sz l) (Nat.le_refl _) (by rw [strTrs_len]; unfold maxLen; omega) (Nat.le_refl _)).mono (S' := Between w wr) fun x hx => ⟨hx.1, hx.2⟩
      rw [strTrs_len] at this
      exact ⟨_, rfl, hw, this⟩

end Go.Proofs.Ytoifjkggpanceaa

namespace Go.Proofs.Ytoifjkggpanceaa
open Go.RowKit Go.Proofs

theorem bulk0_InstanceRef (x : GInstanceRef) : Tr.bulkL x.tr = 0 := by
  obtain ⟨v0, v1⟩ := x
  simp [GInstanceRef.tr, Tr.bulkL, Tr.bulk]

theorem toInstanceRef_all (x : GInstanceRef) : ToC 91 x.tr := by
  obtain ⟨v0, v1⟩ := x
  exact toInstanceRef_of v0 v1

theorem eqInstanceRef_all (x : GInstanceRef) : EqC 94 x.tr := by
  obtain ⟨v0, v1⟩ := x
  exact eqInstanceRef_of v0 v1

theorem szEvidence_all : ∀ x : GEvidence, SzC 23 x.tr :=
  GEvidence.ind fun v0 v1 v2 v3 ih => szEvidence_of v0 v1 (GInstanceRef.tr v2) (GInstanceRef.tr_len v2) (GEvidence.trs v3) (szEvidenceS_of _ (GEvidence.sz v3) (GEvidence.all ih)) (bulk0_InstanceRef v2)

theorem szEvidenceS_all (l : List GEvidence) : SzSC 89 5 (GEvidence.trs l) := szEvidenceS_of _ (GEvidence.sz l) (GEvidence.all fun x _ => szEvidence_all x)

theorem toEvidence_all : ∀ x : GEvidence, ToC 25 x.tr :=
  GEvidence.ind fun v0 v1 v2 v3 ih => toEvidence_of v0 v1 (GInstanceRef.tr v2) (GInstanceRef.tr_len v2) (GEvidence.trs v3) (toInstanceRef_all v2) (toEvidenceS_of _ (GEvidence.sz v3) (GEvidence.all ih))

theorem toEvidenceS_all (l : List GEvidence) : ToSC 92 5 (GEvidence.trs l) := toEvidenceS_of _ (GEvidence.sz l) (GEvidence.all fun x _ => toEvidence_all x)

theorem eqEvidence_all : ∀ x : GEvidence, EqC 28 x.tr :=
  GEvidence.ind fun v0 v1 v2 v3 ih => eqEvidence_of v0 v1 (GInstanceRef.tr v2) (GInstanceRef.tr_len v2) (GEvidence.trs v3) (eqInstanceRef_all v2) (eqEvidenceS_of _ (GEvidence.sz v3) (GEvidence.all ih))

theorem eqEvidenceS_all (l : List GEvidence) : EqSC 95 5 (GEvidence.trs l) := eqEvidenceS_of _ (GEvidence.sz l) (GEvidence.all fun x _ => eqEvidence_all x)

theorem szType_all : ∀ x : GType, SzC 16 x.tr :=
  GType.ind fun v0 v1 v2 ih => szType_of v0 v1 (GType.trs v2) (szTypeS_of _ (GType.sz v2) (GType.all ih))

theorem szTypeS_all (l : List GType) : SzSC 81 3 (GType.trs l) := szTypeS_of _ (GType.sz l) (GType.all fun x _ => szType_all x)

theorem toType_all : ∀ x : GType, ToC 19 x.tr :=
  GType.ind fun v0 v1 v2 ih => toType_of v0 v1 (GType.trs v2) (toTypeS_of _ (GType.sz v2) (GType.all ih))

theorem toTypeS_all (l : List GType) : ToSC 85 3 (GType.trs l) := toTypeS_of _ (GType.sz l) (GType.all fun x _ => toType_all x)

theorem eqType_all : ∀ x : GType, EqC 22 x.tr :=
  GType.ind fun v0 v1 v2 ih => eqType_of v0 v1 (GType.trs v2) (eqTypeS_of _ (GType.sz v2) (GType.all ih))

theorem eqTypeS_all (l : List GType) : EqSC 88 3 (GType.trs l) := eqTypeS_of _ (GType.sz l) (GType.all fun x _ => eqType_all x)

theorem szBound_all (x : GBound) : SzC 15 x.tr := by
  obtain ⟨v0, v1⟩ := x
  exact szBound_of v0 (GType.tr v1) (GType.tr_len v1) (szType_all v1)

theorem szBoundS_all (l : List GBound) : SzSC 132 4 (GBound.trs l) := szBoundS_of _ (GBound.sz l) (GBound.all fun x _ => szBound_all x)

theorem toBound_all (x : GBound) : ToC 18 x.tr := by
  obtain ⟨v0, v1⟩ := x
  exact toBound_of v0 (GType.tr v1) (GType.tr_len v1) (toType_all v1)

theorem toBoundS_all (l : List GBound) : ToSC 134 4 (GBound.trs l) := toBoundS_of _ (GBound.sz l) (GBound.all fun x _ => toBound_all x)

theorem eqBound_all (x : GBound) : EqC 21 x.tr := by
  obtain ⟨v0, v1⟩ := x
  exact eqBound_of v0 (GType.tr v1) (GType.tr_len v1) (eqType_all v1)

theorem eqBoundS_all (l : List GBound) : EqSC 51 4 (GBound.trs l) := eqBoundS_of _ (GBound.sz l) (GBound.all fun x _ => eqBound_all x)

theorem szAssumption_all (x : GAssumption) : SzC 109 x.tr := by
  obtain ⟨v0, v1, v2⟩ := x
  exact szAssumption_of (GBound.tr v0) (GBound.tr_len v0) v1 (intTrs v2) (szBound_all v0) (szIntS_all v2)

theorem szAssumptionS_all (l : List GAssumption) : SzSC 44 6 (GAssumption.trs l) := szAssumptionS_of _ (GAssumption.sz l) (GAssumption.all fun x _ => szAssumption_all x)

theorem toAssumption_all (x : GAssumption) : ToC 111 x.tr := by
  obtain ⟨v0, v1, v2⟩ := x
  exact toAssumption_of (GBound.tr v0) (GBound.tr_len v0) v1 (intTrs v2) (toBound_all v0) (toIntS_all v2)

theorem toAssumptionS_all (l : List GAssumption) : ToSC 46 6 (GAssumption.trs l) := toAssumptionS_of _ (GAssumption.sz l) (GAssumption.all fun x _ => toAssumption_all x)

theorem eqAssumption_all (x : GAssumption) : EqC 114 x.tr := by
  obtain ⟨v0, v1, v2⟩ := x
  exact eqAssumption_of (GBound.tr v0) (GBound.tr_len v0) v1 (intTrs v2) (eqBound_all v0) (eqIntS_all v2)

theorem eqAssumptionS_all (l : List GAssumption) : EqSC 48 6 (GAssumption.trs l) := eqAssumptionS_of _ (GAssumption.sz l) (GAssumption.all fun x _ => eqAssumption_all x)

theorem szCache_all (x : GCache) : SzC 60 x.tr := by
  obtain ⟨v0, v1, v2⟩ := x
  exact szCache_of (GBound.trs v0) (intTrs v1) (GEvidence.trs v2) (szBoundS_all v0) (szIntS_all v1) (szEvidenceS_all v2)

theorem toCache_all (x : GCache) : ToC 62 x.tr := by
  obtain ⟨v0, v1, v2⟩ := x
  exact toCache_of (GBound.trs v0) (intTrs v1) (GEvidence.trs v2) (toBoundS_all v0) (toIntS_all v1) (toEvidenceS_all v2)

theorem eqCache_all (x : GCache) : EqC 64 x.tr := by
  obtain ⟨v0, v1, v2⟩ := x
  exact eqCache_of (GBound.trs v0) (intTrs v1) (GEvidence.trs v2) (eqBoundS_all v0) (eqIntS_all v1) (eqEvidenceS_all v2)

theorem szArm_in (x : GArm) (h : SzC 227 x.gBody.tr) : SzC 258 x.tr := by
  obtain ⟨v0, v1, v2⟩ := x
  exact szArm_of v0 (strTrs v1) (GExpr.tr v2) (GExpr.tr_len v2) (szStringS_all v1) h

theorem szExpr_all : ∀ x : GExpr, SzC 227 x.tr :=
  GExpr.ind fun v0 v1 v2 v3 v4 v5 v6 ih5 ih6 => szExpr_of v0 v1 v2 v3 (GType.tr v4) (GType.tr_len v4) (GExpr.trs v5) (GArm.trs v6) (szType_all v4) (szExprS_of _ (GExpr.sz v5) (GExpr.all ih5)) (szArmS_of _ (GArm.sz v6) (GArm.all fun x hx => szArm_in x (ih6 x hx)))

theorem szExprS_all (l : List GExpr) : SzSC 246 9 (GExpr.trs l) := szExprS_of _ (GExpr.sz l) (GExpr.all fun x _ => szExpr_all x)

theorem toArm_in (x : GArm) (h : ToC 228 x.gBody.tr) : ToC 259 x.tr := by
  obtain ⟨v0, v1, v2⟩ := x
  exact toArm_of v0 (strTrs v1) (GExpr.tr v2) (GExpr.tr_len v2) (toStringS_all v1) h

theorem toExpr_all : ∀ x : GExpr, ToC 228 x.tr :=
  GExpr.ind fun v0 v1 v2 v3 v4 v5 v6 ih5 ih6 => toExpr_of v0 v1 v2 v3 (GType.tr v4) (GType.tr_len v4) (GExpr.trs v5) (GArm.trs v6) (toType_all v4) (toExprS_of _ (GExpr.sz v5) (GExpr.all ih5)) (toArmS_of _ (GArm.sz v6) (GArm.all fun x hx => toArm_in x (ih6 x hx)))

theorem toExprS_all (l : List GExpr) : ToSC 248 9 (GExpr.trs l) := toExprS_of _ (GExpr.sz l) (GExpr.all fun x _ => toExpr_all x)

theorem eqArm_in (x : GArm) (h : EqC 229 x.gBody.tr) : EqC 260 x.tr := by
  obtain ⟨v0, v1, v2⟩ := x
  exact eqArm_of v0 (strTrs v1) (GExpr.tr v2) (GExpr.tr_len v2) (eqStringS_all v1) h

theorem eqExpr_all : ∀ x : GExpr, EqC 229 x.tr :=
  GExpr.ind fun v0 v1 v2 v3 v4 v5 v6 ih5 ih6 => eqExpr_of v0 v1 v2 v3 (GType.tr v4) (GType.tr_len v4) (GExpr.trs v5) (GArm.trs v6) (eqType_all v4) (eqExprS_of _ (GExpr.sz v5) (GExpr.all ih5)) (eqArmS_of _ (GArm.sz v6) (GArm.all fun x hx => eqArm_in x (ih6 x hx)))

theorem eqExprS_all (l : List GExpr) : EqSC 250 9 (GExpr.trs l) := eqExprS_of _ (GExpr.sz l) (GExpr.all fun x _ => eqExpr_all x)

theorem szMethod_all (x : GMethod) : SzC 191 x.tr := by
  obtain ⟨v0, v1, v2⟩ := x
  exact szMethod_of v0 (strTrs v1) (GExpr.tr v2) (GExpr.tr_len v2) (szStringS_all v1) (szExpr_all v2)

theorem szMethodS_all (l : List GMethod) : SzSC 150 11 (GMethod.trs l) := szMethodS_of _ (GMethod.sz l) (GMethod.all fun x _ => szMethod_all x)

theorem toMethod_all (x : GMethod) : ToC 192 x.tr := by
  obtain ⟨v0, v1, v2⟩ := x
  exact toMethod_of v0 (strTrs v1) (GExpr.tr v2) (GExpr.tr_len v2) (toStringS_all v1) (toExpr_all v2)

theorem toMethodS_all (l : List GMethod) : ToSC 152 11 (GMethod.trs l) := toMethodS_of _ (GMethod.sz l) (GMethod.all fun x _ => toMethod_all x)

theorem eqMethod_all (x : GMethod) : EqC 193 x.tr := by
  obtain ⟨v0, v1, v2⟩ := x
  exact eqMethod_of v0 (strTrs v1) (GExpr.tr v2) (GExpr.tr_len v2) (eqStringS_all v1) (eqExpr_all v2)

theorem eqMethodS_all (l : List GMethod) : EqSC 154 11 (GMethod.trs l) := eqMethodS_of _ (GMethod.sz l) (GMethod.all fun x _ => eqMethod_all x)

theorem szInstance_all (x : GInstance) : SzC 74 x.tr := by
  obtain ⟨v0, v1, v2, v3, v4, v5, v6, v7⟩ := x
  exact szInstance_of v0 (strTrs v1) (GType.tr v2) (GType.tr_len v2) (GBound.trs v3) v4 v5 (GType.tr v6) (GType.tr_len v6) (GMethod.trs v7) (szStringS_all v1) (szType_all v2) (szBoundS_all v3) (szType_all v6) (szMethodS_all v7)

theorem toInstance_all (x : GInstance) : ToC 75 x.tr := by
  obtain ⟨v0, v1, v2, v3, v4, v5, v6, v7⟩ := x
  exact toInstance_of v0 (strTrs v1) (GType.tr v2) (GType.tr_len v2) (GBound.trs v3) v4 v5 (GType.tr v6) (GType.tr_len v6) (GMethod.trs v7) (toStringS_all v1) (toType_all v2) (toBoundS_all v3) (toType_all v6) (toMethodS_all v7)

theorem eqInstance_all (x : GInstance) : EqC 76 x.tr := by
  obtain ⟨v0, v1, v2, v3, v4, v5, v6, v7⟩ := x
  exact eqInstance_of v0 (strTrs v1) (GType.tr v2) (GType.tr_len v2) (GBound.trs v3) v4 v5 (GType.tr v6) (GType.tr_len v6) (GMethod.trs v7) (eqStringS_all v1) (eqType_all v2) (eqBoundS_all v3) (eqType_all v6) (eqMethodS_all v7)

end Go.Proofs.Ytoifjkggpanceaa

namespace Go.Proofs.Ytoifjkggpanceaa
open Go.RowKit

section
variable {P : Program} {ops : Array Oper} {Q : Exit → Act → World → Prop} {md : Region.Mode} {S : World → Prop}

theorem wpAnyH_load_rep {i : Nat} {oi : Oper} {fuel : Nat} {listed : Array Bool} {a : Act} {w : World} (hi : ops[i]? = some oi)
    (hs : Region.noSelect ops = true) (hf : Region.free md ops listed i = true) (hr : (Region.ready md ops listed).contains i = true)
    (_hQ : ∀ c a w, Q (.panic c) (a.put oi.dst (.bool true)) w → Q (.panic c) a w) (hgd : oi.guard = none) (ty : TypeId) (x : Operand) (ho : oi.op = .load ty x)
    (b off : Nat) (hx : a.eval x = .pointer (some ⟨b, off, none⟩)) (cs : List Value) (fs : Array Field) (hu : P.underlying ty = some (.struct fs)) (hinfo : (P.info? ty).map (·.size) = some cs.length)
    (hS : ∀ w, S w → ∀ (j : Nat) (v : Value), cs[j]? = some v → w.cell? ⟨b, off + j, none⟩ = some v) (hw : S w) (hQ2 : ∀ c a w v, Q (.panic c) (a.put oi.dst v) w → Q (.panic c) a w)
    (h : wpAnyH P md ops Q S fuel (listed.setIfInBounds i true) (a.put oi.dst (.agg ⟨cs⟩)) w) : wpAnyH P md ops Q S (fuel + 1) listed a w :=
  wpAnyH_take hi hs hf hr (fun c a w => hQ2 c a w _) (.inl ⟨by simp [Region.wanted, hgd], fun w1 hw1 => by
    unfold execOp
    simp only [ho, hx, Instr.loadAt, Instr.sureAddr, Sem.run_bind, Sem.run_pure, Result.andThen_ok, run_loadVar_rep w1 b off ty cs fs hu hinfo (hS w1 hw1)]⟩) hw h

theorem run_call_func {o : Oper} {ev : Operand → Value} {f : FuncId} {fn : Func} {ars : Array Operand} {ts : Array TypeId} (ho : o.op = .call { callee := .value (.func f), args := ars, argTypes := ts })
    (hev : ev (.func f) = .func (.func f) #[] #[]) (vals : Array Value) (hv : ars.map ev = vals) (hf : P.funcs[f]? = some fn) (hname : (fn.name == "runtime.NumGoroutine") = false) (hb : fn.body.isNone = false) (w : World) :
    (execOp ev o).run P w = .ok (.enter f vals) w := by
  have hc := run_callFunc_body (P := P) hf hname hb
  unfold execOp
  simp only [ho]
  simp [resolve, invoke, Deferred.ofValue, hev, hv, hc]

theorem wpAnyH_call {i : Nat} {o : Oper} {fuel : Nat} {listed : Array Bool} {a : Act} {w : World} {f : FuncId} {vals : Array Value} {R : Ending → World → Prop} (hr : Region.ready md ops listed = [i]) (ho : ops[i]? = some o) (hgd : o.guard = none)
    (hrun : (execOp a.eval o).run P w = .ok (.enter f vals) w) (hc : Calls P f vals w R)
    (h : ∀ e w', R e w' → ∃ v, e = .returned v ∧ S w' ∧ wpAnyH P md ops Q S fuel (listed.setIfInBounds i true) (a.put o.dst v) w') : wpAnyH P md ops Q S (fuel + 1) listed a w := by
  refine wpAnyH_all hr (by simp) fun j hj => ?_
  obtain rfl : j = i := by simpa using hj
  have hw : Region.wanted o (yielded ops a.tmps) = true := by simp [Region.wanted, hgd]
  unfold wpOp
  simp only [ho]
  rw [if_pos hw]
  refine .inl ?_
  unfold Oper.wp
  rw [hrun]
  refine hc.mono fun e w' hR => ?_
  obtain ⟨v, rfl, h1, h2⟩ := h e w' hR
  exact ⟨h1, h2⟩

theorem run_loadVar_cell {w : World} {p : Addr} {ty : TypeId} {v : Value} {d : TypeDesc} (hu : P.underlying ty = some d) (hd : (match d with | .struct _ | .array _ _ => true | _ => false) = false) (hc : w.cell? p = some v) :
    (loadVar ty p).run P w = .ok v w := by
  have hagg : (isAgg ty).run P w = .ok false w := by
    unfold isAgg
    rw [Sem.run_bind, run_underlying hu w]
    cases d <;> simp_all
  simp [loadVar, Sem.run_bind, hagg, hc]

theorem wpAnyH_cell {i : Nat} {oi : Oper} {fuel : Nat} {listed : Array Bool} {a : Act} {w : World} (hi : ops[i]? = some oi)
    (hs : Region.noSelect ops = true) (hf : Region.free md ops listed i = true) (hr : (Region.ready md ops listed).contains i = true) (hgd : oi.guard = none) (ty : TypeId) (x : Operand) (ho : oi.op = .load ty x)
    (b off : Nat) (hx : a.eval x = .pointer (some ⟨b, off, none⟩)) (v : Value) (d : TypeDesc) (hu : P.underlying ty = some d) (hd : (match d with | .struct _ | .array _ _ => true | _ => false) = false)
    (hS : ∀ w, S w → w.cell? ⟨b, off, none⟩ = some v) (hw : S w) (hQ2 : ∀ c a w v, Q (.panic c) (a.put oi.dst v) w → Q (.panic c) a w)
    (h : wpAnyH P md ops Q S fuel (listed.setIfInBounds i true) (a.put oi.dst v) w) : wpAnyH P md ops Q S (fuel + 1) listed a w :=
  wpAnyH_take hi hs hf hr (fun c a w => hQ2 c a w _) (.inl ⟨by simp [Region.wanted, hgd], fun w1 hw1 => by
    unfold execOp
    simp only [ho, hx, Instr.loadAt, Instr.sureAddr, Sem.run_bind, Sem.run_pure, Result.andThen_ok, run_loadVar_cell hu hd (hS w1 hw1)]⟩) hw h

theorem wpAnyH_index {i : Nat} {oi : Oper} {fuel : Nat} {listed : Array Bool} {a : Act} {w : World} (hi : ops[i]? = some oi)
    (hs : Region.noSelect ops = true) (hf : Region.free md ops listed i = true) (hr : (Region.ready md ops listed).contains i = true) (hgd : oi.guard = none) (ty : TypeId) (x y : Operand) (ho : oi.op = .indexAddr ty x y)
    (b off len cap k sz : Nat) (hx : a.eval x = .slice (some ⟨b, off, none⟩) len cap) (hy : a.eval y = .int .i64 (k : Int)) (hk : k < len) (hu : P.underlying ty = some (.slice (P.elem ty))) (hinfo : (P.info? (P.elem ty)).map (·.size) = some sz)
    (hw : S w) (hQ2 : ∀ c a w v, Q (.panic c) (a.put oi.dst v) w → Q (.panic c) a w)
    (h : wpAnyH P md ops Q S fuel (listed.setIfInBounds i true) (a.put oi.dst (.pointer (some ⟨b, off + k * sz, none⟩))) w) : wpAnyH P md ops Q S (fuel + 1) listed a w :=
  wpAnyH_take hi hs hf hr (fun c a w => hQ2 c a w _) (.inl ⟨by simp [Region.wanted, hgd], fun w1 _ => by
    have hsz : (Go.sizeOf (P.elem ty)).run P w1 = .ok sz w1 := by
      cases hq : P.info? (P.elem ty) with
      | none => simp [hq] at hinfo
      | some j => have : j.size = sz := by simpa [hq] using hinfo
                  simp [Go.sizeOf, typeInfo, hq, this]
    have hadd : ∀ n, (⟨b, off, none⟩ : Addr).add n = ⟨b, off + n, none⟩ := fun n => by unfold Addr.add; split <;> simp_all
    unfold execOp
    simp only [ho, hx, hy, run_indexAt_slice _ _ _ _ _ _ _ hu, Sem.run_bind, hsz, Result.andThen_ok]
    rw [if_pos ⟨by omega, by omega⟩]
    simp [hadd]⟩) hw h

/-- The one operation that may come up now, carried out: it yields a value, in another world. -/
theorem wpAnyH_run {i : Nat} {o : Oper} {fuel : Nat} {listed : Array Bool} {a : Act} {w w' : World} {v : Value} (hr : Region.ready md ops listed = [i]) (ho : ops[i]? = some o) (hgd : o.guard = none)
    (hrun : (execOp a.eval o).run P w = .ok (.value v) w') (hS : S w') (h : wpAnyH P md ops Q S fuel (listed.setIfInBounds i true) (a.put o.dst v) w') : wpAnyH P md ops Q S (fuel + 1) listed a w := by
  refine wpAnyH_all hr (by simp) fun j hj => ?_
  obtain rfl : j = i := by simpa using hj
  have hw : Region.wanted o (yielded ops a.tmps) = true := by simp [Region.wanted, hgd]
  unfold wpOp
  simp only [ho]
  rw [if_pos hw]
  refine .inl ?_
  unfold Oper.wp
  rw [hrun]
  exact ⟨hS, h⟩
/-- The one operation that may come up now is a store of a struct into a block of our own. -/
theorem wpAnyH_store_rep {i : Nat} {o : Oper} {fuel : Nat} {listed : Array Bool} {a : Act} {w : World} (hr : Region.ready md ops listed = [i]) (ho0 : ops[i]? = some o) (hgd : o.guard = none) (ty : TypeId) (x y : Operand) (ho : o.op = .store ty x y)
    (B off : Nat) (hx : a.eval x = .pointer (some ⟨B, off, none⟩)) (cs : List Value) (hy : a.eval y = .agg ⟨cs⟩) (T : TypeId) (arr : Array Value) (hob : OB w B T arr) (hi : (P.info? ty).map (·.size) = some cs.length)
    (hfit : off + cs.length ≤ arr.size) (h1 : ∀ v ∈ cs, v.oneCell' = true)
    (h : ∀ w', OB w' B T (splice arr off cs) → w.grownBy w' (some B) → w'.heap.size = w.heap.size → S w' ∧ wpAnyH P md ops Q S fuel (listed.setIfInBounds i true) (a.put o.dst undef) w') : wpAnyH P md ops Q S (fuel + 1) listed a w := by
  refine wpAnyH_all hr (by simp) fun j hj => ?_
  obtain rfl : j = i := by simpa using hj
  have hw : Region.wanted o (yielded ops a.tmps) = true := by simp [Region.wanted, hgd]
  have hst := run_storeCells_at P B off T cs 0 arr w hob (by simpa using hfit) h1
  cases hq : P.info? ty with
  | none => simp [hq] at hi
  | some inf =>
    have hs : inf.size = cs.length := by simpa [hq] using hi
    have hrun : (storeVar ty ⟨B, off, none⟩ (.agg ⟨cs⟩)).run P w = .ok () (w.setRow B (splice arr off cs)) := by
      simp [storeVar, Go.sizeOf, typeInfo, hq, Value.cells, hs, hst, splice]
    unfold wpOp
    simp only [ho0]
    rw [if_pos hw]
    refine .inl ?_
    unfold Oper.wp execOp
    simp only [ho, hx, hy, Instr.storeAt, Instr.sureAddr, Sem.run_bind, Sem.run_pure, Result.andThen_ok, hrun]
    exact h _ (setRow_heap w B arr _ T _ hob) ⟨rfl, rfl, rfl, by simp, fun k _ hk => setRow_other w B k _ (fun e => hk (by rw [e]))⟩ (by simp)

theorem wpOp_call {i : Nat} {o : Oper} {a : Act} {w : World} {f : FuncId} {vals : Array Value} {R : Ending → World → Prop} {K : Act → World → Prop} (ho : ops[i]? = some o) (hgd : o.guard = none)
    (hrun : (execOp a.eval o).run P w = .ok (.enter f vals) w) (hc : Calls P f vals w R) (h : ∀ e w', R e w' → ∃ v, e = .returned v ∧ K (a.put o.dst v) w') : wpOp P ops Q i K a w := by
  have hw : Region.wanted o (yielded ops a.tmps) = true := by simp [Region.wanted, hgd]
  unfold wpOp
  simp only [ho]
  rw [if_pos hw]
  refine .inl ?_
  unfold Oper.wp
  rw [hrun]
  refine hc.mono fun e w' hR => ?_
  obtain ⟨v, rfl, h1⟩ := h e w' hR
  exact h1
theorem wpOp_run {i : Nat} {o : Oper} {a : Act} {w w' : World} {v : Value} {K : Act → World → Prop} (ho : ops[i]? = some o) (hgd : o.guard = none) (hrun : (execOp a.eval o).run P w = .ok (.value v) w') (h : K (a.put o.dst v) w') : wpOp P ops Q i K a w := by
  have hw : Region.wanted o (yielded ops a.tmps) = true := by simp [Region.wanted, hgd]
  unfold wpOp
  simp only [ho]
  rw [if_pos hw]
  refine .inl ?_
  unfold Oper.wp
  rw [hrun]
  exact h

theorem run_op_load_rep {o : Oper} {ev : Operand → Value} {w : World} (ty : TypeId) (x : Operand) (ho : o.op = .load ty x) (b off : Nat) (hx : ev x = .pointer (some ⟨b, off, none⟩)) (cs : List Value) (fs : Array Field) (hu : P.underlying ty = some (.struct fs)) (hi : (P.info? ty).map (·.size) = some cs.length)
    (hc : ∀ j v, cs[j]? = some v → w.cell? ⟨b, off + j, none⟩ = some v) : (execOp ev o).run P w = .ok (.value (.agg ⟨cs⟩)) w := by
  unfold execOp
  simp only [ho, hx, Instr.loadAt, Instr.sureAddr, Sem.run_bind, Sem.run_pure, Result.andThen_ok, run_loadVar_rep w b off ty cs fs hu hi hc]

theorem wpList_load_rep_g {rest : List Oper} {o : Oper} {a : Act} {w : World} (hwd : Region.wanted o (yielded ops a.tmps) = true) (ty : TypeId) (x : Operand) (ho : o.op = .load ty x)
    (b off : Nat) (hx : a.eval x = .pointer (some ⟨b, off, none⟩)) (cs : List Value) (fs : Array Field) (hu : P.underlying ty = some (.struct fs)) (hi : (P.info? ty).map (·.size) = some cs.length)
    (hc : ∀ j v, cs[j]? = some v → w.cell? ⟨b, off + j, none⟩ = some v) (h : wpList P ops Q rest (a.put o.dst (.agg ⟨cs⟩)) w) : wpList P ops Q (o :: rest) a w :=
  wpList_step fun _ hK => by
    rw [if_pos hwd]
    unfold Oper.wp execOp
    simp only [ho, hx, Instr.loadAt, Instr.sureAddr, Sem.run_bind, Sem.run_pure, Result.andThen_ok, run_loadVar_rep w b off ty cs fs hu hi hc]
    exact hK _ _ h

theorem wpAnyH_load_rep_g {i : Nat} {oi : Oper} {fuel : Nat} {listed : Array Bool} {a : Act} {w : World} (hi : ops[i]? = some oi)
    (hs : Region.noSelect ops = true) (hf : Region.free md ops listed i = true) (hr : (Region.ready md ops listed).contains i = true)
    (_hQ : ∀ c a w, Q (.panic c) (a.put oi.dst (.bool true)) w → Q (.panic c) a w) (hwd : Region.wanted oi (yielded ops a.tmps) = true) (ty : TypeId) (x : Operand) (ho : oi.op = .load ty x)
    (b off : Nat) (hx : a.eval x = .pointer (some ⟨b, off, none⟩)) (cs : List Value) (fs : Array Field) (hu : P.underlying ty = some (.struct fs)) (hinfo : (P.info? ty).map (·.size) = some cs.length)
    (hS : ∀ w, S w → ∀ (j : Nat) (v : Value), cs[j]? = some v → w.cell? ⟨b, off + j, none⟩ = some v) (hw : S w) (hQ2 : ∀ c a w v, Q (.panic c) (a.put oi.dst v) w → Q (.panic c) a w)
    (h : wpAnyH P md ops Q S fuel (listed.setIfInBounds i true) (a.put oi.dst (.agg ⟨cs⟩)) w) : wpAnyH P md ops Q S (fuel + 1) listed a w :=
  wpAnyH_take hi hs hf hr (fun c a w => hQ2 c a w _) (.inl ⟨hwd, fun w1 hw1 => by
    unfold execOp
    simp only [ho, hx, Instr.loadAt, Instr.sureAddr, Sem.run_bind, Sem.run_pure, Result.andThen_ok, run_loadVar_rep w1 b off ty cs fs hu hinfo (hS w1 hw1)]⟩) hw h

theorem wpAnyH_cell_g {i : Nat} {oi : Oper} {fuel : Nat} {listed : Array Bool} {a : Act} {w : World} (hi : ops[i]? = some oi)
    (hs : Region.noSelect ops = true) (hf : Region.free md ops listed i = true) (hr : (Region.ready md ops listed).contains i = true) (hwd : Region.wanted oi (yielded ops a.tmps) = true) (ty : TypeId) (x : Operand) (ho : oi.op = .load ty x)
    (b off : Nat) (hx : a.eval x = .pointer (some ⟨b, off, none⟩)) (v : Value) (d : TypeDesc) (hu : P.underlying ty = some d) (hd : (match d with | .struct _ | .array _ _ => true | _ => false) = false)
    (hS : ∀ w, S w → w.cell? ⟨b, off, none⟩ = some v) (hw : S w) (hQ2 : ∀ c a w v, Q (.panic c) (a.put oi.dst v) w → Q (.panic c) a w)
    (h : wpAnyH P md ops Q S fuel (listed.setIfInBounds i true) (a.put oi.dst v) w) : wpAnyH P md ops Q S (fuel + 1) listed a w :=
  wpAnyH_take hi hs hf hr (fun c a w => hQ2 c a w _) (.inl ⟨hwd, fun w1 hw1 => by
    unfold execOp
    simp only [ho, hx, Instr.loadAt, Instr.sureAddr, Sem.run_bind, Sem.run_pure, Result.andThen_ok, run_loadVar_cell hu hd (hS w1 hw1)]⟩) hw h

theorem wpAnyH_index_g {i : Nat} {oi : Oper} {fuel : Nat} {listed : Array Bool} {a : Act} {w : World} (hi : ops[i]? = some oi)
    (hs : Region.noSelect ops = true) (hf : Region.free md ops listed i = true) (hr : (Region.ready md ops listed).contains i = true) (hwd : Region.wanted oi (yielded ops a.tmps) = true) (ty : TypeId) (x y : Operand) (ho : oi.op = .indexAddr ty x y)
    (b off len cap k sz : Nat) (hx : a.eval x = .slice (some ⟨b, off, none⟩) len cap) (hy : a.eval y = .int .i64 (k : Int)) (hk : k < len) (hu : P.underlying ty = some (.slice (P.elem ty))) (hinfo : (P.info? (P.elem ty)).map (·.size) = some sz)
    (hw : S w) (hQ2 : ∀ c a w v, Q (.panic c) (a.put oi.dst v) w → Q (.panic c) a w)
    (h : wpAnyH P md ops Q S fuel (listed.setIfInBounds i true) (a.put oi.dst (.pointer (some ⟨b, off + k * sz, none⟩))) w) : wpAnyH P md ops Q S (fuel + 1) listed a w :=
  wpAnyH_take hi hs hf hr (fun c a w => hQ2 c a w _) (.inl ⟨hwd, fun w1 _ => by
    have hsz : (Go.sizeOf (P.elem ty)).run P w1 = .ok sz w1 := by
      cases hq : P.info? (P.elem ty) with
      | none => simp [hq] at hinfo
      | some j => have : j.size = sz := by simpa [hq] using hinfo
                  simp [Go.sizeOf, typeInfo, hq, this]
    have hadd : ∀ n, (⟨b, off, none⟩ : Addr).add n = ⟨b, off + n, none⟩ := fun n => by unfold Addr.add; split <;> simp_all
    unfold execOp
    simp only [ho, hx, hy, run_indexAt_slice _ _ _ _ _ _ _ hu, Sem.run_bind, hsz, Result.andThen_ok]
    rw [if_pos ⟨by omega, by omega⟩]
    simp [hadd]⟩) hw h

theorem wpAnyH_call_g {i : Nat} {o : Oper} {fuel : Nat} {listed : Array Bool} {a : Act} {w : World} {f : FuncId} {vals : Array Value} {R : Ending → World → Prop} (hr : Region.ready md ops listed = [i]) (ho : ops[i]? = some o) (hwd : Region.wanted o (yielded ops a.tmps) = true)
    (hrun : (execOp a.eval o).run P w = .ok (.enter f vals) w) (hc : Calls P f vals w R)
    (h : ∀ e w', R e w' → ∃ v, e = .returned v ∧ S w' ∧ wpAnyH P md ops Q S fuel (listed.setIfInBounds i true) (a.put o.dst v) w') : wpAnyH P md ops Q S (fuel + 1) listed a w := by
  refine wpAnyH_all hr (by simp) fun j hj => ?_
  obtain rfl : j = i := by simpa using hj
  unfold wpOp
  simp only [ho]
  rw [if_pos hwd]
  refine .inl ?_
  unfold Oper.wp
  rw [hrun]
  refine hc.mono fun e w' hR => ?_
  obtain ⟨v, rfl, h1, h2⟩ := h e w' hR
  exact ⟨h1, h2⟩

/-- string(b), b's cells the bytes l. -/
theorem wpList_bytes_back {rest : List Oper} {o : Oper} {a : Act} {w : World} (hgd : o.guard = none) (src dst e : TypeId) (x : Operand) (ho : o.op = .convert src dst x) (hs : P.underlying src = some (.slice e)) (he : P.underlying e = some (.int .u8)) (hd : P.underlying dst = some .string)
    (b cap n : Nat) (l : List UInt8) (hn : l.length = n) (hx : a.eval x = .slice (some ⟨b, 0, none⟩) n cap) (hc : ∀ j (hj : j < l.length), w.cell? ⟨b, j, none⟩ = some (.int .u8 (l[j].toNat : Int)))
    (h : wpList P ops Q rest (a.put o.dst (.string ⟨l.toArray⟩)) w) : wpList P ops Q (o :: rest) a w :=
  wpList_plain hgd fun _ hK => by
    subst hn
    have hadd : ∀ n, (⟨b, 0, none⟩ : Addr).add n = ⟨b, n, none⟩ := fun n => by unfold Addr.add; split <;> simp_all
    have hr := run_convert_bytes_back (P := P) w src dst e ⟨b, 0, none⟩ cap l hs he hd (fun j hj => by rw [hadd]; exact hc j hj)
    unfold Oper.wp execOp
    simp only [ho, hx, Sem.run_bind, hr, Result.andThen_ok, Sem.run_pure]
    exact hK _ _ h
theorem bytes_cons (x : UInt8) (l : List UInt8) : (⟨#[x]⟩ : ByteArray) ++ ⟨l.toArray⟩ = ⟨(x :: l).toArray⟩ := by
  apply ByteArray.ext
  simp [ByteArray.data_append]
end
end Go.Proofs.Ytoifjkggpanceaa

namespace Go.Proofs.Ytoifjkggpanceaa
set_option linter.unusedSimpArgs false
set_option linter.unusedVariables false
open Go.RowKit

/-- Abstract values. -/
inductive PV where
  | t (t : Tr)
  | agg (cs : List PV)
  | tup (vs : List PV)
  | nil
  | acc (sz : Nat) (es : List (List Tr)) (r : Nat)
  | ptr (k off : Nat)
  | eptr (cs : List Tr)
  | fn (f : FuncId) (caps : List PV)
  | full (sz n r : Nat)
  | rptr (r i : Nat)

structure PBox where
  ty : TypeId
  cells : List PV
structure PRow where
  E : TypeId
  sz : Nat
  es : List (List Tr)
  whole : Bool
structure Sto where
  boxes : List (Option PBox)
  rows : List PRow
structure Lay where
  ρ : Nat → Nat
  γ : Nat → Option (Nat × Nat)

/-- No box lies at this place, and no row may still grow there. -/
def Sto.ok (st : Sto) (m : Lay) (b o : Nat) : Prop :=
  (∀ k x, st.boxes[k]? = some (some x) → m.ρ k ≠ b) ∧ (∀ r row g c, st.rows[r]? = some row → m.γ r = some (g, c) → g = b → o < row.es.length * row.sz)
def okA (av : Nat → Nat → Prop) (st : Sto) (m : Lay) (b o : Nat) : Prop := ¬ av b o ∧ st.ok m b o

inductive RepM (ok : Nat → Nat → Prop) (w : World) : Tr → Value → Prop
  | leaf {v : Value} : LeafOk v → RepM ok w (.leaf v) v
  | row {sz : Nat} {es : List (List Tr)} {a : Option Addr} {cap : Nat} (c : Nat → Nat → Value) : es.length ≤ cap → cap ≤ maxLen →
      (es ≠ [] → ∃ b off, a = some ⟨b, off, none⟩ ∧ b < w.heap.size ∧ ∀ i e, es[i]? = some e → ∀ j d, e[j]? = some d → ok b (off + i * sz + j) ∧ w.cell? ⟨b, off + i * sz + j, none⟩ = some (c i j)) →
      (∀ i e, es[i]? = some e → ∀ j d, e[j]? = some d → RepM ok w d (c i j)) → RepM ok w (.row sz es) (.slice a es.length cap)

theorem RepM.mono {ok ok' : Nat → Nat → Prop} {w w' : World} {t : Tr} {v : Value} (h : RepM ok w t v) (hz : w.heap.size ≤ w'.heap.size) (hk : ∀ b o, b < w.heap.size → ok b o → ok' b o)
    (hc : ∀ b o, b < w.heap.size → ok b o → w'.cell? ⟨b, o, none⟩ = w.cell? ⟨b, o, none⟩) : RepM ok' w' t v := by
  induction h with
  | leaf h => exact .leaf h
  | row c h1 h2 h3 _ ih =>
    refine .row c h1 h2 (fun hne => ?_) ih
    obtain ⟨b, off, ha, hb, h4⟩ := h3 hne
    exact ⟨b, off, ha, Nat.lt_of_lt_of_le hb hz, fun i e he j d hd => ⟨hk _ _ hb (h4 i e he j d hd).1, (hc _ _ hb (h4 i e he j d hd).1).trans (h4 i e he j d hd).2⟩⟩
theorem RepM.rep {ok : Nat → Nat → Prop} {w : World} {t : Tr} {v : Value} (h : RepM ok w t v) : Rep w t v := by
  induction h with
  | leaf h => exact .leaf h
  | row c h1 h2 h3 _ ih =>
    refine .row c h1 h2 (fun hne => ?_) ih
    obtain ⟨b, off, ha, hb, h4⟩ := h3 hne
    exact ⟨b, off, ha, hb, fun i e he j d hd => (h4 i e he j d hd).2⟩
theorem Rep.repM {ok : Nat → Nat → Prop} {w : World} {t : Tr} {v : Value} (h : Rep w t v) (hk : ∀ b o, b < w.heap.size → ok b o) : RepM ok w t v := by
  induction h with
  | leaf h => exact .leaf h
  | row c h1 h2 h3 _ ih =>
    refine .row c h1 h2 (fun hne => ?_) ih
    obtain ⟨b, off, ha, hb, h4⟩ := h3 hne
    exact ⟨b, off, ha, hb, fun i e he j d hd => ⟨hk _ _ hb, h4 i e he j d hd⟩⟩
theorem RepM.shape {ok : Nat → Nat → Prop} {w : World} {sz : Nat} {es : List (List Tr)} {v : Value} (h : RepM ok w (.row sz es) v) : ∃ a cap, v = .slice a es.length cap ∧ es.length ≤ cap ∧ cap ≤ maxLen := h.rep.shape
theorem RepM.leaf_eq {ok : Nat → Nat → Prop} {w : World} {v u : Value} (h : RepM ok w (.leaf v) u) : u = v ∧ LeafOk v := h.rep.leaf_eq

def rowVal : Option (Nat × Nat) → Nat → Value
  | none, _ => .slice none 0 0
  | some (g, c), n => .slice (some ⟨g, 0, none⟩) n c

mutual
/-- The value stands for the abstract value. -/
def RV (ok : Nat → Nat → Prop) (st : Sto) (m : Lay) (w : World) : PV → Value → Prop
  | .t t, v => RepM ok w t v
  | .agg cs, v => ∃ vs, v = .agg ⟨vs⟩ ∧ RVL ok st m w cs vs
  | .tup cs, v => ∃ vs, v = .tuple ⟨vs⟩ ∧ RVL ok st m w cs vs
  | .nil, v => v = .slice none 0 0
  | .acc sz es r, v => ∃ row, st.rows[r]? = some row ∧ row.sz = sz ∧ es.length ≤ row.es.length ∧ RepM ok w (.row sz es) v ∧ (es.length = row.es.length → v = rowVal (m.γ r) es.length)
  | .ptr k off, v => (∃ x, st.boxes[k]? = some (some x)) ∧ v = .pointer (some ⟨m.ρ k, off, none⟩)
  | .eptr cs, v => ∃ b off, v = .pointer (some ⟨b, off, none⟩) ∧ b < w.heap.size ∧ ∃ c : Nat → Value, ∀ j d, cs[j]? = some d → ok b (off + j) ∧ w.cell? ⟨b, off + j, none⟩ = some (c j) ∧ RepM ok w d (c j)
  | .fn f caps, v => ∃ vs, v = .func (.func f) #[] ⟨vs⟩ ∧ RVL ok st m w caps vs
  | .full sz n r, v => ∃ row g, st.rows[r]? = some row ∧ row.sz = sz ∧ row.whole = true ∧ m.γ r = some (g, n) ∧ v = .slice (some ⟨g, 0, none⟩) n n
  | .rptr r i, v => ∃ row g n, st.rows[r]? = some row ∧ row.whole = true ∧ m.γ r = some (g, n) ∧ v = .pointer (some ⟨g, i * row.sz, none⟩)
def RVL (ok : Nat → Nat → Prop) (st : Sto) (m : Lay) (w : World) : List PV → List Value → Prop
  | [], [] => True
  | p :: ps, v :: vs => RV ok st m w p v ∧ RVL ok st m w ps vs
  | _, _ => False
end

def RowOk (ok : Nat → Nat → Prop) (m : Lay) (w : World) (r : Nat) (row : PRow) : Prop :=
  0 < row.sz ∧ (∀ e ∈ row.es, e.length = row.sz) ∧ ((m.γ r = none ∧ row.es = []) ∨ ∃ g c cur, m.γ r = some (g, c) ∧ OB w g row.E cur ∧ cur.size = c * row.sz ∧ row.es.length ≤ c ∧ c ≤ maxLen ∧ RepM ok w (.row row.sz row.es) (.slice (some ⟨g, 0, none⟩) row.es.length c))

structure StoOk (av : Nat → Nat → Prop) (st : Sto) (m : Lay) (w : World) : Prop where
  box : ∀ k x, st.boxes[k]? = some (some x) → ∃ vs, OB w (m.ρ k) x.ty ⟨vs⟩ ∧ RVL (okA av st m) st m w x.cells vs
  binj : ∀ k k' x x', st.boxes[k]? = some (some x) → st.boxes[k']? = some (some x') → k ≠ k' → m.ρ k ≠ m.ρ k'
  row : ∀ r row, st.rows[r]? = some row → RowOk (okA av st m) m w r row
  rinj : ∀ r r' row row' g c c', st.rows[r]? = some row → st.rows[r']? = some row' → m.γ r = some (g, c) → m.γ r' = some (g, c') → r = r'
  br : ∀ k x r row g c, st.boxes[k]? = some (some x) → st.rows[r]? = some row → m.γ r = some (g, c) → m.ρ k ≠ g
  avlt : ∀ b o, av b o → b < w.heap.size
  avr : ∀ r row g c, st.rows[r]? = some row → m.γ r = some (g, c) → ∀ o, ¬ av g o

/-- What a run may have changed. -/
structure Ev (st : Sto) (m : Lay) (w : World) (st' : Sto) (m' : Lay) (w' : World) : Prop where
  os : w'.os = w.os
  tape : w'.tape = w.tape
  output : w'.output = w.output
  size : w.heap.size ≤ w'.heap.size
  blk : ∀ b, b < w.heap.size → (∀ k x, st.boxes[k]? = some (some x) → m.ρ k ≠ b) → (∀ r row g c, st.rows[r]? = some row → m.γ r = some (g, c) → g ≠ b) → w'.heap[b]? = w.heap[b]?
  cell : ∀ b o, b < w.heap.size → st.ok m b o → w'.cell? ⟨b, o, none⟩ = w.cell? ⟨b, o, none⟩
  okk : ∀ b o, b < w.heap.size → st.ok m b o → st'.ok m' b o
  live : ∀ k x, st.boxes[k]? = some (some x) → (∃ x', st'.boxes[k]? = some (some x')) ∧ m'.ρ k = m.ρ k
  fresh : ∀ k x', st'.boxes[k]? = some (some x') → (∃ x, st.boxes[k]? = some (some x)) ∨ w.heap.size ≤ m'.ρ k
  rowl : ∀ r row, st.rows[r]? = some row → ∃ row', st'.rows[r]? = some row' ∧ row'.sz = row.sz ∧ row.es.length ≤ row'.es.length ∧ (row.es.length = row'.es.length → m'.γ r = m.γ r) ∧ (row.whole = true → row'.whole = true ∧ m'.γ r = m.γ r)
  rfresh : ∀ r row' g c, st'.rows[r]? = some row' → m'.γ r = some (g, c) → (∃ row c0, st.rows[r]? = some row ∧ m.γ r = some (g, c0)) ∨ w.heap.size ≤ g

theorem Ev.refl (st : Sto) (m : Lay) (w : World) : Ev st m w st m w :=
  ⟨rfl, rfl, rfl, Nat.le_refl _, fun _ _ _ _ => rfl, fun _ _ _ _ => rfl, fun _ _ _ h => h, fun _ x h => ⟨⟨x, h⟩, rfl⟩, fun _ x h => .inl ⟨x, h⟩, fun _ row h => ⟨row, h, rfl, Nat.le_refl _, fun _ => rfl, fun h => ⟨h, rfl⟩⟩, fun _ row _ c h h' => .inl ⟨row, c, h, h'⟩⟩

theorem Ev.trans {st st1 st2 : Sto} {m m1 m2 : Lay} {w w1 w2 : World} (h : Ev st m w st1 m1 w1) (k : Ev st1 m1 w1 st2 m2 w2) : Ev st m w st2 m2 w2 where
  os := k.os.trans h.os
  tape := k.tape.trans h.tape
  output := k.output.trans h.output
  size := Nat.le_trans h.size k.size
  blk := fun b hb h1 h2 => (k.blk b (Nat.lt_of_lt_of_le hb h.size) (fun i x' hx' => by
      rcases h.fresh i x' hx' with ⟨x, hx⟩ | hf
      · rw [(h.live i x hx).2]; exact h1 i x hx
      · omega) (fun r row' g c hr hg => by
      rcases h.rfresh r row' g c hr hg with ⟨row, c0, hr0, hg0⟩ | hf
      · exact h2 r row g c0 hr0 hg0
      · omega)).trans (h.blk b hb h1 h2)
  cell := fun b o hb hk => (k.cell b o (Nat.lt_of_lt_of_le hb h.size) (h.okk b o hb hk)).trans (h.cell b o hb hk)
  okk := fun b o hb hk => k.okk b o (Nat.lt_of_lt_of_le hb h.size) (h.okk b o hb hk)
  live := fun i x hx => by
    obtain ⟨⟨x1, hx1⟩, e1⟩ := h.live i x hx
    obtain ⟨hx2, e2⟩ := k.live i x1 hx1
    exact ⟨hx2, e2.trans e1⟩
  fresh := fun i x' hx' => by
    rcases k.fresh i x' hx' with ⟨x1, hx1⟩ | hf
    · rcases h.fresh i x1 hx1 with hx | hf
      · exact .inl hx
      · exact .inr (by rw [(k.live i x1 hx1).2]; exact hf)
    · exact .inr (Nat.le_trans h.size hf)
  rowl := fun r row hr => by
    obtain ⟨row1, hr1, s1, l1, g1, f1⟩ := h.rowl r row hr
    obtain ⟨row2, hr2, s2, l2, g2, f2⟩ := k.rowl r row1 hr1
    refine ⟨row2, hr2, s2.trans s1, Nat.le_trans l1 l2, fun he => ?_, fun hf => ?_⟩
    · rw [g2 (by omega), g1 (by omega)]
    · obtain ⟨a1, a2⟩ := f1 hf
      obtain ⟨b1, b2⟩ := f2 a1
      exact ⟨b1, b2.trans a2⟩
  rfresh := fun r row' g c hr hg => by
    rcases k.rfresh r row' g c hr hg with ⟨row1, c1, hr1, hg1⟩ | hf
    · exact h.rfresh r row1 g c1 hr1 hg1
    · exact .inr (Nat.le_trans h.size hf)

mutual
theorem RV.mono {av : Nat → Nat → Prop} {st st' : Sto} {m m' : Lay} {w w' : World} (h : Ev st m w st' m' w') : ∀ (p : PV) (v : Value), RV (okA av st m) st m w p v → RV (okA av st' m') st' m' w' p v
  | .t t, v, hr => RepM.mono hr h.size (fun b o hb hk => ⟨hk.1, h.okk b o hb hk.2⟩) (fun b o hb hk => h.cell b o hb hk.2)
  | .agg cs, v, hr => by
    obtain ⟨vs, rfl, hl⟩ := hr
    exact ⟨vs, rfl, RVL.mono h cs vs hl⟩
  | .tup cs, v, hr => by
    obtain ⟨vs, rfl, hl⟩ := hr
    exact ⟨vs, rfl, RVL.mono h cs vs hl⟩
  | .nil, v, hr => hr
  | .acc sz es r, v, hr => by
    obtain ⟨row, h1, h2, h3, h4, h5⟩ := hr
    obtain ⟨row', k1, k2, k3, k4, -⟩ := h.rowl r row h1
    exact ⟨row', k1, k2.trans h2, Nat.le_trans h3 k3, RepM.mono h4 h.size (fun b o hb hk => ⟨hk.1, h.okk b o hb hk.2⟩) (fun b o hb hk => h.cell b o hb hk.2), fun he => by rw [k4 (by omega)]; exact h5 (by omega)⟩
  | .ptr k off, v, hr => by
    obtain ⟨⟨x, hx⟩, hv⟩ := hr
    obtain ⟨h1, h2⟩ := h.live k x hx
    exact ⟨h1, by rw [h2]; exact hv⟩
  | .eptr cs, v, hr => by
    obtain ⟨b, off, h1, hb, c, h2⟩ := hr
    refine ⟨b, off, h1, Nat.lt_of_lt_of_le hb h.size, c, fun j d hd => ?_⟩
    obtain ⟨k1, k2, k3⟩ := h2 j d hd
    exact ⟨⟨k1.1, h.okk _ _ hb k1.2⟩, (h.cell _ _ hb k1.2).trans k2, RepM.mono k3 h.size (fun b o hb hk => ⟨hk.1, h.okk b o hb hk.2⟩) (fun b o hb hk => h.cell b o hb hk.2)⟩
  | .fn f caps, v, hr => by
    obtain ⟨vs, rfl, hl⟩ := hr
    exact ⟨vs, rfl, RVL.mono h caps vs hl⟩
  | .full sz n r, v, hr => by
    obtain ⟨row, g, h1, h2, h3, h4, h5⟩ := hr
    obtain ⟨row', k1, k2, -, -, k5⟩ := h.rowl r row h1
    exact ⟨row', g, k1, k2.trans h2, (k5 h3).1, by rw [(k5 h3).2]; exact h4, h5⟩
  | .rptr r i, v, hr => by
    obtain ⟨row, g, n, h1, h3, h4, h5⟩ := hr
    obtain ⟨row', k1, k2, -, -, k5⟩ := h.rowl r row h1
    exact ⟨row', g, n, k1, (k5 h3).1, by rw [(k5 h3).2]; exact h4, by rw [k2]; exact h5⟩
theorem RVL.mono {av : Nat → Nat → Prop} {st st' : Sto} {m m' : Lay} {w w' : World} (h : Ev st m w st' m' w') : ∀ (ps : List PV) (vs : List Value), RVL (okA av st m) st m w ps vs → RVL (okA av st' m') st' m' w' ps vs
  | [], [], hr => hr
  | p :: ps, v :: vs, hr => ⟨RV.mono h p v hr.1, RVL.mono h ps vs hr.2⟩
  | [], _ :: _, hr => hr.elim
  | _ :: _, [], hr => hr.elim
end

theorem RVL.length {ok : Nat → Nat → Prop} {st : Sto} {m : Lay} {w : World} : ∀ {ps : List PV} {vs : List Value}, RVL ok st m w ps vs → ps.length = vs.length
  | [], [], _ => rfl
  | _ :: _, _ :: _, h => by simp [RVL.length h.2]
  | [], _ :: _, h => h.elim
  | _ :: _, [], h => h.elim
theorem RVL.get {ok : Nat → Nat → Prop} {st : Sto} {m : Lay} {w : World} : ∀ {ps : List PV} {vs : List Value} {j : Nat} {p : PV}, RVL ok st m w ps vs → ps[j]? = some p → ∃ v, vs[j]? = some v ∧ RV ok st m w p v
  | [], [], _, _, _, hp => by simp at hp
  | p :: ps, v :: vs, 0, q, h, hp => by simp at hp; subst hp; exact ⟨v, rfl, h.1⟩
  | p :: ps, v :: vs, j + 1, q, h, hp => by simpa using RVL.get (j := j) h.2 (by simpa using hp)
  | [], _ :: _, _, _, h, _ => h.elim
  | _ :: _, [], _, _, h, _ => h.elim
theorem RVL.take {ok : Nat → Nat → Prop} {st : Sto} {m : Lay} {w : World} : ∀ {ps : List PV} {vs : List Value} (n : Nat), RVL ok st m w ps vs → RVL ok st m w (ps.take n) (vs.take n)
  | [], [], n, _ => by simp [RVL]
  | p :: ps, v :: vs, 0, _ => by simp [RVL]
  | p :: ps, v :: vs, n + 1, h => ⟨h.1, RVL.take n h.2⟩
  | [], _ :: _, _, h => h.elim
  | _ :: _, [], _, h => h.elim
theorem RVL.drop {ok : Nat → Nat → Prop} {st : Sto} {m : Lay} {w : World} : ∀ {ps : List PV} {vs : List Value} (n : Nat), RVL ok st m w ps vs → RVL ok st m w (ps.drop n) (vs.drop n)
  | [], [], n, _ => by simp [RVL]
  | p :: ps, v :: vs, 0, h => h
  | p :: ps, v :: vs, n + 1, h => RVL.drop (ps := ps) (vs := vs) n h.2
  | [], _ :: _, _, h => h.elim
  | _ :: _, [], _, h => h.elim
theorem RVL.append {ok : Nat → Nat → Prop} {st : Sto} {m : Lay} {w : World} : ∀ {ps qs : List PV} {vs us : List Value}, RVL ok st m w ps vs → RVL ok st m w qs us → RVL ok st m w (ps ++ qs) (vs ++ us)
  | [], _, [], _, _, k => k
  | p :: ps, _, v :: vs, _, h, k => ⟨h.1, RVL.append h.2 k⟩
  | [], _, _ :: _, _, h, _ => h.elim
  | _ :: _, _, [], _, h, _ => h.elim

theorem RVL.ofTr {ok : Nat → Nat → Prop} {st : Sto} {m : Lay} {w : World} : ∀ {ts : List Tr} {vs : List Value}, RVL ok st m w (ts.map PV.t) vs → RepL w ts vs
  | [], [], _ => trivial
  | _ :: _, _ :: _, h => ⟨RepM.rep h.1, RVL.ofTr h.2⟩
  | [], _ :: _, h => h.elim
  | _ :: _, [], h => h.elim
theorem RepL.toRVL {ok : Nat → Nat → Prop} {st : Sto} {m : Lay} {w : World} (hk : ∀ b o, b < w.heap.size → ok b o) : ∀ {ts : List Tr} {vs : List Value}, RepL w ts vs → RVL ok st m w (ts.map PV.t) vs
  | [], [], _ => trivial
  | _ :: _, _ :: _, h => ⟨h.1.repM hk, RepL.toRVL hk h.2⟩
  | [], _ :: _, h => h.elim
  | _ :: _, [], h => h.elim

end Go.Proofs.Ytoifjkggpanceaa

namespace Go.Proofs.Ytoifjkggpanceaa
set_option linter.unusedSimpArgs false
set_option linter.unusedVariables false
open Go.RowKit

structure AS where
  env : List (Nat × PV)
  st : Sto
def AS.lk (s : AS) (i : Nat) : Option PV := s.env.lookup i
def AS.put (s : AS) (d : Nat) (p : PV) : AS := ⟨(d, p) :: s.env, s.st⟩
def AS.putO (s : AS) : Option Nat → PV → AS
  | none, _ => s
  | some d, p => s.put d p
def AS.delO (s : AS) : Option Nat → AS
  | none => s
  | some d => ⟨s.env.filter (fun x => x.1 != d), s.st⟩
def constPV : Value → Option PV
  | .int k n => if (Lit.int k n).wf then some (.t (.leaf (.int k n))) else none
  | .bool b => some (.t (.leaf (.bool b)))
  | .string s => if s.size ≤ maxLen then some (.t (.leaf (.string s))) else none
  | .slice none 0 0 => some .nil
  | _ => none
def AS.ev (s : AS) : Operand → Option PV
  | .tmp i => s.lk i
  | .const v => constPV v
  | .global _ => none
  | .func f => some (.fn f [])

/-- What stood at the entry. -/
structure Ctx where
  av : Nat → Nat → Prop
  st : Sto
  m : Lay
  w : World

structure RA (C : Ctx) (n : Nat) (s : AS) (m : Lay) (a : Act) (w : World) : Prop where
  dfr : a.defers = []
  tsz : a.tmps.size = n
  sto : StoOk C.av s.st m w
  env : ∀ i p, s.lk i = some p → ∃ v, a.tmps[i]? = some v ∧ RV (okA C.av s.st m) s.st m w p v
  ev : Ev C.st C.m C.w s.st m w

theorem constPV_rv {ok : Nat → Nat → Prop} {st : Sto} {m : Lay} {w : World} {v : Value} {p : PV} (h : constPV v = some p) : RV ok st m w p v := by
  unfold constPV at h
  split at h
  · split at h
    · rename_i hw
      cases h
      exact RepM.leaf hw
    · cases h
  · cases h
    exact RepM.leaf trivial
  · split at h
    · rename_i hw
      cases h
      exact RepM.leaf hw
    · cases h
  · cases h
    rfl
  · cases h

section
variable {C : Ctx} {n : Nat} {s : AS} {m : Lay} {a : Act} {w : World}

theorem RA.eval (h : RA C n s m a w) {x : Operand} {p : PV} (hx : s.ev x = some p) : RV (okA C.av s.st m) s.st m w p (a.eval x) := by
  cases x with
  | tmp i =>
    obtain ⟨v, hv, hr⟩ := h.env i p hx
    simpa [Act.eval, Array.getD_eq_getD_getElem?, hv] using hr
  | const v => exact constPV_rv hx
  | global g => cases hx
  | func f =>
    cases hx
    exact ⟨[], rfl, trivial⟩

theorem AS.lk_put (s : AS) (d i : Nat) (p : PV) : (s.put d p).lk i = if i = d then some p else s.lk i := by
  unfold AS.lk AS.put
  rw [List.lookup_cons]
  by_cases h : i = d
  · simp [h]
  · rw [if_neg h, show (i == d) = false by simp [h]]

theorem RA.put (h : RA C n s m a w) {d : Option Nat} {p : PV} {v : Value} (hd : ∀ x, d = some x → x < n) (hr : RV (okA C.av s.st m) s.st m w p v) : RA C n (s.putO d p) m (a.put d v) w := by
  cases d with
  | none => exact h
  | some d =>
    refine ⟨h.dfr, by simp [Act.put, h.tsz], h.sto, fun i q hq => ?_, h.ev⟩
    have hq' : (s.put d p).lk i = some q := hq
    rw [AS.lk_put] at hq'
    have hdn := hd d rfl
    by_cases hi : i = d
    · rw [if_pos hi] at hq'
      cases hq'
      subst hi
      exact ⟨v, by simp [Act.put, h.tsz, hdn], hr⟩
    · rw [if_neg hi] at hq'
      obtain ⟨u, hu, hru⟩ := h.env i q hq'
      exact ⟨u, by simp only [Act.put]; rw [Array.getElem?_setIfInBounds_ne (fun e => hi e.symm)]; exact hu, hru⟩

theorem lookup_filter_ne {d i : Nat} {q : PV} : ∀ (l : List (Nat × PV)), (l.filter (fun x => x.1 != d)).lookup i = some q → i ≠ d ∧ l.lookup i = some q
  | [], h => by simp at h
  | (k, p) :: l, h => by
    by_cases hk : k = d
    · have h' : (l.filter (fun x => x.1 != d)).lookup i = some q := by simpa [List.filter_cons, hk] using h
      obtain ⟨h1, h2⟩ := lookup_filter_ne l h'
      refine ⟨h1, ?_⟩
      rw [List.lookup_cons, show (i == k) = false by simp [hk, h1]]
      exact h2
    · have h' : ((k, p) :: l.filter (fun x => x.1 != d)).lookup i = some q := by simpa [List.filter_cons, hk] using h
      rw [List.lookup_cons] at h' ⊢
      by_cases hik : i = k
      · subst hik
        simp only [BEq.rfl] at h' ⊢
        exact ⟨hk, h'⟩
      · rw [show (i == k) = false by simp [hik]] at h' ⊢
        exact lookup_filter_ne l h'

theorem RA.del (h : RA C n s m a w) (d : Option Nat) (v : Value) : RA C n (s.delO d) m (a.put d v) w := by
  cases d with
  | none => exact h
  | some d =>
    refine ⟨h.dfr, by simp [Act.put, h.tsz], h.sto, fun i q hq => ?_, h.ev⟩
    obtain ⟨h1, h2⟩ := lookup_filter_ne s.env hq
    obtain ⟨u, hu, hru⟩ := h.env i q h2
    exact ⟨u, by simp only [Act.put]; rw [Array.getElem?_setIfInBounds_ne (fun e => h1 e.symm)]; exact hu, hru⟩

theorem RA.step (h : RA C n s m a w) {st1 : Sto} {m1 : Lay} {w1 : World} (e : Ev s.st m w st1 m1 w1) (k : StoOk C.av st1 m1 w1) : RA C n ⟨s.env, st1⟩ m1 a w1 :=
  ⟨h.dfr, h.tsz, k, fun i p hp => by obtain ⟨v, hv, hr⟩ := h.env i p hp; exact ⟨v, hv, RV.mono e p v hr⟩, h.ev.trans e⟩
end

/-- A state that says less. -/
def Wk (C : Ctx) (n : Nat) (s s' : AS) : Prop := ∀ m a w, RA C n s m a w → ∃ m', RA C n s' m' a w
theorem Wk.refl (C : Ctx) (n : Nat) (s : AS) : Wk C n s s := fun m _ _ h => ⟨m, h⟩
theorem Wk.trans {C : Ctx} {n : Nat} {s s' s'' : AS} (h : Wk C n s s') (k : Wk C n s' s'') : Wk C n s s'' := fun m a w hr => by
  obtain ⟨m', h'⟩ := h m a w hr
  exact k m' a w h'

def AWP (P : Program) (C : Ctx) (n : Nat) (c : Code) (Q : Exit → AS → Prop) (s : AS) : Prop :=
  ∀ m a w, RA C n s m a w → c.wp P (fun e a' w' => ∃ s' m', Q e s' ∧ RA C n s' m' a' w') a w
def AL (P : Program) (C : Ctx) (n : Nat) (ops : Array Oper) (l : List Oper) (Q : Exit → AS → Prop) (s : AS) : Prop :=
  ∀ m a w, RA C n s m a w → wpList P ops (fun e a' w' => ∃ s' m', Q e s' ∧ RA C n s' m' a' w') l a w
def AOp (P : Program) (C : Ctx) (n : Nat) (o : Oper) (s s1 : AS) : Prop :=
  ∀ m a w, RA C n s m a w → ∀ (K : Act → World → Prop) (Q : Exit → Act → World → Prop), (∀ m' a' w', RA C n s1 m' a' w' → K a' w') → o.wp P a w K Q

def thenA (next : AS → Prop) (Q : Exit → AS → Prop) : Exit → AS → Prop
  | .normal, s => next s
  | e, s => Q e s
def inBlockA (id : Nat) (Q : Exit → AS → Prop) : Exit → AS → Prop
  | .exit id', s => if id' = id then Q .normal s else Q (.exit id') s
  | e, s => Q e s

section
variable {P : Program} {C : Ctx} {n : Nat} {s : AS} {Q : Exit → AS → Prop}

theorem AWP.weak {c : Code} {s' : AS} (hw : Wk C n s s') (h : AWP P C n c Q s') : AWP P C n c Q s := fun m a w hr => by
  obtain ⟨m', h'⟩ := hw m a w hr
  exact h m' a w h'
theorem AL.weak {ops : Array Oper} {l : List Oper} {s' : AS} (hw : Wk C n s s') (h : AL P C n ops l Q s') : AL P C n ops l Q s := fun m a w hr => by
  obtain ⟨m', h'⟩ := hw m a w hr
  exact h m' a w h'
theorem AWP.mono {c : Code} {Q' : Exit → AS → Prop} (h : AWP P C n c Q s) (hq : ∀ e s', Q e s' → Q' e s') : AWP P C n c Q' s := fun m a w hr =>
  wp_mono (h m a w hr) fun e a' w' => by rintro ⟨s', m', h1, h2⟩; exact ⟨s', m', hq e s' h1, h2⟩

theorem AWP.skip (h : Q .normal s) : AWP P C n .skip Q s := fun m _ _ hr => wp_skip ⟨s, m, h, hr⟩
theorem AWP.exit {id : Nat} (h : Q (.exit id) s) : AWP P C n (.exit id) Q s := fun m _ _ hr => wp_exit ⟨s, m, h, hr⟩
theorem AWP.ret (h : Q .ret s) : AWP P C n .ret Q s := fun m _ _ hr => wp_ret ⟨s, m, h, hr⟩
theorem AWP.seq {x y : Code} (h : AWP P C n x (thenA (AWP P C n y Q) Q) s) : AWP P C n (.seq x y) Q s := fun m a w hr =>
  wp_seq (wp_mono (h m a w hr) fun e a' w' => by
    rintro ⟨s', m', h1, h2⟩
    cases e with
    | normal => exact h1 m' a' w' h2
    | _ => exact ⟨s', m', h1, h2⟩)
theorem AWP.block {id : Nat} {c : Code} (h : AWP P C n c (inBlockA id Q) s) : AWP P C n (.block id c) Q s := fun m a w hr =>
  wp_block (wp_mono (h m a w hr) fun e a' w' => by
    rintro ⟨s', m', h1, h2⟩
    cases e with
    | exit id' =>
      simp only [inBlockA] at h1
      simp only [Exit.inBlock]
      split <;> rename_i hid
      · rw [if_pos hid] at h1; exact ⟨s', m', h1, h2⟩
      · rw [if_neg hid] at h1; exact ⟨s', m', h1, h2⟩
    | _ => exact ⟨s', m', h1, h2⟩)
theorem AWP.cond {c : Operand} {x y : Code} {b : Bool} (hc : s.ev c = some (.t (.leaf (.bool b)))) (ht : b = true → AWP P C n x Q s) (hf : b = false → AWP P C n y Q s) : AWP P C n (.cond c x y) Q s := fun m a w hr => by
  have hv := (RepM.leaf_eq (hr.eval hc)).1
  exact wp_cond_split hv (fun h => ht h m a w hr) (fun h => hf h m a w hr)

theorem wp_loop_ix {c : Code} {R : Exit → Act → World → Prop} {ι : Type} (I : ι → Act → World → Prop) (μ : ι → Nat) (i0 : ι) {a : Act} {w : World} (h₀ : I i0 a w)
    (round : ∀ i a w, I i a w → c.wp P (Exit.then (fun a' w' => ∃ j, I j a' w' ∧ μ j < μ i) R) a w) : (Code.loop c).wp P R a w := by
  intro b k cs
  have key : ∀ n i a w, μ i = n → I i a w → ∃ e a' w', R e a' w' ∧ Arrives P (lone (b.at a (.code c :: .inLoop c :: k)) cs w) b k cs e a' w' := by
    intro n
    induction n using Nat.strongRecOn with
    | _ n ih =>
      intro i a w hn hI
      obtain ⟨e, a₁, w₁, hq, harr⟩ := round i a w hI b (.inLoop c :: k) cs
      cases e with
      | normal =>
        obtain ⟨j, hI₁, hlt⟩ := hq
        obtain ⟨e₂, a₂, w₂, hq₂, harr₂⟩ := ih (μ j) (hn ▸ hlt) j a₁ w₁ rfl hI₁
        exact ⟨e₂, a₂, w₂, hq₂, .of_steps (Steps.trans harr (.one step_inLoop)) harr₂⟩
      | exit id => exact ⟨_, a₁, w₁, hq, .pass (x := .inLoop c) rfl (fun _ _ => .inl (by simp)) harr⟩
      | goto l => exact ⟨_, a₁, w₁, hq, .pass (x := .inLoop c) rfl (fun _ _ => .inl (by simp)) harr⟩
      | ret => exact ⟨_, a₁, w₁, hq, .pass (x := .inLoop c) rfl (fun _ _ => .inl (by simp)) harr⟩
      | panic ch => exact ⟨_, a₁, w₁, hq, .pass (x := .inLoop c) rfl (fun _ _ => .inl (by simp)) harr⟩
      | outgrown => exact ⟨_, a₁, w₁, hq, .pass (x := .inLoop c) rfl (fun _ _ => .inl (by simp)) harr⟩
  obtain ⟨e, a', w', hq, harr⟩ := key _ i0 a w rfl h₀
  exact ⟨e, a', w', hq, .of_steps (.one step_loop) harr⟩

/-- A loop: at its head the state is 'I i' for some i. -/
theorem AWP.loop {c : Code} {ι : Type} (I : ι → AS) (μ : ι → Nat) (i0 : ι) (h0 : Wk C n s (I i0)) (round : ∀ i, AWP P C n c (thenA (fun s' => ∃ j, Wk C n s' (I j) ∧ μ j < μ i) Q) (I i)) : AWP P C n (.loop c) Q s := fun m a w hr => by
  refine wp_loop_ix (fun i a w => ∃ m, RA C n (I i) m a w) μ i0 (h0 m a w hr) fun i a w hi => ?_
  obtain ⟨m1, h1⟩ := hi
  refine wp_mono (round i m1 a w h1) fun e a' w' => ?_
  rintro ⟨s', m', h2, h3⟩
  cases e with
  | normal =>
    obtain ⟨j, hj, hlt⟩ := h2
    exact ⟨j, hj m' a' w' h3, hlt⟩
  | _ => exact ⟨s', m', h2, h3⟩

theorem AWP.region {id : Nat} {ops : Array Oper} (h : AL P C n ops ops.toList Q s) : AWP P C n (.region id ops false) Q s := fun m a w hr => wp_region_list (h m a w hr)
theorem AWP.region_lit {id : Nat} {l : List Oper} (h : AL P C n l.toArray l Q s) : AWP P C n (.region id l.toArray false) Q s := AWP.region (by simpa using h)
theorem AL.nil {ops : Array Oper} (h : Q .normal s) : AL P C n ops [] Q s := fun m _ _ hr => wpList_nil ⟨s, m, h, hr⟩
theorem AL.cons {ops : Array Oper} {o : Oper} {rest : List Oper} {s1 : AS} (hg : o.guard = none) (ho : AOp P C n o s s1) (h : AL P C n ops rest Q s1) : AL P C n ops (o :: rest) Q s := fun m a w hr =>
  wpList_plain hg fun K hK => ho m a w hr K _ fun m' a' w' h' => hK a' w' (h m' a' w' h')

theorem RA.yielded {a : Act} {m : Lay} {w : World} (hr : RA C n s m a w) {ops : Array Oper} {j d : Nat} {b : Bool} (hj : (ops[j]?).bind (·.dst) = some d) (hb : s.lk d = some (.t (.leaf (.bool b)))) : yielded ops a.tmps j = some b := by
  obtain ⟨v, hv, hrv⟩ := hr.env d _ hb
  obtain ⟨rfl, -⟩ := RepM.leaf_eq hrv
  simp [Go.yielded, hj, hv]
theorem AL.cons_g {ops : Array Oper} {o : Oper} {rest : List Oper} {s1 : AS} {j d : Nat} {b : Bool} (hg : o.guard = some (j, b)) (hj : (ops[j]?).bind (·.dst) = some d) (hb : s.lk d = some (.t (.leaf (.bool b)))) (ho : AOp P C n o s s1) (h : AL P C n ops rest Q s1) : AL P C n ops (o :: rest) Q s := fun m a w hr =>
  wpList_step fun K hK => by
    rw [if_pos (by simp [Region.wanted, hg, hr.yielded hj hb])]
    exact ho m a w hr K _ fun m' a' w' h' => hK a' w' (h m' a' w' h')
theorem AL.skip {ops : Array Oper} {o : Oper} {rest : List Oper} {j d : Nat} {b c : Bool} (hg : o.guard = some (j, c)) (hj : (ops[j]?).bind (·.dst) = some d) (hb : s.lk d = some (.t (.leaf (.bool b)))) (hbc : (b == c) = false) (h : AL P C n ops rest Q (s.delO o.dst)) : AL P C n ops (o :: rest) Q s := fun m a w hr =>
  wpList_step fun K hK => by
    rw [if_neg (by simpa [Region.wanted, hg, hr.yielded hj hb] using hbc)]
    exact hK _ _ (h m _ w (hr.del o.dst undef))

/-- An operation that yields a value and leaves the memory alone. -/
theorem AOp.quiet {o : Oper} {p : PV} (hd : ∀ x, o.dst = some x → x < n) (h : ∀ m a w, RA C n s m a w → ∃ v, (execOp a.eval o).run P w = .ok (.value v) w ∧ RV (okA C.av s.st m) s.st m w p v) : AOp P C n o s (s.putO o.dst p) := fun m a w hr K Q hK => by
  obtain ⟨v, hv, hp⟩ := h m a w hr
  unfold Oper.wp
  rw [hv]
  exact hK m _ w (hr.put hd hp)
end

/-- A call: whatever the memory, the function returns 'res', the boxes and rows that it was handed stand as in the new store. -/
def ACalls (P : Program) (f : FuncId) (args : List PV) (pre : Sto) (R : PV → Sto → Prop) : Prop :=
  ∀ av m w vals, StoOk av pre m w → RVL (okA av pre m) pre m w args vals →
    Calls P f ⟨vals⟩ w fun e w' => ∃ res st' m' v, e = .returned v ∧ R res st' ∧ StoOk av st' m' w' ∧ Ev pre m w st' m' w' ∧ RV (okA av st' m') st' m' w' res v

def argEnv : Nat → List PV → List (Nat × PV)
  | _, [] => []
  | i, p :: ps => (i, p) :: argEnv (i + 1) ps
theorem argEnv_lookup {av : Nat → Nat → Prop} {st : Sto} {m : Lay} {w : World} : ∀ (ps : List PV) (vs : List Value) (k i : Nat) (p : PV), RVL (okA av st m) st m w ps vs → (argEnv k ps).lookup i = some p → ∃ v, k ≤ i ∧ vs[i - k]? = some v ∧ RV (okA av st m) st m w p v
  | [], [], _, _, _, _, h => by simp [argEnv] at h
  | q :: ps, u :: vs, k, i, p, hr, h => by
    rw [argEnv, List.lookup_cons] at h
    by_cases hik : i = k
    · subst hik
      simp at h
      subst h
      exact ⟨u, Nat.le_refl _, by simp, hr.1⟩
    · rw [show (i == k) = false by simp [hik]] at h
      obtain ⟨v, h1, h2, h3⟩ := argEnv_lookup ps vs (k + 1) i p hr.2 h
      exact ⟨v, by omega, by rw [show i - k = (i - (k + 1)) + 1 by omega]; simpa using h2, h3⟩
  | [], _ :: _, _, _, _, hr, _ => hr.elim
  | _ :: _, [], _, _, _, hr, _ => hr.elim

/-- What a function's end says: its results, and the boxes and rows that stay. -/
def Ends (P : Program) (C : Ctx) (n : Nat) (fn : Func) (R : PV → Sto → Prop) (e : Exit) (s : AS) : Prop :=
  (e = .normal ∨ e = .ret) ∧ ∀ m a w, RA C n s m a w → ∃ res st' m' v, (results fn a.tmps).run P w = .ok v w ∧ R res st' ∧ StoOk C.av st' m' w ∧ Ev C.st C.m C.w st' m' w ∧ RV (okA C.av st' m') st' m' w res v

theorem ACalls.intro {P : Program} {f : FuncId} {fn : Func} {c : Code} {args : List PV} {pre : Sto} {R : PV → Sto → Prop} (hf : P.funcs[f]? = some fn) (hb : fn.body = some c) (hn : args.length ≤ fn.ntmps)
    (h : ∀ C : Ctx, C.st = pre → AWP P C fn.ntmps c (Ends P C fn.ntmps fn R) ⟨argEnv 0 args, pre⟩) : ACalls P f args pre R := by
  intro av m w vals hst hargs
  refine calls_of_wp hf hb ?_
  have hl : args.length = vals.length := hargs.length
  have hra : RA ⟨av, pre, m, w⟩ fn.ntmps ⟨argEnv 0 args, pre⟩ m { tmps := ⟨vals⟩ ++ Array.replicate (fn.ntmps - (⟨vals⟩ : Array Value).size) undef, defers := [] } w := by
    refine ⟨rfl, by simp; omega, hst, fun i p hp => ?_, Ev.refl _ _ _⟩
    obtain ⟨v, -, h2, h3⟩ := argEnv_lookup args vals 0 i p hargs hp
    refine ⟨v, ?_, h3⟩
    have hi : i < vals.length := (List.getElem?_eq_some_iff.1 (by simpa using h2)).1
    rw [Array.getElem?_append_left (by simpa using hi)]
    simpa using h2
  refine wp_mono (h ⟨av, pre, m, w⟩ rfl m _ w hra) fun e a' w' => ?_
  rintro ⟨s', m', ⟨he, hends⟩, hr⟩
  obtain ⟨res, st', m2, v, h1, h2, h3, h4, h5⟩ := hends m' a' w' hr
  rcases he with rfl | rfl
  · exact ⟨hr.dfr, v, h1, res, st', m2, v, rfl, h2, h3, h4, h5⟩
  · exact ⟨hr.dfr, v, h1, res, st', m2, v, rfl, h2, h3, h4, h5⟩

end Go.Proofs.Ytoifjkggpanceaa

namespace Go.Proofs.Ytoifjkggpanceaa
set_option linter.unusedSimpArgs false
set_option linter.unusedVariables false
open Go.RowKit Go.WalkArith Go.IntWalk Go.WideShapes

def dstOk (d : Option Nat) (n : Nat) : Bool := match d with | none => true | some x => decide (x < n)
theorem dstOk_lt {d : Option Nat} {n : Nat} (h : dstOk d n = true) : ∀ x, d = some x → x < n := by
  rintro x rfl
  simpa [dstOk] using h
def aggD : TypeDesc → Bool
  | .struct _ | .array _ _ => true
  | _ => false
/-- Is it a struct (or an array), and how many cells has it? -/
def shapeOf (P : Program) (T : TypeId) : Option (Bool × Nat) :=
  match P.underlying T, P.info? T with
  | some d, some i => some (aggD d, i.size)
  | _, _ => none
def fieldOff (P : Program) (T f : Nat) : Option Nat :=
  match P.underlying T with
  | some (.struct fs) => match fs[f]? with
    | some fd => match P.info? fd.type with
      | some i => if i.size = 0 then none else some fd.offset
      | none => none
    | none => none
  | _ => none
/-- A slice's element: its type, its cells, its bytes. -/
def elemOf? (P : Program) (T : TypeId) : Option (TypeId × Nat × Nat) :=
  match P.underlying T with
  | some (.slice E) => (P.info? E).map fun i => (E, i.size, i.bytes)
  | _ => none

section
variable {P : Program}
theorem shapeOf.spec {T : TypeId} {b : Bool} {n : Nat} (h : shapeOf P T = some (b, n)) : ∃ d i, P.underlying T = some d ∧ P.info? T = some i ∧ aggD d = b ∧ i.size = n := by
  unfold shapeOf at h
  split at h
  · rename_i d i hu hi
    simp only [Option.some.injEq, Prod.mk.injEq] at h
    exact ⟨d, i, hu, hi, h.1, h.2⟩
  · cases h
theorem fieldOff.spec {T f d : Nat} (h : fieldOff P T f = some d) : ∃ fs fd i, P.underlying T = some (.struct fs) ∧ fs[f]? = some fd ∧ P.info? fd.type = some i ∧ i.size ≠ 0 ∧ fd.offset = d := by
  unfold fieldOff at h
  split at h
  · rename_i fs hu
    split at h
    · rename_i fd hf
      split at h
      · rename_i i hi
        split at h
        · cases h
        · rename_i hz
          exact ⟨fs, fd, i, hu, hf, hi, hz, by simpa using h⟩
      · cases h
    · cases h
  · cases h
theorem elemOf?.spec {T E sz by_ : Nat} (h : elemOf? P T = some (E, sz, by_)) : ∃ i, P.underlying T = some (.slice E) ∧ P.info? E = some i ∧ i.size = sz ∧ i.bytes = by_ := by
  unfold elemOf? at h
  split at h
  · rename_i E' hu
    cases hi : P.info? E' with
    | none => simp [hi] at h
    | some i =>
      simp only [hi, Option.map_some, Option.some.injEq, Prod.mk.injEq] at h
      obtain ⟨rfl, h1, h2⟩ := h
      exact ⟨i, hu, hi, h1, h2⟩
  · cases h

theorem run_isAgg {T : TypeId} {b : Bool} {n : Nat} (h : shapeOf P T = some (b, n)) (w : World) : (isAgg T).run P w = .ok b w := by
  obtain ⟨d, i, hu, -, hb, -⟩ := shapeOf.spec h
  unfold isAgg
  rw [Sem.run_bind, run_underlying hu w]
  cases d <;> simp_all [aggD]
theorem run_sizeOf' {T : TypeId} {b : Bool} {n : Nat} (h : shapeOf P T = some (b, n)) (w : World) : (Go.sizeOf T).run P w = .ok n w := by
  obtain ⟨d, i, -, hi, -, hs⟩ := shapeOf.spec h
  simp [Go.sizeOf, typeInfo, hi, hs]
theorem run_loadVar_agg {T : TypeId} {b off : Nat} {cs : List Value} {w : World} (h : shapeOf P T = some (true, cs.length)) (hc : ∀ j v, cs[j]? = some v → w.cell? ⟨b, off + j, none⟩ = some v) : (loadVar T ⟨b, off, none⟩).run P w = .ok (.agg ⟨cs⟩) w := by
  have hl : (loadCells ⟨b, off, none⟩ cs.length).run P w = .ok cs.toArray w :=
    run_loadCells_list (P := P) w ⟨b, off, none⟩ cs (fun j v hv => by
      have hadd : (⟨b, off, none⟩ : Addr).add j = ⟨b, off + j, none⟩ := by unfold Addr.add; split <;> simp_all
      rw [hadd]; exact hc j v hv)
  simp [loadVar, Sem.run_bind, run_isAgg h, run_sizeOf' h, hl]
theorem run_loadVar_one {T : TypeId} {n : Nat} {p : Addr} {v : Value} {w : World} (h : shapeOf P T = some (false, n)) (hc : w.cell? p = some v) : (loadVar T p).run P w = .ok v w := by
  simp [loadVar, Sem.run_bind, run_isAgg h, hc]
theorem run_fieldAt' {T f d b o : Nat} (h : fieldOff P T f = some d) (w : World) : (Instr.fieldAt T (.pointer (some ⟨b, o, none⟩)) f).run P w = .ok (.pointer (some ⟨b, o + d, none⟩)) w := by
  obtain ⟨fs, fd, i, hu, hf, hi, hz, rfl⟩ := fieldOff.spec h
  have hadd : ∀ n, (⟨b, o, none⟩ : Addr).add n = ⟨b, o + n, none⟩ := fun n => by unfold Addr.add; split <;> simp_all
  simp [Instr.fieldAt, Sem.run_bind, run_underlying hu, hf, Instr.sureAddr, fieldPlace, Go.sizeOf, typeInfo, hi, hz, hadd]
theorem run_indexAt' {T E sz by_ b off len cap k : Nat} (h : elemOf? P T = some (E, sz, by_)) (hk : k < len) (w : World) : (Instr.indexAt T (.slice (some ⟨b, off, none⟩) len cap) (.int .i64 (k : Int))).run P w = .ok (.pointer (some ⟨b, off + k * sz, none⟩)) w := by
  obtain ⟨i, hu, hi, hs, -⟩ := elemOf?.spec h
  have hadd : ∀ n, (⟨b, off, none⟩ : Addr).add n = ⟨b, off + n, none⟩ := fun n => by unfold Addr.add; split <;> simp_all
  simp [Instr.indexAt, asIntOf, Sem.run_bind, run_underlying hu, Go.sizeOf, typeInfo, hi, hs, hadd]
  intro h2
  omega
end

section
variable {P : Program} {C : Ctx} {n : Nat} {s : AS} {o : Oper}

theorem AOp.move {x : Operand} {p : PV} (ho : o.op = .move x ∨ o.op = .assign x) (hd : dstOk o.dst n = true) (hx : s.ev x = some p) : AOp P C n o s (s.putO o.dst p) :=
  AOp.quiet (dstOk_lt hd) fun m a w hr => ⟨a.eval x, by unfold execOp; rcases ho with ho | ho <;> simp [ho], hr.eval hx⟩

theorem AOp.bin {op : BinOp} {T yT : TypeId} {x y : Operand} {u v r : Value} (ho : o.op = .binOp op T x y yT) (hd : dstOk o.dst n = true) (hx : s.ev x = some (.t (.leaf u))) (hy : s.ev y = some (.t (.leaf v)))
    (hrun : ∀ w, ((do eqGuard op T x y u v; binOp op T u v) : Sem Value).run P w = .ok r w) (hr : LeafOk r) : AOp P C n o s (s.putO o.dst (.t (.leaf r))) :=
  AOp.quiet (dstOk_lt hd) fun m a w h => by
    have h1 := (RepM.leaf_eq (h.eval hx)).1
    have h2 := (RepM.leaf_eq (h.eval hy)).1
    refine ⟨r, ?_, RepM.leaf hr⟩
    unfold execOp
    simp only [ho, h1, h2]
    rw [Sem.run_bind, hrun w]
    rfl

theorem AOp.addI {T yT : TypeId} {x y : Operand} {a b c : Int} (ho : o.op = .binOp .add T x y yT) (hd : dstOk o.dst n = true) (hx : s.ev x = some (.t (.leaf (.int .i64 a)))) (hy : s.ev y = some (.t (.leaf (.int .i64 b))))
    (hc : a + b = c) (hb : -9223372036854775808 ≤ c ∧ c ≤ 9223372036854775807) : AOp P C n o s (s.putO o.dst (.t (.leaf (.int .i64 c)))) := by
  subst hc
  exact AOp.bin ho hd hx hy (fun w => by simp [eqGuard, binOp, Op.intArith, i64_in _ hb]) (wf_i64 hb)
theorem AOp.subI {T yT : TypeId} {x y : Operand} {a b c : Int} (ho : o.op = .binOp .sub T x y yT) (hd : dstOk o.dst n = true) (hx : s.ev x = some (.t (.leaf (.int .i64 a)))) (hy : s.ev y = some (.t (.leaf (.int .i64 b))))
    (hc : a - b = c) (hb : -9223372036854775808 ≤ c ∧ c ≤ 9223372036854775807) : AOp P C n o s (s.putO o.dst (.t (.leaf (.int .i64 c)))) := by
  subst hc
  exact AOp.bin ho hd hx hy (fun w => by simp [eqGuard, binOp, Op.intArith, i64_in _ hb]) (wf_i64 hb)
theorem AOp.mulI {T yT : TypeId} {x y : Operand} {a b c : Int} (ho : o.op = .binOp .mul T x y yT) (hd : dstOk o.dst n = true) (hx : s.ev x = some (.t (.leaf (.int .i64 a)))) (hy : s.ev y = some (.t (.leaf (.int .i64 b))))
    (hc : a * b = c) (hb : -9223372036854775808 ≤ c ∧ c ≤ 9223372036854775807) : AOp P C n o s (s.putO o.dst (.t (.leaf (.int .i64 c)))) := by
  subst hc
  exact AOp.bin ho hd hx hy (fun w => by simp [eqGuard, binOp, Op.intArith, i64_in _ hb]) (wf_i64 hb)
theorem AOp.addW {T yT : TypeId} {x y : Operand} {k : IntKind} {a b : Int} (ho : o.op = .binOp .add T x y yT) (hd : dstOk o.dst n = true) (hx : s.ev x = some (.t (.leaf (.int k a)))) (hy : s.ev y = some (.t (.leaf (.int k b)))) :
    AOp P C n o s (s.putO o.dst (.t (.leaf (.int k (k.wrap (a + b)))))) := AOp.bin ho hd hx hy (fun w => by simp [eqGuard, binOp, Op.intArith]) (wf_wrap k _)
theorem AOp.subW {T yT : TypeId} {x y : Operand} {k : IntKind} {a b : Int} (ho : o.op = .binOp .sub T x y yT) (hd : dstOk o.dst n = true) (hx : s.ev x = some (.t (.leaf (.int k a)))) (hy : s.ev y = some (.t (.leaf (.int k b)))) :
    AOp P C n o s (s.putO o.dst (.t (.leaf (.int k (k.wrap (a - b)))))) := AOp.bin ho hd hx hy (fun w => by simp [eqGuard, binOp, Op.intArith]) (wf_wrap k _)
theorem AOp.mulW {T yT : TypeId} {x y : Operand} {k : IntKind} {a b : Int} (ho : o.op = .binOp .mul T x y yT) (hd : dstOk o.dst n = true) (hx : s.ev x = some (.t (.leaf (.int k a)))) (hy : s.ev y = some (.t (.leaf (.int k b)))) :
    AOp P C n o s (s.putO o.dst (.t (.leaf (.int k (k.wrap (a * b)))))) := AOp.bin ho hd hx hy (fun w => by simp [eqGuard, binOp, Op.intArith]) (wf_wrap k _)
theorem AOp.lss {T yT : TypeId} {x y : Operand} {k : IntKind} {a b : Int} (ho : o.op = .binOp .lss T x y yT) (hd : dstOk o.dst n = true) (hx : s.ev x = some (.t (.leaf (.int k a)))) (hy : s.ev y = some (.t (.leaf (.int k b)))) :
    AOp P C n o s (s.putO o.dst (.t (.leaf (.bool (decide (a < b)))))) := AOp.bin ho hd hx hy (fun w => by simp [eqGuard, binOp, Op.intCmp]) trivial
theorem AOp.leq {T yT : TypeId} {x y : Operand} {k : IntKind} {a b : Int} (ho : o.op = .binOp .leq T x y yT) (hd : dstOk o.dst n = true) (hx : s.ev x = some (.t (.leaf (.int k a)))) (hy : s.ev y = some (.t (.leaf (.int k b)))) :
    AOp P C n o s (s.putO o.dst (.t (.leaf (.bool (decide (a ≤ b)))))) := AOp.bin ho hd hx hy (fun w => by simp [eqGuard, binOp, Op.intCmp]) trivial
theorem AOp.gtr {T yT : TypeId} {x y : Operand} {k : IntKind} {a b : Int} (ho : o.op = .binOp .gtr T x y yT) (hd : dstOk o.dst n = true) (hx : s.ev x = some (.t (.leaf (.int k a)))) (hy : s.ev y = some (.t (.leaf (.int k b)))) :
    AOp P C n o s (s.putO o.dst (.t (.leaf (.bool (decide (a > b)))))) := AOp.bin ho hd hx hy (fun w => by simp [eqGuard, binOp, Op.intCmp]) trivial
theorem AOp.geq {T yT : TypeId} {x y : Operand} {k : IntKind} {a b : Int} (ho : o.op = .binOp .geq T x y yT) (hd : dstOk o.dst n = true) (hx : s.ev x = some (.t (.leaf (.int k a)))) (hy : s.ev y = some (.t (.leaf (.int k b)))) :
    AOp P C n o s (s.putO o.dst (.t (.leaf (.bool (decide (a ≥ b)))))) := AOp.bin ho hd hx hy (fun w => by simp [eqGuard, binOp, Op.intCmp]) trivial
theorem AOp.eqlI {T yT : TypeId} {x y : Operand} {k : IntKind} {a b : Int} (ho : o.op = .binOp .eql T x y yT) (hd : dstOk o.dst n = true) (hx : s.ev x = some (.t (.leaf (.int k a)))) (hy : s.ev y = some (.t (.leaf (.int k b)))) :
    AOp P C n o s (s.putO o.dst (.t (.leaf (.bool (decide (a = b)))))) := AOp.bin ho hd hx hy (fun w => by simp [eqGuard, binOp, Op.intCmp]; rfl) trivial
theorem AOp.neqI {T yT : TypeId} {x y : Operand} {k : IntKind} {a b : Int} (ho : o.op = .binOp .neq T x y yT) (hd : dstOk o.dst n = true) (hx : s.ev x = some (.t (.leaf (.int k a)))) (hy : s.ev y = some (.t (.leaf (.int k b)))) :
    AOp P C n o s (s.putO o.dst (.t (.leaf (.bool (!decide (a = b)))))) := AOp.bin ho hd hx hy (fun w => by simp [eqGuard, binOp, Op.intCmp]; rfl) trivial
theorem bytes_toList_inj {a b : ByteArray} (h : a.toList = b.toList) : a = b := by
  rw [ByteArray.toList_eq, ByteArray.toList_eq] at h
  obtain ⟨⟨x⟩⟩ := a
  obtain ⟨⟨y⟩⟩ := b
  have h : x = y := h
  rw [h]
theorem bytes_beq (a b : ByteArray) : (a.toList == b.toList) = decide (a = b) := by
  by_cases h : a = b
  · subst h; simp
  · rw [decide_eq_false h]
    simpa using fun e => h (bytes_toList_inj e)
theorem AOp.eqlS {T yT : TypeId} {x y : Operand} {a b : ByteArray} (ho : o.op = .binOp .eql T x y yT) (hd : dstOk o.dst n = true) (hx : s.ev x = some (.t (.leaf (.string a)))) (hy : s.ev y = some (.t (.leaf (.string b)))) :
    AOp P C n o s (s.putO o.dst (.t (.leaf (.bool (decide (a = b)))))) := AOp.bin ho hd hx hy (fun w => by simp [eqGuard, binOp, Op.stringOp, bytes_beq]) trivial
theorem AOp.neqS {T yT : TypeId} {x y : Operand} {a b : ByteArray} (ho : o.op = .binOp .neq T x y yT) (hd : dstOk o.dst n = true) (hx : s.ev x = some (.t (.leaf (.string a)))) (hy : s.ev y = some (.t (.leaf (.string b)))) :
    AOp P C n o s (s.putO o.dst (.t (.leaf (.bool (!decide (a = b)))))) := AOp.bin ho hd hx hy (fun w => by simp [eqGuard, binOp, Op.stringOp, bytes_beq]) trivial
theorem AOp.addS {T yT : TypeId} {x y : Operand} {a b : ByteArray} (ho : o.op = .binOp .add T x y yT) (hd : dstOk o.dst n = true) (hx : s.ev x = some (.t (.leaf (.string a)))) (hy : s.ev y = some (.t (.leaf (.string b)))) (hb : a.size + b.size ≤ 9223372036854775807) :
    AOp P C n o s (s.putO o.dst (.t (.leaf (.string (a ++ b))))) := AOp.bin ho hd hx hy (fun w => by
      have h2 : ¬ ((a.size : Int) + (b.size : Int) > 9223372036854775807) := by omega
      have h3 : IntKind.max .i64 = 9223372036854775807 := by decide
      simp [eqGuard, binOp, Op.stringOp, h3]
      omega) (by show (a ++ b).size ≤ maxLen; rw [ByteArray.size_append]; unfold maxLen; omega)
theorem AOp.notB {T : TypeId} {x : Operand} {b : Bool} (ho : o.op = .unOp .not T x) (hd : dstOk o.dst n = true) (hx : s.ev x = some (.t (.leaf (.bool b)))) : AOp P C n o s (s.putO o.dst (.t (.leaf (.bool (!b))))) :=
  AOp.quiet (dstOk_lt hd) fun m a w h => ⟨.bool (!b), by
    have h1 := (RepM.leaf_eq (h.eval hx)).1
    unfold execOp
    simp [ho, h1, Op.unary], RepM.leaf trivial⟩
theorem AOp.pick {x y z : Operand} {b : Bool} {p q : PV} (ho : o.op = .pick x y z) (hd : dstOk o.dst n = true) (hx : s.ev x = some (.t (.leaf (.bool b)))) (hy : b = true → s.ev y = some p) (hz : b = false → s.ev z = some p) : AOp P C n o s (s.putO o.dst p) :=
  AOp.quiet (dstOk_lt hd) fun m a w h => by
    have h1 := (RepM.leaf_eq (h.eval hx)).1
    cases b with
    | true => exact ⟨a.eval y, by unfold execOp; simp [ho, h1, asBool], h.eval (hy rfl)⟩
    | false => exact ⟨a.eval z, by unfold execOp; simp [ho, h1, asBool], h.eval (hz rfl)⟩
theorem AOp.nilPtr {x : Operand} {k d : Nat} (ho : o.op = .nilCheck x) (hd : dstOk o.dst n = true) (hx : s.ev x = some (.ptr k d)) : AOp P C n o s (s.putO o.dst (.ptr k d)) :=
  AOp.quiet (dstOk_lt hd) fun m a w h => by
    have h1 := h.eval hx
    refine ⟨a.eval x, ?_, h1⟩
    have h2 := h1.2
    unfold execOp
    simp [ho, h2]
theorem AOp.nilFn {x : Operand} {f : FuncId} {cs : List PV} (ho : o.op = .nilCheck x) (hd : dstOk o.dst n = true) (hx : s.ev x = some (.fn f cs)) : AOp P C n o s (s.putO o.dst (.fn f cs)) :=
  AOp.quiet (dstOk_lt hd) fun m a w h => by
    have h1 := h.eval hx
    refine ⟨a.eval x, ?_, h1⟩
    obtain ⟨vs, h2, -⟩ := h1
    unfold execOp
    simp [ho, h2]
theorem AOp.fieldPtr {T : TypeId} {x : Operand} {f k d e : Nat} (ho : o.op = .fieldAddr T x f) (hd : dstOk o.dst n = true) (hx : s.ev x = some (.ptr k d)) (hf : fieldOff P T f = some e) : AOp P C n o s (s.putO o.dst (.ptr k (d + e))) :=
  AOp.quiet (dstOk_lt hd) fun m a w h => by
    obtain ⟨h1, h2⟩ := h.eval hx
    refine ⟨_, ?_, h1, rfl⟩
    unfold execOp
    simp [ho, h2, run_fieldAt' hf]
theorem AOp.fieldEptr {T : TypeId} {x : Operand} {f e : Nat} {cs : List Tr} (ho : o.op = .fieldAddr T x f) (hd : dstOk o.dst n = true) (hx : s.ev x = some (.eptr cs)) (hf : fieldOff P T f = some e) : AOp P C n o s (s.putO o.dst (.eptr (cs.drop e))) :=
  AOp.quiet (dstOk_lt hd) fun m a w h => by
    obtain ⟨b, off, h1, hb, c, h2⟩ := h.eval hx
    refine ⟨.pointer (some ⟨b, off + e, none⟩), ?_, b, off + e, rfl, hb, fun j => c (e + j), fun j d hj => ?_⟩
    · unfold execOp
      simp [ho, h1, run_fieldAt' hf]
    · rw [List.getElem?_drop] at hj
      obtain ⟨k1, k2, k3⟩ := h2 _ _ hj
      exact ⟨by rw [Nat.add_assoc]; exact k1, by rw [Nat.add_assoc]; exact k2, k3⟩
/-- The data of a slice, whichever way it is held. -/
def rowOf : PV → Option (Nat × List (List Tr))
  | .t (.row sz es) => some (sz, es)
  | .acc sz es _ => some (sz, es)
  | _ => none
theorem rowOf_rv {ok : Nat → Nat → Prop} {st : Sto} {m : Lay} {w : World} {p : PV} {sz : Nat} {es : List (List Tr)} {v : Value} (h : rowOf p = some (sz, es)) (hr : RV ok st m w p v) : RepM ok w (.row sz es) v := by
  unfold rowOf at h
  split at h
  · cases h; exact hr
  · cases h
    obtain ⟨row, -, -, -, h4, -⟩ := hr
    exact h4
  · cases h
theorem AOp.index {T E sz by_ : Nat} {x i : Operand} {p : PV} {es : List (List Tr)} {e : List Tr} {k : Nat} (ho : o.op = .indexAddr T x i) (hd : dstOk o.dst n = true) (hx : s.ev x = some p) (hp : rowOf p = some (sz, es)) (hi : s.ev i = some (.t (.leaf (.int .i64 (k : Int)))))
    (he : es[k]? = some e) (hT : elemOf? P T = some (E, sz, by_)) : AOp P C n o s (s.putO o.dst (.eptr e)) :=
  AOp.quiet (dstOk_lt hd) fun m a w h => by
    have h1 := rowOf_rv hp (h.eval hx)
    have h2 := (RepM.leaf_eq (h.eval hi)).1
    cases hv : a.eval x with
    | slice ad len cap =>
      rw [hv] at h1
      cases h1 with
      | row c k1 k2 k3 k4 =>
        obtain ⟨b, off, rfl, hb, k5⟩ := k3 (by rintro rfl; simp at he)
        have hk : k < es.length := (List.getElem?_eq_some_iff.1 he).1
        refine ⟨.pointer (some ⟨b, off + k * sz, none⟩), ?_, b, off + k * sz, rfl, hb, c k, fun j d hj => ⟨(k5 k e he j d hj).1, (k5 k e he j d hj).2, k4 k e he j d hj⟩⟩
        unfold execOp
        simp [ho, hv, h2, run_indexAt' hT hk]
    | _ => rw [hv] at h1; cases h1
theorem AOp.len {T ty : TypeId} {x : Operand} {p : PV} {sz : Nat} {es : List (List Tr)} {E : Nat × Nat × Nat} (ho : o.op = .call { callee := .builtin .len, args := #[x], argTypes := #[T] }) (hd : dstOk o.dst n = true) (hx : s.ev x = some p) (hp : rowOf p = some (sz, es)) (hT : elemOf? P T = some E) :
    AOp P C n o s (s.putO o.dst (.t (.leaf (.int .i64 (es.length : Int))))) :=
  AOp.quiet (dstOk_lt hd) fun m a w h => by
    obtain ⟨ad, cap, h1, h2, h3⟩ := (rowOf_rv hp (h.eval hx)).shape
    obtain ⟨E1, E2, E3⟩ := E
    obtain ⟨i, hu, -, -, -⟩ := elemOf?.spec hT
    refine ⟨.int .i64 (es.length : Int), ?_, RepM.leaf (wf_i64 (by unfold maxLen at h3; omega))⟩
    unfold execOp
    simp [ho, resolve, invoke, builtin, h1, Builtin.len_, run_underlying hu, goInt]
theorem AOp.lenNil {T : TypeId} {x : Operand} {E : Nat × Nat × Nat} (ho : o.op = .call { callee := .builtin .len, args := #[x], argTypes := #[T] }) (hd : dstOk o.dst n = true) (hx : s.ev x = some .nil) (hT : elemOf? P T = some E) :
    AOp P C n o s (s.putO o.dst (.t (.leaf (.int .i64 0)))) :=
  AOp.quiet (dstOk_lt hd) fun m a w h => by
    have h1 : a.eval x = .slice none 0 0 := h.eval hx
    obtain ⟨E1, E2, E3⟩ := E
    obtain ⟨i, hu, -, -, -⟩ := elemOf?.spec hT
    refine ⟨.int .i64 0, ?_, RepM.leaf (wf_i64 (by omega))⟩
    unfold execOp
    simp [ho, resolve, invoke, builtin, h1, Builtin.len_, run_underlying hu, goInt]
theorem AOp.lenS {T : TypeId} {x : Operand} {v : ByteArray} (ho : o.op = .call { callee := .builtin .len, args := #[x], argTypes := #[T] }) (hd : dstOk o.dst n = true) (hx : s.ev x = some (.t (.leaf (.string v)))) (hT : P.underlying T = some .string) :
    AOp P C n o s (s.putO o.dst (.t (.leaf (.int .i64 (v.size : Int))))) :=
  AOp.quiet (dstOk_lt hd) fun m a w h => by
    obtain ⟨h1, h3⟩ := RepM.leaf_eq (h.eval hx)
    have h4 : v.size ≤ maxLen := h3
    refine ⟨.int .i64 (v.size : Int), ?_, RepM.leaf (wf_i64 (by unfold maxLen at h4; omega))⟩
    unfold execOp
    simp [ho, resolve, invoke, builtin, h1, Builtin.len_, run_underlying hT, goInt]
theorem AOp.extract {x : Operand} {i : Nat} {ps : List PV} {p : PV} (ho : o.op = .extract x i) (hd : dstOk o.dst n = true) (hx : s.ev x = some (.tup ps)) (hi : ps[i]? = some p) : AOp P C n o s (s.putO o.dst p) :=
  AOp.quiet (dstOk_lt hd) fun m a w h => by
    obtain ⟨vs, h1, h2⟩ := h.eval hx
    obtain ⟨v, hv, hr⟩ := h2.get hi
    refine ⟨v, ?_, hr⟩
    unfold execOp
    simp [ho, h1, Instr.extract, hv]
theorem AOp.makeFunc {f : FuncId} {cap : Array Operand} {ps : List PV} (ho : o.op = .makeFunc (.func f) #[] cap) (hd : dstOk o.dst n = true) (hc : cap.toList.map s.ev = ps.map some) : AOp P C n o s (s.putO o.dst (.fn f ps)) :=
  AOp.quiet (dstOk_lt hd) fun m a w h => by
    have key : ∀ (l : List Operand) (qs : List PV), l.map s.ev = qs.map some → RVL (okA C.av s.st m) s.st m w qs (l.map a.eval) := by
      intro l
      induction l with
      | nil => intro qs hq; cases qs <;> simp_all [RVL]
      | cons x l ih =>
        intro qs hq
        cases qs with
        | nil => simp at hq
        | cons q qs =>
          simp only [List.map_cons, List.cons.injEq] at hq
          exact ⟨h.eval hq.1, ih qs hq.2⟩
    refine ⟨.func (.func f) #[] ⟨cap.toList.map a.eval⟩, ?_, _, rfl, key _ _ hc⟩
    unfold execOp
    simp only [ho, Instr.makeFunc]
    have e : cap.map a.eval = ⟨cap.toList.map a.eval⟩ := by apply Array.ext'; simp
    simp [e]
/-- A load from one of our boxes. -/
theorem AOp.loadPtr {T : TypeId} {x : Operand} {k d z : Nat} {bx : PBox} {cs : List PV} (ho : o.op = .load T x) (hd : dstOk o.dst n = true) (hx : s.ev x = some (.ptr k d)) (hb : s.st.boxes[k]? = some (some bx)) (hT : shapeOf P T = some (true, z)) (hc : (bx.cells.drop d).take z = cs) (hl : cs.length = z) :
    AOp P C n o s (s.putO o.dst (.agg cs)) :=
  AOp.quiet (dstOk_lt hd) fun m a w h => by
    obtain ⟨-, h2⟩ := h.eval hx
    obtain ⟨vs, h3, h4⟩ := h.sto.box k bx hb
    have h5 := RVL.take z (RVL.drop d h4)
    rw [hc] at h5
    refine ⟨.agg ⟨(vs.drop d).take z⟩, ?_, _, rfl, h5⟩
    have hlen := h5.length
    have hld := run_loadVar_agg (P := P) (T := T) (b := m.ρ k) (off := d) (cs := (vs.drop d).take z) (w := w) (by rw [← hlen, hl]; exact hT) (fun j v hj => by
      have hjz : j < z := by have := (List.getElem?_eq_some_iff.1 hj).1; simp at this; omega
      rw [List.getElem?_take, if_pos hjz, List.getElem?_drop] at hj
      rw [h3.cell]
      simpa using hj)
    unfold execOp
    simp [ho, h2, Instr.loadAt, Instr.sureAddr, hld]
theorem AOp.loadPtr1 {T : TypeId} {x : Operand} {k d z : Nat} {bx : PBox} {p : PV} (ho : o.op = .load T x) (hd : dstOk o.dst n = true) (hx : s.ev x = some (.ptr k d)) (hb : s.st.boxes[k]? = some (some bx)) (hT : shapeOf P T = some (false, z)) (hc : bx.cells[d]? = some p) :
    AOp P C n o s (s.putO o.dst p) :=
  AOp.quiet (dstOk_lt hd) fun m a w h => by
    obtain ⟨-, h2⟩ := h.eval hx
    obtain ⟨vs, h3, h4⟩ := h.sto.box k bx hb
    obtain ⟨v, hv, hr⟩ := h4.get hc
    refine ⟨v, ?_, hr⟩
    have hld := run_loadVar_one (P := P) (T := T) (p := ⟨m.ρ k, d, none⟩) (v := v) (w := w) hT (by rw [h3.cell]; simpa using hv)
    unfold execOp
    simp [ho, h2, Instr.loadAt, Instr.sureAddr, hld]
theorem RVL.of_fn {ok : Nat → Nat → Prop} {st : Sto} {m : Lay} {w : World} {c : Nat → Value} : ∀ {ts : List Tr} (k : Nat), (∀ (j : Nat) d, ts[j]? = some d → RepM ok w d (c (k + j))) → RVL ok st m w (ts.map PV.t) ((List.range' k ts.length).map c) := by
  intro ts
  induction ts with
  | nil => intro k _; simp [RVL]
  | cons t ts ih =>
    intro k h
    refine ⟨h 0 t rfl, ?_⟩
    exact ih (k + 1) (fun j d hd => by have := h (j + 1) d (by simpa using hd); rwa [show k + 1 + j = k + (j + 1) by omega])
theorem AOp.loadEptr {T : TypeId} {x : Operand} {z : Nat} {cs ds : List Tr} (ho : o.op = .load T x) (hd : dstOk o.dst n = true) (hx : s.ev x = some (.eptr cs)) (hT : shapeOf P T = some (true, z)) (hc : cs.take z = ds) (hl : ds.length = z) :
    AOp P C n o s (s.putO o.dst (.agg (ds.map PV.t))) :=
  AOp.quiet (dstOk_lt hd) fun m a w h => by
    obtain ⟨b, off, h1, hb, c, h2⟩ := h.eval hx
    have hget : ∀ (j : Nat) d, ds[j]? = some d → cs[j]? = some d := fun j d hj => by
      rw [← hc, List.getElem?_take] at hj
      split at hj
      · exact hj
      · cases hj
    refine ⟨.agg ⟨(List.range' 0 ds.length).map c⟩, ?_, _, rfl, RVL.of_fn 0 fun j d hj => by rw [Nat.zero_add]; exact (h2 j d (hget j d hj)).2.2⟩
    have hld := run_loadVar_agg (P := P) (T := T) (b := b) (off := off) (cs := (List.range' 0 ds.length).map c) (w := w) (by simpa [hl] using hT) (fun j v hj => by
      rw [List.getElem?_map] at hj
      rcases hr : (List.range' 0 ds.length)[j]? with _ | i
      · simp [hr] at hj
      · have hjl : j < ds.length := by have := (List.getElem?_eq_some_iff.1 hr).1; simpa using this
        rw [List.getElem?_range' hjl] at hr
        simp at hr
        subst hr
        simp [List.getElem?_range' hjl] at hj
        rw [← hj]
        exact (h2 j ds[j] (hget j _ (List.getElem?_eq_getElem hjl))).2.1)
    unfold execOp
    simp [ho, h1, Instr.loadAt, Instr.sureAddr, hld]
theorem AOp.loadEptr1 {T : TypeId} {x : Operand} {z : Nat} {d : Tr} {cs : List Tr} (ho : o.op = .load T x) (hd : dstOk o.dst n = true) (hx : s.ev x = some (.eptr cs)) (hT : shapeOf P T = some (false, z)) (hc : cs[0]? = some d) :
    AOp P C n o s (s.putO o.dst (.t d)) :=
  AOp.quiet (dstOk_lt hd) fun m a w h => by
    obtain ⟨b, off, h1, hb, c, h2⟩ := h.eval hx
    obtain ⟨k1, k2, k3⟩ := h2 0 d hc
    refine ⟨c 0, ?_, k3⟩
    have hld := run_loadVar_one (P := P) (T := T) (p := ⟨b, off, none⟩) (v := c 0) (w := w) hT k2
    unfold execOp
    simp [ho, h1, Instr.loadAt, Instr.sureAddr, hld]
end
end Go.Proofs.Ytoifjkggpanceaa

namespace Go.Proofs.Ytoifjkggpanceaa
set_option linter.unusedSimpArgs false
set_option linter.unusedVariables false
open Go.RowKit Go.WalkArith Go.IntWalk Go.WideShapes

def upd {α : Type} (f : Nat → α) (k : Nat) (v : α) : Nat → α := fun i => if i = k then v else f i
theorem upd_same {α : Type} (f : Nat → α) (k : Nat) (v : α) : upd f k v k = v := by simp [upd]
theorem upd_ne {α : Type} {f : Nat → α} {k i : Nat} {v : α} (h : i ≠ k) : upd f k v i = f i := by simp [upd, h]

theorem getElem?_snoc {α : Type} {l : List α} {x y : α} {i : Nat} (h : (l ++ [x])[i]? = some y) : (i < l.length ∧ l[i]? = some y) ∨ (i = l.length ∧ y = x) := by
  rcases Nat.lt_or_ge i l.length with hi | hi
  · rw [List.getElem?_append_left hi] at h
    exact .inl ⟨hi, h⟩
  · rw [List.getElem?_append_right hi] at h
    rcases hk : i - l.length with _ | k
    · rw [hk] at h
      simp at h
      exact .inr ⟨by omega, h.symm⟩
    · rw [hk] at h
      simp at h
theorem get_lt {α : Type} {l : List α} {y : α} {i : Nat} (h : l[i]? = some y) : i < l.length := (List.getElem?_eq_some_iff.1 h).1

theorem heap_other_cell {w w' : World} {b o : Nat} (h : w'.heap[b]? = w.heap[b]?) : w'.cell? ⟨b, o, none⟩ = w.cell? ⟨b, o, none⟩ := World.cell?_of_block (a := ⟨b, o, none⟩) h

theorem StoOk.box_lt {av : Nat → Nat → Prop} {st : Sto} {m : Lay} {w : World} (h : StoOk av st m w) {k : Nat} {x : PBox} (hx : st.boxes[k]? = some (some x)) : m.ρ k < w.heap.size := by
  obtain ⟨vs, h1, -⟩ := h.box k x hx
  exact h1.lt
theorem StoOk.row_lt {av : Nat → Nat → Prop} {st : Sto} {m : Lay} {w : World} (h : StoOk av st m w) {r : Nat} {row : PRow} {g c : Nat} (hr : st.rows[r]? = some row) (hg : m.γ r = some (g, c)) : g < w.heap.size := by
  obtain ⟨-, -, h1⟩ := h.row r row hr
  rcases h1 with ⟨h1, -⟩ | ⟨g', c', cur, h1, h2, -⟩
  · rw [hg] at h1; cases h1
  · rw [hg] at h1
    injection h1 with h1
    injection h1 with h1 h3
    subst h1
    exact h2.lt

/-- The world may be later: what is known of stores stays. -/
theorem Ev.later {st : Sto} {m : Lay} {w w' : World} (h : Ext w w') : Ev st m w st m w' :=
  ⟨h.os, h.tape, h.output, h.size, fun b hb _ _ => h.block b hb, fun b o hb _ => heap_other_cell (h.block b hb), fun _ _ _ h => h, fun _ x h => ⟨⟨x, h⟩, rfl⟩, fun _ x h => .inl ⟨x, h⟩, fun _ row h => ⟨row, h, rfl, Nat.le_refl _, fun _ => rfl, fun h => ⟨h, rfl⟩⟩, fun _ row _ c h h' => .inl ⟨row, c, h, h'⟩⟩
theorem RepM.ext {ok : Nat → Nat → Prop} {w w' : World} {t : Tr} {v : Value} (h : RepM ok w t v) (hx : Ext w w') : RepM ok w' t v := h.mono hx.size (fun _ _ _ h => h) (fun _ _ hb _ => heap_other_cell (hx.block _ hb))
theorem StoOk.later {av : Nat → Nat → Prop} {st : Sto} {m : Lay} {w w' : World} (h : StoOk av st m w) (hx : Ext w w') : StoOk av st m w' where
  box := fun k x hk => by
    obtain ⟨vs, h1, h2⟩ := h.box k x hk
    exact ⟨vs, h1.ext hx, RVL.mono (Ev.later hx) _ _ h2⟩
  binj := h.binj
  row := fun r row hr => by
    obtain ⟨h1, h2, h3⟩ := h.row r row hr
    refine ⟨h1, h2, ?_⟩
    rcases h3 with h3 | ⟨g, c, cur, k1, k2, k3, k4, k5, k6⟩
    · exact .inl h3
    · exact .inr ⟨g, c, cur, k1, k2.ext hx, k3, k4, k5, k6.ext hx⟩
  rinj := h.rinj
  br := h.br
  avlt := fun b o hb => Nat.lt_of_lt_of_le (h.avlt b o hb) hx.size
  avr := h.avr

/-! ### A new box -/
def Sto.addBox (st : Sto) (x : PBox) : Sto := ⟨st.boxes ++ [some x], st.rows⟩
theorem addBox_live {st : Sto} {x y : PBox} {k : Nat} (h : (st.addBox x).boxes[k]? = some (some y)) : (k < st.boxes.length ∧ st.boxes[k]? = some (some y)) ∨ (k = st.boxes.length ∧ y = x) := by
  rcases getElem?_snoc h with h | ⟨h1, h2⟩
  · exact .inl h
  · exact .inr ⟨h1, Option.some.inj h2⟩
theorem ev_addBox {st : Sto} {m : Lay} {w : World} {x : PBox} {vs : Array Value} : Ev st m w (st.addBox x) ⟨upd m.ρ st.boxes.length w.heap.size, m.γ⟩ (w.alloc (.cells vs x.ty)) := by
  have hx : Ext w (w.alloc (.cells vs x.ty)) := .alloc (.refl _) _
  refine ⟨hx.os, hx.tape, hx.output, hx.size, fun b hb _ _ => hx.block b hb, fun b o hb _ => heap_other_cell (hx.block b hb), fun b o hb h => ⟨fun k y hk => ?_, h.2⟩, fun k y hk => ⟨⟨y, ?_⟩, ?_⟩, fun k y hk => ?_, fun _ row h => ⟨row, h, rfl, Nat.le_refl _, fun _ => rfl, fun h => ⟨h, rfl⟩⟩, fun _ row _ c h h' => .inl ⟨row, c, h, h'⟩⟩
  · rcases addBox_live hk with ⟨h1, h2⟩ | ⟨rfl, rfl⟩
    · simp only [upd_ne (show k ≠ st.boxes.length by omega)]
      exact h.1 k y h2
    · simp only [upd_same]
      omega
  · show (st.boxes ++ [some x])[k]? = _
    rw [List.getElem?_append_left (get_lt hk)]; exact hk
  · exact upd_ne (by have := get_lt hk; omega)
  · rcases addBox_live hk with ⟨h1, h2⟩ | ⟨rfl, rfl⟩
    · exact .inl ⟨y, h2⟩
    · exact .inr (by simp [upd_same])
theorem sto_addBox {av : Nat → Nat → Prop} {st : Sto} {m : Lay} {w : World} {x : PBox} {vs : List Value} (h : StoOk av st m w) (hc : RVL (okA av st m) st m w x.cells vs) :
    StoOk av (st.addBox x) ⟨upd m.ρ st.boxes.length w.heap.size, m.γ⟩ (w.alloc (.cells ⟨vs⟩ x.ty)) := by
  have hx : Ext w (w.alloc (.cells ⟨vs⟩ x.ty)) := .alloc (.refl _) _
  have he : Ev st m w (st.addBox x) ⟨upd m.ρ st.boxes.length w.heap.size, m.γ⟩ (w.alloc (.cells ⟨vs⟩ x.ty)) := ev_addBox
  have hw := fun k y (hk : st.boxes[k]? = some (some y)) => h.box_lt hk
  refine ⟨fun k y hk => ?_, fun k k' y y' hk hk' hne => ?_, fun r row hr => ?_, h.rinj, fun k y r row g c hk hr hg => ?_, fun b o hb => Nat.lt_of_lt_of_le (h.avlt b o hb) hx.size, h.avr⟩
  · rcases addBox_live hk with ⟨h1, h2⟩ | ⟨rfl, rfl⟩
    · obtain ⟨us, k1, k2⟩ := h.box k y h2
      simp only [upd_ne (show k ≠ st.boxes.length by omega)]
      exact ⟨us, k1.ext hx, RVL.mono he _ _ k2⟩
    · simp only [upd_same]
      exact ⟨vs, OB.new w _ _, RVL.mono he _ _ hc⟩
  · rcases addBox_live hk with ⟨h1, h2⟩ | ⟨rfl, rfl⟩ <;> rcases addBox_live hk' with ⟨h1', h2'⟩ | ⟨rfl, rfl⟩
    · simp only [upd_ne (show k ≠ st.boxes.length by omega), upd_ne (show k' ≠ st.boxes.length by omega)]
      exact h.binj k k' y y' h2 h2' hne
    · simp only [upd_ne (show k ≠ st.boxes.length by omega), upd_same]
      have := hw k y h2
      omega
    · simp only [upd_ne (show k' ≠ st.boxes.length by omega), upd_same]
      have := hw k' y' h2'
      omega
    · exact absurd rfl hne
  · obtain ⟨k1, k2, k3⟩ := h.row r row hr
    refine ⟨k1, k2, ?_⟩
    rcases k3 with k3 | ⟨g, c, cur, q1, q2, q3, q4, q5, q6⟩
    · exact .inl k3
    · exact .inr ⟨g, c, cur, q1, q2.ext hx, q3, q4, q5, RV.mono he (.t _) _ q6⟩
  · rcases addBox_live hk with ⟨h1, h2⟩ | ⟨rfl, rfl⟩
    · simp only [upd_ne (show k ≠ st.boxes.length by omega)]
      exact h.br k y r row g c h2 hr hg
    · simp only [upd_same]
      have := h.row_lt hr hg
      omega

/-! ### A box is written -/
def Sto.setBox (st : Sto) (k : Nat) (x : PBox) : Sto := ⟨st.boxes.set k (some x), st.rows⟩
theorem setBox_live {st : Sto} {x y : PBox} {k i : Nat} (h : (st.setBox k x).boxes[i]? = some (some y)) : (i ≠ k ∧ st.boxes[i]? = some (some y)) ∨ (i = k ∧ y = x) := by
  have h : (st.boxes.set k (some x))[i]? = some (some y) := h
  rw [List.getElem?_set] at h
  split at h
  · rename_i hik
    split at h
    · exact .inr ⟨hik.symm, by simpa using h.symm⟩
    · cases h
  · rename_i hik
    exact .inl ⟨fun e => hik e.symm, h⟩
theorem ev_setBox {av : Nat → Nat → Prop} {st : Sto} {m : Lay} {w w1 : World} {k : Nat} {x y : PBox} (hst : StoOk av st m w) (hk : st.boxes[k]? = some (some x)) (hos : w1.os = w.os) (ht : w1.tape = w.tape) (hout : w1.output = w.output) (hz : w1.heap.size = w.heap.size)
    (hb : ∀ b, b ≠ m.ρ k → w1.heap[b]? = w.heap[b]?) : Ev st m w (st.setBox k y) m w1 := by
  refine ⟨hos, ht, hout, by omega, fun b _ h1 _ => hb b (fun e => h1 k x hk e.symm), fun b o _ h => heap_other_cell (hb b (fun e => h.1 k x hk e.symm)), fun b o _ h => ⟨fun i z hi => ?_, h.2⟩, fun i z hi => ⟨?_, rfl⟩, fun i z hi => ?_, fun _ row h => ⟨row, h, rfl, Nat.le_refl _, fun _ => rfl, fun h => ⟨h, rfl⟩⟩, fun _ row _ c h h' => .inl ⟨row, c, h, h'⟩⟩
  · rcases setBox_live hi with ⟨h1, h2⟩ | ⟨rfl, rfl⟩
    · exact h.1 i z h2
    · exact h.1 _ x hk
  · show ∃ x', (st.boxes.set k (some y))[i]? = some (some x')
    rw [List.getElem?_set]
    by_cases hik : k = i
    · subst hik
      exact ⟨y, by simp [get_lt hi]⟩
    · exact ⟨z, by rw [if_neg hik]; exact hi⟩
  · rcases setBox_live hi with ⟨h1, h2⟩ | ⟨rfl, rfl⟩
    · exact .inl ⟨z, h2⟩
    · exact .inl ⟨x, hk⟩
theorem sto_setBox {av : Nat → Nat → Prop} {st : Sto} {m : Lay} {w w1 : World} {k : Nat} {x y : PBox} {vs : List Value} (hst : StoOk av st m w) (hk : st.boxes[k]? = some (some x)) (hos : w1.os = w.os) (ht : w1.tape = w.tape) (hout : w1.output = w.output) (hz : w1.heap.size = w.heap.size)
    (hb : ∀ b, b ≠ m.ρ k → w1.heap[b]? = w.heap[b]?) (hob : OB w1 (m.ρ k) y.ty ⟨vs⟩) (hc : RVL (okA av st m) st m w y.cells vs) : StoOk av (st.setBox k y) m w1 := by
  have he : Ev st m w (st.setBox k y) m w1 := ev_setBox hst hk hos ht hout hz hb
  refine ⟨fun i z hi => ?_, fun i i' z z' hi hi' hne => ?_, fun r row hr => ?_, hst.rinj, fun i z r row g c hi hr hg => ?_, fun b o h => by rw [hz]; exact hst.avlt b o h, hst.avr⟩
  · rcases setBox_live hi with ⟨h1, h2⟩ | ⟨rfl, rfl⟩
    · obtain ⟨us, k1, k2⟩ := hst.box i z h2
      exact ⟨us, (hb _ (hst.binj i k z x h2 hk h1)).trans k1, RVL.mono he _ _ k2⟩
    · exact ⟨vs, hob, RVL.mono he _ _ hc⟩
  · have key : ∀ i z, (st.setBox k y).boxes[i]? = some (some z) → ∃ z', st.boxes[i]? = some (some z') := fun i z hi => by
      rcases setBox_live hi with ⟨h1, h2⟩ | ⟨rfl, rfl⟩
      · exact ⟨z, h2⟩
      · exact ⟨x, hk⟩
    obtain ⟨u, hu⟩ := key i z hi
    obtain ⟨u', hu'⟩ := key i' z' hi'
    exact hst.binj i i' u u' hu hu' hne
  · obtain ⟨k1, k2, k3⟩ := hst.row r row hr
    refine ⟨k1, k2, ?_⟩
    rcases k3 with k3 | ⟨g, c, cur, q1, q2, q3, q4, q5, q6⟩
    · exact .inl k3
    · exact .inr ⟨g, c, cur, q1, (hb g (fun e => hst.br k x r row g c hk hr q1 e.symm)).trans q2, q3, q4, q5, RV.mono he (.t _) _ q6⟩
  · rcases setBox_live hi with ⟨h1, h2⟩ | ⟨rfl, rfl⟩
    · exact hst.br i z r row g c h2 hr hg
    · exact hst.br _ x r row g c hk hr hg

/-! ### A row grows -/
def Sto.setRow (st : Sto) (r : Nat) (row : PRow) : Sto := ⟨st.boxes, st.rows.set r row⟩
theorem setRow_live {st : Sto} {x y : PRow} {k i : Nat} (h : (st.setRow k x).rows[i]? = some y) : (i ≠ k ∧ st.rows[i]? = some y) ∨ (i = k ∧ y = x) := by
  have h : (st.rows.set k x)[i]? = some y := h
  rw [List.getElem?_set] at h
  split at h
  · rename_i hik
    split at h
    · exact .inr ⟨hik.symm, by simpa using h.symm⟩
    · cases h
  · rename_i hik
    exact .inl ⟨fun e => hik e.symm, h⟩

/-- A row has come to hold more: at the place (g, c); the row's old place, if it had one, is the same or is left alone. -/
structure Grow (av : Nat → Nat → Prop) (st : Sto) (m : Lay) (w : World) (r : Nat) (row : PRow) (es2 : List (List Tr)) (g c : Nat) (cur : Array Value) (w1 : World) : Prop where
  live : st.rows[r]? = some row
  os : w1.os = w.os
  tape : w1.tape = w.tape
  output : w1.output = w.output
  size : w.heap.size ≤ w1.heap.size
  blk : ∀ b, b < w.heap.size → b ≠ g → w1.heap[b]? = w.heap[b]?
  ob : OB w1 g row.E cur
  csz : cur.size = c * row.sz
  fit : row.es.length + es2.length ≤ c
  max : c ≤ maxLen
  lens : ∀ e ∈ es2, e.length = row.sz
  old : ∀ i e, row.es[i]? = some e → ∀ j d, e[j]? = some d → ∃ v, cur[i * row.sz + j]? = some v ∧ RepM (okA av st m) w d v
  new : ∀ i e, es2[i]? = some e → ∀ j d, e[j]? = some d → ∃ v, cur[(row.es.length + i) * row.sz + j]? = some v ∧ RepM (okA av st m) w d v
  place : (∃ c0 cur0, m.γ r = some (g, c0) ∧ OB w g row.E cur0 ∧ ∀ o, o < row.es.length * row.sz → cur[o]? = cur0[o]?) ∨ w.heap.size ≤ g
  cap : row.whole = true ∨ es2 = [] → m.γ r = some (g, c)

theorem Grow.ev {av : Nat → Nat → Prop} {st : Sto} {m : Lay} {w : World} {r : Nat} {row : PRow} {es2 : List (List Tr)} {g c : Nat} {cur : Array Value} {w1 : World} (h : Grow av st m w r row es2 g c cur w1) (hst : StoOk av st m w) :
    Ev st m w (st.setRow r { row with es := row.es ++ es2 }) ⟨m.ρ, upd m.γ r (some (g, c))⟩ w1 := by
  have hg : ∀ b, b < w.heap.size → b = g → ∃ c0, m.γ r = some (g, c0) := fun b hb e => by
    rcases h.place with ⟨c0, cur0, h1, -⟩ | h1
    · exact ⟨c0, h1⟩
    · omega
  refine ⟨h.os, h.tape, h.output, h.size, fun b hb _ h2 => h.blk b hb fun e => ?_, fun b o hb hk => ?_, fun b o hb hk => ⟨hk.1, fun i row' g' c' hi hg' e => ?_⟩, fun k x hk => ⟨⟨x, hk⟩, rfl⟩, fun k x hk => .inl ⟨x, hk⟩, fun i row' hi => ?_, fun i row' g' c' hi hg' => ?_⟩
  · obtain ⟨c0, h1⟩ := hg b hb e
    exact h2 r row g c0 h.live h1 e.symm
  · by_cases e : b = g
    · subst e
      rcases h.place with ⟨c0, cur0, h1, h2, h3⟩ | h1
      · have ho := hk.2 r row b c0 h.live h1 rfl
        rw [h.ob.cell, h2.cell, h3 o ho]
      · omega
    · exact heap_other_cell (h.blk b hb e)
  · rcases setRow_live hi with ⟨h1, h2⟩ | ⟨rfl, rfl⟩
    · simp only [upd_ne h1] at hg'
      exact hk.2 i row' g' c' h2 hg' e
    · simp only [upd_same, Option.some.injEq, Prod.mk.injEq] at hg'
      obtain ⟨rfl, rfl⟩ := hg'
      subst e
      obtain ⟨c0, h1⟩ := hg _ hb rfl
      have := hk.2 _ row _ c0 h.live h1 rfl
      simp only [List.length_append]
      exact Nat.lt_of_lt_of_le this (Nat.mul_le_mul_right _ (by omega))
  · by_cases e : i = r
    · subst e
      rw [h.live] at hi
      cases hi
      refine ⟨{ row with es := row.es ++ es2 }, by show (st.rows.set i _)[i]? = _; simp [List.getElem?_set, get_lt h.live], rfl, by simp, fun he => ?_, fun hw => ⟨hw, ?_⟩⟩
      · simp only [upd_same]
        exact (h.cap (.inr (by simpa using he))).symm
      · simp only [upd_same]
        exact (h.cap (.inl hw)).symm
    · refine ⟨row', by show (st.rows.set r _)[i]? = _; rw [List.getElem?_set, if_neg (fun e' => e e'.symm)]; exact hi, rfl, Nat.le_refl _, fun _ => upd_ne e, fun hw => ⟨hw, upd_ne e⟩⟩
  · rcases setRow_live hi with ⟨h1, h2⟩ | ⟨rfl, rfl⟩
    · simp only [upd_ne h1] at hg'
      exact .inl ⟨row', c', h2, hg'⟩
    · simp only [upd_same, Option.some.injEq, Prod.mk.injEq] at hg'
      obtain ⟨rfl, rfl⟩ := hg'
      rcases h.place with ⟨c0, cur0, h1, -⟩ | h1
      · exact .inl ⟨row, c0, h.live, h1⟩
      · exact .inr h1

theorem Grow.sto {av : Nat → Nat → Prop} {st : Sto} {m : Lay} {w : World} {r : Nat} {row : PRow} {es2 : List (List Tr)} {g c : Nat} {cur : Array Value} {w1 : World} (h : Grow av st m w r row es2 g c cur w1) (hst : StoOk av st m w) :
    StoOk av (st.setRow r { row with es := row.es ++ es2 }) ⟨m.ρ, upd m.γ r (some (g, c))⟩ w1 := by
  have he := h.ev hst
  have hgn : ∀ i row' c', i ≠ r → st.rows[i]? = some row' → m.γ i = some (g, c') → False := fun i row' c' hne hi hg => by
    rcases h.place with ⟨c0, cur0, h1, -⟩ | h1
    · exact hne (hst.rinj i r row' row g c' c0 hi h.live hg h1)
    · have := hst.row_lt hi hg; omega
  have hbn : ∀ k x, st.boxes[k]? = some (some x) → m.ρ k ≠ g := fun k x hk e => by
    rcases h.place with ⟨c0, cur0, h1, -⟩ | h1
    · exact hst.br k x r row g c0 hk h.live h1 e
    · have := hst.box_lt hk; omega
  have hav : ∀ o, ¬ av g o := fun o ha => by
    rcases h.place with ⟨c0, cur0, h1, -⟩ | h1
    · exact hst.avr r row g c0 h.live h1 o ha
    · have := hst.avlt _ _ ha; omega
  obtain ⟨hpos, hlens, -⟩ := hst.row r row h.live
  refine ⟨fun k x hk => ?_, hst.binj, fun i row' hi => ?_, fun i i' row' row'' g' c' c'' hi hi' hg hg' => ?_, fun k x i row' g' c' hk hi hg => ?_, fun b o hb => Nat.lt_of_lt_of_le (hst.avlt b o hb) h.size, fun i row' g' c' hi hg o => ?_⟩
  · obtain ⟨vs, k1, k2⟩ := hst.box k x hk
    exact ⟨vs, (h.blk _ k1.lt (hbn k x hk)).trans k1, RVL.mono he _ _ k2⟩
  · rcases setRow_live hi with ⟨h1, h2⟩ | ⟨rfl, rfl⟩
    · obtain ⟨k1, k2, k3⟩ := hst.row i row' h2
      refine ⟨k1, k2, ?_⟩
      simp only [upd_ne h1]
      rcases k3 with k3 | ⟨g', c', cur', q1, q2, q3, q4, q5, q6⟩
      · exact .inl k3
      · refine .inr ⟨g', c', cur', q1, (h.blk g' q2.lt (fun e => ?_)).trans q2, q3, q4, q5, RV.mono he (.t _) _ q6⟩
        subst e
        exact hgn i row' c' h1 h2 q1
    · refine ⟨hpos, fun e he' => ?_, .inr ⟨g, c, cur, upd_same _ _ _, h.ob, h.csz, by simpa using h.fit, h.max, ?_⟩⟩
      · rcases List.mem_append.1 he' with h1 | h1
        · exact hlens e h1
        · exact h.lens e h1
      · have hget : ∀ q e, (row.es ++ es2)[q]? = some e → ∀ j d, e[j]? = some d → ∃ v, cur[q * row.sz + j]? = some v ∧ RepM (okA av st m) w d v := fun q e hq j d hd => by
          rcases Nat.lt_or_ge q row.es.length with hlt | hge
          · rw [List.getElem?_append_left hlt] at hq
            exact h.old q e hq j d hd
          · rw [List.getElem?_append_right hge] at hq
            have := h.new _ e hq j d hd
            rwa [show row.es.length + (q - row.es.length) = q by omega] at this
        have hlen2 : ∀ q e, (row.es ++ es2)[q]? = some e → q < (row.es ++ es2).length ∧ e.length = row.sz := fun q e hq => by
          refine ⟨get_lt hq, ?_⟩
          rcases List.mem_append.1 (List.mem_of_getElem? hq) with h1 | h1
          · exact hlens e h1
          · exact h.lens e h1
        refine RepM.row (es := row.es ++ es2) (fun q j => (cur[q * row.sz + j]?).getD undef) (by simpa using h.fit) h.max (fun _ => ⟨g, 0, rfl, h.ob.lt, fun q e hq j d hd => ⟨?_, ?_⟩⟩) (fun q e hq j d hd => ?_)
        · rw [Nat.zero_add]
          refine ⟨hav _, fun k x hk => hbn k x hk, fun i' row' g' c' hi' hg' e' => ?_⟩
          rcases setRow_live hi' with ⟨h1, h2⟩ | ⟨rfl, rfl⟩
          · simp only [upd_ne h1] at hg'
            subst e'
            exact (hgn i' row' c' h1 h2 hg').elim
          · obtain ⟨h1, h2⟩ := hlen2 q e hq
            have hj := get_lt hd
            show q * row.sz + j < (row.es ++ es2).length * row.sz
            have : (q + 1) * row.sz ≤ (row.es ++ es2).length * row.sz := Nat.mul_le_mul_right _ h1
            rw [Nat.succ_mul] at this
            omega
        · obtain ⟨v, hv, -⟩ := hget q e hq j d hd
          rw [Nat.zero_add, h.ob.cell, hv]
          rfl
        · obtain ⟨v, hv, hr⟩ := hget q e hq j d hd
          rw [hv]
          exact RV.mono he (.t d) _ hr
  · rcases setRow_live hi with ⟨h1, h2⟩ | ⟨rfl, rfl⟩ <;> rcases setRow_live hi' with ⟨h1', h2'⟩ | ⟨rfl, rfl⟩
    · simp only [upd_ne h1] at hg
      simp only [upd_ne h1'] at hg'
      exact hst.rinj i i' row' row'' g' c' c'' h2 h2' hg hg'
    · simp only [upd_ne h1] at hg
      simp only [upd_same, Option.some.injEq, Prod.mk.injEq] at hg'
      obtain ⟨rfl, rfl⟩ := hg'
      exact (hgn i row' c' h1 h2 hg).elim
    · simp only [upd_ne h1'] at hg'
      simp only [upd_same, Option.some.injEq, Prod.mk.injEq] at hg
      obtain ⟨rfl, rfl⟩ := hg
      exact (hgn i' row'' c'' h1' h2' hg').elim
    · rfl
  · rcases setRow_live hi with ⟨h1, h2⟩ | ⟨rfl, rfl⟩
    · simp only [upd_ne h1] at hg
      exact hst.br k x i row' g' c' hk h2 hg
    · simp only [upd_same, Option.some.injEq, Prod.mk.injEq] at hg
      obtain ⟨rfl, rfl⟩ := hg
      exact hbn k x hk
  · rcases setRow_live hi with ⟨h1, h2⟩ | ⟨rfl, rfl⟩
    · simp only [upd_ne h1] at hg
      exact hst.avr i row' g' c' h2 hg o
    · simp only [upd_same, Option.some.injEq, Prod.mk.injEq] at hg
      obtain ⟨rfl, rfl⟩ := hg
      exact hav o

/-! ### A row comes to be -/
def Sto.addRow (st : Sto) (row : PRow) : Sto := ⟨st.boxes, st.rows ++ [row]⟩
theorem ev_addRow {av : Nat → Nat → Prop} {st : Sto} {m : Lay} {w : World} {row : PRow} (_hst : StoOk av st m w) : Ev st m w (st.addRow row) ⟨m.ρ, upd m.γ st.rows.length none⟩ w := by
  refine ⟨rfl, rfl, rfl, Nat.le_refl _, fun _ _ _ _ => rfl, fun _ _ _ _ => rfl, fun b o _ h => ⟨h.1, fun i row' g c hi hg e => ?_⟩, fun _ x h => ⟨⟨x, h⟩, rfl⟩, fun _ x h => .inl ⟨x, h⟩, fun i row' hi => ⟨row', ?_, rfl, Nat.le_refl _, fun _ => ?_, fun hw => ⟨hw, ?_⟩⟩, fun i row' g c hi hg => ?_⟩
  · rcases getElem?_snoc hi with ⟨h1, h2⟩ | ⟨rfl, rfl⟩
    · simp only [upd_ne (show i ≠ st.rows.length by omega)] at hg
      exact h.2 i row' g c h2 hg e
    · simp [upd_same] at hg
  · show (st.rows ++ [row])[i]? = _
    rw [List.getElem?_append_left (get_lt hi)]; exact hi
  · exact upd_ne (by have := get_lt hi; omega)
  · exact upd_ne (by have := get_lt hi; omega)
  · rcases getElem?_snoc hi with ⟨h1, h2⟩ | ⟨rfl, rfl⟩
    · simp only [upd_ne (show i ≠ st.rows.length by omega)] at hg
      exact .inl ⟨row', c, h2, hg⟩
    · simp [upd_same] at hg
theorem sto_addRow {av : Nat → Nat → Prop} {st : Sto} {m : Lay} {w : World} {row : PRow} (h : StoOk av st m w) (hp : 0 < row.sz) (he : row.es = []) : StoOk av (st.addRow row) ⟨m.ρ, upd m.γ st.rows.length none⟩ w := by
  have ev := ev_addRow (row := row) h
  have key : ∀ i row' g c, (st.addRow row).rows[i]? = some row' → upd m.γ st.rows.length none i = some (g, c) → st.rows[i]? = some row' ∧ m.γ i = some (g, c) := fun i row' g c hi hg => by
    rcases getElem?_snoc hi with ⟨h1, h2⟩ | ⟨rfl, rfl⟩
    · rw [upd_ne (show i ≠ st.rows.length by omega)] at hg
      exact ⟨h2, hg⟩
    · simp [upd_same] at hg
  refine ⟨fun k x hk => ?_, h.binj, fun i row' hi => ?_, fun i i' row' row'' g c c' hi hi' hg hg' => ?_, fun k x i row' g c hk hi hg => ?_, h.avlt, fun i row' g c hi hg => ?_⟩
  · obtain ⟨vs, k1, k2⟩ := h.box k x hk
    exact ⟨vs, k1, RVL.mono ev _ _ k2⟩
  · rcases getElem?_snoc hi with ⟨h1, h2⟩ | ⟨rfl, rfl⟩
    · obtain ⟨k1, k2, k3⟩ := h.row i row' h2
      refine ⟨k1, k2, ?_⟩
      simp only [upd_ne (show i ≠ st.rows.length by omega)]
      rcases k3 with k3 | ⟨g, c, cur, q1, q2, q3, q4, q5, q6⟩
      · exact .inl k3
      · exact .inr ⟨g, c, cur, q1, q2, q3, q4, q5, RV.mono ev (.t _) _ q6⟩
    · exact ⟨hp, by rw [he]; simp, .inl ⟨upd_same _ _ _, he⟩⟩
  · obtain ⟨h1, h2⟩ := key i row' g c hi hg
    obtain ⟨h1', h2'⟩ := key i' row'' g c' hi' hg'
    exact h.rinj i i' row' row'' g c c' h1 h1' h2 h2'
  · obtain ⟨h1, h2⟩ := key i row' g c hi hg
    exact h.br k x i row' g c hk h1 h2
  · obtain ⟨h1, h2⟩ := key i row' g c hi hg
    exact h.avr i row' g c h1 h2
end Go.Proofs.Ytoifjkggpanceaa

namespace Go.Proofs.Ytoifjkggpanceaa
set_option linter.unusedSimpArgs false
set_option linter.unusedVariables false
open Go.RowKit Go.WalkArith Go.IntWalk Go.WideShapes

theorem RepM.one {ok : Nat → Nat → Prop} {w : World} {t : Tr} {v : Value} (h : RepM ok w t v) : v.oneCell' = true := h.rep.one
/-- The cells of a slice, as a list. -/
theorem RepM.news {ok : Nat → Nat → Prop} {w : World} {sz : Nat} {es : List (List Tr)} {v : Value} (h : RepM ok w (.row sz es) v) (hl : ∀ e ∈ es, e.length = sz) (hne : es ≠ []) (hsz : 0 < sz) :
    ∃ (b off c : Nat) (news : List Value), v = .slice (some ⟨b, off, none⟩) es.length c ∧ news.length = es.length * sz ∧ (∀ (j : Nat) u, news[j]? = some u → w.cell? ((⟨b, off, none⟩ : Addr).add j) = some u) ∧ (∀ u ∈ news, u.oneCell' = true) ∧
      (∀ i e, es[i]? = some e → ∀ j d, e[j]? = some d → ∃ v, news[i * sz + j]? = some v ∧ RepM ok w d v) := by
  cases h with
  | row c h1 h2 h3 h4 =>
    obtain ⟨b, off, rfl, hb, h5⟩ := h3 hne
    have hadd : ∀ n, (⟨b, off, none⟩ : Addr).add n = ⟨b, off + n, none⟩ := fun n => by unfold Addr.add; split <;> simp_all
    have key : ∀ q, q < es.length * sz → ∃ e d, es[q / sz]? = some e ∧ e[q % sz]? = some d := fun q hq => by
      have h1 : q / sz < es.length := by rw [Nat.div_lt_iff_lt_mul hsz]; exact hq
      have h2 : q % sz < (es[q / sz]).length := by rw [hl _ (List.getElem_mem h1)]; exact Nat.mod_lt _ hsz
      exact ⟨es[q / sz], (es[q / sz])[q % sz], List.getElem?_eq_getElem h1, List.getElem?_eq_getElem h2⟩
    have hget : ∀ q, q < es.length * sz → ((List.range (es.length * sz)).map (fun q => c (q / sz) (q % sz)))[q]? = some (c (q / sz) (q % sz)) := fun q hq => by
      rw [List.getElem?_map, List.getElem?_range hq]; rfl
    refine ⟨b, off, _, (List.range (es.length * sz)).map (fun q => c (q / sz) (q % sz)), rfl, by simp, fun j u hu => ?_, fun u hu => ?_, fun i e he j d hd => ?_⟩
    · have hj : j < es.length * sz := by have := get_lt hu; simpa using this
      rw [hget j hj] at hu
      cases hu
      obtain ⟨e, d, k1, k2⟩ := key j hj
      have := (h5 _ e k1 _ d k2).2
      rw [hadd, ← this]
      congr 2
      have := Nat.div_add_mod j sz
      rw [Nat.mul_comm] at this
      omega
    · obtain ⟨q, hq, rfl⟩ := List.mem_map.1 hu
      obtain ⟨e, d, k1, k2⟩ := key q (by simpa using hq)
      exact (h4 _ e k1 _ d k2).one
    · have hi := get_lt he
      have hj : j < sz := by rw [← hl e (List.mem_of_getElem? he)]; exact get_lt hd
      have hq : i * sz + j < es.length * sz := by
        have : (i + 1) * sz ≤ es.length * sz := Nat.mul_le_mul_right _ hi
        rw [Nat.succ_mul] at this
        omega
      refine ⟨c i j, ?_, h4 i e he j d hd⟩
      rw [hget _ hq]
      have e1 : (i * sz + j) / sz = i := by rw [Nat.mul_comm, Nat.mul_add_div hsz]; simp [Nat.div_eq_of_lt hj]
      have e2 : (i * sz + j) % sz = j := by rw [Nat.mul_comm, Nat.mul_add_mod]; exact Nat.mod_eq_of_lt hj
      rw [e1, e2]

def zerosOf (P : Program) (T : TypeId) : Option (List PV) := match P.info? T with
  | some i => match i.zero with
    | some z => z.cells.toList.mapM constPV
    | none => none
  | none => none
theorem mapM_constPV {ok : Nat → Nat → Prop} {st : Sto} {m : Lay} {w : World} : ∀ {vs : List Value} {ps : List PV}, vs.mapM constPV = some ps → RVL ok st m w ps vs
  | [], ps, h => by
    simp at h
    subst h
    trivial
  | v :: vs, ps, h => by
    rw [List.mapM_cons] at h
    cases h1 : constPV v with
    | none => simp [h1] at h
    | some p =>
      cases h2 : vs.mapM constPV with
      | none => simp [h1, h2] at h
      | some qs =>
        simp [h1, h2] at h
        subst h
        exact ⟨constPV_rv h1, mapM_constPV h2⟩
theorem zerosOf.spec {P : Program} {T : TypeId} {ps : List PV} (h : zerosOf P T = some ps) : ∃ i z, P.info? T = some i ∧ i.zero = some z ∧ ∀ ok st m w, RVL ok st m w ps z.cells.toList := by
  unfold zerosOf at h
  split at h
  · rename_i i hi
    split at h
    · rename_i z hz
      exact ⟨i, z, hi, hz, fun _ _ _ _ => mapM_constPV h⟩
    · cases h
  · cases h

section
variable {P : Program} {C : Ctx} {n : Nat} {s : AS} {o : Oper}

theorem AOp.run {s1 : AS} {p : PV} (hd : dstOk o.dst n = true) (h : ∀ m a w, RA C n s m a w → ∃ v m1 w1, (execOp a.eval o).run P w = .ok (.value v) w1 ∧ Ev s.st m w s1.st m1 w1 ∧ StoOk C.av s1.st m1 w1 ∧ RV (okA C.av s1.st m1) s1.st m1 w1 p v)
    (he : s1.env = s.env) : AOp P C n o s (s1.putO o.dst p) := fun m a w hr K Q hK => by
  obtain ⟨v, m1, w1, h1, h2, h3, h4⟩ := h m a w hr
  unfold Oper.wp
  rw [h1]
  obtain ⟨env1, st1⟩ := s1
  cases he
  exact hK m1 _ w1 ((hr.step h2 h3).put (dstOk_lt hd) h4)
theorem AOp.runU {s1 : AS} (h : ∀ m a w, RA C n s m a w → ∃ m1 w1, (execOp a.eval o).run P w = .ok .skip w1 ∧ Ev s.st m w s1.st m1 w1 ∧ StoOk C.av s1.st m1 w1)
    (he : s1.env = s.env) : AOp P C n o s (s1.delO o.dst) := fun m a w hr K Q hK => by
  obtain ⟨m1, w1, h1, h2, h3⟩ := h m a w hr
  unfold Oper.wp
  rw [h1]
  obtain ⟨env1, st1⟩ := s1
  cases he
  exact hK m1 _ w1 ((hr.step h2 h3).del o.dst undef)

theorem AOp.alloc {T : TypeId} {ps : List PV} (ho : o.op = .alloc T) (hd : dstOk o.dst n = true) (hz : zerosOf P T = some ps) : AOp P C n o s ((⟨s.env, s.st.addBox ⟨T, ps⟩⟩ : AS).putO o.dst (.ptr s.st.boxes.length 0)) :=
  AOp.run hd (s1 := ⟨s.env, s.st.addBox ⟨T, ps⟩⟩) (fun m a w h => by
    obtain ⟨i, z, hi, hzz, hr⟩ := zerosOf.spec hz
    refine ⟨.pointer (some ⟨w.heap.size, 0, none⟩), _, w.alloc (.cells ⟨z.cells.toList⟩ T), ?_, ev_addBox (x := ⟨T, ps⟩), sto_addBox (x := ⟨T, ps⟩) h.sto (hr _ _ _ _), ⟨⟨T, ps⟩, by simp [Sto.addBox]⟩, by simp [upd_same]⟩
    unfold execOp
    simp [ho, Instr.alloc, zeroValue, typeInfo, hi, hzz, newVar, newRow]) rfl

/-- The cells that a value takes. -/
def cellsP : PV → List PV
  | .agg cs => cs
  | p => [p]
theorem cellsP_rv {ok : Nat → Nat → Prop} {st : Sto} {m : Lay} {w : World} {p : PV} {v : Value} (h : RV ok st m w p v) (ht : ∀ ps, p ≠ .tup ps) : RVL ok st m w (cellsP p) v.cells.toList := by
  cases p with
  | agg cs =>
    obtain ⟨vs, rfl, h1⟩ := h
    exact h1
  | tup ps => exact absurd rfl (ht ps)
  | t t =>
    have h0 : RepM ok w t v := h
    have hv : v.cells = #[v] := by
      cases h0 with
      | leaf hl => cases v <;> first | rfl | exact hl.elim
      | row => rfl
    rw [hv]; exact ⟨h, trivial⟩
  | nil => obtain rfl := (show v = _ from h); exact ⟨rfl, trivial⟩
  | acc sz es r =>
    obtain ⟨row, h1, h2, h3, h4, h5⟩ := h
    obtain ⟨ad, cap, rfl, -, -⟩ := h4.shape
    exact ⟨⟨row, h1, h2, h3, h4, h5⟩, trivial⟩
  | ptr k d =>
    obtain ⟨h1, rfl⟩ := h
    exact ⟨⟨h1, rfl⟩, trivial⟩
  | eptr cs =>
    obtain ⟨b, off, rfl, h2⟩ := h
    exact ⟨⟨b, off, rfl, h2⟩, trivial⟩
  | fn f cs =>
    obtain ⟨vs, rfl, h2⟩ := h
    exact ⟨⟨vs, rfl, h2⟩, trivial⟩
  | full sz k r =>
    obtain ⟨row, g, h1, h2, h3, h4, rfl⟩ := h
    exact ⟨⟨row, g, h1, h2, h3, h4, rfl⟩, trivial⟩
  | rptr r i =>
    obtain ⟨row, g, k, h1, h3, h4, rfl⟩ := h
    exact ⟨⟨row, g, k, h1, h3, h4, rfl⟩, trivial⟩
def notTup : PV → Bool
  | .tup _ => false
  | _ => true
theorem notTup.ne {p : PV} (h : notTup p = true) : ∀ ps, p ≠ .tup ps := by rintro ps rfl; cases h
theorem RV.oneCell {ok : Nat → Nat → Prop} {st : Sto} {m : Lay} {w : World} {p : PV} {v : Value} (h : RV ok st m w p v) (ht : cellsP p = [p]) (htt : notTup p = true) : v.oneCell' = true := by
  cases p with
  | agg cs =>
    exfalso
    simp only [cellsP] at ht
    have := congrArg (fun l : List PV => SizeOf.sizeOf l) ht
    simp at this
    omega
  | tup ps => cases htt
  | t t => exact RepM.one h
  | nil => obtain rfl := (show v = _ from h); rfl
  | acc sz es r =>
    obtain ⟨row, h1, h2, h3, h4, h5⟩ := h
    exact h4.one
  | ptr k d => obtain ⟨h1, rfl⟩ := h; rfl
  | eptr cs => obtain ⟨b, off, rfl, h2⟩ := h; rfl
  | fn f cs => obtain ⟨vs, rfl, h2⟩ := h; rfl
  | full sz k r => obtain ⟨row, g, h1, h2, h3, h4, rfl⟩ := h; rfl
  | rptr r i => obtain ⟨row, g, k, h1, h3, h4, rfl⟩ := h; rfl
/-- Cells that are cells. -/
def flatP : List PV → Bool
  | [] => true
  | .agg _ :: _ => false
  | .tup _ :: _ => false
  | _ :: ps => flatP ps
theorem flatP.one {ok : Nat → Nat → Prop} {st : Sto} {m : Lay} {w : World} : ∀ {ps : List PV} {vs : List Value}, flatP ps = true → RVL ok st m w ps vs → ∀ v ∈ vs, v.oneCell' = true
  | [], [], _, _, v, hv => by cases hv
  | p :: ps, u :: vs, hf, h, v, hv => by
    have h2 : flatP ps = true := by cases p <;> first | exact hf | cases hf
    rcases List.mem_cons.1 hv with rfl | hv
    · cases p with
      | agg cs => cases hf
      | tup cs => cases hf
      | _ => exact h.1.oneCell rfl rfl
    · exact flatP.one h2 h.2 v hv
  | [], _ :: _, _, h, _, _ => h.elim
  | _ :: _, [], _, h, _, _ => h.elim

theorem AOp.box {T : TypeId} {x : Operand} {p : PV} {cs : List PV} (ho : o.op = .box T x) (hd : dstOk o.dst n = true) (hx : s.ev x = some p) (hc : cellsP p = cs) (ht : notTup p = true) : AOp P C n o s ((⟨s.env, s.st.addBox ⟨T, cs⟩⟩ : AS).putO o.dst (.ptr s.st.boxes.length 0)) :=
  AOp.run hd (s1 := ⟨s.env, s.st.addBox ⟨T, cs⟩⟩) (fun m a w h => by
    subst hc
    have hr := cellsP_rv (h.eval hx) (notTup.ne ht)
    refine ⟨.pointer (some ⟨w.heap.size, 0, none⟩), _, w.alloc (.cells ⟨(a.eval x).cells.toList⟩ T), ?_, ev_addBox (x := ⟨T, cellsP p⟩), sto_addBox (x := ⟨T, cellsP p⟩) h.sto hr, ⟨⟨T, cellsP p⟩, by simp [Sto.addBox]⟩, by simp [upd_same]⟩
    unfold execOp
    simp [ho, Instr.box, newVar, newRow]) rfl

theorem run_storeVar_ob {T : TypeId} {B d : Nat} {v : Value} {w : World} {E : TypeId} {arr : Array Value} (hob : OB w B E arr) (hT : (P.info? T).map (·.size) = some v.cells.size) (hfit : d + v.cells.size ≤ arr.size) (h1 : ∀ u ∈ v.cells.toList, u.oneCell' = true) :
    (storeVar T ⟨B, d, none⟩ v).run P w = .ok () (w.setRow B (splice arr d v.cells.toList)) := by
  have hst := run_storeCells_at P B d E v.cells.toList 0 arr w hob (by simpa using hfit) h1
  cases hq : P.info? T with
  | none => simp [hq] at hT
  | some i =>
    have hs : i.size = v.cells.size := by simpa [hq] using hT
    simp only [storeVar]
    simp [Go.sizeOf, typeInfo, hq, hs, hst, splice]

theorem RVL.splice {ok : Nat → Nat → Prop} {st : Sto} {m : Lay} {w : World} {ps qs : List PV} {vs us : List Value} (h : RVL ok st m w ps vs) (k : RVL ok st m w qs us) (d : Nat) : RVL ok st m w (ps.take d ++ qs ++ ps.drop (d + qs.length)) (splice ⟨vs⟩ d us).toList := by
  have := RVL.append (RVL.append (h.take d) k) (h.drop (d + qs.length))
  rw [k.length] at this ⊢
  simpa [Go.Proofs.Ytoifjkggpanceaa.splice] using this

theorem AOp.storePtr {T : TypeId} {x y : Operand} {k d : Nat} {bx : PBox} {p : PV} {cs ds : List PV} (ho : o.op = .store T x y) (hx : s.ev x = some (.ptr k d)) (hb : s.st.boxes[k]? = some (some bx)) (hy : s.ev y = some p) (hc : cellsP p = cs) (ht : notTup p = true) (hf : flatP cs = true)
    (hT : (P.info? T).map (·.size) = some cs.length) (hfit : d + cs.length ≤ bx.cells.length) (hds : bx.cells.take d ++ cs ++ bx.cells.drop (d + cs.length) = ds) : AOp P C n o s ((⟨s.env, s.st.setBox k ⟨bx.ty, ds⟩⟩ : AS).delO o.dst) :=
  AOp.runU (s1 := ⟨s.env, s.st.setBox k ⟨bx.ty, ds⟩⟩) (fun m a w h => by
    subst hc hds
    have hr := cellsP_rv (h.eval hy) (notTup.ne ht)
    obtain ⟨-, h2⟩ := h.eval hx
    obtain ⟨vs, h3, h4⟩ := h.sto.box k bx hb
    have hl1 := hr.length
    have hl2 := h4.length
    have hrun := run_storeVar_ob (P := P) (T := T) (d := d) (v := a.eval y) h3 (by rw [hT, hl1]; simp) (by simp only [List.size_toArray]; rw [← hl2]; rw [hl1] at hfit; simpa using hfit) (flatP.one hf hr)
    have hother : ∀ b, b ≠ m.ρ k → (w.setRow (m.ρ k) (splice ⟨vs⟩ d (a.eval y).cells.toList)).heap[b]? = w.heap[b]? := fun b hb => setRow_other w _ b _ hb
    refine ⟨m, w.setRow (m.ρ k) (splice ⟨vs⟩ d (a.eval y).cells.toList), ?_, ev_setBox h.sto hb rfl rfl rfl (by simp) hother, sto_setBox (vs := (splice ⟨vs⟩ d (a.eval y).cells.toList).toList) h.sto hb rfl rfl rfl (by simp) hother ?_ (RVL.splice h4 hr d)⟩
    · unfold execOp
      simp [ho, h2, Instr.storeAt, Instr.sureAddr, hrun]
    · exact setRow_heap w _ ⟨vs⟩ _ _ _ h3) rfl
end
end Go.Proofs.Ytoifjkggpanceaa
