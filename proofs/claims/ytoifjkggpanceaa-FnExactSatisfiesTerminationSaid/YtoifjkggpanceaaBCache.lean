/- Contracts of the laws' own functions that measure, copy and compare plain data: Cache. No conditions. -/
import Derived.Test.YtoifjkggpanceaaProg
import Derived.Test.YtoifjkggpanceaaCtr
namespace Go.Proofs.Ytoifjkggpanceaa
open Go.RowKit Go.Proofs

set_option maxRecDepth 100000 in
set_option maxHeartbeats 1000000 in
theorem szCache_of (es0 : List (List Tr)) (es1 : List (List Tr)) (es2 : List (List Tr)) (h0 : SzSC 132 4 es0) (h1 : SzSC 133 1 es1) (h2 : SzSC 89 5 es2) : SzC 60 ([.row 4 es0] ++ ([.row 1 es1] ++ ([.row 5 es2] ++ ([])))) := by
  intro cs left w hr hl0 hl1
  obtain ⟨b0, r0, rfl, g0, n0⟩ := RepL.split hr
  obtain ⟨y0, rfl⟩ := list1 g0.length.symm
  obtain ⟨a0, c0, rfl, -, -⟩ := g0.1.shape
  obtain ⟨b1, r1, rfl, g1, n1⟩ := RepL.split n0
  obtain ⟨y1, rfl⟩ := list1 g1.length.symm
  obtain ⟨a1, c1, rfl, -, -⟩ := g1.1.shape
  obtain ⟨b2, r2, rfl, g2, n2⟩ := RepL.split n1
  obtain ⟨y2, rfl⟩ := list1 g2.length.symm
  obtain ⟨a2, c2, rfl, -, -⟩ := g2.1.shape
  obtain rfl := RepL.nil_eq n2
  clear hr
  have G0 := Lib.hid g0
  clear g0 n0
  have G1 := Lib.hid g1
  clear g1 n1
  have G2 := Lib.hid g2
  clear g2 n2
  simp only [List.cons_append, List.nil_append]
  go_enter Try.func60, Try.ntmps60
  go_wp2_with fail
  refine (h0 _ _ _ (G0.out.1.ext (.alloc (.refl _) _)) (by omega) (by omega)).mono ?_
  rintro e w0 ⟨r0, rfl, hw0, ra0, rb0, rc0⟩
  have HW0 := Lib.hid hw0
  have HR0 := Lib.hid rc0
  have ob0 := (OB.new w _ _).ext hw0
  have OBH := Lib.hid ob0
  have ce0 := ob0.cell
  clear hw0 rc0 ob0
  go_wp2_with fail
  · go_ret
    exact ⟨-1, rfl, (Ext.trans (.alloc (.refl _) _) HW0.out), by omega, by omega, by omega⟩
  refine (h1 _ _ _ (G1.out.1.ext (Ext.trans (.alloc (.refl _) _) HW0.out)) (by omega) (by omega)).mono ?_
  rintro e w1 ⟨r1, rfl, hw1, ra1, rb1, rc1⟩
  have HW1 := Lib.hid hw1
  have HR1 := Lib.hid rc1
  have ob1 := OBH.out.ext hw1
  clear OBH ce0
  have OBH := Lib.hid ob1
  have ce1 := ob1.cell
  clear hw1 rc1 ob1
  go_wp2_with fail
  · go_ret
    exact ⟨-1, rfl, (Ext.trans (Ext.trans (.alloc (.refl _) _) HW0.out) HW1.out), by omega, by omega, by omega⟩
  refine (h2 _ _ _ (G2.out.1.ext (Ext.trans (Ext.trans (.alloc (.refl _) _) HW0.out) HW1.out)) (by omega) (by omega)).mono ?_
  rintro e w2 ⟨r2, rfl, hw2, ra2, rb2, rc2⟩
  have HW2 := Lib.hid hw2
  have HR2 := Lib.hid rc2
  have ob2 := OBH.out.ext hw2
  clear OBH ce1
  have OBH := Lib.hid ob2
  have ce2 := ob2.cell
  clear hw2 rc2 ob2
  go_wp2_with fail
  · go_ret
    exact ⟨-1, rfl, (Ext.trans (Ext.trans (Ext.trans (.alloc (.refl _) _) HW0.out) HW1.out) HW2.out), by omega, by omega, by omega⟩
  go_ret
  refine ⟨_, rfl, (Ext.trans (Ext.trans (Ext.trans (.alloc (.refl _) _) HW0.out) HW1.out) HW2.out), by omega, by omega, fun hp => ?_⟩
  have e0 := HR0.out (by omega)
  have e1 := HR1.out (by omega)
  have e2 := HR2.out (by omega)
  simp only [Tr.bulkL_append, Tr.bulkL, Tr.bulk, Tr.bulk_int, Tr.bulk_bool, Nat.add_zero, Nat.zero_add]
  simp only [Tr.bulk] at e0 e1 e2
  omega

set_option maxRecDepth 100000 in
set_option maxHeartbeats 1000000 in
theorem toCache_of (es0 : List (List Tr)) (es1 : List (List Tr)) (es2 : List (List Tr)) (h0 : ToSC 134 4 es0) (h1 : ToSC 26 1 es1) (h2 : ToSC 92 5 es2) : ToC 62 ([.row 4 es0] ++ ([.row 1 es1] ++ ([.row 5 es2] ++ ([])))) := by
  intro cs w hr hbk
  simp only [Tr.bulkL_append, Tr.bulkL, Tr.bulk, Tr.bulk_int, Tr.bulk_bool, Nat.add_zero, Nat.zero_add] at hbk
  obtain ⟨b0, r0, rfl, g0, n0⟩ := RepL.split hr
  obtain ⟨y0, rfl⟩ := list1 g0.length.symm
  obtain ⟨a0, c0, rfl, -, -⟩ := g0.1.shape
  obtain ⟨b1, r1, rfl, g1, n1⟩ := RepL.split n0
  obtain ⟨y1, rfl⟩ := list1 g1.length.symm
  obtain ⟨a1, c1, rfl, -, -⟩ := g1.1.shape
  obtain ⟨b2, r2, rfl, g2, n2⟩ := RepL.split n1
  obtain ⟨y2, rfl⟩ := list1 g2.length.symm
  obtain ⟨a2, c2, rfl, -, -⟩ := g2.1.shape
  obtain rfl := RepL.nil_eq n2
  clear hr
  have G0 := Lib.hid g0
  clear g0 n0
  have G1 := Lib.hid g1
  clear g1 n1
  have G2 := Lib.hid g2
  clear g2 n2
  simp only [List.cons_append, List.nil_append]
  go_enter Try.func62, Try.ntmps62
  go_wp2_with fail
  refine (h0 _ _ (G0.out.1.ext (.alloc (.alloc (.alloc (.refl _) _) _) _)) (by omega)).mono ?_
  rintro e w0 ⟨d0, rfl, hw0, ho0⟩
  obtain ⟨da0, dc0, rfl, -, -⟩ := ho0.rep.shape
  have HW0 := Lib.hid hw0
  have HO0 := Lib.hid ho0
  have ob0 := (Three.new w _ _ _ _ _ _).ext hw0
  have OBHw0 := Lib.hid ob0
  have cew0 := ob0.o0.cell
  have hzw0 : w.heap.size < w0.heap.size := ob0.o0.lt
  clear hw0 ob0 ho0
  go_wp2_with (first
    | (refine wpList_store_cell rfl 86 _ _ rfl (w.heap.size + 1 + 1) 0 rfl (.slice da0 es0.length dc0) rfl rfl 104 _ OBHw0.out.o2 isz86 (by simp [splice]) rfl ?_; intro u0 hou0 hgu0 hzu0; have OBHu0 := Lib.hid (OBHw0.out.grown hgu0 hou0 (by omega) (by omega)); have HGu0 := Lib.hid hgu0; have ceu0 := OBHu0.out.o0.cell; have hqu0 : w.heap.size < u0.heap.size := OBHu0.out.o0.lt; clear hou0 hgu0 hzu0 OBHw0 cew0))
  refine (h1 _ _ (G1.out.1.ext (grown_ext (Ext.trans (.alloc (.alloc (.alloc (.refl _) _) _) _) HW0.out) HGu0.out (by omega))) (by omega)).mono ?_
  rintro e w1 ⟨d1, rfl, hw1, ho1⟩
  obtain ⟨da1, dc1, rfl, -, -⟩ := ho1.rep.shape
  have HW1 := Lib.hid hw1
  have HO1 := Lib.hid ho1
  have ob1 := OBHu0.out.ext hw1
  clear OBHu0 ceu0
  have OBHw1 := Lib.hid ob1
  have cew1 := ob1.o0.cell
  have hzw1 : w.heap.size < w1.heap.size := ob1.o0.lt
  clear hw1 ob1 ho1
  go_wp2_with (first
    | (refine wpList_store_cell rfl 45 _ _ rfl (w.heap.size + 1 + 1) 1 rfl (.slice da1 es1.length dc1) rfl rfl 104 _ OBHw1.out.o2 isz45 (by simp [splice]) rfl ?_; intro u1 hou1 hgu1 hzu1; have OBHu1 := Lib.hid (OBHw1.out.grown hgu1 hou1 (by omega) (by omega)); have HGu1 := Lib.hid hgu1; have ceu1 := OBHu1.out.o0.cell; have hqu1 : w.heap.size < u1.heap.size := OBHu1.out.o0.lt; clear hou1 hgu1 hzu1 OBHw1 cew1))
  refine (h2 _ _ (G2.out.1.ext (grown_ext (Ext.trans (grown_ext (Ext.trans (.alloc (.alloc (.alloc (.refl _) _) _) _) HW0.out) HGu0.out (by omega)) HW1.out) HGu1.out (by omega))) (by omega)).mono ?_
  rintro e w2 ⟨d2, rfl, hw2, ho2⟩
  obtain ⟨da2, dc2, rfl, -, -⟩ := ho2.rep.shape
  have HW2 := Lib.hid hw2
  have HO2 := Lib.hid ho2
  have ob2 := OBHu1.out.ext hw2
  clear OBHu1 ceu1
  have OBHw2 := Lib.hid ob2
  have cew2 := ob2.o0.cell
  have hzw2 : w.heap.size < w2.heap.size := ob2.o0.lt
  clear hw2 ob2 ho2
  have hone : Hid (∀ v ∈ ([.slice da0 es0.length dc0, .slice da1 es1.length dc1, .slice da2 es2.length dc2] : List Value), v.oneCell' = true) := by
    intro v hv
    simp only [List.mem_cons, List.not_mem_nil, or_false] at hv
    rcases hv with rfl | rfl | rfl <;> first | rfl
  go_wp2_with (first
    | (refine wpList_store_cell rfl 48 _ _ rfl (w.heap.size + 1 + 1) 2 rfl (.slice da2 es2.length dc2) rfl rfl 104 _ OBHw2.out.o2 isz48 (by simp [splice]) rfl ?_; intro u2 hou2 hgu2 hzu2; have OBHu2 := Lib.hid (OBHw2.out.grown hgu2 hou2 (by omega) (by omega)); have HGu2 := Lib.hid hgu2; have ceu2 := OBHu2.out.o0.cell; have hqu2 : w.heap.size < u2.heap.size := OBHu2.out.o0.lt; clear hou2 hgu2 hzu2 OBHw2 cew2)
    | (refine wpList_load_rep rfl 104 _ rfl (w.heap.size + 1 + 1) 0 rfl [.slice da0 es0.length dc0, .slice da1 es1.length dc1, .slice da2 es2.length dc2] _ Try.underlying104 isz104 (fun j v hv => by rw [OBHu2.out.o2.cell, Nat.zero_add]; simpa [splice] using hv) ?_)
    | (refine wpList_store_rep rfl 104 _ _ rfl (w.heap.size + 1) 0 rfl [.slice da0 es0.length dc0, .slice da1 es1.length dc1, .slice da2 es2.length dc2] rfl 104 _ OBHu2.out.o1 isz104 (by simp) hone.out ?_; intro wz hoz hgz hzz; have HOZ := Lib.hid hoz; have HGZ := Lib.hid hgz; clear hoz hgz hzz))
  have HOF : OB wz (w.heap.size + 1) 104 ⟨[.slice da0 es0.length dc0, .slice da1 es1.length dc1, .slice da2 es2.length dc2]⟩ := HOZ.out
  refine bodyPost_ret (results_cell_row Try.results62 _ _ (w.heap.size + 1) 104 ⟨[.slice da0 es0.length dc0, .slice da1 es1.length dc1, .slice da2 es2.length dc2]⟩ _ _ rfl HOF Try.underlying104 rfl isz104) rfl ⟨[.slice da0 es0.length dc0, .slice da1 es1.length dc1, .slice da2 es2.length dc2], rfl, (grown_ext (grown_ext (Ext.trans (grown_ext (Ext.trans (grown_ext (Ext.trans (.alloc (.alloc (.alloc (.refl _) _) _) _) HW0.out) HGu0.out (by omega)) HW1.out) HGu1.out (by omega)) HW2.out) HGu2.out (by omega)) HGZ.out (by omega)), ?_⟩
  have sw0 := HW0.out.size
  have su0 := HGu0.out.size
  have sw1 := HW1.out.size
  have su1 := HGu1.out.size
  have sw2 := HW2.out.size
  have su2 := HGu2.out.size
  have swz := HGZ.out.size
  simp only [World.size_alloc] at sw0
  have ow0 := HO0.out.keeps (lo := w.heap.size + 1 + 1 + 1) (Keeps.trans (Keeps.of_grown HGu0.out (by omega)) (Keeps.trans (Keeps.of_ext HW1.out) (Keeps.trans (Keeps.of_grown HGu1.out (by omega)) (Keeps.trans (Keeps.of_ext HW2.out) (Keeps.trans (Keeps.of_grown HGu2.out (by omega)) (Keeps.of_grown HGZ.out (by omega))))))) (by intro x hx; simp only [Between, World.size_alloc] at hx; omega)
  have ow1 := HO1.out.keeps (lo := w.heap.size + 1 + 1 + 1) (Keeps.trans (Keeps.of_grown HGu1.out (by omega)) (Keeps.trans (Keeps.of_ext HW2.out) (Keeps.trans (Keeps.of_grown HGu2.out (by omega)) (Keeps.of_grown HGZ.out (by omega))))) (by intro x hx; simp only [Between, World.size_alloc] at hx; omega)
  have ow2 := HO2.out.keeps (lo := w.heap.size + 1 + 1 + 1) (Keeps.trans (Keeps.of_grown HGu2.out (by omega)) (Keeps.of_grown HGZ.out (by omega))) (by intro x hx; simp only [Between, World.size_alloc] at hx; omega)
  have hall := OwnL.append (OwnL.one ow0) (OwnL.append (OwnL.one ow1) (OwnL.append (OwnL.one ow2) (OwnL.nil wz (fun _ => False)) (by intro x hx hy; simp only [Between, World.size_alloc, or_false] at hx hy <;> omega)) (by intro x hx hy; simp only [Between, World.size_alloc, or_false] at hx hy <;> omega)) (by intro x hx hy; simp only [Between, World.size_alloc, or_false] at hx hy <;> omega)
  exact hall.mono (by intro x hx; simp only [Between, World.size_alloc, or_false] at hx ⊢; omega)

set_option maxRecDepth 100000 in
set_option maxHeartbeats 1000000 in
theorem eqCache_of (es0 : List (List Tr)) (es1 : List (List Tr)) (es2 : List (List Tr)) (h0 : EqSC 51 4 es0) (h1 : EqSC 29 1 es1) (h2 : EqSC 95 5 es2) : EqC 64 ([.row 4 es0] ++ ([.row 1 es1] ++ ([.row 5 es2] ++ ([])))) := by
  intro cs ds w hr hr'
  obtain ⟨b0, r0, rfl, g0, n0⟩ := RepL.split hr
  obtain ⟨y0, rfl⟩ := list1 g0.length.symm
  obtain ⟨a0, c0, rfl, -, -⟩ := g0.1.shape
  obtain ⟨b1, r1, rfl, g1, n1⟩ := RepL.split n0
  obtain ⟨y1, rfl⟩ := list1 g1.length.symm
  obtain ⟨a1, c1, rfl, -, -⟩ := g1.1.shape
  obtain ⟨b2, r2, rfl, g2, n2⟩ := RepL.split n1
  obtain ⟨y2, rfl⟩ := list1 g2.length.symm
  obtain ⟨a2, c2, rfl, -, -⟩ := g2.1.shape
  obtain rfl := RepL.nil_eq n2
  clear hr
  obtain ⟨zb0, zr0, rfl, zg0, zn0⟩ := RepL.split hr'
  obtain ⟨zy0, rfl⟩ := list1 zg0.length.symm
  obtain ⟨za0, zc0, rfl, -, -⟩ := zg0.1.shape
  obtain ⟨zb1, zr1, rfl, zg1, zn1⟩ := RepL.split zn0
  obtain ⟨zy1, rfl⟩ := list1 zg1.length.symm
  obtain ⟨za1, zc1, rfl, -, -⟩ := zg1.1.shape
  obtain ⟨zb2, zr2, rfl, zg2, zn2⟩ := RepL.split zn1
  obtain ⟨zy2, rfl⟩ := list1 zg2.length.symm
  obtain ⟨za2, zc2, rfl, -, -⟩ := zg2.1.shape
  obtain rfl := RepL.nil_eq zn2
  clear hr'
  have G0 := Lib.hid g0
  clear g0 n0
  have G1 := Lib.hid g1
  clear g1 n1
  have G2 := Lib.hid g2
  clear g2 n2
  have zG0 := Lib.hid zg0
  clear zg0 zn0
  have zG1 := Lib.hid zg1
  clear zg1 zn1
  have zG2 := Lib.hid zg2
  clear zg2 zn2
  simp only [List.cons_append, List.nil_append]
  go_enter Try.func64, Try.ntmps64
  go_wp2_with fail
  refine (h0 _ _ _ (G0.out.1.ext (.alloc (.alloc (.refl _) _) _)) (zG0.out.1.ext (.alloc (.alloc (.refl _) _) _))).mono ?_
  rintro e w0 ⟨rfl, hw0⟩
  have HW0 := Lib.hid hw0
  have ob0 := (Two.new w _ _ _ _).ext hw0
  have OBH := Lib.hid ob0
  have ce0 := ob0.o0.cell
  have cf0 := ob0.o1.cell
  clear hw0 ob0
  go_wp2_with fail
  refine (h1 _ _ _ (G1.out.1.ext (Ext.trans (.alloc (.alloc (.refl _) _) _) HW0.out)) (zG1.out.1.ext (Ext.trans (.alloc (.alloc (.refl _) _) _) HW0.out))).mono ?_
  rintro e w1 ⟨rfl, hw1⟩
  have HW1 := Lib.hid hw1
  have ob1 := OBH.out.ext hw1
  clear OBH ce0 cf0
  have OBH := Lib.hid ob1
  have ce1 := ob1.o0.cell
  have cf1 := ob1.o1.cell
  clear hw1 ob1
  go_wp2_with fail
  refine (h2 _ _ _ (G2.out.1.ext (Ext.trans (Ext.trans (.alloc (.alloc (.refl _) _) _) HW0.out) HW1.out)) (zG2.out.1.ext (Ext.trans (Ext.trans (.alloc (.alloc (.refl _) _) _) HW0.out) HW1.out))).mono ?_
  rintro e w2 ⟨rfl, hw2⟩
  have HW2 := Lib.hid hw2
  have ob2 := OBH.out.ext hw2
  clear OBH ce1 cf1
  have OBH := Lib.hid ob2
  have ce2 := ob2.o0.cell
  have cf2 := ob2.o1.cell
  clear hw2 ob2
  go_wp2_with fail
  go_ret
  exact ⟨rfl, (Ext.trans (Ext.trans (Ext.trans (.alloc (.alloc (.refl _) _) _) HW0.out) HW1.out) HW2.out)⟩

end Go.Proofs.Ytoifjkggpanceaa
