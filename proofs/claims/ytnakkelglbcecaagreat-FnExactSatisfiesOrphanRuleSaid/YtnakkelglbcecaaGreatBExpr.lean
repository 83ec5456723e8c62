/- Contracts of the laws' own functions that measure, copy and compare plain data: Expr. No conditions. -/
import Derived.Test.YtnakkelglbcecaaGreatProg
import Derived.Test.YtnakkelglbcecaaGreatCtr
namespace Go.Proofs.YtnakkelglbcecaaGreat
open Go.RowKit Go.Proofs

set_option maxRecDepth 100000 in
set_option maxHeartbeats 1000000 in
theorem szExpr_of (v0 : Int) (v1 : ByteArray) (v2 : ByteArray) (v3 : Int) (ts4 : List Tr) (l4 : ts4.length = 3) (es5 : List (List Tr)) (es6 : List (List Tr)) (h4 : SzC 43 ts4) (h5 : SzSC 234 9 es5) (h6 : SzSC 235 11 es6) : SzC 220 ([.leaf (.int .i64 v0)] ++ ([.leaf (.string v1)] ++ ([.leaf (.string v2)] ++ ([.leaf (.int .i64 v3)] ++ (ts4 ++ ([.row 9 es5] ++ ([.row 11 es6] ++ ([])))))))) := by
  intro cs left w hr hl0 hl1
  obtain ⟨b0, r0, rfl, g0, n0⟩ := RepL.split hr
  obtain ⟨y0, rfl⟩ := list1 g0.length.symm
  obtain ⟨rfl, k0⟩ := g0.1.leaf_eq
  obtain ⟨b1, r1, rfl, g1, n1⟩ := RepL.split n0
  obtain ⟨y1, rfl⟩ := list1 g1.length.symm
  obtain ⟨rfl, k1⟩ := g1.1.leaf_eq
  obtain ⟨b2, r2, rfl, g2, n2⟩ := RepL.split n1
  obtain ⟨y2, rfl⟩ := list1 g2.length.symm
  obtain ⟨rfl, k2⟩ := g2.1.leaf_eq
  obtain ⟨b3, r3, rfl, g3, n3⟩ := RepL.split n2
  obtain ⟨y3, rfl⟩ := list1 g3.length.symm
  obtain ⟨rfl, k3⟩ := g3.1.leaf_eq
  obtain ⟨b4, r4, rfl, g4, n4⟩ := RepL.split n3
  obtain ⟨x4_0, x4_1, x4_2, rfl⟩ := list3 (g4.length.symm.trans l4)
  obtain ⟨b5, r5, rfl, g5, n5⟩ := RepL.split n4
  obtain ⟨y5, rfl⟩ := list1 g5.length.symm
  obtain ⟨a5, c5, rfl, -, -⟩ := g5.1.shape
  obtain ⟨b6, r6, rfl, g6, n6⟩ := RepL.split n5
  obtain ⟨y6, rfl⟩ := list1 g6.length.symm
  obtain ⟨a6, c6, rfl, -, -⟩ := g6.1.shape
  obtain rfl := RepL.nil_eq n6
  clear hr
  have q1 : v1.size ≤ 9223372036854775807 := by have := k1; simp only [LeafOk, maxLen] at this; omega
  have q2 : v2.size ≤ 9223372036854775807 := by have := k2; simp only [LeafOk, maxLen] at this; omega
  have G0 := Lib.hid g0
  have K0 := Lib.hid k0
  clear g0 n0 k0
  have G1 := Lib.hid g1
  have K1 := Lib.hid k1
  clear g1 n1 k1
  have G2 := Lib.hid g2
  have K2 := Lib.hid k2
  clear g2 n2 k2
  have G3 := Lib.hid g3
  have K3 := Lib.hid k3
  clear g3 n3 k3
  have G4 := Lib.hid g4
  clear g4 n4
  have G5 := Lib.hid g5
  clear g5 n5
  have G6 := Lib.hid g6
  clear g6 n6
  simp only [List.cons_append, List.nil_append]
  go_enter Tryz.func220, Tryz.ntmps220
  go_wp2_with fail
  · go_ret
    exact ⟨-1, rfl, (.alloc (.refl _) _), by omega, by omega, by omega⟩
  · go_ret
    exact ⟨-1, rfl, (.alloc (.refl _) _), by omega, by omega, by omega⟩
  refine (h4 _ _ _ (G4.out.ext (.alloc (.refl _) _)) (by omega) (by omega)).mono ?_
  rintro e w4 ⟨r4, rfl, hw4, ra4, rb4, rc4⟩
  have HW4 := Lib.hid hw4
  have HR4 := Lib.hid rc4
  have ob4 := (OB.new w _ _).ext hw4
  have OBH := Lib.hid ob4
  have ce4 := ob4.cell
  clear hw4 rc4 ob4
  go_wp2_with fail
  · go_ret
    exact ⟨-1, rfl, (Ext.trans (.alloc (.refl _) _) HW4.out), by omega, by omega, by omega⟩
  refine (h5 _ _ _ (G5.out.1.ext (Ext.trans (.alloc (.refl _) _) HW4.out)) (by omega) (by omega)).mono ?_
  rintro e w5 ⟨r5, rfl, hw5, ra5, rb5, rc5⟩
  have HW5 := Lib.hid hw5
  have HR5 := Lib.hid rc5
  have ob5 := OBH.out.ext hw5
  clear OBH ce4
  have OBH := Lib.hid ob5
  have ce5 := ob5.cell
  clear hw5 rc5 ob5
  go_wp2_with fail
  · go_ret
    exact ⟨-1, rfl, (Ext.trans (Ext.trans (.alloc (.refl _) _) HW4.out) HW5.out), by omega, by omega, by omega⟩
  refine (h6 _ _ _ (G6.out.1.ext (Ext.trans (Ext.trans (.alloc (.refl _) _) HW4.out) HW5.out)) (by omega) (by omega)).mono ?_
  rintro e w6 ⟨r6, rfl, hw6, ra6, rb6, rc6⟩
  have HW6 := Lib.hid hw6
  have HR6 := Lib.hid rc6
  have ob6 := OBH.out.ext hw6
  clear OBH ce5
  have OBH := Lib.hid ob6
  have ce6 := ob6.cell
  clear hw6 rc6 ob6
  go_wp2_with fail
  · go_ret
    exact ⟨-1, rfl, (Ext.trans (Ext.trans (Ext.trans (.alloc (.refl _) _) HW4.out) HW5.out) HW6.out), by omega, by omega, by omega⟩
  go_ret
  refine ⟨_, rfl, (Ext.trans (Ext.trans (Ext.trans (.alloc (.refl _) _) HW4.out) HW5.out) HW6.out), by omega, by omega, fun hp => ?_⟩
  have e4 := HR4.out (by omega)
  have e5 := HR5.out (by omega)
  have e6 := HR6.out (by omega)
  simp only [Tr.bulkL_append, Tr.bulkL, Tr.bulk]
  simp only [Tr.bulk] at e5 e6
  omega

set_option maxRecDepth 100000 in
set_option maxHeartbeats 1000000 in
theorem toExpr_of (v0 : Int) (v1 : ByteArray) (v2 : ByteArray) (v3 : Int) (ts4 : List Tr) (l4 : ts4.length = 3) (es5 : List (List Tr)) (es6 : List (List Tr)) (h4 : ToC 45 ts4) (h5 : ToSC 240 9 es5) (h6 : ToSC 241 11 es6) : ToC 225 ([.leaf (.int .i64 v0)] ++ ([.leaf (.string v1)] ++ ([.leaf (.string v2)] ++ ([.leaf (.int .i64 v3)] ++ (ts4 ++ ([.row 9 es5] ++ ([.row 11 es6] ++ ([])))))))) := by
  intro cs w hr hbk
  simp only [Tr.bulkL_append, Tr.bulkL, Tr.bulk] at hbk
  obtain ⟨b0, r0, rfl, g0, n0⟩ := RepL.split hr
  obtain ⟨y0, rfl⟩ := list1 g0.length.symm
  obtain ⟨rfl, k0⟩ := g0.1.leaf_eq
  obtain ⟨b1, r1, rfl, g1, n1⟩ := RepL.split n0
  obtain ⟨y1, rfl⟩ := list1 g1.length.symm
  obtain ⟨rfl, k1⟩ := g1.1.leaf_eq
  obtain ⟨b2, r2, rfl, g2, n2⟩ := RepL.split n1
  obtain ⟨y2, rfl⟩ := list1 g2.length.symm
  obtain ⟨rfl, k2⟩ := g2.1.leaf_eq
  obtain ⟨b3, r3, rfl, g3, n3⟩ := RepL.split n2
  obtain ⟨y3, rfl⟩ := list1 g3.length.symm
  obtain ⟨rfl, k3⟩ := g3.1.leaf_eq
  obtain ⟨b4, r4, rfl, g4, n4⟩ := RepL.split n3
  obtain ⟨x4_0, x4_1, x4_2, rfl⟩ := list3 (g4.length.symm.trans l4)
  obtain ⟨b5, r5, rfl, g5, n5⟩ := RepL.split n4
  obtain ⟨y5, rfl⟩ := list1 g5.length.symm
  obtain ⟨a5, c5, rfl, -, -⟩ := g5.1.shape
  obtain ⟨b6, r6, rfl, g6, n6⟩ := RepL.split n5
  obtain ⟨y6, rfl⟩ := list1 g6.length.symm
  obtain ⟨a6, c6, rfl, -, -⟩ := g6.1.shape
  obtain rfl := RepL.nil_eq n6
  clear hr
  have G0 := Lib.hid g0
  have K0 := Lib.hid k0
  clear g0 n0 k0
  have G1 := Lib.hid g1
  have K1 := Lib.hid k1
  clear g1 n1 k1
  have G2 := Lib.hid g2
  have K2 := Lib.hid k2
  clear g2 n2 k2
  have G3 := Lib.hid g3
  have K3 := Lib.hid k3
  clear g3 n3 k3
  have G4 := Lib.hid g4
  clear g4 n4
  have G5 := Lib.hid g5
  clear g5 n5
  have G6 := Lib.hid g6
  clear g6 n6
  simp only [List.cons_append, List.nil_append]
  go_enter Tryz.func225, Tryz.ntmps225
  go_wp2_with fail
  refine (h4 _ _ (G4.out.ext (.alloc (.alloc (.alloc (.refl _) _) _) _)) (by omega)).mono ?_
  rintro e w4 ⟨d4, rfl, hw4, ho4⟩
  obtain ⟨d4_0, d4_1, d4_2, rfl⟩ := list3 (ho4.1.trans l4)
  have HW4 := Lib.hid hw4
  have HO4 := Lib.hid ho4
  have ob4 := (Three.new w _ _ _ _ _ _).ext hw4
  have OBHw4 := Lib.hid ob4
  have cew4 := ob4.o0.cell
  have hzw4 : w.heap.size < w4.heap.size := ob4.o0.lt
  clear hw4 ob4 ho4
  go_wp2_with (first
    | (refine wpList_store_rep rfl 47 _ _ rfl (w.heap.size + 1 + 1) 4 rfl [d4_0, d4_1, d4_2] rfl 103 _ OBHw4.out.o2 isz47 (by simp [splice]) HO4.out.rep.one ?_; intro u4 hou4 hgu4 hzu4; have OBHu4 := Lib.hid (OBHw4.out.grown hgu4 hou4 (by omega) (by omega)); have HGu4 := Lib.hid hgu4; have ceu4 := OBHu4.out.o0.cell; have hqu4 : w.heap.size < u4.heap.size := OBHu4.out.o0.lt; clear hou4 hgu4 hzu4 OBHw4 cew4))
  refine (h5 _ _ (G5.out.1.ext (grown_ext (Ext.trans (.alloc (.alloc (.alloc (.refl _) _) _) _) HW4.out) HGu4.out (by omega))) (by omega)).mono ?_
  rintro e w5 ⟨d5, rfl, hw5, ho5⟩
  obtain ⟨da5, dc5, rfl, -, -⟩ := ho5.rep.shape
  have HW5 := Lib.hid hw5
  have HO5 := Lib.hid ho5
  have ob5 := OBHu4.out.ext hw5
  clear OBHu4 ceu4
  have OBHw5 := Lib.hid ob5
  have cew5 := ob5.o0.cell
  have hzw5 : w.heap.size < w5.heap.size := ob5.o0.lt
  clear hw5 ob5 ho5
  go_wp2_with (first
    | (refine wpList_store_cell rfl 100 _ _ rfl (w.heap.size + 1 + 1) 7 rfl (.slice da5 es5.length dc5) rfl rfl 103 _ OBHw5.out.o2 isz100 (by simp [splice]) rfl ?_; intro u5 hou5 hgu5 hzu5; have OBHu5 := Lib.hid (OBHw5.out.grown hgu5 hou5 (by omega) (by omega)); have HGu5 := Lib.hid hgu5; have ceu5 := OBHu5.out.o0.cell; have hqu5 : w.heap.size < u5.heap.size := OBHu5.out.o0.lt; clear hou5 hgu5 hzu5 OBHw5 cew5))
  refine (h6 _ _ (G6.out.1.ext (grown_ext (Ext.trans (grown_ext (Ext.trans (.alloc (.alloc (.alloc (.refl _) _) _) _) HW4.out) HGu4.out (by omega)) HW5.out) HGu5.out (by omega))) (by omega)).mono ?_
  rintro e w6 ⟨d6, rfl, hw6, ho6⟩
  obtain ⟨da6, dc6, rfl, -, -⟩ := ho6.rep.shape
  have HW6 := Lib.hid hw6
  have HO6 := Lib.hid ho6
  have ob6 := OBHu5.out.ext hw6
  clear OBHu5 ceu5
  have OBHw6 := Lib.hid ob6
  have cew6 := ob6.o0.cell
  have hzw6 : w.heap.size < w6.heap.size := ob6.o0.lt
  clear hw6 ob6 ho6
  have hone : Hid (∀ v ∈ ([.int .i64 v0, .string v1, .string v2, .int .i64 v3, d4_0, d4_1, d4_2, .slice da5 es5.length dc5, .slice da6 es6.length dc6] : List Value), v.oneCell' = true) := by
    intro v hv
    simp only [List.mem_cons, List.not_mem_nil, or_false] at hv
    rcases hv with rfl | rfl | rfl | rfl | rfl | rfl | rfl | rfl | rfl <;> first | rfl | (refine HO4.out.rep.one _ ?_; simp; done)
  go_wp2_with (first
    | (refine wpList_store_cell rfl 101 _ _ rfl (w.heap.size + 1 + 1) 8 rfl (.slice da6 es6.length dc6) rfl rfl 103 _ OBHw6.out.o2 isz101 (by simp [splice]) rfl ?_; intro u6 hou6 hgu6 hzu6; have OBHu6 := Lib.hid (OBHw6.out.grown hgu6 hou6 (by omega) (by omega)); have HGu6 := Lib.hid hgu6; have ceu6 := OBHu6.out.o0.cell; have hqu6 : w.heap.size < u6.heap.size := OBHu6.out.o0.lt; clear hou6 hgu6 hzu6 OBHw6 cew6)
    | (refine wpList_load_rep rfl 103 _ rfl (w.heap.size + 1 + 1) 0 rfl [.int .i64 v0, .string v1, .string v2, .int .i64 v3, d4_0, d4_1, d4_2, .slice da5 es5.length dc5, .slice da6 es6.length dc6] _ Tryz.underlying103 isz103 (fun j v hv => by rw [OBHu6.out.o2.cell, Nat.zero_add]; simpa [splice] using hv) ?_)
    | (refine wpList_store_rep rfl 103 _ _ rfl (w.heap.size + 1) 0 rfl [.int .i64 v0, .string v1, .string v2, .int .i64 v3, d4_0, d4_1, d4_2, .slice da5 es5.length dc5, .slice da6 es6.length dc6] rfl 103 _ OBHu6.out.o1 isz103 (by simp) hone.out ?_; intro wz hoz hgz hzz; have HOZ := Lib.hid hoz; have HGZ := Lib.hid hgz; clear hoz hgz hzz))
  have HOF : OB wz (w.heap.size + 1) 103 ⟨[.int .i64 v0, .string v1, .string v2, .int .i64 v3, d4_0, d4_1, d4_2, .slice da5 es5.length dc5, .slice da6 es6.length dc6]⟩ := HOZ.out
  refine bodyPost_ret (results_cell_row Tryz.results225 _ _ (w.heap.size + 1) 103 ⟨[.int .i64 v0, .string v1, .string v2, .int .i64 v3, d4_0, d4_1, d4_2, .slice da5 es5.length dc5, .slice da6 es6.length dc6]⟩ _ _ rfl HOF Tryz.underlying103 rfl isz103) rfl ⟨[.int .i64 v0, .string v1, .string v2, .int .i64 v3, d4_0, d4_1, d4_2, .slice da5 es5.length dc5, .slice da6 es6.length dc6], rfl, (grown_ext (grown_ext (Ext.trans (grown_ext (Ext.trans (grown_ext (Ext.trans (.alloc (.alloc (.alloc (.refl _) _) _) _) HW4.out) HGu4.out (by omega)) HW5.out) HGu5.out (by omega)) HW6.out) HGu6.out (by omega)) HGZ.out (by omega)), ?_⟩
  have sw4 := HW4.out.size
  have su4 := HGu4.out.size
  have sw5 := HW5.out.size
  have su5 := HGu5.out.size
  have sw6 := HW6.out.size
  have su6 := HGu6.out.size
  have swz := HGZ.out.size
  simp only [World.size_alloc] at sw4
  have ow4 := HO4.out.keeps (lo := w.heap.size + 1 + 1 + 1) (Keeps.trans (Keeps.of_grown HGu4.out (by omega)) (Keeps.trans (Keeps.of_ext HW5.out) (Keeps.trans (Keeps.of_grown HGu5.out (by omega)) (Keeps.trans (Keeps.of_ext HW6.out) (Keeps.trans (Keeps.of_grown HGu6.out (by omega)) (Keeps.of_grown HGZ.out (by omega))))))) (by intro x hx; simp only [Between, World.size_alloc] at hx; omega)
  have ow5 := HO5.out.keeps (lo := w.heap.size + 1 + 1 + 1) (Keeps.trans (Keeps.of_grown HGu5.out (by omega)) (Keeps.trans (Keeps.of_ext HW6.out) (Keeps.trans (Keeps.of_grown HGu6.out (by omega)) (Keeps.of_grown HGZ.out (by omega))))) (by intro x hx; simp only [Between, World.size_alloc] at hx; omega)
  have ow6 := HO6.out.keeps (lo := w.heap.size + 1 + 1 + 1) (Keeps.trans (Keeps.of_grown HGu6.out (by omega)) (Keeps.of_grown HGZ.out (by omega))) (by intro x hx; simp only [Between, World.size_alloc] at hx; omega)
  have hall := OwnL.cons_leaf K0.out (OwnL.cons_leaf K1.out (OwnL.cons_leaf K2.out (OwnL.cons_leaf K3.out (OwnL.append (ow4) (OwnL.append (OwnL.one ow5) (OwnL.append (OwnL.one ow6) (OwnL.nil wz (fun _ => False)) (by intro x hx hy; simp only [Between, World.size_alloc, or_false] at hx hy <;> omega)) (by intro x hx hy; simp only [Between, World.size_alloc, or_false] at hx hy <;> omega)) (by intro x hx hy; simp only [Between, World.size_alloc, or_false] at hx hy <;> omega)))))
  exact hall.mono (by intro x hx; simp only [Between, World.size_alloc, or_false] at hx ⊢; omega)

set_option maxRecDepth 100000 in
set_option maxHeartbeats 1000000 in
theorem eqExpr_of (v0 : Int) (v1 : ByteArray) (v2 : ByteArray) (v3 : Int) (ts4 : List Tr) (l4 : ts4.length = 3) (es5 : List (List Tr)) (es6 : List (List Tr)) (h4 : EqC 47 ts4) (h5 : EqSC 176 9 es5) (h6 : EqSC 177 11 es6) : EqC 130 ([.leaf (.int .i64 v0)] ++ ([.leaf (.string v1)] ++ ([.leaf (.string v2)] ++ ([.leaf (.int .i64 v3)] ++ (ts4 ++ ([.row 9 es5] ++ ([.row 11 es6] ++ ([])))))))) := by
  intro cs ds w hr hr'
  obtain ⟨b0, r0, rfl, g0, n0⟩ := RepL.split hr
  obtain ⟨y0, rfl⟩ := list1 g0.length.symm
  obtain ⟨rfl, k0⟩ := g0.1.leaf_eq
  obtain ⟨b1, r1, rfl, g1, n1⟩ := RepL.split n0
  obtain ⟨y1, rfl⟩ := list1 g1.length.symm
  obtain ⟨rfl, k1⟩ := g1.1.leaf_eq
  obtain ⟨b2, r2, rfl, g2, n2⟩ := RepL.split n1
  obtain ⟨y2, rfl⟩ := list1 g2.length.symm
  obtain ⟨rfl, k2⟩ := g2.1.leaf_eq
  obtain ⟨b3, r3, rfl, g3, n3⟩ := RepL.split n2
  obtain ⟨y3, rfl⟩ := list1 g3.length.symm
  obtain ⟨rfl, k3⟩ := g3.1.leaf_eq
  obtain ⟨b4, r4, rfl, g4, n4⟩ := RepL.split n3
  obtain ⟨x4_0, x4_1, x4_2, rfl⟩ := list3 (g4.length.symm.trans l4)
  obtain ⟨b5, r5, rfl, g5, n5⟩ := RepL.split n4
  obtain ⟨y5, rfl⟩ := list1 g5.length.symm
  obtain ⟨a5, c5, rfl, -, -⟩ := g5.1.shape
  obtain ⟨b6, r6, rfl, g6, n6⟩ := RepL.split n5
  obtain ⟨y6, rfl⟩ := list1 g6.length.symm
  obtain ⟨a6, c6, rfl, -, -⟩ := g6.1.shape
  obtain rfl := RepL.nil_eq n6
  clear hr
  obtain ⟨zb0, zr0, rfl, zg0, zn0⟩ := RepL.split hr'
  obtain ⟨zy0, rfl⟩ := list1 zg0.length.symm
  obtain ⟨rfl, zk0⟩ := zg0.1.leaf_eq
  obtain ⟨zb1, zr1, rfl, zg1, zn1⟩ := RepL.split zn0
  obtain ⟨zy1, rfl⟩ := list1 zg1.length.symm
  obtain ⟨rfl, zk1⟩ := zg1.1.leaf_eq
  obtain ⟨zb2, zr2, rfl, zg2, zn2⟩ := RepL.split zn1
  obtain ⟨zy2, rfl⟩ := list1 zg2.length.symm
  obtain ⟨rfl, zk2⟩ := zg2.1.leaf_eq
  obtain ⟨zb3, zr3, rfl, zg3, zn3⟩ := RepL.split zn2
  obtain ⟨zy3, rfl⟩ := list1 zg3.length.symm
  obtain ⟨rfl, zk3⟩ := zg3.1.leaf_eq
  obtain ⟨zb4, zr4, rfl, zg4, zn4⟩ := RepL.split zn3
  obtain ⟨zx4_0, zx4_1, zx4_2, rfl⟩ := list3 (zg4.length.symm.trans l4)
  obtain ⟨zb5, zr5, rfl, zg5, zn5⟩ := RepL.split zn4
  obtain ⟨zy5, rfl⟩ := list1 zg5.length.symm
  obtain ⟨za5, zc5, rfl, -, -⟩ := zg5.1.shape
  obtain ⟨zb6, zr6, rfl, zg6, zn6⟩ := RepL.split zn5
  obtain ⟨zy6, rfl⟩ := list1 zg6.length.symm
  obtain ⟨za6, zc6, rfl, -, -⟩ := zg6.1.shape
  obtain rfl := RepL.nil_eq zn6
  clear hr'
  have G0 := Lib.hid g0
  have K0 := Lib.hid k0
  clear g0 n0 k0
  have G1 := Lib.hid g1
  have K1 := Lib.hid k1
  clear g1 n1 k1
  have G2 := Lib.hid g2
  have K2 := Lib.hid k2
  clear g2 n2 k2
  have G3 := Lib.hid g3
  have K3 := Lib.hid k3
  clear g3 n3 k3
  have G4 := Lib.hid g4
  clear g4 n4
  have G5 := Lib.hid g5
  clear g5 n5
  have G6 := Lib.hid g6
  clear g6 n6
  have zG0 := Lib.hid zg0
  have zK0 := Lib.hid zk0
  clear zg0 zn0 zk0
  have zG1 := Lib.hid zg1
  have zK1 := Lib.hid zk1
  clear zg1 zn1 zk1
  have zG2 := Lib.hid zg2
  have zK2 := Lib.hid zk2
  clear zg2 zn2 zk2
  have zG3 := Lib.hid zg3
  have zK3 := Lib.hid zk3
  clear zg3 zn3 zk3
  have zG4 := Lib.hid zg4
  clear zg4 zn4
  have zG5 := Lib.hid zg5
  clear zg5 zn5
  have zG6 := Lib.hid zg6
  clear zg6 zn6
  simp only [List.cons_append, List.nil_append]
  go_enter Tryz.func130, Tryz.ntmps130
  go_wp2_with fail
  refine (h4 _ _ _ (G4.out.ext (.alloc (.alloc (.refl _) _) _)) (zG4.out.ext (.alloc (.alloc (.refl _) _) _))).mono ?_
  rintro e w4 ⟨rfl, hw4⟩
  have HW4 := Lib.hid hw4
  have ob4 := (Two.new w _ _ _ _).ext hw4
  have OBH := Lib.hid ob4
  have ce4 := ob4.o0.cell
  have cf4 := ob4.o1.cell
  clear hw4 ob4
  go_wp2_with fail
  refine (h5 _ _ _ (G5.out.1.ext (Ext.trans (.alloc (.alloc (.refl _) _) _) HW4.out)) (zG5.out.1.ext (Ext.trans (.alloc (.alloc (.refl _) _) _) HW4.out))).mono ?_
  rintro e w5 ⟨rfl, hw5⟩
  have HW5 := Lib.hid hw5
  have ob5 := OBH.out.ext hw5
  clear OBH ce4 cf4
  have OBH := Lib.hid ob5
  have ce5 := ob5.o0.cell
  have cf5 := ob5.o1.cell
  clear hw5 ob5
  go_wp2_with fail
  refine (h6 _ _ _ (G6.out.1.ext (Ext.trans (Ext.trans (.alloc (.alloc (.refl _) _) _) HW4.out) HW5.out)) (zG6.out.1.ext (Ext.trans (Ext.trans (.alloc (.alloc (.refl _) _) _) HW4.out) HW5.out))).mono ?_
  rintro e w6 ⟨rfl, hw6⟩
  have HW6 := Lib.hid hw6
  have ob6 := OBH.out.ext hw6
  clear OBH ce5 cf5
  have OBH := Lib.hid ob6
  have ce6 := ob6.o0.cell
  have cf6 := ob6.o1.cell
  clear hw6 ob6
  go_wp2_with fail
  go_ret
  exact ⟨rfl, (Ext.trans (Ext.trans (Ext.trans (.alloc (.alloc (.refl _) _) _) HW4.out) HW5.out) HW6.out)⟩

set_option maxRecDepth 100000 in
set_option maxHeartbeats 1000000 in
theorem szExprS_of (es : List (List Tr)) (h5 : ∀ e ∈ es, e.length = 9) (H : ∀ e ∈ es, SzC 220 e) : SzSC 234 9 es := by
  intro s left w hs h0 h1
  obtain ⟨a, cap, rfl, hl, hm⟩ := hs.shape
  unfold maxLen at hm
  have HS := Lib.hid hs
  have HH := Lib.hid H
  have H5 := Lib.hid h5
  clear hs H h5
  go_enter Tryz.func234, Tryz.ntmps234
  go_wp2_with fail
  · go_ret
    exact ⟨-1, rfl, .refl _, by omega, by omega, by omega⟩
  go_loopw [1, 5] (fun l i wr => ∃ (k : Nat) (r : Int), k ≤ es.length ∧ i = .int .i64 k ∧ l = .int .i64 r ∧ Ext w wr ∧ 0 ≤ r ∧ r + es.length + Tr.bulkAll (es.take k) ≤ left) (fun _ i _ => es.length - (intOf i).toNat)
  case atStart => exact ⟨0, _, Nat.zero_le _, rfl, rfl, .refl _, by omega, by simp [Tr.bulkAll]⟩
  case round =>
    obtain ⟨k, r, hk, rfl, rfl, hw, hr0, hrb⟩ := hrel
    by_cases hlt : k < es.length
    · obtain ⟨b, off, cs, rfl, hb, hcs, hc⟩ := (HS.out.ext hw).at2 (k := k) (List.getElem?_eq_getElem hlt)
      have hmem : es[k] ∈ es := List.getElem_mem hlt
      have l5 := H5.out _ hmem
      have hbt := Lib.hid (Tr.bulkAll_take es k hlt)
      have HCS := Lib.hid hcs
      have HC := Lib.hid hc
      have HM := Lib.hid hmem
      have HI : Hid ((Tryz.prog.info? 248).map (·.size) = some cs.length) := by rw [← hcs.length, l5]; exact isz248
      clear hcs hc hmem l5
      go_wp2_with (refine wpList_load_rep rfl 248 _ rfl b (off + k * 9) rfl cs _ Tryz.underlying248 HI.out HC.out ?_)
      refine (HH.out _ HM.out _ _ _ HCS.out hr0 (by omega)).mono ?_
      rintro e w1 ⟨r1, rfl, hw1, hr1, hr2, hr3⟩
      have HR3 := Lib.hid hr3
      have HW1 := Lib.hid hw1
      clear hr3 hw1
      go_wp2_with fail
      · go_ret
        exact ⟨-1, rfl, hw.trans HW1.out, by omega, by omega, by omega⟩
      · go_roundw
        case rel =>
          have p0 : 0 ≤ r1 := by assumption
          have e1 := HR3.out p0
          have e2 := hbt.out
          exact ⟨k + 1, r1, by omega, by go_num, rfl, hw.trans HW1.out, p0, by omega⟩
        case measure => simp [intOf]; omega
    · have hkl : k = es.length := by omega
      go_wp2_with fail
      go_ret
      refine ⟨r, rfl, hw, by omega, by omega, fun _ => ?_⟩
      rw [hkl, List.take_length] at hrb
      simp only [Tr.bulk]
      omega

set_option maxRecDepth 100000 in
set_option maxHeartbeats 1000000 in
theorem toExprS_of (es : List (List Tr)) (h5 : ∀ e ∈ es, e.length = 9) (H : ∀ e ∈ es, ToC 225 e) : ToSC 240 9 es := by
  intro s w hs hbk
  obtain ⟨a, cap, rfl, hl, hm⟩ := hs.shape
  unfold maxLen at hm
  have HS := Lib.hid hs
  have HH := Lib.hid H
  have H5 := Lib.hid h5
  have n0 : (0 : Int) ≤ es.length := by omega
  clear hs H h5
  go_enter Tryz.func240, Tryz.ntmps240
  go_wp2_with (refine wpList_make_rep rfl 100 (.tmp 6) rfl es.length rfl 103 Tryz.underlying100 9 144 iszb103 (by omega) (by omega) ?_; intro wm arr0 ha0 hob0 hx0 hz0; have HA0 := Lib.hid ha0; have HOB0 := Lib.hid hob0; have HX0 := Lib.hid hx0; have HZ0 := Lib.hid hz0; clear ha0 hob0 hx0 hz0)
  go_loopw [4] (fun i wr => ∃ (k : Nat) (arr : Array Value), k ≤ es.length ∧ i = .int .i64 k ∧ Ext w wr ∧ w.heap.size < wr.heap.size ∧ OB wr w.heap.size 103 arr ∧ arr.size = es.length * 9 ∧ Part wr w.heap.size arr 9 es k) (fun i _ => es.length - (intOf i).toNat)
  case atStart => exact ⟨0, arr0, Nat.zero_le _, rfl, HX0.out, by rw [HZ0.out]; omega, HOB0.out, HA0.out, Part.zero _ _ _ _ _⟩
  case round =>
    obtain ⟨k, arr, hk, rfl, hw, hgt, hob, hasz, hpart⟩ := hrel
    have HOB := Lib.hid hob
    have HAS := Lib.hid hasz
    have HP := Lib.hid hpart
    clear hob hasz hpart
    by_cases hlt : k < es.length
    · obtain ⟨b, off, cs, rfl, hb, hcs, hc⟩ := (HS.out.ext hw).at2 (k := k) (List.getElem?_eq_getElem hlt)
      have hmem : es[k] ∈ es := List.getElem_mem hlt
      have l5 := H5.out _ hmem
      have hbe := Tr.bulkAll_le hlt
      have HCS := Lib.hid hcs
      have HC := Lib.hid hc
      have HM := Lib.hid hmem
      have HL5 := Lib.hid l5
      have HI : Hid ((Tryz.prog.info? 248).map (·.size) = some cs.length) := by rw [← hcs.length, l5]; exact isz248
      clear hcs hc hmem l5
      go_wp2_with (refine wpList_load_rep rfl 248 (.tmp 18) rfl b (off + k * 9) rfl cs _ Tryz.underlying248 HI.out HC.out ?_)
      refine (HH.out _ HM.out _ _ HCS.out (by omega)).mono ?_
      rintro e w1 ⟨cs1, rfl, hw1, ho1⟩
      have HW1 := Lib.hid hw1
      have HO1 := Lib.hid ho1
      have hcl : cs1.length = 9 := ho1.1.trans HL5.out
      have HCL := Lib.hid hcl
      have hfit : 0 + k * 9 + cs1.length ≤ arr.size := by have := HAS.out; omega
      have HF := Lib.hid hfit
      clear hw1 ho1 hcl hfit
      go_wp2_with (refine wpList_store_rep rfl 103 (.tmp 21) (.tmp 20) rfl w.heap.size (k * 9) rfl cs1 rfl 103 arr (HOB.out.ext HW1.out) (by rw [HCL.out]; exact isz103) (by have := HF.out; omega) (HO1.out.rep.one) ?_; intro w2 hob2 hg2 hz2; have HOB2 := Lib.hid hob2; have HG2 := Lib.hid hg2; have HZ2 := Lib.hid hz2; clear hob2 hg2 hz2)
      go_roundw
      case rel =>
        have hfit : k * 9 + cs1.length ≤ arr.size := by have := HF.out; omega
        refine ⟨k + 1, _, by omega, by go_num, ?_, ?_, HOB2.out, by rw [splice_size hfit]; exact HAS.out, HP.out.step hgt HW1.out (List.getElem?_eq_getElem hlt) HO1.out HCL.out HAS.out HG2.out HOB2.out⟩
        · exact grown_ext (hw.trans HW1.out) HG2.out (Nat.le_refl _)
        · have := HW1.out.size
          have := HZ2.out
          omega
      case measure => simp [intOf]; omega
    · have hkl : k = es.length := by omega
      go_wp2_with fail
      go_ret
      subst hkl
      exact ⟨_, rfl, hw, (HP.out.done HOB.out H5.out (Nat.le_refl _) (by unfold maxLen; omega) (Nat.le_refl _)).mono fun x hx => ⟨hx.1, hx.2⟩⟩

set_option maxRecDepth 100000 in
set_option maxHeartbeats 1000000 in
theorem eqExprS_of (es : List (List Tr)) (h5 : ∀ e ∈ es, e.length = 9) (H : ∀ e ∈ es, EqC 130 e) : EqSC 176 9 es := by
  intro s u w hs hu
  obtain ⟨a, cap, rfl, hl, hm⟩ := hs.shape
  obtain ⟨a', cap', rfl, hl', hm'⟩ := hu.shape
  unfold maxLen at hm hm'
  have HS := Lib.hid hs
  have HU := Lib.hid hu
  have HH := Lib.hid H
  have H5 := Lib.hid h5
  clear hs hu H h5
  go_enter Tryz.func176, Tryz.ntmps176
  go_wp2_with fail
  go_loopw [5] (fun i wr => ∃ k : Nat, k ≤ es.length ∧ i = .int .i64 k ∧ Ext w wr) (fun i _ => es.length - (intOf i).toNat)
  case atStart => exact ⟨0, Nat.zero_le _, rfl, .refl _⟩
  case round =>
    obtain ⟨k, hk, rfl, hw⟩ := hrel
    by_cases hlt : k < es.length
    · obtain ⟨b, off, cs, rfl, hb, hcs, hc⟩ := (HS.out.ext hw).at2 (k := k) (List.getElem?_eq_getElem hlt)
      obtain ⟨b', off', ds, rfl, hb', hds, hd⟩ := (HU.out.ext hw).at2 (k := k) (List.getElem?_eq_getElem hlt)
      have hmem : es[k] ∈ es := List.getElem_mem hlt
      have l5 := H5.out _ hmem
      have HCS := Lib.hid hcs
      have HDS := Lib.hid hds
      have HM := Lib.hid hmem
      have HC := Lib.hid hc
      have HD := Lib.hid hd
      have HI : Hid ((Tryz.prog.info? 103).map (·.size) = some cs.length) := by rw [← hcs.length, l5]; exact isz103
      have HJ : Hid ((Tryz.prog.info? 103).map (·.size) = some ds.length) := by rw [← hds.length, l5]; exact isz103
      clear hcs hds hc hd l5 hmem
      go_wp2_with fail
      have ki : (k : Int) < (es.length : Int) := by omega
      have k0 : (0 : Int) ≤ (k : Int) := by omega
      refine wp_region_still_tail 8 (by kernel_rfl) (by kernel_rfl) ?_
      simp only [List.take_succ_cons, List.take_zero, List.drop_succ_cons, List.drop_zero]
      change wpStill _ _ wr.drew _ _ _
      repeat (first
        | (refine wpStill_load_rep rfl 103 (.tmp 19) rfl b (off + k * 9) rfl cs _ Tryz.underlying103 HI.out HC.out ?_; simp only [Act.put])
        | (refine wpStill_load_rep rfl 103 (.tmp 23) rfl b' (off' + k * 9) rfl ds _ Tryz.underlying103 HJ.out HD.out ?_; simp only [Act.put])
        | still_step)
      refine wpStill_nil ?_
      change wpList _ _ _ _ _ wr.drew
      go_wp2_with fail
      refine (HH.out _ HM.out _ _ _ (HCS.out.ext (.drew (.refl _))) (HDS.out.ext (.drew (.refl _)))).mono ?_
      rintro e w1 ⟨rfl, hw1⟩
      have HW1 := Lib.hid hw1
      clear hw1
      go_wp2_with fail
      go_roundw
      case rel => exact ⟨k + 1, by omega, by go_num, hw.trans (.trans (.drew (.refl _)) HW1.out)⟩
      case measure => simp [intOf]; omega
    · go_wp2_with fail
      go_ret
      exact ⟨rfl, hw⟩

end Go.Proofs.YtnakkelglbcecaaGreat
