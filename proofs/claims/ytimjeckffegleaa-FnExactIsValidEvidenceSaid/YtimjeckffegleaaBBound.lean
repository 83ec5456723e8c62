/- Contracts of the laws' own functions that measure, copy and compare plain data: Bound. No conditions. -/
import Derived.Test.YtimjeckffegleaaProg
import Derived.Test.YtimjeckffegleaaCtr
namespace Go.Proofs.Ytimjeckffegleaa
open Go.RowKit Go.Proofs

set_option maxHeartbeats 1000000 in
theorem szBound_of (v0 : ByteArray) (ts1 : List Tr) (l1 : ts1.length = 3) (h1 : SzC 39 ts1) : SzC 23 ([.leaf (.string v0)] ++ (ts1 ++ ([]))) := by
  intro cs left w hr hl0 hl1
  obtain ⟨b0, r0, rfl, g0, n0⟩ := RepL.split hr
  obtain ⟨y0, rfl⟩ := list1 g0.length.symm
  obtain ⟨rfl, k0⟩ := g0.1.leaf_eq
  obtain ⟨b1, r1, rfl, g1, n1⟩ := RepL.split n0
  obtain ⟨x1_0, x1_1, x1_2, rfl⟩ := list3 (g1.length.symm.trans l1)
  obtain rfl := RepL.nil_eq n1
  clear hr
  have q0 : v0.size ≤ 9223372036854775807 := by have := k0; simp only [LeafOk, maxLen] at this; omega
  have G0 := Lib.hid g0
  have K0 := Lib.hid k0
  clear g0 n0 k0
  have G1 := Lib.hid g1
  clear g1 n1
  simp only [List.cons_append, List.nil_append]
  go_enter Try.func23, Try.ntmps23
  go_wp2_with fail
  · go_ret
    exact ⟨-1, rfl, (.alloc (.refl _) _), by omega, by omega, by omega⟩
  refine (h1 _ _ _ (G1.out.ext (.alloc (.refl _) _)) (by omega) (by omega)).mono ?_
  rintro e w1 ⟨r1, rfl, hw1, ra1, rb1, rc1⟩
  have HW1 := Lib.hid hw1
  have HR1 := Lib.hid rc1
  have ob1 := (OB.new w _ _).ext hw1
  have OBH := Lib.hid ob1
  have ce1 := ob1.cell
  clear hw1 rc1 ob1
  go_wp2_with fail
  · go_ret
    exact ⟨-1, rfl, (Ext.trans (.alloc (.refl _) _) HW1.out), by omega, by omega, by omega⟩
  go_ret
  refine ⟨_, rfl, (Ext.trans (.alloc (.refl _) _) HW1.out), by omega, by omega, fun hp => ?_⟩
  have e1 := HR1.out (by omega)
  simp only [Tr.bulkL_append, Tr.bulkL, Tr.bulk, Tr.bulk_int, Tr.bulk_bool, Nat.add_zero, Nat.zero_add]
  omega

set_option maxHeartbeats 1000000 in
theorem toBound_of (v0 : ByteArray) (ts1 : List Tr) (l1 : ts1.length = 3) (h1 : ToC 41 ts1) : ToC 25 ([.leaf (.string v0)] ++ (ts1 ++ ([]))) := by
  intro cs w hr hbk
  simp only [Tr.bulkL_append, Tr.bulkL, Tr.bulk, Tr.bulk_int, Tr.bulk_bool, Nat.add_zero, Nat.zero_add] at hbk
  obtain ⟨b0, r0, rfl, g0, n0⟩ := RepL.split hr
  obtain ⟨y0, rfl⟩ := list1 g0.length.symm
  obtain ⟨rfl, k0⟩ := g0.1.leaf_eq
  obtain ⟨b1, r1, rfl, g1, n1⟩ := RepL.split n0
  obtain ⟨x1_0, x1_1, x1_2, rfl⟩ := list3 (g1.length.symm.trans l1)
  obtain rfl := RepL.nil_eq n1
  clear hr
  have G0 := Lib.hid g0
  have K0 := Lib.hid k0
  clear g0 n0 k0
  have G1 := Lib.hid g1
  clear g1 n1
  simp only [List.cons_append, List.nil_append]
  go_enter Try.func25, Try.ntmps25
  go_wp2_with fail
  refine (h1 _ _ (G1.out.ext (.alloc (.alloc (.alloc (.refl _) _) _) _)) (by omega)).mono ?_
  rintro e w1 ⟨d1, rfl, hw1, ho1⟩
  obtain ⟨d1_0, d1_1, d1_2, rfl⟩ := list3 (ho1.1.trans l1)
  have HW1 := Lib.hid hw1
  have HO1 := Lib.hid ho1
  have ob1 := (Three.new w _ _ _ _ _ _).ext hw1
  have OBHw1 := Lib.hid ob1
  have cew1 := ob1.o0.cell
  have hzw1 : w.heap.size < w1.heap.size := ob1.o0.lt
  clear hw1 ob1 ho1
  have hone : Hid (∀ v ∈ ([.string v0, d1_0, d1_1, d1_2] : List Value), v.oneCell' = true) := by
    intro v hv
    simp only [List.mem_cons, List.not_mem_nil, or_false] at hv
    rcases hv with rfl | rfl | rfl | rfl <;> first | rfl | exact HO1.out.rep.one _ (by simp)
  go_wp2_with (first
    | (refine wpList_store_rep rfl 48 _ _ rfl (w.heap.size + 1 + 1) 1 rfl [d1_0, d1_1, d1_2] rfl 50 _ OBHw1.out.o2 isz48 (by simp [splice]) HO1.out.rep.one ?_; intro u1 hou1 hgu1 hzu1; have OBHu1 := Lib.hid (OBHw1.out.grown hgu1 hou1 (by omega) (by omega)); have HGu1 := Lib.hid hgu1; have ceu1 := OBHu1.out.o0.cell; have hqu1 : w.heap.size < u1.heap.size := OBHu1.out.o0.lt; clear hou1 hgu1 hzu1 OBHw1 cew1)
    | (refine wpList_load_rep rfl 50 _ rfl (w.heap.size + 1 + 1) 0 rfl [.string v0, d1_0, d1_1, d1_2] _ Try.underlying50 isz50 (fun j v hv => by rw [OBHu1.out.o2.cell, Nat.zero_add]; simpa [splice] using hv) ?_)
    | (refine wpList_store_rep rfl 50 _ _ rfl (w.heap.size + 1) 0 rfl [.string v0, d1_0, d1_1, d1_2] rfl 50 _ OBHu1.out.o1 isz50 (by simp) hone.out ?_; intro wz hoz hgz hzz; have HOZ := Lib.hid hoz; have HGZ := Lib.hid hgz; clear hoz hgz hzz))
  have HOF : OB wz (w.heap.size + 1) 50 ⟨[.string v0, d1_0, d1_1, d1_2]⟩ := HOZ.out
  refine bodyPost_ret (results_cell_row Try.results25 _ _ (w.heap.size + 1) 50 ⟨[.string v0, d1_0, d1_1, d1_2]⟩ _ _ rfl HOF Try.underlying50 rfl isz50) rfl ⟨[.string v0, d1_0, d1_1, d1_2], rfl, (grown_ext (grown_ext (Ext.trans (.alloc (.alloc (.alloc (.refl _) _) _) _) HW1.out) HGu1.out (by omega)) HGZ.out (by omega)), ?_⟩
  have sw1 := HW1.out.size
  have su1 := HGu1.out.size
  have swz := HGZ.out.size
  simp only [World.size_alloc] at sw1
  have ow1 := HO1.out.keeps (lo := w.heap.size + 1 + 1 + 1) (Keeps.trans (Keeps.of_grown HGu1.out (by omega)) (Keeps.of_grown HGZ.out (by omega))) (by intro x hx; simp only [Between, World.size_alloc] at hx; omega)
  have hall := OwnL.cons_leaf K0.out (OwnL.append (ow1) (OwnL.nil wz (fun _ => False)) (by intro x hx hy; simp only [Between, World.size_alloc, or_false] at hx hy <;> omega))
  exact hall.mono (by intro x hx; simp only [Between, World.size_alloc, or_false] at hx ⊢; omega)

set_option maxHeartbeats 1000000 in
theorem eqBound_of (v0 : ByteArray) (ts1 : List Tr) (l1 : ts1.length = 3) (h1 : EqC 43 ts1) : EqC 27 ([.leaf (.string v0)] ++ (ts1 ++ ([]))) := by
  intro cs ds w hr hr'
  obtain ⟨b0, r0, rfl, g0, n0⟩ := RepL.split hr
  obtain ⟨y0, rfl⟩ := list1 g0.length.symm
  obtain ⟨rfl, k0⟩ := g0.1.leaf_eq
  obtain ⟨b1, r1, rfl, g1, n1⟩ := RepL.split n0
  obtain ⟨x1_0, x1_1, x1_2, rfl⟩ := list3 (g1.length.symm.trans l1)
  obtain rfl := RepL.nil_eq n1
  clear hr
  obtain ⟨zb0, zr0, rfl, zg0, zn0⟩ := RepL.split hr'
  obtain ⟨zy0, rfl⟩ := list1 zg0.length.symm
  obtain ⟨rfl, zk0⟩ := zg0.1.leaf_eq
  obtain ⟨zb1, zr1, rfl, zg1, zn1⟩ := RepL.split zn0
  obtain ⟨zx1_0, zx1_1, zx1_2, rfl⟩ := list3 (zg1.length.symm.trans l1)
  obtain rfl := RepL.nil_eq zn1
  clear hr'
  have G0 := Lib.hid g0
  have K0 := Lib.hid k0
  clear g0 n0 k0
  have G1 := Lib.hid g1
  clear g1 n1
  have zG0 := Lib.hid zg0
  have zK0 := Lib.hid zk0
  clear zg0 zn0 zk0
  have zG1 := Lib.hid zg1
  clear zg1 zn1
  simp only [List.cons_append, List.nil_append]
  go_enter Try.func27, Try.ntmps27
  go_wp2_with fail
  refine (h1 _ _ _ (G1.out.ext (.alloc (.alloc (.refl _) _) _)) (zG1.out.ext (.alloc (.alloc (.refl _) _) _))).mono ?_
  rintro e w1 ⟨rfl, hw1⟩
  have HW1 := Lib.hid hw1
  have ob1 := (Two.new w _ _ _ _).ext hw1
  have OBH := Lib.hid ob1
  have ce1 := ob1.o0.cell
  have cf1 := ob1.o1.cell
  clear hw1 ob1
  go_wp2_with fail
  go_ret
  exact ⟨rfl, (Ext.trans (.alloc (.alloc (.refl _) _) _) HW1.out)⟩

end Go.Proofs.Ytimjeckffegleaa
