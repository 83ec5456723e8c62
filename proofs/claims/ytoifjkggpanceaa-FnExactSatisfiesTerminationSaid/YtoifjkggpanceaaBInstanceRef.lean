/- Contracts of the laws' own functions that measure, copy and compare plain data: InstanceRef. No conditions. -/
import Derived.Test.YtoifjkggpanceaaProg
import Derived.Test.YtoifjkggpanceaaCtr
namespace Go.Proofs.Ytoifjkggpanceaa
open Go.RowKit Go.Proofs

set_option maxRecDepth 100000 in
set_option maxHeartbeats 1000000 in
theorem toInstanceRef_of (v0 : Int) (v1 : Int)  : ToC 91 ([.leaf (.int .i64 v0)] ++ ([.leaf (.int .i64 v1)] ++ ([]))) := by
  intro cs w hr hbk
  simp only [Tr.bulkL_append, Tr.bulkL, Tr.bulk, Tr.bulk_int, Tr.bulk_bool, Nat.add_zero, Nat.zero_add] at hbk
  obtain ⟨b0, r0, rfl, g0, n0⟩ := RepL.split hr
  obtain ⟨y0, rfl⟩ := list1 g0.length.symm
  obtain ⟨rfl, k0⟩ := g0.1.leaf_eq
  obtain ⟨b1, r1, rfl, g1, n1⟩ := RepL.split n0
  obtain ⟨y1, rfl⟩ := list1 g1.length.symm
  obtain ⟨rfl, k1⟩ := g1.1.leaf_eq
  obtain rfl := RepL.nil_eq n1
  clear hr
  have G0 := Lib.hid g0
  have K0 := Lib.hid k0
  clear g0 n0 k0
  have G1 := Lib.hid g1
  have K1 := Lib.hid k1
  clear g1 n1 k1
  simp only [List.cons_append, List.nil_append]
  go_enter Try.func91, Try.ntmps91
  go_wp2_with fail
  exact bodyPost_ret (v := .agg #[.int .i64 v0, .int .i64 v1]) (by simp [results, Try.results91, go_sem]) rfl ⟨[.int .i64 v0, .int .i64 v1], rfl, .alloc (.alloc (.alloc (.refl _) _) _) _, OwnL.cons_leaf K0.out (OwnL.cons_leaf K1.out (OwnL.nil _ _))⟩

set_option maxRecDepth 100000 in
set_option maxHeartbeats 1000000 in
theorem eqInstanceRef_of (v0 : Int) (v1 : Int)  : EqC 94 ([.leaf (.int .i64 v0)] ++ ([.leaf (.int .i64 v1)] ++ ([]))) := by
  intro cs ds w hr hr'
  obtain ⟨b0, r0, rfl, g0, n0⟩ := RepL.split hr
  obtain ⟨y0, rfl⟩ := list1 g0.length.symm
  obtain ⟨rfl, k0⟩ := g0.1.leaf_eq
  obtain ⟨b1, r1, rfl, g1, n1⟩ := RepL.split n0
  obtain ⟨y1, rfl⟩ := list1 g1.length.symm
  obtain ⟨rfl, k1⟩ := g1.1.leaf_eq
  obtain rfl := RepL.nil_eq n1
  clear hr
  obtain ⟨zb0, zr0, rfl, zg0, zn0⟩ := RepL.split hr'
  obtain ⟨zy0, rfl⟩ := list1 zg0.length.symm
  obtain ⟨rfl, zk0⟩ := zg0.1.leaf_eq
  obtain ⟨zb1, zr1, rfl, zg1, zn1⟩ := RepL.split zn0
  obtain ⟨zy1, rfl⟩ := list1 zg1.length.symm
  obtain ⟨rfl, zk1⟩ := zg1.1.leaf_eq
  obtain rfl := RepL.nil_eq zn1
  clear hr'
  have G0 := Lib.hid g0
  have K0 := Lib.hid k0
  clear g0 n0 k0
  have G1 := Lib.hid g1
  have K1 := Lib.hid k1
  clear g1 n1 k1
  have zG0 := Lib.hid zg0
  have zK0 := Lib.hid zk0
  clear zg0 zn0 zk0
  have zG1 := Lib.hid zg1
  have zK1 := Lib.hid zk1
  clear zg1 zn1 zk1
  simp only [List.cons_append, List.nil_append]
  go_enter Try.func94, Try.ntmps94
  go_wp2_with fail
  go_ret
  exact ⟨rfl, (.alloc (.alloc (.refl _) _) _)⟩

end Go.Proofs.Ytoifjkggpanceaa
