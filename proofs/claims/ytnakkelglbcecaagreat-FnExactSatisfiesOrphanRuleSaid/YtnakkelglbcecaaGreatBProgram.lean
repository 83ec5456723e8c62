/- Contracts of the laws' own functions that measure, copy and compare plain data: Program. No conditions. -/
import Derived.Test.YtnakkelglbcecaaGreatProg
import Derived.Test.YtnakkelglbcecaaGreatCtr
namespace Go.Proofs.YtnakkelglbcecaaGreat
open Go.RowKit Go.Proofs

set_option maxRecDepth 100000 in
set_option maxHeartbeats 1000000 in
theorem szProgram_of (es0 : List (List Tr)) (h0 : SzSC 76 6 es0) : SzC 15 ([.row 6 es0] ++ ([])) := by
  intro cs left w hr hl0 hl1
  obtain ⟨b0, r0, rfl, g0, n0⟩ := RepL.split hr
  obtain ⟨y0, rfl⟩ := list1 g0.length.symm
  obtain ⟨a0, c0, rfl, -, -⟩ := g0.1.shape
  obtain rfl := RepL.nil_eq n0
  clear hr
  have G0 := Lib.hid g0
  clear g0 n0
  simp only [List.cons_append, List.nil_append]
  go_enter Tryz.func15, Tryz.ntmps15
  go_wp2_with fail
  refine (h0 _ _ _ (G0.out.1.ext (.alloc (.refl _) _)) (by omega) (by omega)).mono ?_
  rintro e w0 ⟨r0, rfl, hw0, ra0, rb0, rc0⟩
  have HW0 := Lib.hid hw0
  have HR0 := Lib.hid rc0
  have ob0 := (OB.new w _ _).ext hw0
  have OBH := Lib.hid ob0
  have ce0 := ob0.cell
  clear hw0 rc0 ob0
  go_wp2_with fail
  · go_ret
    exact ⟨-1, rfl, (Ext.trans (.alloc (.refl _) _) HW0.out), by omega, by omega, by omega⟩
  go_ret
  refine ⟨_, rfl, (Ext.trans (.alloc (.refl _) _) HW0.out), by omega, by omega, fun hp => ?_⟩
  have e0 := HR0.out (by omega)
  simp only [Tr.bulkL_append, Tr.bulkL, Tr.bulk]
  simp only [Tr.bulk] at e0
  omega

set_option maxRecDepth 100000 in
set_option maxHeartbeats 1000000 in
theorem toProgram_of (es0 : List (List Tr)) (h0 : ToSC 80 6 es0) : ToC 17 ([.row 6 es0] ++ ([])) := by
  intro cs w hr hbk
  simp only [Tr.bulkL_append, Tr.bulkL, Tr.bulk] at hbk
  obtain ⟨b0, r0, rfl, g0, n0⟩ := RepL.split hr
  obtain ⟨y0, rfl⟩ := list1 g0.length.symm
  obtain ⟨a0, c0, rfl, -, -⟩ := g0.1.shape
  obtain rfl := RepL.nil_eq n0
  clear hr
  have G0 := Lib.hid g0
  clear g0 n0
  simp only [List.cons_append, List.nil_append]
  go_enter Tryz.func17, Tryz.ntmps17
  go_wp2_with fail
  refine (h0 _ _ (G0.out.1.ext (.alloc (.alloc (.alloc (.refl _) _) _) _)) (by omega)).mono ?_
  rintro e w0 ⟨d0, rfl, hw0, ho0⟩
  obtain ⟨da0, dc0, rfl, -, -⟩ := ho0.rep.shape
  have HW0 := Lib.hid hw0
  have HO0 := Lib.hid ho0
  have ob0 := (Three.new w _ _ _ _ _ _).ext hw0
  have OBHw0 := Lib.hid ob0
  have cew0 := ob0.o0.cell
  have hzw0 : w.heap.size < w0.heap.size := ob0.o0.lt
  clear hw0 ob0 ho0
  have hone : Hid (∀ v ∈ ([.slice da0 es0.length dc0] : List Value), v.oneCell' = true) := by
    intro v hv
    simp only [List.mem_cons, List.not_mem_nil, or_false] at hv
    rcases hv with rfl <;> first | rfl
  go_wp2_with (first
    | (refine wpList_store_cell rfl 29 _ _ rfl (w.heap.size + 1 + 1) 0 rfl (.slice da0 es0.length dc0) rfl rfl 31 _ OBHw0.out.o2 isz29 (by simp [splice]) rfl ?_; intro u0 hou0 hgu0 hzu0; have OBHu0 := Lib.hid (OBHw0.out.grown hgu0 hou0 (by omega) (by omega)); have HGu0 := Lib.hid hgu0; have ceu0 := OBHu0.out.o0.cell; have hqu0 : w.heap.size < u0.heap.size := OBHu0.out.o0.lt; clear hou0 hgu0 hzu0 OBHw0 cew0)
    | (refine wpList_load_rep rfl 31 _ rfl (w.heap.size + 1 + 1) 0 rfl [.slice da0 es0.length dc0] _ Tryz.underlying31 isz31 (fun j v hv => by rw [OBHu0.out.o2.cell, Nat.zero_add]; simpa [splice] using hv) ?_)
    | (refine wpList_store_rep rfl 31 _ _ rfl (w.heap.size + 1) 0 rfl [.slice da0 es0.length dc0] rfl 31 _ OBHu0.out.o1 isz31 (by simp) hone.out ?_; intro wz hoz hgz hzz; have HOZ := Lib.hid hoz; have HGZ := Lib.hid hgz; clear hoz hgz hzz))
  have HOF : OB wz (w.heap.size + 1) 31 ⟨[.slice da0 es0.length dc0]⟩ := HOZ.out
  refine bodyPost_ret (results_cell_row Tryz.results17 _ _ (w.heap.size + 1) 31 ⟨[.slice da0 es0.length dc0]⟩ _ _ rfl HOF Tryz.underlying31 rfl isz31) rfl ⟨[.slice da0 es0.length dc0], rfl, (grown_ext (grown_ext (Ext.trans (.alloc (.alloc (.alloc (.refl _) _) _) _) HW0.out) HGu0.out (by omega)) HGZ.out (by omega)), ?_⟩
  have sw0 := HW0.out.size
  have su0 := HGu0.out.size
  have swz := HGZ.out.size
  simp only [World.size_alloc] at sw0
  have ow0 := HO0.out.keeps (lo := w.heap.size + 1 + 1 + 1) (Keeps.trans (Keeps.of_grown HGu0.out (by omega)) (Keeps.of_grown HGZ.out (by omega))) (by intro x hx; simp only [Between, World.size_alloc] at hx; omega)
  have hall := OwnL.append (OwnL.one ow0) (OwnL.nil wz (fun _ => False)) (by intro x hx hy; simp only [Between, World.size_alloc, or_false] at hx hy <;> omega)
  exact hall.mono (by intro x hx; simp only [Between, World.size_alloc, or_false] at hx ⊢; omega)

set_option maxRecDepth 100000 in
set_option maxHeartbeats 1000000 in
theorem eqProgram_of (es0 : List (List Tr)) (h0 : EqSC 84 6 es0) : EqC 20 ([.row 6 es0] ++ ([])) := by
  intro cs ds w hr hr'
  obtain ⟨b0, r0, rfl, g0, n0⟩ := RepL.split hr
  obtain ⟨y0, rfl⟩ := list1 g0.length.symm
  obtain ⟨a0, c0, rfl, -, -⟩ := g0.1.shape
  obtain rfl := RepL.nil_eq n0
  clear hr
  obtain ⟨zb0, zr0, rfl, zg0, zn0⟩ := RepL.split hr'
  obtain ⟨zy0, rfl⟩ := list1 zg0.length.symm
  obtain ⟨za0, zc0, rfl, -, -⟩ := zg0.1.shape
  obtain rfl := RepL.nil_eq zn0
  clear hr'
  have G0 := Lib.hid g0
  clear g0 n0
  have zG0 := Lib.hid zg0
  clear zg0 zn0
  simp only [List.cons_append, List.nil_append]
  go_enter Tryz.func20, Tryz.ntmps20
  go_wp2_with fail
  refine (h0 _ _ _ (G0.out.1.ext (.alloc (.alloc (.refl _) _) _)) (zG0.out.1.ext (.alloc (.alloc (.refl _) _) _))).mono ?_
  rintro e w0 ⟨rfl, hw0⟩
  have HW0 := Lib.hid hw0
  have ob0 := (Two.new w _ _ _ _).ext hw0
  have OBH := Lib.hid ob0
  have ce0 := ob0.o0.cell
  have cf0 := ob0.o1.cell
  clear hw0 ob0
  go_wp2_with fail
  go_ret
  exact ⟨rfl, (Ext.trans (.alloc (.alloc (.refl _) _) _) HW0.out)⟩

end Go.Proofs.YtnakkelglbcecaaGreat
