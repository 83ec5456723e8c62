/- Words, rules and walks of several kinds, laid together: BInstance, BParam, BFunction, BConstructor, BDataType, BSignature, BTrait, BPackage, BProgram, BAssumption, BLeaf, BAll, Reg, Mark, Foc. No conditions but those that each theorem states. -/
import Derived.Test.YtnakkelglbcecaaGreatProg
import Derived.Test.YtnakkelglbcecaaGreatQhd8db69fa
import Derived.BigQuiet
import Derived.Deep.QuietTactic
import Derived.Deep.RegionHeld3
import Derived.Laws.IdiomStrings
import Derived.WalkArith
set_option linter.unusedSimpArgs false
set_option linter.unusedVariables false
namespace Go.Proofs.YtnakkelglbcecaaGreat
open Go.RowKit Go.Proofs

set_option maxRecDepth 100000 in
set_option maxHeartbeats 1000000 in
theorem szInstance_of (v0 : ByteArray) (es1 : List (List Tr)) (ts2 : List Tr) (l2 : ts2.length = 3) (es3 : List (List Tr)) (v4 : Bool) (v5 : Bool) (ts6 : List Tr) (l6 : ts6.length = 3) (es7 : List (List Tr)) (h1 : SzSC 178 1 es1) (h2 : SzC 43 ts2) (h3 : SzSC 50 4 es3) (h6 : SzC 43 ts6) (h7 : SzSC 218 11 es7) : SzC 205 ([.leaf (.string v0)] ++ ([.row 1 es1] ++ (ts2 ++ ([.row 4 es3] ++ ([.leaf (.bool v4)] ++ ([.leaf (.bool v5)] ++ (ts6 ++ ([.row 11 es7] ++ ([]))))))))) := by
  intro cs left w hr hl0 hl1
  obtain ⟨r0, rfl, K0, n0⟩ := RepL.sLeaf hr
  obtain ⟨a1, c1, r1, rfl, G1, n1⟩ := RepL.sRow n0
  obtain ⟨x2_0, x2_1, x2_2, r2, rfl, G2, n2⟩ := RepL.sAgg3 n1 l2
  obtain ⟨a3, c3, r3, rfl, G3, n3⟩ := RepL.sRow n2
  obtain ⟨r4, rfl, K4, n4⟩ := RepL.sLeaf n3
  obtain ⟨r5, rfl, K5, n5⟩ := RepL.sLeaf n4
  obtain ⟨x6_0, x6_1, x6_2, r6, rfl, G6, n6⟩ := RepL.sAgg3 n5 l6
  obtain ⟨a7, c7, r7, rfl, G7, n7⟩ := RepL.sRow n6
  obtain rfl := RepL.nil_eq n7
  clear hr n0 n1 n2 n3 n4 n5 n6 n7
  have q0 : v0.size ≤ 9223372036854775807 := by have := K0.out; simp only [LeafOk, maxLen] at this; omega
  go_enter Tryz.func205, Tryz.ntmps205
  go_wp2_with fail
  · go_ret
    exact ⟨-1, rfl, (.alloc (.refl _) _), by omega, by omega, by omega⟩
  refine (h1 _ _ _ (G1.out.1.ext (.alloc (.refl _) _)) (by omega) (by omega)).mono ?_; rintro e w1 ⟨r1, rfl, hw1, ra1, rb1, rc1⟩
  have HW1 := Lib.hid hw1
  have HR1 := Lib.hid rc1
  have ob1 := (OB.new w _ _).ext hw1
  have OBH := Lib.hid ob1
  have ce1 := ob1.cell
  clear hw1 rc1 ob1
  go_wp2_with fail
  · go_ret
    exact ⟨-1, rfl, (Ext.trans (.alloc (.refl _) _) HW1.out), by omega, by omega, by omega⟩
  refine (h2 _ _ _ (G2.out.ext (Ext.trans (.alloc (.refl _) _) HW1.out)) (by omega) (by omega)).mono ?_; rintro e w2 ⟨r2, rfl, hw2, ra2, rb2, rc2⟩
  have HW2 := Lib.hid hw2
  have HR2 := Lib.hid rc2
  have ob2 := OBH.out.ext hw2
  clear OBH ce1
  have OBH := Lib.hid ob2
  have ce2 := ob2.cell
  clear hw2 rc2 ob2
  go_wp2_with fail
  · go_ret
    exact ⟨-1, rfl, (Ext.trans (Ext.trans (.alloc (.refl _) _) HW1.out) HW2.out), by omega, by omega, by omega⟩
  refine (h3 _ _ _ (G3.out.1.ext (Ext.trans (Ext.trans (.alloc (.refl _) _) HW1.out) HW2.out)) (by omega) (by omega)).mono ?_; rintro e w3 ⟨r3, rfl, hw3, ra3, rb3, rc3⟩
  have HW3 := Lib.hid hw3
  have HR3 := Lib.hid rc3
  have ob3 := OBH.out.ext hw3
  clear OBH ce2
  have OBH := Lib.hid ob3
  have ce3 := ob3.cell
  clear hw3 rc3 ob3
  go_wp2_with fail
  · go_ret
    exact ⟨-1, rfl, (Ext.trans (Ext.trans (Ext.trans (.alloc (.refl _) _) HW1.out) HW2.out) HW3.out), by omega, by omega, by omega⟩
  refine (h6 _ _ _ (G6.out.ext (Ext.trans (Ext.trans (Ext.trans (.alloc (.refl _) _) HW1.out) HW2.out) HW3.out)) (by omega) (by omega)).mono ?_; rintro e w6 ⟨r6, rfl, hw6, ra6, rb6, rc6⟩
  have HW6 := Lib.hid hw6
  have HR6 := Lib.hid rc6
  have ob6 := OBH.out.ext hw6
  clear OBH ce3
  have OBH := Lib.hid ob6
  have ce6 := ob6.cell
  clear hw6 rc6 ob6
  go_wp2_with fail
  · go_ret
    exact ⟨-1, rfl, (Ext.trans (Ext.trans (Ext.trans (Ext.trans (.alloc (.refl _) _) HW1.out) HW2.out) HW3.out) HW6.out), by omega, by omega, by omega⟩
  refine (h7 _ _ _ (G7.out.1.ext (Ext.trans (Ext.trans (Ext.trans (Ext.trans (.alloc (.refl _) _) HW1.out) HW2.out) HW3.out) HW6.out)) (by omega) (by omega)).mono ?_; rintro e w7 ⟨r7, rfl, hw7, ra7, rb7, rc7⟩
  have HW7 := Lib.hid hw7
  have HR7 := Lib.hid rc7
  have ob7 := OBH.out.ext hw7
  clear OBH ce6
  have OBH := Lib.hid ob7
  have ce7 := ob7.cell
  clear hw7 rc7 ob7
  go_wp2_with fail
  · go_ret
    exact ⟨-1, rfl, (Ext.trans (Ext.trans (Ext.trans (Ext.trans (Ext.trans (.alloc (.refl _) _) HW1.out) HW2.out) HW3.out) HW6.out) HW7.out), by omega, by omega, by omega⟩
  go_ret
  refine ⟨_, rfl, (Ext.trans (Ext.trans (Ext.trans (Ext.trans (Ext.trans (.alloc (.refl _) _) HW1.out) HW2.out) HW3.out) HW6.out) HW7.out), by omega, by omega, fun hp => ?_⟩
  have e1 := HR1.out (by omega)
  have e2 := HR2.out (by omega)
  have e3 := HR3.out (by omega)
  have e6 := HR6.out (by omega)
  have e7 := HR7.out (by omega)
  simp only [Tr.bulkL_append, Tr.bulkL, Tr.bulk]
  simp only [Tr.bulk] at e1 e3 e7
  omega

set_option maxRecDepth 100000 in
set_option maxHeartbeats 1000000 in
theorem toInstance_of (v0 : ByteArray) (es1 : List (List Tr)) (ts2 : List Tr) (l2 : ts2.length = 3) (es3 : List (List Tr)) (v4 : Bool) (v5 : Bool) (ts6 : List Tr) (l6 : ts6.length = 3) (es7 : List (List Tr)) (h1 : ToSC 183 1 es1) (h2 : ToC 45 ts2) (h3 : ToSC 52 4 es3) (h6 : ToC 45 ts6) (h7 : ToSC 223 11 es7) : ToC 209 ([.leaf (.string v0)] ++ ([.row 1 es1] ++ (ts2 ++ ([.row 4 es3] ++ ([.leaf (.bool v4)] ++ ([.leaf (.bool v5)] ++ (ts6 ++ ([.row 11 es7] ++ ([]))))))))) := by
  intro cs w hr hbk
  simp only [Tr.bulkL_append, Tr.bulkL, Tr.bulk] at hbk
  obtain ⟨r0, rfl, K0, n0⟩ := RepL.sLeaf hr
  obtain ⟨a1, c1, r1, rfl, G1, n1⟩ := RepL.sRow n0
  obtain ⟨x2_0, x2_1, x2_2, r2, rfl, G2, n2⟩ := RepL.sAgg3 n1 l2
  obtain ⟨a3, c3, r3, rfl, G3, n3⟩ := RepL.sRow n2
  obtain ⟨r4, rfl, K4, n4⟩ := RepL.sLeaf n3
  obtain ⟨r5, rfl, K5, n5⟩ := RepL.sLeaf n4
  obtain ⟨x6_0, x6_1, x6_2, r6, rfl, G6, n6⟩ := RepL.sAgg3 n5 l6
  obtain ⟨a7, c7, r7, rfl, G7, n7⟩ := RepL.sRow n6
  obtain rfl := RepL.nil_eq n7
  clear hr n0 n1 n2 n3 n4 n5 n6 n7
  go_enter Tryz.func209, Tryz.ntmps209
  go_wp2_with fail
  refine (h1 _ _ (G1.out.1.ext (.alloc (.alloc (.alloc (.refl _) _) _) _)) (by omega)).mono ?_; rintro e w1 ⟨d1, rfl, hw1, ho1⟩
  obtain ⟨da1, dc1, rfl, -, -⟩ := ho1.rep.shape
  have HW1 := Lib.hid hw1
  have HO1 := Lib.hid ho1
  have ob1 := (Three.new w _ _ _ _ _ _).ext hw1
  have OBHw1 := Lib.hid ob1
  have cew1 := ob1.o0.cell
  have hzw1 : w.heap.size < w1.heap.size := ob1.o0.lt
  clear hw1 ob1 ho1
  have EW1 := Lib.hid (Ext.trans (.alloc (.alloc (.alloc (.refl _) _) _) _) HW1.out)
  go_wp2_with (first
    | (refine wpList_store_cell rfl 54 _ _ rfl (w.heap.size + 1 + 1) 1 rfl (.slice da1 es1.length dc1) rfl rfl 113 _ OBHw1.out.o2 isz54 (by simp [splice]) rfl ?_; intro u1 hou1 hgu1 hzu1; have OBHu1 := Lib.hid (OBHw1.out.grown hgu1 hou1 (by omega) (by omega)); have HGu1 := Lib.hid hgu1; have ceu1 := OBHu1.out.o0.cell; have hqu1 : w.heap.size < u1.heap.size := OBHu1.out.o0.lt; have EGu1 := Lib.hid (grown_ext EW1.out HGu1.out (by omega)); clear hou1 hgu1 hzu1 OBHw1 cew1))
  refine (h2 _ _ (G2.out.ext EGu1.out) (by omega)).mono ?_; rintro e w2 ⟨d2, rfl, hw2, ho2⟩
  obtain ⟨d2_0, d2_1, d2_2, rfl⟩ := list3 (ho2.1.trans l2)
  have HW2 := Lib.hid hw2
  have HO2 := Lib.hid ho2
  have ob2 := OBHu1.out.ext hw2
  clear OBHu1 ceu1
  have OBHw2 := Lib.hid ob2
  have cew2 := ob2.o0.cell
  have hzw2 : w.heap.size < w2.heap.size := ob2.o0.lt
  clear hw2 ob2 ho2
  have EW2 := Lib.hid (Ext.trans EGu1.out HW2.out)
  go_wp2_with (first
    | (refine wpList_store_rep rfl 47 _ _ rfl (w.heap.size + 1 + 1) 2 rfl [d2_0, d2_1, d2_2] rfl 113 _ OBHw2.out.o2 isz47 (by simp [splice]) HO2.out.rep.one ?_; intro u2 hou2 hgu2 hzu2; have OBHu2 := Lib.hid (OBHw2.out.grown hgu2 hou2 (by omega) (by omega)); have HGu2 := Lib.hid hgu2; have ceu2 := OBHu2.out.o0.cell; have hqu2 : w.heap.size < u2.heap.size := OBHu2.out.o0.lt; have EGu2 := Lib.hid (grown_ext EW2.out HGu2.out (by omega)); clear hou2 hgu2 hzu2 OBHw2 cew2))
  refine (h3 _ _ (G3.out.1.ext EGu2.out) (by omega)).mono ?_; rintro e w3 ⟨d3, rfl, hw3, ho3⟩
  obtain ⟨da3, dc3, rfl, -, -⟩ := ho3.rep.shape
  have HW3 := Lib.hid hw3
  have HO3 := Lib.hid ho3
  have ob3 := OBHu2.out.ext hw3
  clear OBHu2 ceu2
  have OBHw3 := Lib.hid ob3
  have cew3 := ob3.o0.cell
  have hzw3 : w.heap.size < w3.heap.size := ob3.o0.lt
  clear hw3 ob3 ho3
  have EW3 := Lib.hid (Ext.trans EGu2.out HW3.out)
  go_wp2_with (first
    | (refine wpList_store_cell rfl 82 _ _ rfl (w.heap.size + 1 + 1) 5 rfl (.slice da3 es3.length dc3) rfl rfl 113 _ OBHw3.out.o2 isz82 (by simp [splice]) rfl ?_; intro u3 hou3 hgu3 hzu3; have OBHu3 := Lib.hid (OBHw3.out.grown hgu3 hou3 (by omega) (by omega)); have HGu3 := Lib.hid hgu3; have ceu3 := OBHu3.out.o0.cell; have hqu3 : w.heap.size < u3.heap.size := OBHu3.out.o0.lt; have EGu3 := Lib.hid (grown_ext EW3.out HGu3.out (by omega)); clear hou3 hgu3 hzu3 OBHw3 cew3)
    | (refine wpList_store_cell rfl 4 _ _ rfl (w.heap.size + 1 + 1) 6 rfl (.bool v4) rfl rfl 113 _ OBHu3.out.o2 isz4 (by simp [splice]) rfl ?_; intro u4 hou4 hgu4 hzu4; have OBHu4 := Lib.hid (OBHu3.out.grown hgu4 hou4 (by omega) (by omega)); have HGu4 := Lib.hid hgu4; have ceu4 := OBHu4.out.o0.cell; have hqu4 : w.heap.size < u4.heap.size := OBHu4.out.o0.lt; have EGu4 := Lib.hid (grown_ext EGu3.out HGu4.out (by omega)); clear hou4 hgu4 hzu4 OBHu3 ceu3)
    | (refine wpList_store_cell rfl 4 _ _ rfl (w.heap.size + 1 + 1) 7 rfl (.bool v5) rfl rfl 113 _ OBHu4.out.o2 isz4 (by simp [splice]) rfl ?_; intro u5 hou5 hgu5 hzu5; have OBHu5 := Lib.hid (OBHu4.out.grown hgu5 hou5 (by omega) (by omega)); have HGu5 := Lib.hid hgu5; have ceu5 := OBHu5.out.o0.cell; have hqu5 : w.heap.size < u5.heap.size := OBHu5.out.o0.lt; have EGu5 := Lib.hid (grown_ext EGu4.out HGu5.out (by omega)); clear hou5 hgu5 hzu5 OBHu4 ceu4))
  refine (h6 _ _ (G6.out.ext EGu5.out) (by omega)).mono ?_; rintro e w6 ⟨d6, rfl, hw6, ho6⟩
  obtain ⟨d6_0, d6_1, d6_2, rfl⟩ := list3 (ho6.1.trans l6)
  have HW6 := Lib.hid hw6
  have HO6 := Lib.hid ho6
  have ob6 := OBHu5.out.ext hw6
  clear OBHu5 ceu5
  have OBHw6 := Lib.hid ob6
  have cew6 := ob6.o0.cell
  have hzw6 : w.heap.size < w6.heap.size := ob6.o0.lt
  clear hw6 ob6 ho6
  have EW6 := Lib.hid (Ext.trans EGu5.out HW6.out)
  go_wp2_with (first
    | (refine wpList_store_rep rfl 47 _ _ rfl (w.heap.size + 1 + 1) 8 rfl [d6_0, d6_1, d6_2] rfl 113 _ OBHw6.out.o2 isz47 (by simp [splice]) HO6.out.rep.one ?_; intro u6 hou6 hgu6 hzu6; have OBHu6 := Lib.hid (OBHw6.out.grown hgu6 hou6 (by omega) (by omega)); have HGu6 := Lib.hid hgu6; have ceu6 := OBHu6.out.o0.cell; have hqu6 : w.heap.size < u6.heap.size := OBHu6.out.o0.lt; have EGu6 := Lib.hid (grown_ext EW6.out HGu6.out (by omega)); clear hou6 hgu6 hzu6 OBHw6 cew6))
  refine (h7 _ _ (G7.out.1.ext EGu6.out) (by omega)).mono ?_; rintro e w7 ⟨d7, rfl, hw7, ho7⟩
  obtain ⟨da7, dc7, rfl, -, -⟩ := ho7.rep.shape
  have HW7 := Lib.hid hw7
  have HO7 := Lib.hid ho7
  have ob7 := OBHu6.out.ext hw7
  clear OBHu6 ceu6
  have OBHw7 := Lib.hid ob7
  have cew7 := ob7.o0.cell
  have hzw7 : w.heap.size < w7.heap.size := ob7.o0.lt
  clear hw7 ob7 ho7
  have EW7 := Lib.hid (Ext.trans EGu6.out HW7.out)
  have hone : Hid (∀ v ∈ ([.string v0, .slice da1 es1.length dc1, d2_0, d2_1, d2_2, .slice da3 es3.length dc3, .bool v4, .bool v5, d6_0, d6_1, d6_2, .slice da7 es7.length dc7] : List Value), v.oneCell' = true) := by
    intro v hv
    simp only [List.mem_cons, List.not_mem_nil, or_false] at hv
    rcases hv with rfl | rfl | rfl | rfl | rfl | rfl | rfl | rfl | rfl | rfl | rfl | rfl <;> first | rfl | (refine HO2.out.rep.one _ ?_; simp; done) | (refine HO6.out.rep.one _ ?_; simp; done)
  go_wp2_with (first
    | (refine wpList_store_cell rfl 111 _ _ rfl (w.heap.size + 1 + 1) 11 rfl (.slice da7 es7.length dc7) rfl rfl 113 _ OBHw7.out.o2 isz111 (by simp [splice]) rfl ?_; intro u7 hou7 hgu7 hzu7; have OBHu7 := Lib.hid (OBHw7.out.grown hgu7 hou7 (by omega) (by omega)); have HGu7 := Lib.hid hgu7; have ceu7 := OBHu7.out.o0.cell; have hqu7 : w.heap.size < u7.heap.size := OBHu7.out.o0.lt; have EGu7 := Lib.hid (grown_ext EW7.out HGu7.out (by omega)); clear hou7 hgu7 hzu7 OBHw7 cew7)
    | (refine wpList_load_rep rfl 113 _ rfl (w.heap.size + 1 + 1) 0 rfl [.string v0, .slice da1 es1.length dc1, d2_0, d2_1, d2_2, .slice da3 es3.length dc3, .bool v4, .bool v5, d6_0, d6_1, d6_2, .slice da7 es7.length dc7] _ Tryz.underlying113 isz113 (fun j v hv => by rw [OBHu7.out.o2.cell, Nat.zero_add]; simpa [splice] using hv) ?_)
    | (refine wpList_store_rep rfl 113 _ _ rfl (w.heap.size + 1) 0 rfl [.string v0, .slice da1 es1.length dc1, d2_0, d2_1, d2_2, .slice da3 es3.length dc3, .bool v4, .bool v5, d6_0, d6_1, d6_2, .slice da7 es7.length dc7] rfl 113 _ OBHu7.out.o1 isz113 (by simp) hone.out ?_; intro wz hoz hgz hzz; have HOZ := Lib.hid hoz; have HGZ := Lib.hid hgz; clear hoz hgz hzz))
  have HOF : OB wz (w.heap.size + 1) 113 ⟨[.string v0, .slice da1 es1.length dc1, d2_0, d2_1, d2_2, .slice da3 es3.length dc3, .bool v4, .bool v5, d6_0, d6_1, d6_2, .slice da7 es7.length dc7]⟩ := HOZ.out
  refine bodyPost_ret (results_cell_row Tryz.results209 _ _ (w.heap.size + 1) 113 ⟨[.string v0, .slice da1 es1.length dc1, d2_0, d2_1, d2_2, .slice da3 es3.length dc3, .bool v4, .bool v5, d6_0, d6_1, d6_2, .slice da7 es7.length dc7]⟩ _ _ rfl HOF Tryz.underlying113 rfl isz113) rfl ⟨[.string v0, .slice da1 es1.length dc1, d2_0, d2_1, d2_2, .slice da3 es3.length dc3, .bool v4, .bool v5, d6_0, d6_1, d6_2, .slice da7 es7.length dc7], rfl, (grown_ext EGu7.out HGZ.out (by omega)), ?_⟩
  have sw1 := HW1.out.size
  have su1 := HGu1.out.size
  have sw2 := HW2.out.size
  have su2 := HGu2.out.size
  have sw3 := HW3.out.size
  have su3 := HGu3.out.size
  have su4 := HGu4.out.size
  have su5 := HGu5.out.size
  have sw6 := HW6.out.size
  have su6 := HGu6.out.size
  have sw7 := HW7.out.size
  have su7 := HGu7.out.size
  have swz := HGZ.out.size
  simp only [World.size_alloc] at sw1
  have KPz : Keeps (w.heap.size + 1 + 1 + 1) u7 wz := Keeps.of_grown HGZ.out (by omega)
  have KPu7 : Keeps (w.heap.size + 1 + 1 + 1) w7 wz := Keeps.trans (Keeps.of_grown HGu7.out (by omega)) KPz
  have ow7 := HO7.out.keeps KPu7 (by intro x hx; simp only [Between, World.size_alloc] at hx; omega)
  have KPw7 : Keeps (w.heap.size + 1 + 1 + 1) u6 wz := Keeps.trans (Keeps.of_ext HW7.out) KPu7
  have KPu6 : Keeps (w.heap.size + 1 + 1 + 1) w6 wz := Keeps.trans (Keeps.of_grown HGu6.out (by omega)) KPw7
  have ow6 := HO6.out.keeps KPu6 (by intro x hx; simp only [Between, World.size_alloc] at hx; omega)
  have KPw6 : Keeps (w.heap.size + 1 + 1 + 1) u5 wz := Keeps.trans (Keeps.of_ext HW6.out) KPu6
  have KPu5 : Keeps (w.heap.size + 1 + 1 + 1) u4 wz := Keeps.trans (Keeps.of_grown HGu5.out (by omega)) KPw6
  have KPu4 : Keeps (w.heap.size + 1 + 1 + 1) u3 wz := Keeps.trans (Keeps.of_grown HGu4.out (by omega)) KPu5
  have KPu3 : Keeps (w.heap.size + 1 + 1 + 1) w3 wz := Keeps.trans (Keeps.of_grown HGu3.out (by omega)) KPu4
  have ow3 := HO3.out.keeps KPu3 (by intro x hx; simp only [Between, World.size_alloc] at hx; omega)
  have KPw3 : Keeps (w.heap.size + 1 + 1 + 1) u2 wz := Keeps.trans (Keeps.of_ext HW3.out) KPu3
  have KPu2 : Keeps (w.heap.size + 1 + 1 + 1) w2 wz := Keeps.trans (Keeps.of_grown HGu2.out (by omega)) KPw3
  have ow2 := HO2.out.keeps KPu2 (by intro x hx; simp only [Between, World.size_alloc] at hx; omega)
  have KPw2 : Keeps (w.heap.size + 1 + 1 + 1) u1 wz := Keeps.trans (Keeps.of_ext HW2.out) KPu2
  have KPu1 : Keeps (w.heap.size + 1 + 1 + 1) w1 wz := Keeps.trans (Keeps.of_grown HGu1.out (by omega)) KPw2
  have ow1 := HO1.out.keeps KPu1 (by intro x hx; simp only [Between, World.size_alloc] at hx; omega)
  have hall := OwnL.cons_leaf K0.out (OwnL.append (OwnL.one ow1) (OwnL.append (ow2) (OwnL.append (OwnL.one ow3) (OwnL.cons_leaf K4.out (OwnL.cons_leaf K5.out (OwnL.append (ow6) (OwnL.append (OwnL.one ow7) (OwnL.nil wz (fun _ => False)) (by intro x hx hy; simp only [Between, World.size_alloc, or_false] at hx hy <;> omega)) (by intro x hx hy; simp only [Between, World.size_alloc, or_false] at hx hy <;> omega)))) (by intro x hx hy; simp only [Between, World.size_alloc, or_false] at hx hy <;> omega)) (by intro x hx hy; simp only [Between, World.size_alloc, or_false] at hx hy <;> omega)) (by intro x hx hy; simp only [Between, World.size_alloc, or_false] at hx hy <;> omega))
  exact hall.mono (by intro x hx; simp only [Between, World.size_alloc, or_false] at hx ⊢; omega)

set_option maxRecDepth 100000 in
set_option maxHeartbeats 1000000 in
theorem eqInstance_of (v0 : ByteArray) (es1 : List (List Tr)) (ts2 : List Tr) (l2 : ts2.length = 3) (es3 : List (List Tr)) (v4 : Bool) (v5 : Bool) (ts6 : List Tr) (l6 : ts6.length = 3) (es7 : List (List Tr)) (h1 : EqSC 29 1 es1) (h2 : EqC 47 ts2) (h3 : EqSC 55 4 es3) (h6 : EqC 47 ts6) (h7 : EqSC 227 11 es7) : EqC 212 ([.leaf (.string v0)] ++ ([.row 1 es1] ++ (ts2 ++ ([.row 4 es3] ++ ([.leaf (.bool v4)] ++ ([.leaf (.bool v5)] ++ (ts6 ++ ([.row 11 es7] ++ ([]))))))))) := by
  intro cs ds w hr hr'
  obtain ⟨r0, rfl, K0, n0⟩ := RepL.sLeaf hr
  obtain ⟨a1, c1, r1, rfl, G1, n1⟩ := RepL.sRow n0
  obtain ⟨x2_0, x2_1, x2_2, r2, rfl, G2, n2⟩ := RepL.sAgg3 n1 l2
  obtain ⟨a3, c3, r3, rfl, G3, n3⟩ := RepL.sRow n2
  obtain ⟨r4, rfl, K4, n4⟩ := RepL.sLeaf n3
  obtain ⟨r5, rfl, K5, n5⟩ := RepL.sLeaf n4
  obtain ⟨x6_0, x6_1, x6_2, r6, rfl, G6, n6⟩ := RepL.sAgg3 n5 l6
  obtain ⟨a7, c7, r7, rfl, G7, n7⟩ := RepL.sRow n6
  obtain rfl := RepL.nil_eq n7
  clear hr n0 n1 n2 n3 n4 n5 n6 n7
  obtain ⟨zr0, rfl, zK0, zn0⟩ := RepL.sLeaf hr'
  obtain ⟨za1, zc1, zr1, rfl, zG1, zn1⟩ := RepL.sRow zn0
  obtain ⟨zx2_0, zx2_1, zx2_2, zr2, rfl, zG2, zn2⟩ := RepL.sAgg3 zn1 l2
  obtain ⟨za3, zc3, zr3, rfl, zG3, zn3⟩ := RepL.sRow zn2
  obtain ⟨zr4, rfl, zK4, zn4⟩ := RepL.sLeaf zn3
  obtain ⟨zr5, rfl, zK5, zn5⟩ := RepL.sLeaf zn4
  obtain ⟨zx6_0, zx6_1, zx6_2, zr6, rfl, zG6, zn6⟩ := RepL.sAgg3 zn5 l6
  obtain ⟨za7, zc7, zr7, rfl, zG7, zn7⟩ := RepL.sRow zn6
  obtain rfl := RepL.nil_eq zn7
  clear hr' zn0 zn1 zn2 zn3 zn4 zn5 zn6 zn7
  go_enter Tryz.func212, Tryz.ntmps212
  go_wp2_with fail
  refine (h1 _ _ _ (G1.out.1.ext (.alloc (.alloc (.refl _) _) _)) (zG1.out.1.ext (.alloc (.alloc (.refl _) _) _))).mono ?_; rintro e w1 ⟨rfl, hw1⟩
  have HW1 := Lib.hid hw1
  have ob1 := (Two.new w _ _ _ _).ext hw1
  have OBH := Lib.hid ob1
  have ce1 := ob1.o0.cell
  have cf1 := ob1.o1.cell
  clear hw1 ob1
  go_wp2_with fail
  refine (h2 _ _ _ (G2.out.ext (Ext.trans (.alloc (.alloc (.refl _) _) _) HW1.out)) (zG2.out.ext (Ext.trans (.alloc (.alloc (.refl _) _) _) HW1.out))).mono ?_; rintro e w2 ⟨rfl, hw2⟩
  have HW2 := Lib.hid hw2
  have ob2 := OBH.out.ext hw2
  clear OBH ce1 cf1
  have OBH := Lib.hid ob2
  have ce2 := ob2.o0.cell
  have cf2 := ob2.o1.cell
  clear hw2 ob2
  go_wp2_with fail
  refine (h3 _ _ _ (G3.out.1.ext (Ext.trans (Ext.trans (.alloc (.alloc (.refl _) _) _) HW1.out) HW2.out)) (zG3.out.1.ext (Ext.trans (Ext.trans (.alloc (.alloc (.refl _) _) _) HW1.out) HW2.out))).mono ?_; rintro e w3 ⟨rfl, hw3⟩
  have HW3 := Lib.hid hw3
  have ob3 := OBH.out.ext hw3
  clear OBH ce2 cf2
  have OBH := Lib.hid ob3
  have ce3 := ob3.o0.cell
  have cf3 := ob3.o1.cell
  clear hw3 ob3
  go_wp2_with fail
  refine (h6 _ _ _ (G6.out.ext (Ext.trans (Ext.trans (Ext.trans (.alloc (.alloc (.refl _) _) _) HW1.out) HW2.out) HW3.out)) (zG6.out.ext (Ext.trans (Ext.trans (Ext.trans (.alloc (.alloc (.refl _) _) _) HW1.out) HW2.out) HW3.out))).mono ?_; rintro e w6 ⟨rfl, hw6⟩
  have HW6 := Lib.hid hw6
  have ob6 := OBH.out.ext hw6
  clear OBH ce3 cf3
  have OBH := Lib.hid ob6
  have ce6 := ob6.o0.cell
  have cf6 := ob6.o1.cell
  clear hw6 ob6
  go_wp2_with fail
  refine (h7 _ _ _ (G7.out.1.ext (Ext.trans (Ext.trans (Ext.trans (Ext.trans (.alloc (.alloc (.refl _) _) _) HW1.out) HW2.out) HW3.out) HW6.out)) (zG7.out.1.ext (Ext.trans (Ext.trans (Ext.trans (Ext.trans (.alloc (.alloc (.refl _) _) _) HW1.out) HW2.out) HW3.out) HW6.out))).mono ?_; rintro e w7 ⟨rfl, hw7⟩
  have HW7 := Lib.hid hw7
  have ob7 := OBH.out.ext hw7
  clear OBH ce6 cf6
  have OBH := Lib.hid ob7
  have ce7 := ob7.o0.cell
  have cf7 := ob7.o1.cell
  clear hw7 ob7
  go_wp2_with fail
  go_ret
  exact ⟨rfl, (Ext.trans (Ext.trans (Ext.trans (Ext.trans (Ext.trans (.alloc (.alloc (.refl _) _) _) HW1.out) HW2.out) HW3.out) HW6.out) HW7.out)⟩

set_option maxRecDepth 100000 in
set_option maxHeartbeats 1000000 in
theorem szInstanceS_of (es : List (List Tr)) (h5 : ∀ e ∈ es, e.length = 12) (H : ∀ e ∈ es, SzC 205 e) : SzSC 181 12 es := by
  intro s left w hs h0 h1
  obtain ⟨a, cap, rfl, hl, hm⟩ := hs.shape
  unfold maxLen at hm
  have HS := Lib.hid hs
  have HH := Lib.hid H
  have H5 := Lib.hid h5
  clear hs H h5
  go_enter Tryz.func181, Tryz.ntmps181
  go_wp2_with fail
  · go_ret
    exact ⟨-1, rfl, .refl _, by omega, by omega, by omega⟩
  go_loopw [1, 5] (fun l i wr => ∃ (k : Nat) (r : Int), k ≤ es.length ∧ i = .int .i64 k ∧ l = .int .i64 r ∧ Ext w wr ∧ 0 ≤ r ∧ r + es.length + Tr.bulkAll (es.take k) ≤ left) (fun _ i _ => es.length - (intOf i).toNat)
  case atStart => exact ⟨0, _, Nat.zero_le _, rfl, rfl, .refl _, by omega, by simp [Tr.bulkAll]⟩
  case round =>
    obtain ⟨k, r, hk, rfl, rfl, hw, hr0, hrb⟩ := hrel
    by_cases hlt : k < es.length
    · obtain ⟨b, off, cs, rfl, hb, hcs, hc⟩ := (HS.out.ext hw).at2 (k := k) (List.getElem?_eq_getElem hlt)
      have hmem : es[k] ∈ es := List.getElem_mem hlt
      have l5 := H5.out _ hmem
      have hbt := Lib.hid (Tr.bulkAll_take es k hlt)
      have HCS := Lib.hid hcs
      have HC := Lib.hid hc
      have HM := Lib.hid hmem
      have HI : Hid ((Tryz.prog.info? 242).map (·.size) = some cs.length) := by rw [← hcs.length, l5]; exact isz242
      clear hcs hc hmem l5
      go_wp2_with (refine wpList_load_rep rfl 242 _ rfl b (off + k * 12) rfl cs _ Tryz.underlying242 HI.out HC.out ?_)
      refine (HH.out _ HM.out _ _ _ HCS.out hr0 (by omega)).mono ?_; rintro e w1 ⟨r1, rfl, hw1, hr1, hr2, hr3⟩
      have HR3 := Lib.hid hr3
      have HW1 := Lib.hid hw1
      clear hr3 hw1
      go_wp2_with fail
      · go_ret
        exact ⟨-1, rfl, hw.trans HW1.out, by omega, by omega, by omega⟩
      · go_roundw
        case rel =>
          have p0 : 0 ≤ r1 := by assumption
          have e1 := HR3.out p0
          have e2 := hbt.out
          exact ⟨k + 1, r1, by omega, by go_num, rfl, hw.trans HW1.out, p0, by omega⟩
        case measure => simp [intOf]; omega
    · have hkl : k = es.length := by omega
      go_wp2_with fail
      go_ret
      refine ⟨r, rfl, hw, by omega, by omega, fun _ => ?_⟩
      rw [hkl, List.take_length] at hrb
      simp only [Tr.bulk]
      omega

set_option maxRecDepth 100000 in
set_option maxHeartbeats 1000000 in
theorem toInstanceS_of (es : List (List Tr)) (h5 : ∀ e ∈ es, e.length = 12) (H : ∀ e ∈ es, ToC 209 e) : ToSC 186 12 es := by
  intro s w hs hbk
  obtain ⟨a, cap, rfl, hl, hm⟩ := hs.shape
  unfold maxLen at hm
  have HS := Lib.hid hs
  have HH := Lib.hid H
  have H5 := Lib.hid h5
  have n0 : (0 : Int) ≤ es.length := by omega
  clear hs H h5
  go_enter Tryz.func186, Tryz.ntmps186
  go_wp2_with (refine wpList_make_rep rfl 123 (.tmp 6) rfl es.length rfl 113 Tryz.underlying123 12 192 iszb113 (by omega) (by omega) ?_; intro wm arr0 ha0 hob0 hx0 hz0; have HA0 := Lib.hid ha0; have HOB0 := Lib.hid hob0; have HX0 := Lib.hid hx0; have HZ0 := Lib.hid hz0; clear ha0 hob0 hx0 hz0)
  go_loopw [4] (fun i wr => ∃ (k : Nat) (arr : Array Value), k ≤ es.length ∧ i = .int .i64 k ∧ Ext w wr ∧ w.heap.size < wr.heap.size ∧ OB wr w.heap.size 113 arr ∧ arr.size = es.length * 12 ∧ Part wr w.heap.size arr 12 es k) (fun i _ => es.length - (intOf i).toNat)
  case atStart => exact ⟨0, arr0, Nat.zero_le _, rfl, HX0.out, by rw [HZ0.out]; omega, HOB0.out, HA0.out, Part.zero _ _ _ _ _⟩
  case round =>
    obtain ⟨k, arr, hk, rfl, hw, hgt, hob, hasz, hpart⟩ := hrel
    have HOB := Lib.hid hob
    have HAS := Lib.hid hasz
    have HP := Lib.hid hpart
    clear hob hasz hpart
    by_cases hlt : k < es.length
    · obtain ⟨b, off, cs, rfl, hb, hcs, hc⟩ := (HS.out.ext hw).at2 (k := k) (List.getElem?_eq_getElem hlt)
      have hmem : es[k] ∈ es := List.getElem_mem hlt
      have l5 := H5.out _ hmem
      have hbe := Tr.bulkAll_le hlt
      have HCS := Lib.hid hcs
      have HC := Lib.hid hc
      have HM := Lib.hid hmem
      have HL5 := Lib.hid l5
      have HI : Hid ((Tryz.prog.info? 242).map (·.size) = some cs.length) := by rw [← hcs.length, l5]; exact isz242
      clear hcs hc hmem l5
      go_wp2_with (refine wpList_load_rep rfl 242 (.tmp 18) rfl b (off + k * 12) rfl cs _ Tryz.underlying242 HI.out HC.out ?_)
      refine (HH.out _ HM.out _ _ HCS.out (by omega)).mono ?_; rintro e w1 ⟨cs1, rfl, hw1, ho1⟩
      have HW1 := Lib.hid hw1
      have HO1 := Lib.hid ho1
      have hcl : cs1.length = 12 := ho1.1.trans HL5.out
      have HCL := Lib.hid hcl
      have hfit : 0 + k * 12 + cs1.length ≤ arr.size := by have := HAS.out; omega
      have HF := Lib.hid hfit
      clear hw1 ho1 hcl hfit
      go_wp2_with (refine wpList_store_rep rfl 113 (.tmp 21) (.tmp 20) rfl w.heap.size (k * 12) rfl cs1 rfl 113 arr (HOB.out.ext HW1.out) (by rw [HCL.out]; exact isz113) (by have := HF.out; omega) (HO1.out.rep.one) ?_; intro w2 hob2 hg2 hz2; have HOB2 := Lib.hid hob2; have HG2 := Lib.hid hg2; have HZ2 := Lib.hid hz2; clear hob2 hg2 hz2)
      go_roundw
      case rel =>
        have hfit : k * 12 + cs1.length ≤ arr.size := by have := HF.out; omega
        refine ⟨k + 1, _, by omega, by go_num, ?_, ?_, HOB2.out, by rw [splice_size hfit]; exact HAS.out, HP.out.step hgt HW1.out (List.getElem?_eq_getElem hlt) HO1.out HCL.out HAS.out HG2.out HOB2.out⟩
        · exact grown_ext (hw.trans HW1.out) HG2.out (Nat.le_refl _)
        · have := HW1.out.size
          have := HZ2.out
          omega
      case measure => simp [intOf]; omega
    · have hkl : k = es.length := by omega
      go_wp2_with fail
      go_ret
      subst hkl
      exact ⟨_, rfl, hw, (HP.out.done HOB.out H5.out (Nat.le_refl _) (by unfold maxLen; omega) (Nat.le_refl _)).mono fun x hx => ⟨hx.1, hx.2⟩⟩

set_option maxRecDepth 100000 in
set_option maxHeartbeats 1000000 in
theorem eqInstanceS_of (es : List (List Tr)) (h5 : ∀ e ∈ es, e.length = 12) (H : ∀ e ∈ es, EqC 212 e) : EqSC 190 12 es := by
  intro s u w hs hu
  obtain ⟨a, cap, rfl, hl, hm⟩ := hs.shape
  obtain ⟨a', cap', rfl, hl', hm'⟩ := hu.shape
  unfold maxLen at hm hm'
  have HS := Lib.hid hs
  have HU := Lib.hid hu
  have HH := Lib.hid H
  have H5 := Lib.hid h5
  clear hs hu H h5
  go_enter Tryz.func190, Tryz.ntmps190
  go_wp2_with fail
  go_loopw [5] (fun i wr => ∃ k : Nat, k ≤ es.length ∧ i = .int .i64 k ∧ Ext w wr) (fun i _ => es.length - (intOf i).toNat)
  case atStart => exact ⟨0, Nat.zero_le _, rfl, .refl _⟩
  case round =>
    obtain ⟨k, hk, rfl, hw⟩ := hrel
    by_cases hlt : k < es.length
    · obtain ⟨b, off, cs, rfl, hb, hcs, hc⟩ := (HS.out.ext hw).at2 (k := k) (List.getElem?_eq_getElem hlt)
      obtain ⟨b', off', ds, rfl, hb', hds, hd⟩ := (HU.out.ext hw).at2 (k := k) (List.getElem?_eq_getElem hlt)
      have hmem : es[k] ∈ es := List.getElem_mem hlt
      have l5 := H5.out _ hmem
      have HCS := Lib.hid hcs
      have HDS := Lib.hid hds
      have HM := Lib.hid hmem
      have HC := Lib.hid hc
      have HD := Lib.hid hd
      have HI : Hid ((Tryz.prog.info? 113).map (·.size) = some cs.length) := by rw [← hcs.length, l5]; exact isz113
      have HJ : Hid ((Tryz.prog.info? 113).map (·.size) = some ds.length) := by rw [← hds.length, l5]; exact isz113
      clear hcs hds hc hd l5 hmem
      go_wp2_with fail
      have ki : (k : Int) < (es.length : Int) := by omega
      have k0 : (0 : Int) ≤ (k : Int) := by omega
      refine wp_region_still_tail 8 (by kernel_rfl) (by kernel_rfl) ?_
      simp only [List.take_succ_cons, List.take_zero, List.drop_succ_cons, List.drop_zero]
      change wpStill _ _ wr.drew _ _ _
      repeat (first
        | (refine wpStill_load_rep rfl 113 (.tmp 19) rfl b (off + k * 12) rfl cs _ Tryz.underlying113 HI.out HC.out ?_; simp only [Act.put])
        | (refine wpStill_load_rep rfl 113 (.tmp 23) rfl b' (off' + k * 12) rfl ds _ Tryz.underlying113 HJ.out HD.out ?_; simp only [Act.put])
        | still_step)
      refine wpStill_nil ?_
      change wpList _ _ _ _ _ wr.drew
      go_wp2_with fail
      refine (HH.out _ HM.out _ _ _ (HCS.out.ext (.drew (.refl _))) (HDS.out.ext (.drew (.refl _)))).mono ?_; rintro e w1 ⟨rfl, hw1⟩
      have HW1 := Lib.hid hw1
      clear hw1
      go_wp2_with fail
      go_roundw
      case rel => exact ⟨k + 1, by omega, by go_num, hw.trans (.trans (.drew (.refl _)) HW1.out)⟩
      case measure => simp [intOf]; omega
    · go_wp2_with fail
      go_ret
      exact ⟨rfl, hw⟩

end Go.Proofs.YtnakkelglbcecaaGreat

namespace Go.Proofs.YtnakkelglbcecaaGreat
open Go.RowKit Go.Proofs

set_option maxRecDepth 100000 in
set_option maxHeartbeats 1000000 in
theorem szParam_of (v0 : ByteArray) (ts1 : List Tr) (l1 : ts1.length = 3) (h1 : SzC 43 ts1) : SzC 233 ([.leaf (.string v0)] ++ (ts1 ++ ([]))) := by
  intro cs left w hr hl0 hl1
  obtain ⟨r0, rfl, K0, n0⟩ := RepL.sLeaf hr
  obtain ⟨x1_0, x1_1, x1_2, r1, rfl, G1, n1⟩ := RepL.sAgg3 n0 l1
  obtain rfl := RepL.nil_eq n1
  clear hr n0 n1
  have q0 : v0.size ≤ 9223372036854775807 := by have := K0.out; simp only [LeafOk, maxLen] at this; omega
  go_enter Tryz.func233, Tryz.ntmps233
  go_wp2_with fail
  · go_ret
    exact ⟨-1, rfl, (.alloc (.refl _) _), by omega, by omega, by omega⟩
  refine (h1 _ _ _ (G1.out.ext (.alloc (.refl _) _)) (by omega) (by omega)).mono ?_; rintro e w1 ⟨r1, rfl, hw1, ra1, rb1, rc1⟩
  have HW1 := Lib.hid hw1
  have HR1 := Lib.hid rc1
  have ob1 := (OB.new w _ _).ext hw1
  have OBH := Lib.hid ob1
  have ce1 := ob1.cell
  clear hw1 rc1 ob1
  go_wp2_with fail
  · go_ret
    exact ⟨-1, rfl, (Ext.trans (.alloc (.refl _) _) HW1.out), by omega, by omega, by omega⟩
  go_ret
  refine ⟨_, rfl, (Ext.trans (.alloc (.refl _) _) HW1.out), by omega, by omega, fun hp => ?_⟩
  have e1 := HR1.out (by omega)
  simp only [Tr.bulkL_append, Tr.bulkL, Tr.bulk]
  omega

set_option maxRecDepth 100000 in
set_option maxHeartbeats 1000000 in
theorem toParam_of (v0 : ByteArray) (ts1 : List Tr) (l1 : ts1.length = 3) (h1 : ToC 45 ts1) : ToC 239 ([.leaf (.string v0)] ++ (ts1 ++ ([]))) := by
  intro cs w hr hbk
  simp only [Tr.bulkL_append, Tr.bulkL, Tr.bulk] at hbk
  obtain ⟨r0, rfl, K0, n0⟩ := RepL.sLeaf hr
  obtain ⟨x1_0, x1_1, x1_2, r1, rfl, G1, n1⟩ := RepL.sAgg3 n0 l1
  obtain rfl := RepL.nil_eq n1
  clear hr n0 n1
  go_enter Tryz.func239, Tryz.ntmps239
  go_wp2_with fail
  refine (h1 _ _ (G1.out.ext (.alloc (.alloc (.alloc (.refl _) _) _) _)) (by omega)).mono ?_; rintro e w1 ⟨d1, rfl, hw1, ho1⟩
  obtain ⟨d1_0, d1_1, d1_2, rfl⟩ := list3 (ho1.1.trans l1)
  have HW1 := Lib.hid hw1
  have HO1 := Lib.hid ho1
  have ob1 := (Three.new w _ _ _ _ _ _).ext hw1
  have OBHw1 := Lib.hid ob1
  have cew1 := ob1.o0.cell
  have hzw1 : w.heap.size < w1.heap.size := ob1.o0.lt
  clear hw1 ob1 ho1
  have EW1 := Lib.hid (Ext.trans (.alloc (.alloc (.alloc (.refl _) _) _) _) HW1.out)
  have hone : Hid (∀ v ∈ ([.string v0, d1_0, d1_1, d1_2] : List Value), v.oneCell' = true) := by
    intro v hv
    simp only [List.mem_cons, List.not_mem_nil, or_false] at hv
    rcases hv with rfl | rfl | rfl | rfl <;> first | rfl | (refine HO1.out.rep.one _ ?_; simp; done)
  go_wp2_with (first
    | (refine wpList_store_rep rfl 47 _ _ rfl (w.heap.size + 1 + 1) 1 rfl [d1_0, d1_1, d1_2] rfl 199 _ OBHw1.out.o2 isz47 (by simp [splice]) HO1.out.rep.one ?_; intro u1 hou1 hgu1 hzu1; have OBHu1 := Lib.hid (OBHw1.out.grown hgu1 hou1 (by omega) (by omega)); have HGu1 := Lib.hid hgu1; have ceu1 := OBHu1.out.o0.cell; have hqu1 : w.heap.size < u1.heap.size := OBHu1.out.o0.lt; have EGu1 := Lib.hid (grown_ext EW1.out HGu1.out (by omega)); clear hou1 hgu1 hzu1 OBHw1 cew1)
    | (refine wpList_load_rep rfl 199 _ rfl (w.heap.size + 1 + 1) 0 rfl [.string v0, d1_0, d1_1, d1_2] _ Tryz.underlying199 isz199 (fun j v hv => by rw [OBHu1.out.o2.cell, Nat.zero_add]; simpa [splice] using hv) ?_)
    | (refine wpList_store_rep rfl 199 _ _ rfl (w.heap.size + 1) 0 rfl [.string v0, d1_0, d1_1, d1_2] rfl 199 _ OBHu1.out.o1 isz199 (by simp) hone.out ?_; intro wz hoz hgz hzz; have HOZ := Lib.hid hoz; have HGZ := Lib.hid hgz; clear hoz hgz hzz))
  have HOF : OB wz (w.heap.size + 1) 199 ⟨[.string v0, d1_0, d1_1, d1_2]⟩ := HOZ.out
  refine bodyPost_ret (results_cell_row Tryz.results239 _ _ (w.heap.size + 1) 199 ⟨[.string v0, d1_0, d1_1, d1_2]⟩ _ _ rfl HOF Tryz.underlying199 rfl isz199) rfl ⟨[.string v0, d1_0, d1_1, d1_2], rfl, (grown_ext EGu1.out HGZ.out (by omega)), ?_⟩
  have sw1 := HW1.out.size
  have su1 := HGu1.out.size
  have swz := HGZ.out.size
  simp only [World.size_alloc] at sw1
  have KPz : Keeps (w.heap.size + 1 + 1 + 1) u1 wz := Keeps.of_grown HGZ.out (by omega)
  have KPu1 : Keeps (w.heap.size + 1 + 1 + 1) w1 wz := Keeps.trans (Keeps.of_grown HGu1.out (by omega)) KPz
  have ow1 := HO1.out.keeps KPu1 (by intro x hx; simp only [Between, World.size_alloc] at hx; omega)
  have hall := OwnL.cons_leaf K0.out (OwnL.append (ow1) (OwnL.nil wz (fun _ => False)) (by intro x hx hy; simp only [Between, World.size_alloc, or_false] at hx hy <;> omega))
  exact hall.mono (by intro x hx; simp only [Between, World.size_alloc, or_false] at hx ⊢; omega)

set_option maxRecDepth 100000 in
set_option maxHeartbeats 1000000 in
theorem eqParam_of (v0 : ByteArray) (ts1 : List Tr) (l1 : ts1.length = 3) (h1 : EqC 47 ts1) : EqC 175 ([.leaf (.string v0)] ++ (ts1 ++ ([]))) := by
  intro cs ds w hr hr'
  obtain ⟨r0, rfl, K0, n0⟩ := RepL.sLeaf hr
  obtain ⟨x1_0, x1_1, x1_2, r1, rfl, G1, n1⟩ := RepL.sAgg3 n0 l1
  obtain rfl := RepL.nil_eq n1
  clear hr n0 n1
  obtain ⟨zr0, rfl, zK0, zn0⟩ := RepL.sLeaf hr'
  obtain ⟨zx1_0, zx1_1, zx1_2, zr1, rfl, zG1, zn1⟩ := RepL.sAgg3 zn0 l1
  obtain rfl := RepL.nil_eq zn1
  clear hr' zn0 zn1
  go_enter Tryz.func175, Tryz.ntmps175
  go_wp2_with fail
  refine (h1 _ _ _ (G1.out.ext (.alloc (.alloc (.refl _) _) _)) (zG1.out.ext (.alloc (.alloc (.refl _) _) _))).mono ?_; rintro e w1 ⟨rfl, hw1⟩
  have HW1 := Lib.hid hw1
  have ob1 := (Two.new w _ _ _ _).ext hw1
  have OBH := Lib.hid ob1
  have ce1 := ob1.o0.cell
  have cf1 := ob1.o1.cell
  clear hw1 ob1
  go_wp2_with fail
  go_ret
  exact ⟨rfl, (Ext.trans (.alloc (.alloc (.refl _) _) _) HW1.out)⟩

set_option maxRecDepth 100000 in
set_option maxHeartbeats 1000000 in
theorem szParamS_of (es : List (List Tr)) (h5 : ∀ e ∈ es, e.length = 4) (H : ∀ e ∈ es, SzC 233 e) : SzSC 219 4 es := by
  intro s left w hs h0 h1
  obtain ⟨a, cap, rfl, hl, hm⟩ := hs.shape
  unfold maxLen at hm
  have HS := Lib.hid hs
  have HH := Lib.hid H
  have H5 := Lib.hid h5
  clear hs H h5
  go_enter Tryz.func219, Tryz.ntmps219
  go_wp2_with fail
  · go_ret
    exact ⟨-1, rfl, .refl _, by omega, by omega, by omega⟩
  go_loopw [1, 5] (fun l i wr => ∃ (k : Nat) (r : Int), k ≤ es.length ∧ i = .int .i64 k ∧ l = .int .i64 r ∧ Ext w wr ∧ 0 ≤ r ∧ r + es.length + Tr.bulkAll (es.take k) ≤ left) (fun _ i _ => es.length - (intOf i).toNat)
  case atStart => exact ⟨0, _, Nat.zero_le _, rfl, rfl, .refl _, by omega, by simp [Tr.bulkAll]⟩
  case round =>
    obtain ⟨k, r, hk, rfl, rfl, hw, hr0, hrb⟩ := hrel
    by_cases hlt : k < es.length
    · obtain ⟨b, off, cs, rfl, hb, hcs, hc⟩ := (HS.out.ext hw).at2 (k := k) (List.getElem?_eq_getElem hlt)
      have hmem : es[k] ∈ es := List.getElem_mem hlt
      have l5 := H5.out _ hmem
      have hbt := Lib.hid (Tr.bulkAll_take es k hlt)
      have HCS := Lib.hid hcs
      have HC := Lib.hid hc
      have HM := Lib.hid hmem
      have HI : Hid ((Tryz.prog.info? 286).map (·.size) = some cs.length) := by rw [← hcs.length, l5]; exact isz286
      clear hcs hc hmem l5
      go_wp2_with (refine wpList_load_rep rfl 286 _ rfl b (off + k * 4) rfl cs _ Tryz.underlying286 HI.out HC.out ?_)
      refine (HH.out _ HM.out _ _ _ HCS.out hr0 (by omega)).mono ?_; rintro e w1 ⟨r1, rfl, hw1, hr1, hr2, hr3⟩
      have HR3 := Lib.hid hr3
      have HW1 := Lib.hid hw1
      clear hr3 hw1
      go_wp2_with fail
      · go_ret
        exact ⟨-1, rfl, hw.trans HW1.out, by omega, by omega, by omega⟩
      · go_roundw
        case rel =>
          have p0 : 0 ≤ r1 := by assumption
          have e1 := HR3.out p0
          have e2 := hbt.out
          exact ⟨k + 1, r1, by omega, by go_num, rfl, hw.trans HW1.out, p0, by omega⟩
        case measure => simp [intOf]; omega
    · have hkl : k = es.length := by omega
      go_wp2_with fail
      go_ret
      refine ⟨r, rfl, hw, by omega, by omega, fun _ => ?_⟩
      rw [hkl, List.take_length] at hrb
      simp only [Tr.bulk]
      omega

set_option maxRecDepth 100000 in
set_option maxHeartbeats 1000000 in
theorem toParamS_of (es : List (List Tr)) (h5 : ∀ e ∈ es, e.length = 4) (H : ∀ e ∈ es, ToC 239 e) : ToSC 224 4 es := by
  intro s w hs hbk
  obtain ⟨a, cap, rfl, hl, hm⟩ := hs.shape
  unfold maxLen at hm
  have HS := Lib.hid hs
  have HH := Lib.hid H
  have H5 := Lib.hid h5
  have n0 : (0 : Int) ≤ es.length := by omega
  clear hs H h5
  go_enter Tryz.func224, Tryz.ntmps224
  go_wp2_with (refine wpList_make_rep rfl 99 (.tmp 6) rfl es.length rfl 199 Tryz.underlying99 4 64 iszb199 (by omega) (by omega) ?_; intro wm arr0 ha0 hob0 hx0 hz0; have HA0 := Lib.hid ha0; have HOB0 := Lib.hid hob0; have HX0 := Lib.hid hx0; have HZ0 := Lib.hid hz0; clear ha0 hob0 hx0 hz0)
  go_loopw [4] (fun i wr => ∃ (k : Nat) (arr : Array Value), k ≤ es.length ∧ i = .int .i64 k ∧ Ext w wr ∧ w.heap.size < wr.heap.size ∧ OB wr w.heap.size 199 arr ∧ arr.size = es.length * 4 ∧ Part wr w.heap.size arr 4 es k) (fun i _ => es.length - (intOf i).toNat)
  case atStart => exact ⟨0, arr0, Nat.zero_le _, rfl, HX0.out, by rw [HZ0.out]; omega, HOB0.out, HA0.out, Part.zero _ _ _ _ _⟩
  case round =>
    obtain ⟨k, arr, hk, rfl, hw, hgt, hob, hasz, hpart⟩ := hrel
    have HOB := Lib.hid hob
    have HAS := Lib.hid hasz
    have HP := Lib.hid hpart
    clear hob hasz hpart
    by_cases hlt : k < es.length
    · obtain ⟨b, off, cs, rfl, hb, hcs, hc⟩ := (HS.out.ext hw).at2 (k := k) (List.getElem?_eq_getElem hlt)
      have hmem : es[k] ∈ es := List.getElem_mem hlt
      have l5 := H5.out _ hmem
      have hbe := Tr.bulkAll_le hlt
      have HCS := Lib.hid hcs
      have HC := Lib.hid hc
      have HM := Lib.hid hmem
      have HL5 := Lib.hid l5
      have HI : Hid ((Tryz.prog.info? 286).map (·.size) = some cs.length) := by rw [← hcs.length, l5]; exact isz286
      clear hcs hc hmem l5
      go_wp2_with (refine wpList_load_rep rfl 286 (.tmp 18) rfl b (off + k * 4) rfl cs _ Tryz.underlying286 HI.out HC.out ?_)
      refine (HH.out _ HM.out _ _ HCS.out (by omega)).mono ?_; rintro e w1 ⟨cs1, rfl, hw1, ho1⟩
      have HW1 := Lib.hid hw1
      have HO1 := Lib.hid ho1
      have hcl : cs1.length = 4 := ho1.1.trans HL5.out
      have HCL := Lib.hid hcl
      have hfit : 0 + k * 4 + cs1.length ≤ arr.size := by have := HAS.out; omega
      have HF := Lib.hid hfit
      clear hw1 ho1 hcl hfit
      go_wp2_with (refine wpList_store_rep rfl 199 (.tmp 21) (.tmp 20) rfl w.heap.size (k * 4) rfl cs1 rfl 199 arr (HOB.out.ext HW1.out) (by rw [HCL.out]; exact isz199) (by have := HF.out; omega) (HO1.out.rep.one) ?_; intro w2 hob2 hg2 hz2; have HOB2 := Lib.hid hob2; have HG2 := Lib.hid hg2; have HZ2 := Lib.hid hz2; clear hob2 hg2 hz2)
      go_roundw
      case rel =>
        have hfit : k * 4 + cs1.length ≤ arr.size := by have := HF.out; omega
        refine ⟨k + 1, _, by omega, by go_num, ?_, ?_, HOB2.out, by rw [splice_size hfit]; exact HAS.out, HP.out.step hgt HW1.out (List.getElem?_eq_getElem hlt) HO1.out HCL.out HAS.out HG2.out HOB2.out⟩
        · exact grown_ext (hw.trans HW1.out) HG2.out (Nat.le_refl _)
        · have := HW1.out.size
          have := HZ2.out
          omega
      case measure => simp [intOf]; omega
    · have hkl : k = es.length := by omega
      go_wp2_with fail
      go_ret
      subst hkl
      exact ⟨_, rfl, hw, (HP.out.done HOB.out H5.out (Nat.le_refl _) (by unfold maxLen; omega) (Nat.le_refl _)).mono fun x hx => ⟨hx.1, hx.2⟩⟩

set_option maxRecDepth 100000 in
set_option maxHeartbeats 1000000 in
theorem eqParamS_of (es : List (List Tr)) (h5 : ∀ e ∈ es, e.length = 4) (H : ∀ e ∈ es, EqC 175 e) : EqSC 129 4 es := by
  intro s u w hs hu
  obtain ⟨a, cap, rfl, hl, hm⟩ := hs.shape
  obtain ⟨a', cap', rfl, hl', hm'⟩ := hu.shape
  unfold maxLen at hm hm'
  have HS := Lib.hid hs
  have HU := Lib.hid hu
  have HH := Lib.hid H
  have H5 := Lib.hid h5
  clear hs hu H h5
  go_enter Tryz.func129, Tryz.ntmps129
  go_wp2_with fail
  go_loopw [5] (fun i wr => ∃ k : Nat, k ≤ es.length ∧ i = .int .i64 k ∧ Ext w wr) (fun i _ => es.length - (intOf i).toNat)
  case atStart => exact ⟨0, Nat.zero_le _, rfl, .refl _⟩
  case round =>
    obtain ⟨k, hk, rfl, hw⟩ := hrel
    by_cases hlt : k < es.length
    · obtain ⟨b, off, cs, rfl, hb, hcs, hc⟩ := (HS.out.ext hw).at2 (k := k) (List.getElem?_eq_getElem hlt)
      obtain ⟨b', off', ds, rfl, hb', hds, hd⟩ := (HU.out.ext hw).at2 (k := k) (List.getElem?_eq_getElem hlt)
      have hmem : es[k] ∈ es := List.getElem_mem hlt
      have l5 := H5.out _ hmem
      have HCS := Lib.hid hcs
      have HDS := Lib.hid hds
      have HM := Lib.hid hmem
      have HC := Lib.hid hc
      have HD := Lib.hid hd
      have HI : Hid ((Tryz.prog.info? 199).map (·.size) = some cs.length) := by rw [← hcs.length, l5]; exact isz199
      have HJ : Hid ((Tryz.prog.info? 199).map (·.size) = some ds.length) := by rw [← hds.length, l5]; exact isz199
      clear hcs hds hc hd l5 hmem
      go_wp2_with fail
      have ki : (k : Int) < (es.length : Int) := by omega
      have k0 : (0 : Int) ≤ (k : Int) := by omega
      refine wp_region_still_tail 8 (by kernel_rfl) (by kernel_rfl) ?_
      simp only [List.take_succ_cons, List.take_zero, List.drop_succ_cons, List.drop_zero]
      change wpStill _ _ wr.drew _ _ _
      repeat (first
        | (refine wpStill_load_rep rfl 199 (.tmp 19) rfl b (off + k * 4) rfl cs _ Tryz.underlying199 HI.out HC.out ?_; simp only [Act.put])
        | (refine wpStill_load_rep rfl 199 (.tmp 23) rfl b' (off' + k * 4) rfl ds _ Tryz.underlying199 HJ.out HD.out ?_; simp only [Act.put])
        | still_step)
      refine wpStill_nil ?_
      change wpList _ _ _ _ _ wr.drew
      go_wp2_with fail
      refine (HH.out _ HM.out _ _ _ (HCS.out.ext (.drew (.refl _))) (HDS.out.ext (.drew (.refl _)))).mono ?_; rintro e w1 ⟨rfl, hw1⟩
      have HW1 := Lib.hid hw1
      clear hw1
      go_wp2_with fail
      go_roundw
      case rel => exact ⟨k + 1, by omega, by go_num, hw.trans (.trans (.drew (.refl _)) HW1.out)⟩
      case measure => simp [intOf]; omega
    · go_wp2_with fail
      go_ret
      exact ⟨rfl, hw⟩

end Go.Proofs.YtnakkelglbcecaaGreat

namespace Go.Proofs.YtnakkelglbcecaaGreat
open Go.RowKit Go.Proofs

set_option maxRecDepth 100000 in
set_option maxHeartbeats 1000000 in
theorem szFunction_of (v0 : ByteArray) (es1 : List (List Tr)) (es2 : List (List Tr)) (es3 : List (List Tr)) (ts4 : List Tr) (l4 : ts4.length = 3) (ts5 : List Tr) (l5 : ts5.length = 9) (h1 : SzSC 178 1 es1) (h2 : SzSC 50 4 es2) (h3 : SzSC 219 4 es3) (h4 : SzC 43 ts4) (h5 : SzC 220 ts5) : SzC 206 ([.leaf (.string v0)] ++ ([.row 1 es1] ++ ([.row 4 es2] ++ ([.row 4 es3] ++ (ts4 ++ (ts5 ++ ([]))))))) := by
  intro cs left w hr hl0 hl1
  obtain ⟨r0, rfl, K0, n0⟩ := RepL.sLeaf hr
  obtain ⟨a1, c1, r1, rfl, G1, n1⟩ := RepL.sRow n0
  obtain ⟨a2, c2, r2, rfl, G2, n2⟩ := RepL.sRow n1
  obtain ⟨a3, c3, r3, rfl, G3, n3⟩ := RepL.sRow n2
  obtain ⟨x4_0, x4_1, x4_2, r4, rfl, G4, n4⟩ := RepL.sAgg3 n3 l4
  obtain ⟨x5_0, x5_1, x5_2, x5_3, x5_4, x5_5, x5_6, x5_7, x5_8, r5, rfl, G5, n5⟩ := RepL.sAgg9 n4 l5
  obtain rfl := RepL.nil_eq n5
  clear hr n0 n1 n2 n3 n4 n5
  have q0 : v0.size ≤ 9223372036854775807 := by have := K0.out; simp only [LeafOk, maxLen] at this; omega
  go_enter Tryz.func206, Tryz.ntmps206
  go_wp2_with fail
  · go_ret
    exact ⟨-1, rfl, (.alloc (.refl _) _), by omega, by omega, by omega⟩
  refine (h1 _ _ _ (G1.out.1.ext (.alloc (.refl _) _)) (by omega) (by omega)).mono ?_; rintro e w1 ⟨r1, rfl, hw1, ra1, rb1, rc1⟩
  have HW1 := Lib.hid hw1
  have HR1 := Lib.hid rc1
  have ob1 := (OB.new w _ _).ext hw1
  have OBH := Lib.hid ob1
  have ce1 := ob1.cell
  clear hw1 rc1 ob1
  go_wp2_with fail
  · go_ret
    exact ⟨-1, rfl, (Ext.trans (.alloc (.refl _) _) HW1.out), by omega, by omega, by omega⟩
  refine (h2 _ _ _ (G2.out.1.ext (Ext.trans (.alloc (.refl _) _) HW1.out)) (by omega) (by omega)).mono ?_; rintro e w2 ⟨r2, rfl, hw2, ra2, rb2, rc2⟩
  have HW2 := Lib.hid hw2
  have HR2 := Lib.hid rc2
  have ob2 := OBH.out.ext hw2
  clear OBH ce1
  have OBH := Lib.hid ob2
  have ce2 := ob2.cell
  clear hw2 rc2 ob2
  go_wp2_with fail
  · go_ret
    exact ⟨-1, rfl, (Ext.trans (Ext.trans (.alloc (.refl _) _) HW1.out) HW2.out), by omega, by omega, by omega⟩
  refine (h3 _ _ _ (G3.out.1.ext (Ext.trans (Ext.trans (.alloc (.refl _) _) HW1.out) HW2.out)) (by omega) (by omega)).mono ?_; rintro e w3 ⟨r3, rfl, hw3, ra3, rb3, rc3⟩
  have HW3 := Lib.hid hw3
  have HR3 := Lib.hid rc3
  have ob3 := OBH.out.ext hw3
  clear OBH ce2
  have OBH := Lib.hid ob3
  have ce3 := ob3.cell
  clear hw3 rc3 ob3
  go_wp2_with fail
  · go_ret
    exact ⟨-1, rfl, (Ext.trans (Ext.trans (Ext.trans (.alloc (.refl _) _) HW1.out) HW2.out) HW3.out), by omega, by omega, by omega⟩
  refine (h4 _ _ _ (G4.out.ext (Ext.trans (Ext.trans (Ext.trans (.alloc (.refl _) _) HW1.out) HW2.out) HW3.out)) (by omega) (by omega)).mono ?_; rintro e w4 ⟨r4, rfl, hw4, ra4, rb4, rc4⟩
  have HW4 := Lib.hid hw4
  have HR4 := Lib.hid rc4
  have ob4 := OBH.out.ext hw4
  clear OBH ce3
  have OBH := Lib.hid ob4
  have ce4 := ob4.cell
  clear hw4 rc4 ob4
  go_wp2_with fail
  · go_ret
    exact ⟨-1, rfl, (Ext.trans (Ext.trans (Ext.trans (Ext.trans (.alloc (.refl _) _) HW1.out) HW2.out) HW3.out) HW4.out), by omega, by omega, by omega⟩
  refine (h5 _ _ _ (G5.out.ext (Ext.trans (Ext.trans (Ext.trans (Ext.trans (.alloc (.refl _) _) HW1.out) HW2.out) HW3.out) HW4.out)) (by omega) (by omega)).mono ?_; rintro e w5 ⟨r5, rfl, hw5, ra5, rb5, rc5⟩
  have HW5 := Lib.hid hw5
  have HR5 := Lib.hid rc5
  have ob5 := OBH.out.ext hw5
  clear OBH ce4
  have OBH := Lib.hid ob5
  have ce5 := ob5.cell
  clear hw5 rc5 ob5
  go_wp2_with fail
  · go_ret
    exact ⟨-1, rfl, (Ext.trans (Ext.trans (Ext.trans (Ext.trans (Ext.trans (.alloc (.refl _) _) HW1.out) HW2.out) HW3.out) HW4.out) HW5.out), by omega, by omega, by omega⟩
  go_ret
  refine ⟨_, rfl, (Ext.trans (Ext.trans (Ext.trans (Ext.trans (Ext.trans (.alloc (.refl _) _) HW1.out) HW2.out) HW3.out) HW4.out) HW5.out), by omega, by omega, fun hp => ?_⟩
  have e1 := HR1.out (by omega)
  have e2 := HR2.out (by omega)
  have e3 := HR3.out (by omega)
  have e4 := HR4.out (by omega)
  have e5 := HR5.out (by omega)
  simp only [Tr.bulkL_append, Tr.bulkL, Tr.bulk]
  simp only [Tr.bulk] at e1 e2 e3
  omega

set_option maxRecDepth 100000 in
set_option maxHeartbeats 1000000 in
theorem toFunction_of (v0 : ByteArray) (es1 : List (List Tr)) (es2 : List (List Tr)) (es3 : List (List Tr)) (ts4 : List Tr) (l4 : ts4.length = 3) (ts5 : List Tr) (l5 : ts5.length = 9) (h1 : ToSC 183 1 es1) (h2 : ToSC 52 4 es2) (h3 : ToSC 224 4 es3) (h4 : ToC 45 ts4) (h5 : ToC 225 ts5) : ToC 210 ([.leaf (.string v0)] ++ ([.row 1 es1] ++ ([.row 4 es2] ++ ([.row 4 es3] ++ (ts4 ++ (ts5 ++ ([]))))))) := by
  intro cs w hr hbk
  simp only [Tr.bulkL_append, Tr.bulkL, Tr.bulk] at hbk
  obtain ⟨r0, rfl, K0, n0⟩ := RepL.sLeaf hr
  obtain ⟨a1, c1, r1, rfl, G1, n1⟩ := RepL.sRow n0
  obtain ⟨a2, c2, r2, rfl, G2, n2⟩ := RepL.sRow n1
  obtain ⟨a3, c3, r3, rfl, G3, n3⟩ := RepL.sRow n2
  obtain ⟨x4_0, x4_1, x4_2, r4, rfl, G4, n4⟩ := RepL.sAgg3 n3 l4
  obtain ⟨x5_0, x5_1, x5_2, x5_3, x5_4, x5_5, x5_6, x5_7, x5_8, r5, rfl, G5, n5⟩ := RepL.sAgg9 n4 l5
  obtain rfl := RepL.nil_eq n5
  clear hr n0 n1 n2 n3 n4 n5
  go_enter Tryz.func210, Tryz.ntmps210
  go_wp2_with fail
  refine (h1 _ _ (G1.out.1.ext (.alloc (.alloc (.alloc (.refl _) _) _) _)) (by omega)).mono ?_; rintro e w1 ⟨d1, rfl, hw1, ho1⟩
  obtain ⟨da1, dc1, rfl, -, -⟩ := ho1.rep.shape
  have HW1 := Lib.hid hw1
  have HO1 := Lib.hid ho1
  have ob1 := (Three.new w _ _ _ _ _ _).ext hw1
  have OBHw1 := Lib.hid ob1
  have cew1 := ob1.o0.cell
  have hzw1 : w.heap.size < w1.heap.size := ob1.o0.lt
  clear hw1 ob1 ho1
  have EW1 := Lib.hid (Ext.trans (.alloc (.alloc (.alloc (.refl _) _) _) _) HW1.out)
  go_wp2_with (first
    | (refine wpList_store_cell rfl 54 _ _ rfl (w.heap.size + 1 + 1) 1 rfl (.slice da1 es1.length dc1) rfl rfl 105 _ OBHw1.out.o2 isz54 (by simp [splice]) rfl ?_; intro u1 hou1 hgu1 hzu1; have OBHu1 := Lib.hid (OBHw1.out.grown hgu1 hou1 (by omega) (by omega)); have HGu1 := Lib.hid hgu1; have ceu1 := OBHu1.out.o0.cell; have hqu1 : w.heap.size < u1.heap.size := OBHu1.out.o0.lt; have EGu1 := Lib.hid (grown_ext EW1.out HGu1.out (by omega)); clear hou1 hgu1 hzu1 OBHw1 cew1))
  refine (h2 _ _ (G2.out.1.ext EGu1.out) (by omega)).mono ?_; rintro e w2 ⟨d2, rfl, hw2, ho2⟩
  obtain ⟨da2, dc2, rfl, -, -⟩ := ho2.rep.shape
  have HW2 := Lib.hid hw2
  have HO2 := Lib.hid ho2
  have ob2 := OBHu1.out.ext hw2
  clear OBHu1 ceu1
  have OBHw2 := Lib.hid ob2
  have cew2 := ob2.o0.cell
  have hzw2 : w.heap.size < w2.heap.size := ob2.o0.lt
  clear hw2 ob2 ho2
  have EW2 := Lib.hid (Ext.trans EGu1.out HW2.out)
  go_wp2_with (first
    | (refine wpList_store_cell rfl 82 _ _ rfl (w.heap.size + 1 + 1) 2 rfl (.slice da2 es2.length dc2) rfl rfl 105 _ OBHw2.out.o2 isz82 (by simp [splice]) rfl ?_; intro u2 hou2 hgu2 hzu2; have OBHu2 := Lib.hid (OBHw2.out.grown hgu2 hou2 (by omega) (by omega)); have HGu2 := Lib.hid hgu2; have ceu2 := OBHu2.out.o0.cell; have hqu2 : w.heap.size < u2.heap.size := OBHu2.out.o0.lt; have EGu2 := Lib.hid (grown_ext EW2.out HGu2.out (by omega)); clear hou2 hgu2 hzu2 OBHw2 cew2))
  refine (h3 _ _ (G3.out.1.ext EGu2.out) (by omega)).mono ?_; rintro e w3 ⟨d3, rfl, hw3, ho3⟩
  obtain ⟨da3, dc3, rfl, -, -⟩ := ho3.rep.shape
  have HW3 := Lib.hid hw3
  have HO3 := Lib.hid ho3
  have ob3 := OBHu2.out.ext hw3
  clear OBHu2 ceu2
  have OBHw3 := Lib.hid ob3
  have cew3 := ob3.o0.cell
  have hzw3 : w.heap.size < w3.heap.size := ob3.o0.lt
  clear hw3 ob3 ho3
  have EW3 := Lib.hid (Ext.trans EGu2.out HW3.out)
  go_wp2_with (first
    | (refine wpList_store_cell rfl 99 _ _ rfl (w.heap.size + 1 + 1) 3 rfl (.slice da3 es3.length dc3) rfl rfl 105 _ OBHw3.out.o2 isz99 (by simp [splice]) rfl ?_; intro u3 hou3 hgu3 hzu3; have OBHu3 := Lib.hid (OBHw3.out.grown hgu3 hou3 (by omega) (by omega)); have HGu3 := Lib.hid hgu3; have ceu3 := OBHu3.out.o0.cell; have hqu3 : w.heap.size < u3.heap.size := OBHu3.out.o0.lt; have EGu3 := Lib.hid (grown_ext EW3.out HGu3.out (by omega)); clear hou3 hgu3 hzu3 OBHw3 cew3))
  refine (h4 _ _ (G4.out.ext EGu3.out) (by omega)).mono ?_; rintro e w4 ⟨d4, rfl, hw4, ho4⟩
  obtain ⟨d4_0, d4_1, d4_2, rfl⟩ := list3 (ho4.1.trans l4)
  have HW4 := Lib.hid hw4
  have HO4 := Lib.hid ho4
  have ob4 := OBHu3.out.ext hw4
  clear OBHu3 ceu3
  have OBHw4 := Lib.hid ob4
  have cew4 := ob4.o0.cell
  have hzw4 : w.heap.size < w4.heap.size := ob4.o0.lt
  clear hw4 ob4 ho4
  have EW4 := Lib.hid (Ext.trans EGu3.out HW4.out)
  go_wp2_with (first
    | (refine wpList_store_rep rfl 47 _ _ rfl (w.heap.size + 1 + 1) 4 rfl [d4_0, d4_1, d4_2] rfl 105 _ OBHw4.out.o2 isz47 (by simp [splice]) HO4.out.rep.one ?_; intro u4 hou4 hgu4 hzu4; have OBHu4 := Lib.hid (OBHw4.out.grown hgu4 hou4 (by omega) (by omega)); have HGu4 := Lib.hid hgu4; have ceu4 := OBHu4.out.o0.cell; have hqu4 : w.heap.size < u4.heap.size := OBHu4.out.o0.lt; have EGu4 := Lib.hid (grown_ext EW4.out HGu4.out (by omega)); clear hou4 hgu4 hzu4 OBHw4 cew4))
  refine (h5 _ _ (G5.out.ext EGu4.out) (by omega)).mono ?_; rintro e w5 ⟨d5, rfl, hw5, ho5⟩
  obtain ⟨d5_0, d5_1, d5_2, d5_3, d5_4, d5_5, d5_6, d5_7, d5_8, rfl⟩ := list9 (ho5.1.trans l5)
  have HW5 := Lib.hid hw5
  have HO5 := Lib.hid ho5
  have ob5 := OBHu4.out.ext hw5
  clear OBHu4 ceu4
  have OBHw5 := Lib.hid ob5
  have cew5 := ob5.o0.cell
  have hzw5 : w.heap.size < w5.heap.size := ob5.o0.lt
  clear hw5 ob5 ho5
  have EW5 := Lib.hid (Ext.trans EGu4.out HW5.out)
  have hone : Hid (∀ v ∈ ([.string v0, .slice da1 es1.length dc1, .slice da2 es2.length dc2, .slice da3 es3.length dc3, d4_0, d4_1, d4_2, d5_0, d5_1, d5_2, d5_3, d5_4, d5_5, d5_6, d5_7, d5_8] : List Value), v.oneCell' = true) := by
    intro v hv
    simp only [List.mem_cons, List.not_mem_nil, or_false] at hv
    rcases hv with rfl | rfl | rfl | rfl | rfl | rfl | rfl | rfl | rfl | rfl | rfl | rfl | rfl | rfl | rfl | rfl <;> first | rfl | (refine HO4.out.rep.one _ ?_; simp; done) | (refine HO5.out.rep.one _ ?_; simp; done)
  go_wp2_with (first
    | (refine wpList_store_rep rfl 103 _ _ rfl (w.heap.size + 1 + 1) 7 rfl [d5_0, d5_1, d5_2, d5_3, d5_4, d5_5, d5_6, d5_7, d5_8] rfl 105 _ OBHw5.out.o2 isz103 (by simp [splice]) HO5.out.rep.one ?_; intro u5 hou5 hgu5 hzu5; have OBHu5 := Lib.hid (OBHw5.out.grown hgu5 hou5 (by omega) (by omega)); have HGu5 := Lib.hid hgu5; have ceu5 := OBHu5.out.o0.cell; have hqu5 : w.heap.size < u5.heap.size := OBHu5.out.o0.lt; have EGu5 := Lib.hid (grown_ext EW5.out HGu5.out (by omega)); clear hou5 hgu5 hzu5 OBHw5 cew5)
    | (refine wpList_load_rep rfl 105 _ rfl (w.heap.size + 1 + 1) 0 rfl [.string v0, .slice da1 es1.length dc1, .slice da2 es2.length dc2, .slice da3 es3.length dc3, d4_0, d4_1, d4_2, d5_0, d5_1, d5_2, d5_3, d5_4, d5_5, d5_6, d5_7, d5_8] _ Tryz.underlying105 isz105 (fun j v hv => by rw [OBHu5.out.o2.cell, Nat.zero_add]; simpa [splice] using hv) ?_)
    | (refine wpList_store_rep rfl 105 _ _ rfl (w.heap.size + 1) 0 rfl [.string v0, .slice da1 es1.length dc1, .slice da2 es2.length dc2, .slice da3 es3.length dc3, d4_0, d4_1, d4_2, d5_0, d5_1, d5_2, d5_3, d5_4, d5_5, d5_6, d5_7, d5_8] rfl 105 _ OBHu5.out.o1 isz105 (by simp) hone.out ?_; intro wz hoz hgz hzz; have HOZ := Lib.hid hoz; have HGZ := Lib.hid hgz; clear hoz hgz hzz))
  have HOF : OB wz (w.heap.size + 1) 105 ⟨[.string v0, .slice da1 es1.length dc1, .slice da2 es2.length dc2, .slice da3 es3.length dc3, d4_0, d4_1, d4_2, d5_0, d5_1, d5_2, d5_3, d5_4, d5_5, d5_6, d5_7, d5_8]⟩ := HOZ.out
  refine bodyPost_ret (results_cell_row Tryz.results210 _ _ (w.heap.size + 1) 105 ⟨[.string v0, .slice da1 es1.length dc1, .slice da2 es2.length dc2, .slice da3 es3.length dc3, d4_0, d4_1, d4_2, d5_0, d5_1, d5_2, d5_3, d5_4, d5_5, d5_6, d5_7, d5_8]⟩ _ _ rfl HOF Tryz.underlying105 rfl isz105) rfl ⟨[.string v0, .slice da1 es1.length dc1, .slice da2 es2.length dc2, .slice da3 es3.length dc3, d4_0, d4_1, d4_2, d5_0, d5_1, d5_2, d5_3, d5_4, d5_5, d5_6, d5_7, d5_8], rfl, (grown_ext EGu5.out HGZ.out (by omega)), ?_⟩
  have sw1 := HW1.out.size
  have su1 := HGu1.out.size
  have sw2 := HW2.out.size
  have su2 := HGu2.out.size
  have sw3 := HW3.out.size
  have su3 := HGu3.out.size
  have sw4 := HW4.out.size
  have su4 := HGu4.out.size
  have sw5 := HW5.out.size
  have su5 := HGu5.out.size
  have swz := HGZ.out.size
  simp only [World.size_alloc] at sw1
  have KPz : Keeps (w.heap.size + 1 + 1 + 1) u5 wz := Keeps.of_grown HGZ.out (by omega)
  have KPu5 : Keeps (w.heap.size + 1 + 1 + 1) w5 wz := Keeps.trans (Keeps.of_grown HGu5.out (by omega)) KPz
  have ow5 := HO5.out.keeps KPu5 (by intro x hx; simp only [Between, World.size_alloc] at hx; omega)
  have KPw5 : Keeps (w.heap.size + 1 + 1 + 1) u4 wz := Keeps.trans (Keeps.of_ext HW5.out) KPu5
  have KPu4 : Keeps (w.heap.size + 1 + 1 + 1) w4 wz := Keeps.trans (Keeps.of_grown HGu4.out (by omega)) KPw5
  have ow4 := HO4.out.keeps KPu4 (by intro x hx; simp only [Between, World.size_alloc] at hx; omega)
  have KPw4 : Keeps (w.heap.size + 1 + 1 + 1) u3 wz := Keeps.trans (Keeps.of_ext HW4.out) KPu4
  have KPu3 : Keeps (w.heap.size + 1 + 1 + 1) w3 wz := Keeps.trans (Keeps.of_grown HGu3.out (by omega)) KPw4
  have ow3 := HO3.out.keeps KPu3 (by intro x hx; simp only [Between, World.size_alloc] at hx; omega)
  have KPw3 : Keeps (w.heap.size + 1 + 1 + 1) u2 wz := Keeps.trans (Keeps.of_ext HW3.out) KPu3
  have KPu2 : Keeps (w.heap.size + 1 + 1 + 1) w2 wz := Keeps.trans (Keeps.of_grown HGu2.out (by omega)) KPw3
  have ow2 := HO2.out.keeps KPu2 (by intro x hx; simp only [Between, World.size_alloc] at hx; omega)
  have KPw2 : Keeps (w.heap.size + 1 + 1 + 1) u1 wz := Keeps.trans (Keeps.of_ext HW2.out) KPu2
  have KPu1 : Keeps (w.heap.size + 1 + 1 + 1) w1 wz := Keeps.trans (Keeps.of_grown HGu1.out (by omega)) KPw2
  have ow1 := HO1.out.keeps KPu1 (by intro x hx; simp only [Between, World.size_alloc] at hx; omega)
  have hall := OwnL.cons_leaf K0.out (OwnL.append (OwnL.one ow1) (OwnL.append (OwnL.one ow2) (OwnL.append (OwnL.one ow3) (OwnL.append (ow4) (OwnL.append (ow5) (OwnL.nil wz (fun _ => False)) (by intro x hx hy; simp only [Between, World.size_alloc, or_false] at hx hy <;> omega)) (by intro x hx hy; simp only [Between, World.size_alloc, or_false] at hx hy <;> omega)) (by intro x hx hy; simp only [Between, World.size_alloc, or_false] at hx hy <;> omega)) (by intro x hx hy; simp only [Between, World.size_alloc, or_false] at hx hy <;> omega)) (by intro x hx hy; simp only [Between, World.size_alloc, or_false] at hx hy <;> omega))
  exact hall.mono (by intro x hx; simp only [Between, World.size_alloc, or_false] at hx ⊢; omega)

set_option maxRecDepth 100000 in
set_option maxHeartbeats 1000000 in
theorem eqFunction_of (v0 : ByteArray) (es1 : List (List Tr)) (es2 : List (List Tr)) (es3 : List (List Tr)) (ts4 : List Tr) (l4 : ts4.length = 3) (ts5 : List Tr) (l5 : ts5.length = 9) (h1 : EqSC 29 1 es1) (h2 : EqSC 55 4 es2) (h3 : EqSC 129 4 es3) (h4 : EqC 47 ts4) (h5 : EqC 130 ts5) : EqC 73 ([.leaf (.string v0)] ++ ([.row 1 es1] ++ ([.row 4 es2] ++ ([.row 4 es3] ++ (ts4 ++ (ts5 ++ ([]))))))) := by
  intro cs ds w hr hr'
  obtain ⟨r0, rfl, K0, n0⟩ := RepL.sLeaf hr
  obtain ⟨a1, c1, r1, rfl, G1, n1⟩ := RepL.sRow n0
  obtain ⟨a2, c2, r2, rfl, G2, n2⟩ := RepL.sRow n1
  obtain ⟨a3, c3, r3, rfl, G3, n3⟩ := RepL.sRow n2
  obtain ⟨x4_0, x4_1, x4_2, r4, rfl, G4, n4⟩ := RepL.sAgg3 n3 l4
  obtain ⟨x5_0, x5_1, x5_2, x5_3, x5_4, x5_5, x5_6, x5_7, x5_8, r5, rfl, G5, n5⟩ := RepL.sAgg9 n4 l5
  obtain rfl := RepL.nil_eq n5
  clear hr n0 n1 n2 n3 n4 n5
  obtain ⟨zr0, rfl, zK0, zn0⟩ := RepL.sLeaf hr'
  obtain ⟨za1, zc1, zr1, rfl, zG1, zn1⟩ := RepL.sRow zn0
  obtain ⟨za2, zc2, zr2, rfl, zG2, zn2⟩ := RepL.sRow zn1
  obtain ⟨za3, zc3, zr3, rfl, zG3, zn3⟩ := RepL.sRow zn2
  obtain ⟨zx4_0, zx4_1, zx4_2, zr4, rfl, zG4, zn4⟩ := RepL.sAgg3 zn3 l4
  obtain ⟨zx5_0, zx5_1, zx5_2, zx5_3, zx5_4, zx5_5, zx5_6, zx5_7, zx5_8, zr5, rfl, zG5, zn5⟩ := RepL.sAgg9 zn4 l5
  obtain rfl := RepL.nil_eq zn5
  clear hr' zn0 zn1 zn2 zn3 zn4 zn5
  go_enter Tryz.func73, Tryz.ntmps73
  go_wp2_with fail
  refine (h1 _ _ _ (G1.out.1.ext (.alloc (.alloc (.refl _) _) _)) (zG1.out.1.ext (.alloc (.alloc (.refl _) _) _))).mono ?_; rintro e w1 ⟨rfl, hw1⟩
  have HW1 := Lib.hid hw1
  have ob1 := (Two.new w _ _ _ _).ext hw1
  have OBH := Lib.hid ob1
  have ce1 := ob1.o0.cell
  have cf1 := ob1.o1.cell
  clear hw1 ob1
  go_wp2_with fail
  refine (h2 _ _ _ (G2.out.1.ext (Ext.trans (.alloc (.alloc (.refl _) _) _) HW1.out)) (zG2.out.1.ext (Ext.trans (.alloc (.alloc (.refl _) _) _) HW1.out))).mono ?_; rintro e w2 ⟨rfl, hw2⟩
  have HW2 := Lib.hid hw2
  have ob2 := OBH.out.ext hw2
  clear OBH ce1 cf1
  have OBH := Lib.hid ob2
  have ce2 := ob2.o0.cell
  have cf2 := ob2.o1.cell
  clear hw2 ob2
  go_wp2_with fail
  refine (h3 _ _ _ (G3.out.1.ext (Ext.trans (Ext.trans (.alloc (.alloc (.refl _) _) _) HW1.out) HW2.out)) (zG3.out.1.ext (Ext.trans (Ext.trans (.alloc (.alloc (.refl _) _) _) HW1.out) HW2.out))).mono ?_; rintro e w3 ⟨rfl, hw3⟩
  have HW3 := Lib.hid hw3
  have ob3 := OBH.out.ext hw3
  clear OBH ce2 cf2
  have OBH := Lib.hid ob3
  have ce3 := ob3.o0.cell
  have cf3 := ob3.o1.cell
  clear hw3 ob3
  go_wp2_with fail
  refine (h4 _ _ _ (G4.out.ext (Ext.trans (Ext.trans (Ext.trans (.alloc (.alloc (.refl _) _) _) HW1.out) HW2.out) HW3.out)) (zG4.out.ext (Ext.trans (Ext.trans (Ext.trans (.alloc (.alloc (.refl _) _) _) HW1.out) HW2.out) HW3.out))).mono ?_; rintro e w4 ⟨rfl, hw4⟩
  have HW4 := Lib.hid hw4
  have ob4 := OBH.out.ext hw4
  clear OBH ce3 cf3
  have OBH := Lib.hid ob4
  have ce4 := ob4.o0.cell
  have cf4 := ob4.o1.cell
  clear hw4 ob4
  go_wp2_with fail
  refine (h5 _ _ _ (G5.out.ext (Ext.trans (Ext.trans (Ext.trans (Ext.trans (.alloc (.alloc (.refl _) _) _) HW1.out) HW2.out) HW3.out) HW4.out)) (zG5.out.ext (Ext.trans (Ext.trans (Ext.trans (Ext.trans (.alloc (.alloc (.refl _) _) _) HW1.out) HW2.out) HW3.out) HW4.out))).mono ?_; rintro e w5 ⟨rfl, hw5⟩
  have HW5 := Lib.hid hw5
  have ob5 := OBH.out.ext hw5
  clear OBH ce4 cf4
  have OBH := Lib.hid ob5
  have ce5 := ob5.o0.cell
  have cf5 := ob5.o1.cell
  clear hw5 ob5
  go_wp2_with fail
  go_ret
  exact ⟨rfl, (Ext.trans (Ext.trans (Ext.trans (Ext.trans (Ext.trans (.alloc (.alloc (.refl _) _) _) HW1.out) HW2.out) HW3.out) HW4.out) HW5.out)⟩

set_option maxRecDepth 100000 in
set_option maxHeartbeats 1000000 in
theorem szFunctionS_of (es : List (List Tr)) (h5 : ∀ e ∈ es, e.length = 16) (H : ∀ e ∈ es, SzC 206 e) : SzSC 182 16 es := by
  intro s left w hs h0 h1
  obtain ⟨a, cap, rfl, hl, hm⟩ := hs.shape
  unfold maxLen at hm
  have HS := Lib.hid hs
  have HH := Lib.hid H
  have H5 := Lib.hid h5
  clear hs H h5
  go_enter Tryz.func182, Tryz.ntmps182
  go_wp2_with fail
  · go_ret
    exact ⟨-1, rfl, .refl _, by omega, by omega, by omega⟩
  go_loopw [1, 5] (fun l i wr => ∃ (k : Nat) (r : Int), k ≤ es.length ∧ i = .int .i64 k ∧ l = .int .i64 r ∧ Ext w wr ∧ 0 ≤ r ∧ r + es.length + Tr.bulkAll (es.take k) ≤ left) (fun _ i _ => es.length - (intOf i).toNat)
  case atStart => exact ⟨0, _, Nat.zero_le _, rfl, rfl, .refl _, by omega, by simp [Tr.bulkAll]⟩
  case round =>
    obtain ⟨k, r, hk, rfl, rfl, hw, hr0, hrb⟩ := hrel
    by_cases hlt : k < es.length
    · obtain ⟨b, off, cs, rfl, hb, hcs, hc⟩ := (HS.out.ext hw).at2 (k := k) (List.getElem?_eq_getElem hlt)
      have hmem : es[k] ∈ es := List.getElem_mem hlt
      have l5 := H5.out _ hmem
      have hbt := Lib.hid (Tr.bulkAll_take es k hlt)
      have HCS := Lib.hid hcs
      have HC := Lib.hid hc
      have HM := Lib.hid hmem
      have HI : Hid ((Tryz.prog.info? 250).map (·.size) = some cs.length) := by rw [← hcs.length, l5]; exact isz250
      clear hcs hc hmem l5
      go_wp2_with (refine wpList_load_rep rfl 250 _ rfl b (off + k * 16) rfl cs _ Tryz.underlying250 HI.out HC.out ?_)
      refine (HH.out _ HM.out _ _ _ HCS.out hr0 (by omega)).mono ?_; rintro e w1 ⟨r1, rfl, hw1, hr1, hr2, hr3⟩
      have HR3 := Lib.hid hr3
      have HW1 := Lib.hid hw1
      clear hr3 hw1
      go_wp2_with fail
      · go_ret
        exact ⟨-1, rfl, hw.trans HW1.out, by omega, by omega, by omega⟩
      · go_roundw
        case rel =>
          have p0 : 0 ≤ r1 := by assumption
          have e1 := HR3.out p0
          have e2 := hbt.out
          exact ⟨k + 1, r1, by omega, by go_num, rfl, hw.trans HW1.out, p0, by omega⟩
        case measure => simp [intOf]; omega
    · have hkl : k = es.length := by omega
      go_wp2_with fail
      go_ret
      refine ⟨r, rfl, hw, by omega, by omega, fun _ => ?_⟩
      rw [hkl, List.take_length] at hrb
      simp only [Tr.bulk]
      omega

set_option maxRecDepth 100000 in
set_option maxHeartbeats 1000000 in
theorem toFunctionS_of (es : List (List Tr)) (h5 : ∀ e ∈ es, e.length = 16) (H : ∀ e ∈ es, ToC 210 e) : ToSC 187 16 es := by
  intro s w hs hbk
  obtain ⟨a, cap, rfl, hl, hm⟩ := hs.shape
  unfold maxLen at hm
  have HS := Lib.hid hs
  have HH := Lib.hid H
  have H5 := Lib.hid h5
  have n0 : (0 : Int) ≤ es.length := by omega
  clear hs H h5
  go_enter Tryz.func187, Tryz.ntmps187
  go_wp2_with (refine wpList_make_rep rfl 124 (.tmp 6) rfl es.length rfl 105 Tryz.underlying124 16 280 iszb105 (by omega) (by omega) ?_; intro wm arr0 ha0 hob0 hx0 hz0; have HA0 := Lib.hid ha0; have HOB0 := Lib.hid hob0; have HX0 := Lib.hid hx0; have HZ0 := Lib.hid hz0; clear ha0 hob0 hx0 hz0)
  go_loopw [4] (fun i wr => ∃ (k : Nat) (arr : Array Value), k ≤ es.length ∧ i = .int .i64 k ∧ Ext w wr ∧ w.heap.size < wr.heap.size ∧ OB wr w.heap.size 105 arr ∧ arr.size = es.length * 16 ∧ Part wr w.heap.size arr 16 es k) (fun i _ => es.length - (intOf i).toNat)
  case atStart => exact ⟨0, arr0, Nat.zero_le _, rfl, HX0.out, by rw [HZ0.out]; omega, HOB0.out, HA0.out, Part.zero _ _ _ _ _⟩
  case round =>
    obtain ⟨k, arr, hk, rfl, hw, hgt, hob, hasz, hpart⟩ := hrel
    have HOB := Lib.hid hob
    have HAS := Lib.hid hasz
    have HP := Lib.hid hpart
    clear hob hasz hpart
    by_cases hlt : k < es.length
    · obtain ⟨b, off, cs, rfl, hb, hcs, hc⟩ := (HS.out.ext hw).at2 (k := k) (List.getElem?_eq_getElem hlt)
      have hmem : es[k] ∈ es := List.getElem_mem hlt
      have l5 := H5.out _ hmem
      have hbe := Tr.bulkAll_le hlt
      have HCS := Lib.hid hcs
      have HC := Lib.hid hc
      have HM := Lib.hid hmem
      have HL5 := Lib.hid l5
      have HI : Hid ((Tryz.prog.info? 250).map (·.size) = some cs.length) := by rw [← hcs.length, l5]; exact isz250
      clear hcs hc hmem l5
      go_wp2_with (refine wpList_load_rep rfl 250 (.tmp 18) rfl b (off + k * 16) rfl cs _ Tryz.underlying250 HI.out HC.out ?_)
      refine (HH.out _ HM.out _ _ HCS.out (by omega)).mono ?_; rintro e w1 ⟨cs1, rfl, hw1, ho1⟩
      have HW1 := Lib.hid hw1
      have HO1 := Lib.hid ho1
      have hcl : cs1.length = 16 := ho1.1.trans HL5.out
      have HCL := Lib.hid hcl
      have hfit : 0 + k * 16 + cs1.length ≤ arr.size := by have := HAS.out; omega
      have HF := Lib.hid hfit
      clear hw1 ho1 hcl hfit
      go_wp2_with (refine wpList_store_rep rfl 105 (.tmp 21) (.tmp 20) rfl w.heap.size (k * 16) rfl cs1 rfl 105 arr (HOB.out.ext HW1.out) (by rw [HCL.out]; exact isz105) (by have := HF.out; omega) (HO1.out.rep.one) ?_; intro w2 hob2 hg2 hz2; have HOB2 := Lib.hid hob2; have HG2 := Lib.hid hg2; have HZ2 := Lib.hid hz2; clear hob2 hg2 hz2)
      go_roundw
      case rel =>
        have hfit : k * 16 + cs1.length ≤ arr.size := by have := HF.out; omega
        refine ⟨k + 1, _, by omega, by go_num, ?_, ?_, HOB2.out, by rw [splice_size hfit]; exact HAS.out, HP.out.step hgt HW1.out (List.getElem?_eq_getElem hlt) HO1.out HCL.out HAS.out HG2.out HOB2.out⟩
        · exact grown_ext (hw.trans HW1.out) HG2.out (Nat.le_refl _)
        · have := HW1.out.size
          have := HZ2.out
          omega
      case measure => simp [intOf]; omega
    · have hkl : k = es.length := by omega
      go_wp2_with fail
      go_ret
      subst hkl
      exact ⟨_, rfl, hw, (HP.out.done HOB.out H5.out (Nat.le_refl _) (by unfold maxLen; omega) (Nat.le_refl _)).mono fun x hx => ⟨hx.1, hx.2⟩⟩

set_option maxRecDepth 100000 in
set_option maxHeartbeats 1000000 in
theorem eqFunctionS_of (es : List (List Tr)) (h5 : ∀ e ∈ es, e.length = 16) (H : ∀ e ∈ es, EqC 73 e) : EqSC 191 16 es := by
  intro s u w hs hu
  obtain ⟨a, cap, rfl, hl, hm⟩ := hs.shape
  obtain ⟨a', cap', rfl, hl', hm'⟩ := hu.shape
  unfold maxLen at hm hm'
  have HS := Lib.hid hs
  have HU := Lib.hid hu
  have HH := Lib.hid H
  have H5 := Lib.hid h5
  clear hs hu H h5
  go_enter Tryz.func191, Tryz.ntmps191
  go_wp2_with fail
  go_loopw [5] (fun i wr => ∃ k : Nat, k ≤ es.length ∧ i = .int .i64 k ∧ Ext w wr) (fun i _ => es.length - (intOf i).toNat)
  case atStart => exact ⟨0, Nat.zero_le _, rfl, .refl _⟩
  case round =>
    obtain ⟨k, hk, rfl, hw⟩ := hrel
    by_cases hlt : k < es.length
    · obtain ⟨b, off, cs, rfl, hb, hcs, hc⟩ := (HS.out.ext hw).at2 (k := k) (List.getElem?_eq_getElem hlt)
      obtain ⟨b', off', ds, rfl, hb', hds, hd⟩ := (HU.out.ext hw).at2 (k := k) (List.getElem?_eq_getElem hlt)
      have hmem : es[k] ∈ es := List.getElem_mem hlt
      have l5 := H5.out _ hmem
      have HCS := Lib.hid hcs
      have HDS := Lib.hid hds
      have HM := Lib.hid hmem
      have HC := Lib.hid hc
      have HD := Lib.hid hd
      have HI : Hid ((Tryz.prog.info? 105).map (·.size) = some cs.length) := by rw [← hcs.length, l5]; exact isz105
      have HJ : Hid ((Tryz.prog.info? 105).map (·.size) = some ds.length) := by rw [← hds.length, l5]; exact isz105
      clear hcs hds hc hd l5 hmem
      go_wp2_with fail
      have ki : (k : Int) < (es.length : Int) := by omega
      have k0 : (0 : Int) ≤ (k : Int) := by omega
      refine wp_region_still_tail 8 (by kernel_rfl) (by kernel_rfl) ?_
      simp only [List.take_succ_cons, List.take_zero, List.drop_succ_cons, List.drop_zero]
      change wpStill _ _ wr.drew _ _ _
      repeat (first
        | (refine wpStill_load_rep rfl 105 (.tmp 19) rfl b (off + k * 16) rfl cs _ Tryz.underlying105 HI.out HC.out ?_; simp only [Act.put])
        | (refine wpStill_load_rep rfl 105 (.tmp 23) rfl b' (off' + k * 16) rfl ds _ Tryz.underlying105 HJ.out HD.out ?_; simp only [Act.put])
        | still_step)
      refine wpStill_nil ?_
      change wpList _ _ _ _ _ wr.drew
      go_wp2_with fail
      refine (HH.out _ HM.out _ _ _ (HCS.out.ext (.drew (.refl _))) (HDS.out.ext (.drew (.refl _)))).mono ?_; rintro e w1 ⟨rfl, hw1⟩
      have HW1 := Lib.hid hw1
      clear hw1
      go_wp2_with fail
      go_roundw
      case rel => exact ⟨k + 1, by omega, by go_num, hw.trans (.trans (.drew (.refl _)) HW1.out)⟩
      case measure => simp [intOf]; omega
    · go_wp2_with fail
      go_ret
      exact ⟨rfl, hw⟩

end Go.Proofs.YtnakkelglbcecaaGreat

namespace Go.Proofs.YtnakkelglbcecaaGreat
open Go.RowKit Go.Proofs

set_option maxRecDepth 100000 in
set_option maxHeartbeats 1000000 in
theorem szConstructor_of (v0 : ByteArray) (es1 : List (List Tr)) (h1 : SzSC 101 3 es1) : SzC 231 ([.leaf (.string v0)] ++ ([.row 3 es1] ++ ([]))) := by
  intro cs left w hr hl0 hl1
  obtain ⟨r0, rfl, K0, n0⟩ := RepL.sLeaf hr
  obtain ⟨a1, c1, r1, rfl, G1, n1⟩ := RepL.sRow n0
  obtain rfl := RepL.nil_eq n1
  clear hr n0 n1
  have q0 : v0.size ≤ 9223372036854775807 := by have := K0.out; simp only [LeafOk, maxLen] at this; omega
  go_enter Tryz.func231, Tryz.ntmps231
  go_wp2_with fail
  · go_ret
    exact ⟨-1, rfl, (.alloc (.refl _) _), by omega, by omega, by omega⟩
  refine (h1 _ _ _ (G1.out.1.ext (.alloc (.refl _) _)) (by omega) (by omega)).mono ?_; rintro e w1 ⟨r1, rfl, hw1, ra1, rb1, rc1⟩
  have HW1 := Lib.hid hw1
  have HR1 := Lib.hid rc1
  have ob1 := (OB.new w _ _).ext hw1
  have OBH := Lib.hid ob1
  have ce1 := ob1.cell
  clear hw1 rc1 ob1
  go_wp2_with fail
  · go_ret
    exact ⟨-1, rfl, (Ext.trans (.alloc (.refl _) _) HW1.out), by omega, by omega, by omega⟩
  go_ret
  refine ⟨_, rfl, (Ext.trans (.alloc (.refl _) _) HW1.out), by omega, by omega, fun hp => ?_⟩
  have e1 := HR1.out (by omega)
  simp only [Tr.bulkL_append, Tr.bulkL, Tr.bulk]
  simp only [Tr.bulk] at e1
  omega

set_option maxRecDepth 100000 in
set_option maxHeartbeats 1000000 in
theorem toConstructor_of (v0 : ByteArray) (es1 : List (List Tr)) (h1 : ToSC 104 3 es1) : ToC 237 ([.leaf (.string v0)] ++ ([.row 3 es1] ++ ([]))) := by
  intro cs w hr hbk
  simp only [Tr.bulkL_append, Tr.bulkL, Tr.bulk] at hbk
  obtain ⟨r0, rfl, K0, n0⟩ := RepL.sLeaf hr
  obtain ⟨a1, c1, r1, rfl, G1, n1⟩ := RepL.sRow n0
  obtain rfl := RepL.nil_eq n1
  clear hr n0 n1
  go_enter Tryz.func237, Tryz.ntmps237
  go_wp2_with fail
  refine (h1 _ _ (G1.out.1.ext (.alloc (.alloc (.alloc (.refl _) _) _) _)) (by omega)).mono ?_; rintro e w1 ⟨d1, rfl, hw1, ho1⟩
  obtain ⟨da1, dc1, rfl, -, -⟩ := ho1.rep.shape
  have HW1 := Lib.hid hw1
  have HO1 := Lib.hid ho1
  have ob1 := (Three.new w _ _ _ _ _ _).ext hw1
  have OBHw1 := Lib.hid ob1
  have cew1 := ob1.o0.cell
  have hzw1 : w.heap.size < w1.heap.size := ob1.o0.lt
  clear hw1 ob1 ho1
  have EW1 := Lib.hid (Ext.trans (.alloc (.alloc (.alloc (.refl _) _) _) _) HW1.out)
  have hone : Hid (∀ v ∈ ([.string v0, .slice da1 es1.length dc1] : List Value), v.oneCell' = true) := by
    intro v hv
    simp only [List.mem_cons, List.not_mem_nil, or_false] at hv
    rcases hv with rfl | rfl <;> first | rfl
  go_wp2_with (first
    | (refine wpList_store_cell rfl 45 _ _ rfl (w.heap.size + 1 + 1) 1 rfl (.slice da1 es1.length dc1) rfl rfl 258 _ OBHw1.out.o2 isz45 (by simp [splice]) rfl ?_; intro u1 hou1 hgu1 hzu1; have OBHu1 := Lib.hid (OBHw1.out.grown hgu1 hou1 (by omega) (by omega)); have HGu1 := Lib.hid hgu1; have ceu1 := OBHu1.out.o0.cell; have hqu1 : w.heap.size < u1.heap.size := OBHu1.out.o0.lt; have EGu1 := Lib.hid (grown_ext EW1.out HGu1.out (by omega)); clear hou1 hgu1 hzu1 OBHw1 cew1)
    | (refine wpList_load_rep rfl 258 _ rfl (w.heap.size + 1 + 1) 0 rfl [.string v0, .slice da1 es1.length dc1] _ Tryz.underlying258 isz258 (fun j v hv => by rw [OBHu1.out.o2.cell, Nat.zero_add]; simpa [splice] using hv) ?_)
    | (refine wpList_store_rep rfl 258 _ _ rfl (w.heap.size + 1) 0 rfl [.string v0, .slice da1 es1.length dc1] rfl 258 _ OBHu1.out.o1 isz258 (by simp) hone.out ?_; intro wz hoz hgz hzz; have HOZ := Lib.hid hoz; have HGZ := Lib.hid hgz; clear hoz hgz hzz))
  have HOF : OB wz (w.heap.size + 1) 258 ⟨[.string v0, .slice da1 es1.length dc1]⟩ := HOZ.out
  refine bodyPost_ret (results_cell_row Tryz.results237 _ _ (w.heap.size + 1) 258 ⟨[.string v0, .slice da1 es1.length dc1]⟩ _ _ rfl HOF Tryz.underlying258 rfl isz258) rfl ⟨[.string v0, .slice da1 es1.length dc1], rfl, (grown_ext EGu1.out HGZ.out (by omega)), ?_⟩
  have sw1 := HW1.out.size
  have su1 := HGu1.out.size
  have swz := HGZ.out.size
  simp only [World.size_alloc] at sw1
  have KPz : Keeps (w.heap.size + 1 + 1 + 1) u1 wz := Keeps.of_grown HGZ.out (by omega)
  have KPu1 : Keeps (w.heap.size + 1 + 1 + 1) w1 wz := Keeps.trans (Keeps.of_grown HGu1.out (by omega)) KPz
  have ow1 := HO1.out.keeps KPu1 (by intro x hx; simp only [Between, World.size_alloc] at hx; omega)
  have hall := OwnL.cons_leaf K0.out (OwnL.append (OwnL.one ow1) (OwnL.nil wz (fun _ => False)) (by intro x hx hy; simp only [Between, World.size_alloc, or_false] at hx hy <;> omega))
  exact hall.mono (by intro x hx; simp only [Between, World.size_alloc, or_false] at hx ⊢; omega)

set_option maxRecDepth 100000 in
set_option maxHeartbeats 1000000 in
theorem eqConstructor_of (v0 : ByteArray) (es1 : List (List Tr)) (h1 : EqSC 107 3 es1) : EqC 242 ([.leaf (.string v0)] ++ ([.row 3 es1] ++ ([]))) := by
  intro cs ds w hr hr'
  obtain ⟨r0, rfl, K0, n0⟩ := RepL.sLeaf hr
  obtain ⟨a1, c1, r1, rfl, G1, n1⟩ := RepL.sRow n0
  obtain rfl := RepL.nil_eq n1
  clear hr n0 n1
  obtain ⟨zr0, rfl, zK0, zn0⟩ := RepL.sLeaf hr'
  obtain ⟨za1, zc1, zr1, rfl, zG1, zn1⟩ := RepL.sRow zn0
  obtain rfl := RepL.nil_eq zn1
  clear hr' zn0 zn1
  go_enter Tryz.func242, Tryz.ntmps242
  go_wp2_with fail
  refine (h1 _ _ _ (G1.out.1.ext (.alloc (.alloc (.refl _) _) _)) (zG1.out.1.ext (.alloc (.alloc (.refl _) _) _))).mono ?_; rintro e w1 ⟨rfl, hw1⟩
  have HW1 := Lib.hid hw1
  have ob1 := (Two.new w _ _ _ _).ext hw1
  have OBH := Lib.hid ob1
  have ce1 := ob1.o0.cell
  have cf1 := ob1.o1.cell
  clear hw1 ob1
  go_wp2_with fail
  go_ret
  exact ⟨rfl, (Ext.trans (.alloc (.alloc (.refl _) _) _) HW1.out)⟩

set_option maxRecDepth 100000 in
set_option maxHeartbeats 1000000 in
theorem szConstructorS_of (es : List (List Tr)) (h5 : ∀ e ∈ es, e.length = 2) (H : ∀ e ∈ es, SzC 231 e) : SzSC 217 2 es := by
  intro s left w hs h0 h1
  obtain ⟨a, cap, rfl, hl, hm⟩ := hs.shape
  unfold maxLen at hm
  have HS := Lib.hid hs
  have HH := Lib.hid H
  have H5 := Lib.hid h5
  clear hs H h5
  go_enter Tryz.func217, Tryz.ntmps217
  go_wp2_with fail
  · go_ret
    exact ⟨-1, rfl, .refl _, by omega, by omega, by omega⟩
  go_loopw [1, 5] (fun l i wr => ∃ (k : Nat) (r : Int), k ≤ es.length ∧ i = .int .i64 k ∧ l = .int .i64 r ∧ Ext w wr ∧ 0 ≤ r ∧ r + es.length + Tr.bulkAll (es.take k) ≤ left) (fun _ i _ => es.length - (intOf i).toNat)
  case atStart => exact ⟨0, _, Nat.zero_le _, rfl, rfl, .refl _, by omega, by simp [Tr.bulkAll]⟩
  case round =>
    obtain ⟨k, r, hk, rfl, rfl, hw, hr0, hrb⟩ := hrel
    by_cases hlt : k < es.length
    · obtain ⟨b, off, cs, rfl, hb, hcs, hc⟩ := (HS.out.ext hw).at2 (k := k) (List.getElem?_eq_getElem hlt)
      have hmem : es[k] ∈ es := List.getElem_mem hlt
      have l5 := H5.out _ hmem
      have hbt := Lib.hid (Tr.bulkAll_take es k hlt)
      have HCS := Lib.hid hcs
      have HC := Lib.hid hc
      have HM := Lib.hid hmem
      have HI : Hid ((Tryz.prog.info? 280).map (·.size) = some cs.length) := by rw [← hcs.length, l5]; exact isz280
      clear hcs hc hmem l5
      go_wp2_with (refine wpList_load_rep rfl 280 _ rfl b (off + k * 2) rfl cs _ Tryz.underlying280 HI.out HC.out ?_)
      refine (HH.out _ HM.out _ _ _ HCS.out hr0 (by omega)).mono ?_; rintro e w1 ⟨r1, rfl, hw1, hr1, hr2, hr3⟩
      have HR3 := Lib.hid hr3
      have HW1 := Lib.hid hw1
      clear hr3 hw1
      go_wp2_with fail
      · go_ret
        exact ⟨-1, rfl, hw.trans HW1.out, by omega, by omega, by omega⟩
      · go_roundw
        case rel =>
          have p0 : 0 ≤ r1 := by assumption
          have e1 := HR3.out p0
          have e2 := hbt.out
          exact ⟨k + 1, r1, by omega, by go_num, rfl, hw.trans HW1.out, p0, by omega⟩
        case measure => simp [intOf]; omega
    · have hkl : k = es.length := by omega
      go_wp2_with fail
      go_ret
      refine ⟨r, rfl, hw, by omega, by omega, fun _ => ?_⟩
      rw [hkl, List.take_length] at hrb
      simp only [Tr.bulk]
      omega

set_option maxRecDepth 100000 in
set_option maxHeartbeats 1000000 in
theorem toConstructorS_of (es : List (List Tr)) (h5 : ∀ e ∈ es, e.length = 2) (H : ∀ e ∈ es, ToC 237 e) : ToSC 222 2 es := by
  intro s w hs hbk
  obtain ⟨a, cap, rfl, hl, hm⟩ := hs.shape
  unfold maxLen at hm
  have HS := Lib.hid hs
  have HH := Lib.hid H
  have H5 := Lib.hid h5
  have n0 : (0 : Int) ≤ es.length := by omega
  clear hs H h5
  go_enter Tryz.func222, Tryz.ntmps222
  go_wp2_with (refine wpList_make_rep rfl 169 (.tmp 6) rfl es.length rfl 258 Tryz.underlying169 2 40 iszb258 (by omega) (by omega) ?_; intro wm arr0 ha0 hob0 hx0 hz0; have HA0 := Lib.hid ha0; have HOB0 := Lib.hid hob0; have HX0 := Lib.hid hx0; have HZ0 := Lib.hid hz0; clear ha0 hob0 hx0 hz0)
  go_loopw [4] (fun i wr => ∃ (k : Nat) (arr : Array Value), k ≤ es.length ∧ i = .int .i64 k ∧ Ext w wr ∧ w.heap.size < wr.heap.size ∧ OB wr w.heap.size 258 arr ∧ arr.size = es.length * 2 ∧ Part wr w.heap.size arr 2 es k) (fun i _ => es.length - (intOf i).toNat)
  case atStart => exact ⟨0, arr0, Nat.zero_le _, rfl, HX0.out, by rw [HZ0.out]; omega, HOB0.out, HA0.out, Part.zero _ _ _ _ _⟩
  case round =>
    obtain ⟨k, arr, hk, rfl, hw, hgt, hob, hasz, hpart⟩ := hrel
    have HOB := Lib.hid hob
    have HAS := Lib.hid hasz
    have HP := Lib.hid hpart
    clear hob hasz hpart
    by_cases hlt : k < es.length
    · obtain ⟨b, off, cs, rfl, hb, hcs, hc⟩ := (HS.out.ext hw).at2 (k := k) (List.getElem?_eq_getElem hlt)
      have hmem : es[k] ∈ es := List.getElem_mem hlt
      have l5 := H5.out _ hmem
      have hbe := Tr.bulkAll_le hlt
      have HCS := Lib.hid hcs
      have HC := Lib.hid hc
      have HM := Lib.hid hmem
      have HL5 := Lib.hid l5
      have HI : Hid ((Tryz.prog.info? 280).map (·.size) = some cs.length) := by rw [← hcs.length, l5]; exact isz280
      clear hcs hc hmem l5
      go_wp2_with (refine wpList_load_rep rfl 280 (.tmp 18) rfl b (off + k * 2) rfl cs _ Tryz.underlying280 HI.out HC.out ?_)
      refine (HH.out _ HM.out _ _ HCS.out (by omega)).mono ?_; rintro e w1 ⟨cs1, rfl, hw1, ho1⟩
      have HW1 := Lib.hid hw1
      have HO1 := Lib.hid ho1
      have hcl : cs1.length = 2 := ho1.1.trans HL5.out
      have HCL := Lib.hid hcl
      have hfit : 0 + k * 2 + cs1.length ≤ arr.size := by have := HAS.out; omega
      have HF := Lib.hid hfit
      clear hw1 ho1 hcl hfit
      go_wp2_with (refine wpList_store_rep rfl 258 (.tmp 21) (.tmp 20) rfl w.heap.size (k * 2) rfl cs1 rfl 258 arr (HOB.out.ext HW1.out) (by rw [HCL.out]; exact isz258) (by have := HF.out; omega) (HO1.out.rep.one) ?_; intro w2 hob2 hg2 hz2; have HOB2 := Lib.hid hob2; have HG2 := Lib.hid hg2; have HZ2 := Lib.hid hz2; clear hob2 hg2 hz2)
      go_roundw
      case rel =>
        have hfit : k * 2 + cs1.length ≤ arr.size := by have := HF.out; omega
        refine ⟨k + 1, _, by omega, by go_num, ?_, ?_, HOB2.out, by rw [splice_size hfit]; exact HAS.out, HP.out.step hgt HW1.out (List.getElem?_eq_getElem hlt) HO1.out HCL.out HAS.out HG2.out HOB2.out⟩
        · exact grown_ext (hw.trans HW1.out) HG2.out (Nat.le_refl _)
        · have := HW1.out.size
          have := HZ2.out
          omega
      case measure => simp [intOf]; omega
    · have hkl : k = es.length := by omega
      go_wp2_with fail
      go_ret
      subst hkl
      exact ⟨_, rfl, hw, (HP.out.done HOB.out H5.out (Nat.le_refl _) (by unfold maxLen; omega) (Nat.le_refl _)).mono fun x hx => ⟨hx.1, hx.2⟩⟩

set_option maxRecDepth 100000 in
set_option maxHeartbeats 1000000 in
theorem eqConstructorS_of (es : List (List Tr)) (h5 : ∀ e ∈ es, e.length = 2) (H : ∀ e ∈ es, EqC 242 e) : EqSC 226 2 es := by
  intro s u w hs hu
  obtain ⟨a, cap, rfl, hl, hm⟩ := hs.shape
  obtain ⟨a', cap', rfl, hl', hm'⟩ := hu.shape
  unfold maxLen at hm hm'
  have HS := Lib.hid hs
  have HU := Lib.hid hu
  have HH := Lib.hid H
  have H5 := Lib.hid h5
  clear hs hu H h5
  go_enter Tryz.func226, Tryz.ntmps226
  go_wp2_with fail
  go_loopw [5] (fun i wr => ∃ k : Nat, k ≤ es.length ∧ i = .int .i64 k ∧ Ext w wr) (fun i _ => es.length - (intOf i).toNat)
  case atStart => exact ⟨0, Nat.zero_le _, rfl, .refl _⟩
  case round =>
    obtain ⟨k, hk, rfl, hw⟩ := hrel
    by_cases hlt : k < es.length
    · obtain ⟨b, off, cs, rfl, hb, hcs, hc⟩ := (HS.out.ext hw).at2 (k := k) (List.getElem?_eq_getElem hlt)
      obtain ⟨b', off', ds, rfl, hb', hds, hd⟩ := (HU.out.ext hw).at2 (k := k) (List.getElem?_eq_getElem hlt)
      have hmem : es[k] ∈ es := List.getElem_mem hlt
      have l5 := H5.out _ hmem
      have HCS := Lib.hid hcs
      have HDS := Lib.hid hds
      have HM := Lib.hid hmem
      have HC := Lib.hid hc
      have HD := Lib.hid hd
      have HI : Hid ((Tryz.prog.info? 258).map (·.size) = some cs.length) := by rw [← hcs.length, l5]; exact isz258
      have HJ : Hid ((Tryz.prog.info? 258).map (·.size) = some ds.length) := by rw [← hds.length, l5]; exact isz258
      clear hcs hds hc hd l5 hmem
      go_wp2_with fail
      have ki : (k : Int) < (es.length : Int) := by omega
      have k0 : (0 : Int) ≤ (k : Int) := by omega
      refine wp_region_still_tail 8 (by kernel_rfl) (by kernel_rfl) ?_
      simp only [List.take_succ_cons, List.take_zero, List.drop_succ_cons, List.drop_zero]
      change wpStill _ _ wr.drew _ _ _
      repeat (first
        | (refine wpStill_load_rep rfl 258 (.tmp 19) rfl b (off + k * 2) rfl cs _ Tryz.underlying258 HI.out HC.out ?_; simp only [Act.put])
        | (refine wpStill_load_rep rfl 258 (.tmp 23) rfl b' (off' + k * 2) rfl ds _ Tryz.underlying258 HJ.out HD.out ?_; simp only [Act.put])
        | still_step)
      refine wpStill_nil ?_
      change wpList _ _ _ _ _ wr.drew
      go_wp2_with fail
      refine (HH.out _ HM.out _ _ _ (HCS.out.ext (.drew (.refl _))) (HDS.out.ext (.drew (.refl _)))).mono ?_; rintro e w1 ⟨rfl, hw1⟩
      have HW1 := Lib.hid hw1
      clear hw1
      go_wp2_with fail
      go_roundw
      case rel => exact ⟨k + 1, by omega, by go_num, hw.trans (.trans (.drew (.refl _)) HW1.out)⟩
      case measure => simp [intOf]; omega
    · go_wp2_with fail
      go_ret
      exact ⟨rfl, hw⟩

end Go.Proofs.YtnakkelglbcecaaGreat

namespace Go.Proofs.YtnakkelglbcecaaGreat
open Go.RowKit Go.Proofs

set_option maxRecDepth 100000 in
set_option maxHeartbeats 1000000 in
theorem szDataType_of (v0 : ByteArray) (es1 : List (List Tr)) (es2 : List (List Tr)) (h1 : SzSC 178 1 es1) (h2 : SzSC 217 2 es2) : SzC 204 ([.leaf (.string v0)] ++ ([.row 1 es1] ++ ([.row 2 es2] ++ ([])))) := by
  intro cs left w hr hl0 hl1
  obtain ⟨r0, rfl, K0, n0⟩ := RepL.sLeaf hr
  obtain ⟨a1, c1, r1, rfl, G1, n1⟩ := RepL.sRow n0
  obtain ⟨a2, c2, r2, rfl, G2, n2⟩ := RepL.sRow n1
  obtain rfl := RepL.nil_eq n2
  clear hr n0 n1 n2
  have q0 : v0.size ≤ 9223372036854775807 := by have := K0.out; simp only [LeafOk, maxLen] at this; omega
  go_enter Tryz.func204, Tryz.ntmps204
  go_wp2_with fail
  · go_ret
    exact ⟨-1, rfl, (.alloc (.refl _) _), by omega, by omega, by omega⟩
  refine (h1 _ _ _ (G1.out.1.ext (.alloc (.refl _) _)) (by omega) (by omega)).mono ?_; rintro e w1 ⟨r1, rfl, hw1, ra1, rb1, rc1⟩
  have HW1 := Lib.hid hw1
  have HR1 := Lib.hid rc1
  have ob1 := (OB.new w _ _).ext hw1
  have OBH := Lib.hid ob1
  have ce1 := ob1.cell
  clear hw1 rc1 ob1
  go_wp2_with fail
  · go_ret
    exact ⟨-1, rfl, (Ext.trans (.alloc (.refl _) _) HW1.out), by omega, by omega, by omega⟩
  refine (h2 _ _ _ (G2.out.1.ext (Ext.trans (.alloc (.refl _) _) HW1.out)) (by omega) (by omega)).mono ?_; rintro e w2 ⟨r2, rfl, hw2, ra2, rb2, rc2⟩
  have HW2 := Lib.hid hw2
  have HR2 := Lib.hid rc2
  have ob2 := OBH.out.ext hw2
  clear OBH ce1
  have OBH := Lib.hid ob2
  have ce2 := ob2.cell
  clear hw2 rc2 ob2
  go_wp2_with fail
  · go_ret
    exact ⟨-1, rfl, (Ext.trans (Ext.trans (.alloc (.refl _) _) HW1.out) HW2.out), by omega, by omega, by omega⟩
  go_ret
  refine ⟨_, rfl, (Ext.trans (Ext.trans (.alloc (.refl _) _) HW1.out) HW2.out), by omega, by omega, fun hp => ?_⟩
  have e1 := HR1.out (by omega)
  have e2 := HR2.out (by omega)
  simp only [Tr.bulkL_append, Tr.bulkL, Tr.bulk]
  simp only [Tr.bulk] at e1 e2
  omega

set_option maxRecDepth 100000 in
set_option maxHeartbeats 1000000 in
theorem toDataType_of (v0 : ByteArray) (es1 : List (List Tr)) (es2 : List (List Tr)) (h1 : ToSC 183 1 es1) (h2 : ToSC 222 2 es2) : ToC 208 ([.leaf (.string v0)] ++ ([.row 1 es1] ++ ([.row 2 es2] ++ ([])))) := by
  intro cs w hr hbk
  simp only [Tr.bulkL_append, Tr.bulkL, Tr.bulk] at hbk
  obtain ⟨r0, rfl, K0, n0⟩ := RepL.sLeaf hr
  obtain ⟨a1, c1, r1, rfl, G1, n1⟩ := RepL.sRow n0
  obtain ⟨a2, c2, r2, rfl, G2, n2⟩ := RepL.sRow n1
  obtain rfl := RepL.nil_eq n2
  clear hr n0 n1 n2
  go_enter Tryz.func208, Tryz.ntmps208
  go_wp2_with fail
  refine (h1 _ _ (G1.out.1.ext (.alloc (.alloc (.alloc (.refl _) _) _) _)) (by omega)).mono ?_; rintro e w1 ⟨d1, rfl, hw1, ho1⟩
  obtain ⟨da1, dc1, rfl, -, -⟩ := ho1.rep.shape
  have HW1 := Lib.hid hw1
  have HO1 := Lib.hid ho1
  have ob1 := (Three.new w _ _ _ _ _ _).ext hw1
  have OBHw1 := Lib.hid ob1
  have cew1 := ob1.o0.cell
  have hzw1 : w.heap.size < w1.heap.size := ob1.o0.lt
  clear hw1 ob1 ho1
  have EW1 := Lib.hid (Ext.trans (.alloc (.alloc (.alloc (.refl _) _) _) _) HW1.out)
  go_wp2_with (first
    | (refine wpList_store_cell rfl 54 _ _ rfl (w.heap.size + 1 + 1) 1 rfl (.slice da1 es1.length dc1) rfl rfl 171 _ OBHw1.out.o2 isz54 (by simp [splice]) rfl ?_; intro u1 hou1 hgu1 hzu1; have OBHu1 := Lib.hid (OBHw1.out.grown hgu1 hou1 (by omega) (by omega)); have HGu1 := Lib.hid hgu1; have ceu1 := OBHu1.out.o0.cell; have hqu1 : w.heap.size < u1.heap.size := OBHu1.out.o0.lt; have EGu1 := Lib.hid (grown_ext EW1.out HGu1.out (by omega)); clear hou1 hgu1 hzu1 OBHw1 cew1))
  refine (h2 _ _ (G2.out.1.ext EGu1.out) (by omega)).mono ?_; rintro e w2 ⟨d2, rfl, hw2, ho2⟩
  obtain ⟨da2, dc2, rfl, -, -⟩ := ho2.rep.shape
  have HW2 := Lib.hid hw2
  have HO2 := Lib.hid ho2
  have ob2 := OBHu1.out.ext hw2
  clear OBHu1 ceu1
  have OBHw2 := Lib.hid ob2
  have cew2 := ob2.o0.cell
  have hzw2 : w.heap.size < w2.heap.size := ob2.o0.lt
  clear hw2 ob2 ho2
  have EW2 := Lib.hid (Ext.trans EGu1.out HW2.out)
  have hone : Hid (∀ v ∈ ([.string v0, .slice da1 es1.length dc1, .slice da2 es2.length dc2] : List Value), v.oneCell' = true) := by
    intro v hv
    simp only [List.mem_cons, List.not_mem_nil, or_false] at hv
    rcases hv with rfl | rfl | rfl <;> first | rfl
  go_wp2_with (first
    | (refine wpList_store_cell rfl 169 _ _ rfl (w.heap.size + 1 + 1) 2 rfl (.slice da2 es2.length dc2) rfl rfl 171 _ OBHw2.out.o2 isz169 (by simp [splice]) rfl ?_; intro u2 hou2 hgu2 hzu2; have OBHu2 := Lib.hid (OBHw2.out.grown hgu2 hou2 (by omega) (by omega)); have HGu2 := Lib.hid hgu2; have ceu2 := OBHu2.out.o0.cell; have hqu2 : w.heap.size < u2.heap.size := OBHu2.out.o0.lt; have EGu2 := Lib.hid (grown_ext EW2.out HGu2.out (by omega)); clear hou2 hgu2 hzu2 OBHw2 cew2)
    | (refine wpList_load_rep rfl 171 _ rfl (w.heap.size + 1 + 1) 0 rfl [.string v0, .slice da1 es1.length dc1, .slice da2 es2.length dc2] _ Tryz.underlying171 isz171 (fun j v hv => by rw [OBHu2.out.o2.cell, Nat.zero_add]; simpa [splice] using hv) ?_)
    | (refine wpList_store_rep rfl 171 _ _ rfl (w.heap.size + 1) 0 rfl [.string v0, .slice da1 es1.length dc1, .slice da2 es2.length dc2] rfl 171 _ OBHu2.out.o1 isz171 (by simp) hone.out ?_; intro wz hoz hgz hzz; have HOZ := Lib.hid hoz; have HGZ := Lib.hid hgz; clear hoz hgz hzz))
  have HOF : OB wz (w.heap.size + 1) 171 ⟨[.string v0, .slice da1 es1.length dc1, .slice da2 es2.length dc2]⟩ := HOZ.out
  refine bodyPost_ret (results_cell_row Tryz.results208 _ _ (w.heap.size + 1) 171 ⟨[.string v0, .slice da1 es1.length dc1, .slice da2 es2.length dc2]⟩ _ _ rfl HOF Tryz.underlying171 rfl isz171) rfl ⟨[.string v0, .slice da1 es1.length dc1, .slice da2 es2.length dc2], rfl, (grown_ext EGu2.out HGZ.out (by omega)), ?_⟩
  have sw1 := HW1.out.size
  have su1 := HGu1.out.size
  have sw2 := HW2.out.size
  have su2 := HGu2.out.size
  have swz := HGZ.out.size
  simp only [World.size_alloc] at sw1
  have KPz : Keeps (w.heap.size + 1 + 1 + 1) u2 wz := Keeps.of_grown HGZ.out (by omega)
  have KPu2 : Keeps (w.heap.size + 1 + 1 + 1) w2 wz := Keeps.trans (Keeps.of_grown HGu2.out (by omega)) KPz
  have ow2 := HO2.out.keeps KPu2 (by intro x hx; simp only [Between, World.size_alloc] at hx; omega)
  have KPw2 : Keeps (w.heap.size + 1 + 1 + 1) u1 wz := Keeps.trans (Keeps.of_ext HW2.out) KPu2
  have KPu1 : Keeps (w.heap.size + 1 + 1 + 1) w1 wz := Keeps.trans (Keeps.of_grown HGu1.out (by omega)) KPw2
  have ow1 := HO1.out.keeps KPu1 (by intro x hx; simp only [Between, World.size_alloc] at hx; omega)
  have hall := OwnL.cons_leaf K0.out (OwnL.append (OwnL.one ow1) (OwnL.append (OwnL.one ow2) (OwnL.nil wz (fun _ => False)) (by intro x hx hy; simp only [Between, World.size_alloc, or_false] at hx hy <;> omega)) (by intro x hx hy; simp only [Between, World.size_alloc, or_false] at hx hy <;> omega))
  exact hall.mono (by intro x hx; simp only [Between, World.size_alloc, or_false] at hx ⊢; omega)

set_option maxRecDepth 100000 in
set_option maxHeartbeats 1000000 in
theorem eqDataType_of (v0 : ByteArray) (es1 : List (List Tr)) (es2 : List (List Tr)) (h1 : EqSC 29 1 es1) (h2 : EqSC 226 2 es2) : EqC 211 ([.leaf (.string v0)] ++ ([.row 1 es1] ++ ([.row 2 es2] ++ ([])))) := by
  intro cs ds w hr hr'
  obtain ⟨r0, rfl, K0, n0⟩ := RepL.sLeaf hr
  obtain ⟨a1, c1, r1, rfl, G1, n1⟩ := RepL.sRow n0
  obtain ⟨a2, c2, r2, rfl, G2, n2⟩ := RepL.sRow n1
  obtain rfl := RepL.nil_eq n2
  clear hr n0 n1 n2
  obtain ⟨zr0, rfl, zK0, zn0⟩ := RepL.sLeaf hr'
  obtain ⟨za1, zc1, zr1, rfl, zG1, zn1⟩ := RepL.sRow zn0
  obtain ⟨za2, zc2, zr2, rfl, zG2, zn2⟩ := RepL.sRow zn1
  obtain rfl := RepL.nil_eq zn2
  clear hr' zn0 zn1 zn2
  go_enter Tryz.func211, Tryz.ntmps211
  go_wp2_with fail
  refine (h1 _ _ _ (G1.out.1.ext (.alloc (.alloc (.refl _) _) _)) (zG1.out.1.ext (.alloc (.alloc (.refl _) _) _))).mono ?_; rintro e w1 ⟨rfl, hw1⟩
  have HW1 := Lib.hid hw1
  have ob1 := (Two.new w _ _ _ _).ext hw1
  have OBH := Lib.hid ob1
  have ce1 := ob1.o0.cell
  have cf1 := ob1.o1.cell
  clear hw1 ob1
  go_wp2_with fail
  refine (h2 _ _ _ (G2.out.1.ext (Ext.trans (.alloc (.alloc (.refl _) _) _) HW1.out)) (zG2.out.1.ext (Ext.trans (.alloc (.alloc (.refl _) _) _) HW1.out))).mono ?_; rintro e w2 ⟨rfl, hw2⟩
  have HW2 := Lib.hid hw2
  have ob2 := OBH.out.ext hw2
  clear OBH ce1 cf1
  have OBH := Lib.hid ob2
  have ce2 := ob2.o0.cell
  have cf2 := ob2.o1.cell
  clear hw2 ob2
  go_wp2_with fail
  go_ret
  exact ⟨rfl, (Ext.trans (Ext.trans (.alloc (.alloc (.refl _) _) _) HW1.out) HW2.out)⟩

set_option maxRecDepth 100000 in
set_option maxHeartbeats 1000000 in
theorem szDataTypeS_of (es : List (List Tr)) (h5 : ∀ e ∈ es, e.length = 3) (H : ∀ e ∈ es, SzC 204 e) : SzSC 180 3 es := by
  intro s left w hs h0 h1
  obtain ⟨a, cap, rfl, hl, hm⟩ := hs.shape
  unfold maxLen at hm
  have HS := Lib.hid hs
  have HH := Lib.hid H
  have H5 := Lib.hid h5
  clear hs H h5
  go_enter Tryz.func180, Tryz.ntmps180
  go_wp2_with fail
  · go_ret
    exact ⟨-1, rfl, .refl _, by omega, by omega, by omega⟩
  go_loopw [1, 5] (fun l i wr => ∃ (k : Nat) (r : Int), k ≤ es.length ∧ i = .int .i64 k ∧ l = .int .i64 r ∧ Ext w wr ∧ 0 ≤ r ∧ r + es.length + Tr.bulkAll (es.take k) ≤ left) (fun _ i _ => es.length - (intOf i).toNat)
  case atStart => exact ⟨0, _, Nat.zero_le _, rfl, rfl, .refl _, by omega, by simp [Tr.bulkAll]⟩
  case round =>
    obtain ⟨k, r, hk, rfl, rfl, hw, hr0, hrb⟩ := hrel
    by_cases hlt : k < es.length
    · obtain ⟨b, off, cs, rfl, hb, hcs, hc⟩ := (HS.out.ext hw).at2 (k := k) (List.getElem?_eq_getElem hlt)
      have hmem : es[k] ∈ es := List.getElem_mem hlt
      have l5 := H5.out _ hmem
      have hbt := Lib.hid (Tr.bulkAll_take es k hlt)
      have HCS := Lib.hid hcs
      have HC := Lib.hid hc
      have HM := Lib.hid hmem
      have HI : Hid ((Tryz.prog.info? 238).map (·.size) = some cs.length) := by rw [← hcs.length, l5]; exact isz238
      clear hcs hc hmem l5
      go_wp2_with (refine wpList_load_rep rfl 238 _ rfl b (off + k * 3) rfl cs _ Tryz.underlying238 HI.out HC.out ?_)
      refine (HH.out _ HM.out _ _ _ HCS.out hr0 (by omega)).mono ?_; rintro e w1 ⟨r1, rfl, hw1, hr1, hr2, hr3⟩
      have HR3 := Lib.hid hr3
      have HW1 := Lib.hid hw1
      clear hr3 hw1
      go_wp2_with fail
      · go_ret
        exact ⟨-1, rfl, hw.trans HW1.out, by omega, by omega, by omega⟩
      · go_roundw
        case rel =>
          have p0 : 0 ≤ r1 := by assumption
          have e1 := HR3.out p0
          have e2 := hbt.out
          exact ⟨k + 1, r1, by omega, by go_num, rfl, hw.trans HW1.out, p0, by omega⟩
        case measure => simp [intOf]; omega
    · have hkl : k = es.length := by omega
      go_wp2_with fail
      go_ret
      refine ⟨r, rfl, hw, by omega, by omega, fun _ => ?_⟩
      rw [hkl, List.take_length] at hrb
      simp only [Tr.bulk]
      omega

set_option maxRecDepth 100000 in
set_option maxHeartbeats 1000000 in
theorem toDataTypeS_of (es : List (List Tr)) (h5 : ∀ e ∈ es, e.length = 3) (H : ∀ e ∈ es, ToC 208 e) : ToSC 185 3 es := by
  intro s w hs hbk
  obtain ⟨a, cap, rfl, hl, hm⟩ := hs.shape
  unfold maxLen at hm
  have HS := Lib.hid hs
  have HH := Lib.hid H
  have H5 := Lib.hid h5
  have n0 : (0 : Int) ≤ es.length := by omega
  clear hs H h5
  go_enter Tryz.func185, Tryz.ntmps185
  go_wp2_with (refine wpList_make_rep rfl 122 (.tmp 6) rfl es.length rfl 171 Tryz.underlying122 3 64 iszb171 (by omega) (by omega) ?_; intro wm arr0 ha0 hob0 hx0 hz0; have HA0 := Lib.hid ha0; have HOB0 := Lib.hid hob0; have HX0 := Lib.hid hx0; have HZ0 := Lib.hid hz0; clear ha0 hob0 hx0 hz0)
  go_loopw [4] (fun i wr => ∃ (k : Nat) (arr : Array Value), k ≤ es.length ∧ i = .int .i64 k ∧ Ext w wr ∧ w.heap.size < wr.heap.size ∧ OB wr w.heap.size 171 arr ∧ arr.size = es.length * 3 ∧ Part wr w.heap.size arr 3 es k) (fun i _ => es.length - (intOf i).toNat)
  case atStart => exact ⟨0, arr0, Nat.zero_le _, rfl, HX0.out, by rw [HZ0.out]; omega, HOB0.out, HA0.out, Part.zero _ _ _ _ _⟩
  case round =>
    obtain ⟨k, arr, hk, rfl, hw, hgt, hob, hasz, hpart⟩ := hrel
    have HOB := Lib.hid hob
    have HAS := Lib.hid hasz
    have HP := Lib.hid hpart
    clear hob hasz hpart
    by_cases hlt : k < es.length
    · obtain ⟨b, off, cs, rfl, hb, hcs, hc⟩ := (HS.out.ext hw).at2 (k := k) (List.getElem?_eq_getElem hlt)
      have hmem : es[k] ∈ es := List.getElem_mem hlt
      have l5 := H5.out _ hmem
      have hbe := Tr.bulkAll_le hlt
      have HCS := Lib.hid hcs
      have HC := Lib.hid hc
      have HM := Lib.hid hmem
      have HL5 := Lib.hid l5
      have HI : Hid ((Tryz.prog.info? 238).map (·.size) = some cs.length) := by rw [← hcs.length, l5]; exact isz238
      clear hcs hc hmem l5
      go_wp2_with (refine wpList_load_rep rfl 238 (.tmp 18) rfl b (off + k * 3) rfl cs _ Tryz.underlying238 HI.out HC.out ?_)
      refine (HH.out _ HM.out _ _ HCS.out (by omega)).mono ?_; rintro e w1 ⟨cs1, rfl, hw1, ho1⟩
      have HW1 := Lib.hid hw1
      have HO1 := Lib.hid ho1
      have hcl : cs1.length = 3 := ho1.1.trans HL5.out
      have HCL := Lib.hid hcl
      have hfit : 0 + k * 3 + cs1.length ≤ arr.size := by have := HAS.out; omega
      have HF := Lib.hid hfit
      clear hw1 ho1 hcl hfit
      go_wp2_with (refine wpList_store_rep rfl 171 (.tmp 21) (.tmp 20) rfl w.heap.size (k * 3) rfl cs1 rfl 171 arr (HOB.out.ext HW1.out) (by rw [HCL.out]; exact isz171) (by have := HF.out; omega) (HO1.out.rep.one) ?_; intro w2 hob2 hg2 hz2; have HOB2 := Lib.hid hob2; have HG2 := Lib.hid hg2; have HZ2 := Lib.hid hz2; clear hob2 hg2 hz2)
      go_roundw
      case rel =>
        have hfit : k * 3 + cs1.length ≤ arr.size := by have := HF.out; omega
        refine ⟨k + 1, _, by omega, by go_num, ?_, ?_, HOB2.out, by rw [splice_size hfit]; exact HAS.out, HP.out.step hgt HW1.out (List.getElem?_eq_getElem hlt) HO1.out HCL.out HAS.out HG2.out HOB2.out⟩
        · exact grown_ext (hw.trans HW1.out) HG2.out (Nat.le_refl _)
        · have := HW1.out.size
          have := HZ2.out
          omega
      case measure => simp [intOf]; omega
    · have hkl : k = es.length := by omega
      go_wp2_with fail
      go_ret
      subst hkl
      exact ⟨_, rfl, hw, (HP.out.done HOB.out H5.out (Nat.le_refl _) (by unfold maxLen; omega) (Nat.le_refl _)).mono fun x hx => ⟨hx.1, hx.2⟩⟩

set_option maxRecDepth 100000 in
set_option maxHeartbeats 1000000 in
theorem eqDataTypeS_of (es : List (List Tr)) (h5 : ∀ e ∈ es, e.length = 3) (H : ∀ e ∈ es, EqC 211 e) : EqSC 189 3 es := by
  intro s u w hs hu
  obtain ⟨a, cap, rfl, hl, hm⟩ := hs.shape
  obtain ⟨a', cap', rfl, hl', hm'⟩ := hu.shape
  unfold maxLen at hm hm'
  have HS := Lib.hid hs
  have HU := Lib.hid hu
  have HH := Lib.hid H
  have H5 := Lib.hid h5
  clear hs hu H h5
  go_enter Tryz.func189, Tryz.ntmps189
  go_wp2_with fail
  go_loopw [5] (fun i wr => ∃ k : Nat, k ≤ es.length ∧ i = .int .i64 k ∧ Ext w wr) (fun i _ => es.length - (intOf i).toNat)
  case atStart => exact ⟨0, Nat.zero_le _, rfl, .refl _⟩
  case round =>
    obtain ⟨k, hk, rfl, hw⟩ := hrel
    by_cases hlt : k < es.length
    · obtain ⟨b, off, cs, rfl, hb, hcs, hc⟩ := (HS.out.ext hw).at2 (k := k) (List.getElem?_eq_getElem hlt)
      obtain ⟨b', off', ds, rfl, hb', hds, hd⟩ := (HU.out.ext hw).at2 (k := k) (List.getElem?_eq_getElem hlt)
      have hmem : es[k] ∈ es := List.getElem_mem hlt
      have l5 := H5.out _ hmem
      have HCS := Lib.hid hcs
      have HDS := Lib.hid hds
      have HM := Lib.hid hmem
      have HC := Lib.hid hc
      have HD := Lib.hid hd
      have HI : Hid ((Tryz.prog.info? 171).map (·.size) = some cs.length) := by rw [← hcs.length, l5]; exact isz171
      have HJ : Hid ((Tryz.prog.info? 171).map (·.size) = some ds.length) := by rw [← hds.length, l5]; exact isz171
      clear hcs hds hc hd l5 hmem
      go_wp2_with fail
      have ki : (k : Int) < (es.length : Int) := by omega
      have k0 : (0 : Int) ≤ (k : Int) := by omega
      refine wp_region_still_tail 8 (by kernel_rfl) (by kernel_rfl) ?_
      simp only [List.take_succ_cons, List.take_zero, List.drop_succ_cons, List.drop_zero]
      change wpStill _ _ wr.drew _ _ _
      repeat (first
        | (refine wpStill_load_rep rfl 171 (.tmp 19) rfl b (off + k * 3) rfl cs _ Tryz.underlying171 HI.out HC.out ?_; simp only [Act.put])
        | (refine wpStill_load_rep rfl 171 (.tmp 23) rfl b' (off' + k * 3) rfl ds _ Tryz.underlying171 HJ.out HD.out ?_; simp only [Act.put])
        | still_step)
      refine wpStill_nil ?_
      change wpList _ _ _ _ _ wr.drew
      go_wp2_with fail
      refine (HH.out _ HM.out _ _ _ (HCS.out.ext (.drew (.refl _))) (HDS.out.ext (.drew (.refl _)))).mono ?_; rintro e w1 ⟨rfl, hw1⟩
      have HW1 := Lib.hid hw1
      clear hw1
      go_wp2_with fail
      go_roundw
      case rel => exact ⟨k + 1, by omega, by go_num, hw.trans (.trans (.drew (.refl _)) HW1.out)⟩
      case measure => simp [intOf]; omega
    · go_wp2_with fail
      go_ret
      exact ⟨rfl, hw⟩

end Go.Proofs.YtnakkelglbcecaaGreat

namespace Go.Proofs.YtnakkelglbcecaaGreat
open Go.RowKit Go.Proofs

set_option maxRecDepth 100000 in
set_option maxHeartbeats 1000000 in
theorem szSignature_of (v0 : ByteArray) (es1 : List (List Tr)) (ts2 : List Tr) (l2 : ts2.length = 3) (v3 : Bool) (es4 : List (List Tr)) (ts5 : List Tr) (l5 : ts5.length = 9) (h1 : SzSC 101 3 es1) (h2 : SzC 43 ts2) (h4 : SzSC 178 1 es4) (h5 : SzC 220 ts5) : SzC 230 ([.leaf (.string v0)] ++ ([.row 3 es1] ++ (ts2 ++ ([.leaf (.bool v3)] ++ ([.row 1 es4] ++ (ts5 ++ ([]))))))) := by
  intro cs left w hr hl0 hl1
  obtain ⟨r0, rfl, K0, n0⟩ := RepL.sLeaf hr
  obtain ⟨a1, c1, r1, rfl, G1, n1⟩ := RepL.sRow n0
  obtain ⟨x2_0, x2_1, x2_2, r2, rfl, G2, n2⟩ := RepL.sAgg3 n1 l2
  obtain ⟨r3, rfl, K3, n3⟩ := RepL.sLeaf n2
  obtain ⟨a4, c4, r4, rfl, G4, n4⟩ := RepL.sRow n3
  obtain ⟨x5_0, x5_1, x5_2, x5_3, x5_4, x5_5, x5_6, x5_7, x5_8, r5, rfl, G5, n5⟩ := RepL.sAgg9 n4 l5
  obtain rfl := RepL.nil_eq n5
  clear hr n0 n1 n2 n3 n4 n5
  have q0 : v0.size ≤ 9223372036854775807 := by have := K0.out; simp only [LeafOk, maxLen] at this; omega
  go_enter Tryz.func230, Tryz.ntmps230
  go_wp2_with fail
  · go_ret
    exact ⟨-1, rfl, (.alloc (.refl _) _), by omega, by omega, by omega⟩
  refine (h1 _ _ _ (G1.out.1.ext (.alloc (.refl _) _)) (by omega) (by omega)).mono ?_; rintro e w1 ⟨r1, rfl, hw1, ra1, rb1, rc1⟩
  have HW1 := Lib.hid hw1
  have HR1 := Lib.hid rc1
  have ob1 := (OB.new w _ _).ext hw1
  have OBH := Lib.hid ob1
  have ce1 := ob1.cell
  clear hw1 rc1 ob1
  go_wp2_with fail
  · go_ret
    exact ⟨-1, rfl, (Ext.trans (.alloc (.refl _) _) HW1.out), by omega, by omega, by omega⟩
  refine (h2 _ _ _ (G2.out.ext (Ext.trans (.alloc (.refl _) _) HW1.out)) (by omega) (by omega)).mono ?_; rintro e w2 ⟨r2, rfl, hw2, ra2, rb2, rc2⟩
  have HW2 := Lib.hid hw2
  have HR2 := Lib.hid rc2
  have ob2 := OBH.out.ext hw2
  clear OBH ce1
  have OBH := Lib.hid ob2
  have ce2 := ob2.cell
  clear hw2 rc2 ob2
  go_wp2_with fail
  · go_ret
    exact ⟨-1, rfl, (Ext.trans (Ext.trans (.alloc (.refl _) _) HW1.out) HW2.out), by omega, by omega, by omega⟩
  refine (h4 _ _ _ (G4.out.1.ext (Ext.trans (Ext.trans (.alloc (.refl _) _) HW1.out) HW2.out)) (by omega) (by omega)).mono ?_; rintro e w4 ⟨r4, rfl, hw4, ra4, rb4, rc4⟩
  have HW4 := Lib.hid hw4
  have HR4 := Lib.hid rc4
  have ob4 := OBH.out.ext hw4
  clear OBH ce2
  have OBH := Lib.hid ob4
  have ce4 := ob4.cell
  clear hw4 rc4 ob4
  go_wp2_with fail
  · go_ret
    exact ⟨-1, rfl, (Ext.trans (Ext.trans (Ext.trans (.alloc (.refl _) _) HW1.out) HW2.out) HW4.out), by omega, by omega, by omega⟩
  refine (h5 _ _ _ (G5.out.ext (Ext.trans (Ext.trans (Ext.trans (.alloc (.refl _) _) HW1.out) HW2.out) HW4.out)) (by omega) (by omega)).mono ?_; rintro e w5 ⟨r5, rfl, hw5, ra5, rb5, rc5⟩
  have HW5 := Lib.hid hw5
  have HR5 := Lib.hid rc5
  have ob5 := OBH.out.ext hw5
  clear OBH ce4
  have OBH := Lib.hid ob5
  have ce5 := ob5.cell
  clear hw5 rc5 ob5
  go_wp2_with fail
  · go_ret
    exact ⟨-1, rfl, (Ext.trans (Ext.trans (Ext.trans (Ext.trans (.alloc (.refl _) _) HW1.out) HW2.out) HW4.out) HW5.out), by omega, by omega, by omega⟩
  go_ret
  refine ⟨_, rfl, (Ext.trans (Ext.trans (Ext.trans (Ext.trans (.alloc (.refl _) _) HW1.out) HW2.out) HW4.out) HW5.out), by omega, by omega, fun hp => ?_⟩
  have e1 := HR1.out (by omega)
  have e2 := HR2.out (by omega)
  have e4 := HR4.out (by omega)
  have e5 := HR5.out (by omega)
  simp only [Tr.bulkL_append, Tr.bulkL, Tr.bulk]
  simp only [Tr.bulk] at e1 e4
  omega

set_option maxRecDepth 100000 in
set_option maxHeartbeats 1000000 in
theorem toSignature_of (v0 : ByteArray) (es1 : List (List Tr)) (ts2 : List Tr) (l2 : ts2.length = 3) (v3 : Bool) (es4 : List (List Tr)) (ts5 : List Tr) (l5 : ts5.length = 9) (h1 : ToSC 104 3 es1) (h2 : ToC 45 ts2) (h4 : ToSC 183 1 es4) (h5 : ToC 225 ts5) : ToC 236 ([.leaf (.string v0)] ++ ([.row 3 es1] ++ (ts2 ++ ([.leaf (.bool v3)] ++ ([.row 1 es4] ++ (ts5 ++ ([]))))))) := by
  intro cs w hr hbk
  simp only [Tr.bulkL_append, Tr.bulkL, Tr.bulk] at hbk
  obtain ⟨r0, rfl, K0, n0⟩ := RepL.sLeaf hr
  obtain ⟨a1, c1, r1, rfl, G1, n1⟩ := RepL.sRow n0
  obtain ⟨x2_0, x2_1, x2_2, r2, rfl, G2, n2⟩ := RepL.sAgg3 n1 l2
  obtain ⟨r3, rfl, K3, n3⟩ := RepL.sLeaf n2
  obtain ⟨a4, c4, r4, rfl, G4, n4⟩ := RepL.sRow n3
  obtain ⟨x5_0, x5_1, x5_2, x5_3, x5_4, x5_5, x5_6, x5_7, x5_8, r5, rfl, G5, n5⟩ := RepL.sAgg9 n4 l5
  obtain rfl := RepL.nil_eq n5
  clear hr n0 n1 n2 n3 n4 n5
  go_enter Tryz.func236, Tryz.ntmps236
  go_wp2_with fail
  refine (h1 _ _ (G1.out.1.ext (.alloc (.alloc (.alloc (.refl _) _) _) _)) (by omega)).mono ?_; rintro e w1 ⟨d1, rfl, hw1, ho1⟩
  obtain ⟨da1, dc1, rfl, -, -⟩ := ho1.rep.shape
  have HW1 := Lib.hid hw1
  have HO1 := Lib.hid ho1
  have ob1 := (Three.new w _ _ _ _ _ _).ext hw1
  have OBHw1 := Lib.hid ob1
  have cew1 := ob1.o0.cell
  have hzw1 : w.heap.size < w1.heap.size := ob1.o0.lt
  clear hw1 ob1 ho1
  have EW1 := Lib.hid (Ext.trans (.alloc (.alloc (.alloc (.refl _) _) _) _) HW1.out)
  go_wp2_with (first
    | (refine wpList_store_cell rfl 45 _ _ rfl (w.heap.size + 1 + 1) 1 rfl (.slice da1 es1.length dc1) rfl rfl 191 _ OBHw1.out.o2 isz45 (by simp [splice]) rfl ?_; intro u1 hou1 hgu1 hzu1; have OBHu1 := Lib.hid (OBHw1.out.grown hgu1 hou1 (by omega) (by omega)); have HGu1 := Lib.hid hgu1; have ceu1 := OBHu1.out.o0.cell; have hqu1 : w.heap.size < u1.heap.size := OBHu1.out.o0.lt; have EGu1 := Lib.hid (grown_ext EW1.out HGu1.out (by omega)); clear hou1 hgu1 hzu1 OBHw1 cew1))
  refine (h2 _ _ (G2.out.ext EGu1.out) (by omega)).mono ?_; rintro e w2 ⟨d2, rfl, hw2, ho2⟩
  obtain ⟨d2_0, d2_1, d2_2, rfl⟩ := list3 (ho2.1.trans l2)
  have HW2 := Lib.hid hw2
  have HO2 := Lib.hid ho2
  have ob2 := OBHu1.out.ext hw2
  clear OBHu1 ceu1
  have OBHw2 := Lib.hid ob2
  have cew2 := ob2.o0.cell
  have hzw2 : w.heap.size < w2.heap.size := ob2.o0.lt
  clear hw2 ob2 ho2
  have EW2 := Lib.hid (Ext.trans EGu1.out HW2.out)
  go_wp2_with (first
    | (refine wpList_store_rep rfl 47 _ _ rfl (w.heap.size + 1 + 1) 2 rfl [d2_0, d2_1, d2_2] rfl 191 _ OBHw2.out.o2 isz47 (by simp [splice]) HO2.out.rep.one ?_; intro u2 hou2 hgu2 hzu2; have OBHu2 := Lib.hid (OBHw2.out.grown hgu2 hou2 (by omega) (by omega)); have HGu2 := Lib.hid hgu2; have ceu2 := OBHu2.out.o0.cell; have hqu2 : w.heap.size < u2.heap.size := OBHu2.out.o0.lt; have EGu2 := Lib.hid (grown_ext EW2.out HGu2.out (by omega)); clear hou2 hgu2 hzu2 OBHw2 cew2)
    | (refine wpList_store_cell rfl 4 _ _ rfl (w.heap.size + 1 + 1) 5 rfl (.bool v3) rfl rfl 191 _ OBHu2.out.o2 isz4 (by simp [splice]) rfl ?_; intro u3 hou3 hgu3 hzu3; have OBHu3 := Lib.hid (OBHu2.out.grown hgu3 hou3 (by omega) (by omega)); have HGu3 := Lib.hid hgu3; have ceu3 := OBHu3.out.o0.cell; have hqu3 : w.heap.size < u3.heap.size := OBHu3.out.o0.lt; have EGu3 := Lib.hid (grown_ext EGu2.out HGu3.out (by omega)); clear hou3 hgu3 hzu3 OBHu2 ceu2))
  refine (h4 _ _ (G4.out.1.ext EGu3.out) (by omega)).mono ?_; rintro e w4 ⟨d4, rfl, hw4, ho4⟩
  obtain ⟨da4, dc4, rfl, -, -⟩ := ho4.rep.shape
  have HW4 := Lib.hid hw4
  have HO4 := Lib.hid ho4
  have ob4 := OBHu3.out.ext hw4
  clear OBHu3 ceu3
  have OBHw4 := Lib.hid ob4
  have cew4 := ob4.o0.cell
  have hzw4 : w.heap.size < w4.heap.size := ob4.o0.lt
  clear hw4 ob4 ho4
  have EW4 := Lib.hid (Ext.trans EGu3.out HW4.out)
  go_wp2_with (first
    | (refine wpList_store_cell rfl 54 _ _ rfl (w.heap.size + 1 + 1) 6 rfl (.slice da4 es4.length dc4) rfl rfl 191 _ OBHw4.out.o2 isz54 (by simp [splice]) rfl ?_; intro u4 hou4 hgu4 hzu4; have OBHu4 := Lib.hid (OBHw4.out.grown hgu4 hou4 (by omega) (by omega)); have HGu4 := Lib.hid hgu4; have ceu4 := OBHu4.out.o0.cell; have hqu4 : w.heap.size < u4.heap.size := OBHu4.out.o0.lt; have EGu4 := Lib.hid (grown_ext EW4.out HGu4.out (by omega)); clear hou4 hgu4 hzu4 OBHw4 cew4))
  refine (h5 _ _ (G5.out.ext EGu4.out) (by omega)).mono ?_; rintro e w5 ⟨d5, rfl, hw5, ho5⟩
  obtain ⟨d5_0, d5_1, d5_2, d5_3, d5_4, d5_5, d5_6, d5_7, d5_8, rfl⟩ := list9 (ho5.1.trans l5)
  have HW5 := Lib.hid hw5
  have HO5 := Lib.hid ho5
  have ob5 := OBHu4.out.ext hw5
  clear OBHu4 ceu4
  have OBHw5 := Lib.hid ob5
  have cew5 := ob5.o0.cell
  have hzw5 : w.heap.size < w5.heap.size := ob5.o0.lt
  clear hw5 ob5 ho5
  have EW5 := Lib.hid (Ext.trans EGu4.out HW5.out)
  have hone : Hid (∀ v ∈ ([.string v0, .slice da1 es1.length dc1, d2_0, d2_1, d2_2, .bool v3, .slice da4 es4.length dc4, d5_0, d5_1, d5_2, d5_3, d5_4, d5_5, d5_6, d5_7, d5_8] : List Value), v.oneCell' = true) := by
    intro v hv
    simp only [List.mem_cons, List.not_mem_nil, or_false] at hv
    rcases hv with rfl | rfl | rfl | rfl | rfl | rfl | rfl | rfl | rfl | rfl | rfl | rfl | rfl | rfl | rfl | rfl <;> first | rfl | (refine HO2.out.rep.one _ ?_; simp; done) | (refine HO5.out.rep.one _ ?_; simp; done)
  go_wp2_with (first
    | (refine wpList_store_rep rfl 103 _ _ rfl (w.heap.size + 1 + 1) 7 rfl [d5_0, d5_1, d5_2, d5_3, d5_4, d5_5, d5_6, d5_7, d5_8] rfl 191 _ OBHw5.out.o2 isz103 (by simp [splice]) HO5.out.rep.one ?_; intro u5 hou5 hgu5 hzu5; have OBHu5 := Lib.hid (OBHw5.out.grown hgu5 hou5 (by omega) (by omega)); have HGu5 := Lib.hid hgu5; have ceu5 := OBHu5.out.o0.cell; have hqu5 : w.heap.size < u5.heap.size := OBHu5.out.o0.lt; have EGu5 := Lib.hid (grown_ext EW5.out HGu5.out (by omega)); clear hou5 hgu5 hzu5 OBHw5 cew5)
    | (refine wpList_load_rep rfl 191 _ rfl (w.heap.size + 1 + 1) 0 rfl [.string v0, .slice da1 es1.length dc1, d2_0, d2_1, d2_2, .bool v3, .slice da4 es4.length dc4, d5_0, d5_1, d5_2, d5_3, d5_4, d5_5, d5_6, d5_7, d5_8] _ Tryz.underlying191 isz191 (fun j v hv => by rw [OBHu5.out.o2.cell, Nat.zero_add]; simpa [splice] using hv) ?_)
    | (refine wpList_store_rep rfl 191 _ _ rfl (w.heap.size + 1) 0 rfl [.string v0, .slice da1 es1.length dc1, d2_0, d2_1, d2_2, .bool v3, .slice da4 es4.length dc4, d5_0, d5_1, d5_2, d5_3, d5_4, d5_5, d5_6, d5_7, d5_8] rfl 191 _ OBHu5.out.o1 isz191 (by simp) hone.out ?_; intro wz hoz hgz hzz; have HOZ := Lib.hid hoz; have HGZ := Lib.hid hgz; clear hoz hgz hzz))
  have HOF : OB wz (w.heap.size + 1) 191 ⟨[.string v0, .slice da1 es1.length dc1, d2_0, d2_1, d2_2, .bool v3, .slice da4 es4.length dc4, d5_0, d5_1, d5_2, d5_3, d5_4, d5_5, d5_6, d5_7, d5_8]⟩ := HOZ.out
  refine bodyPost_ret (results_cell_row Tryz.results236 _ _ (w.heap.size + 1) 191 ⟨[.string v0, .slice da1 es1.length dc1, d2_0, d2_1, d2_2, .bool v3, .slice da4 es4.length dc4, d5_0, d5_1, d5_2, d5_3, d5_4, d5_5, d5_6, d5_7, d5_8]⟩ _ _ rfl HOF Tryz.underlying191 rfl isz191) rfl ⟨[.string v0, .slice da1 es1.length dc1, d2_0, d2_1, d2_2, .bool v3, .slice da4 es4.length dc4, d5_0, d5_1, d5_2, d5_3, d5_4, d5_5, d5_6, d5_7, d5_8], rfl, (grown_ext EGu5.out HGZ.out (by omega)), ?_⟩
  have sw1 := HW1.out.size
  have su1 := HGu1.out.size
  have sw2 := HW2.out.size
  have su2 := HGu2.out.size
  have su3 := HGu3.out.size
  have sw4 := HW4.out.size
  have su4 := HGu4.out.size
  have sw5 := HW5.out.size
  have su5 := HGu5.out.size
  have swz := HGZ.out.size
  simp only [World.size_alloc] at sw1
  have KPz : Keeps (w.heap.size + 1 + 1 + 1) u5 wz := Keeps.of_grown HGZ.out (by omega)
  have KPu5 : Keeps (w.heap.size + 1 + 1 + 1) w5 wz := Keeps.trans (Keeps.of_grown HGu5.out (by omega)) KPz
  have ow5 := HO5.out.keeps KPu5 (by intro x hx; simp only [Between, World.size_alloc] at hx; omega)
  have KPw5 : Keeps (w.heap.size + 1 + 1 + 1) u4 wz := Keeps.trans (Keeps.of_ext HW5.out) KPu5
  have KPu4 : Keeps (w.heap.size + 1 + 1 + 1) w4 wz := Keeps.trans (Keeps.of_grown HGu4.out (by omega)) KPw5
  have ow4 := HO4.out.keeps KPu4 (by intro x hx; simp only [Between, World.size_alloc] at hx; omega)
  have KPw4 : Keeps (w.heap.size + 1 + 1 + 1) u3 wz := Keeps.trans (Keeps.of_ext HW4.out) KPu4
  have KPu3 : Keeps (w.heap.size + 1 + 1 + 1) u2 wz := Keeps.trans (Keeps.of_grown HGu3.out (by omega)) KPw4
  have KPu2 : Keeps (w.heap.size + 1 + 1 + 1) w2 wz := Keeps.trans (Keeps.of_grown HGu2.out (by omega)) KPu3
  have ow2 := HO2.out.keeps KPu2 (by intro x hx; simp only [Between, World.size_alloc] at hx; omega)
  have KPw2 : Keeps (w.heap.size + 1 + 1 + 1) u1 wz := Keeps.trans (Keeps.of_ext HW2.out) KPu2
  have KPu1 : Keeps (w.heap.size + 1 + 1 + 1) w1 wz := Keeps.trans (Keeps.of_grown HGu1.out (by omega)) KPw2
  have ow1 := HO1.out.keeps KPu1 (by intro x hx; simp only [Between, World.size_alloc] at hx; omega)
  have hall := OwnL.cons_leaf K0.out (OwnL.append (OwnL.one ow1) (OwnL.append (ow2) (OwnL.cons_leaf K3.out (OwnL.append (OwnL.one ow4) (OwnL.append (ow5) (OwnL.nil wz (fun _ => False)) (by intro x hx hy; simp only [Between, World.size_alloc, or_false] at hx hy <;> omega)) (by intro x hx hy; simp only [Between, World.size_alloc, or_false] at hx hy <;> omega))) (by intro x hx hy; simp only [Between, World.size_alloc, or_false] at hx hy <;> omega)) (by intro x hx hy; simp only [Between, World.size_alloc, or_false] at hx hy <;> omega))
  exact hall.mono (by intro x hx; simp only [Between, World.size_alloc, or_false] at hx ⊢; omega)

set_option maxRecDepth 100000 in
set_option maxHeartbeats 1000000 in
theorem eqSignature_of (v0 : ByteArray) (es1 : List (List Tr)) (ts2 : List Tr) (l2 : ts2.length = 3) (v3 : Bool) (es4 : List (List Tr)) (ts5 : List Tr) (l5 : ts5.length = 9) (h1 : EqSC 107 3 es1) (h2 : EqC 47 ts2) (h4 : EqSC 29 1 es4) (h5 : EqC 130 ts5) : EqC 167 ([.leaf (.string v0)] ++ ([.row 3 es1] ++ (ts2 ++ ([.leaf (.bool v3)] ++ ([.row 1 es4] ++ (ts5 ++ ([]))))))) := by
  intro cs ds w hr hr'
  obtain ⟨r0, rfl, K0, n0⟩ := RepL.sLeaf hr
  obtain ⟨a1, c1, r1, rfl, G1, n1⟩ := RepL.sRow n0
  obtain ⟨x2_0, x2_1, x2_2, r2, rfl, G2, n2⟩ := RepL.sAgg3 n1 l2
  obtain ⟨r3, rfl, K3, n3⟩ := RepL.sLeaf n2
  obtain ⟨a4, c4, r4, rfl, G4, n4⟩ := RepL.sRow n3
  obtain ⟨x5_0, x5_1, x5_2, x5_3, x5_4, x5_5, x5_6, x5_7, x5_8, r5, rfl, G5, n5⟩ := RepL.sAgg9 n4 l5
  obtain rfl := RepL.nil_eq n5
  clear hr n0 n1 n2 n3 n4 n5
  obtain ⟨zr0, rfl, zK0, zn0⟩ := RepL.sLeaf hr'
  obtain ⟨za1, zc1, zr1, rfl, zG1, zn1⟩ := RepL.sRow zn0
  obtain ⟨zx2_0, zx2_1, zx2_2, zr2, rfl, zG2, zn2⟩ := RepL.sAgg3 zn1 l2
  obtain ⟨zr3, rfl, zK3, zn3⟩ := RepL.sLeaf zn2
  obtain ⟨za4, zc4, zr4, rfl, zG4, zn4⟩ := RepL.sRow zn3
  obtain ⟨zx5_0, zx5_1, zx5_2, zx5_3, zx5_4, zx5_5, zx5_6, zx5_7, zx5_8, zr5, rfl, zG5, zn5⟩ := RepL.sAgg9 zn4 l5
  obtain rfl := RepL.nil_eq zn5
  clear hr' zn0 zn1 zn2 zn3 zn4 zn5
  go_enter Tryz.func167, Tryz.ntmps167
  go_wp2_with fail
  refine (h1 _ _ _ (G1.out.1.ext (.alloc (.alloc (.refl _) _) _)) (zG1.out.1.ext (.alloc (.alloc (.refl _) _) _))).mono ?_; rintro e w1 ⟨rfl, hw1⟩
  have HW1 := Lib.hid hw1
  have ob1 := (Two.new w _ _ _ _).ext hw1
  have OBH := Lib.hid ob1
  have ce1 := ob1.o0.cell
  have cf1 := ob1.o1.cell
  clear hw1 ob1
  go_wp2_with fail
  refine (h2 _ _ _ (G2.out.ext (Ext.trans (.alloc (.alloc (.refl _) _) _) HW1.out)) (zG2.out.ext (Ext.trans (.alloc (.alloc (.refl _) _) _) HW1.out))).mono ?_; rintro e w2 ⟨rfl, hw2⟩
  have HW2 := Lib.hid hw2
  have ob2 := OBH.out.ext hw2
  clear OBH ce1 cf1
  have OBH := Lib.hid ob2
  have ce2 := ob2.o0.cell
  have cf2 := ob2.o1.cell
  clear hw2 ob2
  go_wp2_with fail
  refine (h4 _ _ _ (G4.out.1.ext (Ext.trans (Ext.trans (.alloc (.alloc (.refl _) _) _) HW1.out) HW2.out)) (zG4.out.1.ext (Ext.trans (Ext.trans (.alloc (.alloc (.refl _) _) _) HW1.out) HW2.out))).mono ?_; rintro e w4 ⟨rfl, hw4⟩
  have HW4 := Lib.hid hw4
  have ob4 := OBH.out.ext hw4
  clear OBH ce2 cf2
  have OBH := Lib.hid ob4
  have ce4 := ob4.o0.cell
  have cf4 := ob4.o1.cell
  clear hw4 ob4
  go_wp2_with fail
  refine (h5 _ _ _ (G5.out.ext (Ext.trans (Ext.trans (Ext.trans (.alloc (.alloc (.refl _) _) _) HW1.out) HW2.out) HW4.out)) (zG5.out.ext (Ext.trans (Ext.trans (Ext.trans (.alloc (.alloc (.refl _) _) _) HW1.out) HW2.out) HW4.out))).mono ?_; rintro e w5 ⟨rfl, hw5⟩
  have HW5 := Lib.hid hw5
  have ob5 := OBH.out.ext hw5
  clear OBH ce4 cf4
  have OBH := Lib.hid ob5
  have ce5 := ob5.o0.cell
  have cf5 := ob5.o1.cell
  clear hw5 ob5
  go_wp2_with fail
  go_ret
  exact ⟨rfl, (Ext.trans (Ext.trans (Ext.trans (Ext.trans (.alloc (.alloc (.refl _) _) _) HW1.out) HW2.out) HW4.out) HW5.out)⟩

set_option maxRecDepth 100000 in
set_option maxHeartbeats 1000000 in
theorem szSignatureS_of (es : List (List Tr)) (h5 : ∀ e ∈ es, e.length = 16) (H : ∀ e ∈ es, SzC 230 e) : SzSC 216 16 es := by
  intro s left w hs h0 h1
  obtain ⟨a, cap, rfl, hl, hm⟩ := hs.shape
  unfold maxLen at hm
  have HS := Lib.hid hs
  have HH := Lib.hid H
  have H5 := Lib.hid h5
  clear hs H h5
  go_enter Tryz.func216, Tryz.ntmps216
  go_wp2_with fail
  · go_ret
    exact ⟨-1, rfl, .refl _, by omega, by omega, by omega⟩
  go_loopw [1, 5] (fun l i wr => ∃ (k : Nat) (r : Int), k ≤ es.length ∧ i = .int .i64 k ∧ l = .int .i64 r ∧ Ext w wr ∧ 0 ≤ r ∧ r + es.length + Tr.bulkAll (es.take k) ≤ left) (fun _ i _ => es.length - (intOf i).toNat)
  case atStart => exact ⟨0, _, Nat.zero_le _, rfl, rfl, .refl _, by omega, by simp [Tr.bulkAll]⟩
  case round =>
    obtain ⟨k, r, hk, rfl, rfl, hw, hr0, hrb⟩ := hrel
    by_cases hlt : k < es.length
    · obtain ⟨b, off, cs, rfl, hb, hcs, hc⟩ := (HS.out.ext hw).at2 (k := k) (List.getElem?_eq_getElem hlt)
      have hmem : es[k] ∈ es := List.getElem_mem hlt
      have l5 := H5.out _ hmem
      have hbt := Lib.hid (Tr.bulkAll_take es k hlt)
      have HCS := Lib.hid hcs
      have HC := Lib.hid hc
      have HM := Lib.hid hmem
      have HI : Hid ((Tryz.prog.info? 277).map (·.size) = some cs.length) := by rw [← hcs.length, l5]; exact isz277
      clear hcs hc hmem l5
      go_wp2_with (refine wpList_load_rep rfl 277 _ rfl b (off + k * 16) rfl cs _ Tryz.underlying277 HI.out HC.out ?_)
      refine (HH.out _ HM.out _ _ _ HCS.out hr0 (by omega)).mono ?_; rintro e w1 ⟨r1, rfl, hw1, hr1, hr2, hr3⟩
      have HR3 := Lib.hid hr3
      have HW1 := Lib.hid hw1
      clear hr3 hw1
      go_wp2_with fail
      · go_ret
        exact ⟨-1, rfl, hw.trans HW1.out, by omega, by omega, by omega⟩
      · go_roundw
        case rel =>
          have p0 : 0 ≤ r1 := by assumption
          have e1 := HR3.out p0
          have e2 := hbt.out
          exact ⟨k + 1, r1, by omega, by go_num, rfl, hw.trans HW1.out, p0, by omega⟩
        case measure => simp [intOf]; omega
    · have hkl : k = es.length := by omega
      go_wp2_with fail
      go_ret
      refine ⟨r, rfl, hw, by omega, by omega, fun _ => ?_⟩
      rw [hkl, List.take_length] at hrb
      simp only [Tr.bulk]
      omega

set_option maxRecDepth 100000 in
set_option maxHeartbeats 1000000 in
theorem toSignatureS_of (es : List (List Tr)) (h5 : ∀ e ∈ es, e.length = 16) (H : ∀ e ∈ es, ToC 236 e) : ToSC 221 16 es := by
  intro s w hs hbk
  obtain ⟨a, cap, rfl, hl, hm⟩ := hs.shape
  unfold maxLen at hm
  have HS := Lib.hid hs
  have HH := Lib.hid H
  have H5 := Lib.hid h5
  have n0 : (0 : Int) ≤ es.length := by omega
  clear hs H h5
  go_enter Tryz.func221, Tryz.ntmps221
  go_wp2_with (refine wpList_make_rep rfl 92 (.tmp 6) rfl es.length rfl 191 Tryz.underlying92 16 264 iszb191 (by omega) (by omega) ?_; intro wm arr0 ha0 hob0 hx0 hz0; have HA0 := Lib.hid ha0; have HOB0 := Lib.hid hob0; have HX0 := Lib.hid hx0; have HZ0 := Lib.hid hz0; clear ha0 hob0 hx0 hz0)
  go_loopw [4] (fun i wr => ∃ (k : Nat) (arr : Array Value), k ≤ es.length ∧ i = .int .i64 k ∧ Ext w wr ∧ w.heap.size < wr.heap.size ∧ OB wr w.heap.size 191 arr ∧ arr.size = es.length * 16 ∧ Part wr w.heap.size arr 16 es k) (fun i _ => es.length - (intOf i).toNat)
  case atStart => exact ⟨0, arr0, Nat.zero_le _, rfl, HX0.out, by rw [HZ0.out]; omega, HOB0.out, HA0.out, Part.zero _ _ _ _ _⟩
  case round =>
    obtain ⟨k, arr, hk, rfl, hw, hgt, hob, hasz, hpart⟩ := hrel
    have HOB := Lib.hid hob
    have HAS := Lib.hid hasz
    have HP := Lib.hid hpart
    clear hob hasz hpart
    by_cases hlt : k < es.length
    · obtain ⟨b, off, cs, rfl, hb, hcs, hc⟩ := (HS.out.ext hw).at2 (k := k) (List.getElem?_eq_getElem hlt)
      have hmem : es[k] ∈ es := List.getElem_mem hlt
      have l5 := H5.out _ hmem
      have hbe := Tr.bulkAll_le hlt
      have HCS := Lib.hid hcs
      have HC := Lib.hid hc
      have HM := Lib.hid hmem
      have HL5 := Lib.hid l5
      have HI : Hid ((Tryz.prog.info? 277).map (·.size) = some cs.length) := by rw [← hcs.length, l5]; exact isz277
      clear hcs hc hmem l5
      go_wp2_with (refine wpList_load_rep rfl 277 (.tmp 18) rfl b (off + k * 16) rfl cs _ Tryz.underlying277 HI.out HC.out ?_)
      refine (HH.out _ HM.out _ _ HCS.out (by omega)).mono ?_; rintro e w1 ⟨cs1, rfl, hw1, ho1⟩
      have HW1 := Lib.hid hw1
      have HO1 := Lib.hid ho1
      have hcl : cs1.length = 16 := ho1.1.trans HL5.out
      have HCL := Lib.hid hcl
      have hfit : 0 + k * 16 + cs1.length ≤ arr.size := by have := HAS.out; omega
      have HF := Lib.hid hfit
      clear hw1 ho1 hcl hfit
      go_wp2_with (refine wpList_store_rep rfl 191 (.tmp 21) (.tmp 20) rfl w.heap.size (k * 16) rfl cs1 rfl 191 arr (HOB.out.ext HW1.out) (by rw [HCL.out]; exact isz191) (by have := HF.out; omega) (HO1.out.rep.one) ?_; intro w2 hob2 hg2 hz2; have HOB2 := Lib.hid hob2; have HG2 := Lib.hid hg2; have HZ2 := Lib.hid hz2; clear hob2 hg2 hz2)
      go_roundw
      case rel =>
        have hfit : k * 16 + cs1.length ≤ arr.size := by have := HF.out; omega
        refine ⟨k + 1, _, by omega, by go_num, ?_, ?_, HOB2.out, by rw [splice_size hfit]; exact HAS.out, HP.out.step hgt HW1.out (List.getElem?_eq_getElem hlt) HO1.out HCL.out HAS.out HG2.out HOB2.out⟩
        · exact grown_ext (hw.trans HW1.out) HG2.out (Nat.le_refl _)
        · have := HW1.out.size
          have := HZ2.out
          omega
      case measure => simp [intOf]; omega
    · have hkl : k = es.length := by omega
      go_wp2_with fail
      go_ret
      subst hkl
      exact ⟨_, rfl, hw, (HP.out.done HOB.out H5.out (Nat.le_refl _) (by unfold maxLen; omega) (Nat.le_refl _)).mono fun x hx => ⟨hx.1, hx.2⟩⟩

set_option maxRecDepth 100000 in
set_option maxHeartbeats 1000000 in
theorem eqSignatureS_of (es : List (List Tr)) (h5 : ∀ e ∈ es, e.length = 16) (H : ∀ e ∈ es, EqC 167 e) : EqSC 122 16 es := by
  intro s u w hs hu
  obtain ⟨a, cap, rfl, hl, hm⟩ := hs.shape
  obtain ⟨a', cap', rfl, hl', hm'⟩ := hu.shape
  unfold maxLen at hm hm'
  have HS := Lib.hid hs
  have HU := Lib.hid hu
  have HH := Lib.hid H
  have H5 := Lib.hid h5
  clear hs hu H h5
  go_enter Tryz.func122, Tryz.ntmps122
  go_wp2_with fail
  go_loopw [5] (fun i wr => ∃ k : Nat, k ≤ es.length ∧ i = .int .i64 k ∧ Ext w wr) (fun i _ => es.length - (intOf i).toNat)
  case atStart => exact ⟨0, Nat.zero_le _, rfl, .refl _⟩
  case round =>
    obtain ⟨k, hk, rfl, hw⟩ := hrel
    by_cases hlt : k < es.length
    · obtain ⟨b, off, cs, rfl, hb, hcs, hc⟩ := (HS.out.ext hw).at2 (k := k) (List.getElem?_eq_getElem hlt)
      obtain ⟨b', off', ds, rfl, hb', hds, hd⟩ := (HU.out.ext hw).at2 (k := k) (List.getElem?_eq_getElem hlt)
      have hmem : es[k] ∈ es := List.getElem_mem hlt
      have l5 := H5.out _ hmem
      have HCS := Lib.hid hcs
      have HDS := Lib.hid hds
      have HM := Lib.hid hmem
      have HC := Lib.hid hc
      have HD := Lib.hid hd
      have HI : Hid ((Tryz.prog.info? 191).map (·.size) = some cs.length) := by rw [← hcs.length, l5]; exact isz191
      have HJ : Hid ((Tryz.prog.info? 191).map (·.size) = some ds.length) := by rw [← hds.length, l5]; exact isz191
      clear hcs hds hc hd l5 hmem
      go_wp2_with fail
      have ki : (k : Int) < (es.length : Int) := by omega
      have k0 : (0 : Int) ≤ (k : Int) := by omega
      refine wp_region_still_tail 8 (by kernel_rfl) (by kernel_rfl) ?_
      simp only [List.take_succ_cons, List.take_zero, List.drop_succ_cons, List.drop_zero]
      change wpStill _ _ wr.drew _ _ _
      repeat (first
        | (refine wpStill_load_rep rfl 191 (.tmp 19) rfl b (off + k * 16) rfl cs _ Tryz.underlying191 HI.out HC.out ?_; simp only [Act.put])
        | (refine wpStill_load_rep rfl 191 (.tmp 23) rfl b' (off' + k * 16) rfl ds _ Tryz.underlying191 HJ.out HD.out ?_; simp only [Act.put])
        | still_step)
      refine wpStill_nil ?_
      change wpList _ _ _ _ _ wr.drew
      go_wp2_with fail
      refine (HH.out _ HM.out _ _ _ (HCS.out.ext (.drew (.refl _))) (HDS.out.ext (.drew (.refl _)))).mono ?_; rintro e w1 ⟨rfl, hw1⟩
      have HW1 := Lib.hid hw1
      clear hw1
      go_wp2_with fail
      go_roundw
      case rel => exact ⟨k + 1, by omega, by go_num, hw.trans (.trans (.drew (.refl _)) HW1.out)⟩
      case measure => simp [intOf]; omega
    · go_wp2_with fail
      go_ret
      exact ⟨rfl, hw⟩

end Go.Proofs.YtnakkelglbcecaaGreat

namespace Go.Proofs.YtnakkelglbcecaaGreat
open Go.RowKit Go.Proofs

set_option maxRecDepth 100000 in
set_option maxHeartbeats 1000000 in
theorem szTrait_of (v0 : ByteArray) (es1 : List (List Tr)) (v2 : Bool) (v3 : Bool) (es4 : List (List Tr)) (h1 : SzSC 178 1 es1) (h4 : SzSC 216 16 es4) : SzC 203 ([.leaf (.string v0)] ++ ([.row 1 es1] ++ ([.leaf (.bool v2)] ++ ([.leaf (.bool v3)] ++ ([.row 16 es4] ++ ([])))))) := by
  intro cs left w hr hl0 hl1
  obtain ⟨r0, rfl, K0, n0⟩ := RepL.sLeaf hr
  obtain ⟨a1, c1, r1, rfl, G1, n1⟩ := RepL.sRow n0
  obtain ⟨r2, rfl, K2, n2⟩ := RepL.sLeaf n1
  obtain ⟨r3, rfl, K3, n3⟩ := RepL.sLeaf n2
  obtain ⟨a4, c4, r4, rfl, G4, n4⟩ := RepL.sRow n3
  obtain rfl := RepL.nil_eq n4
  clear hr n0 n1 n2 n3 n4
  have q0 : v0.size ≤ 9223372036854775807 := by have := K0.out; simp only [LeafOk, maxLen] at this; omega
  go_enter Tryz.func203, Tryz.ntmps203
  go_wp2_with fail
  · go_ret
    exact ⟨-1, rfl, (.alloc (.refl _) _), by omega, by omega, by omega⟩
  refine (h1 _ _ _ (G1.out.1.ext (.alloc (.refl _) _)) (by omega) (by omega)).mono ?_; rintro e w1 ⟨r1, rfl, hw1, ra1, rb1, rc1⟩
  have HW1 := Lib.hid hw1
  have HR1 := Lib.hid rc1
  have ob1 := (OB.new w _ _).ext hw1
  have OBH := Lib.hid ob1
  have ce1 := ob1.cell
  clear hw1 rc1 ob1
  go_wp2_with fail
  · go_ret
    exact ⟨-1, rfl, (Ext.trans (.alloc (.refl _) _) HW1.out), by omega, by omega, by omega⟩
  refine (h4 _ _ _ (G4.out.1.ext (Ext.trans (.alloc (.refl _) _) HW1.out)) (by omega) (by omega)).mono ?_; rintro e w4 ⟨r4, rfl, hw4, ra4, rb4, rc4⟩
  have HW4 := Lib.hid hw4
  have HR4 := Lib.hid rc4
  have ob4 := OBH.out.ext hw4
  clear OBH ce1
  have OBH := Lib.hid ob4
  have ce4 := ob4.cell
  clear hw4 rc4 ob4
  go_wp2_with fail
  · go_ret
    exact ⟨-1, rfl, (Ext.trans (Ext.trans (.alloc (.refl _) _) HW1.out) HW4.out), by omega, by omega, by omega⟩
  go_ret
  refine ⟨_, rfl, (Ext.trans (Ext.trans (.alloc (.refl _) _) HW1.out) HW4.out), by omega, by omega, fun hp => ?_⟩
  have e1 := HR1.out (by omega)
  have e4 := HR4.out (by omega)
  simp only [Tr.bulkL_append, Tr.bulkL, Tr.bulk]
  simp only [Tr.bulk] at e1 e4
  omega

set_option maxRecDepth 100000 in
set_option maxHeartbeats 1000000 in
theorem toTrait_of (v0 : ByteArray) (es1 : List (List Tr)) (v2 : Bool) (v3 : Bool) (es4 : List (List Tr)) (h1 : ToSC 183 1 es1) (h4 : ToSC 221 16 es4) : ToC 207 ([.leaf (.string v0)] ++ ([.row 1 es1] ++ ([.leaf (.bool v2)] ++ ([.leaf (.bool v3)] ++ ([.row 16 es4] ++ ([])))))) := by
  intro cs w hr hbk
  simp only [Tr.bulkL_append, Tr.bulkL, Tr.bulk] at hbk
  obtain ⟨r0, rfl, K0, n0⟩ := RepL.sLeaf hr
  obtain ⟨a1, c1, r1, rfl, G1, n1⟩ := RepL.sRow n0
  obtain ⟨r2, rfl, K2, n2⟩ := RepL.sLeaf n1
  obtain ⟨r3, rfl, K3, n3⟩ := RepL.sLeaf n2
  obtain ⟨a4, c4, r4, rfl, G4, n4⟩ := RepL.sRow n3
  obtain rfl := RepL.nil_eq n4
  clear hr n0 n1 n2 n3 n4
  go_enter Tryz.func207, Tryz.ntmps207
  go_wp2_with fail
  refine (h1 _ _ (G1.out.1.ext (.alloc (.alloc (.alloc (.refl _) _) _) _)) (by omega)).mono ?_; rintro e w1 ⟨d1, rfl, hw1, ho1⟩
  obtain ⟨da1, dc1, rfl, -, -⟩ := ho1.rep.shape
  have HW1 := Lib.hid hw1
  have HO1 := Lib.hid ho1
  have ob1 := (Three.new w _ _ _ _ _ _).ext hw1
  have OBHw1 := Lib.hid ob1
  have cew1 := ob1.o0.cell
  have hzw1 : w.heap.size < w1.heap.size := ob1.o0.lt
  clear hw1 ob1 ho1
  have EW1 := Lib.hid (Ext.trans (.alloc (.alloc (.alloc (.refl _) _) _) _) HW1.out)
  go_wp2_with (first
    | (refine wpList_store_cell rfl 54 _ _ rfl (w.heap.size + 1 + 1) 1 rfl (.slice da1 es1.length dc1) rfl rfl 94 _ OBHw1.out.o2 isz54 (by simp [splice]) rfl ?_; intro u1 hou1 hgu1 hzu1; have OBHu1 := Lib.hid (OBHw1.out.grown hgu1 hou1 (by omega) (by omega)); have HGu1 := Lib.hid hgu1; have ceu1 := OBHu1.out.o0.cell; have hqu1 : w.heap.size < u1.heap.size := OBHu1.out.o0.lt; have EGu1 := Lib.hid (grown_ext EW1.out HGu1.out (by omega)); clear hou1 hgu1 hzu1 OBHw1 cew1)
    | (refine wpList_store_cell rfl 4 _ _ rfl (w.heap.size + 1 + 1) 2 rfl (.bool v2) rfl rfl 94 _ OBHu1.out.o2 isz4 (by simp [splice]) rfl ?_; intro u2 hou2 hgu2 hzu2; have OBHu2 := Lib.hid (OBHu1.out.grown hgu2 hou2 (by omega) (by omega)); have HGu2 := Lib.hid hgu2; have ceu2 := OBHu2.out.o0.cell; have hqu2 : w.heap.size < u2.heap.size := OBHu2.out.o0.lt; have EGu2 := Lib.hid (grown_ext EGu1.out HGu2.out (by omega)); clear hou2 hgu2 hzu2 OBHu1 ceu1)
    | (refine wpList_store_cell rfl 4 _ _ rfl (w.heap.size + 1 + 1) 3 rfl (.bool v3) rfl rfl 94 _ OBHu2.out.o2 isz4 (by simp [splice]) rfl ?_; intro u3 hou3 hgu3 hzu3; have OBHu3 := Lib.hid (OBHu2.out.grown hgu3 hou3 (by omega) (by omega)); have HGu3 := Lib.hid hgu3; have ceu3 := OBHu3.out.o0.cell; have hqu3 : w.heap.size < u3.heap.size := OBHu3.out.o0.lt; have EGu3 := Lib.hid (grown_ext EGu2.out HGu3.out (by omega)); clear hou3 hgu3 hzu3 OBHu2 ceu2))
  refine (h4 _ _ (G4.out.1.ext EGu3.out) (by omega)).mono ?_; rintro e w4 ⟨d4, rfl, hw4, ho4⟩
  obtain ⟨da4, dc4, rfl, -, -⟩ := ho4.rep.shape
  have HW4 := Lib.hid hw4
  have HO4 := Lib.hid ho4
  have ob4 := OBHu3.out.ext hw4
  clear OBHu3 ceu3
  have OBHw4 := Lib.hid ob4
  have cew4 := ob4.o0.cell
  have hzw4 : w.heap.size < w4.heap.size := ob4.o0.lt
  clear hw4 ob4 ho4
  have EW4 := Lib.hid (Ext.trans EGu3.out HW4.out)
  have hone : Hid (∀ v ∈ ([.string v0, .slice da1 es1.length dc1, .bool v2, .bool v3, .slice da4 es4.length dc4] : List Value), v.oneCell' = true) := by
    intro v hv
    simp only [List.mem_cons, List.not_mem_nil, or_false] at hv
    rcases hv with rfl | rfl | rfl | rfl | rfl <;> first | rfl
  go_wp2_with (first
    | (refine wpList_store_cell rfl 92 _ _ rfl (w.heap.size + 1 + 1) 4 rfl (.slice da4 es4.length dc4) rfl rfl 94 _ OBHw4.out.o2 isz92 (by simp [splice]) rfl ?_; intro u4 hou4 hgu4 hzu4; have OBHu4 := Lib.hid (OBHw4.out.grown hgu4 hou4 (by omega) (by omega)); have HGu4 := Lib.hid hgu4; have ceu4 := OBHu4.out.o0.cell; have hqu4 : w.heap.size < u4.heap.size := OBHu4.out.o0.lt; have EGu4 := Lib.hid (grown_ext EW4.out HGu4.out (by omega)); clear hou4 hgu4 hzu4 OBHw4 cew4)
    | (refine wpList_load_rep rfl 94 _ rfl (w.heap.size + 1 + 1) 0 rfl [.string v0, .slice da1 es1.length dc1, .bool v2, .bool v3, .slice da4 es4.length dc4] _ Tryz.underlying94 isz94 (fun j v hv => by rw [OBHu4.out.o2.cell, Nat.zero_add]; simpa [splice] using hv) ?_)
    | (refine wpList_store_rep rfl 94 _ _ rfl (w.heap.size + 1) 0 rfl [.string v0, .slice da1 es1.length dc1, .bool v2, .bool v3, .slice da4 es4.length dc4] rfl 94 _ OBHu4.out.o1 isz94 (by simp) hone.out ?_; intro wz hoz hgz hzz; have HOZ := Lib.hid hoz; have HGZ := Lib.hid hgz; clear hoz hgz hzz))
  have HOF : OB wz (w.heap.size + 1) 94 ⟨[.string v0, .slice da1 es1.length dc1, .bool v2, .bool v3, .slice da4 es4.length dc4]⟩ := HOZ.out
  refine bodyPost_ret (results_cell_row Tryz.results207 _ _ (w.heap.size + 1) 94 ⟨[.string v0, .slice da1 es1.length dc1, .bool v2, .bool v3, .slice da4 es4.length dc4]⟩ _ _ rfl HOF Tryz.underlying94 rfl isz94) rfl ⟨[.string v0, .slice da1 es1.length dc1, .bool v2, .bool v3, .slice da4 es4.length dc4], rfl, (grown_ext EGu4.out HGZ.out (by omega)), ?_⟩
  have sw1 := HW1.out.size
  have su1 := HGu1.out.size
  have su2 := HGu2.out.size
  have su3 := HGu3.out.size
  have sw4 := HW4.out.size
  have su4 := HGu4.out.size
  have swz := HGZ.out.size
  simp only [World.size_alloc] at sw1
  have KPz : Keeps (w.heap.size + 1 + 1 + 1) u4 wz := Keeps.of_grown HGZ.out (by omega)
  have KPu4 : Keeps (w.heap.size + 1 + 1 + 1) w4 wz := Keeps.trans (Keeps.of_grown HGu4.out (by omega)) KPz
  have ow4 := HO4.out.keeps KPu4 (by intro x hx; simp only [Between, World.size_alloc] at hx; omega)
  have KPw4 : Keeps (w.heap.size + 1 + 1 + 1) u3 wz := Keeps.trans (Keeps.of_ext HW4.out) KPu4
  have KPu3 : Keeps (w.heap.size + 1 + 1 + 1) u2 wz := Keeps.trans (Keeps.of_grown HGu3.out (by omega)) KPw4
  have KPu2 : Keeps (w.heap.size + 1 + 1 + 1) u1 wz := Keeps.trans (Keeps.of_grown HGu2.out (by omega)) KPu3
  have KPu1 : Keeps (w.heap.size + 1 + 1 + 1) w1 wz := Keeps.trans (Keeps.of_grown HGu1.out (by omega)) KPu2
  have ow1 := HO1.out.keeps KPu1 (by intro x hx; simp only [Between, World.size_alloc] at hx; omega)
  have hall := OwnL.cons_leaf K0.out (OwnL.append (OwnL.one ow1) (OwnL.cons_leaf K2.out (OwnL.cons_leaf K3.out (OwnL.append (OwnL.one ow4) (OwnL.nil wz (fun _ => False)) (by intro x hx hy; simp only [Between, World.size_alloc, or_false] at hx hy <;> omega)))) (by intro x hx hy; simp only [Between, World.size_alloc, or_false] at hx hy <;> omega))
  exact hall.mono (by intro x hx; simp only [Between, World.size_alloc, or_false] at hx ⊢; omega)

set_option maxRecDepth 100000 in
set_option maxHeartbeats 1000000 in
theorem eqTrait_of (v0 : ByteArray) (es1 : List (List Tr)) (v2 : Bool) (v3 : Bool) (es4 : List (List Tr)) (h1 : EqSC 29 1 es1) (h4 : EqSC 122 16 es4) : EqC 68 ([.leaf (.string v0)] ++ ([.row 1 es1] ++ ([.leaf (.bool v2)] ++ ([.leaf (.bool v3)] ++ ([.row 16 es4] ++ ([])))))) := by
  intro cs ds w hr hr'
  obtain ⟨r0, rfl, K0, n0⟩ := RepL.sLeaf hr
  obtain ⟨a1, c1, r1, rfl, G1, n1⟩ := RepL.sRow n0
  obtain ⟨r2, rfl, K2, n2⟩ := RepL.sLeaf n1
  obtain ⟨r3, rfl, K3, n3⟩ := RepL.sLeaf n2
  obtain ⟨a4, c4, r4, rfl, G4, n4⟩ := RepL.sRow n3
  obtain rfl := RepL.nil_eq n4
  clear hr n0 n1 n2 n3 n4
  obtain ⟨zr0, rfl, zK0, zn0⟩ := RepL.sLeaf hr'
  obtain ⟨za1, zc1, zr1, rfl, zG1, zn1⟩ := RepL.sRow zn0
  obtain ⟨zr2, rfl, zK2, zn2⟩ := RepL.sLeaf zn1
  obtain ⟨zr3, rfl, zK3, zn3⟩ := RepL.sLeaf zn2
  obtain ⟨za4, zc4, zr4, rfl, zG4, zn4⟩ := RepL.sRow zn3
  obtain rfl := RepL.nil_eq zn4
  clear hr' zn0 zn1 zn2 zn3 zn4
  go_enter Tryz.func68, Tryz.ntmps68
  go_wp2_with fail
  refine (h1 _ _ _ (G1.out.1.ext (.alloc (.alloc (.refl _) _) _)) (zG1.out.1.ext (.alloc (.alloc (.refl _) _) _))).mono ?_; rintro e w1 ⟨rfl, hw1⟩
  have HW1 := Lib.hid hw1
  have ob1 := (Two.new w _ _ _ _).ext hw1
  have OBH := Lib.hid ob1
  have ce1 := ob1.o0.cell
  have cf1 := ob1.o1.cell
  clear hw1 ob1
  go_wp2_with fail
  refine (h4 _ _ _ (G4.out.1.ext (Ext.trans (.alloc (.alloc (.refl _) _) _) HW1.out)) (zG4.out.1.ext (Ext.trans (.alloc (.alloc (.refl _) _) _) HW1.out))).mono ?_; rintro e w4 ⟨rfl, hw4⟩
  have HW4 := Lib.hid hw4
  have ob4 := OBH.out.ext hw4
  clear OBH ce1 cf1
  have OBH := Lib.hid ob4
  have ce4 := ob4.o0.cell
  have cf4 := ob4.o1.cell
  clear hw4 ob4
  go_wp2_with fail
  go_ret
  exact ⟨rfl, (Ext.trans (Ext.trans (.alloc (.alloc (.refl _) _) _) HW1.out) HW4.out)⟩

set_option maxRecDepth 100000 in
set_option maxHeartbeats 1000000 in
theorem szTraitS_of (es : List (List Tr)) (h5 : ∀ e ∈ es, e.length = 5) (H : ∀ e ∈ es, SzC 203 e) : SzSC 179 5 es := by
  intro s left w hs h0 h1
  obtain ⟨a, cap, rfl, hl, hm⟩ := hs.shape
  unfold maxLen at hm
  have HS := Lib.hid hs
  have HH := Lib.hid H
  have H5 := Lib.hid h5
  clear hs H h5
  go_enter Tryz.func179, Tryz.ntmps179
  go_wp2_with fail
  · go_ret
    exact ⟨-1, rfl, .refl _, by omega, by omega, by omega⟩
  go_loopw [1, 5] (fun l i wr => ∃ (k : Nat) (r : Int), k ≤ es.length ∧ i = .int .i64 k ∧ l = .int .i64 r ∧ Ext w wr ∧ 0 ≤ r ∧ r + es.length + Tr.bulkAll (es.take k) ≤ left) (fun _ i _ => es.length - (intOf i).toNat)
  case atStart => exact ⟨0, _, Nat.zero_le _, rfl, rfl, .refl _, by omega, by simp [Tr.bulkAll]⟩
  case round =>
    obtain ⟨k, r, hk, rfl, rfl, hw, hr0, hrb⟩ := hrel
    by_cases hlt : k < es.length
    · obtain ⟨b, off, cs, rfl, hb, hcs, hc⟩ := (HS.out.ext hw).at2 (k := k) (List.getElem?_eq_getElem hlt)
      have hmem : es[k] ∈ es := List.getElem_mem hlt
      have l5 := H5.out _ hmem
      have hbt := Lib.hid (Tr.bulkAll_take es k hlt)
      have HCS := Lib.hid hcs
      have HC := Lib.hid hc
      have HM := Lib.hid hmem
      have HI : Hid ((Tryz.prog.info? 234).map (·.size) = some cs.length) := by rw [← hcs.length, l5]; exact isz234
      clear hcs hc hmem l5
      go_wp2_with (refine wpList_load_rep rfl 234 _ rfl b (off + k * 5) rfl cs _ Tryz.underlying234 HI.out HC.out ?_)
      refine (HH.out _ HM.out _ _ _ HCS.out hr0 (by omega)).mono ?_; rintro e w1 ⟨r1, rfl, hw1, hr1, hr2, hr3⟩
      have HR3 := Lib.hid hr3
      have HW1 := Lib.hid hw1
      clear hr3 hw1
      go_wp2_with fail
      · go_ret
        exact ⟨-1, rfl, hw.trans HW1.out, by omega, by omega, by omega⟩
      · go_roundw
        case rel =>
          have p0 : 0 ≤ r1 := by assumption
          have e1 := HR3.out p0
          have e2 := hbt.out
          exact ⟨k + 1, r1, by omega, by go_num, rfl, hw.trans HW1.out, p0, by omega⟩
        case measure => simp [intOf]; omega
    · have hkl : k = es.length := by omega
      go_wp2_with fail
      go_ret
      refine ⟨r, rfl, hw, by omega, by omega, fun _ => ?_⟩
      rw [hkl, List.take_length] at hrb
      simp only [Tr.bulk]
      omega

set_option maxRecDepth 100000 in
set_option maxHeartbeats 1000000 in
theorem toTraitS_of (es : List (List Tr)) (h5 : ∀ e ∈ es, e.length = 5) (H : ∀ e ∈ es, ToC 207 e) : ToSC 184 5 es := by
  intro s w hs hbk
  obtain ⟨a, cap, rfl, hl, hm⟩ := hs.shape
  unfold maxLen at hm
  have HS := Lib.hid hs
  have HH := Lib.hid H
  have H5 := Lib.hid h5
  have n0 : (0 : Int) ≤ es.length := by omega
  clear hs H h5
  go_enter Tryz.func184, Tryz.ntmps184
  go_wp2_with (refine wpList_make_rep rfl 121 (.tmp 6) rfl es.length rfl 94 Tryz.underlying121 5 72 iszb94 (by omega) (by omega) ?_; intro wm arr0 ha0 hob0 hx0 hz0; have HA0 := Lib.hid ha0; have HOB0 := Lib.hid hob0; have HX0 := Lib.hid hx0; have HZ0 := Lib.hid hz0; clear ha0 hob0 hx0 hz0)
  go_loopw [4] (fun i wr => ∃ (k : Nat) (arr : Array Value), k ≤ es.length ∧ i = .int .i64 k ∧ Ext w wr ∧ w.heap.size < wr.heap.size ∧ OB wr w.heap.size 94 arr ∧ arr.size = es.length * 5 ∧ Part wr w.heap.size arr 5 es k) (fun i _ => es.length - (intOf i).toNat)
  case atStart => exact ⟨0, arr0, Nat.zero_le _, rfl, HX0.out, by rw [HZ0.out]; omega, HOB0.out, HA0.out, Part.zero _ _ _ _ _⟩
  case round =>
    obtain ⟨k, arr, hk, rfl, hw, hgt, hob, hasz, hpart⟩ := hrel
    have HOB := Lib.hid hob
    have HAS := Lib.hid hasz
    have HP := Lib.hid hpart
    clear hob hasz hpart
    by_cases hlt : k < es.length
    · obtain ⟨b, off, cs, rfl, hb, hcs, hc⟩ := (HS.out.ext hw).at2 (k := k) (List.getElem?_eq_getElem hlt)
      have hmem : es[k] ∈ es := List.getElem_mem hlt
      have l5 := H5.out _ hmem
      have hbe := Tr.bulkAll_le hlt
      have HCS := Lib.hid hcs
      have HC := Lib.hid hc
      have HM := Lib.hid hmem
      have HL5 := Lib.hid l5
      have HI : Hid ((Tryz.prog.info? 234).map (·.size) = some cs.length) := by rw [← hcs.length, l5]; exact isz234
      clear hcs hc hmem l5
      go_wp2_with (refine wpList_load_rep rfl 234 (.tmp 18) rfl b (off + k * 5) rfl cs _ Tryz.underlying234 HI.out HC.out ?_)
      refine (HH.out _ HM.out _ _ HCS.out (by omega)).mono ?_; rintro e w1 ⟨cs1, rfl, hw1, ho1⟩
      have HW1 := Lib.hid hw1
      have HO1 := Lib.hid ho1
      have hcl : cs1.length = 5 := ho1.1.trans HL5.out
      have HCL := Lib.hid hcl
      have hfit : 0 + k * 5 + cs1.length ≤ arr.size := by have := HAS.out; omega
      have HF := Lib.hid hfit
      clear hw1 ho1 hcl hfit
      go_wp2_with (refine wpList_store_rep rfl 94 (.tmp 21) (.tmp 20) rfl w.heap.size (k * 5) rfl cs1 rfl 94 arr (HOB.out.ext HW1.out) (by rw [HCL.out]; exact isz94) (by have := HF.out; omega) (HO1.out.rep.one) ?_; intro w2 hob2 hg2 hz2; have HOB2 := Lib.hid hob2; have HG2 := Lib.hid hg2; have HZ2 := Lib.hid hz2; clear hob2 hg2 hz2)
      go_roundw
      case rel =>
        have hfit : k * 5 + cs1.length ≤ arr.size := by have := HF.out; omega
        refine ⟨k + 1, _, by omega, by go_num, ?_, ?_, HOB2.out, by rw [splice_size hfit]; exact HAS.out, HP.out.step hgt HW1.out (List.getElem?_eq_getElem hlt) HO1.out HCL.out HAS.out HG2.out HOB2.out⟩
        · exact grown_ext (hw.trans HW1.out) HG2.out (Nat.le_refl _)
        · have := HW1.out.size
          have := HZ2.out
          omega
      case measure => simp [intOf]; omega
    · have hkl : k = es.length := by omega
      go_wp2_with fail
      go_ret
      subst hkl
      exact ⟨_, rfl, hw, (HP.out.done HOB.out H5.out (Nat.le_refl _) (by unfold maxLen; omega) (Nat.le_refl _)).mono fun x hx => ⟨hx.1, hx.2⟩⟩

set_option maxRecDepth 100000 in
set_option maxHeartbeats 1000000 in
theorem eqTraitS_of (es : List (List Tr)) (h5 : ∀ e ∈ es, e.length = 5) (H : ∀ e ∈ es, EqC 68 e) : EqSC 188 5 es := by
  intro s u w hs hu
  obtain ⟨a, cap, rfl, hl, hm⟩ := hs.shape
  obtain ⟨a', cap', rfl, hl', hm'⟩ := hu.shape
  unfold maxLen at hm hm'
  have HS := Lib.hid hs
  have HU := Lib.hid hu
  have HH := Lib.hid H
  have H5 := Lib.hid h5
  clear hs hu H h5
  go_enter Tryz.func188, Tryz.ntmps188
  go_wp2_with fail
  go_loopw [5] (fun i wr => ∃ k : Nat, k ≤ es.length ∧ i = .int .i64 k ∧ Ext w wr) (fun i _ => es.length - (intOf i).toNat)
  case atStart => exact ⟨0, Nat.zero_le _, rfl, .refl _⟩
  case round =>
    obtain ⟨k, hk, rfl, hw⟩ := hrel
    by_cases hlt : k < es.length
    · obtain ⟨b, off, cs, rfl, hb, hcs, hc⟩ := (HS.out.ext hw).at2 (k := k) (List.getElem?_eq_getElem hlt)
      obtain ⟨b', off', ds, rfl, hb', hds, hd⟩ := (HU.out.ext hw).at2 (k := k) (List.getElem?_eq_getElem hlt)
      have hmem : es[k] ∈ es := List.getElem_mem hlt
      have l5 := H5.out _ hmem
      have HCS := Lib.hid hcs
      have HDS := Lib.hid hds
      have HM := Lib.hid hmem
      have HC := Lib.hid hc
      have HD := Lib.hid hd
      have HI : Hid ((Tryz.prog.info? 94).map (·.size) = some cs.length) := by rw [← hcs.length, l5]; exact isz94
      have HJ : Hid ((Tryz.prog.info? 94).map (·.size) = some ds.length) := by rw [← hds.length, l5]; exact isz94
      clear hcs hds hc hd l5 hmem
      go_wp2_with fail
      have ki : (k : Int) < (es.length : Int) := by omega
      have k0 : (0 : Int) ≤ (k : Int) := by omega
      refine wp_region_still_tail 8 (by kernel_rfl) (by kernel_rfl) ?_
      simp only [List.take_succ_cons, List.take_zero, List.drop_succ_cons, List.drop_zero]
      change wpStill _ _ wr.drew _ _ _
      repeat (first
        | (refine wpStill_load_rep rfl 94 (.tmp 19) rfl b (off + k * 5) rfl cs _ Tryz.underlying94 HI.out HC.out ?_; simp only [Act.put])
        | (refine wpStill_load_rep rfl 94 (.tmp 23) rfl b' (off' + k * 5) rfl ds _ Tryz.underlying94 HJ.out HD.out ?_; simp only [Act.put])
        | still_step)
      refine wpStill_nil ?_
      change wpList _ _ _ _ _ wr.drew
      go_wp2_with fail
      refine (HH.out _ HM.out _ _ _ (HCS.out.ext (.drew (.refl _))) (HDS.out.ext (.drew (.refl _)))).mono ?_; rintro e w1 ⟨rfl, hw1⟩
      have HW1 := Lib.hid hw1
      clear hw1
      go_wp2_with fail
      go_roundw
      case rel => exact ⟨k + 1, by omega, by go_num, hw.trans (.trans (.drew (.refl _)) HW1.out)⟩
      case measure => simp [intOf]; omega
    · go_wp2_with fail
      go_ret
      exact ⟨rfl, hw⟩

end Go.Proofs.YtnakkelglbcecaaGreat

namespace Go.Proofs.YtnakkelglbcecaaGreat
open Go.RowKit Go.Proofs

set_option maxRecDepth 100000 in
set_option maxHeartbeats 1000000 in
theorem szPackage_of (v0 : ByteArray) (es1 : List (List Tr)) (es2 : List (List Tr)) (es3 : List (List Tr)) (es4 : List (List Tr)) (es5 : List (List Tr)) (h1 : SzSC 178 1 es1) (h2 : SzSC 179 5 es2) (h3 : SzSC 180 3 es3) (h4 : SzSC 181 12 es4) (h5 : SzSC 182 16 es5) : SzC 136 ([.leaf (.string v0)] ++ ([.row 1 es1] ++ ([.row 5 es2] ++ ([.row 3 es3] ++ ([.row 12 es4] ++ ([.row 16 es5] ++ ([]))))))) := by
  intro cs left w hr hl0 hl1
  obtain ⟨r0, rfl, K0, n0⟩ := RepL.sLeaf hr
  obtain ⟨a1, c1, r1, rfl, G1, n1⟩ := RepL.sRow n0
  obtain ⟨a2, c2, r2, rfl, G2, n2⟩ := RepL.sRow n1
  obtain ⟨a3, c3, r3, rfl, G3, n3⟩ := RepL.sRow n2
  obtain ⟨a4, c4, r4, rfl, G4, n4⟩ := RepL.sRow n3
  obtain ⟨a5, c5, r5, rfl, G5, n5⟩ := RepL.sRow n4
  obtain rfl := RepL.nil_eq n5
  clear hr n0 n1 n2 n3 n4 n5
  have q0 : v0.size ≤ 9223372036854775807 := by have := K0.out; simp only [LeafOk, maxLen] at this; omega
  go_enter Tryz.func136, Tryz.ntmps136
  go_wp2_with fail
  · go_ret
    exact ⟨-1, rfl, (.alloc (.refl _) _), by omega, by omega, by omega⟩
  refine (h1 _ _ _ (G1.out.1.ext (.alloc (.refl _) _)) (by omega) (by omega)).mono ?_; rintro e w1 ⟨r1, rfl, hw1, ra1, rb1, rc1⟩
  have HW1 := Lib.hid hw1
  have HR1 := Lib.hid rc1
  have ob1 := (OB.new w _ _).ext hw1
  have OBH := Lib.hid ob1
  have ce1 := ob1.cell
  clear hw1 rc1 ob1
  go_wp2_with fail
  · go_ret
    exact ⟨-1, rfl, (Ext.trans (.alloc (.refl _) _) HW1.out), by omega, by omega, by omega⟩
  refine (h2 _ _ _ (G2.out.1.ext (Ext.trans (.alloc (.refl _) _) HW1.out)) (by omega) (by omega)).mono ?_; rintro e w2 ⟨r2, rfl, hw2, ra2, rb2, rc2⟩
  have HW2 := Lib.hid hw2
  have HR2 := Lib.hid rc2
  have ob2 := OBH.out.ext hw2
  clear OBH ce1
  have OBH := Lib.hid ob2
  have ce2 := ob2.cell
  clear hw2 rc2 ob2
  go_wp2_with fail
  · go_ret
    exact ⟨-1, rfl, (Ext.trans (Ext.trans (.alloc (.refl _) _) HW1.out) HW2.out), by omega, by omega, by omega⟩
  refine (h3 _ _ _ (G3.out.1.ext (Ext.trans (Ext.trans (.alloc (.refl _) _) HW1.out) HW2.out)) (by omega) (by omega)).mono ?_; rintro e w3 ⟨r3, rfl, hw3, ra3, rb3, rc3⟩
  have HW3 := Lib.hid hw3
  have HR3 := Lib.hid rc3
  have ob3 := OBH.out.ext hw3
  clear OBH ce2
  have OBH := Lib.hid ob3
  have ce3 := ob3.cell
  clear hw3 rc3 ob3
  go_wp2_with fail
  · go_ret
    exact ⟨-1, rfl, (Ext.trans (Ext.trans (Ext.trans (.alloc (.refl _) _) HW1.out) HW2.out) HW3.out), by omega, by omega, by omega⟩
  refine (h4 _ _ _ (G4.out.1.ext (Ext.trans (Ext.trans (Ext.trans (.alloc (.refl _) _) HW1.out) HW2.out) HW3.out)) (by omega) (by omega)).mono ?_; rintro e w4 ⟨r4, rfl, hw4, ra4, rb4, rc4⟩
  have HW4 := Lib.hid hw4
  have HR4 := Lib.hid rc4
  have ob4 := OBH.out.ext hw4
  clear OBH ce3
  have OBH := Lib.hid ob4
  have ce4 := ob4.cell
  clear hw4 rc4 ob4
  go_wp2_with fail
  · go_ret
    exact ⟨-1, rfl, (Ext.trans (Ext.trans (Ext.trans (Ext.trans (.alloc (.refl _) _) HW1.out) HW2.out) HW3.out) HW4.out), by omega, by omega, by omega⟩
  refine (h5 _ _ _ (G5.out.1.ext (Ext.trans (Ext.trans (Ext.trans (Ext.trans (.alloc (.refl _) _) HW1.out) HW2.out) HW3.out) HW4.out)) (by omega) (by omega)).mono ?_; rintro e w5 ⟨r5, rfl, hw5, ra5, rb5, rc5⟩
  have HW5 := Lib.hid hw5
  have HR5 := Lib.hid rc5
  have ob5 := OBH.out.ext hw5
  clear OBH ce4
  have OBH := Lib.hid ob5
  have ce5 := ob5.cell
  clear hw5 rc5 ob5
  go_wp2_with fail
  · go_ret
    exact ⟨-1, rfl, (Ext.trans (Ext.trans (Ext.trans (Ext.trans (Ext.trans (.alloc (.refl _) _) HW1.out) HW2.out) HW3.out) HW4.out) HW5.out), by omega, by omega, by omega⟩
  go_ret
  refine ⟨_, rfl, (Ext.trans (Ext.trans (Ext.trans (Ext.trans (Ext.trans (.alloc (.refl _) _) HW1.out) HW2.out) HW3.out) HW4.out) HW5.out), by omega, by omega, fun hp => ?_⟩
  have e1 := HR1.out (by omega)
  have e2 := HR2.out (by omega)
  have e3 := HR3.out (by omega)
  have e4 := HR4.out (by omega)
  have e5 := HR5.out (by omega)
  simp only [Tr.bulkL_append, Tr.bulkL, Tr.bulk]
  simp only [Tr.bulk] at e1 e2 e3 e4 e5
  omega

set_option maxRecDepth 100000 in
set_option maxHeartbeats 1000000 in
theorem toPackage_of (v0 : ByteArray) (es1 : List (List Tr)) (es2 : List (List Tr)) (es3 : List (List Tr)) (es4 : List (List Tr)) (es5 : List (List Tr)) (h1 : ToSC 183 1 es1) (h2 : ToSC 184 5 es2) (h3 : ToSC 185 3 es3) (h4 : ToSC 186 12 es4) (h5 : ToSC 187 16 es5) : ToC 140 ([.leaf (.string v0)] ++ ([.row 1 es1] ++ ([.row 5 es2] ++ ([.row 3 es3] ++ ([.row 12 es4] ++ ([.row 16 es5] ++ ([]))))))) := by
  intro cs w hr hbk
  simp only [Tr.bulkL_append, Tr.bulkL, Tr.bulk] at hbk
  obtain ⟨r0, rfl, K0, n0⟩ := RepL.sLeaf hr
  obtain ⟨a1, c1, r1, rfl, G1, n1⟩ := RepL.sRow n0
  obtain ⟨a2, c2, r2, rfl, G2, n2⟩ := RepL.sRow n1
  obtain ⟨a3, c3, r3, rfl, G3, n3⟩ := RepL.sRow n2
  obtain ⟨a4, c4, r4, rfl, G4, n4⟩ := RepL.sRow n3
  obtain ⟨a5, c5, r5, rfl, G5, n5⟩ := RepL.sRow n4
  obtain rfl := RepL.nil_eq n5
  clear hr n0 n1 n2 n3 n4 n5
  go_enter Tryz.func140, Tryz.ntmps140
  go_wp2_with fail
  refine (h1 _ _ (G1.out.1.ext (.alloc (.alloc (.alloc (.refl _) _) _) _)) (by omega)).mono ?_; rintro e w1 ⟨d1, rfl, hw1, ho1⟩
  obtain ⟨da1, dc1, rfl, -, -⟩ := ho1.rep.shape
  have HW1 := Lib.hid hw1
  have HO1 := Lib.hid ho1
  have ob1 := (Three.new w _ _ _ _ _ _).ext hw1
  have OBHw1 := Lib.hid ob1
  have cew1 := ob1.o0.cell
  have hzw1 : w.heap.size < w1.heap.size := ob1.o0.lt
  clear hw1 ob1 ho1
  have EW1 := Lib.hid (Ext.trans (.alloc (.alloc (.alloc (.refl _) _) _) _) HW1.out)
  go_wp2_with (first
    | (refine wpList_store_cell rfl 54 _ _ rfl (w.heap.size + 1 + 1) 1 rfl (.slice da1 es1.length dc1) rfl rfl 126 _ OBHw1.out.o2 isz54 (by simp [splice]) rfl ?_; intro u1 hou1 hgu1 hzu1; have OBHu1 := Lib.hid (OBHw1.out.grown hgu1 hou1 (by omega) (by omega)); have HGu1 := Lib.hid hgu1; have ceu1 := OBHu1.out.o0.cell; have hqu1 : w.heap.size < u1.heap.size := OBHu1.out.o0.lt; have EGu1 := Lib.hid (grown_ext EW1.out HGu1.out (by omega)); clear hou1 hgu1 hzu1 OBHw1 cew1))
  refine (h2 _ _ (G2.out.1.ext EGu1.out) (by omega)).mono ?_; rintro e w2 ⟨d2, rfl, hw2, ho2⟩
  obtain ⟨da2, dc2, rfl, -, -⟩ := ho2.rep.shape
  have HW2 := Lib.hid hw2
  have HO2 := Lib.hid ho2
  have ob2 := OBHu1.out.ext hw2
  clear OBHu1 ceu1
  have OBHw2 := Lib.hid ob2
  have cew2 := ob2.o0.cell
  have hzw2 : w.heap.size < w2.heap.size := ob2.o0.lt
  clear hw2 ob2 ho2
  have EW2 := Lib.hid (Ext.trans EGu1.out HW2.out)
  go_wp2_with (first
    | (refine wpList_store_cell rfl 121 _ _ rfl (w.heap.size + 1 + 1) 2 rfl (.slice da2 es2.length dc2) rfl rfl 126 _ OBHw2.out.o2 isz121 (by simp [splice]) rfl ?_; intro u2 hou2 hgu2 hzu2; have OBHu2 := Lib.hid (OBHw2.out.grown hgu2 hou2 (by omega) (by omega)); have HGu2 := Lib.hid hgu2; have ceu2 := OBHu2.out.o0.cell; have hqu2 : w.heap.size < u2.heap.size := OBHu2.out.o0.lt; have EGu2 := Lib.hid (grown_ext EW2.out HGu2.out (by omega)); clear hou2 hgu2 hzu2 OBHw2 cew2))
  refine (h3 _ _ (G3.out.1.ext EGu2.out) (by omega)).mono ?_; rintro e w3 ⟨d3, rfl, hw3, ho3⟩
  obtain ⟨da3, dc3, rfl, -, -⟩ := ho3.rep.shape
  have HW3 := Lib.hid hw3
  have HO3 := Lib.hid ho3
  have ob3 := OBHu2.out.ext hw3
  clear OBHu2 ceu2
  have OBHw3 := Lib.hid ob3
  have cew3 := ob3.o0.cell
  have hzw3 : w.heap.size < w3.heap.size := ob3.o0.lt
  clear hw3 ob3 ho3
  have EW3 := Lib.hid (Ext.trans EGu2.out HW3.out)
  go_wp2_with (first
    | (refine wpList_store_cell rfl 122 _ _ rfl (w.heap.size + 1 + 1) 3 rfl (.slice da3 es3.length dc3) rfl rfl 126 _ OBHw3.out.o2 isz122 (by simp [splice]) rfl ?_; intro u3 hou3 hgu3 hzu3; have OBHu3 := Lib.hid (OBHw3.out.grown hgu3 hou3 (by omega) (by omega)); have HGu3 := Lib.hid hgu3; have ceu3 := OBHu3.out.o0.cell; have hqu3 : w.heap.size < u3.heap.size := OBHu3.out.o0.lt; have EGu3 := Lib.hid (grown_ext EW3.out HGu3.out (by omega)); clear hou3 hgu3 hzu3 OBHw3 cew3))
  refine (h4 _ _ (G4.out.1.ext EGu3.out) (by omega)).mono ?_; rintro e w4 ⟨d4, rfl, hw4, ho4⟩
  obtain ⟨da4, dc4, rfl, -, -⟩ := ho4.rep.shape
  have HW4 := Lib.hid hw4
  have HO4 := Lib.hid ho4
  have ob4 := OBHu3.out.ext hw4
  clear OBHu3 ceu3
  have OBHw4 := Lib.hid ob4
  have cew4 := ob4.o0.cell
  have hzw4 : w.heap.size < w4.heap.size := ob4.o0.lt
  clear hw4 ob4 ho4
  have EW4 := Lib.hid (Ext.trans EGu3.out HW4.out)
  go_wp2_with (first
    | (refine wpList_store_cell rfl 123 _ _ rfl (w.heap.size + 1 + 1) 4 rfl (.slice da4 es4.length dc4) rfl rfl 126 _ OBHw4.out.o2 isz123 (by simp [splice]) rfl ?_; intro u4 hou4 hgu4 hzu4; have OBHu4 := Lib.hid (OBHw4.out.grown hgu4 hou4 (by omega) (by omega)); have HGu4 := Lib.hid hgu4; have ceu4 := OBHu4.out.o0.cell; have hqu4 : w.heap.size < u4.heap.size := OBHu4.out.o0.lt; have EGu4 := Lib.hid (grown_ext EW4.out HGu4.out (by omega)); clear hou4 hgu4 hzu4 OBHw4 cew4))
  refine (h5 _ _ (G5.out.1.ext EGu4.out) (by omega)).mono ?_; rintro e w5 ⟨d5, rfl, hw5, ho5⟩
  obtain ⟨da5, dc5, rfl, -, -⟩ := ho5.rep.shape
  have HW5 := Lib.hid hw5
  have HO5 := Lib.hid ho5
  have ob5 := OBHu4.out.ext hw5
  clear OBHu4 ceu4
  have OBHw5 := Lib.hid ob5
  have cew5 := ob5.o0.cell
  have hzw5 : w.heap.size < w5.heap.size := ob5.o0.lt
  clear hw5 ob5 ho5
  have EW5 := Lib.hid (Ext.trans EGu4.out HW5.out)
  have hone : Hid (∀ v ∈ ([.string v0, .slice da1 es1.length dc1, .slice da2 es2.length dc2, .slice da3 es3.length dc3, .slice da4 es4.length dc4, .slice da5 es5.length dc5] : List Value), v.oneCell' = true) := by
    intro v hv
    simp only [List.mem_cons, List.not_mem_nil, or_false] at hv
    rcases hv with rfl | rfl | rfl | rfl | rfl | rfl <;> first | rfl
  go_wp2_with (first
    | (refine wpList_store_cell rfl 124 _ _ rfl (w.heap.size + 1 + 1) 5 rfl (.slice da5 es5.length dc5) rfl rfl 126 _ OBHw5.out.o2 isz124 (by simp [splice]) rfl ?_; intro u5 hou5 hgu5 hzu5; have OBHu5 := Lib.hid (OBHw5.out.grown hgu5 hou5 (by omega) (by omega)); have HGu5 := Lib.hid hgu5; have ceu5 := OBHu5.out.o0.cell; have hqu5 : w.heap.size < u5.heap.size := OBHu5.out.o0.lt; have EGu5 := Lib.hid (grown_ext EW5.out HGu5.out (by omega)); clear hou5 hgu5 hzu5 OBHw5 cew5)
    | (refine wpList_load_rep rfl 126 _ rfl (w.heap.size + 1 + 1) 0 rfl [.string v0, .slice da1 es1.length dc1, .slice da2 es2.length dc2, .slice da3 es3.length dc3, .slice da4 es4.length dc4, .slice da5 es5.length dc5] _ Tryz.underlying126 isz126 (fun j v hv => by rw [OBHu5.out.o2.cell, Nat.zero_add]; simpa [splice] using hv) ?_)
    | (refine wpList_store_rep rfl 126 _ _ rfl (w.heap.size + 1) 0 rfl [.string v0, .slice da1 es1.length dc1, .slice da2 es2.length dc2, .slice da3 es3.length dc3, .slice da4 es4.length dc4, .slice da5 es5.length dc5] rfl 126 _ OBHu5.out.o1 isz126 (by simp) hone.out ?_; intro wz hoz hgz hzz; have HOZ := Lib.hid hoz; have HGZ := Lib.hid hgz; clear hoz hgz hzz))
  have HOF : OB wz (w.heap.size + 1) 126 ⟨[.string v0, .slice da1 es1.length dc1, .slice da2 es2.length dc2, .slice da3 es3.length dc3, .slice da4 es4.length dc4, .slice da5 es5.length dc5]⟩ := HOZ.out
  refine bodyPost_ret (results_cell_row Tryz.results140 _ _ (w.heap.size + 1) 126 ⟨[.string v0, .slice da1 es1.length dc1, .slice da2 es2.length dc2, .slice da3 es3.length dc3, .slice da4 es4.length dc4, .slice da5 es5.length dc5]⟩ _ _ rfl HOF Tryz.underlying126 rfl isz126) rfl ⟨[.string v0, .slice da1 es1.length dc1, .slice da2 es2.length dc2, .slice da3 es3.length dc3, .slice da4 es4.length dc4, .slice da5 es5.length dc5], rfl, (grown_ext EGu5.out HGZ.out (by omega)), ?_⟩
  have sw1 := HW1.out.size
  have su1 := HGu1.out.size
  have sw2 := HW2.out.size
  have su2 := HGu2.out.size
  have sw3 := HW3.out.size
  have su3 := HGu3.out.size
  have sw4 := HW4.out.size
  have su4 := HGu4.out.size
  have sw5 := HW5.out.size
  have su5 := HGu5.out.size
  have swz := HGZ.out.size
  simp only [World.size_alloc] at sw1
  have KPz : Keeps (w.heap.size + 1 + 1 + 1) u5 wz := Keeps.of_grown HGZ.out (by omega)
  have KPu5 : Keeps (w.heap.size + 1 + 1 + 1) w5 wz := Keeps.trans (Keeps.of_grown HGu5.out (by omega)) KPz
  have ow5 := HO5.out.keeps KPu5 (by intro x hx; simp only [Between, World.size_alloc] at hx; omega)
  have KPw5 : Keeps (w.heap.size + 1 + 1 + 1) u4 wz := Keeps.trans (Keeps.of_ext HW5.out) KPu5
  have KPu4 : Keeps (w.heap.size + 1 + 1 + 1) w4 wz := Keeps.trans (Keeps.of_grown HGu4.out (by omega)) KPw5
  have ow4 := HO4.out.keeps KPu4 (by intro x hx; simp only [Between, World.size_alloc] at hx; omega)
  have KPw4 : Keeps (w.heap.size + 1 + 1 + 1) u3 wz := Keeps.trans (Keeps.of_ext HW4.out) KPu4
  have KPu3 : Keeps (w.heap.size + 1 + 1 + 1) w3 wz := Keeps.trans (Keeps.of_grown HGu3.out (by omega)) KPw4
  have ow3 := HO3.out.keeps KPu3 (by intro x hx; simp only [Between, World.size_alloc] at hx; omega)
  have KPw3 : Keeps (w.heap.size + 1 + 1 + 1) u2 wz := Keeps.trans (Keeps.of_ext HW3.out) KPu3
  have KPu2 : Keeps (w.heap.size + 1 + 1 + 1) w2 wz := Keeps.trans (Keeps.of_grown HGu2.out (by omega)) KPw3
  have ow2 := HO2.out.keeps KPu2 (by intro x hx; simp only [Between, World.size_alloc] at hx; omega)
  have KPw2 : Keeps (w.heap.size + 1 + 1 + 1) u1 wz := Keeps.trans (Keeps.of_ext HW2.out) KPu2
  have KPu1 : Keeps (w.heap.size + 1 + 1 + 1) w1 wz := Keeps.trans (Keeps.of_grown HGu1.out (by omega)) KPw2
  have ow1 := HO1.out.keeps KPu1 (by intro x hx; simp only [Between, World.size_alloc] at hx; omega)
  have hall := OwnL.cons_leaf K0.out (OwnL.append (OwnL.one ow1) (OwnL.append (OwnL.one ow2) (OwnL.append (OwnL.one ow3) (OwnL.append (OwnL.one ow4) (OwnL.append (OwnL.one ow5) (OwnL.nil wz (fun _ => False)) (by intro x hx hy; simp only [Between, World.size_alloc, or_false] at hx hy <;> omega)) (by intro x hx hy; simp only [Between, World.size_alloc, or_false] at hx hy <;> omega)) (by intro x hx hy; simp only [Between, World.size_alloc, or_false] at hx hy <;> omega)) (by intro x hx hy; simp only [Between, World.size_alloc, or_false] at hx hy <;> omega)) (by intro x hx hy; simp only [Between, World.size_alloc, or_false] at hx hy <;> omega))
  exact hall.mono (by intro x hx; simp only [Between, World.size_alloc, or_false] at hx ⊢; omega)

set_option maxRecDepth 100000 in
set_option maxHeartbeats 1000000 in
theorem eqPackage_of (v0 : ByteArray) (es1 : List (List Tr)) (es2 : List (List Tr)) (es3 : List (List Tr)) (es4 : List (List Tr)) (es5 : List (List Tr)) (h1 : EqSC 29 1 es1) (h2 : EqSC 188 5 es2) (h3 : EqSC 189 3 es3) (h4 : EqSC 190 12 es4) (h5 : EqSC 191 16 es5) : EqC 143 ([.leaf (.string v0)] ++ ([.row 1 es1] ++ ([.row 5 es2] ++ ([.row 3 es3] ++ ([.row 12 es4] ++ ([.row 16 es5] ++ ([]))))))) := by
  intro cs ds w hr hr'
  obtain ⟨r0, rfl, K0, n0⟩ := RepL.sLeaf hr
  obtain ⟨a1, c1, r1, rfl, G1, n1⟩ := RepL.sRow n0
  obtain ⟨a2, c2, r2, rfl, G2, n2⟩ := RepL.sRow n1
  obtain ⟨a3, c3, r3, rfl, G3, n3⟩ := RepL.sRow n2
  obtain ⟨a4, c4, r4, rfl, G4, n4⟩ := RepL.sRow n3
  obtain ⟨a5, c5, r5, rfl, G5, n5⟩ := RepL.sRow n4
  obtain rfl := RepL.nil_eq n5
  clear hr n0 n1 n2 n3 n4 n5
  obtain ⟨zr0, rfl, zK0, zn0⟩ := RepL.sLeaf hr'
  obtain ⟨za1, zc1, zr1, rfl, zG1, zn1⟩ := RepL.sRow zn0
  obtain ⟨za2, zc2, zr2, rfl, zG2, zn2⟩ := RepL.sRow zn1
  obtain ⟨za3, zc3, zr3, rfl, zG3, zn3⟩ := RepL.sRow zn2
  obtain ⟨za4, zc4, zr4, rfl, zG4, zn4⟩ := RepL.sRow zn3
  obtain ⟨za5, zc5, zr5, rfl, zG5, zn5⟩ := RepL.sRow zn4
  obtain rfl := RepL.nil_eq zn5
  clear hr' zn0 zn1 zn2 zn3 zn4 zn5
  go_enter Tryz.func143, Tryz.ntmps143
  go_wp2_with fail
  refine (h1 _ _ _ (G1.out.1.ext (.alloc (.alloc (.refl _) _) _)) (zG1.out.1.ext (.alloc (.alloc (.refl _) _) _))).mono ?_; rintro e w1 ⟨rfl, hw1⟩
  have HW1 := Lib.hid hw1
  have ob1 := (Two.new w _ _ _ _).ext hw1
  have OBH := Lib.hid ob1
  have ce1 := ob1.o0.cell
  have cf1 := ob1.o1.cell
  clear hw1 ob1
  go_wp2_with fail
  refine (h2 _ _ _ (G2.out.1.ext (Ext.trans (.alloc (.alloc (.refl _) _) _) HW1.out)) (zG2.out.1.ext (Ext.trans (.alloc (.alloc (.refl _) _) _) HW1.out))).mono ?_; rintro e w2 ⟨rfl, hw2⟩
  have HW2 := Lib.hid hw2
  have ob2 := OBH.out.ext hw2
  clear OBH ce1 cf1
  have OBH := Lib.hid ob2
  have ce2 := ob2.o0.cell
  have cf2 := ob2.o1.cell
  clear hw2 ob2
  go_wp2_with fail
  refine (h3 _ _ _ (G3.out.1.ext (Ext.trans (Ext.trans (.alloc (.alloc (.refl _) _) _) HW1.out) HW2.out)) (zG3.out.1.ext (Ext.trans (Ext.trans (.alloc (.alloc (.refl _) _) _) HW1.out) HW2.out))).mono ?_; rintro e w3 ⟨rfl, hw3⟩
  have HW3 := Lib.hid hw3
  have ob3 := OBH.out.ext hw3
  clear OBH ce2 cf2
  have OBH := Lib.hid ob3
  have ce3 := ob3.o0.cell
  have cf3 := ob3.o1.cell
  clear hw3 ob3
  go_wp2_with fail
  refine (h4 _ _ _ (G4.out.1.ext (Ext.trans (Ext.trans (Ext.trans (.alloc (.alloc (.refl _) _) _) HW1.out) HW2.out) HW3.out)) (zG4.out.1.ext (Ext.trans (Ext.trans (Ext.trans (.alloc (.alloc (.refl _) _) _) HW1.out) HW2.out) HW3.out))).mono ?_; rintro e w4 ⟨rfl, hw4⟩
  have HW4 := Lib.hid hw4
  have ob4 := OBH.out.ext hw4
  clear OBH ce3 cf3
  have OBH := Lib.hid ob4
  have ce4 := ob4.o0.cell
  have cf4 := ob4.o1.cell
  clear hw4 ob4
  go_wp2_with fail
  refine (h5 _ _ _ (G5.out.1.ext (Ext.trans (Ext.trans (Ext.trans (Ext.trans (.alloc (.alloc (.refl _) _) _) HW1.out) HW2.out) HW3.out) HW4.out)) (zG5.out.1.ext (Ext.trans (Ext.trans (Ext.trans (Ext.trans (.alloc (.alloc (.refl _) _) _) HW1.out) HW2.out) HW3.out) HW4.out))).mono ?_; rintro e w5 ⟨rfl, hw5⟩
  have HW5 := Lib.hid hw5
  have ob5 := OBH.out.ext hw5
  clear OBH ce4 cf4
  have OBH := Lib.hid ob5
  have ce5 := ob5.o0.cell
  have cf5 := ob5.o1.cell
  clear hw5 ob5
  go_wp2_with fail
  go_ret
  exact ⟨rfl, (Ext.trans (Ext.trans (Ext.trans (Ext.trans (Ext.trans (.alloc (.alloc (.refl _) _) _) HW1.out) HW2.out) HW3.out) HW4.out) HW5.out)⟩

set_option maxRecDepth 100000 in
set_option maxHeartbeats 1000000 in
theorem szPackageS_of (es : List (List Tr)) (h5 : ∀ e ∈ es, e.length = 6) (H : ∀ e ∈ es, SzC 136 e) : SzSC 76 6 es := by
  intro s left w hs h0 h1
  obtain ⟨a, cap, rfl, hl, hm⟩ := hs.shape
  unfold maxLen at hm
  have HS := Lib.hid hs
  have HH := Lib.hid H
  have H5 := Lib.hid h5
  clear hs H h5
  go_enter Tryz.func76, Tryz.ntmps76
  go_wp2_with fail
  · go_ret
    exact ⟨-1, rfl, .refl _, by omega, by omega, by omega⟩
  go_loopw [1, 5] (fun l i wr => ∃ (k : Nat) (r : Int), k ≤ es.length ∧ i = .int .i64 k ∧ l = .int .i64 r ∧ Ext w wr ∧ 0 ≤ r ∧ r + es.length + Tr.bulkAll (es.take k) ≤ left) (fun _ i _ => es.length - (intOf i).toNat)
  case atStart => exact ⟨0, _, Nat.zero_le _, rfl, rfl, .refl _, by omega, by simp [Tr.bulkAll]⟩
  case round =>
    obtain ⟨k, r, hk, rfl, rfl, hw, hr0, hrb⟩ := hrel
    by_cases hlt : k < es.length
    · obtain ⟨b, off, cs, rfl, hb, hcs, hc⟩ := (HS.out.ext hw).at2 (k := k) (List.getElem?_eq_getElem hlt)
      have hmem : es[k] ∈ es := List.getElem_mem hlt
      have l5 := H5.out _ hmem
      have hbt := Lib.hid (Tr.bulkAll_take es k hlt)
      have HCS := Lib.hid hcs
      have HC := Lib.hid hc
      have HM := Lib.hid hmem
      have HI : Hid ((Tryz.prog.info? 166).map (·.size) = some cs.length) := by rw [← hcs.length, l5]; exact isz166
      clear hcs hc hmem l5
      go_wp2_with (refine wpList_load_rep rfl 166 _ rfl b (off + k * 6) rfl cs _ Tryz.underlying166 HI.out HC.out ?_)
      refine (HH.out _ HM.out _ _ _ HCS.out hr0 (by omega)).mono ?_; rintro e w1 ⟨r1, rfl, hw1, hr1, hr2, hr3⟩
      have HR3 := Lib.hid hr3
      have HW1 := Lib.hid hw1
      clear hr3 hw1
      go_wp2_with fail
      · go_ret
        exact ⟨-1, rfl, hw.trans HW1.out, by omega, by omega, by omega⟩
      · go_roundw
        case rel =>
          have p0 : 0 ≤ r1 := by assumption
          have e1 := HR3.out p0
          have e2 := hbt.out
          exact ⟨k + 1, r1, by omega, by go_num, rfl, hw.trans HW1.out, p0, by omega⟩
        case measure => simp [intOf]; omega
    · have hkl : k = es.length := by omega
      go_wp2_with fail
      go_ret
      refine ⟨r, rfl, hw, by omega, by omega, fun _ => ?_⟩
      rw [hkl, List.take_length] at hrb
      simp only [Tr.bulk]
      omega

set_option maxRecDepth 100000 in
set_option maxHeartbeats 1000000 in
theorem toPackageS_of (es : List (List Tr)) (h5 : ∀ e ∈ es, e.length = 6) (H : ∀ e ∈ es, ToC 140 e) : ToSC 80 6 es := by
  intro s w hs hbk
  obtain ⟨a, cap, rfl, hl, hm⟩ := hs.shape
  unfold maxLen at hm
  have HS := Lib.hid hs
  have HH := Lib.hid H
  have H5 := Lib.hid h5
  have n0 : (0 : Int) ≤ es.length := by omega
  clear hs H h5
  go_enter Tryz.func80, Tryz.ntmps80
  go_wp2_with (refine wpList_make_rep rfl 29 (.tmp 6) rfl es.length rfl 126 Tryz.underlying29 6 136 iszb126 (by omega) (by omega) ?_; intro wm arr0 ha0 hob0 hx0 hz0; have HA0 := Lib.hid ha0; have HOB0 := Lib.hid hob0; have HX0 := Lib.hid hx0; have HZ0 := Lib.hid hz0; clear ha0 hob0 hx0 hz0)
  go_loopw [4] (fun i wr => ∃ (k : Nat) (arr : Array Value), k ≤ es.length ∧ i = .int .i64 k ∧ Ext w wr ∧ w.heap.size < wr.heap.size ∧ OB wr w.heap.size 126 arr ∧ arr.size = es.length * 6 ∧ Part wr w.heap.size arr 6 es k) (fun i _ => es.length - (intOf i).toNat)
  case atStart => exact ⟨0, arr0, Nat.zero_le _, rfl, HX0.out, by rw [HZ0.out]; omega, HOB0.out, HA0.out, Part.zero _ _ _ _ _⟩
  case round =>
    obtain ⟨k, arr, hk, rfl, hw, hgt, hob, hasz, hpart⟩ := hrel
    have HOB := Lib.hid hob
    have HAS := Lib.hid hasz
    have HP := Lib.hid hpart
    clear hob hasz hpart
    by_cases hlt : k < es.length
    · obtain ⟨b, off, cs, rfl, hb, hcs, hc⟩ := (HS.out.ext hw).at2 (k := k) (List.getElem?_eq_getElem hlt)
      have hmem : es[k] ∈ es := List.getElem_mem hlt
      have l5 := H5.out _ hmem
      have hbe := Tr.bulkAll_le hlt
      have HCS := Lib.hid hcs
      have HC := Lib.hid hc
      have HM := Lib.hid hmem
      have HL5 := Lib.hid l5
      have HI : Hid ((Tryz.prog.info? 166).map (·.size) = some cs.length) := by rw [← hcs.length, l5]; exact isz166
      clear hcs hc hmem l5
      go_wp2_with (refine wpList_load_rep rfl 166 (.tmp 18) rfl b (off + k * 6) rfl cs _ Tryz.underlying166 HI.out HC.out ?_)
      refine (HH.out _ HM.out _ _ HCS.out (by omega)).mono ?_; rintro e w1 ⟨cs1, rfl, hw1, ho1⟩
      have HW1 := Lib.hid hw1
      have HO1 := Lib.hid ho1
      have hcl : cs1.length = 6 := ho1.1.trans HL5.out
      have HCL := Lib.hid hcl
      have hfit : 0 + k * 6 + cs1.length ≤ arr.size := by have := HAS.out; omega
      have HF := Lib.hid hfit
      clear hw1 ho1 hcl hfit
      go_wp2_with (refine wpList_store_rep rfl 126 (.tmp 21) (.tmp 20) rfl w.heap.size (k * 6) rfl cs1 rfl 126 arr (HOB.out.ext HW1.out) (by rw [HCL.out]; exact isz126) (by have := HF.out; omega) (HO1.out.rep.one) ?_; intro w2 hob2 hg2 hz2; have HOB2 := Lib.hid hob2; have HG2 := Lib.hid hg2; have HZ2 := Lib.hid hz2; clear hob2 hg2 hz2)
      go_roundw
      case rel =>
        have hfit : k * 6 + cs1.length ≤ arr.size := by have := HF.out; omega
        refine ⟨k + 1, _, by omega, by go_num, ?_, ?_, HOB2.out, by rw [splice_size hfit]; exact HAS.out, HP.out.step hgt HW1.out (List.getElem?_eq_getElem hlt) HO1.out HCL.out HAS.out HG2.out HOB2.out⟩
        · exact grown_ext (hw.trans HW1.out) HG2.out (Nat.le_refl _)
        · have := HW1.out.size
          have := HZ2.out
          omega
      case measure => simp [intOf]; omega
    · have hkl : k = es.length := by omega
      go_wp2_with fail
      go_ret
      subst hkl
      exact ⟨_, rfl, hw, (HP.out.done HOB.out H5.out (Nat.le_refl _) (by unfold maxLen; omega) (Nat.le_refl _)).mono fun x hx => ⟨hx.1, hx.2⟩⟩

set_option maxRecDepth 100000 in
set_option maxHeartbeats 1000000 in
theorem eqPackageS_of (es : List (List Tr)) (h5 : ∀ e ∈ es, e.length = 6) (H : ∀ e ∈ es, EqC 143 e) : EqSC 84 6 es := by
  intro s u w hs hu
  obtain ⟨a, cap, rfl, hl, hm⟩ := hs.shape
  obtain ⟨a', cap', rfl, hl', hm'⟩ := hu.shape
  unfold maxLen at hm hm'
  have HS := Lib.hid hs
  have HU := Lib.hid hu
  have HH := Lib.hid H
  have H5 := Lib.hid h5
  clear hs hu H h5
  go_enter Tryz.func84, Tryz.ntmps84
  go_wp2_with fail
  go_loopw [5] (fun i wr => ∃ k : Nat, k ≤ es.length ∧ i = .int .i64 k ∧ Ext w wr) (fun i _ => es.length - (intOf i).toNat)
  case atStart => exact ⟨0, Nat.zero_le _, rfl, .refl _⟩
  case round =>
    obtain ⟨k, hk, rfl, hw⟩ := hrel
    by_cases hlt : k < es.length
    · obtain ⟨b, off, cs, rfl, hb, hcs, hc⟩ := (HS.out.ext hw).at2 (k := k) (List.getElem?_eq_getElem hlt)
      obtain ⟨b', off', ds, rfl, hb', hds, hd⟩ := (HU.out.ext hw).at2 (k := k) (List.getElem?_eq_getElem hlt)
      have hmem : es[k] ∈ es := List.getElem_mem hlt
      have l5 := H5.out _ hmem
      have HCS := Lib.hid hcs
      have HDS := Lib.hid hds
      have HM := Lib.hid hmem
      have HC := Lib.hid hc
      have HD := Lib.hid hd
      have HI : Hid ((Tryz.prog.info? 126).map (·.size) = some cs.length) := by rw [← hcs.length, l5]; exact isz126
      have HJ : Hid ((Tryz.prog.info? 126).map (·.size) = some ds.length) := by rw [← hds.length, l5]; exact isz126
      clear hcs hds hc hd l5 hmem
      go_wp2_with fail
      have ki : (k : Int) < (es.length : Int) := by omega
      have k0 : (0 : Int) ≤ (k : Int) := by omega
      refine wp_region_still_tail 8 (by kernel_rfl) (by kernel_rfl) ?_
      simp only [List.take_succ_cons, List.take_zero, List.drop_succ_cons, List.drop_zero]
      change wpStill _ _ wr.drew _ _ _
      repeat (first
        | (refine wpStill_load_rep rfl 126 (.tmp 19) rfl b (off + k * 6) rfl cs _ Tryz.underlying126 HI.out HC.out ?_; simp only [Act.put])
        | (refine wpStill_load_rep rfl 126 (.tmp 23) rfl b' (off' + k * 6) rfl ds _ Tryz.underlying126 HJ.out HD.out ?_; simp only [Act.put])
        | still_step)
      refine wpStill_nil ?_
      change wpList _ _ _ _ _ wr.drew
      go_wp2_with fail
      refine (HH.out _ HM.out _ _ _ (HCS.out.ext (.drew (.refl _))) (HDS.out.ext (.drew (.refl _)))).mono ?_; rintro e w1 ⟨rfl, hw1⟩
      have HW1 := Lib.hid hw1
      clear hw1
      go_wp2_with fail
      go_roundw
      case rel => exact ⟨k + 1, by omega, by go_num, hw.trans (.trans (.drew (.refl _)) HW1.out)⟩
      case measure => simp [intOf]; omega
    · go_wp2_with fail
      go_ret
      exact ⟨rfl, hw⟩

end Go.Proofs.YtnakkelglbcecaaGreat

namespace Go.Proofs.YtnakkelglbcecaaGreat
open Go.RowKit Go.Proofs

set_option maxRecDepth 100000 in
set_option maxHeartbeats 1000000 in
theorem szProgram_of (es0 : List (List Tr)) (h0 : SzSC 76 6 es0) : SzC 15 ([.row 6 es0] ++ ([])) := by
  intro cs left w hr hl0 hl1
  obtain ⟨a0, c0, r0, rfl, G0, n0⟩ := RepL.sRow hr
  obtain rfl := RepL.nil_eq n0
  clear hr n0
  go_enter Tryz.func15, Tryz.ntmps15
  go_wp2_with fail
  refine (h0 _ _ _ (G0.out.1.ext (.alloc (.refl _) _)) (by omega) (by omega)).mono ?_; rintro e w0 ⟨r0, rfl, hw0, ra0, rb0, rc0⟩
  have HW0 := Lib.hid hw0
  have HR0 := Lib.hid rc0
  have ob0 := (OB.new w _ _).ext hw0
  have OBH := Lib.hid ob0
  have ce0 := ob0.cell
  clear hw0 rc0 ob0
  go_wp2_with fail
  · go_ret
    exact ⟨-1, rfl, (Ext.trans (.alloc (.refl _) _) HW0.out), by omega, by omega, by omega⟩
  go_ret
  refine ⟨_, rfl, (Ext.trans (.alloc (.refl _) _) HW0.out), by omega, by omega, fun hp => ?_⟩
  have e0 := HR0.out (by omega)
  simp only [Tr.bulkL_append, Tr.bulkL, Tr.bulk]
  simp only [Tr.bulk] at e0
  omega

set_option maxRecDepth 100000 in
set_option maxHeartbeats 1000000 in
theorem toProgram_of (es0 : List (List Tr)) (h0 : ToSC 80 6 es0) : ToC 17 ([.row 6 es0] ++ ([])) := by
  intro cs w hr hbk
  simp only [Tr.bulkL_append, Tr.bulkL, Tr.bulk] at hbk
  obtain ⟨a0, c0, r0, rfl, G0, n0⟩ := RepL.sRow hr
  obtain rfl := RepL.nil_eq n0
  clear hr n0
  go_enter Tryz.func17, Tryz.ntmps17
  go_wp2_with fail
  refine (h0 _ _ (G0.out.1.ext (.alloc (.alloc (.alloc (.refl _) _) _) _)) (by omega)).mono ?_; rintro e w0 ⟨d0, rfl, hw0, ho0⟩
  obtain ⟨da0, dc0, rfl, -, -⟩ := ho0.rep.shape
  have HW0 := Lib.hid hw0
  have HO0 := Lib.hid ho0
  have ob0 := (Three.new w _ _ _ _ _ _).ext hw0
  have OBHw0 := Lib.hid ob0
  have cew0 := ob0.o0.cell
  have hzw0 : w.heap.size < w0.heap.size := ob0.o0.lt
  clear hw0 ob0 ho0
  have EW0 := Lib.hid (Ext.trans (.alloc (.alloc (.alloc (.refl _) _) _) _) HW0.out)
  have hone : Hid (∀ v ∈ ([.slice da0 es0.length dc0] : List Value), v.oneCell' = true) := by
    intro v hv
    simp only [List.mem_cons, List.not_mem_nil, or_false] at hv
    rcases hv with rfl <;> first | rfl
  go_wp2_with (first
    | (refine wpList_store_cell rfl 29 _ _ rfl (w.heap.size + 1 + 1) 0 rfl (.slice da0 es0.length dc0) rfl rfl 31 _ OBHw0.out.o2 isz29 (by simp [splice]) rfl ?_; intro u0 hou0 hgu0 hzu0; have OBHu0 := Lib.hid (OBHw0.out.grown hgu0 hou0 (by omega) (by omega)); have HGu0 := Lib.hid hgu0; have ceu0 := OBHu0.out.o0.cell; have hqu0 : w.heap.size < u0.heap.size := OBHu0.out.o0.lt; have EGu0 := Lib.hid (grown_ext EW0.out HGu0.out (by omega)); clear hou0 hgu0 hzu0 OBHw0 cew0)
    | (refine wpList_load_rep rfl 31 _ rfl (w.heap.size + 1 + 1) 0 rfl [.slice da0 es0.length dc0] _ Tryz.underlying31 isz31 (fun j v hv => by rw [OBHu0.out.o2.cell, Nat.zero_add]; simpa [splice] using hv) ?_)
    | (refine wpList_store_rep rfl 31 _ _ rfl (w.heap.size + 1) 0 rfl [.slice da0 es0.length dc0] rfl 31 _ OBHu0.out.o1 isz31 (by simp) hone.out ?_; intro wz hoz hgz hzz; have HOZ := Lib.hid hoz; have HGZ := Lib.hid hgz; clear hoz hgz hzz))
  have HOF : OB wz (w.heap.size + 1) 31 ⟨[.slice da0 es0.length dc0]⟩ := HOZ.out
  refine bodyPost_ret (results_cell_row Tryz.results17 _ _ (w.heap.size + 1) 31 ⟨[.slice da0 es0.length dc0]⟩ _ _ rfl HOF Tryz.underlying31 rfl isz31) rfl ⟨[.slice da0 es0.length dc0], rfl, (grown_ext EGu0.out HGZ.out (by omega)), ?_⟩
  have sw0 := HW0.out.size
  have su0 := HGu0.out.size
  have swz := HGZ.out.size
  simp only [World.size_alloc] at sw0
  have KPz : Keeps (w.heap.size + 1 + 1 + 1) u0 wz := Keeps.of_grown HGZ.out (by omega)
  have KPu0 : Keeps (w.heap.size + 1 + 1 + 1) w0 wz := Keeps.trans (Keeps.of_grown HGu0.out (by omega)) KPz
  have ow0 := HO0.out.keeps KPu0 (by intro x hx; simp only [Between, World.size_alloc] at hx; omega)
  have hall := OwnL.append (OwnL.one ow0) (OwnL.nil wz (fun _ => False)) (by intro x hx hy; simp only [Between, World.size_alloc, or_false] at hx hy <;> omega)
  exact hall.mono (by intro x hx; simp only [Between, World.size_alloc, or_false] at hx ⊢; omega)

set_option maxRecDepth 100000 in
set_option maxHeartbeats 1000000 in
theorem eqProgram_of (es0 : List (List Tr)) (h0 : EqSC 84 6 es0) : EqC 20 ([.row 6 es0] ++ ([])) := by
  intro cs ds w hr hr'
  obtain ⟨a0, c0, r0, rfl, G0, n0⟩ := RepL.sRow hr
  obtain rfl := RepL.nil_eq n0
  clear hr n0
  obtain ⟨za0, zc0, zr0, rfl, zG0, zn0⟩ := RepL.sRow hr'
  obtain rfl := RepL.nil_eq zn0
  clear hr' zn0
  go_enter Tryz.func20, Tryz.ntmps20
  go_wp2_with fail
  refine (h0 _ _ _ (G0.out.1.ext (.alloc (.alloc (.refl _) _) _)) (zG0.out.1.ext (.alloc (.alloc (.refl _) _) _))).mono ?_; rintro e w0 ⟨rfl, hw0⟩
  have HW0 := Lib.hid hw0
  have ob0 := (Two.new w _ _ _ _).ext hw0
  have OBH := Lib.hid ob0
  have ce0 := ob0.o0.cell
  have cf0 := ob0.o1.cell
  clear hw0 ob0
  go_wp2_with fail
  go_ret
  exact ⟨rfl, (Ext.trans (.alloc (.alloc (.refl _) _) _) HW0.out)⟩

end Go.Proofs.YtnakkelglbcecaaGreat

namespace Go.Proofs.YtnakkelglbcecaaGreat
open Go.RowKit Go.Proofs

end Go.Proofs.YtnakkelglbcecaaGreat

namespace Go.Proofs.YtnakkelglbcecaaGreat
open Go.RowKit Go.Proofs

set_option maxRecDepth 100000 in
set_option maxHeartbeats 1000000 in
theorem szStringS_all (l : List ByteArray) : SzSC 178 1 (strTrs l) := by
  intro s left w hs h0 h1
  obtain ⟨a, cap, rfl, hl, hm⟩ := hs.shape
  rw [strTrs_len] at *
  unfold maxLen at hm
  have HS := Lib.hid hs
  clear hs
  go_enter Tryz.func178, Tryz.ntmps178
  go_wp2_with fail
  · go_ret
    exact ⟨-1, rfl, .refl _, by omega, by omega, by omega⟩
  go_loopw [1, 5] (fun lv i wr => ∃ (k : Nat) (r : Int), k ≤ l.length ∧ i = .int .i64 k ∧ lv = .int .i64 r ∧ wr = w ∧ 0 ≤ r ∧ Hid (r + l.length + Tr.bulkAll ((strTrs l).take k) ≤ left) ∧ r ≤ left) (fun _ i _ => l.length - (intOf i).toNat)
  case atStart => exact ⟨0, _, Nat.zero_le _, rfl, rfl, rfl, by omega, by show _ ≤ _; simp only [List.take_zero, Tr.bulkAll]; omega, by omega⟩
  case round =>
    obtain ⟨k, r, hk, rfl, rfl, rfl, hr0, HR, hrl⟩ := hrel
    by_cases hlt : k < l.length
    · obtain ⟨b, off, rfl, hb, hle, hcell⟩ := HS.out.str hlt
      have HT : Hid (Tr.bulkAll ((strTrs l).take (k + 1)) = Tr.bulkAll ((strTrs l).take k) + l[k].size) := by
        show _ = _
        have h1 : k < (strTrs l).length := by rw [strTrs_len]; exact hlt
        rw [Tr.bulkAll_take _ k h1]
        have h2 : (strTrs l)[k] = [.leaf (.string l[k])] := by simp [strTrs]
        rw [h2]
        simp [Tr.bulkL, Tr.bulk]
      unfold maxLen at hle
      generalize l[k] = z at *
      go_wp2_with fail
      · go_ret
        exact ⟨-1, rfl, .refl _, by omega, by omega, by omega⟩
      · go_roundw
        case rel => exact ⟨k + 1, _, by omega, by go_num, rfl, by first | trivial | rfl, by omega, by show _ ≤ _; have h1 := HR.out; have h2 := HT.out; omega, by omega⟩
        case measure => simp [intOf]; omega
    · have hkl : k = l.length := by omega
      go_wp2_with fail
      go_ret
      refine ⟨r, rfl, .refl _, by omega, by omega, fun _ => ?_⟩
      have h1 := HR.out
      rw [hkl, ← strTrs_len, List.take_length] at h1
      simp only [Tr.bulk]
      omega

set_option maxRecDepth 100000 in
set_option maxHeartbeats 1000000 in
theorem eqStringS_all (l : List ByteArray) : EqSC 29 1 (strTrs l) := by
  intro s u w hs hu
  obtain ⟨a, cap, rfl, hl, hm⟩ := hs.shape
  obtain ⟨a', cap', rfl, hl', hm'⟩ := hu.shape
  rw [strTrs_len] at *
  unfold maxLen at hm hm'
  have HS := Lib.hid hs
  have HU := Lib.hid hu
  clear hs hu
  go_enter Tryz.func29, Tryz.ntmps29
  go_wp2_with fail
  go_loopw [5] (fun i wr => ∃ k : Nat, k ≤ l.length ∧ i = .int .i64 k ∧ Ext w wr) (fun i _ => l.length - (intOf i).toNat)
  case atStart => exact ⟨0, Nat.zero_le _, rfl, .refl _⟩
  case round =>
    obtain ⟨k, hk, rfl, hw⟩ := hrel
    by_cases hlt : k < l.length
    · obtain ⟨b, off, rfl, hb, -, hcell⟩ := (HS.out.ext hw).str hlt
      obtain ⟨b', off', rfl, hb', -, hcell'⟩ := (HU.out.ext hw).str hlt
      have ki : (k : Int) < (l.length : Int) := by omega
      have k0 : (0 : Int) ≤ (k : Int) := by omega
      have hk0 : 0 ≤ k := Nat.zero_le k
      generalize l[k] = z at *
      go_wp2_with fail
      go_quiet (fail)
      go_wp2_with fail
      go_roundw
      case rel => exact ⟨k + 1, by omega, by go_num, hw.drewN _⟩
      case measure => simp [intOf]; omega
    · go_wp2_with fail
      go_ret
      exact ⟨rfl, hw⟩

set_option maxRecDepth 100000 in
set_option maxHeartbeats 1000000 in
theorem toStringS_all (l : List ByteArray) : ToSC 183 1 (strTrs l) := by
  intro s w hs hbk
  obtain ⟨a, cap, rfl, hl, hm⟩ := hs.shape
  rw [strTrs_len] at *
  unfold maxLen at hm
  have HS := Lib.hid hs
  have n0 : (0 : Int) ≤ l.length := by omega
  clear hs
  go_enter Tryz.func183, Tryz.ntmps183
  go_wp2_with (refine wpList_make_rep rfl 54 (.tmp 6) rfl l.length rfl 9 Tryz.underlying54 1 16 iszb9 (by omega) (by omega) ?_; intro wm arr0 ha0 hob0 hx0 hz0; have HA0 := Lib.hid ha0; have HOB0 := Lib.hid hob0; have HX0 := Lib.hid hx0; have HZ0 := Lib.hid hz0; clear ha0 hob0 hx0 hz0)
  go_loopw [4] (fun i wr => ∃ (k : Nat) (arr : Array Value), k ≤ l.length ∧ i = .int .i64 k ∧ Ext w wr ∧ w.heap.size < wr.heap.size ∧ OB wr w.heap.size 9 arr ∧ arr.size = (strTrs l).length * 1 ∧ Part wr w.heap.size arr 1 (strTrs l) k) (fun i _ => l.length - (intOf i).toNat)
  case atStart => exact ⟨0, arr0, Nat.zero_le _, rfl, HX0.out, by rw [HZ0.out]; omega, HOB0.out, by rw [strTrs_len]; exact HA0.out, Part.zero _ _ _ _ _⟩
  case round =>
    obtain ⟨k, arr, hk, rfl, hw, hgt, hob, hasz, hpart⟩ := hrel
    have HOB := Lib.hid hob
    have HAS := Lib.hid hasz
    have HP := Lib.hid hpart
    clear hob hasz hpart
    by_cases hlt : k < l.length
    · obtain ⟨b, off, rfl, hb, hle, hcell⟩ := (HS.out.ext hw).str hlt
      have HGT := Lib.hid (strTrs_get hlt)
      have HLE : Hid (LeafOk (Value.string l[k])) := hle
      have HF : Hid (0 + k * 1 + 1 ≤ arr.size) := by have h1 := HAS.out; rw [strTrs_len] at h1; show _ ≤ _; omega
      clear hle
      generalize l[k] = z at *
      go_wp2_with (refine wpList_store_cell rfl 9 (.tmp 20) (.tmp 19) rfl w.heap.size k rfl (.string z) rfl rfl 9 arr HOB.out isz9 (by have h1 := HF.out; omega) rfl ?_; intro w2 hob2 hg2 hz2; have HOB2 := Lib.hid hob2; have HG2 := Lib.hid hg2; have HZ2 := Lib.hid hz2; clear hob2 hg2 hz2)
      go_roundw
      case rel =>
        have hob2 : OB w2 w.heap.size 9 (splice arr (k * 1) [Value.string z]) := by rw [Nat.mul_one]; exact HOB2.out
        have hfit : k * 1 + [Value.string z].length ≤ arr.size := by have := HF.out; simp; omega
        refine ⟨k + 1, _, by omega, by go_num, grown_ext hw HG2.out (Nat.le_refl _), by rw [HZ2.out]; exact hgt, hob2, by rw [splice_size hfit]; exact HAS.out, HP.out.step hgt (.refl _) HGT.out (OwnL.cons_leaf HLE.out (OwnL.nil _ _)) rfl HAS.out HG2.out hob2⟩
      case measure => simp [intOf]; omega
    · have hkl : k = l.length := by omega
      go_wp2_with fail
      go_ret
      subst hkl
      have hp := HP.out
      rw [← strTrs_len] at hp
      have := (hp.done HOB.out (strTrs_sz l) (Nat.le_refl _) (by rw [strTrs_len]; unfold maxLen; omega) (Nat.le_refl _)).mono (S' := Between w wr) fun x hx => ⟨hx.1, hx.2⟩
      rw [strTrs_len] at this
      exact ⟨_, rfl, hw, this⟩

end Go.Proofs.YtnakkelglbcecaaGreat

namespace Go.Proofs.YtnakkelglbcecaaGreat
open Go.RowKit Go.Proofs

theorem szType_all : ∀ x : GType, SzC 43 x.tr :=
  GType.ind fun v0 v1 v2 ih => szType_of v0 v1 (GType.trs v2) (szTypeS_of _ (GType.sz v2) (GType.all ih))

theorem szTypeS_all (l : List GType) : SzSC 101 3 (GType.trs l) := szTypeS_of _ (GType.sz l) (GType.all fun x _ => szType_all x)

theorem toType_all : ∀ x : GType, ToC 45 x.tr :=
  GType.ind fun v0 v1 v2 ih => toType_of v0 v1 (GType.trs v2) (toTypeS_of _ (GType.sz v2) (GType.all ih))

theorem toTypeS_all (l : List GType) : ToSC 104 3 (GType.trs l) := toTypeS_of _ (GType.sz l) (GType.all fun x _ => toType_all x)

theorem eqType_all : ∀ x : GType, EqC 47 x.tr :=
  GType.ind fun v0 v1 v2 ih => eqType_of v0 v1 (GType.trs v2) (eqTypeS_of _ (GType.sz v2) (GType.all ih))

theorem eqTypeS_all (l : List GType) : EqSC 107 3 (GType.trs l) := eqTypeS_of _ (GType.sz l) (GType.all fun x _ => eqType_all x)

theorem szArm_in (x : GArm) (h : SzC 220 x.gBody.tr) : SzC 245 x.tr := by
  obtain ⟨v0, v1, v2⟩ := x
  exact szArm_of v0 (strTrs v1) (GExpr.tr v2) (GExpr.tr_len v2) (szStringS_all v1) h

theorem szExpr_all : ∀ x : GExpr, SzC 220 x.tr :=
  GExpr.ind fun v0 v1 v2 v3 v4 v5 v6 ih5 ih6 => szExpr_of v0 v1 v2 v3 (GType.tr v4) (GType.tr_len v4) (GExpr.trs v5) (GArm.trs v6) (szType_all v4) (szExprS_of _ (GExpr.sz v5) (GExpr.all ih5)) (szArmS_of _ (GArm.sz v6) (GArm.all fun x hx => szArm_in x (ih6 x hx)))

theorem toArm_in (x : GArm) (h : ToC 225 x.gBody.tr) : ToC 246 x.tr := by
  obtain ⟨v0, v1, v2⟩ := x
  exact toArm_of v0 (strTrs v1) (GExpr.tr v2) (GExpr.tr_len v2) (toStringS_all v1) h

theorem toExpr_all : ∀ x : GExpr, ToC 225 x.tr :=
  GExpr.ind fun v0 v1 v2 v3 v4 v5 v6 ih5 ih6 => toExpr_of v0 v1 v2 v3 (GType.tr v4) (GType.tr_len v4) (GExpr.trs v5) (GArm.trs v6) (toType_all v4) (toExprS_of _ (GExpr.sz v5) (GExpr.all ih5)) (toArmS_of _ (GArm.sz v6) (GArm.all fun x hx => toArm_in x (ih6 x hx)))

theorem eqArm_in (x : GArm) (h : EqC 130 x.gBody.tr) : EqC 202 x.tr := by
  obtain ⟨v0, v1, v2⟩ := x
  exact eqArm_of v0 (strTrs v1) (GExpr.tr v2) (GExpr.tr_len v2) (eqStringS_all v1) h

theorem eqExpr_all : ∀ x : GExpr, EqC 130 x.tr :=
  GExpr.ind fun v0 v1 v2 v3 v4 v5 v6 ih5 ih6 => eqExpr_of v0 v1 v2 v3 (GType.tr v4) (GType.tr_len v4) (GExpr.trs v5) (GArm.trs v6) (eqType_all v4) (eqExprS_of _ (GExpr.sz v5) (GExpr.all ih5)) (eqArmS_of _ (GArm.sz v6) (GArm.all fun x hx => eqArm_in x (ih6 x hx)))

theorem szMethod_all (x : GMethod) : SzC 232 x.tr := by
  obtain ⟨v0, v1, v2⟩ := x
  exact szMethod_of v0 (strTrs v1) (GExpr.tr v2) (GExpr.tr_len v2) (szStringS_all v1) (szExpr_all v2)

theorem szMethodS_all (l : List GMethod) : SzSC 218 11 (GMethod.trs l) := szMethodS_of _ (GMethod.sz l) (GMethod.all fun x _ => szMethod_all x)

theorem toMethod_all (x : GMethod) : ToC 238 x.tr := by
  obtain ⟨v0, v1, v2⟩ := x
  exact toMethod_of v0 (strTrs v1) (GExpr.tr v2) (GExpr.tr_len v2) (toStringS_all v1) (toExpr_all v2)

theorem toMethodS_all (l : List GMethod) : ToSC 223 11 (GMethod.trs l) := toMethodS_of _ (GMethod.sz l) (GMethod.all fun x _ => toMethod_all x)

theorem eqMethod_all (x : GMethod) : EqC 243 x.tr := by
  obtain ⟨v0, v1, v2⟩ := x
  exact eqMethod_of v0 (strTrs v1) (GExpr.tr v2) (GExpr.tr_len v2) (eqStringS_all v1) (eqExpr_all v2)

theorem eqMethodS_all (l : List GMethod) : EqSC 227 11 (GMethod.trs l) := eqMethodS_of _ (GMethod.sz l) (GMethod.all fun x _ => eqMethod_all x)

theorem szBound_all (x : GBound) : SzC 21 x.tr := by
  obtain ⟨v0, v1⟩ := x
  exact szBound_of v0 (GType.tr v1) (GType.tr_len v1) (szType_all v1)

theorem szBoundS_all (l : List GBound) : SzSC 50 4 (GBound.trs l) := szBoundS_of _ (GBound.sz l) (GBound.all fun x _ => szBound_all x)

theorem toBound_all (x : GBound) : ToC 23 x.tr := by
  obtain ⟨v0, v1⟩ := x
  exact toBound_of v0 (GType.tr v1) (GType.tr_len v1) (toType_all v1)

theorem toBoundS_all (l : List GBound) : ToSC 52 4 (GBound.trs l) := toBoundS_of _ (GBound.sz l) (GBound.all fun x _ => toBound_all x)

theorem eqBound_all (x : GBound) : EqC 26 x.tr := by
  obtain ⟨v0, v1⟩ := x
  exact eqBound_of v0 (GType.tr v1) (GType.tr_len v1) (eqType_all v1)

theorem eqBoundS_all (l : List GBound) : EqSC 55 4 (GBound.trs l) := eqBoundS_of _ (GBound.sz l) (GBound.all fun x _ => eqBound_all x)

theorem szInstance_all (x : GInstance) : SzC 205 x.tr := by
  obtain ⟨v0, v1, v2, v3, v4, v5, v6, v7⟩ := x
  exact szInstance_of v0 (strTrs v1) (GType.tr v2) (GType.tr_len v2) (GBound.trs v3) v4 v5 (GType.tr v6) (GType.tr_len v6) (GMethod.trs v7) (szStringS_all v1) (szType_all v2) (szBoundS_all v3) (szType_all v6) (szMethodS_all v7)

theorem szInstanceS_all (l : List GInstance) : SzSC 181 12 (GInstance.trs l) := szInstanceS_of _ (GInstance.sz l) (GInstance.all fun x _ => szInstance_all x)

theorem toInstance_all (x : GInstance) : ToC 209 x.tr := by
  obtain ⟨v0, v1, v2, v3, v4, v5, v6, v7⟩ := x
  exact toInstance_of v0 (strTrs v1) (GType.tr v2) (GType.tr_len v2) (GBound.trs v3) v4 v5 (GType.tr v6) (GType.tr_len v6) (GMethod.trs v7) (toStringS_all v1) (toType_all v2) (toBoundS_all v3) (toType_all v6) (toMethodS_all v7)

theorem toInstanceS_all (l : List GInstance) : ToSC 186 12 (GInstance.trs l) := toInstanceS_of _ (GInstance.sz l) (GInstance.all fun x _ => toInstance_all x)

theorem eqInstance_all (x : GInstance) : EqC 212 x.tr := by
  obtain ⟨v0, v1, v2, v3, v4, v5, v6, v7⟩ := x
  exact eqInstance_of v0 (strTrs v1) (GType.tr v2) (GType.tr_len v2) (GBound.trs v3) v4 v5 (GType.tr v6) (GType.tr_len v6) (GMethod.trs v7) (eqStringS_all v1) (eqType_all v2) (eqBoundS_all v3) (eqType_all v6) (eqMethodS_all v7)

theorem eqInstanceS_all (l : List GInstance) : EqSC 190 12 (GInstance.trs l) := eqInstanceS_of _ (GInstance.sz l) (GInstance.all fun x _ => eqInstance_all x)

theorem szParam_all (x : GParam) : SzC 233 x.tr := by
  obtain ⟨v0, v1⟩ := x
  exact szParam_of v0 (GType.tr v1) (GType.tr_len v1) (szType_all v1)

theorem szParamS_all (l : List GParam) : SzSC 219 4 (GParam.trs l) := szParamS_of _ (GParam.sz l) (GParam.all fun x _ => szParam_all x)

theorem toParam_all (x : GParam) : ToC 239 x.tr := by
  obtain ⟨v0, v1⟩ := x
  exact toParam_of v0 (GType.tr v1) (GType.tr_len v1) (toType_all v1)

theorem toParamS_all (l : List GParam) : ToSC 224 4 (GParam.trs l) := toParamS_of _ (GParam.sz l) (GParam.all fun x _ => toParam_all x)

theorem eqParam_all (x : GParam) : EqC 175 x.tr := by
  obtain ⟨v0, v1⟩ := x
  exact eqParam_of v0 (GType.tr v1) (GType.tr_len v1) (eqType_all v1)

theorem eqParamS_all (l : List GParam) : EqSC 129 4 (GParam.trs l) := eqParamS_of _ (GParam.sz l) (GParam.all fun x _ => eqParam_all x)

theorem szFunction_all (x : GFunction) : SzC 206 x.tr := by
  obtain ⟨v0, v1, v2, v3, v4, v5⟩ := x
  exact szFunction_of v0 (strTrs v1) (GBound.trs v2) (GParam.trs v3) (GType.tr v4) (GType.tr_len v4) (GExpr.tr v5) (GExpr.tr_len v5) (szStringS_all v1) (szBoundS_all v2) (szParamS_all v3) (szType_all v4) (szExpr_all v5)

theorem szFunctionS_all (l : List GFunction) : SzSC 182 16 (GFunction.trs l) := szFunctionS_of _ (GFunction.sz l) (GFunction.all fun x _ => szFunction_all x)

theorem toFunction_all (x : GFunction) : ToC 210 x.tr := by
  obtain ⟨v0, v1, v2, v3, v4, v5⟩ := x
  exact toFunction_of v0 (strTrs v1) (GBound.trs v2) (GParam.trs v3) (GType.tr v4) (GType.tr_len v4) (GExpr.tr v5) (GExpr.tr_len v5) (toStringS_all v1) (toBoundS_all v2) (toParamS_all v3) (toType_all v4) (toExpr_all v5)

theorem toFunctionS_all (l : List GFunction) : ToSC 187 16 (GFunction.trs l) := toFunctionS_of _ (GFunction.sz l) (GFunction.all fun x _ => toFunction_all x)

theorem eqFunction_all (x : GFunction) : EqC 73 x.tr := by
  obtain ⟨v0, v1, v2, v3, v4, v5⟩ := x
  exact eqFunction_of v0 (strTrs v1) (GBound.trs v2) (GParam.trs v3) (GType.tr v4) (GType.tr_len v4) (GExpr.tr v5) (GExpr.tr_len v5) (eqStringS_all v1) (eqBoundS_all v2) (eqParamS_all v3) (eqType_all v4) (eqExpr_all v5)

theorem eqFunctionS_all (l : List GFunction) : EqSC 191 16 (GFunction.trs l) := eqFunctionS_of _ (GFunction.sz l) (GFunction.all fun x _ => eqFunction_all x)

theorem szConstructor_all (x : GConstructor) : SzC 231 x.tr := by
  obtain ⟨v0, v1⟩ := x
  exact szConstructor_of v0 (GType.trs v1) (szTypeS_all v1)

theorem szConstructorS_all (l : List GConstructor) : SzSC 217 2 (GConstructor.trs l) := szConstructorS_of _ (GConstructor.sz l) (GConstructor.all fun x _ => szConstructor_all x)

theorem toConstructor_all (x : GConstructor) : ToC 237 x.tr := by
  obtain ⟨v0, v1⟩ := x
  exact toConstructor_of v0 (GType.trs v1) (toTypeS_all v1)

theorem toConstructorS_all (l : List GConstructor) : ToSC 222 2 (GConstructor.trs l) := toConstructorS_of _ (GConstructor.sz l) (GConstructor.all fun x _ => toConstructor_all x)

theorem eqConstructor_all (x : GConstructor) : EqC 242 x.tr := by
  obtain ⟨v0, v1⟩ := x
  exact eqConstructor_of v0 (GType.trs v1) (eqTypeS_all v1)

theorem eqConstructorS_all (l : List GConstructor) : EqSC 226 2 (GConstructor.trs l) := eqConstructorS_of _ (GConstructor.sz l) (GConstructor.all fun x _ => eqConstructor_all x)

theorem szDataType_all (x : GDataType) : SzC 204 x.tr := by
  obtain ⟨v0, v1, v2⟩ := x
  exact szDataType_of v0 (strTrs v1) (GConstructor.trs v2) (szStringS_all v1) (szConstructorS_all v2)

theorem szDataTypeS_all (l : List GDataType) : SzSC 180 3 (GDataType.trs l) := szDataTypeS_of _ (GDataType.sz l) (GDataType.all fun x _ => szDataType_all x)

theorem toDataType_all (x : GDataType) : ToC 208 x.tr := by
  obtain ⟨v0, v1, v2⟩ := x
  exact toDataType_of v0 (strTrs v1) (GConstructor.trs v2) (toStringS_all v1) (toConstructorS_all v2)

theorem toDataTypeS_all (l : List GDataType) : ToSC 185 3 (GDataType.trs l) := toDataTypeS_of _ (GDataType.sz l) (GDataType.all fun x _ => toDataType_all x)

theorem eqDataType_all (x : GDataType) : EqC 211 x.tr := by
  obtain ⟨v0, v1, v2⟩ := x
  exact eqDataType_of v0 (strTrs v1) (GConstructor.trs v2) (eqStringS_all v1) (eqConstructorS_all v2)

theorem eqDataTypeS_all (l : List GDataType) : EqSC 189 3 (GDataType.trs l) := eqDataTypeS_of _ (GDataType.sz l) (GDataType.all fun x _ => eqDataType_all x)

theorem szSignature_all (x : GSignature) : SzC 230 x.tr := by
  obtain ⟨v0, v1, v2, v3, v4, v5⟩ := x
  exact szSignature_of v0 (GType.trs v1) (GType.tr v2) (GType.tr_len v2) v3 (strTrs v4) (GExpr.tr v5) (GExpr.tr_len v5) (szTypeS_all v1) (szType_all v2) (szStringS_all v4) (szExpr_all v5)

theorem szSignatureS_all (l : List GSignature) : SzSC 216 16 (GSignature.trs l) := szSignatureS_of _ (GSignature.sz l) (GSignature.all fun x _ => szSignature_all x)

theorem toSignature_all (x : GSignature) : ToC 236 x.tr := by
  obtain ⟨v0, v1, v2, v3, v4, v5⟩ := x
  exact toSignature_of v0 (GType.trs v1) (GType.tr v2) (GType.tr_len v2) v3 (strTrs v4) (GExpr.tr v5) (GExpr.tr_len v5) (toTypeS_all v1) (toType_all v2) (toStringS_all v4) (toExpr_all v5)

theorem toSignatureS_all (l : List GSignature) : ToSC 221 16 (GSignature.trs l) := toSignatureS_of _ (GSignature.sz l) (GSignature.all fun x _ => toSignature_all x)

theorem eqSignature_all (x : GSignature) : EqC 167 x.tr := by
  obtain ⟨v0, v1, v2, v3, v4, v5⟩ := x
  exact eqSignature_of v0 (GType.trs v1) (GType.tr v2) (GType.tr_len v2) v3 (strTrs v4) (GExpr.tr v5) (GExpr.tr_len v5) (eqTypeS_all v1) (eqType_all v2) (eqStringS_all v4) (eqExpr_all v5)

theorem eqSignatureS_all (l : List GSignature) : EqSC 122 16 (GSignature.trs l) := eqSignatureS_of _ (GSignature.sz l) (GSignature.all fun x _ => eqSignature_all x)

theorem szTrait_all (x : GTrait) : SzC 203 x.tr := by
  obtain ⟨v0, v1, v2, v3, v4⟩ := x
  exact szTrait_of v0 (strTrs v1) v2 v3 (GSignature.trs v4) (szStringS_all v1) (szSignatureS_all v4)

theorem szTraitS_all (l : List GTrait) : SzSC 179 5 (GTrait.trs l) := szTraitS_of _ (GTrait.sz l) (GTrait.all fun x _ => szTrait_all x)

theorem toTrait_all (x : GTrait) : ToC 207 x.tr := by
  obtain ⟨v0, v1, v2, v3, v4⟩ := x
  exact toTrait_of v0 (strTrs v1) v2 v3 (GSignature.trs v4) (toStringS_all v1) (toSignatureS_all v4)

theorem toTraitS_all (l : List GTrait) : ToSC 184 5 (GTrait.trs l) := toTraitS_of _ (GTrait.sz l) (GTrait.all fun x _ => toTrait_all x)

theorem eqTrait_all (x : GTrait) : EqC 68 x.tr := by
  obtain ⟨v0, v1, v2, v3, v4⟩ := x
  exact eqTrait_of v0 (strTrs v1) v2 v3 (GSignature.trs v4) (eqStringS_all v1) (eqSignatureS_all v4)

theorem eqTraitS_all (l : List GTrait) : EqSC 188 5 (GTrait.trs l) := eqTraitS_of _ (GTrait.sz l) (GTrait.all fun x _ => eqTrait_all x)

theorem szPackage_all (x : GPackage) : SzC 136 x.tr := by
  obtain ⟨v0, v1, v2, v3, v4, v5⟩ := x
  exact szPackage_of v0 (strTrs v1) (GTrait.trs v2) (GDataType.trs v3) (GInstance.trs v4) (GFunction.trs v5) (szStringS_all v1) (szTraitS_all v2) (szDataTypeS_all v3) (szInstanceS_all v4) (szFunctionS_all v5)

theorem szPackageS_all (l : List GPackage) : SzSC 76 6 (GPackage.trs l) := szPackageS_of _ (GPackage.sz l) (GPackage.all fun x _ => szPackage_all x)

theorem toPackage_all (x : GPackage) : ToC 140 x.tr := by
  obtain ⟨v0, v1, v2, v3, v4, v5⟩ := x
  exact toPackage_of v0 (strTrs v1) (GTrait.trs v2) (GDataType.trs v3) (GInstance.trs v4) (GFunction.trs v5) (toStringS_all v1) (toTraitS_all v2) (toDataTypeS_all v3) (toInstanceS_all v4) (toFunctionS_all v5)

theorem toPackageS_all (l : List GPackage) : ToSC 80 6 (GPackage.trs l) := toPackageS_of _ (GPackage.sz l) (GPackage.all fun x _ => toPackage_all x)

theorem eqPackage_all (x : GPackage) : EqC 143 x.tr := by
  obtain ⟨v0, v1, v2, v3, v4, v5⟩ := x
  exact eqPackage_of v0 (strTrs v1) (GTrait.trs v2) (GDataType.trs v3) (GInstance.trs v4) (GFunction.trs v5) (eqStringS_all v1) (eqTraitS_all v2) (eqDataTypeS_all v3) (eqInstanceS_all v4) (eqFunctionS_all v5)

theorem eqPackageS_all (l : List GPackage) : EqSC 84 6 (GPackage.trs l) := eqPackageS_of _ (GPackage.sz l) (GPackage.all fun x _ => eqPackage_all x)

theorem szProgram_all (x : GProgram) : SzC 15 x.tr := by
  obtain ⟨v0⟩ := x
  exact szProgram_of (GPackage.trs v0) (szPackageS_all v0)

theorem toProgram_all (x : GProgram) : ToC 17 x.tr := by
  obtain ⟨v0⟩ := x
  exact toProgram_of (GPackage.trs v0) (toPackageS_all v0)

theorem eqProgram_all (x : GProgram) : EqC 20 x.tr := by
  obtain ⟨v0⟩ := x
  exact eqProgram_of (GPackage.trs v0) (eqPackageS_all v0)

end Go.Proofs.YtnakkelglbcecaaGreat

namespace Go.Proofs.YtnakkelglbcecaaGreat
open Go.RowKit

section
variable {P : Program} {ops : Array Oper} {Q : Exit → Act → World → Prop} {md : Region.Mode} {S : World → Prop}

theorem wpAnyH_load_rep {i : Nat} {oi : Oper} {fuel : Nat} {listed : Array Bool} {a : Act} {w : World} (hi : ops[i]? = some oi)
    (hs : Region.noSelect ops = true) (hf : Region.free md ops listed i = true) (hr : (Region.ready md ops listed).contains i = true)
    (_hQ : ∀ c a w, Q (.panic c) (a.put oi.dst (.bool true)) w → Q (.panic c) a w) (hgd : oi.guard = none) (ty : TypeId) (x : Operand) (ho : oi.op = .load ty x)
    (b off : Nat) (hx : a.eval x = .pointer (some ⟨b, off, none⟩)) (cs : List Value) (fs : Array Field) (hu : P.underlying ty = some (.struct fs)) (hinfo : (P.info? ty).map (·.size) = some cs.length)
    (hS : ∀ w, S w → ∀ (j : Nat) (v : Value), cs[j]? = some v → w.cell? ⟨b, off + j, none⟩ = some v) (hw : S w) (hQ2 : ∀ c a w v, Q (.panic c) (a.put oi.dst v) w → Q (.panic c) a w)
    (h : wpAnyH P md ops Q S fuel (listed.setIfInBounds i true) (a.put oi.dst (.agg ⟨cs⟩)) w) : wpAnyH P md ops Q S (fuel + 1) listed a w :=
  wpAnyH_take hi hs hf hr (fun c a w => hQ2 c a w _) (.inl ⟨by simp [Region.wanted, hgd], fun w1 hw1 => by
    unfold execOp
    simp only [ho, hx, Instr.loadAt, Instr.sureAddr, Sem.run_bind, Sem.run_pure, Result.andThen_ok, run_loadVar_rep w1 b off ty cs fs hu hinfo (hS w1 hw1)]⟩) hw h

theorem run_call_func {o : Oper} {ev : Operand → Value} {f : FuncId} {fn : Func} {ars : Array Operand} {ts : Array TypeId} (ho : o.op = .call { callee := .value (.func f), args := ars, argTypes := ts })
    (hev : ev (.func f) = .func (.func f) #[] #[]) (vals : Array Value) (hv : ars.map ev = vals) (hf : P.funcs[f]? = some fn) (hname : (fn.name == "runtime.NumGoroutine") = false) (hb : fn.body.isNone = false) (w : World) :
    (execOp ev o).run P w = .ok (.enter f vals) w := by
  have hc := run_callFunc_body (P := P) hf hname hb
  unfold execOp
  simp only [ho]
  simp [resolve, invoke, Deferred.ofValue, hev, hv, hc]

theorem wpAnyH_call {i : Nat} {o : Oper} {fuel : Nat} {listed : Array Bool} {a : Act} {w : World} {f : FuncId} {vals : Array Value} {R : Ending → World → Prop} (hr : Region.ready md ops listed = [i]) (ho : ops[i]? = some o) (hgd : o.guard = none)
    (hrun : (execOp a.eval o).run P w = .ok (.enter f vals) w) (hc : Calls P f vals w R)
    (h : ∀ e w', R e w' → ∃ v, e = .returned v ∧ S w' ∧ wpAnyH P md ops Q S fuel (listed.setIfInBounds i true) (a.put o.dst v) w') : wpAnyH P md ops Q S (fuel + 1) listed a w := by
  refine wpAnyH_all hr (by simp) fun j hj => ?_
  obtain rfl : j = i := by simpa using hj
  have hw : Region.wanted o (yielded ops a.tmps) = true := by simp [Region.wanted, hgd]
  unfold wpOp
  simp only [ho]
  rw [if_pos hw]
  refine .inl ?_
  unfold Oper.wp
  rw [hrun]
  refine hc.mono fun e w' hR => ?_
  obtain ⟨v, rfl, h1, h2⟩ := h e w' hR
  exact ⟨h1, h2⟩

theorem run_loadVar_cell {w : World} {p : Addr} {ty : TypeId} {v : Value} {d : TypeDesc} (hu : P.underlying ty = some d) (hd : (match d with | .struct _ | .array _ _ => true | _ => false) = false) (hc : w.cell? p = some v) :
    (loadVar ty p).run P w = .ok v w := by
  have hagg : (isAgg ty).run P w = .ok false w := by
    unfold isAgg
    rw [Sem.run_bind, run_underlying hu w]
    cases d <;> simp_all
  simp [loadVar, Sem.run_bind, hagg, hc]

theorem wpAnyH_cell {i : Nat} {oi : Oper} {fuel : Nat} {listed : Array Bool} {a : Act} {w : World} (hi : ops[i]? = some oi)
    (hs : Region.noSelect ops = true) (hf : Region.free md ops listed i = true) (hr : (Region.ready md ops listed).contains i = true) (hgd : oi.guard = none) (ty : TypeId) (x : Operand) (ho : oi.op = .load ty x)
    (b off : Nat) (hx : a.eval x = .pointer (some ⟨b, off, none⟩)) (v : Value) (d : TypeDesc) (hu : P.underlying ty = some d) (hd : (match d with | .struct _ | .array _ _ => true | _ => false) = false)
    (hS : ∀ w, S w → w.cell? ⟨b, off, none⟩ = some v) (hw : S w) (hQ2 : ∀ c a w v, Q (.panic c) (a.put oi.dst v) w → Q (.panic c) a w)
    (h : wpAnyH P md ops Q S fuel (listed.setIfInBounds i true) (a.put oi.dst v) w) : wpAnyH P md ops Q S (fuel + 1) listed a w :=
  wpAnyH_take hi hs hf hr (fun c a w => hQ2 c a w _) (.inl ⟨by simp [Region.wanted, hgd], fun w1 hw1 => by
    unfold execOp
    simp only [ho, hx, Instr.loadAt, Instr.sureAddr, Sem.run_bind, Sem.run_pure, Result.andThen_ok, run_loadVar_cell hu hd (hS w1 hw1)]⟩) hw h

theorem wpAnyH_index {i : Nat} {oi : Oper} {fuel : Nat} {listed : Array Bool} {a : Act} {w : World} (hi : ops[i]? = some oi)
    (hs : Region.noSelect ops = true) (hf : Region.free md ops listed i = true) (hr : (Region.ready md ops listed).contains i = true) (hgd : oi.guard = none) (ty : TypeId) (x y : Operand) (ho : oi.op = .indexAddr ty x y)
    (b off len cap k sz : Nat) (hx : a.eval x = .slice (some ⟨b, off, none⟩) len cap) (hy : a.eval y = .int .i64 (k : Int)) (hk : k < len) (hu : P.underlying ty = some (.slice (P.elem ty))) (hinfo : (P.info? (P.elem ty)).map (·.size) = some sz)
    (hw : S w) (hQ2 : ∀ c a w v, Q (.panic c) (a.put oi.dst v) w → Q (.panic c) a w)
    (h : wpAnyH P md ops Q S fuel (listed.setIfInBounds i true) (a.put oi.dst (.pointer (some ⟨b, off + k * sz, none⟩))) w) : wpAnyH P md ops Q S (fuel + 1) listed a w :=
  wpAnyH_take hi hs hf hr (fun c a w => hQ2 c a w _) (.inl ⟨by simp [Region.wanted, hgd], fun w1 _ => by
    have hsz : (Go.sizeOf (P.elem ty)).run P w1 = .ok sz w1 := by
      cases hq : P.info? (P.elem ty) with
      | none => simp [hq] at hinfo
      | some j => have : j.size = sz := by simpa [hq] using hinfo
                  simp [Go.sizeOf, typeInfo, hq, this]
    have hadd : ∀ n, (⟨b, off, none⟩ : Addr).add n = ⟨b, off + n, none⟩ := fun n => by unfold Addr.add; split <;> simp_all
    unfold execOp
    simp only [ho, hx, hy, run_indexAt_slice _ _ _ _ _ _ _ hu, Sem.run_bind, hsz, Result.andThen_ok]
    rw [if_pos ⟨by omega, by omega⟩]
    simp [hadd]⟩) hw h

/-- The one operation that may come up now, carried out: it yields a value, in another world. -/
theorem wpAnyH_run {i : Nat} {o : Oper} {fuel : Nat} {listed : Array Bool} {a : Act} {w w' : World} {v : Value} (hr : Region.ready md ops listed = [i]) (ho : ops[i]? = some o) (hgd : o.guard = none)
    (hrun : (execOp a.eval o).run P w = .ok (.value v) w') (hS : S w') (h : wpAnyH P md ops Q S fuel (listed.setIfInBounds i true) (a.put o.dst v) w') : wpAnyH P md ops Q S (fuel + 1) listed a w := by
  refine wpAnyH_all hr (by simp) fun j hj => ?_
  obtain rfl : j = i := by simpa using hj
  have hw : Region.wanted o (yielded ops a.tmps) = true := by simp [Region.wanted, hgd]
  unfold wpOp
  simp only [ho]
  rw [if_pos hw]
  refine .inl ?_
  unfold Oper.wp
  rw [hrun]
  exact ⟨hS, h⟩
/-- The one operation that may come up now is a store of a struct into a block of our own. -/
theorem wpAnyH_store_rep {i : Nat} {o : Oper} {fuel : Nat} {listed : Array Bool} {a : Act} {w : World} (hr : Region.ready md ops listed = [i]) (ho0 : ops[i]? = some o) (hgd : o.guard = none) (ty : TypeId) (x y : Operand) (ho : o.op = .store ty x y)
    (B off : Nat) (hx : a.eval x = .pointer (some ⟨B, off, none⟩)) (cs : List Value) (hy : a.eval y = .agg ⟨cs⟩) (T : TypeId) (arr : Array Value) (hob : OB w B T arr) (hi : (P.info? ty).map (·.size) = some cs.length)
    (hfit : off + cs.length ≤ arr.size) (h1 : ∀ v ∈ cs, v.oneCell' = true)
    (h : ∀ w', OB w' B T (splice arr off cs) → w.grownBy w' (some B) → w'.heap.size = w.heap.size → S w' ∧ wpAnyH P md ops Q S fuel (listed.setIfInBounds i true) (a.put o.dst undef) w') : wpAnyH P md ops Q S (fuel + 1) listed a w := by
  refine wpAnyH_all hr (by simp) fun j hj => ?_
  obtain rfl : j = i := by simpa using hj
  have hw : Region.wanted o (yielded ops a.tmps) = true := by simp [Region.wanted, hgd]
  have hst := run_storeCells_at P B off T cs 0 arr w hob (by simpa using hfit) h1
  cases hq : P.info? ty with
  | none => simp [hq] at hi
  | some inf =>
    have hs : inf.size = cs.length := by simpa [hq] using hi
    have hrun : (storeVar ty ⟨B, off, none⟩ (.agg ⟨cs⟩)).run P w = .ok () (w.setRow B (splice arr off cs)) := by
      simp [storeVar, Go.sizeOf, typeInfo, hq, Value.cells, hs, hst, splice]
    unfold wpOp
    simp only [ho0]
    rw [if_pos hw]
    refine .inl ?_
    unfold Oper.wp execOp
    simp only [ho, hx, hy, Instr.storeAt, Instr.sureAddr, Sem.run_bind, Sem.run_pure, Result.andThen_ok, hrun]
    exact h _ (setRow_heap w B arr _ T _ hob) ⟨rfl, rfl, rfl, by simp, fun k _ hk => setRow_other w B k _ (fun e => hk (by rw [e]))⟩ (by simp)

theorem wpList_load_rep_g {rest : List Oper} {o : Oper} {a : Act} {w : World} (hwd : Region.wanted o (yielded ops a.tmps) = true) (ty : TypeId) (x : Operand) (ho : o.op = .load ty x)
    (b off : Nat) (hx : a.eval x = .pointer (some ⟨b, off, none⟩)) (cs : List Value) (fs : Array Field) (hu : P.underlying ty = some (.struct fs)) (hi : (P.info? ty).map (·.size) = some cs.length)
    (hc : ∀ j v, cs[j]? = some v → w.cell? ⟨b, off + j, none⟩ = some v) (h : wpList P ops Q rest (a.put o.dst (.agg ⟨cs⟩)) w) : wpList P ops Q (o :: rest) a w :=
  wpList_step fun _ hK => by
    rw [if_pos hwd]
    unfold Oper.wp execOp
    simp only [ho, hx, Instr.loadAt, Instr.sureAddr, Sem.run_bind, Sem.run_pure, Result.andThen_ok, run_loadVar_rep w b off ty cs fs hu hi hc]
    exact hK _ _ h

/-- string(b), b's cells the bytes l. -/
theorem wpList_bytes_back {rest : List Oper} {o : Oper} {a : Act} {w : World} (hgd : o.guard = none) (src dst e : TypeId) (x : Operand) (ho : o.op = .convert src dst x) (hs : P.underlying src = some (.slice e)) (he : P.underlying e = some (.int .u8)) (hd : P.underlying dst = some .string)
    (b cap n : Nat) (l : List UInt8) (hn : l.length = n) (hx : a.eval x = .slice (some ⟨b, 0, none⟩) n cap) (hc : ∀ j (hj : j < l.length), w.cell? ⟨b, j, none⟩ = some (.int .u8 (l[j].toNat : Int)))
    (h : wpList P ops Q rest (a.put o.dst (.string ⟨l.toArray⟩)) w) : wpList P ops Q (o :: rest) a w :=
  wpList_plain hgd fun _ hK => by
    subst hn
    have hadd : ∀ n, (⟨b, 0, none⟩ : Addr).add n = ⟨b, n, none⟩ := fun n => by unfold Addr.add; split <;> simp_all
    have hr := run_convert_bytes_back (P := P) w src dst e ⟨b, 0, none⟩ cap l hs he hd (fun j hj => by rw [hadd]; exact hc j hj)
    unfold Oper.wp execOp
    simp only [ho, hx, Sem.run_bind, hr, Result.andThen_ok, Sem.run_pure]
    exact hK _ _ h
theorem bytes_cons (x : UInt8) (l : List UInt8) : (⟨#[x]⟩ : ByteArray) ++ ⟨l.toArray⟩ = ⟨(x :: l).toArray⟩ := by
  apply ByteArray.ext
  simp [ByteArray.data_append]
end
end Go.Proofs.YtnakkelglbcecaaGreat

namespace Go.Proofs.YtnakkelglbcecaaGreat
open Go.RowKit

def digits (k : Nat) : List UInt8 := if _h : k = 0 then [] else digits (k / 10) ++ [UInt8.ofNat (48 + k % 10)]
termination_by k
decreasing_by omega
theorem digits_zero : digits 0 = [] := by rw [digits]; rfl
theorem digits_pos {k : Nat} (h : k ≠ 0) : digits k = digits (k / 10) ++ [UInt8.ofNat (48 + k % 10)] := by rw [digits, dif_neg h]
theorem digits_length (k n : Nat) (h : k < 10 ^ n) : (digits k).length ≤ n := by
  induction n generalizing k with
  | zero => simp at h; subst h; rw [digits_zero]; exact Nat.le_refl _
  | succ n ih =>
    by_cases hk : k = 0
    · subst hk; rw [digits_zero]; simp
    · rw [digits_pos hk, List.length_append]
      have := ih (k / 10) (by rw [Nat.div_lt_iff_lt_mul (by omega), ← Nat.pow_succ]; exact h)
      simp; omega
/-- The text of a mark. -/
def mtext (k : Nat) : ByteArray := ⟨((109 : UInt8) :: if k = 0 then [48] else digits k).toArray⟩

def markLeaf (k : Nat) : Value → Value
  | .int d _ => .int d k
  | .string _ => .string (mtext k)
  | .bool _ => .bool (k % 3 == 0)
  | v => v

mutual
def Tr.cnt : Tr → Nat
  | .leaf _ => 1
  | .row _ es => Tr.cntE es
def Tr.cntL : List Tr → Nat
  | [] => 0
  | t :: r => Tr.cnt t + Tr.cntL r
def Tr.cntE : List (List Tr) → Nat
  | [] => 0
  | e :: r => Tr.cntL e + Tr.cntE r
end
mutual
def Tr.mark : Tr → Nat → Tr
  | .leaf v, k => .leaf (markLeaf k v)
  | .row sz es, k => .row sz (Tr.markE es k)
def Tr.markL : List Tr → Nat → List Tr
  | [], _ => []
  | t :: r, k => Tr.mark t k :: Tr.markL r (k + Tr.cnt t)
def Tr.markE : List (List Tr) → Nat → List (List Tr)
  | [], _ => []
  | e :: r, k => Tr.markL e k :: Tr.markE r (k + Tr.cntL e)
end
theorem Tr.markE_length : ∀ (es : List (List Tr)) (k : Nat), (Tr.markE es k).length = es.length
  | [], _ => rfl
  | e :: r, k => by simp [Tr.markE, Tr.markE_length r]
theorem Tr.markL_length : ∀ (es : List Tr) (k : Nat), (Tr.markL es k).length = es.length
  | [], _ => rfl
  | e :: r, k => by simp [Tr.markL, Tr.markL_length r]
theorem Tr.cntL_append : ∀ (a b : List Tr), Tr.cntL (a ++ b) = Tr.cntL a + Tr.cntL b
  | [], b => by simp [Tr.cntL]
  | t :: a, b => by simp [Tr.cntL, Tr.cntL_append a b, Nat.add_assoc]
theorem Tr.cntE_take : ∀ (es : List (List Tr)) (i : Nat) (h : i < es.length), Tr.cntE (es.take (i + 1)) = Tr.cntE (es.take i) + Tr.cntL es[i]
  | [], i, h => by simp at h
  | e :: r, 0, h => by simp [Tr.cntE]
  | e :: r, i + 1, h => by
    have := Tr.cntE_take r i (by simpa using h)
    simp only [List.take_succ_cons, Tr.cntE, this, List.getElem_cons_succ, Nat.add_assoc]
/-- Element i of the marked slice. -/
theorem Tr.markE_get : ∀ (es : List (List Tr)) (k i : Nat) (h : i < es.length), (Tr.markE es k)[i]? = some (Tr.markL es[i] (k + Tr.cntE (es.take i)))
  | [], k, i, h => by simp at h
  | e :: r, k, 0, h => by simp [Tr.markE, Tr.cntE]
  | e :: r, k, i + 1, h => by
    have := Tr.markE_get r (k + Tr.cntL e) i (by simpa using h)
    simp only [Tr.markE, List.getElem?_cons_succ, this, List.take_succ_cons, Tr.cntE, List.getElem_cons_succ, Nat.add_assoc]

/-- Blocks outside S hold what they held; the rest of the world is as it was. -/
structure Chg (S : Nat → Prop) (w w' : World) : Prop where
  os : w'.os = w.os
  tape : w'.tape = w.tape
  output : w'.output = w.output
  size : w.heap.size ≤ w'.heap.size
  block : ∀ b, b < w.heap.size → ¬ S b → w'.heap[b]? = w.heap[b]?
theorem Chg.refl (S : Nat → Prop) (w : World) : Chg S w w := ⟨rfl, rfl, rfl, Nat.le_refl _, fun _ _ _ => rfl⟩
theorem Chg.trans {S : Nat → Prop} {a b c : World} (h : Chg S a b) (k : Chg S b c) : Chg S a c :=
  ⟨k.os.trans h.os, k.tape.trans h.tape, k.output.trans h.output, Nat.le_trans h.size k.size, fun x hx hs => (k.block x (Nat.lt_of_lt_of_le hx h.size) hs).trans (h.block x hx hs)⟩
theorem Chg.mono {S S' : Nat → Prop} {a b : World} (h : Chg S a b) (hS : ∀ x, S x → S' x) : Chg S' a b := ⟨h.os, h.tape, h.output, h.size, fun x hx hn => h.block x hx fun hs => hn (hS x hs)⟩
theorem Chg.of_ext {S : Nat → Prop} {a b : World} (h : Ext a b) : Chg S a b := ⟨h.os, h.tape, h.output, h.size, fun x hx _ => h.block x hx⟩
theorem Chg.of_grown {S : Nat → Prop} {B : Nat} {a b : World} (h : a.grownBy b (some B)) (hB : S B) : Chg S a b := ⟨h.os, h.tape, h.output, h.size, fun x hx hs => h.block x hx (by simp; rintro rfl; exact hs hB)⟩
theorem Chg.ext {S : Nat → Prop} {a b c : World} (h : Ext a b) (k : Chg S b c) (hS : ∀ x, S x → a.heap.size ≤ x) : Ext a c :=
  ⟨k.os.trans h.os, k.tape.trans h.tape, k.output.trans h.output, Nat.le_trans h.size k.size, fun x hx => (k.block x (Nat.lt_of_lt_of_le hx h.size) (fun hs => by have := hS x hs; omega)).trans (h.block x hx)⟩

/-- One element of an own slice, taken out and put back changed. -/
theorem Own.focus {w : World} {sz : Nat} {es : List (List Tr)} {a : Option Addr} {n cap i : Nat} {S : Nat → Prop} {e : List Tr} (h : Own w (.row sz es) (.slice a n cap) S) (hi : es[i]? = some e) (hl : ∀ x ∈ es, x.length = sz) :
    ∃ b off E arr cs T, a = some ⟨b, off, none⟩ ∧ OB w b E arr ∧ S b ∧ OwnL w e cs T ∧ (∀ x, T x → S x ∧ x ≠ b) ∧ cs.length = sz ∧ (0 < sz → off + i * sz + sz ≤ arr.size) ∧ (∀ j v, cs[j]? = some v → arr[off + i * sz + j]? = some v) ∧
      ∀ w' cs' e', e'.length = sz → OB w' b E (splice arr (off + i * sz) cs') → OwnL w' e' cs' T → (∀ x, x < w.heap.size → S x → x ≠ b → ¬ T x → w'.heap[x]? = w.heap[x]?) → off + i * sz + sz ≤ arr.size →
        Own w' (.row sz (es.set i e')) (.slice a n cap) S := by
  cases h with
  | row c T h1 h2 h3 h4 h5 h6 =>
    have hne : es ≠ [] := by rintro rfl; simp at hi
    obtain ⟨b, off, E, arr, rfl, hob, hs, hc⟩ := h3 hne
    have hlt : i < es.length := (List.getElem?_eq_some_iff.1 hi).1
    have hel : e.length = sz := hl e (List.mem_of_getElem? hi)
    have hgj : ∀ j, j < sz → ∃ d, e[j]? = some d := fun j hj => ⟨e[j]'(by omega), List.getElem?_eq_getElem _⟩
    refine ⟨b, off, E, arr, (List.range sz).map (c i), fun x => ∃ j, j < sz ∧ T i j x, rfl, hob, hs, ?_, ?_, by simp, ?_, ?_, ?_⟩
    · refine ⟨by simp [hel], fun j x => j < sz ∧ T i j x, ?_, ?_, ?_⟩
      · intro j d hd
        have hj : j < sz := by rw [← hel]; exact (List.getElem?_eq_some_iff.1 hd).1
        exact ⟨c i j, by simp [hj], (h4 i e hi j d hd).mono fun x hx => ⟨hj, hx⟩⟩
      · intro j d hd x hx
        exact ⟨j, hx⟩
      · intro j d hd j' d' hd' hne x hx hx'
        exact h6 i e hi j d hd i e hi j' d' hd' (fun _ => hne) x hx.2 hx'.2
    · rintro x ⟨j, hj, hx⟩
      obtain ⟨d, hd⟩ := hgj j hj
      exact ⟨h5 i e hi j d hd x hx, (hc i e hi j d hd).2 x hx⟩
    · intro h0
      obtain ⟨d, hd⟩ := hgj (sz - 1) (by omega)
      have := (hc i e hi _ d hd).1
      have := (Array.getElem?_eq_some_iff.1 this).1
      omega
    · intro j v hv
      rw [List.getElem?_map] at hv
      rcases Nat.lt_or_ge j sz with hj | hj
      · rw [List.getElem?_range hj] at hv
        simp at hv
        obtain ⟨d, hd⟩ := hgj j hj
        rw [← hv]
        exact (hc i e hi j d hd).1
      · rw [List.getElem?_eq_none (by simpa using hj)] at hv
        simp at hv
    · intro w' cs' e' hel' hob' how hx hfit
      obtain ⟨hcl, U, u1, u2, u3⟩ := how
      have hcl : cs'.length = sz := by omega
      have hset : (es.set i e').length = es.length := by simp
      have get : ∀ i' e2, (es.set i e')[i']? = some e2 → (i' = i ∧ e2 = e') ∨ (i' ≠ i ∧ es[i']? = some e2) := by
        intro i' e2 h
        rw [List.getElem?_set] at h
        split at h
        · rename_i hii
          subst hii
          simp only [Option.some.injEq] at h
          exact .inl ⟨rfl, h.symm⟩
        · rename_i hii
          exact .inr ⟨fun e => hii e.symm, h⟩
      have keep : ∀ i' e2, i' ≠ i → es[i']? = some e2 → ∀ j d, e2[j]? = some d → ∀ x, T i' j x → x < w.heap.size → w'.heap[x]? = w.heap[x]? := by
        intro i' e2 hne' he2 j d hd x hx' hxl
        refine hx x hxl (h5 i' e2 he2 j d hd x hx') ((hc i' e2 he2 j d hd).2 x hx') ?_; rintro ⟨j', hj', hT⟩
        obtain ⟨d', hd'⟩ := hgj j' hj'
        exact h6 i' e2 he2 j d hd i e hi j' d' hd' (fun h => absurd h hne') x hx' hT
      rw [← hset]
      refine .row (fun i' j => if i' = i then (cs'[j]?).getD undef else c i' j) (fun i' j => if i' = i then U j else T i' j) (by rw [hset]; exact h1) h2 ?_ ?_ ?_ ?_
      · intro _
        refine ⟨b, off, E, _, rfl, hob', hs, ?_⟩
        intro i' e2 he2 j d hd
        rcases get i' e2 he2 with ⟨rfl, rfl⟩ | ⟨hne', he2⟩
        · simp only [if_true]
          have hj : j < sz := by rw [← hel']; exact (List.getElem?_eq_some_iff.1 hd).1
          refine ⟨?_, fun x hx' => ?_⟩
          · have h7 := splice_same (arr := arr) (o := off + i' * sz) (vs := cs') (by omega)
            have h8 : (((splice arr (off + i' * sz) cs').toList.drop (off + i' * sz)).take cs'.length)[j]? = cs'[j]? := by rw [h7]
            rw [List.getElem?_take, if_pos (by omega), List.getElem?_drop] at h8
            have h9 : cs'[j]? = some (cs'[j]'(by omega)) := List.getElem?_eq_getElem _
            rw [h9] at h8 ⊢
            simpa using h8
          · obtain ⟨j2, hj2, hT⟩ := u2 j d hd x hx'
            obtain ⟨d2, hd2⟩ := hgj j2 hj2
            exact (hc i' e hi j2 d2 hd2).2 x hT
        · simp only [if_neg hne']
          obtain ⟨q1, q2⟩ := hc i' e2 he2 j d hd
          have hl2 : e2.length = sz := hl e2 (List.mem_of_getElem? he2)
          have hj : j < sz := by rw [← hl2]; exact (List.getElem?_eq_some_iff.1 hd).1
          refine ⟨?_, q2⟩
          rw [← q1]
          unfold splice
          have hsz : 0 < sz := by omega
          rcases Nat.lt_or_ge i' i with hlt' | hge
          · have h10 : (i' + 1) * sz ≤ i * sz := Nat.mul_le_mul_right _ hlt'
            rw [Nat.succ_mul] at h10
            rw [List.getElem?_toArray, List.append_assoc, List.getElem?_append_left (by simp; omega), List.getElem?_take, if_pos (by omega)]
            simp
          · have h10 : (i + 1) * sz ≤ i' * sz := Nat.mul_le_mul_right _ (by omega)
            rw [Nat.succ_mul] at h10
            rw [List.getElem?_toArray, List.getElem?_append_right (by simp; omega), List.getElem?_drop]
            simp only [List.length_append, List.length_take, Array.length_toList]
            rw [Nat.min_eq_left (by omega), Array.getElem?_toList]
            congr 1
            omega
      · intro i' e2 he2 j d hd
        rcases get i' e2 he2 with ⟨rfl, rfl⟩ | ⟨hne', he2⟩
        · simp only [if_true]
          obtain ⟨v, hv, ho⟩ := u1 j d hd
          simpa [hv] using ho
        · simp only [if_neg hne']
          exact (h4 i' e2 he2 j d hd).keep fun x hx' hxl => keep i' e2 hne' he2 j d hd x hx' hxl
      · intro i' e2 he2 j d hd x hx'
        rcases get i' e2 he2 with ⟨rfl, rfl⟩ | ⟨hne', he2⟩
        · simp only [if_true] at hx'
          obtain ⟨j2, hj2, hT⟩ := u2 j d hd x hx'
          obtain ⟨d2, hd2⟩ := hgj j2 hj2
          exact h5 i' e hi j2 d2 hd2 x hT
        · simp only [if_neg hne'] at hx'
          exact h5 i' e2 he2 j d hd x hx'
      · intro i' e2 he2 j d hd i'' e3 he3 j' d' hd' hne x hx1 hx2
        rcases get i' e2 he2 with ⟨rfl, rfl⟩ | ⟨hne', he2⟩
        · simp only [if_true] at hx1
          rcases get i'' e3 he3 with ⟨rfl, rfl⟩ | ⟨hne'', he3⟩
          · simp only [if_true] at hx2
            exact u3 j d hd j' d' hd' (hne rfl) x hx1 hx2
          · simp only [if_neg hne''] at hx2
            obtain ⟨j2, hj2, hT⟩ := u2 j d hd x hx1
            obtain ⟨d2, hd2⟩ := hgj j2 hj2
            exact h6 i'' e3 he3 j' d' hd' i' e hi j2 d2 hd2 (fun h => absurd h hne'') x hx2 hT
        · simp only [if_neg hne'] at hx1
          have he2' := he2
          rcases get i'' e3 he3 with ⟨rfl, rfl⟩ | ⟨hne'', he3⟩
          · simp only [if_true] at hx2
            obtain ⟨j2, hj2, hT⟩ := u2 j' d' hd' x hx2
            obtain ⟨d2, hd2⟩ := hgj j2 hj2
            exact h6 i' e2 he2' j d hd i'' e hi j2 d2 hd2 (fun h => absurd h hne') x hx1 hT
          · simp only [if_neg hne''] at hx2
            exact h6 i' e2 he2 j d hd i'' e3 he3 j' d' hd' hne x hx1 hx2

end Go.Proofs.YtnakkelglbcecaaGreat

namespace Go.Proofs.YtnakkelglbcecaaGreat
open Go.RowKit

theorem OwnL.setLeaf {w : World} {ts : List Tr} {cs : List Value} {T : Nat → Prop} {j : Nat} {u : Tr} {v : Value} (h : OwnL w ts cs T) (hj : ts[j]? = some u) (hv : LeafOk v) : OwnL w (ts.set j (.leaf v)) (cs.set j v) T := by
  obtain ⟨hl, U, h1, h2, h3⟩ := h
  have hlt : j < ts.length := (List.getElem?_eq_some_iff.1 hj).1
  have old : ∀ i d, (ts.set j (.leaf v))[i]? = some d → (i = j ∧ d = .leaf v) ∨ (i ≠ j ∧ ts[i]? = some d) := by
    intro i d hd
    rw [List.getElem?_set] at hd
    split at hd
    · rename_i hij
      subst hij
      simp only [Option.some.injEq] at hd
      exact .inl ⟨rfl, hd.symm⟩
    · rename_i hij
      exact .inr ⟨fun e => hij e.symm, hd⟩
  refine ⟨by simp [hl], fun i x => i ≠ j ∧ U i x, ?_, ?_, ?_⟩
  · intro i d hd
    rcases old i d hd with ⟨rfl, rfl⟩ | ⟨hne, hd⟩
    · exact ⟨v, by rw [List.getElem?_set]; simp [hl, hlt], .leaf hv⟩
    · obtain ⟨v', hv', ho⟩ := h1 i d hd
      exact ⟨v', by rw [List.getElem?_set]; rw [if_neg (fun e => hne e.symm)]; exact hv', ho.mono fun x hx => ⟨hne, hx⟩⟩
  · intro i d hd x hx
    rcases old i d hd with ⟨rfl, rfl⟩ | ⟨hne, hd⟩
    · exact (hx.1 rfl).elim
    · exact h2 i d hd x hx.2
  · intro i d hd i' d' hd' hne x hx hx'
    rcases old i d hd with ⟨rfl, rfl⟩ | ⟨_, hd⟩
    · exact hx.1 rfl
    · rcases old i' d' hd' with ⟨rfl, rfl⟩ | ⟨_, hd'⟩
      · exact hx'.1 rfl
      · exact h3 i d hd i' d' hd' hne x hx.2 hx'.2

theorem OwnL.setRow {w : World} {ts : List Tr} {cs : List Value} {T : Nat → Prop} {j : Nat} {t : Tr} {v : Value} (h : OwnL w ts cs T) (hj : ts[j]? = some t) (hv : cs[j]? = some v) :
    ∃ U : Nat → Prop, Own w t v U ∧ (∀ x, U x → T x) ∧ ∀ w' t', Own w' t' v U → (∀ x, x < w.heap.size → T x → ¬ U x → w'.heap[x]? = w.heap[x]?) → OwnL w' (ts.set j t') cs T := by
  obtain ⟨hl, U, h1, h2, h3⟩ := h
  have hlt : j < ts.length := (List.getElem?_eq_some_iff.1 hj).1
  obtain ⟨v1, hv1, ho1⟩ := h1 j t hj
  rw [hv] at hv1
  injection hv1 with hv1
  subst hv1
  refine ⟨U j, ho1, h2 j t hj, fun w' t' ho' hk => ⟨by simp [hl], U, ?_, ?_, ?_⟩⟩
  all_goals
    have old : ∀ i d, (ts.set j t')[i]? = some d → (i = j ∧ d = t') ∨ (i ≠ j ∧ ts[i]? = some d) := by
      intro i d hd
      rw [List.getElem?_set] at hd
      split at hd
      · rename_i hij
        subst hij
        simp only [Option.some.injEq] at hd
        exact .inl ⟨rfl, hd.symm⟩
      · rename_i hij
        exact .inr ⟨fun e => hij e.symm, hd⟩
  · intro i d hd
    rcases old i d hd with ⟨rfl, rfl⟩ | ⟨hne, hd⟩
    · exact ⟨v, hv, ho'⟩
    · obtain ⟨v', hv', ho⟩ := h1 i d hd
      exact ⟨v', hv', ho.keep fun x hx hxl => hk x hxl (h2 i d hd x hx) (fun hu => h3 i d hd j t hj hne x hx hu)⟩
  · intro i d hd x hx
    rcases old i d hd with ⟨rfl, rfl⟩ | ⟨hne, hd⟩
    · exact h2 i t hj x hx
    · exact h2 i d hd x hx
  · intro i d hd i' d' hd' hne x hx hx'
    rcases old i d hd with ⟨rfl, rfl⟩ | ⟨hne1, hd1⟩
    · rcases old i' d' hd' with ⟨rfl, rfl⟩ | ⟨_, hd2⟩
      · exact hne rfl
      · exact h3 i t hj i' d' hd2 hne x hx hx'
    · rcases old i' d' hd' with ⟨rfl, rfl⟩ | ⟨_, hd2⟩
      · exact h3 i d hd1 i' t hj hne x hx hx'
      · exact h3 i d hd1 i' d' hd2 hne x hx hx'

structure Foc (w0 wr : World) (b : Nat) (E : TypeId) (arr0 : Array Value) (o sz : Nat) (ts : List Tr) (cs : List Value) (T : Nat → Prop) : Prop where
  arr : ∃ arr, OB wr b E arr ∧ arr.size = arr0.size ∧ (∀ q, q < o ∨ o + sz ≤ q → arr[q]? = arr0[q]?) ∧ (∀ j v, cs[j]? = some v → arr[o + j]? = some v)
  own : OwnL wr ts cs T
  chg : Chg (fun x => x = b ∨ T x) w0 wr
  notin : ¬ T b
  len : cs.length = sz
  fit : o + sz ≤ arr0.size
  tlt : ∀ x, T x → x < w0.heap.size
  blt : b < w0.heap.size

theorem Foc.cell {w0 wr : World} {b : Nat} {E : TypeId} {arr0 : Array Value} {o sz : Nat} {ts : List Tr} {cs : List Value} {T : Nat → Prop} (h : Foc w0 wr b E arr0 o sz ts cs T) {j : Nat} {v : Value} (hj : cs[j]? = some v) : wr.cell? ⟨b, o + j, none⟩ = some v := by
  obtain ⟨arr, h1, -, -, h4⟩ := h.arr
  rw [h1.cell]
  exact h4 j v hj
theorem Foc.ext {w0 wr w' : World} {b : Nat} {E : TypeId} {arr0 : Array Value} {o sz : Nat} {ts : List Tr} {cs : List Value} {T : Nat → Prop} (h : Foc w0 wr b E arr0 o sz ts cs T) (hx : Ext wr w') : Foc w0 w' b E arr0 o sz ts cs T := by
  obtain ⟨arr, h1, h2, h3, h4⟩ := h.arr
  exact ⟨⟨arr, h1.ext hx, h2, h3, h4⟩, h.own.ext hx, h.chg.trans (.of_ext hx), h.notin, h.len, h.fit, h.tlt, h.blt⟩

theorem splice_get {arr : Array Value} {o : Nat} {cs : List Value} (h : o + cs.length ≤ arr.size) (q : Nat) : (splice arr o cs)[q]? = if q < o then arr[q]? else if q < o + cs.length then cs[q - o]? else arr[q]? := by
  unfold splice
  rw [List.getElem?_toArray, List.append_assoc]
  by_cases h1 : q < o
  · rw [if_pos h1, List.getElem?_append_left (by simp; omega), List.getElem?_take, if_pos h1]; simp
  · rw [if_neg h1, List.getElem?_append_right (by simp; omega)]
    have hl : (List.take o arr.toList).length = o := by simp; omega
    rw [hl]
    by_cases h2 : q < o + cs.length
    · rw [if_pos h2, List.getElem?_append_left (by omega)]
    · rw [if_neg h2, List.getElem?_append_right (by omega), List.getElem?_drop, Array.getElem?_toList]
      congr 1; omega

theorem Foc.leaf {w0 wr w' : World} {b : Nat} {E : TypeId} {arr0 arr : Array Value} {o sz : Nat} {ts : List Tr} {cs : List Value} {T : Nat → Prop} (h : Foc w0 wr b E arr0 o sz ts cs T) {j : Nat} {u : Tr} {v : Value} (hj : ts[j]? = some u) (hv : LeafOk v)
    (ha : OB wr b E arr) (hob : OB w' b E (splice arr (o + j) [v])) (hg : wr.grownBy w' (some b)) : Foc w0 w' b E arr0 o sz (ts.set j (.leaf v)) (cs.set j v) T := by
  obtain ⟨arr1, h1, h2, h3, h4⟩ := h.arr
  have he := ha.symm.trans h1
  injection he with he
  injection he with he
  subst he
  have hlt : j < ts.length := (List.getElem?_eq_some_iff.1 hj).1
  have hsz : j < sz := by rw [← h.len, h.own.1]; exact hlt
  have hfit := h.fit
  have hw : Chg (fun x => x = b) wr w' := Chg.of_grown hg rfl
  refine ⟨⟨_, hob, by rw [splice_size (by simp; omega)]; exact h2, ?_, ?_⟩, (h.own.setLeaf hj hv).keep fun x hx hxl => hw.block x hxl (by rintro rfl; exact h.notin hx), h.chg.trans (hw.mono fun x hx => .inl hx), h.notin, by rw [List.length_set]; exact h.len, h.fit, h.tlt, h.blt⟩
  · intro q hq
    rw [splice_get (by simp; omega)]
    simp only [List.length_cons, List.length_nil]
    rw [← h3 q hq]
    split
    · rfl
    · rw [if_neg (by omega)]
  · intro i x hx
    rw [splice_get (by simp; omega)]
    simp only [List.length_cons, List.length_nil]
    rw [List.getElem?_set] at hx
    split at hx
    · rename_i hji
      subst hji
      split at hx
      · injection hx with hx
        subst hx
        rw [if_neg (by omega), if_pos (by omega)]
        simp
      · simp at hx
    · rename_i hji
      have := h4 i x hx
      split
      · exact this
      · rw [if_neg (by omega)]; exact this

theorem Foc.row {w0 wr : World} {b : Nat} {E : TypeId} {arr0 : Array Value} {o sz : Nat} {ts : List Tr} {cs : List Value} {T : Nat → Prop} (h : Foc w0 wr b E arr0 o sz ts cs T) {j : Nat} {t : Tr} {v : Value} (hj : ts[j]? = some t) (hv : cs[j]? = some v) :
    ∃ U : Nat → Prop, Own wr t v U ∧ (∀ x, U x → x < wr.heap.size) ∧ ∀ w' t', Own w' t' v U → Chg U wr w' → Foc w0 w' b E arr0 o sz (ts.set j t') cs T := by
  obtain ⟨U, hu1, hu2, hu3⟩ := h.own.setRow hj hv
  refine ⟨U, hu1, fun x hx => Nat.lt_of_lt_of_le (h.tlt x (hu2 x hx)) h.chg.size, fun w' t' ho hc => ?_⟩
  obtain ⟨arr, h1, h2, h3, h4⟩ := h.arr
  have hnb : ¬ U b := fun hx => h.notin (hu2 b hx)
  exact ⟨⟨arr, (hc.block b h1.lt hnb).trans h1, h2, h3, h4⟩, hu3 w' t' ho fun x hxl _ hn => hc.block x hxl hn, h.chg.trans (hc.mono fun x hx => .inr (hu2 x hx)), h.notin, h.len, h.fit, h.tlt, h.blt⟩

/-- Element i is taken in hand. -/
theorem Own.take {w : World} {sz : Nat} {es : List (List Tr)} {a : Option Addr} {n cap i : Nat} {S : Nat → Prop} {e : List Tr} (h : Own w (.row sz es) (.slice a n cap) S) (hi : es[i]? = some e) (hl : ∀ x ∈ es, x.length = sz) (hsz : 0 < sz) (hS : ∀ x, S x → x < w.heap.size) :
    ∃ b off E arr cs T, a = some ⟨b, off, none⟩ ∧ Foc w w b E arr (off + i * sz) sz e cs T ∧ RepL w e cs ∧
      ∀ w' cs' e', e'.length = sz → Foc w w' b E arr (off + i * sz) sz e' cs' T → Own w' (.row sz (es.set i e')) (.slice a n cap) S ∧ Chg S w w' := by
  obtain ⟨b, off, E, arr, cs, T, rfl, hob, hsb, how, hT, hcl, hfit, hc, hback⟩ := h.focus hi hl
  refine ⟨b, off, E, arr, cs, T, rfl, ⟨⟨arr, hob, rfl, fun _ _ => rfl, fun j v hv => hc j v hv⟩, how, Chg.refl _ _, fun hb => (hT b hb).2 rfl, hcl, hfit hsz, fun x hx => hS x (hT x hx).1, hob.lt⟩, how.rep, fun w' cs' e' he' hf => ?_⟩
  obtain ⟨arr', h1, h2, h3, h4⟩ := hf.arr
  have hz := hf.len
  have hfit := hf.fit
  have harr : arr' = splice arr (off + i * sz) cs' := by
    apply Array.ext_getElem?
    intro q
    rw [splice_get (by omega)]
    split
    · rename_i hq
      exact h3 q (.inl hq)
    · split
      · rename_i hq1 hq2
        obtain ⟨v, hv⟩ : ∃ v, cs'[q - (off + i * sz)]? = some v := ⟨cs'[q - (off + i * sz)]'(by omega), List.getElem?_eq_getElem _⟩
        rw [hv, ← h4 _ v hv]
        congr 1; omega
      · rename_i hq1 hq2
        exact h3 q (.inr (by omega))
  rw [harr] at h1
  have hch : Chg S w w' := hf.chg.mono fun x hx => by rcases hx with rfl | hx; exact hsb; exact (hT x hx).1
  exact ⟨hback w' cs' e' he' h1 hf.own (fun x hxl _ hne hnt => hf.chg.block x hxl (by rintro (h | h); exact hne h; exact hnt h)) hf.fit, hch⟩

/-- How the marks of a struct handed by value run: only what lies in its slices is marked. -/
def Tr.topL : List Tr → Nat → List Tr
  | [], _ => []
  | .leaf v :: r, k => .leaf v :: Tr.topL r k
  | .row sz es :: r, k => .row sz (Tr.markE es k) :: Tr.topL r (k + Tr.cntE es)
def Tr.topN : List Tr → Nat
  | [] => 0
  | .leaf _ :: r => Tr.topN r
  | .row _ es :: r => Tr.cntE es + Tr.topN r
/-- The first i elements are marked, the others are not. -/
def Tr.mid (es : List (List Tr)) (k i : Nat) : List (List Tr) := (Tr.markE es k).take i ++ es.drop i
theorem Tr.mid_zero (es : List (List Tr)) (k : Nat) : Tr.mid es k 0 = es := by simp [Tr.mid]
theorem Tr.mid_end (es : List (List Tr)) (k : Nat) : Tr.mid es k es.length = Tr.markE es k := by
  unfold Tr.mid
  rw [List.drop_length, List.append_nil, List.take_of_length_le (by rw [Tr.markE_length]; exact Nat.le_refl _)]
theorem Tr.mid_get {es : List (List Tr)} {k i : Nat} (h : i < es.length) : (Tr.mid es k i)[i]? = some es[i] := by
  unfold Tr.mid
  have hl : ((Tr.markE es k).take i).length = i := by rw [List.length_take, Tr.markE_length]; omega
  rw [List.getElem?_append_right (by omega), hl, Nat.sub_self, List.getElem?_drop, Nat.add_zero, List.getElem?_eq_getElem h]
theorem Tr.mid_set {es : List (List Tr)} {k i : Nat} (h : i < es.length) : (Tr.mid es k i).set i (Tr.markL es[i] (k + Tr.cntE (es.take i))) = Tr.mid es k (i + 1) := by
  unfold Tr.mid
  have hl : ((Tr.markE es k).take i).length = i := by rw [List.length_take, Tr.markE_length]; omega
  have hm : (Tr.markE es k)[i]? = some (Tr.markL es[i] (k + Tr.cntE (es.take i))) := Tr.markE_get es k i h
  have hlt : i < (Tr.markE es k).length := by rw [Tr.markE_length]; exact h
  rw [List.getElem?_eq_getElem hlt] at hm
  injection hm with hm
  rw [List.set_append_right _ _ (by omega), hl, Nat.sub_self, List.drop_eq_getElem_cons h, List.set_cons_zero, List.take_succ_eq_append_getElem hlt, hm]
  simp
theorem Tr.markE_sz {es : List (List Tr)} {k sz : Nat} (h : ∀ e ∈ es, e.length = sz) : ∀ e ∈ Tr.markE es k, e.length = sz := by
  induction es generalizing k with
  | nil => intro e he; simp [Tr.markE] at he
  | cons a r ih =>
    intro e he
    simp only [Tr.markE, List.mem_cons] at he
    rcases he with rfl | he
    · rw [Tr.markL_length]; exact h a (by simp)
    · exact ih (fun x hx => h x (by simp [hx])) e he
theorem Tr.mid_sz {es : List (List Tr)} {k i sz : Nat} (h : ∀ e ∈ es, e.length = sz) : ∀ e ∈ Tr.mid es k i, e.length = sz := by
  intro e he
  unfold Tr.mid at he
  rcases List.mem_append.1 he with h1 | h1
  · exact Tr.markE_sz h e (List.mem_of_mem_take h1)
  · exact h e (List.mem_of_mem_drop h1)
theorem Tr.cntE_le {es : List (List Tr)} {i : Nat} (h : i < es.length) : Tr.cntE (es.take i) + Tr.cntL es[i] ≤ Tr.cntE es := by
  induction es generalizing i with
  | nil => simp at h
  | cons a r ih =>
    cases i with
    | zero => simp [Tr.cntE]
    | succ i => have := ih (i := i) (by simpa using h); simp [Tr.cntE]; omega
theorem mtext_size (k : Nat) (h : k ≤ 2305843009213693952) : (mtext k).size ≤ 20 := by
  have h1 : (digits k).length ≤ 19 := digits_length k 19 (by omega)
  unfold mtext
  show ((109 : UInt8) :: if k = 0 then [48] else digits k).toArray.size ≤ 20
  simp only [List.size_toArray, List.length_cons]
  split
  · simp
  · omega
end Go.Proofs.YtnakkelglbcecaaGreat
