/- Copies of GEvidence, on both sides: a copy has memory of its own. Conditions: sizes below 2^40. -/
import Derived.Test.YtoifjkggpanceaaCtr
import Derived.Test.YtoifjkggpanceaaData
import Derived.Test.YtoifjkggpanceaaAccT
import Derived.Test.YtoifjkggpanceaaReg
namespace Go.Proofs.Ytoifjkggpanceaa
open Go.RowKit Go.Proofs

set_option maxRecDepth 100000 in
set_option maxHeartbeats 1000000 in
theorem copiesEvidence_impl_of (l : List GEvidence) (H : ∀ x ∈ l, ToC 93 x.tr) : ToSC 164 5 (GEvidence.trs l) := by
  intro s w hs hbk
  obtain ⟨a, cap, rfl, hl, hm⟩ := hs.shape
  rw [GEvidence.trs_len] at *
  unfold maxLen at hm
  have HS := Lib.hid hs
  have HH := Lib.hid H
  have n0 : (0 : Int) ≤ l.length := by omega
  clear hs H
  go_enter Try.func164, Try.ntmps164
  go_wp2_with (refine wpList_make_rep rfl 48 (.tmp 7) rfl l.length rfl 50 Try.underlying48 5 56 iszb50 (by omega) (by omega) ?_; intro wm arr0 ha0 hob0 hx0 hz0; have HA0 := Lib.hid ha0; have HOB0 := Lib.hid hob0; have HX0 := Lib.hid hx0; have HZ0 := Lib.hid hz0; clear ha0 hob0 hx0 hz0)
  go_loopw [11] (fun i wr => ∃ (k : Nat) (arr : Array Value), k ≤ l.length ∧ i = .int .i64 k ∧ Ext w wr ∧ w.heap.size < wr.heap.size ∧ Hid (OB wr w.heap.size 50 arr) ∧ Hid (arr.size = (GEvidence.trs l).length * 5) ∧ Hid (Part wr w.heap.size arr 5 (GEvidence.trs l) k)) (fun i _ => l.length - (intOf i).toNat)
  case atStart => exact ⟨0, arr0, Nat.zero_le _, rfl, HX0.out, by rw [HZ0.out]; omega, HOB0.out, by show _ = _; rw [GEvidence.trs_len]; exact HA0.out, Part.zero _ _ _ _ _⟩
  case round =>
    obtain ⟨k, arr, hk, rfl, hw, hgt, HOB, HAS, HP⟩ := hrel
    by_cases hlt : k < l.length
    · obtain ⟨b, off, cs, rfl, hb, hcs, hc⟩ := (HS.out.ext hw).at2 (k := k) (GEvidence.trs_get hlt)
      have HM := Lib.hid (List.getElem_mem hlt)
      have HCS := Lib.hid hcs
      have HC := Lib.hid hc
      have HI : Hid ((Try.prog.info? 50).map (·.size) = some cs.length) := by rw [← hcs.length, GEvidence.tr_len]; exact isz50
      have HCL : Hid (cs.length = 5) := by rw [← hcs.length, GEvidence.tr_len]; rfl
      clear hcs hc
      have hbe : Tr.bulkL (l[k]).tr ≤ Tr.bulkAll (GEvidence.trs l) := by
        have h1 : k < (GEvidence.trs l).length := by rw [GEvidence.trs_len]; exact hlt
        have h2 := Tr.bulkAll_le h1
        have h3 : (GEvidence.trs l)[k] = (l[k]).tr := by have h4 := GEvidence.trs_get hlt; rw [List.getElem?_eq_getElem h1] at h4; exact Option.some.inj h4
        rwa [h3] at h2
      have hbs : Tr.bulkL (l[k]).tr ≤ 68719476736 := by omega
      clear hbe
      go_wp2_with (first
        | (refine wpList_load_rep rfl 50 (.tmp 14) rfl b (off + k * 5) rfl cs _ Try.underlying50 HI.out HC.out ?_)
        | (refine wpList_store_rep rfl 50 (.tmp 5) (.tmp 15) rfl wr.heap.size 0 rfl cs rfl 50 _ (OB.new wr _ _) HI.out (by rw [HCL.out]; exact Nat.le_refl _) HCS.out.one ?_; intro wb hob hgb hzb; rw [splice_whole (by rw [HCL.out]; rfl)] at hob; have HOBV := Lib.hid hob; have HXBV := Lib.hid (grown_ext (.alloc (.refl wr) _) hgb (Nat.le_refl _)); clear hob hgb hzb)
        | (refine wpList_load_rep rfl 50 (.tmp 5) rfl wr.heap.size 0 rfl cs _ Try.underlying50 HI.out HOBV.out.cells0 ?_))
      refine (HH.out _ HM.out _ _ (HCS.out.ext HXBV.out) hbs).mono ?_
      rintro e w1 ⟨cs1, rfl, hw1, ho1⟩
      have HW1 := Lib.hid (HXBV.out.trans hw1)
      have HO1 := Lib.hid (ho1.mono (S' := Between wr w1) fun x hx => ⟨Nat.le_trans HXBV.out.size hx.1, hx.2⟩)
      have HCL1 : Hid (cs1.length = 5) := ho1.1.trans (GEvidence.tr_len _)
      have HF : Hid (0 + k * 5 + cs1.length ≤ arr.size) := by have h1 := HAS.out; have h2 := HCL1.out; rw [GEvidence.trs_len] at h1; show _ ≤ _; omega
      clear hw1 ho1
      go_wp2_with (refine wpList_store_rep rfl 50 (.tmp 20) (.tmp 19) rfl w.heap.size (k * 5) rfl cs1 rfl 50 arr (HOB.out.ext HW1.out) (by rw [HCL1.out]; exact isz50) (by have := HF.out; omega) (HO1.out.rep.one) ?_; intro w2 hob2 hg2 hz2; have HOB2 := Lib.hid hob2; have HG2 := Lib.hid hg2; have HZ2 := Lib.hid hz2; clear hob2 hg2 hz2)
      go_roundw
      case rel =>
        have hfit : k * 5 + cs1.length ≤ arr.size := by have := HF.out; omega
        refine ⟨k + 1, _, by omega, by go_num, ?_, ?_, HOB2.out, by show _ = _; rw [splice_size hfit]; exact HAS.out, HP.out.step hgt HW1.out (GEvidence.trs_get hlt) HO1.out HCL1.out HAS.out HG2.out HOB2.out⟩
        · exact grown_ext (hw.trans HW1.out) HG2.out (Nat.le_refl _)
        · have := HW1.out.size
          have := HZ2.out
          omega
      case measure => simp [intOf]; omega
    · have hkl : k = (GEvidence.trs l).length := by rw [GEvidence.trs_len]; omega
      go_wp2_with fail
      go_ret
      subst hkl
      have := (HP.out.done HOB.out (GEvidence.sz l) (Nat.le_refl _) (by rw [GEvidence.trs_len]; unfold maxLen; omega) (Nat.le_refl _)).mono (S' := Between w wr) fun x hx => ⟨hx.1, hx.2⟩
      rw [GEvidence.trs_len] at this
      exact ⟨_, rfl, hw, this⟩

set_option maxRecDepth 100000 in
set_option maxHeartbeats 1000000 in
theorem copyEvidence_impl : ∀ x : GEvidence, ToC 93 x.tr := by
  refine GEvidence.ind fun v0 v1 v2 xs ih => ?_
  intro cs w hr hbk
  obtain ⟨p, t⟩ := v2
  obtain ⟨x2, a, c, rfl, k0, k1, h2, h3⟩ := GEvidence.opened hr
  obtain ⟨rfl, k2, k3⟩ := GInstanceRef.opened h2
  have hbk2 : xs.length + Tr.bulkAll (GEvidence.trs xs) ≤ 68719476736 := by
    simp only [GEvidence.tr, GInstanceRef.tr, Tr.bulkL_append, Tr.bulkL, Tr.bulk, GEvidence.trs_len] at hbk
    omega
  have HCC := Lib.hid (copiesEvidence_impl_of xs ih)
  have HS := Lib.hid h3
  have K0 := Lib.hid k0
  have K1 := Lib.hid k1
  have K2 := Lib.hid k2
  have K3 := Lib.hid k3
  have HL : Hid (Tr.bulkAll (GEvidence.trs xs) + (GEvidence.trs xs).length ≤ 68719476736) := by show _ ≤ _; rw [GEvidence.trs_len]; omega
  clear hr h3 ih hbk hbk2 k0 k1 k2 k3 h2
  simp only [List.cons_append, List.nil_append] at *
  go_enter Try.func93, Try.ntmps93
  go_wp2_with fail
  refine (HCC.out _ _ (HS.out.ext (.alloc (.alloc (.refl _) _) _)) (by have := HL.out; omega)).mono ?_
  rintro e w1 ⟨s', rfl, hw1, ho1⟩
  obtain ⟨da, dc, rfl, -, -⟩ := ho1.rep.shape
  rw [GEvidence.trs_len] at *
  have h2w := (Two.new w 50 50 #[.int .i64 v0, .int .i64 v1, .int .i64 p, .int .i64 t, .slice a xs.length c] #[.int .i64 0, .int .i64 0, .int .i64 0, .int .i64 0, .slice none 0 0]).ext hw1
  have H2 := Lib.hid h2w
  have HW1 := Lib.hid hw1
  have HO1 := Lib.hid ho1
  have hzz : w.heap.size + 1 < w1.heap.size := h2w.o1.lt
  clear h2w hw1 ho1
  have hone : Hid (∀ v ∈ ([.int .i64 v0, .int .i64 v1, .int .i64 p, .int .i64 t, .slice da xs.length dc] : List Value), v.oneCell' = true) := by
    intro v hv
    simp only [List.mem_cons, List.not_mem_nil, or_false] at hv
    rcases hv with rfl | rfl | rfl | rfl | rfl <;> rfl
  go_wp2_with (first
    | (refine wpList_store_cell rfl 48 (.tmp 6) (.tmp 5) rfl w.heap.size 4 rfl (.slice da xs.length dc) rfl rfl 50 _ H2.out.o0 isz48 (by simp) rfl ?_; intro w2 hob hg hz; have HOB := Lib.hid (show OB w2 w.heap.size 50 ⟨[.int .i64 v0, .int .i64 v1, .int .i64 p, .int .i64 t, .slice da xs.length dc]⟩ from hob); have HR2 := Lib.hid (H2.out.o1.grown hg (by omega)); have HG2 := Lib.hid hg; have hq2 : w1.heap.size = w2.heap.size := hz.symm; clear hob hg hz)
    | (refine wpList_load_rep rfl 50 (.tmp 1) rfl w.heap.size 0 rfl [.int .i64 v0, .int .i64 v1, .int .i64 p, .int .i64 t, .slice da xs.length dc] _ Try.underlying50 isz50 (OB.cells0 HOB.out) ?_)
    | (refine wpList_store_rep rfl 50 (.tmp 2) (.tmp 7) rfl (w.heap.size + 1) 0 rfl [.int .i64 v0, .int .i64 v1, .int .i64 p, .int .i64 t, .slice da xs.length dc] rfl 50 _ HR2.out isz50 (by simp) hone.out ?_; intro w3 hob hg hz; have HOB3 := Lib.hid (show OB w3 (w.heap.size + 1) 50 ⟨[.int .i64 v0, .int .i64 v1, .int .i64 p, .int .i64 t, .slice da xs.length dc]⟩ from hob); have HG3 := Lib.hid hg; have hq3 : w2.heap.size = w3.heap.size := hz.symm; clear hob hg hz))
  have hx3 : Ext w w3 := grown_ext (grown_ext (Ext.trans (.alloc (.alloc (.refl _) _) _) HW1.out) HG2.out (by omega)) HG3.out (by omega)
  refine bodyPost_ret (results_cell_row Try.results93 _ _ (w.heap.size + 1) 50 ⟨[.int .i64 v0, .int .i64 v1, .int .i64 p, .int .i64 t, .slice da xs.length dc]⟩ _ _ rfl HOB3.out Try.underlying50 rfl isz50) rfl ⟨[.int .i64 v0, .int .i64 v1, .int .i64 p, .int .i64 t, .slice da xs.length dc], rfl, hx3, ?_⟩
  have ow := HO1.out.keeps (lo := w.heap.size + 1 + 1) (Keeps.trans (Keeps.of_grown HG2.out (by omega)) (Keeps.of_grown HG3.out (by omega))) (by intro x hx; have := hx.1; simp only [World.size_alloc] at this; omega)
  have hall := OwnL.cons_leaf K0.out (OwnL.cons_leaf K1.out (OwnL.cons_leaf K2.out (OwnL.cons_leaf K3.out (OwnL.one ow))))
  exact hall.mono (by intro x hx; have h1 := hx.1; have h2 := hx.2; simp only [World.size_alloc] at h1; exact ⟨by omega, by omega⟩)
theorem copiesEvidence_impl (l : List GEvidence) : ToSC 164 5 (GEvidence.trs l) := copiesEvidence_impl_of l fun x _ => copyEvidence_impl x

set_option maxRecDepth 100000 in
set_option maxHeartbeats 1000000 in
theorem copiesEvidence_spec_of (l : List GEvidence) (H : ∀ x ∈ l, ToC 90 x.tr) : ToSC 163 5 (GEvidence.trs l) := by
  intro s w hs hbk
  obtain ⟨a, cap, rfl, hl, hm⟩ := hs.shape
  rw [GEvidence.trs_len] at *
  unfold maxLen at hm
  have HS := Lib.hid hs
  have HH := Lib.hid H
  clear hs H
  go_enter Try.func163, Try.ntmps163
  go_wp2_with fail
  have ha0 : Acc 50 w.heap.size 5 (w.alloc (.cells #[] 50)) ((GEvidence.trs l).take 0) (.slice (some ⟨w.heap.size, 0, none⟩) 0 0) (fun _ => False) := by rw [List.take_zero]; exact Acc.empty (Nat.le_refl _) (OB.new w _ _) (by unfold maxLen; omega) rfl
  have HA0 := Lib.hid ha0
  clear ha0
  go_loopw [3, 4] (fun v i wr => ∃ (k : Nat) (a' : Option Addr) (c' : Nat), k ≤ l.length ∧ i = .int .i64 k ∧ v = .slice a' k c' ∧ Ext w wr ∧ Hid (∃ U, Acc 50 w.heap.size 5 wr ((GEvidence.trs l).take k) (.slice a' k c') U)) (fun _ i _ => l.length - (intOf i).toNat)
  case atStart => exact ⟨0, _, _, Nat.zero_le _, rfl, rfl, .alloc (.refl _) _, ⟨_, HA0.out⟩⟩
  case round =>
    obtain ⟨k, a', c', hk, rfl, rfl, hw, HA⟩ := hrel
    by_cases hlt : k < l.length
    · obtain ⟨b, off, cs, rfl, hb, hcs, hc⟩ := (HS.out.ext hw).at2 (k := k) (GEvidence.trs_get hlt)
      have HM := Lib.hid (List.getElem_mem hlt)
      have HCS := Lib.hid hcs
      have HC := Lib.hid hc
      have HI : Hid ((Try.prog.info? 50).map (·.size) = some cs.length) := by rw [← hcs.length, GEvidence.tr_len]; exact isz50
      have HCL : Hid (cs.length = 5) := by rw [← hcs.length, GEvidence.tr_len]; rfl
      clear hcs hc
      have hbe : Tr.bulkL (l[k]).tr ≤ Tr.bulkAll (GEvidence.trs l) := by
        have h1 : k < (GEvidence.trs l).length := by rw [GEvidence.trs_len]; exact hlt
        have h2 := Tr.bulkAll_le h1
        have h3 : (GEvidence.trs l)[k] = (l[k]).tr := by have h4 := GEvidence.trs_get hlt; rw [List.getElem?_eq_getElem h1] at h4; exact Option.some.inj h4
        rwa [h3] at h2
      have hbs : Tr.bulkL (l[k]).tr ≤ 68719476736 := by omega
      clear hbe
      have HTL : Hid (((GEvidence.trs l).take k).length = k) := by show _ = _; rw [List.length_take, GEvidence.trs_len]; omega
      have HTK : Hid ((GEvidence.trs l).take k ++ [(l[k]).tr] = (GEvidence.trs l).take (k + 1)) := by
        show _ = _
        have h1 : k < (GEvidence.trs l).length := by rw [GEvidence.trs_len]; exact hlt
        have h3 : (GEvidence.trs l)[k] = (l[k]).tr := by have h4 := GEvidence.trs_get hlt; rw [List.getElem?_eq_getElem h1] at h4; exact Option.some.inj h4
        rw [List.take_succ_eq_append_getElem h1, h3]
      have HXL := Lib.hid (GEvidence.tr_len l[k])
      generalize l[k] = x at *
      go_wp2_with (refine wpList_load_rep rfl 50 (.tmp 15) rfl b (off + k * 5) rfl cs _ Try.underlying50 HI.out HC.out ?_)
      refine (HH.out _ HM.out _ _ HCS.out hbs).mono ?_
      rintro e w1 ⟨cs1, rfl, hw1, ho1⟩
      obtain ⟨d0, d1, d2, d3, d4, rfl⟩ := list5 (ho1.1.trans HXL.out)
      obtain ⟨U, hu⟩ := HA.out
      have HU := Lib.hid hu
      have HW1 := Lib.hid hw1
      have HO1 := Lib.hid ho1
      have hw0 : w.heap.size ≤ wr.heap.size := hw.size
      have hw01 : wr.heap.size ≤ w1.heap.size := hw1.size
      clear hw1 ho1 hu
      go_wp2_with (refine wpList_append_acc rfl (.tmp 12) (.tmp 18) 48 rfl 50 5 56 Try.underlying48 iszc50 (by omega) (by omega) w.heap.size ((GEvidence.trs l).take k) k HTL.out (.slice a' k c') U rfl ((HU.out.ext HW1.out).ext (.alloc (.refl _) _)) x.tr [d0, d1, d2, d3, d4] (Between wr w1) HXL.out (HO1.out.ext (.alloc (.refl _) _)) (fun b h1 h2 => by have := (HU.out.lt b h1).2; have := h2.1; omega) (fun b h => by have h1 := h.1; have h2 := h.2; simp only [World.size_alloc]; omega) (fun b h1 h2 => by have := (HU.out.blk h1).2; have := h2.1; omega) w1.heap.size 1 50 rfl (OB.new w1 _ _) (by omega) (by simp only [World.size_alloc]; omega) ?_; intro g gc wb hacc hgb hgg hgl; rw [HTK.out] at hacc; have HACC := Lib.hid hacc; have HGB := Lib.hid hgb; clear hacc hgb hgg)
      go_roundw
      case rel =>
        refine ⟨k + 1, some ⟨g, 0, none⟩, gc, by omega, by go_num, rfl, ?_, ⟨_, HACC.out⟩⟩
        exact grown_ext_own ((hw.trans HW1.out).trans (.alloc (.refl _) _)) HGB.out (fun b hb => (HU.out.blk hb).1)
      case measure => simp [intOf]; omega
    · have hkl : k = (GEvidence.trs l).length := by rw [GEvidence.trs_len]; omega
      obtain ⟨U, hu⟩ := HA.out
      have HU := Lib.hid hu
      clear hu
      go_wp2_with fail
      go_ret
      refine ⟨_, rfl, hw, ?_⟩
      have := HU.out.own
      rw [hkl, List.take_length] at this
      rw [hkl]
      exact this.mono fun b hb => HU.out.lt b hb

set_option maxRecDepth 100000 in
set_option maxHeartbeats 1000000 in
theorem copyEvidence_spec : ∀ x : GEvidence, ToC 90 x.tr := by
  refine GEvidence.ind fun v0 v1 v2 xs ih => ?_
  intro cs w hr hbk
  obtain ⟨p, t⟩ := v2
  obtain ⟨x2, a, c, rfl, k0, k1, h2, h3⟩ := GEvidence.opened hr
  obtain ⟨rfl, k2, k3⟩ := GInstanceRef.opened h2
  have hbk2 : xs.length + Tr.bulkAll (GEvidence.trs xs) ≤ 68719476736 := by
    simp only [GEvidence.tr, GInstanceRef.tr, Tr.bulkL_append, Tr.bulkL, Tr.bulk, GEvidence.trs_len] at hbk
    omega
  have HCC := Lib.hid (copiesEvidence_spec_of xs ih)
  have HS := Lib.hid h3
  have K0 := Lib.hid k0
  have K1 := Lib.hid k1
  have K2 := Lib.hid k2
  have K3 := Lib.hid k3
  have HL : Hid (Tr.bulkAll (GEvidence.trs xs) + (GEvidence.trs xs).length ≤ 68719476736) := by show _ ≤ _; rw [GEvidence.trs_len]; omega
  clear hr h3 ih hbk hbk2 k0 k1 k2 k3 h2
  simp only [List.cons_append, List.nil_append] at *
  go_enter Try.func90, Try.ntmps90
  go_wp2_with fail
  refine (HCC.out _ _ (HS.out.ext (.alloc (.alloc (.refl _) _) _)) (by have := HL.out; omega)).mono ?_
  rintro e w1 ⟨s', rfl, hw1, ho1⟩
  obtain ⟨da, dc, rfl, -, -⟩ := ho1.rep.shape
  rw [GEvidence.trs_len] at *
  have h2w := (Two.new w 50 50 #[.int .i64 v0, .int .i64 v1, .int .i64 p, .int .i64 t, .slice a xs.length c] #[.int .i64 0, .int .i64 0, .int .i64 0, .int .i64 0, .slice none 0 0]).ext hw1
  have H2 := Lib.hid h2w
  have HW1 := Lib.hid hw1
  have HO1 := Lib.hid ho1
  have hzz : w.heap.size + 1 < w1.heap.size := h2w.o1.lt
  clear h2w hw1 ho1
  have hone : Hid (∀ v ∈ ([.int .i64 v0, .int .i64 v1, .int .i64 p, .int .i64 t, .slice da xs.length dc] : List Value), v.oneCell' = true) := by
    intro v hv
    simp only [List.mem_cons, List.not_mem_nil, or_false] at hv
    rcases hv with rfl | rfl | rfl | rfl | rfl <;> rfl
  go_wp2_with (first
    | (refine wpList_store_cell rfl 48 (.tmp 6) (.tmp 5) rfl w.heap.size 4 rfl (.slice da xs.length dc) rfl rfl 50 _ H2.out.o0 isz48 (by simp) rfl ?_; intro w2 hob hg hz; have HOB := Lib.hid (show OB w2 w.heap.size 50 ⟨[.int .i64 v0, .int .i64 v1, .int .i64 p, .int .i64 t, .slice da xs.length dc]⟩ from hob); have HR2 := Lib.hid (H2.out.o1.grown hg (by omega)); have HG2 := Lib.hid hg; have hq2 : w1.heap.size = w2.heap.size := hz.symm; clear hob hg hz)
    | (refine wpList_load_rep rfl 50 (.tmp 1) rfl w.heap.size 0 rfl [.int .i64 v0, .int .i64 v1, .int .i64 p, .int .i64 t, .slice da xs.length dc] _ Try.underlying50 isz50 (OB.cells0 HOB.out) ?_)
    | (refine wpList_store_rep rfl 50 (.tmp 2) (.tmp 7) rfl (w.heap.size + 1) 0 rfl [.int .i64 v0, .int .i64 v1, .int .i64 p, .int .i64 t, .slice da xs.length dc] rfl 50 _ HR2.out isz50 (by simp) hone.out ?_; intro w3 hob hg hz; have HOB3 := Lib.hid (show OB w3 (w.heap.size + 1) 50 ⟨[.int .i64 v0, .int .i64 v1, .int .i64 p, .int .i64 t, .slice da xs.length dc]⟩ from hob); have HG3 := Lib.hid hg; have hq3 : w2.heap.size = w3.heap.size := hz.symm; clear hob hg hz))
  have hx3 : Ext w w3 := grown_ext (grown_ext (Ext.trans (.alloc (.alloc (.refl _) _) _) HW1.out) HG2.out (by omega)) HG3.out (by omega)
  refine bodyPost_ret (results_cell_row Try.results90 _ _ (w.heap.size + 1) 50 ⟨[.int .i64 v0, .int .i64 v1, .int .i64 p, .int .i64 t, .slice da xs.length dc]⟩ _ _ rfl HOB3.out Try.underlying50 rfl isz50) rfl ⟨[.int .i64 v0, .int .i64 v1, .int .i64 p, .int .i64 t, .slice da xs.length dc], rfl, hx3, ?_⟩
  have ow := HO1.out.keeps (lo := w.heap.size + 1 + 1) (Keeps.trans (Keeps.of_grown HG2.out (by omega)) (Keeps.of_grown HG3.out (by omega))) (by intro x hx; have := hx.1; simp only [World.size_alloc] at this; omega)
  have hall := OwnL.cons_leaf K0.out (OwnL.cons_leaf K1.out (OwnL.cons_leaf K2.out (OwnL.cons_leaf K3.out (OwnL.one ow))))
  exact hall.mono (by intro x hx; have h1 := hx.1; have h2 := hx.2; simp only [World.size_alloc] at h1; exact ⟨by omega, by omega⟩)
theorem copiesEvidence_spec (l : List GEvidence) : ToSC 163 5 (GEvidence.trs l) := copiesEvidence_spec_of l fun x _ => copyEvidence_spec x

end Go.Proofs.Ytoifjkggpanceaa
