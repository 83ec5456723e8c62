/- Words, rules and walks of several kinds, laid together: CopyEv, Foc, Apply, LEq, Fresh, EvN, MaLEvT, Pl, PlOk, EvOk. No conditions but those that each theorem states. -/
import Derived.Test.YtmpepccpnnldoaaDoorQh49a4103c
import Derived.Test.YtmpepccpnnldoaaDoorQh9676b04d
import Derived.WalkArith
import Derived.Test.YtmpepccpnnldoaaDoorQh33f3f803
set_option linter.unusedSimpArgs false
set_option linter.unusedVariables false
namespace Go.Proofs.YtmpepccpnnldoaaDoor
open Go.RowKit Go.Proofs

set_option maxRecDepth 100000 in
set_option maxHeartbeats 1000000 in
theorem copiesEvidence_impl_of (l : List GEvidence) (H : ∀ x ∈ l, ToC 30 x.tr) : ToSC 41 5 (GEvidence.trs l) := by
  intro s w hs hbk
  obtain ⟨a, cap, rfl, hl, hm⟩ := hs.shape
  rw [GEvidence.trs_len] at *
  unfold maxLen at hm
  have HS := Lib.hid hs
  have HH := Lib.hid H
  have n0 : (0 : Int) ≤ l.length := by omega
  clear hs H
  go_enter Tryd.func41, Tryd.ntmps41
  go_wp2_with (refine wpList_make_rep rfl 30 (.tmp 7) rfl l.length rfl 32 Tryd.underlying30 5 56 iszb32 (by omega) (by omega) ?_; intro wm arr0 ha0 hob0 hx0 hz0; have HA0 := Lib.hid ha0; have HOB0 := Lib.hid hob0; have HX0 := Lib.hid hx0; have HZ0 := Lib.hid hz0; clear ha0 hob0 hx0 hz0)
  go_loopw [11] (fun i wr => ∃ (k : Nat) (arr : Array Value), k ≤ l.length ∧ i = .int .i64 k ∧ Ext w wr ∧ w.heap.size < wr.heap.size ∧ Hid (OB wr w.heap.size 32 arr) ∧ Hid (arr.size = (GEvidence.trs l).length * 5) ∧ Hid (Part wr w.heap.size arr 5 (GEvidence.trs l) k)) (fun i _ => l.length - (intOf i).toNat)
  case atStart => exact ⟨0, arr0, Nat.zero_le _, rfl, HX0.out, by rw [HZ0.out]; omega, HOB0.out, by show _ = _; rw [GEvidence.trs_len]; exact HA0.out, Part.zero _ _ _ _ _⟩
  case round =>
    obtain ⟨k, arr, hk, rfl, hw, hgt, HOB, HAS, HP⟩ := hrel
    by_cases hlt : k < l.length
    · obtain ⟨b, off, cs, rfl, hb, hcs, hc⟩ := (HS.out.ext hw).at2 (k := k) (GEvidence.trs_get hlt)
      have HM := Lib.hid (List.getElem_mem hlt)
      have HCS := Lib.hid hcs
      have HC := Lib.hid hc
      have HI : Hid ((Tryd.prog.info? 32).map (·.size) = some cs.length) := by rw [← hcs.length, GEvidence.tr_len]; exact isz32
      have HCL : Hid (cs.length = 5) := by rw [← hcs.length, GEvidence.tr_len]; rfl
      clear hcs hc
      have hbe : Tr.bulkL (l[k]).tr ≤ Tr.bulkAll (GEvidence.trs l) := by
        have h1 : k < (GEvidence.trs l).length := by rw [GEvidence.trs_len]; exact hlt
        have h2 := Tr.bulkAll_le h1
        have h3 : (GEvidence.trs l)[k] = (l[k]).tr := by have h4 := GEvidence.trs_get hlt; rw [List.getElem?_eq_getElem h1] at h4; exact Option.some.inj h4
        rwa [h3] at h2
      have hbs : Tr.bulkL (l[k]).tr ≤ 68719476736 := by omega
      clear hbe
      go_wp2_with (first
        | (refine wpList_load_rep rfl 32 (.tmp 14) rfl b (off + k * 5) rfl cs _ Tryd.underlying32 HI.out HC.out ?_)
        | (refine wpList_store_rep rfl 32 (.tmp 5) (.tmp 15) rfl wr.heap.size 0 rfl cs rfl 32 _ (OB.new wr _ _) HI.out (by rw [HCL.out]; exact Nat.le_refl _) HCS.out.one ?_; intro wb hob hgb hzb; rw [splice_whole (by rw [HCL.out]; rfl)] at hob; have HOBV := Lib.hid hob; have HXBV := Lib.hid (grown_ext (.alloc (.refl wr) _) hgb (Nat.le_refl _)); clear hob hgb hzb)
        | (refine wpList_load_rep rfl 32 (.tmp 5) rfl wr.heap.size 0 rfl cs _ Tryd.underlying32 HI.out HOBV.out.cells0 ?_))
      refine (HH.out _ HM.out _ _ (HCS.out.ext HXBV.out) hbs).mono ?_; rintro e w1 ⟨cs1, rfl, hw1, ho1⟩
      have HW1 := Lib.hid (HXBV.out.trans hw1)
      have HO1 := Lib.hid (ho1.mono (S' := Between wr w1) fun x hx => ⟨Nat.le_trans HXBV.out.size hx.1, hx.2⟩)
      have HCL1 : Hid (cs1.length = 5) := ho1.1.trans (GEvidence.tr_len _)
      have HF : Hid (0 + k * 5 + cs1.length ≤ arr.size) := by have h1 := HAS.out; have h2 := HCL1.out; rw [GEvidence.trs_len] at h1; show _ ≤ _; omega
      clear hw1 ho1
      go_wp2_with (refine wpList_store_rep rfl 32 (.tmp 20) (.tmp 19) rfl w.heap.size (k * 5) rfl cs1 rfl 32 arr (HOB.out.ext HW1.out) (by rw [HCL1.out]; exact isz32) (by have := HF.out; omega) (HO1.out.rep.one) ?_; intro w2 hob2 hg2 hz2; have HOB2 := Lib.hid hob2; have HG2 := Lib.hid hg2; have HZ2 := Lib.hid hz2; clear hob2 hg2 hz2)
      go_roundw
      case rel =>
        have hfit : k * 5 + cs1.length ≤ arr.size := by have := HF.out; omega
        refine ⟨k + 1, _, by omega, by go_num, ?_, ?_, HOB2.out, by show _ = _; rw [splice_size hfit]; exact HAS.out, HP.out.step hgt HW1.out (GEvidence.trs_get hlt) HO1.out HCL1.out HAS.out HG2.out HOB2.out⟩
        · exact grown_ext (hw.trans HW1.out) HG2.out (Nat.le_refl _)
        · have := HW1.out.size
          have := HZ2.out
          omega
      case measure => simp [intOf]; omega
    · have hkl : k = (GEvidence.trs l).length := by rw [GEvidence.trs_len]; omega
      go_wp2_with fail
      go_ret
      subst hkl
      have := (HP.out.done HOB.out (GEvidence.sz l) (Nat.le_refl _) (by rw [GEvidence.trs_len]; unfold maxLen; omega) (Nat.le_refl _)).mono (S' := Between w wr) fun x hx => ⟨hx.1, hx.2⟩
      rw [GEvidence.trs_len] at this
      exact ⟨_, rfl, hw, this⟩

set_option maxRecDepth 100000 in
set_option maxHeartbeats 1000000 in
theorem copyEvidence_impl : ∀ x : GEvidence, ToC 30 x.tr := by
  refine GEvidence.ind fun v0 v1 v2 xs ih => ?_; intro cs w hr hbk
  obtain ⟨p, t⟩ := v2
  obtain ⟨x2, a, c, rfl, k0, k1, h2, h3⟩ := GEvidence.opened hr
  obtain ⟨rfl, k2, k3⟩ := GInstanceRef.opened h2
  have hbk2 : xs.length + Tr.bulkAll (GEvidence.trs xs) ≤ 68719476736 := by
    simp only [GEvidence.tr, GInstanceRef.tr, Tr.bulkL_append, Tr.bulkL, Tr.bulk, GEvidence.trs_len] at hbk
    omega
  have HCC := Lib.hid (copiesEvidence_impl_of xs ih)
  have HS := Lib.hid h3
  have K0 := Lib.hid k0
  have K1 := Lib.hid k1
  have K2 := Lib.hid k2
  have K3 := Lib.hid k3
  have HL : Hid (Tr.bulkAll (GEvidence.trs xs) + (GEvidence.trs xs).length ≤ 68719476736) := by show _ ≤ _; rw [GEvidence.trs_len]; omega
  clear hr h3 ih hbk hbk2 k0 k1 k2 k3 h2
  simp only [List.cons_append, List.nil_append] at *
  go_enter Tryd.func30, Tryd.ntmps30
  go_wp2_with fail
  refine (HCC.out _ _ (HS.out.ext (.alloc (.alloc (.refl _) _) _)) (by have := HL.out; omega)).mono ?_; rintro e w1 ⟨s', rfl, hw1, ho1⟩
  obtain ⟨da, dc, rfl, -, -⟩ := ho1.rep.shape
  rw [GEvidence.trs_len] at *
  have h2w := (Two.new w 32 32 #[.int .i64 v0, .int .i64 v1, .int .i64 p, .int .i64 t, .slice a xs.length c] #[.int .i64 0, .int .i64 0, .int .i64 0, .int .i64 0, .slice none 0 0]).ext hw1
  have H2 := Lib.hid h2w
  have HW1 := Lib.hid hw1
  have HO1 := Lib.hid ho1
  have hzz : w.heap.size + 1 < w1.heap.size := h2w.o1.lt
  clear h2w hw1 ho1
  have hone : Hid (∀ v ∈ ([.int .i64 v0, .int .i64 v1, .int .i64 p, .int .i64 t, .slice da xs.length dc] : List Value), v.oneCell' = true) := by
    intro v hv
    simp only [List.mem_cons, List.not_mem_nil, or_false] at hv
    rcases hv with rfl | rfl | rfl | rfl | rfl <;> rfl
  go_wp2_with (first
    | (refine wpList_store_cell rfl 30 (.tmp 6) (.tmp 5) rfl w.heap.size 4 rfl (.slice da xs.length dc) rfl rfl 32 _ H2.out.o0 isz30 (by simp) rfl ?_; intro w2 hob hg hz; have HOB := Lib.hid (show OB w2 w.heap.size 32 ⟨[.int .i64 v0, .int .i64 v1, .int .i64 p, .int .i64 t, .slice da xs.length dc]⟩ from hob); have HR2 := Lib.hid (H2.out.o1.grown hg (by omega)); have HG2 := Lib.hid hg; have hq2 : w1.heap.size = w2.heap.size := hz.symm; clear hob hg hz)
    | (refine wpList_load_rep rfl 32 (.tmp 1) rfl w.heap.size 0 rfl [.int .i64 v0, .int .i64 v1, .int .i64 p, .int .i64 t, .slice da xs.length dc] _ Tryd.underlying32 isz32 (OB.cells0 HOB.out) ?_)
    | (refine wpList_store_rep rfl 32 (.tmp 2) (.tmp 7) rfl (w.heap.size + 1) 0 rfl [.int .i64 v0, .int .i64 v1, .int .i64 p, .int .i64 t, .slice da xs.length dc] rfl 32 _ HR2.out isz32 (by simp) hone.out ?_; intro w3 hob hg hz; have HOB3 := Lib.hid (show OB w3 (w.heap.size + 1) 32 ⟨[.int .i64 v0, .int .i64 v1, .int .i64 p, .int .i64 t, .slice da xs.length dc]⟩ from hob); have HG3 := Lib.hid hg; have hq3 : w2.heap.size = w3.heap.size := hz.symm; clear hob hg hz))
  have hx3 : Ext w w3 := grown_ext (grown_ext (Ext.trans (.alloc (.alloc (.refl _) _) _) HW1.out) HG2.out (by omega)) HG3.out (by omega)
  refine bodyPost_ret (results_cell_row Tryd.results30 _ _ (w.heap.size + 1) 32 ⟨[.int .i64 v0, .int .i64 v1, .int .i64 p, .int .i64 t, .slice da xs.length dc]⟩ _ _ rfl HOB3.out Tryd.underlying32 rfl isz32) rfl ⟨[.int .i64 v0, .int .i64 v1, .int .i64 p, .int .i64 t, .slice da xs.length dc], rfl, hx3, ?_⟩
  have ow := HO1.out.keeps (lo := w.heap.size + 1 + 1) (Keeps.trans (Keeps.of_grown HG2.out (by omega)) (Keeps.of_grown HG3.out (by omega))) (by intro x hx; have := hx.1; simp only [World.size_alloc] at this; omega)
  have hall := OwnL.cons_leaf K0.out (OwnL.cons_leaf K1.out (OwnL.cons_leaf K2.out (OwnL.cons_leaf K3.out (OwnL.one ow))))
  exact hall.mono (by intro x hx; have h1 := hx.1; have h2 := hx.2; simp only [World.size_alloc] at h1; exact ⟨by omega, by omega⟩)
set_option maxRecDepth 100000 in
set_option maxHeartbeats 1000000 in
theorem copiesEvidence_spec_of (l : List GEvidence) (H : ∀ x ∈ l, ToC 32 x.tr) : ToSC 42 5 (GEvidence.trs l) := by
  intro s w hs hbk
  obtain ⟨a, cap, rfl, hl, hm⟩ := hs.shape
  rw [GEvidence.trs_len] at *
  unfold maxLen at hm
  have HS := Lib.hid hs
  have HH := Lib.hid H
  clear hs H
  go_enter Tryd.func42, Tryd.ntmps42
  go_wp2_with fail
  have ha0 : Acc 32 w.heap.size 5 (w.alloc (.cells #[] 32)) ((GEvidence.trs l).take 0) (.slice (some ⟨w.heap.size, 0, none⟩) 0 0) (fun _ => False) := by rw [List.take_zero]; exact Acc.empty (Nat.le_refl _) (OB.new w _ _) (by unfold maxLen; omega) rfl
  have HA0 := Lib.hid ha0
  clear ha0
  go_loopw [3, 4] (fun v i wr => ∃ (k : Nat) (a' : Option Addr) (c' : Nat), k ≤ l.length ∧ i = .int .i64 k ∧ v = .slice a' k c' ∧ Ext w wr ∧ Hid (∃ U, Acc 32 w.heap.size 5 wr ((GEvidence.trs l).take k) (.slice a' k c') U)) (fun _ i _ => l.length - (intOf i).toNat)
  case atStart => exact ⟨0, _, _, Nat.zero_le _, rfl, rfl, .alloc (.refl _) _, ⟨_, HA0.out⟩⟩
  case round =>
    obtain ⟨k, a', c', hk, rfl, rfl, hw, HA⟩ := hrel
    by_cases hlt : k < l.length
    · obtain ⟨b, off, cs, rfl, hb, hcs, hc⟩ := (HS.out.ext hw).at2 (k := k) (GEvidence.trs_get hlt)
      have HM := Lib.hid (List.getElem_mem hlt)
      have HCS := Lib.hid hcs
      have HC := Lib.hid hc
      have HI : Hid ((Tryd.prog.info? 32).map (·.size) = some cs.length) := by rw [← hcs.length, GEvidence.tr_len]; exact isz32
      have HCL : Hid (cs.length = 5) := by rw [← hcs.length, GEvidence.tr_len]; rfl
      clear hcs hc
      have hbe : Tr.bulkL (l[k]).tr ≤ Tr.bulkAll (GEvidence.trs l) := by
        have h1 : k < (GEvidence.trs l).length := by rw [GEvidence.trs_len]; exact hlt
        have h2 := Tr.bulkAll_le h1
        have h3 : (GEvidence.trs l)[k] = (l[k]).tr := by have h4 := GEvidence.trs_get hlt; rw [List.getElem?_eq_getElem h1] at h4; exact Option.some.inj h4
        rwa [h3] at h2
      have hbs : Tr.bulkL (l[k]).tr ≤ 68719476736 := by omega
      clear hbe
      have HTL : Hid (((GEvidence.trs l).take k).length = k) := by show _ = _; rw [List.length_take, GEvidence.trs_len]; omega
      have HTK : Hid ((GEvidence.trs l).take k ++ [(l[k]).tr] = (GEvidence.trs l).take (k + 1)) := by
        show _ = _
        have h1 : k < (GEvidence.trs l).length := by rw [GEvidence.trs_len]; exact hlt
        have h3 : (GEvidence.trs l)[k] = (l[k]).tr := by have h4 := GEvidence.trs_get hlt; rw [List.getElem?_eq_getElem h1] at h4; exact Option.some.inj h4
        rw [List.take_succ_eq_append_getElem h1, h3]
      have HXL := Lib.hid (GEvidence.tr_len l[k])
      generalize l[k] = x at *
      go_wp2_with (refine wpList_load_rep rfl 32 (.tmp 15) rfl b (off + k * 5) rfl cs _ Tryd.underlying32 HI.out HC.out ?_)
      refine (HH.out _ HM.out _ _ HCS.out hbs).mono ?_; rintro e w1 ⟨cs1, rfl, hw1, ho1⟩
      obtain ⟨d0, d1, d2, d3, d4, rfl⟩ := list5 (ho1.1.trans HXL.out)
      obtain ⟨U, hu⟩ := HA.out
      have HU := Lib.hid hu
      have HW1 := Lib.hid hw1
      have HO1 := Lib.hid ho1
      have hw0 : w.heap.size ≤ wr.heap.size := hw.size
      have hw01 : wr.heap.size ≤ w1.heap.size := hw1.size
      clear hw1 ho1 hu
      go_wp2_with (refine wpList_append_acc rfl (.tmp 12) (.tmp 18) 30 rfl 32 5 56 Tryd.underlying30 iszc32 (by omega) (by omega) w.heap.size ((GEvidence.trs l).take k) k HTL.out (.slice a' k c') U rfl ((HU.out.ext HW1.out).ext (.alloc (.refl _) _)) x.tr [d0, d1, d2, d3, d4] (Between wr w1) HXL.out (HO1.out.ext (.alloc (.refl _) _)) (fun b h1 h2 => by have := (HU.out.lt b h1).2; have := h2.1; omega) (fun b h => by have h1 := h.1; have h2 := h.2; simp only [World.size_alloc]; omega) (fun b h1 h2 => by have := (HU.out.blk h1).2; have := h2.1; omega) w1.heap.size 1 32 rfl (OB.new w1 _ _) (by omega) (by simp only [World.size_alloc]; omega) ?_; intro g gc wb hacc hgb hgg hgl; rw [HTK.out] at hacc; have HACC := Lib.hid hacc; have HGB := Lib.hid hgb; clear hacc hgb hgg)
      go_roundw
      case rel =>
        refine ⟨k + 1, some ⟨g, 0, none⟩, gc, by omega, by go_num, rfl, ?_, ⟨_, HACC.out⟩⟩
        exact grown_ext_own ((hw.trans HW1.out).trans (.alloc (.refl _) _)) HGB.out (fun b hb => (HU.out.blk hb).1)
      case measure => simp [intOf]; omega
    · have hkl : k = (GEvidence.trs l).length := by rw [GEvidence.trs_len]; omega
      obtain ⟨U, hu⟩ := HA.out
      have HU := Lib.hid hu
      clear hu
      go_wp2_with fail
      go_ret
      refine ⟨_, rfl, hw, ?_⟩
      have := HU.out.own
      rw [hkl, List.take_length] at this
      rw [hkl]
      exact this.mono fun b hb => HU.out.lt b hb

set_option maxRecDepth 100000 in
set_option maxHeartbeats 1000000 in
theorem copyEvidence_spec : ∀ x : GEvidence, ToC 32 x.tr := by
  refine GEvidence.ind fun v0 v1 v2 xs ih => ?_; intro cs w hr hbk
  obtain ⟨p, t⟩ := v2
  obtain ⟨x2, a, c, rfl, k0, k1, h2, h3⟩ := GEvidence.opened hr
  obtain ⟨rfl, k2, k3⟩ := GInstanceRef.opened h2
  have hbk2 : xs.length + Tr.bulkAll (GEvidence.trs xs) ≤ 68719476736 := by
    simp only [GEvidence.tr, GInstanceRef.tr, Tr.bulkL_append, Tr.bulkL, Tr.bulk, GEvidence.trs_len] at hbk
    omega
  have HCC := Lib.hid (copiesEvidence_spec_of xs ih)
  have HS := Lib.hid h3
  have K0 := Lib.hid k0
  have K1 := Lib.hid k1
  have K2 := Lib.hid k2
  have K3 := Lib.hid k3
  have HL : Hid (Tr.bulkAll (GEvidence.trs xs) + (GEvidence.trs xs).length ≤ 68719476736) := by show _ ≤ _; rw [GEvidence.trs_len]; omega
  clear hr h3 ih hbk hbk2 k0 k1 k2 k3 h2
  simp only [List.cons_append, List.nil_append] at *
  go_enter Tryd.func32, Tryd.ntmps32
  go_wp2_with fail
  refine (HCC.out _ _ (HS.out.ext (.alloc (.alloc (.refl _) _) _)) (by have := HL.out; omega)).mono ?_; rintro e w1 ⟨s', rfl, hw1, ho1⟩
  obtain ⟨da, dc, rfl, -, -⟩ := ho1.rep.shape
  rw [GEvidence.trs_len] at *
  have h2w := (Two.new w 32 32 #[.int .i64 v0, .int .i64 v1, .int .i64 p, .int .i64 t, .slice a xs.length c] #[.int .i64 0, .int .i64 0, .int .i64 0, .int .i64 0, .slice none 0 0]).ext hw1
  have H2 := Lib.hid h2w
  have HW1 := Lib.hid hw1
  have HO1 := Lib.hid ho1
  have hzz : w.heap.size + 1 < w1.heap.size := h2w.o1.lt
  clear h2w hw1 ho1
  have hone : Hid (∀ v ∈ ([.int .i64 v0, .int .i64 v1, .int .i64 p, .int .i64 t, .slice da xs.length dc] : List Value), v.oneCell' = true) := by
    intro v hv
    simp only [List.mem_cons, List.not_mem_nil, or_false] at hv
    rcases hv with rfl | rfl | rfl | rfl | rfl <;> rfl
  go_wp2_with (first
    | (refine wpList_store_cell rfl 30 (.tmp 6) (.tmp 5) rfl w.heap.size 4 rfl (.slice da xs.length dc) rfl rfl 32 _ H2.out.o0 isz30 (by simp) rfl ?_; intro w2 hob hg hz; have HOB := Lib.hid (show OB w2 w.heap.size 32 ⟨[.int .i64 v0, .int .i64 v1, .int .i64 p, .int .i64 t, .slice da xs.length dc]⟩ from hob); have HR2 := Lib.hid (H2.out.o1.grown hg (by omega)); have HG2 := Lib.hid hg; have hq2 : w1.heap.size = w2.heap.size := hz.symm; clear hob hg hz)
    | (refine wpList_load_rep rfl 32 (.tmp 1) rfl w.heap.size 0 rfl [.int .i64 v0, .int .i64 v1, .int .i64 p, .int .i64 t, .slice da xs.length dc] _ Tryd.underlying32 isz32 (OB.cells0 HOB.out) ?_)
    | (refine wpList_store_rep rfl 32 (.tmp 2) (.tmp 7) rfl (w.heap.size + 1) 0 rfl [.int .i64 v0, .int .i64 v1, .int .i64 p, .int .i64 t, .slice da xs.length dc] rfl 32 _ HR2.out isz32 (by simp) hone.out ?_; intro w3 hob hg hz; have HOB3 := Lib.hid (show OB w3 (w.heap.size + 1) 32 ⟨[.int .i64 v0, .int .i64 v1, .int .i64 p, .int .i64 t, .slice da xs.length dc]⟩ from hob); have HG3 := Lib.hid hg; have hq3 : w2.heap.size = w3.heap.size := hz.symm; clear hob hg hz))
  have hx3 : Ext w w3 := grown_ext (grown_ext (Ext.trans (.alloc (.alloc (.refl _) _) _) HW1.out) HG2.out (by omega)) HG3.out (by omega)
  refine bodyPost_ret (results_cell_row Tryd.results32 _ _ (w.heap.size + 1) 32 ⟨[.int .i64 v0, .int .i64 v1, .int .i64 p, .int .i64 t, .slice da xs.length dc]⟩ _ _ rfl HOB3.out Tryd.underlying32 rfl isz32) rfl ⟨[.int .i64 v0, .int .i64 v1, .int .i64 p, .int .i64 t, .slice da xs.length dc], rfl, hx3, ?_⟩
  have ow := HO1.out.keeps (lo := w.heap.size + 1 + 1) (Keeps.trans (Keeps.of_grown HG2.out (by omega)) (Keeps.of_grown HG3.out (by omega))) (by intro x hx; have := hx.1; simp only [World.size_alloc] at this; omega)
  have hall := OwnL.cons_leaf K0.out (OwnL.cons_leaf K1.out (OwnL.cons_leaf K2.out (OwnL.cons_leaf K3.out (OwnL.one ow))))
  exact hall.mono (by intro x hx; have h1 := hx.1; have h2 := hx.2; simp only [World.size_alloc] at h1; exact ⟨by omega, by omega⟩)
end Go.Proofs.YtmpepccpnnldoaaDoor

namespace Go.Proofs.YtmpepccpnnldoaaDoor
open Go.RowKit

theorem OwnL.setLeaf {w : World} {ts : List Tr} {cs : List Value} {T : Nat → Prop} {j : Nat} {u : Tr} {v : Value} (h : OwnL w ts cs T) (hj : ts[j]? = some u) (hv : LeafOk v) : OwnL w (ts.set j (.leaf v)) (cs.set j v) T := by
  obtain ⟨hl, U, h1, h2, h3⟩ := h
  have hlt : j < ts.length := (List.getElem?_eq_some_iff.1 hj).1
  have old : ∀ i d, (ts.set j (.leaf v))[i]? = some d → (i = j ∧ d = .leaf v) ∨ (i ≠ j ∧ ts[i]? = some d) := by
    intro i d hd
    rw [List.getElem?_set] at hd
    split at hd
    · rename_i hij
      subst hij
      simp only [Option.some.injEq] at hd
      exact .inl ⟨rfl, hd.symm⟩
    · rename_i hij
      exact .inr ⟨fun e => hij e.symm, hd⟩
  refine ⟨by simp [hl], fun i x => i ≠ j ∧ U i x, ?_, ?_, ?_⟩
  · intro i d hd
    rcases old i d hd with ⟨rfl, rfl⟩ | ⟨hne, hd⟩
    · exact ⟨v, by rw [List.getElem?_set]; simp [hl, hlt], .leaf hv⟩
    · obtain ⟨v', hv', ho⟩ := h1 i d hd
      exact ⟨v', by rw [List.getElem?_set]; rw [if_neg (fun e => hne e.symm)]; exact hv', ho.mono fun x hx => ⟨hne, hx⟩⟩
  · intro i d hd x hx
    rcases old i d hd with ⟨rfl, rfl⟩ | ⟨hne, hd⟩
    · exact (hx.1 rfl).elim
    · exact h2 i d hd x hx.2
  · intro i d hd i' d' hd' hne x hx hx'
    rcases old i d hd with ⟨rfl, rfl⟩ | ⟨_, hd⟩
    · exact hx.1 rfl
    · rcases old i' d' hd' with ⟨rfl, rfl⟩ | ⟨_, hd'⟩
      · exact hx'.1 rfl
      · exact h3 i d hd i' d' hd' hne x hx.2 hx'.2

theorem OwnL.setRow {w : World} {ts : List Tr} {cs : List Value} {T : Nat → Prop} {j : Nat} {t : Tr} {v : Value} (h : OwnL w ts cs T) (hj : ts[j]? = some t) (hv : cs[j]? = some v) :
    ∃ U : Nat → Prop, Own w t v U ∧ (∀ x, U x → T x) ∧ ∀ w' t', Own w' t' v U → (∀ x, x < w.heap.size → T x → ¬ U x → w'.heap[x]? = w.heap[x]?) → OwnL w' (ts.set j t') cs T := by
  obtain ⟨hl, U, h1, h2, h3⟩ := h
  have hlt : j < ts.length := (List.getElem?_eq_some_iff.1 hj).1
  obtain ⟨v1, hv1, ho1⟩ := h1 j t hj
  rw [hv] at hv1
  injection hv1 with hv1
  subst hv1
  refine ⟨U j, ho1, h2 j t hj, fun w' t' ho' hk => ⟨by simp [hl], U, ?_, ?_, ?_⟩⟩
  all_goals
    have old : ∀ i d, (ts.set j t')[i]? = some d → (i = j ∧ d = t') ∨ (i ≠ j ∧ ts[i]? = some d) := by
      intro i d hd
      rw [List.getElem?_set] at hd
      split at hd
      · rename_i hij
        subst hij
        simp only [Option.some.injEq] at hd
        exact .inl ⟨rfl, hd.symm⟩
      · rename_i hij
        exact .inr ⟨fun e => hij e.symm, hd⟩
  · intro i d hd
    rcases old i d hd with ⟨rfl, rfl⟩ | ⟨hne, hd⟩
    · exact ⟨v, hv, ho'⟩
    · obtain ⟨v', hv', ho⟩ := h1 i d hd
      exact ⟨v', hv', ho.keep fun x hx hxl => hk x hxl (h2 i d hd x hx) (fun hu => h3 i d hd j t hj hne x hx hu)⟩
  · intro i d hd x hx
    rcases old i d hd with ⟨rfl, rfl⟩ | ⟨hne, hd⟩
    · exact h2 i t hj x hx
    · exact h2 i d hd x hx
  · intro i d hd i' d' hd' hne x hx hx'
    rcases old i d hd with ⟨rfl, rfl⟩ | ⟨hne1, hd1⟩
    · rcases old i' d' hd' with ⟨rfl, rfl⟩ | ⟨_, hd2⟩
      · exact hne rfl
      · exact h3 i t hj i' d' hd2 hne x hx hx'
    · rcases old i' d' hd' with ⟨rfl, rfl⟩ | ⟨_, hd2⟩
      · exact h3 i d hd1 i' t hj hne x hx hx'
      · exact h3 i d hd1 i' d' hd2 hne x hx hx'

structure Foc (w0 wr : World) (b : Nat) (E : TypeId) (arr0 : Array Value) (o sz : Nat) (ts : List Tr) (cs : List Value) (T : Nat → Prop) : Prop where
  arr : ∃ arr, OB wr b E arr ∧ arr.size = arr0.size ∧ (∀ q, q < o ∨ o + sz ≤ q → arr[q]? = arr0[q]?) ∧ (∀ j v, cs[j]? = some v → arr[o + j]? = some v)
  own : OwnL wr ts cs T
  chg : Chg (fun x => x = b ∨ T x) w0 wr
  notin : ¬ T b
  len : cs.length = sz
  fit : o + sz ≤ arr0.size
  tlt : ∀ x, T x → x < w0.heap.size
  blt : b < w0.heap.size

theorem Foc.cell {w0 wr : World} {b : Nat} {E : TypeId} {arr0 : Array Value} {o sz : Nat} {ts : List Tr} {cs : List Value} {T : Nat → Prop} (h : Foc w0 wr b E arr0 o sz ts cs T) {j : Nat} {v : Value} (hj : cs[j]? = some v) : wr.cell? ⟨b, o + j, none⟩ = some v := by
  obtain ⟨arr, h1, -, -, h4⟩ := h.arr
  rw [h1.cell]
  exact h4 j v hj
theorem Foc.ext {w0 wr w' : World} {b : Nat} {E : TypeId} {arr0 : Array Value} {o sz : Nat} {ts : List Tr} {cs : List Value} {T : Nat → Prop} (h : Foc w0 wr b E arr0 o sz ts cs T) (hx : Ext wr w') : Foc w0 w' b E arr0 o sz ts cs T := by
  obtain ⟨arr, h1, h2, h3, h4⟩ := h.arr
  exact ⟨⟨arr, h1.ext hx, h2, h3, h4⟩, h.own.ext hx, h.chg.trans (.of_ext hx), h.notin, h.len, h.fit, h.tlt, h.blt⟩

theorem splice_get {arr : Array Value} {o : Nat} {cs : List Value} (h : o + cs.length ≤ arr.size) (q : Nat) : (splice arr o cs)[q]? = if q < o then arr[q]? else if q < o + cs.length then cs[q - o]? else arr[q]? := by
  unfold splice
  rw [List.getElem?_toArray, List.append_assoc]
  by_cases h1 : q < o
  · rw [if_pos h1, List.getElem?_append_left (by simp; omega), List.getElem?_take, if_pos h1]; simp
  · rw [if_neg h1, List.getElem?_append_right (by simp; omega)]
    have hl : (List.take o arr.toList).length = o := by simp; omega
    rw [hl]
    by_cases h2 : q < o + cs.length
    · rw [if_pos h2, List.getElem?_append_left (by omega)]
    · rw [if_neg h2, List.getElem?_append_right (by omega), List.getElem?_drop, Array.getElem?_toList]
      congr 1; omega

theorem Foc.leaf {w0 wr w' : World} {b : Nat} {E : TypeId} {arr0 arr : Array Value} {o sz : Nat} {ts : List Tr} {cs : List Value} {T : Nat → Prop} (h : Foc w0 wr b E arr0 o sz ts cs T) {j : Nat} {u : Tr} {v : Value} (hj : ts[j]? = some u) (hv : LeafOk v)
    (ha : OB wr b E arr) (hob : OB w' b E (splice arr (o + j) [v])) (hg : wr.grownBy w' (some b)) : Foc w0 w' b E arr0 o sz (ts.set j (.leaf v)) (cs.set j v) T := by
  obtain ⟨arr1, h1, h2, h3, h4⟩ := h.arr
  have he := ha.symm.trans h1
  injection he with he
  injection he with he
  subst he
  have hlt : j < ts.length := (List.getElem?_eq_some_iff.1 hj).1
  have hsz : j < sz := by rw [← h.len, h.own.1]; exact hlt
  have hfit := h.fit
  have hw : Chg (fun x => x = b) wr w' := Chg.of_grown hg rfl
  refine ⟨⟨_, hob, by rw [splice_size (by simp; omega)]; exact h2, ?_, ?_⟩, (h.own.setLeaf hj hv).keep fun x hx hxl => hw.block x hxl (by rintro rfl; exact h.notin hx), h.chg.trans (hw.mono fun x hx => .inl hx), h.notin, by rw [List.length_set]; exact h.len, h.fit, h.tlt, h.blt⟩
  · intro q hq
    rw [splice_get (by simp; omega)]
    simp only [List.length_cons, List.length_nil]
    rw [← h3 q hq]
    split
    · rfl
    · rw [if_neg (by omega)]
  · intro i x hx
    rw [splice_get (by simp; omega)]
    simp only [List.length_cons, List.length_nil]
    rw [List.getElem?_set] at hx
    split at hx
    · rename_i hji
      subst hji
      split at hx
      · injection hx with hx
        subst hx
        rw [if_neg (by omega), if_pos (by omega)]
        simp
      · simp at hx
    · rename_i hji
      have := h4 i x hx
      split
      · exact this
      · rw [if_neg (by omega)]; exact this

theorem Foc.row {w0 wr : World} {b : Nat} {E : TypeId} {arr0 : Array Value} {o sz : Nat} {ts : List Tr} {cs : List Value} {T : Nat → Prop} (h : Foc w0 wr b E arr0 o sz ts cs T) {j : Nat} {t : Tr} {v : Value} (hj : ts[j]? = some t) (hv : cs[j]? = some v) :
    ∃ U : Nat → Prop, Own wr t v U ∧ (∀ x, U x → x < wr.heap.size) ∧ ∀ w' t', Own w' t' v U → Chg U wr w' → Foc w0 w' b E arr0 o sz (ts.set j t') cs T := by
  obtain ⟨U, hu1, hu2, hu3⟩ := h.own.setRow hj hv
  refine ⟨U, hu1, fun x hx => Nat.lt_of_lt_of_le (h.tlt x (hu2 x hx)) h.chg.size, fun w' t' ho hc => ?_⟩
  obtain ⟨arr, h1, h2, h3, h4⟩ := h.arr
  have hnb : ¬ U b := fun hx => h.notin (hu2 b hx)
  exact ⟨⟨arr, (hc.block b h1.lt hnb).trans h1, h2, h3, h4⟩, hu3 w' t' ho fun x hxl _ hn => hc.block x hxl hn, h.chg.trans (hc.mono fun x hx => .inr (hu2 x hx)), h.notin, h.len, h.fit, h.tlt, h.blt⟩

/-- Element i is taken in hand. -/
theorem Own.take {w : World} {sz : Nat} {es : List (List Tr)} {a : Option Addr} {n cap i : Nat} {S : Nat → Prop} {e : List Tr} (h : Own w (.row sz es) (.slice a n cap) S) (hi : es[i]? = some e) (hl : ∀ x ∈ es, x.length = sz) (hsz : 0 < sz) (hS : ∀ x, S x → x < w.heap.size) :
    ∃ b off E arr cs T, a = some ⟨b, off, none⟩ ∧ Foc w w b E arr (off + i * sz) sz e cs T ∧ RepL w e cs ∧
      ∀ w' cs' e', e'.length = sz → Foc w w' b E arr (off + i * sz) sz e' cs' T → Own w' (.row sz (es.set i e')) (.slice a n cap) S ∧ Chg S w w' := by
  obtain ⟨b, off, E, arr, cs, T, rfl, hob, hsb, how, hT, hcl, hfit, hc, hback⟩ := h.focus hi hl
  refine ⟨b, off, E, arr, cs, T, rfl, ⟨⟨arr, hob, rfl, fun _ _ => rfl, fun j v hv => hc j v hv⟩, how, Chg.refl _ _, fun hb => (hT b hb).2 rfl, hcl, hfit hsz, fun x hx => hS x (hT x hx).1, hob.lt⟩, how.rep, fun w' cs' e' he' hf => ?_⟩
  obtain ⟨arr', h1, h2, h3, h4⟩ := hf.arr
  have hz := hf.len
  have hfit := hf.fit
  have harr : arr' = splice arr (off + i * sz) cs' := by
    apply Array.ext_getElem?
    intro q
    rw [splice_get (by omega)]
    split
    · rename_i hq
      exact h3 q (.inl hq)
    · split
      · rename_i hq1 hq2
        obtain ⟨v, hv⟩ : ∃ v, cs'[q - (off + i * sz)]? = some v := ⟨cs'[q - (off + i * sz)]'(by omega), List.getElem?_eq_getElem _⟩
        rw [hv, ← h4 _ v hv]
        congr 1; omega
      · rename_i hq1 hq2
        exact h3 q (.inr (by omega))
  rw [harr] at h1
  have hch : Chg S w w' := hf.chg.mono fun x hx => by rcases hx with rfl | hx; exact hsb; exact (hT x hx).1
  exact ⟨hback w' cs' e' he' h1 hf.own (fun x hxl _ hne hnt => hf.chg.block x hxl (by rintro (h | h); exact hne h; exact hnt h)) hf.fit, hch⟩

end Go.Proofs.YtmpepccpnnldoaaDoor

namespace Go.Proofs.YtmpepccpnnldoaaDoor
open Go.RowKit Go.Proofs

/-- A slice of one struct that has just been made, its memory its own. -/
theorem Own.single {w : World} {e : List Tr} {cs : List Value} {B : Nat} {E : TypeId} {sz cap : Nat} {T : Nat → Prop} (h : OwnL w e cs T) (hB : OB w B E ⟨cs⟩) (hn : ¬ T B) (hc : 1 ≤ cap) (hm : cap ≤ maxLen) : Own w (.row sz [e]) (.slice (some ⟨B, 0, none⟩) 1 cap) (fun b => T b ∨ b = B) := by
  obtain ⟨hl, U, u1, u2, u3⟩ := h
  refine Own.row (es := [e]) (fun _ j => (cs[j]?).getD undef) (fun _ j => U j) hc hm ?_ ?_ ?_ ?_
  · intro _
    refine ⟨B, 0, E, ⟨cs⟩, rfl, hB, .inr rfl, ?_⟩
    intro i e' he j d hd
    cases i with
    | zero =>
      simp at he; subst he
      obtain ⟨v, hv, -⟩ := u1 j d hd
      refine ⟨by simp [hv], fun x hx => ?_⟩
      rintro rfl
      exact hn (u2 j d hd _ hx)
    | succ i => simp at he
  · intro i e' he j d hd
    cases i with
    | zero =>
      simp at he; subst he
      obtain ⟨v, hv, ho⟩ := u1 j d hd
      simpa [hv] using ho
    | succ i => simp at he
  · intro i e' he j d hd x hx
    cases i with
    | zero => simp at he; subst he; exact .inl (u2 j d hd x hx)
    | succ i => simp at he
  · intro i e' he j d hd i' e2 he2 j' d' hd' hne x hx hx'
    cases i with
    | zero =>
      cases i' with
      | zero => simp at he he2; subst he he2; exact u3 j d hd j' d' hd' (hne rfl) x hx hx'
      | succ i' => simp at he2
    | succ i => simp at he

def liftStep (out : GEvidence) (n : Int) : GEvidence := .mk 3 n (.mk 0 0) [out]
def GEvidence.lift (x : GEvidence) (steps : List Int) : GEvidence := steps.foldl liftStep x
theorem lift_take {x : GEvidence} {l : List Int} {k : Nat} (h : k < l.length) : GEvidence.lift x (l.take (k + 1)) = liftStep (GEvidence.lift x (l.take k)) l[k] := by
  unfold GEvidence.lift
  rw [List.take_succ_eq_append_getElem h, List.foldl_append]
  rfl
theorem liftStep_tr (x : GEvidence) (n : Int) : (liftStep x n).tr = [.leaf (.int .i64 3), .leaf (.int .i64 n), .leaf (.int .i64 0), .leaf (.int .i64 0), .row 5 [x.tr]] := by
  simp [liftStep, GEvidence.tr, GInstanceRef.tr, GEvidence.trs]

set_option maxRecDepth 100000 in
set_option maxHeartbeats 2000000 in
theorem apply_impl (x : GEvidence) (steps : List Int) (cs : List Value) (v : Value) (w : World) (hr : RepL w x.tr cs) (hs : Rep w (.row 1 (intTrs steps)) v) (hbk : Tr.bulkL x.tr ≤ 68719476736) :
    Calls Tryd.prog 12 #[.agg ⟨cs⟩, v] w fun e w' => ∃ cs', e = .returned (.agg ⟨cs'⟩) ∧ Ext w w' ∧ OwnL w' (GEvidence.lift x steps).tr cs' (Between w w') := by
  obtain ⟨a, c, rfl, hl, hm⟩ := hs.shape
  rw [intTrs_len] at *
  unfold maxLen at hm
  have HS := Lib.hid hs
  have HR := Lib.hid hr
  have HCL : Hid (cs.length = 5) := hr.length.symm.trans (GEvidence.tr_len x)
  have HI : Hid ((Tryd.prog.info? 32).map (·.size) = some cs.length) := by rw [HCL.out]; exact isz32
  clear hr hs
  go_enter Tryd.func12, Tryd.ntmps12
  go_wp2_with (refine wpList_load_rep rfl 32 (.tmp 2) rfl w.heap.size 0 rfl cs _ Tryd.underlying32 HI.out (OB.cells0 ((OB.new w _ _).ext (.alloc (.refl _) _))) ?_)
  refine (copyEvidence_impl x cs _ (HR.out.ext (.alloc (.alloc (.refl _) _) _)) hbk).mono ?_; rintro e w1 ⟨cs1, rfl, hw1, ho1⟩
  have HCL1 : Hid (cs1.length = 5) := ho1.1.trans (GEvidence.tr_len x)
  have HI1 : Hid ((Tryd.prog.info? 32).map (·.size) = some cs1.length) := by rw [HCL1.out]; exact isz32
  have h2w := (Two.new w 32 32 ⟨cs⟩ #[.int .i64 0, .int .i64 0, .int .i64 0, .int .i64 0, .slice none 0 0]).ext hw1
  have hzz : w.heap.size + 1 < w1.heap.size := h2w.o1.lt
  have HB4 := Lib.hid h2w.o1
  have HW1 : Hid (Ext w w1) := Ext.trans (.alloc (.alloc (.refl _) _) _) hw1
  have HO1 : Hid (OwnL w1 x.tr cs1 (fun b => w.heap.size + 2 ≤ b ∧ b < w1.heap.size)) := ho1.mono fun b hb => by have h1 := hb.1; have h2 := hb.2; simp only [World.size_alloc] at h1; exact ⟨by omega, h2⟩
  clear h2w hw1 ho1
  go_wp2_with (refine wpList_store_rep rfl 32 (.tmp 5) (.tmp 9) rfl w1.heap.size 0 rfl cs1 rfl 32 _ (OB.new w1 _ _) HI1.out (by rw [HCL1.out]; exact Nat.le_refl _) HO1.out.rep.one ?_; intro w2 hob hg hz; rw [splice_whole (by rw [HCL1.out]; rfl)] at hob; have HOB := Lib.hid hob; have HX2 := Lib.hid (grown_ext (.alloc (.refl w1) _) hg (Nat.le_refl _)); have hz2 : w1.heap.size < w2.heap.size := hob.lt; clear hob hg hz)
  go_loopw [12] (fun i wr => ∃ (k : Nat) (cs' : List Value), k ≤ steps.length ∧ i = .int .i64 k ∧ Hid (cs'.length = 5) ∧ Hid (Ext w wr) ∧ w1.heap.size < wr.heap.size ∧ Hid (OB wr w1.heap.size 32 ⟨cs'⟩) ∧ Hid (OB wr (w.heap.size + 1) 32 #[.int .i64 0, .int .i64 0, .int .i64 0, .int .i64 0, .slice none 0 0]) ∧ Hid (OwnL wr (GEvidence.lift x (steps.take k)).tr cs' (fun b => w.heap.size + 2 ≤ b ∧ b ≠ w1.heap.size ∧ b < wr.heap.size))) (fun i _ => steps.length - (intOf i).toNat)
  case atStart => exact ⟨0, cs1, Nat.zero_le _, rfl, HCL1.out, HW1.out.trans HX2.out, hz2, HOB.out, HB4.out.ext HX2.out, (HO1.out.ext HX2.out).mono fun b hb => ⟨hb.1, by have := hb.2; omega, by have := hb.2; omega⟩⟩
  case round =>
    obtain ⟨k, cs', hk, rfl, HL', HW, hzr, HOB', HB', HO'⟩ := hrel
    by_cases hlt : k < steps.length
    · obtain ⟨b, off, rfl, hb, hwf, hcell⟩ := (HS.out.ext HW.out).int hlt
      have HLT := Lib.hid (lift_take (x := x) hlt)
      have HWF := Lib.hid hwf
      obtain ⟨d0, d1, d2, d3, d4, rfl⟩ := list5 HL'.out
      clear hwf
      generalize steps[k] = z at *
      have hone : Hid (∀ v ∈ ([.int .i64 3, .int .i64 z, .int .i64 0, .int .i64 0, .slice (some ⟨wr.heap.size, 0, none⟩) 1 1] : List Value), v.oneCell' = true) := by
        intro v hv
        simp only [List.mem_cons, List.not_mem_nil, or_false] at hv
        rcases hv with rfl | rfl | rfl | rfl | rfl <;> rfl
      go_wp2_with (first
        | (refine wpList_load_rep rfl 32 (.tmp 5) rfl w1.heap.size 0 rfl [d0, d1, d2, d3, d4] _ Tryd.underlying32 isz32 (OB.cells0 HOB'.out) ?_)
        | (refine wpList_store_rep rfl 32 (.tmp 5) (.tmp 19) rfl w1.heap.size 0 rfl [.int .i64 3, .int .i64 z, .int .i64 0, .int .i64 0, .slice (some ⟨wr.heap.size, 0, none⟩) 1 1] rfl 32 _ (HOB'.out.ext (.alloc (.refl wr) (.cells #[d0, d1, d2, d3, d4] 32))) isz32 (by simp) hone.out ?_; intro w3 hob hg hz; have HOB3 := Lib.hid (show OB w3 w1.heap.size 32 ⟨[.int .i64 3, .int .i64 z, .int .i64 0, .int .i64 0, .slice (some ⟨wr.heap.size, 0, none⟩) 1 1]⟩ from hob); have HG3 := Lib.hid hg; have HZ3 := Lib.hid hz; clear hob hg hz))
      go_roundw
      case rel =>
        have hz3 := HZ3.out
        simp only [World.size_alloc] at hz3
        refine ⟨k + 1, [.int .i64 3, .int .i64 z, .int .i64 0, .int .i64 0, .slice (some ⟨wr.heap.size, 0, none⟩) 1 1], by omega, by go_num, by rfl, grown_ext (HW.out.trans (.alloc (.refl _) _)) HG3.out (by omega), by omega, HOB3.out, (HB'.out.ext (.alloc (.refl _) _)).grown HG3.out (by omega), ?_⟩
        show OwnL _ _ _ _
        rw [HLT.out, liftStep_tr]
        have h1 := Own.single (sz := 5) (cap := 1) (HO'.out.ext (.alloc (.refl wr) (.cells #[d0, d1, d2, d3, d4] 32))) (OB.new wr _ _) (fun h => by have := h.2.2; omega) (Nat.le_refl _) (by unfold maxLen; omega)
        have h2 := h1.keep (w' := w3) fun b' hb' hbl => HG3.out.block b' hbl (by
          intro h
          injection h with h
          rcases hb' with h3 | h3
          · exact h3.2.1 h
          · omega)
        refine (OwnL.cons_leaf (v := .int .i64 3) (WalkArith.wf_i64 (by omega)) (OwnL.cons_leaf (v := .int .i64 z) HWF.out (OwnL.cons_leaf (v := .int .i64 0) (WalkArith.wf_i64 (by omega)) (OwnL.cons_leaf (v := .int .i64 0) (WalkArith.wf_i64 (by omega)) (OwnL.one h2))))).mono fun b' hb' => ?_
        rcases hb' with h3 | h3
        · exact ⟨h3.1, h3.2.1, by have := h3.2.2; omega⟩
        · exact ⟨by omega, by omega, by omega⟩
      case measure => simp [intOf]; omega
    · have hkl : k = steps.length := by omega
      have HI' : Hid ((Tryd.prog.info? 32).map (·.size) = some cs'.length) := by rw [HL'.out]; exact isz32
      go_wp2_with (first
        | (refine wpList_load_rep rfl 32 (.tmp 5) rfl w1.heap.size 0 rfl cs' _ Tryd.underlying32 HI'.out (OB.cells0 HOB'.out) ?_)
        | (refine wpList_store_rep rfl 32 (.tmp 4) (.tmp 21) rfl (w.heap.size + 1) 0 rfl cs' rfl 32 _ HB'.out HI'.out (by rw [HL'.out]; exact Nat.le_refl _) HO'.out.rep.one ?_; intro w3 hob hg hz; rw [splice_whole (by rw [HL'.out]; rfl)] at hob; have HOB3 := Lib.hid hob; have HG3 := Lib.hid hg; clear hob hg hz))
      have hx3 : Ext w w3 := grown_ext HW.out HG3.out (by omega)
      refine bodyPost_ret (results_cell_row Tryd.results12 _ _ (w.heap.size + 1) 32 ⟨cs'⟩ _ _ rfl HOB3.out Tryd.underlying32 rfl HI'.out) rfl ⟨cs', rfl, hx3, ?_⟩
      have h5 := HO'.out
      rw [hkl, List.take_length] at h5
      refine (h5.keep fun b' hb' hbl => HG3.out.block b' hbl (by intro h; injection h with h; have := hb'.1; omega)).mono fun b' hb' => ⟨by have := hb'.1; omega, Nat.lt_of_lt_of_le hb'.2.2 HG3.out.size⟩

set_option maxRecDepth 100000 in
set_option maxHeartbeats 2000000 in
theorem apply_spec (x : GEvidence) (steps : List Int) (cs : List Value) (v : Value) (w : World) (hr : RepL w x.tr cs) (hs : Rep w (.row 1 (intTrs steps)) v) (hbk : Tr.bulkL x.tr ≤ 68719476736) :
    Calls Tryd.prog 14 #[.agg ⟨cs⟩, v] w fun e w' => ∃ cs', e = .returned (.agg ⟨cs'⟩) ∧ Ext w w' ∧ OwnL w' (GEvidence.lift x steps).tr cs' (Between w w') := by
  obtain ⟨a, c, rfl, hl, hm⟩ := hs.shape
  rw [intTrs_len] at *
  unfold maxLen at hm
  have HS := Lib.hid hs
  have HR := Lib.hid hr
  have HCL : Hid (cs.length = 5) := hr.length.symm.trans (GEvidence.tr_len x)
  have HI : Hid ((Tryd.prog.info? 32).map (·.size) = some cs.length) := by rw [HCL.out]; exact isz32
  clear hr hs
  go_enter Tryd.func14, Tryd.ntmps14
  go_wp2_with (refine wpList_load_rep rfl 32 (.tmp 2) rfl w.heap.size 0 rfl cs _ Tryd.underlying32 HI.out (OB.cells0 ((OB.new w _ _).ext (.alloc (.refl _) _))) ?_)
  refine (copyEvidence_spec x cs _ (HR.out.ext (.alloc (.alloc (.refl _) _) _)) hbk).mono ?_; rintro e w1 ⟨cs1, rfl, hw1, ho1⟩
  have HCL1 : Hid (cs1.length = 5) := ho1.1.trans (GEvidence.tr_len x)
  have HI1 : Hid ((Tryd.prog.info? 32).map (·.size) = some cs1.length) := by rw [HCL1.out]; exact isz32
  have h2w := (Two.new w 32 32 ⟨cs⟩ #[.int .i64 0, .int .i64 0, .int .i64 0, .int .i64 0, .slice none 0 0]).ext hw1
  have hzz : w.heap.size + 1 < w1.heap.size := h2w.o1.lt
  have HB4 := Lib.hid h2w.o1
  have HW1 : Hid (Ext w w1) := Ext.trans (.alloc (.alloc (.refl _) _) _) hw1
  have HO1 : Hid (OwnL w1 x.tr cs1 (fun b => w.heap.size + 2 ≤ b ∧ b < w1.heap.size)) := ho1.mono fun b hb => by have h1 := hb.1; have h2 := hb.2; simp only [World.size_alloc] at h1; exact ⟨by omega, h2⟩
  clear h2w hw1 ho1
  go_wp2_with (refine wpList_store_rep rfl 32 (.tmp 5) (.tmp 8) rfl w1.heap.size 0 rfl cs1 rfl 32 _ (OB.new w1 _ _) HI1.out (by rw [HCL1.out]; exact Nat.le_refl _) HO1.out.rep.one ?_; intro w2 hob hg hz; rw [splice_whole (by rw [HCL1.out]; rfl)] at hob; have HOB := Lib.hid hob; have HX2 := Lib.hid (grown_ext (.alloc (.refl w1) _) hg (Nat.le_refl _)); have hz2 : w1.heap.size < w2.heap.size := hob.lt; clear hob hg hz)
  go_loopw [6] (fun i wr => ∃ (k : Nat) (cs' : List Value), k ≤ steps.length ∧ i = .int .i64 k ∧ Hid (cs'.length = 5) ∧ Hid (Ext w wr) ∧ w1.heap.size < wr.heap.size ∧ Hid (OB wr w1.heap.size 32 ⟨cs'⟩) ∧ Hid (OB wr (w.heap.size + 1) 32 #[.int .i64 0, .int .i64 0, .int .i64 0, .int .i64 0, .slice none 0 0]) ∧ Hid (OwnL wr (GEvidence.lift x (steps.take k)).tr cs' (fun b => w.heap.size + 2 ≤ b ∧ b ≠ w1.heap.size ∧ b < wr.heap.size))) (fun i _ => steps.length - (intOf i).toNat)
  case atStart => exact ⟨0, cs1, Nat.zero_le _, rfl, HCL1.out, HW1.out.trans HX2.out, hz2, HOB.out, HB4.out.ext HX2.out, (HO1.out.ext HX2.out).mono fun b hb => ⟨hb.1, by have := hb.2; omega, by have := hb.2; omega⟩⟩
  case round =>
    obtain ⟨k, cs', hk, rfl, HL', HW, hzr, HOB', HB', HO'⟩ := hrel
    by_cases hlt : k < steps.length
    · obtain ⟨b0, off0, rfl, hb, hwf, hcell⟩ := HS.out.int hlt
      have hki := hlt
      have HLT := Lib.hid (lift_take (x := x) hlt)
      have HWF := Lib.hid hwf
      obtain ⟨d0, d1, d2, d3, d4, rfl⟩ := list5 HL'.out
      have HC0 : Hid (∀ W, Ext w W → W.cell? ⟨b0, off0 + k * 1, none⟩ = some (.int .i64 steps[k])) := fun W hW => by rw [Nat.mul_one]; exact (hW.cell (p := ⟨b0, off0 + k, none⟩) hb).trans hcell
      clear hwf hcell
      generalize steps[k] = z at *
      have hone : Hid (∀ v ∈ ([.int .i64 3, .int .i64 z, .int .i64 0, .int .i64 0, .slice (some ⟨wr.heap.size, 0, none⟩) 1 1] : List Value), v.oneCell' = true) := by
        intro v hv
        simp only [List.mem_cons, List.not_mem_nil, or_false] at hv
        rcases hv with rfl | rfl | rfl | rfl | rfl <;> rfl
      have ki : (k : Int) < (steps.length : Int) := by omega
      have k0 : (0 : Int) ≤ (k : Int) := by omega
      go_wp2_with fail
      refine wp_region_held_drew (S := Ext w) (by kernel_rfl) ?_ (fun hHeld => ?_)
      · exact .drew HW.out
      refine wpAnyH_take (i := 0) rfl (by kernel_rfl) (by kernel_rfl) (by kernel_rfl) (fun _ _ _ h => h) (.inl ⟨rfl, fun _ _ => rfl⟩) (by assumption) ?_
      simp only [Act.put, List.getElem_toArray, List.getElem_cons_zero, List.setIfInBounds_toArray, List.set_cons_zero, List.set_cons_succ]
      refine wpAnyH_take (i := 1) rfl (by kernel_rfl) (by kernel_rfl) (by kernel_rfl) (fun _ _ _ h => h) (.inl ⟨rfl, fun _ _ => rfl⟩) (by assumption) ?_
      simp only [Act.put, List.getElem_toArray, List.getElem_cons_zero, List.getElem_cons_succ, List.setIfInBounds_toArray, List.set_cons_zero, List.set_cons_succ]
      refine wpAnyH_index (i := 2) rfl (by kernel_rfl) (by kernel_rfl) (by kernel_rfl) rfl 38 (.tmp 15) (.tmp 16) rfl (b0) (off0) (steps.length) (c) (k) (1) rfl rfl (hki) Tryd.underlying38 (by kernel_rfl) (by assumption) (fun _ _ _ _ h => h) ?_
      simp only [Act.put, List.getElem_toArray, List.getElem_cons_zero, List.getElem_cons_succ, List.setIfInBounds_toArray, List.set_cons_zero, List.set_cons_succ]
      refine wpAnyH_cell (i := 3) rfl (by kernel_rfl) (by kernel_rfl) (by kernel_rfl) rfl 3 (.tmp 17) rfl (b0) (off0 + k * 1) rfl (.int .i64 z) _ Tryd.underlying3 rfl (fun W hW => HC0.out W hW) (by assumption) (fun _ _ _ _ h => h) ?_
      simp only [Act.put, List.getElem_toArray, List.getElem_cons_zero, List.getElem_cons_succ, List.setIfInBounds_toArray, List.set_cons_zero, List.set_cons_succ]
      refine wpAnyH_run (i := 4) (v := .agg ⟨[d0, d1, d2, d3, d4]⟩) (w' := wr.drew) (by kernel_rfl) rfl rfl (run_op_load_rep 32 (.tmp 5) rfl w1.heap.size 0 rfl [d0, d1, d2, d3, d4] _ Tryd.underlying32 isz32 (OB.cells0 (HOB'.out.ext (.drew (.refl _))))) hHeld ?_
      simp only [Act.put, List.getElem_toArray, List.getElem_cons_zero, List.getElem_cons_succ, List.setIfInBounds_toArray, List.set_cons_zero, List.set_cons_succ]
      have hs1 := hHeld.trans (.alloc (.refl _) (.cells #[d0, d1, d2, d3, d4] 32))
      refine wpAnyH_run (i := 5) (v := .slice (some ⟨wr.heap.size, 0, none⟩) 1 1) (w' := wr.drew.alloc (.cells #[d0, d1, d2, d3, d4] 32)) (by kernel_rfl) rfl rfl (by simp [execOp, go_sem]) hs1 ?_
      simp only [Act.put, List.getElem_toArray, List.getElem_cons_zero, List.getElem_cons_succ, List.setIfInBounds_toArray, List.set_cons_zero, List.set_cons_succ]
      refine wpAnyH_take (i := 6) (v := .agg ⟨[.int .i64 3, .int .i64 z, .int .i64 0, .int .i64 0, .slice (some ⟨wr.heap.size, 0, none⟩) 1 1]⟩) rfl (by kernel_rfl) (by kernel_rfl) (by kernel_rfl) (fun _ _ _ h => h) (.inl ⟨rfl, fun _ _ => by simp [execOp, go_sem]⟩) (by assumption) ?_
      simp only [Act.put, List.getElem_toArray, List.getElem_cons_zero, List.getElem_cons_succ, List.setIfInBounds_toArray, List.set_cons_zero, List.set_cons_succ]
      refine wpAnyH_store_rep (i := 7) (by kernel_rfl) rfl rfl 32 (.tmp 5) (.tmp 21) rfl (w1.heap.size) (0) rfl ([.int .i64 3, .int .i64 z, .int .i64 0, .int .i64 0, .slice (some ⟨wr.heap.size, 0, none⟩) 1 1]) rfl 32 _ ((HOB'.out.ext (.drew (.refl wr))).ext (.alloc (.refl _) (.cells #[d0, d1, d2, d3, d4] 32))) isz32 (by simp) (hone.out) ?_; intro w3 hob hgb hzb
      have hs2 := grown_ext hs1 hgb (by omega)
      refine ⟨hs2, ?_⟩
      have HOB3 := Lib.hid (show OB w3 w1.heap.size 32 ⟨[.int .i64 3, .int .i64 z, .int .i64 0, .int .i64 0, .slice (some ⟨wr.heap.size, 0, none⟩) 1 1]⟩ from hob)
      have HG3 := Lib.hid hgb
      have HZ3 := Lib.hid hzb
      clear hob hgb hzb
      simp only [Act.put, List.getElem_toArray, List.getElem_cons_zero, List.getElem_cons_succ, List.setIfInBounds_toArray, List.set_cons_zero, List.set_cons_succ]
      refine wpAnyH_done (by kernel_rfl) ?_ _
      clear hHeld hs1
      go_wp2_with fail
      go_roundw
      case rel =>
        have hz3 := HZ3.out
        have hzd : wr.drew.heap.size = wr.heap.size := rfl
        simp only [World.size_alloc, hzd] at hz3
        refine ⟨k + 1, [.int .i64 3, .int .i64 z, .int .i64 0, .int .i64 0, .slice (some ⟨wr.heap.size, 0, none⟩) 1 1], by omega, by go_num, by rfl, grown_ext (HW.out.trans (.alloc (.drew (.refl _)) _)) HG3.out (by omega), by omega, HOB3.out, (HB'.out.ext (.alloc (.drew (.refl _)) _)).grown HG3.out (by omega), ?_⟩
        show OwnL _ _ _ _
        rw [HLT.out, liftStep_tr]
        have h1 := Own.single (sz := 5) (cap := 1) (HO'.out.ext (.alloc (.drew (.refl wr)) (.cells #[d0, d1, d2, d3, d4] 32))) (OB.new wr.drew _ _) (fun h => by have := h.2.2; omega) (Nat.le_refl _) (by unfold maxLen; omega)
        have h2 := h1.keep (w' := w3) fun b' hb' hbl => HG3.out.block b' hbl (by
          intro h
          injection h with h
          rcases hb' with h3 | h3
          · exact h3.2.1 h
          · omega)
        refine (OwnL.cons_leaf (v := .int .i64 3) (WalkArith.wf_i64 (by omega)) (OwnL.cons_leaf (v := .int .i64 z) HWF.out (OwnL.cons_leaf (v := .int .i64 0) (WalkArith.wf_i64 (by omega)) (OwnL.cons_leaf (v := .int .i64 0) (WalkArith.wf_i64 (by omega)) (OwnL.one h2))))).mono fun b' hb' => ?_
        rcases hb' with h3 | h3
        · exact ⟨h3.1, h3.2.1, by have := h3.2.2; omega⟩
        · exact ⟨by omega, by omega, by omega⟩
      case measure => simp [intOf]; omega
    · have hkl : k = steps.length := by omega
      have HI' : Hid ((Tryd.prog.info? 32).map (·.size) = some cs'.length) := by rw [HL'.out]; exact isz32
      go_wp2_with (first
        | (refine wpList_load_rep rfl 32 (.tmp 5) rfl w1.heap.size 0 rfl cs' _ Tryd.underlying32 HI'.out (OB.cells0 HOB'.out) ?_)
        | (refine wpList_store_rep rfl 32 (.tmp 4) (.tmp 22) rfl (w.heap.size + 1) 0 rfl cs' rfl 32 _ HB'.out HI'.out (by rw [HL'.out]; exact Nat.le_refl _) HO'.out.rep.one ?_; intro w3 hob hg hz; rw [splice_whole (by rw [HL'.out]; rfl)] at hob; have HOB3 := Lib.hid hob; have HG3 := Lib.hid hg; clear hob hg hz))
      have hx3 : Ext w w3 := grown_ext HW.out HG3.out (by omega)
      refine bodyPost_ret (results_cell_row Tryd.results14 _ _ (w.heap.size + 1) 32 ⟨cs'⟩ _ _ rfl HOB3.out Tryd.underlying32 rfl HI'.out) rfl ⟨cs', rfl, hx3, ?_⟩
      have h5 := HO'.out
      rw [hkl, List.take_length] at h5
      refine (h5.keep fun b' hb' hbl => HG3.out.block b' hbl (by intro h; injection h with h; have := hb'.1; omega)).mono fun b' hb' => ⟨by have := hb'.1; omega, Nat.lt_of_lt_of_le hb'.2.2 HG3.out.size⟩

end Go.Proofs.YtmpepccpnnldoaaDoor

namespace Go.Proofs.YtmpepccpnnldoaaDoor
open Go.RowKit Go.Proofs

def EqEvC (f : FuncId) (x y : GEvidence) : Prop := ∀ (cs ds : List Value) (w : World), RepL w x.tr cs → RepL w y.tr ds →
  Calls Tryd.prog f #[.agg ⟨cs⟩, .agg ⟨ds⟩] w fun e w' => e = .returned (.bool (GEvidence.eq x y)) ∧ Ext w w'

set_option maxHeartbeats 2000000 in
theorem eqEv_spec_of (k n : Int) (p t : Int) (xs : List GEvidence) (H : ∀ x ∈ xs, ∀ y, EqEvC 13 x y) : ∀ y, EqEvC 13 (.mk k n (.mk p t) xs) y := by
  intro y cs ds w hr hs
  obtain ⟨l, m, ⟨q, u⟩, ys⟩ := y
  obtain ⟨x2, a, c, rfl, -, -, h2, h3⟩ := GEvidence.opened hr
  obtain ⟨rfl, -, -⟩ := GInstanceRef.opened h2
  obtain ⟨y2, a', c', rfl, -, -, h2', h3'⟩ := GEvidence.opened hs
  obtain ⟨rfl, -, -⟩ := GInstanceRef.opened h2'
  rw [GEvidence.trs_map] at h3 h3'
  have hcall := Lib.hid (fun w' hx => same_31 GEvidence.tr GEvidence.eq xs ys GEvidence.tr_len (fun x hx y _ cs ds w h1 h2 => H x hx y cs ds w h1 h2) _ _ w' (h3.ext hx) (h3'.ext hx))
  clear H hr hs h2 h2' h3 h3'
  simp only [GEvidence.eq, GRef_eq, GEvidence.eqs_eqL, List.cons_append, List.nil_append]
  by_cases h1 : k = l
  · subst h1
    by_cases h2 : n = m
    · subst h2
      by_cases h3 : p = q ∧ t = u
      · obtain ⟨rfl, rfl⟩ := h3
        go_enter Tryd.func13, Tryd.ntmps13
        go_wp2_with fail
        refine (hcall.out _ (.alloc (.alloc (.refl _) _) _)).mono ?_; rintro e w1 ⟨rfl, hw1⟩
        have HW1 := Lib.hid hw1
        clear hw1
        generalize hz : eqL GEvidence.eq xs ys = z at *
        have HZ := Lib.hid hz
        clear hz
        go_wp2_with fail
        go_ret
        exact ⟨ret_bool (by simp [HZ.out]), .trans (.alloc (.alloc (.refl _) _) _) HW1.out⟩
      · have e3 : Hid ((p == q && t == u) = false) := by show _ = _; simpa using h3
        go_enter Tryd.func13, Tryd.ntmps13
        go_wp2_with fail
        all_goals
          go_ret
          exact ⟨ret_bool (by rw [e3.out]; simp), .alloc (.alloc (.refl _) _) _⟩
    · have e2 : (n == m) = false := by simpa using h2
      have E2 := Lib.hid e2
      go_enter Tryd.func13, Tryd.ntmps13
      go_wp2_with fail
      go_ret
      exact ⟨ret_bool (by rw [E2.out]; simp), .alloc (.alloc (.refl _) _) _⟩
  · have e1 : (k == l) = false := by simpa using h1
    have E1 := Lib.hid e1
    go_enter Tryd.func13, Tryd.ntmps13
    go_wp2_with fail
    go_ret
    exact ⟨ret_bool (by rw [E1.out]; simp), .alloc (.alloc (.refl _) _) _⟩
theorem eqEv_spec : ∀ x y, EqEvC 13 x y := by
  refine GEvidence.ind fun v0 v1 v2 xs ih => ?_
  obtain ⟨p, t⟩ := v2
  exact eqEv_spec_of v0 v1 p t xs ih

set_option maxHeartbeats 2000000 in
theorem eqEv_impl_of (k n : Int) (p t : Int) (xs : List GEvidence) (H : ∀ x ∈ xs, ∀ y, EqEvC 15 x y) : ∀ y, EqEvC 15 (.mk k n (.mk p t) xs) y := by
  intro y cs ds w hr hs
  obtain ⟨l, m, ⟨q, u⟩, ys⟩ := y
  obtain ⟨x2, a, c, rfl, -, -, h2, h3⟩ := GEvidence.opened hr
  obtain ⟨rfl, -, -⟩ := GInstanceRef.opened h2
  obtain ⟨y2, a', c', rfl, -, -, h2', h3'⟩ := GEvidence.opened hs
  obtain ⟨rfl, -, -⟩ := GInstanceRef.opened h2'
  rw [GEvidence.trs_map] at h3 h3'
  have hcall := Lib.hid (fun w' hx => equalFunc_33 GEvidence.tr GEvidence.eq xs ys 15 (run_callFunc_body Tryd.func15 (by kernel_rfl) (by kernel_rfl)) GEvidence.tr_len (fun x hx y _ cs ds w h1 h2 => H x hx y cs ds w h1 h2) _ _ w' (h3.ext hx) (h3'.ext hx))
  clear H hr hs h2 h2' h3 h3'
  simp only [GEvidence.eq, GRef_eq, GEvidence.eqs_eqL, List.cons_append, List.nil_append]
  by_cases h1 : k = l
  · subst h1
    by_cases h2 : n = m
    · subst h2
      by_cases h3 : p = q ∧ t = u
      · obtain ⟨rfl, rfl⟩ := h3
        go_enter Tryd.func15, Tryd.ntmps15
        go_wp2_with fail
        refine (hcall.out _ (.alloc (.alloc (.refl _) _) _)).mono ?_; rintro e w1 ⟨rfl, hw1⟩
        have HW1 := Lib.hid hw1
        clear hw1
        generalize hz : eqL GEvidence.eq xs ys = z at *
        have HZ := Lib.hid hz
        clear hz
        go_wp2_with fail
        go_ret
        exact ⟨ret_bool (by simp [HZ.out]), .trans (.alloc (.alloc (.refl _) _) _) HW1.out⟩
      · have e3 : Hid ((p == q && t == u) = false) := by show _ = _; simpa using h3
        go_enter Tryd.func15, Tryd.ntmps15
        go_wp2_with fail
        all_goals
          go_ret
          exact ⟨ret_bool (by rw [e3.out]; simp), .alloc (.alloc (.refl _) _) _⟩
    · have e2 : (n == m) = false := by simpa using h2
      have E2 := Lib.hid e2
      go_enter Tryd.func15, Tryd.ntmps15
      go_wp2_with fail
      go_ret
      exact ⟨ret_bool (by rw [E2.out]; simp), .alloc (.alloc (.refl _) _) _⟩
  · have e1 : (k == l) = false := by simpa using h1
    have E1 := Lib.hid e1
    go_enter Tryd.func15, Tryd.ntmps15
    go_wp2_with fail
    go_ret
    exact ⟨ret_bool (by rw [E1.out]; simp), .alloc (.alloc (.refl _) _) _⟩
theorem eqEv_impl : ∀ x y, EqEvC 15 x y := by
  refine GEvidence.ind fun v0 v1 v2 xs ih => ?_
  obtain ⟨p, t⟩ := v2
  exact eqEv_impl_of v0 v1 p t xs ih

end Go.Proofs.YtmpepccpnnldoaaDoor

namespace Go.Proofs.YtmpepccpnnldoaaDoor
set_option linter.unusedSimpArgs false
set_option linter.unusedVariables false
open Go.RowKit

theorem Own.repM {ok : Nat → Nat → Prop} {w : World} {t : Tr} {v : Value} {S : Nat → Prop} (h : Own w t v S) (hk : ∀ b o, S b → b < w.heap.size → ok b o) : RepM ok w t v := by
  induction h with
  | leaf h => exact .leaf h
  | row c T h1 h2 h3 _ h5 h6 ih =>
    refine .row c h1 h2 (fun hne => ?_) (fun i e he j d hd => ih i e he j d hd fun b o hb hl => hk b o (h5 i e he j d hd b hb) hl)
    obtain ⟨b, off, E, arr, ha, hb, hs, hc⟩ := h3 hne
    exact ⟨b, off, ha, hb.lt, fun i e he j d hd => ⟨hk _ _ hs hb.lt, by rw [hb.cell]; exact (hc i e he j d hd).1⟩⟩
/-- A function that is handed data and returns memory of its own computes. -/
theorem AFun.ofFresh {P : Program} {f : FuncId} {args : List PV} {t : Tr} (hfr : freeL args = true) (h : ∀ w vals, RVL0 w args vals → Calls P f ⟨vals⟩ w fun e w' => ∃ v, e = .returned v ∧ Ext w w' ∧ Own w' t v (Between w w')) : AFun P f args (.t t) := fun av m w vals hst hv => by
  refine (h w vals (freeL.rv (fun b o _ _ => ok0 b o) args vals hfr hv)).mono fun e w' => ?_; rintro ⟨v, rfl, hx, ho⟩
  refine ⟨.t t, ⟨[], []⟩, m, v, rfl, ⟨rfl, rfl⟩, StoOk.nil fun b o hb => Nat.lt_of_lt_of_le (hst.avlt b o hb) hx.size, ?_, ?_⟩
  · exact ⟨hx.os, hx.tape, hx.output, hx.size, fun b hb _ _ => hx.block b hb, fun b o hb _ => heap_other_cell (hx.block b hb), fun _ _ _ h => h, fun _ _ h => by simp at h, fun _ _ h => by simp at h, fun _ _ h => by simp at h, fun _ _ _ _ h => by simp at h⟩
  · exact ho.repM fun b o hb _ => ⟨fun ha => by have := hst.avlt b o ha; have := hb.1; omega, fun _ _ h => by simp at h, fun _ _ _ _ h => by simp at h⟩
end Go.Proofs.YtmpepccpnnldoaaDoor

namespace Go.Proofs.YtmpepccpnnldoaaDoor
set_option linter.unusedSimpArgs false
set_option linter.unusedVariables false
open Go.RowKit Go.Proofs

theorem RVL.ofGet {ok : Nat → Nat → Prop} {st : Sto} {m : Lay} {w : World} : ∀ {ts : List Tr} {vs : List Value}, vs.length = ts.length → (∀ (j : Nat) (d : Tr), ts[j]? = some d → ∃ v, vs[j]? = some v ∧ RepM ok w d v) → RVL ok st m w (ts.map PV.t) vs
  | [], [], _, _ => trivial
  | [], _ :: _, h, _ => by simp at h
  | _ :: _, [], h, _ => by simp at h
  | t :: ts, v :: vs, h, k => by
    obtain ⟨u, hu, hr⟩ := k 0 t rfl
    simp at hu
    subst hu
    exact ⟨hr, RVL.ofGet (by simpa using h) fun j d hd => by have := k (j + 1) d (by simpa using hd); simpa using this⟩
/-- A function that is handed data and returns a struct of its own making computes. -/
theorem AFun.ofFreshL {P : Program} {f : FuncId} {args : List PV} {ts : List Tr} (hfr : freeL args = true) (h : ∀ w vals, RVL0 w args vals → Calls P f ⟨vals⟩ w fun e w' => ∃ cs, e = .returned (.agg ⟨cs⟩) ∧ Ext w w' ∧ OwnL w' ts cs (Between w w')) : AFun P f args (.agg (ts.map PV.t)) := fun av m w vals hst hv => by
  refine (h w vals (freeL.rv (fun b o _ _ => ok0 b o) args vals hfr hv)).mono fun e w' => ?_; rintro ⟨cs, rfl, hx, ho⟩
  refine ⟨.agg (ts.map PV.t), ⟨[], []⟩, m, .agg ⟨cs⟩, rfl, ⟨rfl, rfl⟩, StoOk.nil fun b o hb => Nat.lt_of_lt_of_le (hst.avlt b o hb) hx.size, ?_, ?_⟩
  · exact ⟨hx.os, hx.tape, hx.output, hx.size, fun b hb _ _ => hx.block b hb, fun b o hb _ => heap_other_cell (hx.block b hb), fun _ _ _ h => h, fun _ _ h => by simp at h, fun _ _ h => by simp at h, fun _ _ h => by simp at h, fun _ _ _ _ h => by simp at h⟩
  · obtain ⟨hl, T, h1, h2, -⟩ := ho
    refine ⟨cs, rfl, RVL.ofGet hl fun j d hd => ?_⟩
    obtain ⟨v, hv, ho⟩ := h1 j d hd
    exact ⟨v, hv, ho.repM fun b o hb _ => ⟨fun ha => by have := hst.avlt b o ha; have := (h2 j d hd b hb).1; omega, fun _ _ h => by simp at h, fun _ _ _ _ h => by simp at h⟩⟩
theorem AFun.ofLeaf {P : Program} {f : FuncId} {args : List PV} {d : Value} (hfr : freeL args = true) (hd : LeafOk d) (h : ∀ w vals, RVL0 w args vals → Calls P f ⟨vals⟩ w fun e w' => e = .returned d ∧ Ext w w') : AFun P f args (.t (.leaf d)) :=
  AFun.ofFresh hfr fun w vals hv => (h w vals hv).mono fun e w' ⟨he, hx⟩ => ⟨d, he, hx, .leaf hd⟩
theorem ev_rep {w : World} {x : GEvidence} {v : Value} (h : RV0 w (GEvidence.pv x) v) : ∃ cs, v = .agg ⟨cs⟩ ∧ RepL w x.tr cs := by
  obtain ⟨c, rfl, h0⟩ := h
  exact ⟨c, rfl, RVL.ofTr (by rw [GEvidence.tr_cs]; exact h0)⟩
/-- What is written of it is small. -/
def evSmall (x : GEvidence) : Prop := GEvidence.valid x = true → GEvidence.okI (fun n => 0 ≤ n ∧ n < 100) x
theorem formatInt_small_spec : NumT 36 (fun n => 0 ≤ n ∧ n < 100) (fun _ => True) where
  fine := fun n h => ⟨h.1, by omega⟩
  ext := fun _ _ _ _ => trivial
  call := fun n h w hI => formatInt_spec.call n ⟨h.1, by omega⟩ w hI
theorem evFmt_leaf {x : GEvidence} (h : evSmall x) (hb : Tr.bulkL (GEvidence.tr x) ≤ 68719476735) : LeafOk (.string (evFmt x)) := by
  show (evFmt x).size ≤ maxLen
  unfold evFmt maxLen
  split
  · rename_i hv
    have h1 := GEvidence.txt_size formatInt_small_spec.fine x (h hv)
    have h2 := GEvidence.size_bulk x
    omega
  · exact Nat.zero_le _
theorem i64_leaf {n : Int} (h0 : 0 ≤ n) (h1 : n ≤ 9223372036854775807) : LeafOk (.int .i64 n) := by
  have e1 : IntKind.i64.max = 9223372036854775807 := by decide
  have e2 : IntKind.i64.min = -9223372036854775808 := by decide
  show Lit.wf (.int .i64 n) = true
  simp only [Lit.wf, Bool.and_eq_true, decide_eq_true_eq]
  omega
theorem sEqEv_fn (x y : GEvidence) : AFun Tryd.prog 13 [GEvidence.pv x, GEvidence.pv y] (.t (.leaf (.bool (GEvidence.eq x y)))) :=
  AFun.ofLeaf rfl trivial fun w vals hv => by
    match vals, hv with
    | [v0, v1], hv =>
      obtain ⟨c0, rfl, h0⟩ := ev_rep hv.1
      obtain ⟨c1, rfl, h1⟩ := ev_rep hv.2.1
      exact eqEv_spec x y _ _ _ h0 h1
theorem sValid_fn (x : GEvidence) : AFun Tryd.prog 18 [GEvidence.pv x] (.t (.leaf (.bool (GEvidence.valid x)))) :=
  AFun.ofLeaf rfl trivial fun w vals hv => by
    match vals, hv with
    | [v0], hv =>
      obtain ⟨c0, rfl, h0⟩ := ev_rep hv.1
      exact evidenceValid_spec x _ _ h0
theorem sFmtEv_fn (x : GEvidence) (hs : evSmall x) (hb : Tr.bulkL (GEvidence.tr x) ≤ 68719476735) : AFun Tryd.prog 6 [GEvidence.pv x] (.t (.leaf (.string (evFmt x)))) :=
  AFun.ofLeaf rfl (evFmt_leaf hs hb) fun w vals hv => by
    match vals, hv with
    | [v0], hv =>
      obtain ⟨c0, rfl, h0⟩ := ev_rep hv.1
      exact formatEvidence_spec formatInt_small_spec x _ _ trivial h0 hs (by have := GEvidence.size_bulk x; omega)
theorem sApplyEv_fn (x : GEvidence) (steps : List Int) (hb : Tr.bulkL (GEvidence.tr x) ≤ 68719476735) : AFun Tryd.prog 14 [GEvidence.pv x, .t (.row 1 (intTrs steps))] (GEvidence.pv (GEvidence.lift x steps)) := by
  have h := AFun.ofFreshL (P := Tryd.prog) (f := 14) (args := [GEvidence.pv x, .t (.row 1 (intTrs steps))]) (ts := (GEvidence.lift x steps).tr) rfl fun w vals hv => by
    match vals, hv with
    | [v0, v1], hv =>
      obtain ⟨c0, rfl, h0⟩ := ev_rep hv.1
      exact apply_spec x steps _ _ _ h0 (RepM.rep hv.2.1) (by omega)
  rw [GEvidence.tr_cs] at h
  exact h
theorem iEqEv_fn (x y : GEvidence) : AFun Tryd.prog 15 [GEvidence.pv x, GEvidence.pv y] (.t (.leaf (.bool (GEvidence.eq x y)))) :=
  AFun.ofLeaf rfl trivial fun w vals hv => by
    match vals, hv with
    | [v0, v1], hv =>
      obtain ⟨c0, rfl, h0⟩ := ev_rep hv.1
      obtain ⟨c1, rfl, h1⟩ := ev_rep hv.2.1
      exact eqEv_impl x y _ _ _ h0 h1
theorem iValid_fn (x : GEvidence) : AFun Tryd.prog 17 [GEvidence.pv x] (.t (.leaf (.bool (GEvidence.valid x)))) :=
  AFun.ofLeaf rfl trivial fun w vals hv => by
    match vals, hv with
    | [v0], hv =>
      obtain ⟨c0, rfl, h0⟩ := ev_rep hv.1
      exact evidenceValid_impl x _ _ h0
theorem iFmtEv_fn (x : GEvidence) (hs : evSmall x) (hb : Tr.bulkL (GEvidence.tr x) ≤ 68719476735) : AFun Tryd.prog 8 [GEvidence.pv x] (.t (.leaf (.string (evFmt x)))) :=
  AFun.ofLeaf rfl (evFmt_leaf hs hb) fun w vals hv => by
    match vals, hv with
    | [v0], hv =>
      obtain ⟨c0, rfl, h0⟩ := ev_rep hv.1
      exact formatEvidence_impl formatInt_small x _ _ trivial h0 hs (by have := GEvidence.size_bulk x; omega)
theorem iApplyEv_fn (x : GEvidence) (steps : List Int) (hb : Tr.bulkL (GEvidence.tr x) ≤ 68719476735) : AFun Tryd.prog 12 [GEvidence.pv x, .t (.row 1 (intTrs steps))] (GEvidence.pv (GEvidence.lift x steps)) := by
  have h := AFun.ofFreshL (P := Tryd.prog) (f := 12) (args := [GEvidence.pv x, .t (.row 1 (intTrs steps))]) (ts := (GEvidence.lift x steps).tr) rfl fun w vals hv => by
    match vals, hv with
    | [v0, v1], hv =>
      obtain ⟨c0, rfl, h0⟩ := ev_rep hv.1
      exact apply_impl x steps _ _ _ h0 (RepM.rep hv.2.1) (by omega)
  rw [GEvidence.tr_cs] at h
  exact h
theorem iSizeEv_fn (x : GEvidence) (hb : Tr.bulkL (GEvidence.tr x) ≤ 68719476735) : AFun Tryd.prog 16 [GEvidence.pv x] (.t (.leaf (.int .i64 ((GEvidence.size x : Nat) : Int)))) :=
  AFun.ofLeaf rfl (i64_leaf (by omega) (by have := GEvidence.size_bulk x; omega)) fun w vals hv => by
    match vals, hv with
    | [v0], hv =>
      obtain ⟨c0, rfl, h0⟩ := ev_rep hv.1
      exact evidenceSize_impl x _ _ h0 (by have := GEvidence.size_bulk x; omega)
theorem iDepthEv_fn (x : GEvidence) (hb : Tr.bulkL (GEvidence.tr x) ≤ 68719476735) : AFun Tryd.prog 19 [GEvidence.pv x] (.t (.leaf (.int .i64 ((GEvidence.depth x : Nat) : Int)))) :=
  AFun.ofLeaf rfl (i64_leaf (by omega) (by have := GEvidence.size_bulk x; have := GEvidence.depth_size x; omega)) fun w vals hv => by
    match vals, hv with
    | [v0], hv =>
      obtain ⟨c0, rfl, h0⟩ := ev_rep hv.1
      exact evidenceDepth_impl x _ _ h0 (by have := GEvidence.size_bulk x; omega)
end Go.Proofs.YtmpepccpnnldoaaDoor

namespace Go.Proofs.YtmpepccpnnldoaaDoor
set_option maxRecDepth 100000
set_option maxHeartbeats 40000000
noncomputable section
open Go.RowKit Go.Proofs
set_option linter.unusedSimpArgs false
set_option linter.unusedVariables false

attribute [local irreducible] lt

def lbig_T (m : (List UInt8) → Option Bool) : Prop := ∀ (pcode : List UInt8) (r : Bool), m pcode = some r → AFun Tryd.prog 10 [rU pcode] (pB r : PV)
def lbig_M (fu : Nat) (pcode : List UInt8) : Option Bool :=
 some (decide ((((pcode.length : Nat) : Int) : Int) > 1048576))
theorem lbig_ok (fu : Nat)   : lbig_T (lbig_M fu) := by
  intro pcode r H
  have H := hd0 H
  refine qI Tryd.func10 (fun C hC => ?_)
  refine qS (qR (q1 rMv (qN (qS (qR (q1 rMv (q1 (rLn el36 (byteTrs_len _)) (q1 rGt (q1 rMv (qN (AWP.ret ?_)))))))))))
  obtain rfl : _ = r := (smI H :)
  exact qe1

def sDrawApplySupertraits_T (m : (List UInt8) → Option (GEvidence × (List Int))) : Prop := ∀ (pcode : List UInt8) (r : GEvidence × (List Int)), m pcode = some r → AFun Tryd.prog 11 [rU pcode] (.tup [(GEvidence.pv r.1), rI r.2] : PV)
def sDrawApplySupertraits_M (fu : Nat) (pcode : List UInt8) : Option (GEvidence × (List Int)) :=
 gd ((pcode).length ≤ 1048576)
 (bd (sl24Bent_M fu (DS.start pcode)) (fun (x3, x4) =>
 lt (x4.after 3) (fun d5 =>
 lt (d5.after 2) (fun d7 =>
 lt (d7.after 4) (fun d9 =>
 gd ((0 : Int) ≤ 0 ∧ (0 : Int) ≤ ((d7.below 4 : Nat) : Int) ∧ (((d7.below 4 : Nat) : Int) : Int) ≤ ((([((x4.below 3 : Nat) : Int), ((d5.below 2 : Nat) : Int), 0] : List Int).length : Nat) : Int))
 (some (x3, (List.drop (0 : Int).toNat (List.take (((d7.below 4 : Nat) : Int) : Int).toNat ([((x4.below 3 : Nat) : Int), ((d5.below 2 : Nat) : Int), 0] : List Int))))))))))
theorem sDrawApplySupertraits_ok (fu : Nat)   : sDrawApplySupertraits_T (sDrawApplySupertraits_M fu) := by
  intro pcode r H
  have H := hd0 H
  refine qI Tryd.func11 (fun C hC => ?_)
  refine qS (qR (q1 (rAl zr32) (q1 rMv (qN (qS (qR (q1 rMv (gdE H fun z1 H => (q1 (AOp.callNew (ps := [_]) rfl rfl Tryd.func27 (by kernel_rfl) rfl rfl leA rfl rfl (new_ok pcode z1)) (q1 rMv (qN (qS (bdE2 H fun x3 x4 z2 H => ?_)))))))))))))
  refine ltQ H fun d5 h6 H => (ltQ H fun d7 h8 H => (ltQ H fun d9 h10 H => (gdE H fun z11 H => (dW (dI [4] rMv (dE [7] (rCp [1] [] Tryd.func28 (sl24Bent_ok fu (DS.start pcode) _ z2)) (dI [4] rMv (dE [9] (rCp [1] [] Tryd.func29 (nmD h6 (below_ok x4 3))) (dI [4] rMv (dE [11] (rCp [1] [] Tryd.func29 (nmD h8 (below_ok d5 2))) (dI [10, 12] (rBs ([((x4.below 3 : Nat) : Int), ((d5.below 2 : Nat) : Int), 0] : List Int) el38 zr3) (dI [4] rMv (dE [14] (rCp [1] [] Tryd.func29 (nmD h10 (below_ok d7 4))) ?_)))))))))))))
  refine dI [13, 15] (AOp.congrP (AOp.sliceR (es := intTrs (([((x4.below 3 : Nat) : Int), ((d5.below 2 : Nat) : Int), 0] : List Int))) (l := 0) (k := ((d7.below 4 : Nat) : Int)) rfl rfl rfl rfl rfl (by rw [intTrs_len]; exact rfl) (by rw [intTrs_len]; exact z11) el38) (intTrs_part _ _ _)) ?_; refine dE0 [2, 8] (rSu sz32) (dI [16] rMv (dN (AWP.ret ?_)))
  obtain rfl : _ = r := (smI H :)
  exact qe2 (hr := ⟨⟨_, _, _, rfl, rfl, sh32, rfl, rfl⟩, rfl, trivial⟩)

def lFnEvText_T (m : (List UInt8) → Option Bool) : Prop := ∀ (pa0 : List UInt8) (r : Bool), m pa0 = some r → AFun Tryd.prog 4 [rU pa0] (pB r : PV)
def lFnEvText_M (fu : Nat) (pa0 : List UInt8) : Option Bool :=
 bd (lbig_M fu pa0) (fun x2 =>
 sw (x2)
 (some true)
 (bd (sDrawApplySupertraits_M fu pa0) (fun (x5, x6) =>
 gd (Tr.bulkL (GEvidence.tr x5) ≤ 68719476735)
 (sw (!(GEvidence.eq (GEvidence.lift x5 x6) (GEvidence.lift x5 x6)))
 (some false)
 (gd (evSmall x5)
 (sw (!decide ((evFmt x5) = (evFmt x5)))
 (some false)
 (gd (Tr.bulkL (GEvidence.tr (GEvidence.lift x5 x6)) ≤ 68719476735)
 (sw (decide ((((GEvidence.size (GEvidence.lift x5 x6) : Nat) : Int) : Int) = wrap64 (((GEvidence.size x5 : Nat) : Int) + ((x6.length : Nat) : Int))))
 (sw (decide ((GEvidence.valid x5 : Bool) = (GEvidence.valid x5)))
 (sw (decide ((GEvidence.valid (GEvidence.lift x5 x6) : Bool) = (GEvidence.valid x5)))
 (some (decide ((((GEvidence.depth (GEvidence.lift x5 x6) : Nat) : Int) : Int) ≥ ((GEvidence.depth x5 : Nat) : Int))))
 (some false))
 (some false))
 (some false)))))))))
theorem lFnEvText_ok (fu : Nat)   : lFnEvText_T (lFnEvText_M fu) := by
  intro pa0 r H
  have H := hd0 H
  refine qI Tryd.func4 (fun C hC => ?_)
  refine qS (qR (q1 rMv (qN ?_)))
  iterate 2 refine qS ?_
  refine qR (q1 rMv (bdE H fun x2 z1 H => (q1 (rCf Tryd.func10 (lbig_ok fu pa0 _ z1)) (qN ?_))))
  refine cndB H (fun h3 H => ?_) (fun h3 H => ?_)
  · refine qS (qR (q1 rMv (qN (AWP.ret ?_))))
    obtain rfl : _ = r := (smI H :)
    exact qe1
  refine AWP.skip (qS (qR (q1 rMv (bdE2 H fun x5 x6 z4 H => (q1 (rCf Tryd.func11 (sDrawApplySupertraits_ok fu pa0 _ z4)) (q1 rMv ?_))))))
  iterate 2 refine q1 rEx ?_
  refine q1 (rAl zr32) (q1 (rSu sz32) (q1 rMv (qN (qS (qR (q1 (rLp [pI x5.gKind, pI x5.gN, pI x5.gAt.gPackage, pI x5.gAt.gAt, rEvidence x5.gArgs] sh32) (q1 rMv (gdE H fun z7 H => (q1 (rCf Tryd.func12 (iApplyEv_fn x5 x6 z7)) (q1 (rAl zr32) (q1 (rSu sz32) (qN ?_))))))))))))
  iterate 2 refine qS ?_
  rcases bool2 (!(GEvidence.eq (GEvidence.lift x5 x6) (GEvidence.lift x5 x6))) with g8 | g8
  · have H := swI1 H g8
    refine dW (dD [5] (rLp [pI ((GEvidence.lift x5 x6).gKind), pI ((GEvidence.lift x5 x6).gN), pI ((GEvidence.lift x5 x6).gAt.gPackage), pI ((GEvidence.lift x5 x6).gAt.gAt), rEvidence ((GEvidence.lift x5 x6).gArgs)] sh32) (dD [3] (rLp [pI x5.gKind, pI x5.gN, pI x5.gAt.gPackage, pI x5.gAt.gAt, rEvidence x5.gArgs] sh32) (dI [4] rMv (dI [17, 18] (rCf Tryd.func14 (sApplyEv_fn x5 x6 z7)) (dI [16, 19] (rCf Tryd.func13 (sEqEv_fn (GEvidence.lift x5 x6) (GEvidence.lift x5 x6))) (dI [20] rNo (dI [21] rMv ?_)))))))
    iterate 6 refine dSk g8 ?_
    refine dI [22] (rPt g8) (dI [29] rMv ?_)
    iterate 5 refine dSk rfl ?_
    refine dI [30] (rPt rfl) (dN (cndT rfl (qS (qR (q1 rMv (qN (AWP.ret ?_)))))))
    obtain rfl : _ = r := (smI H :)
    exact qe1
  have H := swI0 H g8
  refine gdE H fun z9 H => (dW (dD [5] (rLp [pI ((GEvidence.lift x5 x6).gKind), pI ((GEvidence.lift x5 x6).gN), pI ((GEvidence.lift x5 x6).gAt.gPackage), pI ((GEvidence.lift x5 x6).gAt.gAt), rEvidence ((GEvidence.lift x5 x6).gArgs)] sh32) (dD [3] (rLp [pI x5.gKind, pI x5.gN, pI x5.gAt.gPackage, pI x5.gAt.gAt, rEvidence x5.gArgs] sh32) (dI [4] rMv (dI [17, 18] (rCf Tryd.func14 (sApplyEv_fn x5 x6 z7)) (dI [16, 19] (rCf Tryd.func13 (sEqEv_fn (GEvidence.lift x5 x6) (GEvidence.lift x5 x6))) (dI [20] rNo (dI [21] rMv (dD (hg := wantT g8) [5] (rLp [pI ((GEvidence.lift x5 x6).gKind), pI ((GEvidence.lift x5 x6).gN), pI ((GEvidence.lift x5 x6).gAt.gPackage), pI ((GEvidence.lift x5 x6).gAt.gAt), rEvidence ((GEvidence.lift x5 x6).gArgs)] sh32) (dD (hg := wantT g8) [3] (rLp [pI x5.gKind, pI x5.gN, pI x5.gAt.gPackage, pI x5.gAt.gAt, rEvidence x5.gArgs] sh32) (dI (hg := wantT g8) [4] rMv (dI (hg := wantT g8) [24, 25] (rCf Tryd.func14 (sApplyEv_fn x5 x6 z7)) (dI (hg := wantT g8) [23, 26] (rCf Tryd.func15 (iEqEv_fn (GEvidence.lift x5 x6) (GEvidence.lift x5 x6))) ?_)))))))))))))
  refine dI (hg := wantT g8) [27] rNo (dI [22, 28] (rPf g8) (dI [29] rMv (dD (hg := wantT g8) [3] (rLp [pI x5.gKind, pI x5.gN, pI x5.gAt.gPackage, pI x5.gAt.gAt, rEvidence x5.gArgs] sh32) (dI (hg := wantT g8) [31] (rCf Tryd.func8 (iFmtEv_fn x5 z9 z7)) (dD (hg := wantT g8) [3] (rLp [pI x5.gKind, pI x5.gN, pI x5.gAt.gPackage, pI x5.gAt.gAt, rEvidence x5.gArgs] sh32) (dI (hg := wantT g8) [33] (rCf Tryd.func6 (sFmtEv_fn x5 z9 z7)) (dI (hg := wantT g8) [32, 34] rSn (dI [30, 35] (rPf g8) (dN ?_)))))))))
  refine cndB H (fun h10 H => ?_) (fun h10 H => ?_)
  · refine qS (qR (q1 rMv (qN (AWP.ret ?_))))
    obtain rfl : _ = r := (smI H :)
    exact qe1
  refine AWP.skip (qS (gdE H fun z11 H => ?_))
  rcases bool2 (decide ((((GEvidence.size (GEvidence.lift x5 x6) : Nat) : Int) : Int) = wrap64 (((GEvidence.size x5 : Nat) : Int) + ((x6.length : Nat) : Int)))) with g12 | g12
  · have H := swI1 H g12
    rcases bool2 (decide ((GEvidence.valid x5 : Bool) = (GEvidence.valid x5))) with g13 | g13
    · have H := swI1 H g13
      rcases bool2 (decide ((GEvidence.valid (GEvidence.lift x5 x6) : Bool) = (GEvidence.valid x5))) with g14 | g14
      · have H := swI1 H g14
        refine dW (dD [5] (rLp [pI ((GEvidence.lift x5 x6).gKind), pI ((GEvidence.lift x5 x6).gN), pI ((GEvidence.lift x5 x6).gAt.gPackage), pI ((GEvidence.lift x5 x6).gAt.gAt), rEvidence ((GEvidence.lift x5 x6).gArgs)] sh32) (dI [37] (rCf Tryd.func16 (iSizeEv_fn (GEvidence.lift x5 x6) z11)) (dD [3] (rLp [pI x5.gKind, pI x5.gN, pI x5.gAt.gPackage, pI x5.gAt.gAt, rEvidence x5.gArgs] sh32) (dI [39] (rCf Tryd.func16 (iSizeEv_fn x5 z7)) (dI [4] rMv (dI [41] (rLn el38 (intTrs_len _)) (dI [40, 42] rAw (dI [38, 43] rEq (dI [44] rMv (dD (hg := wantT g12) [3] (rLp [pI x5.gKind, pI x5.gN, pI x5.gAt.gPackage, pI x5.gAt.gAt, rEvidence x5.gArgs] sh32) (dI (hg := wantT g12) [46] (rCf Tryd.func17 (iValid_fn x5)) (dD (hg := wantT g12) [3] (rLp [pI x5.gKind, pI x5.gN, pI x5.gAt.gPackage, pI x5.gAt.gAt, rEvidence x5.gArgs] sh32) (dI (hg := wantT g12) [48] (rCf Tryd.func18 (sValid_fn x5)) ?_)))))))))))))
        refine dI (hg := wantT g12) [47, 49] (AOp.eqlB rfl rfl rfl rfl Tryd.underlying4) (dI [45, 50] (rPt g12) (dI [51] rMv (dD (hg := wantT g13) [5] (rLp [pI ((GEvidence.lift x5 x6).gKind), pI ((GEvidence.lift x5 x6).gN), pI ((GEvidence.lift x5 x6).gAt.gPackage), pI ((GEvidence.lift x5 x6).gAt.gAt), rEvidence ((GEvidence.lift x5 x6).gArgs)] sh32) (dI (hg := wantT g13) [53] (rCf Tryd.func17 (iValid_fn (GEvidence.lift x5 x6))) (dD (hg := wantT g13) [3] (rLp [pI x5.gKind, pI x5.gN, pI x5.gAt.gPackage, pI x5.gAt.gAt, rEvidence x5.gArgs] sh32) (dI (hg := wantT g13) [55] (rCf Tryd.func17 (iValid_fn x5)) (dI (hg := wantT g13) [54, 56] (AOp.eqlB rfl rfl rfl rfl Tryd.underlying4) (dI [52, 57] (rPt g13) (dI [58] rMv (dD (hg := wantT g14) [5] (rLp [pI ((GEvidence.lift x5 x6).gKind), pI ((GEvidence.lift x5 x6).gN), pI ((GEvidence.lift x5 x6).gAt.gPackage), pI ((GEvidence.lift x5 x6).gAt.gAt), rEvidence ((GEvidence.lift x5 x6).gArgs)] sh32) (dI (hg := wantT g14) [60] (rCf Tryd.func19 (iDepthEv_fn (GEvidence.lift x5 x6) z11)) (dD (hg := wantT g14) [3] (rLp [pI x5.gKind, pI x5.gN, pI x5.gAt.gPackage, pI x5.gAt.gAt, rEvidence x5.gArgs] sh32) (dI (hg := wantT g14) [62] (rCf Tryd.func19 (iDepthEv_fn x5 z7)) ?_)))))))))))))
        refine dI (hg := wantT g14) [61, 63] rGe (dI [59, 64] (rPt g14) (dI [65] rMv (dN (AWP.ret ?_))))
        obtain rfl : _ = r := (smI H :)
        exact qe1
      have H := swI0 H g14
      refine dW (dD [5] (rLp [pI ((GEvidence.lift x5 x6).gKind), pI ((GEvidence.lift x5 x6).gN), pI ((GEvidence.lift x5 x6).gAt.gPackage), pI ((GEvidence.lift x5 x6).gAt.gAt), rEvidence ((GEvidence.lift x5 x6).gArgs)] sh32) (dI [37] (rCf Tryd.func16 (iSizeEv_fn (GEvidence.lift x5 x6) z11)) (dD [3] (rLp [pI x5.gKind, pI x5.gN, pI x5.gAt.gPackage, pI x5.gAt.gAt, rEvidence x5.gArgs] sh32) (dI [39] (rCf Tryd.func16 (iSizeEv_fn x5 z7)) (dI [4] rMv (dI [41] (rLn el38 (intTrs_len _)) (dI [40, 42] rAw (dI [38, 43] rEq (dI [44] rMv (dD (hg := wantT g12) [3] (rLp [pI x5.gKind, pI x5.gN, pI x5.gAt.gPackage, pI x5.gAt.gAt, rEvidence x5.gArgs] sh32) (dI (hg := wantT g12) [46] (rCf Tryd.func17 (iValid_fn x5)) (dD (hg := wantT g12) [3] (rLp [pI x5.gKind, pI x5.gN, pI x5.gAt.gPackage, pI x5.gAt.gAt, rEvidence x5.gArgs] sh32) (dI (hg := wantT g12) [48] (rCf Tryd.func18 (sValid_fn x5)) ?_)))))))))))))
      refine dI (hg := wantT g12) [47, 49] (AOp.eqlB rfl rfl rfl rfl Tryd.underlying4) (dI [45, 50] (rPt g12) (dI [51] rMv (dD (hg := wantT g13) [5] (rLp [pI ((GEvidence.lift x5 x6).gKind), pI ((GEvidence.lift x5 x6).gN), pI ((GEvidence.lift x5 x6).gAt.gPackage), pI ((GEvidence.lift x5 x6).gAt.gAt), rEvidence ((GEvidence.lift x5 x6).gArgs)] sh32) (dI (hg := wantT g13) [53] (rCf Tryd.func17 (iValid_fn (GEvidence.lift x5 x6))) (dD (hg := wantT g13) [3] (rLp [pI x5.gKind, pI x5.gN, pI x5.gAt.gPackage, pI x5.gAt.gAt, rEvidence x5.gArgs] sh32) (dI (hg := wantT g13) [55] (rCf Tryd.func17 (iValid_fn x5)) (dI (hg := wantT g13) [54, 56] (AOp.eqlB rfl rfl rfl rfl Tryd.underlying4) (dI [52, 57] (rPt g13) (dI [58] rMv ?_)))))))))
      iterate 5 refine dSk g14 ?_
      refine dI [59] (rPf g14) (dI [65] rMv (dN (AWP.ret ?_)))
      obtain rfl : _ = r := (smI H :)
      exact qe1
    have H := swI0 H g13
    refine dW (dD [5] (rLp [pI ((GEvidence.lift x5 x6).gKind), pI ((GEvidence.lift x5 x6).gN), pI ((GEvidence.lift x5 x6).gAt.gPackage), pI ((GEvidence.lift x5 x6).gAt.gAt), rEvidence ((GEvidence.lift x5 x6).gArgs)] sh32) (dI [37] (rCf Tryd.func16 (iSizeEv_fn (GEvidence.lift x5 x6) z11)) (dD [3] (rLp [pI x5.gKind, pI x5.gN, pI x5.gAt.gPackage, pI x5.gAt.gAt, rEvidence x5.gArgs] sh32) (dI [39] (rCf Tryd.func16 (iSizeEv_fn x5 z7)) (dI [4] rMv (dI [41] (rLn el38 (intTrs_len _)) (dI [40, 42] rAw (dI [38, 43] rEq (dI [44] rMv (dD (hg := wantT g12) [3] (rLp [pI x5.gKind, pI x5.gN, pI x5.gAt.gPackage, pI x5.gAt.gAt, rEvidence x5.gArgs] sh32) (dI (hg := wantT g12) [46] (rCf Tryd.func17 (iValid_fn x5)) (dD (hg := wantT g12) [3] (rLp [pI x5.gKind, pI x5.gN, pI x5.gAt.gPackage, pI x5.gAt.gAt, rEvidence x5.gArgs] sh32) (dI (hg := wantT g12) [48] (rCf Tryd.func18 (sValid_fn x5)) ?_)))))))))))))
    refine dI (hg := wantT g12) [47, 49] (AOp.eqlB rfl rfl rfl rfl Tryd.underlying4) (dI [45, 50] (rPt g12) (dI [51] rMv ?_))
    iterate 5 refine dSk g13 ?_
    refine dI [52] (rPf g13) (dI [58] rMv ?_)
    iterate 5 refine dSk rfl ?_
    refine dI [59] (rPf rfl) (dI [65] rMv (dN (AWP.ret ?_)))
    obtain rfl : _ = r := (smI H :)
    exact qe1
  have H := swI0 H g12
  refine dW (dD [5] (rLp [pI ((GEvidence.lift x5 x6).gKind), pI ((GEvidence.lift x5 x6).gN), pI ((GEvidence.lift x5 x6).gAt.gPackage), pI ((GEvidence.lift x5 x6).gAt.gAt), rEvidence ((GEvidence.lift x5 x6).gArgs)] sh32) (dI [37] (rCf Tryd.func16 (iSizeEv_fn (GEvidence.lift x5 x6) z11)) (dD [3] (rLp [pI x5.gKind, pI x5.gN, pI x5.gAt.gPackage, pI x5.gAt.gAt, rEvidence x5.gArgs] sh32) (dI [39] (rCf Tryd.func16 (iSizeEv_fn x5 z7)) (dI [4] rMv (dI [41] (rLn el38 (intTrs_len _)) (dI [40, 42] rAw (dI [38, 43] rEq (dI [44] rMv ?_)))))))))
  iterate 5 refine dSk g12 ?_
  refine dI [45] (rPf g12) (dI [51] rMv ?_)
  iterate 5 refine dSk rfl ?_
  refine dI [52] (rPf rfl) (dI [58] rMv ?_)
  iterate 5 refine dSk rfl ?_
  refine dI [59] (rPf rfl) (dI [65] rMv (dN (AWP.ret ?_)))
  obtain rfl : _ = r := (smI H :)
  exact qe1

end
end Go.Proofs.YtmpepccpnnldoaaDoor

namespace Go.Proofs.YtmpepccpnnldoaaDoor
set_option linter.unusedSimpArgs false
set_option linter.unusedVariables false

/-- It holds of all great enough numbers. -/
def Evt (P : Nat → Prop) : Prop := ∃ N, ∀ n, N ≤ n → P n
theorem Evt.all {P : Nat → Prop} (h : ∀ n, P n) : Evt P := ⟨0, fun n _ => h n⟩
theorem Evt.and {P Q : Nat → Prop} (h : Evt P) (k : Evt Q) : Evt fun n => P n ∧ Q n := by
  obtain ⟨a, h⟩ := h
  obtain ⟨b, k⟩ := k
  exact ⟨max a b, fun n hn => ⟨h n (by omega), k n (by omega)⟩⟩
theorem Evt.imp {P Q : Nat → Prop} (h : Evt P) (k : ∀ n, P n → Q n) : Evt Q := by
  obtain ⟨a, h⟩ := h
  exact ⟨a, fun n hn => k n (h n hn)⟩
/-- .. of each index below n. -/
theorem Evt.below {P : Nat → Nat → Prop} : ∀ {k : Nat}, (∀ i, i < k → Evt (P i)) → Evt fun n => ∀ i, i < k → P i n
  | 0, _ => .all fun n i hi => by omega
  | k + 1, h => ((h k (by omega)).and (Evt.below (k := k) fun i hi => h i (Nat.lt_succ_of_lt hi))).imp fun n hn i hi => by
    rcases Nat.lt_or_ge i k with h1 | h1
    · exact hn.2 i h1
    · obtain rfl : i = k := by omega
      exact hn.1
theorem Evt.get {P : Nat → Prop} (h : Evt P) : ∃ n, P n := by
  obtain ⟨a, h⟩ := h
  exact ⟨a, h a (Nat.le_refl _)⟩

section
variable {α σ β : Type} [Inhabited α] {f : Nat → σ → Option (LR σ β)}
/-- One round that goes on. -/
theorem loopN_step {n i : Nat} {s s' : σ} (h : i < n) (e : f i s = some (.next s')) : loopN f (n - i) i s = loopN f (n - (i + 1)) (i + 1) s' := loopN_next h rfl e
theorem loopN_out {n i : Nat} {s : σ} {x : β} (h : i < n) (e : f i s = some (.ret x)) : loopN f (n - i) i s = some (.inl x) := loopN_ret h rfl e
theorem loopN_off {n i : Nat} {s s' : σ} (h : i < n) (e : f i s = some (.brk s')) : loopN f (n - i) i s = some (.inr s') := loopN_brk h rfl e
theorem loopN_all {n i : Nat} {s : σ} (h : n ≤ i) : loopN f (n - i) i s = some (.inr s) := loopN_end h rfl
end
end Go.Proofs.YtmpepccpnnldoaaDoor

namespace Go.Proofs.YtmpepccpnnldoaaDoor
set_option linter.unusedSimpArgs false
set_option linter.unusedVariables false
open Go.RowKit Go.WalkArith Go.IntWalk

def Ok {α : Type} (o : Option α) (P : α → Prop) : Prop := ∃ a, o = some a ∧ P a
theorem Ok.some {α : Type} {P : α → Prop} {a : α} (h : P a) : Ok (Option.some a) P := ⟨a, rfl, h⟩
theorem Ok.mono {α : Type} {P Q : α → Prop} {o : Option α} (h : Ok o P) (k : ∀ a, P a → Q a) : Ok o Q := by
  obtain ⟨a, e, h⟩ := h
  exact ⟨a, e, k a h⟩
theorem Ok.bd {α β : Type} {o : Option α} {f : α → Option β} {Q : α → Prop} {P : β → Prop} (h : Ok o Q) (k : ∀ a, Q a → Ok (f a) P) : Ok (bd o f) P := by
  obtain ⟨a, rfl, h⟩ := h
  exact k a h
theorem Ok.sw {α : Type} {c : Bool} {a b : Option α} {P : α → Prop} (ht : c = true → Ok a P) (hf : c = false → Ok b P) : Ok (sw c a b) P := by
  cases c
  · exact hf rfl
  · exact ht rfl
theorem Ok.gd {α : Type} {g : Prop} {a : Option α} {P : α → Prop} (h : g) (k : Ok a P) : Ok (gd g a) P := by
  rw [gdT h rfl]
  exact k
theorem Ok.so {σ β : Type} {o : Option (β ⊕ σ)} {f : σ → Option β} {Q : β ⊕ σ → Prop} {P : β → Prop} (h : Ok o Q) (k1 : ∀ x, Q (.inl x) → P x) (k2 : ∀ s, Q (.inr s) → Ok (f s) P) : Ok (so o f) P := by
  obtain ⟨a, rfl, h⟩ := h
  cases a with
  | inl x => exact ⟨x, rfl, k1 x h⟩
  | inr s => exact k2 s h
theorem Ok.lt {α β : Type} {x : α} {f : α → Option β} {P : β → Prop} (k : ∀ y, y = x → Ok (f y) P) : Ok (lt x f) P := k x rfl
theorem wrap_pred {n : Nat} (h : n ≤ 1000) : wrap64 (((n + 1 : Nat) : Int) - 1) = (n : Int) := by
  unfold wrap64 IntKind.wrap
  simp [IntKind.bits, IntKind.signed]
  omega
def PS {σ β : Type} (Q : β → Prop) (E : σ → Prop) : β ⊕ σ → Prop
  | .inl x => Q x
  | .inr s => E s
def PL {σ β : Type} (Q : β → Prop) (N E : σ → Prop) : LR σ β → Prop
  | .next s => N s
  | .brk s => E s
  | .ret x => Q x
theorem Ok.gdk {α : Type} {g : Prop} {a : Option α} {P : α → Prop} (h : g) (k : g → Ok a P) : Ok (Go.Proofs.YtmpepccpnnldoaaDoor.gd g a) P := Ok.gd h (k h)
theorem Ok.sok {σ β : Type} {o : Option (β ⊕ σ)} {f : σ → Option β} {P : β → Prop} {E : σ → Prop} (h : Ok o (PS P E)) (k : ∀ s, E s → Ok (f s) P) : Ok (Go.Proofs.YtmpepccpnnldoaaDoor.so o f) P := Ok.so h (fun _ hx => hx) k
theorem Ok.loopN {σ β : Type} {f : Nat → σ → Option (LR σ β)} {n : Nat} {Q : β → Prop} {E : σ → Prop} (I : Nat → σ → Prop) (hE : ∀ i s, n ≤ i → I i s → E s) (hs : ∀ i s, i < n → I i s → Ok (f i s) (PL Q (I (i + 1)) E)) :
    ∀ (k i : Nat) (s : σ), n - i = k → I i s → Ok (Go.Proofs.YtmpepccpnnldoaaDoor.loopN f (n - i) i s) (PS Q E)
  | 0, i, s, hk, hi => by rw [loopN_all (by omega)]; exact Ok.some (hE i s (by omega) hi)
  | k + 1, i, s, hk, hi => by
    have hlt : i < n := by omega
    obtain ⟨r, hr, hp⟩ := hs i s hlt hi
    cases r with
    | next s' => rw [loopN_step hlt hr]; exact Ok.loopN I hE hs k (i + 1) s' (by omega) hp
    | brk s' => rw [loopN_off hlt hr]; exact Ok.some hp
    | ret x => rw [loopN_out hlt hr]; exact Ok.some hp
theorem Ok.loopN0 {σ β : Type} {f : Nat → σ → Option (LR σ β)} {n i : Nat} {s : σ} {Q : β → Prop} {E : σ → Prop} (I : Nat → σ → Prop) (h0 : I i s) (hE : ∀ i s, n ≤ i → I i s → E s) (hs : ∀ i s, i < n → I i s → Ok (f i s) (PL Q (I (i + 1)) E)) : Ok (Go.Proofs.YtmpepccpnnldoaaDoor.loopN f (n - i) i s) (PS Q E) :=
  Ok.loopN I hE hs (n - i) i s rfl h0
end Go.Proofs.YtmpepccpnnldoaaDoor

namespace Go.Proofs.YtmpepccpnnldoaaDoor
set_option linter.unusedSimpArgs false
set_option linter.unusedVariables false
open Go.RowKit Go.WalkArith Go.IntWalk

mutual
/-- Its numbers are below 100. -/
def GEvidence.lt100 : GEvidence → Prop
  | .mk _ n (.mk p a) xs => n < 100 ∧ p < 100 ∧ a < 100 ∧ GEvidence.lts xs
def GEvidence.lts : List GEvidence → Prop
  | [] => True
  | e :: r => GEvidence.lt100 e ∧ GEvidence.lts r
end
theorem GEvidence.lts_append : ∀ {l r : List GEvidence}, GEvidence.lts l → GEvidence.lts r → GEvidence.lts (l ++ r)
  | [], _, _, h => h
  | _ :: _, _, h, k => ⟨h.1, GEvidence.lts_append h.2 k⟩
theorem GEvidence.lts_get : ∀ {l : List GEvidence}, GEvidence.lts l → ∀ x ∈ l, GEvidence.lt100 x
  | a :: l, h, x, hx => by
    rcases List.mem_cons.1 hx with rfl | hx
    · exact h.1
    · exact GEvidence.lts_get h.2 x hx
theorem evSmall_of : ∀ x : GEvidence, GEvidence.lt100 x → evSmall x := by
  refine GEvidence.ind fun v0 v1 v2 xs ih => ?_
  obtain ⟨p, t⟩ := v2
  intro ⟨l1, l2, l3, l4⟩ hv
  simp only [GEvidence.valid, Bool.and_eq_true] at hv
  obtain ⟨hv, hvs⟩ := hv
  refine ⟨?_, GEvidence.okIs_of fun x hx => ih x hx (GEvidence.lts_get l4 x hx) ?_⟩
  · split at hv
    · rename_i e
      simp only [Bool.and_eq_true, decide_eq_true_eq] at hv
      exact .inl ⟨e, ⟨hv.1.1.2, l2⟩, hv.1.2, l3⟩
    · split at hv
      · rename_i e
        simp only [Bool.and_eq_true, decide_eq_true_eq] at hv
        exact .inr (.inl ⟨.inl e, hv.1.1.1, l1⟩)
      · split at hv
        · rename_i e
          simp only [Bool.and_eq_true, decide_eq_true_eq] at hv
          exact .inr (.inl ⟨.inr e, hv.1.1.1, l1⟩)
        · split at hv
          · rename_i e
            exact .inr (.inr e)
          · simp at hv
  · rw [GEvidence.valids_any] at hvs
    simp only [Bool.not_eq_true', List.any_eq_false, Bool.not_eq_true] at hvs
    simpa using hvs _ hx
theorem ev_bulk (k n : Int) (r : GInstanceRef) (xs : List GEvidence) : Tr.bulkL (GEvidence.mk k n r xs).tr = xs.length + Tr.bulkAll (GEvidence.trs xs) := by
  obtain ⟨p, a⟩ := r
  simp only [GEvidence.tr, GInstanceRef.tr, Tr.bulkL_append, Tr.bulkL, Tr.bulk, GEvidence.trs_len]
  omega
theorem ev_eta (x : GEvidence) : GEvidence.mk x.gKind x.gN x.gAt x.gArgs = x := by cases x; rfl
theorem bulkAll_app : ∀ (a b : List (List Tr)), Tr.bulkAll (a ++ b) = Tr.bulkAll a + Tr.bulkAll b
  | [], b => by simp [Tr.bulkAll]
  | x :: a, b => by
    simp only [List.cons_append, Tr.bulkAll, bulkAll_app a b]
    omega
theorem ev_trs_app (a b : List GEvidence) : GEvidence.trs (a ++ b) = GEvidence.trs a ++ GEvidence.trs b := by simp [GEvidence.trs_map]
/-- Small: its numbers, and the memory that it takes. -/
def EvB (b : Nat) (x : GEvidence) : Prop := GEvidence.lt100 x ∧ Tr.bulkL x.tr ≤ b
theorem EvB.mono {b c : Nat} {x : GEvidence} (h : EvB b x) (hc : b ≤ c) : EvB c x := ⟨h.1, Nat.le_trans h.2 hc⟩
/-- A list of them: n at most, each of memory b at most. -/
def EvBs (n b : Nat) (l : List GEvidence) : Prop := GEvidence.lts l ∧ l.length ≤ n ∧ Tr.bulkAll (GEvidence.trs l) ≤ n * b
theorem EvBs.snoc {n b : Nat} {l : List GEvidence} {x : GEvidence} (h : EvBs n b l) (k : EvB b x) : EvBs (n + 1) b (l ++ [x]) := by
  refine ⟨GEvidence.lts_append h.1 ⟨k.1, trivial⟩, by have := h.2.1; simp; omega, ?_⟩
  rw [ev_trs_app, bulkAll_app]
  have h1 := h.2.2
  have h2 := k.2
  simp only [GEvidence.trs, Tr.bulkAll, Nat.add_zero]
  rw [Nat.succ_mul]
  omega
theorem EvB.mk {k n : Int} {p a : Int} {c m b : Nat} {l : List GEvidence} (h1 : n < 100) (h2 : p < 100) (h3 : a < 100) (h : EvBs m b l) (hc : m + m * b ≤ c) : EvB c (GEvidence.mk k n (GInstanceRef.mk p a) l) := by
  refine ⟨⟨h1, h2, h3, h.1⟩, ?_⟩
  rw [ev_bulk]
  have := h.2.1
  have := h.2.2
  omega
theorem EvBs.nil (n b : Nat) : EvBs n b [] := ⟨trivial, Nat.zero_le _, Nat.zero_le _⟩
theorem EvBs.mono {n k b : Nat} {l : List GEvidence} (h : EvBs n b l) (hk : n ≤ k) : EvBs k b l := ⟨h.1, Nat.le_trans h.2.1 hk, Nat.le_trans h.2.2 (Nat.mul_le_mul_right _ hk)⟩
theorem pow_step (m : Nat) : 2 ^ (m + 1 + 1) = 2 * 2 ^ (m + 1) ∧ 2 ≤ 2 ^ (m + 1) := by
  have h1 : 2 ^ (m + 1 + 1) = 2 * 2 ^ (m + 1) := by rw [Nat.pow_succ]; omega
  have h2 : 2 ^ (m + 1) = 2 ^ m * 2 := Nat.pow_succ ..
  have h3 := Nat.one_le_two_pow (n := m)
  omega
theorem ev_ok : ∀ (n fu : Nat) (pc : DS), n < fu → n ≤ 3 → Ok (sl24Ev_M fu pc (n : Int)) (fun r => EvB (2 ^ (n + 1) - 2) r.1)
  | n, 0, _, h, _ => absurd h (by omega)
  | n, fu + 1, pc, h, h3 => by
    simp only [sl24Ev_M]
    unfold sl24Ev_G
    refine Ok.lt fun d1 _ => ?_; refine Ok.so (Q := fun r => ∃ v : Int, r = .inr v ∧ (n = 0 → v = 1)) ?_ (fun x hx => by obtain ⟨v, hv, -⟩ := hx; cases hv) ?_
    · unfold sl24Ev_C1
      refine Ok.sw (fun _ => Ok.some ⟨1, rfl, fun _ => rfl⟩) (fun hc => Ok.some ⟨_, rfl, fun h0 => ?_⟩)
      subst h0
      simp at hc
    rintro v3 ⟨v, hv, h0⟩
    cases hv
    refine Ok.so (Q := fun r => ∃ v : Bool, r = .inr v ∧ (v = true → v3 ≠ 1)) ?_ (fun x hx => by obtain ⟨v, hv, -⟩ := hx; cases hv) ?_
    · unfold sl24Ev_C2
      refine Ok.sw (fun hc => Ok.some ⟨_, rfl, fun h => ?_⟩) (fun hc => Ok.some ⟨_, rfl, fun h => ?_⟩)
      · simp only [decide_eq_true_eq] at h
        omega
      · simp only [decide_eq_true_eq] at h
        omega
    rintro v5 ⟨v, hv, h5⟩
    cases hv
    have b1 := d1.below_lt (n := 2) (by decide)
    refine Ok.sw (fun hc => ?_) (fun _ => ?_)
    · have hn : n ≠ 0 := fun e => h5 hc (h0 e)
      obtain ⟨m, rfl⟩ := Nat.exists_eq_succ_of_ne_zero hn
      refine Ok.lt fun d8 _ => Ok.lt fun d10 _ => Ok.lt fun d12 _ => ?_
      have b8 := d8.below_lt (n := 8) (by decide)
      have b10 := d10.below_lt (n := 3) (by decide)
      refine Ok.sok (E := fun q : List GEvidence × DS => EvBs 2 (2 ^ (m + 1) - 2) q.1) ?_ ?_
      · unfold sl24Ev_R3
        refine Ok.loopN0 (fun i (q : List GEvidence × DS) => i ≤ d10.below 3 ∧ EvBs i (2 ^ (m + 1) - 2) q.1) ⟨Nat.zero_le _, EvBs.nil _ _⟩ ?_ ?_
        · rintro i ⟨l, d⟩ hi ⟨hi2, hI⟩
          exact hI.mono (by omega)
        · rintro i ⟨l, d⟩ hi ⟨hi2, hI⟩
          dsimp only at hI
          have hl := hI.2.1
          unfold sl24Ev_F3
          dsimp only
          rw [wrap_pred (by omega)]
          refine Ok.bd (ev_ok m fu d (by omega) (by omega)) ?_; rintro ⟨x, d'⟩ hx
          refine Ok.gdk (by simp only [List.length_cons, List.length_nil]; omega) (fun _ => Ok.some ?_)
          rw [ev_eta]
          exact ⟨by omega, hI.snoc hx⟩
      · rintro ⟨l, d⟩ hl
        refine Ok.some (EvB.mk (by decide) (by omega) (by omega) hl ?_)
        have := pow_step m
        omega
    refine Ok.sw (fun hc => ?_) (fun _ => ?_)
    · have hn : n ≠ 0 := fun e => by
        have := h0 e
        simp only [decide_eq_true_eq] at hc
        omega
      obtain ⟨m, rfl⟩ := Nat.exists_eq_succ_of_ne_zero hn
      refine Ok.lt fun d25 _ => ?_
      rw [wrap_pred (by omega)]
      refine Ok.bd (ev_ok m fu d25 (by omega) (by omega)) ?_; rintro ⟨x, d'⟩ hx
      dsimp only
      rw [ev_eta]
      refine Ok.some (EvB.mk (by omega) (by decide) (by decide) ((EvBs.nil 0 _).snoc hx) ?_)
      have := pow_step m
      show 1 + 1 * (2 ^ (m + 1) - 2) ≤ 2 ^ (m + 1 + 1) - 2
      omega
    have n0 : EvBs 0 0 ([] : List GEvidence) := EvBs.nil 0 0
    refine Ok.sw (fun _ => Ok.some (EvB.mk (by decide) (by decide) (by decide) n0 (by simp))) (fun _ => ?_)
    refine Ok.sw (fun _ => Ok.some (EvB.mk (by decide) (by decide) (by decide) n0 (by simp))) (fun _ => ?_)
    refine Ok.lt fun d32 _ => ?_
    have b3 := d1.below_lt (n := 3) (by decide)
    exact Ok.some (EvB.mk (by omega) (by decide) (by decide) n0 (by simp))
theorem pickInt_ok (fu : Nat) (pc : DS) (l : List Int) (hl : 0 < l.length) (hs : ∀ v ∈ l, v < 100) : Ok (sl1PickInt_M fu pc l) (fun r => r.1 < 100) := by
  unfold sl1PickInt_M
  refine Ok.lt fun d1 _ => Ok.gdk (pc.below_lt hl) (fun h => Ok.some ?_)
  show atD l (pc.below l.length) < 100
  rw [atD_eq h]
  exact hs _ (List.getElem_mem h)
theorem bent_ok (fu : Nat) (pc : DS) (hf : 4 ≤ fu) : Ok (sl24Bent_M fu pc) (fun r => EvB 100 r.1) := by
  unfold sl24Bent_M
  refine Ok.bd (ev_ok 3 fu pc (by omega) (by omega)) ?_; rintro ⟨⟨k, n, ⟨p, a⟩, xs⟩, x3⟩ ⟨⟨l1, l2, l3, l4⟩, hb⟩
  rw [ev_bulk] at hb
  have hx : EvBs 14 14 xs := ⟨l4, by omega, by omega⟩
  have fin : ∀ (k' n' p' : Int) (d : DS), n' < 100 → p' < 100 → Ok (Option.some (GEvidence.mk k' n' (GInstanceRef.mk p' a) xs, d)) (fun r => EvB 100 r.1) := fun k' n' p' d h1 h2 => Ok.some ⟨⟨h1, h2, l3, l4⟩, by rw [ev_bulk]; omega⟩
  refine Ok.lt fun d4 _ => ?_; refine Ok.sw (fun _ => Ok.lt fun d7 _ => fin _ _ _ _ l1 l2) (fun _ => ?_)
  refine Ok.sw (fun _ => ?_) (fun _ => ?_)
  · refine Ok.bd (pickInt_ok fu d4 _ (by decide) (by decide)) ?_; rintro ⟨v, d⟩ hv
    exact fin _ _ _ _ hv l2
  refine Ok.sw (fun _ => ?_) (fun _ => ?_)
  · refine Ok.bd (pickInt_ok fu d4 _ (by decide) (by decide)) ?_; rintro ⟨v, d⟩ hv
    exact fin _ _ _ _ l1 hv
  refine Ok.sw (fun _ => ?_) (fun _ => fin _ _ _ _ l1 l2)
  refine Ok.sok (E := fun q : List GEvidence => GEvidence.lts q ∧ q.length ≤ 18 ∧ Tr.bulkAll (GEvidence.trs q) ≤ 14) ?_ ?_
  · unfold sl24Bent_R1
    refine Ok.loopN0 (fun i (q : List GEvidence) => i ≤ 4 ∧ GEvidence.lts q ∧ q.length ≤ 14 + i ∧ Tr.bulkAll (GEvidence.trs q) ≤ 14) ⟨by omega, l4, by show xs.length ≤ _; omega, by show Tr.bulkAll (GEvidence.trs xs) ≤ _; omega⟩ ?_ ?_
    · rintro i q hi ⟨hi2, h1, h2, h3⟩
      exact ⟨h1, by omega, h3⟩
    · rintro i q hi ⟨hi2, h1, h2, h3⟩
      unfold sl24Bent_F1
      refine Ok.gdk (by simp only [List.length_cons, List.length_nil]; omega) (fun _ => Ok.some ?_)
      refine ⟨by omega, GEvidence.lts_append h1 ⟨⟨by decide, by decide, by decide, trivial⟩, trivial⟩, by simp; omega, ?_⟩
      rw [ev_trs_app, bulkAll_app]
      simp only [GEvidence.trs, Tr.bulkAll, ev_bulk, List.length_nil]
      omega
  · rintro q ⟨h1, h2, h3⟩
    refine Ok.some ⟨⟨l1, l2, l3, h1⟩, ?_⟩
    rw [ev_bulk]
    omega
theorem draw_ok (fu : Nat) (pc : List UInt8) (hf : 4 ≤ fu) (hc : pc.length ≤ 1048576) : Ok (sDrawApplySupertraits_M fu pc) (fun r => EvB 100 r.1 ∧ (∀ s ∈ r.2, (0 : Int) ≤ s) ∧ r.2.length ≤ 3) := by
  unfold sDrawApplySupertraits_M
  refine Ok.gdk hc (fun _ => Ok.bd (bent_ok fu _ hf) ?_)
  rintro ⟨x, d⟩ hx
  refine Ok.lt fun d5 _ => Ok.lt fun d7 _ => Ok.lt fun d9 _ => ?_
  have b := d7.below_lt (n := 4) (by decide)
  refine Ok.gdk (by simp only [List.length_cons, List.length_nil]; omega) (fun _ => Ok.some ⟨hx, fun s hs => ?_, ?_⟩)
  · have h1 := List.mem_of_mem_take (List.mem_of_mem_drop hs)
    simp only [List.mem_cons, List.not_mem_nil, or_false] at h1
    omega
  · simp only [List.length_drop, List.length_take, List.length_cons, List.length_nil]
    omega
/- What a run of steps makes of evidence. -/
theorem lift_cons (x : GEvidence) (n : Int) (l : List Int) : GEvidence.lift x (n :: l) = GEvidence.lift (liftStep x n) l := rfl
theorem lift_size : ∀ (l : List Int) (x : GEvidence), GEvidence.size (GEvidence.lift x l) = GEvidence.size x + l.length
  | [], x => rfl
  | n :: l, x => by
    rw [lift_cons, lift_size l]
    simp only [liftStep, GEvidence.size, GEvidence.sizes, List.length_cons]
    omega
theorem lift_bulk : ∀ (l : List Int) (x : GEvidence), Tr.bulkL (GEvidence.lift x l).tr = Tr.bulkL x.tr + l.length
  | [], x => rfl
  | n :: l, x => by
    rw [lift_cons, lift_bulk l, liftStep, ev_bulk]
    simp only [GEvidence.trs, Tr.bulkAll, List.length_cons, List.length_nil]
    omega
theorem lift_valid : ∀ (l : List Int) (x : GEvidence), (∀ s ∈ l, (0 : Int) ≤ s) → GEvidence.valid (GEvidence.lift x l) = GEvidence.valid x
  | [], x, _ => rfl
  | n :: l, x, h => by
    rw [lift_cons, lift_valid l _ fun s hs => h s (by simp [hs])]
    have h0 := h n (by simp)
    simp [liftStep, GEvidence.valid, GEvidence.valids, h0]
theorem lift_depth : ∀ (l : List Int) (x : GEvidence), GEvidence.depth x ≤ GEvidence.depth (GEvidence.lift x l)
  | [], x => Nat.le_refl _
  | n :: l, x => by
    rw [lift_cons]
    have h1 := lift_depth l (liftStep x n)
    have h2 : GEvidence.depth x ≤ GEvidence.depth (liftStep x n) := by
      simp only [liftStep, GEvidence.depth, GEvidence.depths]
      omega
    omega
theorem ev_eq_refl : ∀ x : GEvidence, GEvidence.eq x x = true := by
  refine GEvidence.ind fun v0 v1 v2 xs ih => ?_
  obtain ⟨p, t⟩ := v2
  have h : GEvidence.eqs xs xs = true := by
    clear v0 v1 p t
    induction xs with
    | nil => rfl
    | cons a l ihl => rw [GEvidence.eqs, ih a (by simp), ihl fun x hx => ih x (by simp [hx])]; rfl
  simp [GEvidence.eq, GRef_eq, h]
theorem evText_ok (code : List UInt8) : ∃ fu, lFnEvText_M fu code = some true := by
  refine ⟨4, ?_⟩
  suffices h : Ok (lFnEvText_M 4 code) (fun r => r = true) by
    obtain ⟨r, h1, h2⟩ := h
    rw [h1, h2]
  unfold lFnEvText_M lbig_M
  refine Ok.bd (Ok.some rfl) ?_; rintro x rfl
  refine Ok.sw (fun _ => Ok.some rfl) (fun hc => ?_)
  have hlen : code.length ≤ 1048576 := by simp only [decide_eq_false_iff_not] at hc; omega
  refine Ok.bd (draw_ok 4 code (by decide) hlen) ?_; rintro ⟨x, l⟩ ⟨hx, hl, hn⟩
  dsimp only at hx hl hn
  have hb := hx.2
  have hz := GEvidence.size_bulk x
  refine Ok.gdk (by omega) (fun _ => ?_)
  rw [ev_eq_refl, lift_size, lift_valid l x hl]
  refine Ok.sw (fun h => by simp at h) (fun _ => Ok.gdk (evSmall_of x hx.1) (fun _ => ?_))
  refine Ok.sw (fun h => by simp at h) (fun _ => Ok.gdk (by rw [lift_bulk]; omega) (fun _ => ?_))
  have hw : wrap64 (((GEvidence.size x : Nat) : Int) + ((l.length : Nat) : Int)) = ((GEvidence.size x + l.length : Nat) : Int) := by rw [wrap_fine (by omega) (by omega)]; omega
  rw [hw]
  refine Ok.sw (fun _ => Ok.sw (fun _ => Ok.sw (fun _ => Ok.some ?_) (fun h => by simp at h)) (fun h => by simp at h)) (fun h => by simp at h)
  have := lift_depth l x
  simp only [ge_iff_le, decide_eq_true_eq]
  omega
theorem evText_fn (code : List UInt8) : AFun Tryd.prog 4 [rU code] (pB true) := by
  obtain ⟨fu, e⟩ := evText_ok code
  exact lFnEvText_ok fu code true e
end Go.Proofs.YtmpepccpnnldoaaDoor
