/- ApplySupertraits, on both sides: what it returns has memory of its own. Conditions: sizes below 2^40. -/
import Derived.Test.YtoifjkggpanceaaCopyEv
import Derived.Test.YtoifjkggpanceaaFoc
namespace Go.Proofs.Ytoifjkggpanceaa
open Go.RowKit Go.Proofs

/-- A slice of one struct that has just been made, its memory its own. -/
theorem Own.single {w : World} {e : List Tr} {cs : List Value} {B : Nat} {E : TypeId} {sz cap : Nat} {T : Nat → Prop} (h : OwnL w e cs T) (hB : OB w B E ⟨cs⟩) (hn : ¬ T B) (hc : 1 ≤ cap) (hm : cap ≤ maxLen) : Own w (.row sz [e]) (.slice (some ⟨B, 0, none⟩) 1 cap) (fun b => T b ∨ b = B) := by
  obtain ⟨hl, U, u1, u2, u3⟩ := h
  refine Own.row (es := [e]) (fun _ j => (cs[j]?).getD undef) (fun _ j => U j) hc hm ?_ ?_ ?_ ?_
  · intro _
    refine ⟨B, 0, E, ⟨cs⟩, rfl, hB, .inr rfl, ?_⟩
    intro i e' he j d hd
    cases i with
    | zero =>
      simp at he; subst he
      obtain ⟨v, hv, -⟩ := u1 j d hd
      refine ⟨by simp [hv], fun x hx => ?_⟩
      rintro rfl
      exact hn (u2 j d hd _ hx)
    | succ i => simp at he
  · intro i e' he j d hd
    cases i with
    | zero =>
      simp at he; subst he
      obtain ⟨v, hv, ho⟩ := u1 j d hd
      simpa [hv] using ho
    | succ i => simp at he
  · intro i e' he j d hd x hx
    cases i with
    | zero => simp at he; subst he; exact .inl (u2 j d hd x hx)
    | succ i => simp at he
  · intro i e' he j d hd i' e2 he2 j' d' hd' hne x hx hx'
    cases i with
    | zero =>
      cases i' with
      | zero => simp at he he2; subst he he2; exact u3 j d hd j' d' hd' (hne rfl) x hx hx'
      | succ i' => simp at he2
    | succ i => simp at he

def liftStep (out : GEvidence) (n : Int) : GEvidence := .mk 3 n (.mk 0 0) [out]
def GEvidence.lift (x : GEvidence) (steps : List Int) : GEvidence := steps.foldl liftStep x
theorem lift_take {x : GEvidence} {l : List Int} {k : Nat} (h : k < l.length) : GEvidence.lift x (l.take (k + 1)) = liftStep (GEvidence.lift x (l.take k)) l[k] := by
  unfold GEvidence.lift
  rw [List.take_succ_eq_append_getElem h, List.foldl_append]
  rfl
theorem liftStep_tr (x : GEvidence) (n : Int) : (liftStep x n).tr = [.leaf (.int .i64 3), .leaf (.int .i64 n), .leaf (.int .i64 0), .leaf (.int .i64 0), .row 5 [x.tr]] := by
  simp [liftStep, GEvidence.tr, GInstanceRef.tr, GEvidence.trs]

set_option maxRecDepth 100000 in
set_option maxHeartbeats 2000000 in
theorem apply_impl (x : GEvidence) (steps : List Int) (cs : List Value) (v : Value) (w : World) (hr : RepL w x.tr cs) (hs : Rep w (.row 1 (intTrs steps)) v) (hbk : Tr.bulkL x.tr ≤ 68719476736) :
    Calls Try.prog 27 #[.agg ⟨cs⟩, v] w fun e w' => ∃ cs', e = .returned (.agg ⟨cs'⟩) ∧ Ext w w' ∧ OwnL w' (GEvidence.lift x steps).tr cs' (Between w w') := by
  obtain ⟨a, c, rfl, hl, hm⟩ := hs.shape
  rw [intTrs_len] at *
  unfold maxLen at hm
  have HS := Lib.hid hs
  have HR := Lib.hid hr
  have HCL : Hid (cs.length = 5) := hr.length.symm.trans (GEvidence.tr_len x)
  have HI : Hid ((Try.prog.info? 50).map (·.size) = some cs.length) := by rw [HCL.out]; exact isz50
  clear hr hs
  go_enter Try.func27, Try.ntmps27
  go_wp2_with (refine wpList_load_rep rfl 50 (.tmp 2) rfl w.heap.size 0 rfl cs _ Try.underlying50 HI.out (OB.cells0 ((OB.new w _ _).ext (.alloc (.refl _) _))) ?_)
  refine (copyEvidence_impl x cs _ (HR.out.ext (.alloc (.alloc (.refl _) _) _)) hbk).mono ?_
  rintro e w1 ⟨cs1, rfl, hw1, ho1⟩
  have HCL1 : Hid (cs1.length = 5) := ho1.1.trans (GEvidence.tr_len x)
  have HI1 : Hid ((Try.prog.info? 50).map (·.size) = some cs1.length) := by rw [HCL1.out]; exact isz50
  have h2w := (Two.new w 50 50 ⟨cs⟩ #[.int .i64 0, .int .i64 0, .int .i64 0, .int .i64 0, .slice none 0 0]).ext hw1
  have hzz : w.heap.size + 1 < w1.heap.size := h2w.o1.lt
  have HB4 := Lib.hid h2w.o1
  have HW1 : Hid (Ext w w1) := Ext.trans (.alloc (.alloc (.refl _) _) _) hw1
  have HO1 : Hid (OwnL w1 x.tr cs1 (fun b => w.heap.size + 2 ≤ b ∧ b < w1.heap.size)) := ho1.mono fun b hb => by have h1 := hb.1; have h2 := hb.2; simp only [World.size_alloc] at h1; exact ⟨by omega, h2⟩
  clear h2w hw1 ho1
  go_wp2_with (refine wpList_store_rep rfl 50 (.tmp 5) (.tmp 9) rfl w1.heap.size 0 rfl cs1 rfl 50 _ (OB.new w1 _ _) HI1.out (by rw [HCL1.out]; exact Nat.le_refl _) HO1.out.rep.one ?_; intro w2 hob hg hz; rw [splice_whole (by rw [HCL1.out]; rfl)] at hob; have HOB := Lib.hid hob; have HX2 := Lib.hid (grown_ext (.alloc (.refl w1) _) hg (Nat.le_refl _)); have hz2 : w1.heap.size < w2.heap.size := hob.lt; clear hob hg hz)
  go_loopw [12] (fun i wr => ∃ (k : Nat) (cs' : List Value), k ≤ steps.length ∧ i = .int .i64 k ∧ Hid (cs'.length = 5) ∧ Hid (Ext w wr) ∧ w1.heap.size < wr.heap.size ∧ Hid (OB wr w1.heap.size 50 ⟨cs'⟩) ∧ Hid (OB wr (w.heap.size + 1) 50 #[.int .i64 0, .int .i64 0, .int .i64 0, .int .i64 0, .slice none 0 0]) ∧ Hid (OwnL wr (GEvidence.lift x (steps.take k)).tr cs' (fun b => w.heap.size + 2 ≤ b ∧ b ≠ w1.heap.size ∧ b < wr.heap.size))) (fun i _ => steps.length - (intOf i).toNat)
  case atStart => exact ⟨0, cs1, Nat.zero_le _, rfl, HCL1.out, HW1.out.trans HX2.out, hz2, HOB.out, HB4.out.ext HX2.out, (HO1.out.ext HX2.out).mono fun b hb => ⟨hb.1, by have := hb.2; omega, by have := hb.2; omega⟩⟩
  case round =>
    obtain ⟨k, cs', hk, rfl, HL', HW, hzr, HOB', HB', HO'⟩ := hrel
    by_cases hlt : k < steps.length
    · obtain ⟨b, off, rfl, hb, hwf, hcell⟩ := (HS.out.ext HW.out).int hlt
      have HLT := Lib.hid (lift_take (x := x) hlt)
      have HWF := Lib.hid hwf
      obtain ⟨d0, d1, d2, d3, d4, rfl⟩ := list5 HL'.out
      clear hwf
      generalize steps[k] = z at *
      have hone : Hid (∀ v ∈ ([.int .i64 3, .int .i64 z, .int .i64 0, .int .i64 0, .slice (some ⟨wr.heap.size, 0, none⟩) 1 1] : List Value), v.oneCell' = true) := by
        intro v hv
        simp only [List.mem_cons, List.not_mem_nil, or_false] at hv
        rcases hv with rfl | rfl | rfl | rfl | rfl <;> rfl
      go_wp2_with (first
        | (refine wpList_load_rep rfl 50 (.tmp 5) rfl w1.heap.size 0 rfl [d0, d1, d2, d3, d4] _ Try.underlying50 isz50 (OB.cells0 HOB'.out) ?_)
        | (refine wpList_store_rep rfl 50 (.tmp 5) (.tmp 19) rfl w1.heap.size 0 rfl [.int .i64 3, .int .i64 z, .int .i64 0, .int .i64 0, .slice (some ⟨wr.heap.size, 0, none⟩) 1 1] rfl 50 _ (HOB'.out.ext (.alloc (.refl wr) (.cells #[d0, d1, d2, d3, d4] 50))) isz50 (by simp) hone.out ?_; intro w3 hob hg hz; have HOB3 := Lib.hid (show OB w3 w1.heap.size 50 ⟨[.int .i64 3, .int .i64 z, .int .i64 0, .int .i64 0, .slice (some ⟨wr.heap.size, 0, none⟩) 1 1]⟩ from hob); have HG3 := Lib.hid hg; have HZ3 := Lib.hid hz; clear hob hg hz))
      go_roundw
      case rel =>
        have hz3 := HZ3.out
        simp only [World.size_alloc] at hz3
        refine ⟨k + 1, [.int .i64 3, .int .i64 z, .int .i64 0, .int .i64 0, .slice (some ⟨wr.heap.size, 0, none⟩) 1 1], by omega, by go_num, by rfl, grown_ext (HW.out.trans (.alloc (.refl _) _)) HG3.out (by omega), by omega, HOB3.out, (HB'.out.ext (.alloc (.refl _) _)).grown HG3.out (by omega), ?_⟩
        show OwnL _ _ _ _
        rw [HLT.out, liftStep_tr]
        have h1 := Own.single (sz := 5) (cap := 1) (HO'.out.ext (.alloc (.refl wr) (.cells #[d0, d1, d2, d3, d4] 50))) (OB.new wr _ _) (fun h => by have := h.2.2; omega) (Nat.le_refl _) (by unfold maxLen; omega)
        have h2 := h1.keep (w' := w3) fun b' hb' hbl => HG3.out.block b' hbl (by
          intro h
          injection h with h
          rcases hb' with h3 | h3
          · exact h3.2.1 h
          · omega)
        refine (OwnL.cons_leaf (v := .int .i64 3) (WalkArith.wf_i64 (by omega)) (OwnL.cons_leaf (v := .int .i64 z) HWF.out (OwnL.cons_leaf (v := .int .i64 0) (WalkArith.wf_i64 (by omega)) (OwnL.cons_leaf (v := .int .i64 0) (WalkArith.wf_i64 (by omega)) (OwnL.one h2))))).mono fun b' hb' => ?_
        rcases hb' with h3 | h3
        · exact ⟨h3.1, h3.2.1, by have := h3.2.2; omega⟩
        · exact ⟨by omega, by omega, by omega⟩
      case measure => simp [intOf]; omega
    · have hkl : k = steps.length := by omega
      have HI' : Hid ((Try.prog.info? 50).map (·.size) = some cs'.length) := by rw [HL'.out]; exact isz50
      go_wp2_with (first
        | (refine wpList_load_rep rfl 50 (.tmp 5) rfl w1.heap.size 0 rfl cs' _ Try.underlying50 HI'.out (OB.cells0 HOB'.out) ?_)
        | (refine wpList_store_rep rfl 50 (.tmp 4) (.tmp 21) rfl (w.heap.size + 1) 0 rfl cs' rfl 50 _ HB'.out HI'.out (by rw [HL'.out]; exact Nat.le_refl _) HO'.out.rep.one ?_; intro w3 hob hg hz; rw [splice_whole (by rw [HL'.out]; rfl)] at hob; have HOB3 := Lib.hid hob; have HG3 := Lib.hid hg; clear hob hg hz))
      have hx3 : Ext w w3 := grown_ext HW.out HG3.out (by omega)
      refine bodyPost_ret (results_cell_row Try.results27 _ _ (w.heap.size + 1) 50 ⟨cs'⟩ _ _ rfl HOB3.out Try.underlying50 rfl HI'.out) rfl ⟨cs', rfl, hx3, ?_⟩
      have h5 := HO'.out
      rw [hkl, List.take_length] at h5
      refine (h5.keep fun b' hb' hbl => HG3.out.block b' hbl (by intro h; injection h with h; have := hb'.1; omega)).mono fun b' hb' => ⟨by have := hb'.1; omega, Nat.lt_of_lt_of_le hb'.2.2 HG3.out.size⟩

set_option maxRecDepth 100000 in
set_option maxHeartbeats 2000000 in
theorem apply_spec (x : GEvidence) (steps : List Int) (cs : List Value) (v : Value) (w : World) (hr : RepL w x.tr cs) (hs : Rep w (.row 1 (intTrs steps)) v) (hbk : Tr.bulkL x.tr ≤ 68719476736) :
    Calls Try.prog 24 #[.agg ⟨cs⟩, v] w fun e w' => ∃ cs', e = .returned (.agg ⟨cs'⟩) ∧ Ext w w' ∧ OwnL w' (GEvidence.lift x steps).tr cs' (Between w w') := by
  obtain ⟨a, c, rfl, hl, hm⟩ := hs.shape
  rw [intTrs_len] at *
  unfold maxLen at hm
  have HS := Lib.hid hs
  have HR := Lib.hid hr
  have HCL : Hid (cs.length = 5) := hr.length.symm.trans (GEvidence.tr_len x)
  have HI : Hid ((Try.prog.info? 50).map (·.size) = some cs.length) := by rw [HCL.out]; exact isz50
  clear hr hs
  go_enter Try.func24, Try.ntmps24
  go_wp2_with (refine wpList_load_rep rfl 50 (.tmp 2) rfl w.heap.size 0 rfl cs _ Try.underlying50 HI.out (OB.cells0 ((OB.new w _ _).ext (.alloc (.refl _) _))) ?_)
  refine (copyEvidence_spec x cs _ (HR.out.ext (.alloc (.alloc (.refl _) _) _)) hbk).mono ?_
  rintro e w1 ⟨cs1, rfl, hw1, ho1⟩
  have HCL1 : Hid (cs1.length = 5) := ho1.1.trans (GEvidence.tr_len x)
  have HI1 : Hid ((Try.prog.info? 50).map (·.size) = some cs1.length) := by rw [HCL1.out]; exact isz50
  have h2w := (Two.new w 50 50 ⟨cs⟩ #[.int .i64 0, .int .i64 0, .int .i64 0, .int .i64 0, .slice none 0 0]).ext hw1
  have hzz : w.heap.size + 1 < w1.heap.size := h2w.o1.lt
  have HB4 := Lib.hid h2w.o1
  have HW1 : Hid (Ext w w1) := Ext.trans (.alloc (.alloc (.refl _) _) _) hw1
  have HO1 : Hid (OwnL w1 x.tr cs1 (fun b => w.heap.size + 2 ≤ b ∧ b < w1.heap.size)) := ho1.mono fun b hb => by have h1 := hb.1; have h2 := hb.2; simp only [World.size_alloc] at h1; exact ⟨by omega, h2⟩
  clear h2w hw1 ho1
  go_wp2_with (refine wpList_store_rep rfl 50 (.tmp 5) (.tmp 8) rfl w1.heap.size 0 rfl cs1 rfl 50 _ (OB.new w1 _ _) HI1.out (by rw [HCL1.out]; exact Nat.le_refl _) HO1.out.rep.one ?_; intro w2 hob hg hz; rw [splice_whole (by rw [HCL1.out]; rfl)] at hob; have HOB := Lib.hid hob; have HX2 := Lib.hid (grown_ext (.alloc (.refl w1) _) hg (Nat.le_refl _)); have hz2 : w1.heap.size < w2.heap.size := hob.lt; clear hob hg hz)
  go_loopw [6] (fun i wr => ∃ (k : Nat) (cs' : List Value), k ≤ steps.length ∧ i = .int .i64 k ∧ Hid (cs'.length = 5) ∧ Hid (Ext w wr) ∧ w1.heap.size < wr.heap.size ∧ Hid (OB wr w1.heap.size 50 ⟨cs'⟩) ∧ Hid (OB wr (w.heap.size + 1) 50 #[.int .i64 0, .int .i64 0, .int .i64 0, .int .i64 0, .slice none 0 0]) ∧ Hid (OwnL wr (GEvidence.lift x (steps.take k)).tr cs' (fun b => w.heap.size + 2 ≤ b ∧ b ≠ w1.heap.size ∧ b < wr.heap.size))) (fun i _ => steps.length - (intOf i).toNat)
  case atStart => exact ⟨0, cs1, Nat.zero_le _, rfl, HCL1.out, HW1.out.trans HX2.out, hz2, HOB.out, HB4.out.ext HX2.out, (HO1.out.ext HX2.out).mono fun b hb => ⟨hb.1, by have := hb.2; omega, by have := hb.2; omega⟩⟩
  case round =>
    obtain ⟨k, cs', hk, rfl, HL', HW, hzr, HOB', HB', HO'⟩ := hrel
    by_cases hlt : k < steps.length
    · obtain ⟨b0, off0, rfl, hb, hwf, hcell⟩ := HS.out.int hlt
      have hki := hlt
      have HLT := Lib.hid (lift_take (x := x) hlt)
      have HWF := Lib.hid hwf
      obtain ⟨d0, d1, d2, d3, d4, rfl⟩ := list5 HL'.out
      have HC0 : Hid (∀ W, Ext w W → W.cell? ⟨b0, off0 + k * 1, none⟩ = some (.int .i64 steps[k])) := fun W hW => by rw [Nat.mul_one]; exact (hW.cell (p := ⟨b0, off0 + k, none⟩) hb).trans hcell
      clear hwf hcell
      generalize steps[k] = z at *
      have hone : Hid (∀ v ∈ ([.int .i64 3, .int .i64 z, .int .i64 0, .int .i64 0, .slice (some ⟨wr.heap.size, 0, none⟩) 1 1] : List Value), v.oneCell' = true) := by
        intro v hv
        simp only [List.mem_cons, List.not_mem_nil, or_false] at hv
        rcases hv with rfl | rfl | rfl | rfl | rfl <;> rfl
      have ki : (k : Int) < (steps.length : Int) := by omega
      have k0 : (0 : Int) ≤ (k : Int) := by omega
      go_wp2_with fail
      refine wp_region_held_drew (S := Ext w) (by kernel_rfl) ?_ (fun hHeld => ?_)
      · exact .drew HW.out
      refine wpAnyH_take (i := 0) rfl (by kernel_rfl) (by kernel_rfl) (by kernel_rfl) (fun _ _ _ h => h) (.inl ⟨rfl, fun _ _ => rfl⟩) (by assumption) ?_
      simp only [Act.put, List.getElem_toArray, List.getElem_cons_zero, List.setIfInBounds_toArray, List.set_cons_zero, List.set_cons_succ]
      refine wpAnyH_take (i := 1) rfl (by kernel_rfl) (by kernel_rfl) (by kernel_rfl) (fun _ _ _ h => h) (.inl ⟨rfl, fun _ _ => rfl⟩) (by assumption) ?_
      simp only [Act.put, List.getElem_toArray, List.getElem_cons_zero, List.getElem_cons_succ, List.setIfInBounds_toArray, List.set_cons_zero, List.set_cons_succ]
      refine wpAnyH_index (i := 2) rfl (by kernel_rfl) (by kernel_rfl) (by kernel_rfl) rfl 45 (.tmp 15) (.tmp 16) rfl (b0) (off0) (steps.length) (c) (k) (1) rfl rfl (hki) Try.underlying45 (by kernel_rfl) (by assumption) (fun _ _ _ _ h => h) ?_
      simp only [Act.put, List.getElem_toArray, List.getElem_cons_zero, List.getElem_cons_succ, List.setIfInBounds_toArray, List.set_cons_zero, List.set_cons_succ]
      refine wpAnyH_cell (i := 3) rfl (by kernel_rfl) (by kernel_rfl) (by kernel_rfl) rfl 3 (.tmp 17) rfl (b0) (off0 + k * 1) rfl (.int .i64 z) _ Try.underlying3 rfl (fun W hW => HC0.out W hW) (by assumption) (fun _ _ _ _ h => h) ?_
      simp only [Act.put, List.getElem_toArray, List.getElem_cons_zero, List.getElem_cons_succ, List.setIfInBounds_toArray, List.set_cons_zero, List.set_cons_succ]
      refine wpAnyH_run (i := 4) (v := .agg ⟨[d0, d1, d2, d3, d4]⟩) (w' := wr.drew) (by kernel_rfl) rfl rfl (run_op_load_rep 50 (.tmp 5) rfl w1.heap.size 0 rfl [d0, d1, d2, d3, d4] _ Try.underlying50 isz50 (OB.cells0 (HOB'.out.ext (.drew (.refl _))))) hHeld ?_
      simp only [Act.put, List.getElem_toArray, List.getElem_cons_zero, List.getElem_cons_succ, List.setIfInBounds_toArray, List.set_cons_zero, List.set_cons_succ]
      have hs1 := hHeld.trans (.alloc (.refl _) (.cells #[d0, d1, d2, d3, d4] 50))
      refine wpAnyH_run (i := 5) (v := .slice (some ⟨wr.heap.size, 0, none⟩) 1 1) (w' := wr.drew.alloc (.cells #[d0, d1, d2, d3, d4] 50)) (by kernel_rfl) rfl rfl (by simp [execOp, go_sem]) hs1 ?_
      simp only [Act.put, List.getElem_toArray, List.getElem_cons_zero, List.getElem_cons_succ, List.setIfInBounds_toArray, List.set_cons_zero, List.set_cons_succ]
      refine wpAnyH_take (i := 6) (v := .agg ⟨[.int .i64 3, .int .i64 z, .int .i64 0, .int .i64 0, .slice (some ⟨wr.heap.size, 0, none⟩) 1 1]⟩) rfl (by kernel_rfl) (by kernel_rfl) (by kernel_rfl) (fun _ _ _ h => h) (.inl ⟨rfl, fun _ _ => by simp [execOp, go_sem]⟩) (by assumption) ?_
      simp only [Act.put, List.getElem_toArray, List.getElem_cons_zero, List.getElem_cons_succ, List.setIfInBounds_toArray, List.set_cons_zero, List.set_cons_succ]
      refine wpAnyH_store_rep (i := 7) (by kernel_rfl) rfl rfl 50 (.tmp 5) (.tmp 21) rfl (w1.heap.size) (0) rfl ([.int .i64 3, .int .i64 z, .int .i64 0, .int .i64 0, .slice (some ⟨wr.heap.size, 0, none⟩) 1 1]) rfl 50 _ ((HOB'.out.ext (.drew (.refl wr))).ext (.alloc (.refl _) (.cells #[d0, d1, d2, d3, d4] 50))) isz50 (by simp) (hone.out) ?_
      intro w3 hob hgb hzb
      have hs2 := grown_ext hs1 hgb (by omega)
      refine ⟨hs2, ?_⟩
      have HOB3 := Lib.hid (show OB w3 w1.heap.size 50 ⟨[.int .i64 3, .int .i64 z, .int .i64 0, .int .i64 0, .slice (some ⟨wr.heap.size, 0, none⟩) 1 1]⟩ from hob)
      have HG3 := Lib.hid hgb
      have HZ3 := Lib.hid hzb
      clear hob hgb hzb
      simp only [Act.put, List.getElem_toArray, List.getElem_cons_zero, List.getElem_cons_succ, List.setIfInBounds_toArray, List.set_cons_zero, List.set_cons_succ]
      refine wpAnyH_done (by kernel_rfl) ?_ _
      clear hHeld hs1
      go_wp2_with fail
      go_roundw
      case rel =>
        have hz3 := HZ3.out
        have hzd : wr.drew.heap.size = wr.heap.size := rfl
        simp only [World.size_alloc, hzd] at hz3
        refine ⟨k + 1, [.int .i64 3, .int .i64 z, .int .i64 0, .int .i64 0, .slice (some ⟨wr.heap.size, 0, none⟩) 1 1], by omega, by go_num, by rfl, grown_ext (HW.out.trans (.alloc (.drew (.refl _)) _)) HG3.out (by omega), by omega, HOB3.out, (HB'.out.ext (.alloc (.drew (.refl _)) _)).grown HG3.out (by omega), ?_⟩
        show OwnL _ _ _ _
        rw [HLT.out, liftStep_tr]
        have h1 := Own.single (sz := 5) (cap := 1) (HO'.out.ext (.alloc (.drew (.refl wr)) (.cells #[d0, d1, d2, d3, d4] 50))) (OB.new wr.drew _ _) (fun h => by have := h.2.2; omega) (Nat.le_refl _) (by unfold maxLen; omega)
        have h2 := h1.keep (w' := w3) fun b' hb' hbl => HG3.out.block b' hbl (by
          intro h
          injection h with h
          rcases hb' with h3 | h3
          · exact h3.2.1 h
          · omega)
        refine (OwnL.cons_leaf (v := .int .i64 3) (WalkArith.wf_i64 (by omega)) (OwnL.cons_leaf (v := .int .i64 z) HWF.out (OwnL.cons_leaf (v := .int .i64 0) (WalkArith.wf_i64 (by omega)) (OwnL.cons_leaf (v := .int .i64 0) (WalkArith.wf_i64 (by omega)) (OwnL.one h2))))).mono fun b' hb' => ?_
        rcases hb' with h3 | h3
        · exact ⟨h3.1, h3.2.1, by have := h3.2.2; omega⟩
        · exact ⟨by omega, by omega, by omega⟩
      case measure => simp [intOf]; omega
    · have hkl : k = steps.length := by omega
      have HI' : Hid ((Try.prog.info? 50).map (·.size) = some cs'.length) := by rw [HL'.out]; exact isz50
      go_wp2_with (first
        | (refine wpList_load_rep rfl 50 (.tmp 5) rfl w1.heap.size 0 rfl cs' _ Try.underlying50 HI'.out (OB.cells0 HOB'.out) ?_)
        | (refine wpList_store_rep rfl 50 (.tmp 4) (.tmp 22) rfl (w.heap.size + 1) 0 rfl cs' rfl 50 _ HB'.out HI'.out (by rw [HL'.out]; exact Nat.le_refl _) HO'.out.rep.one ?_; intro w3 hob hg hz; rw [splice_whole (by rw [HL'.out]; rfl)] at hob; have HOB3 := Lib.hid hob; have HG3 := Lib.hid hg; clear hob hg hz))
      have hx3 : Ext w w3 := grown_ext HW.out HG3.out (by omega)
      refine bodyPost_ret (results_cell_row Try.results24 _ _ (w.heap.size + 1) 50 ⟨cs'⟩ _ _ rfl HOB3.out Try.underlying50 rfl HI'.out) rfl ⟨cs', rfl, hx3, ?_⟩
      have h5 := HO'.out
      rw [hkl, List.take_length] at h5
      refine (h5.keep fun b' hb' hbl => HG3.out.block b' hbl (by intro h; injection h with h; have := hb'.1; omega)).mono fun b' hb' => ⟨by have := hb'.1; omega, Nat.lt_of_lt_of_le hb'.2.2 HG3.out.size⟩

theorem GEvidence.cnt_bulk : ∀ x : GEvidence, Tr.cntL x.tr ≤ 5 + 5 * Tr.bulkL x.tr := by
  refine GEvidence.ind fun v0 v1 v2 v3 h => ?_
  have : ∀ l : List GEvidence, (∀ x ∈ l, Tr.cntL x.tr ≤ 5 + 5 * Tr.bulkL x.tr) → Tr.cntE (GEvidence.trs l) ≤ 5 * l.length + 5 * Tr.bulkAll (GEvidence.trs l) := by
    intro l
    induction l with
    | nil => intro _; simp [GEvidence.trs, Tr.cntE]
    | cons a l ih =>
      intro hl
      have h1 := hl a (by simp)
      have h2 := ih fun x hx => hl x (by simp [hx])
      simp only [GEvidence.trs, Tr.bulkAll, Tr.cntE, List.length_cons]
      omega
  have := this v3 h
  obtain ⟨p, q⟩ := v2
  simp only [GEvidence.tr, GInstanceRef.tr, Tr.bulkL_append, Tr.cntL_append, Tr.cntL, Tr.cnt, Tr.bulkL, Tr.bulk, GEvidence.trs_len]
  omega
theorem Tr.topN_le : ∀ ts : List Tr, Tr.topN ts ≤ Tr.cntL ts
  | [] => by simp [Tr.topN]
  | .leaf v :: r => by have := Tr.topN_le r; simp only [Tr.topN, Tr.cntL, Tr.cnt]; omega
  | .row sz es :: r => by have := Tr.topN_le r; simp only [Tr.topN, Tr.cntL, Tr.cnt]; omega
theorem GEvidence.top_bulk (x : GEvidence) : Tr.topN x.tr ≤ 5 + 5 * Tr.bulkL x.tr := Nat.le_trans (Tr.topN_le _) (GEvidence.cnt_bulk x)
theorem GEvidence.cnt_lift (x : GEvidence) : ∀ (l : List Int), Tr.cntL (GEvidence.lift x l).tr = Tr.cntL x.tr + 4 * l.length := by
  intro l
  induction l generalizing x with
  | nil => simp [GEvidence.lift]
  | cons a l ih =>
    have h1 : GEvidence.lift x (a :: l) = GEvidence.lift (liftStep x a) l := rfl
    rw [h1, ih (liftStep x a), liftStep_tr]
    simp only [Tr.cntL, Tr.cnt, Tr.cntE, List.length_cons]
    omega
theorem GEvidence.top_lift (x : GEvidence) (l : List Int) : Tr.topN (GEvidence.lift x l).tr ≤ 5 + 5 * Tr.bulkL x.tr + 4 * l.length := by
  have h1 := Tr.topN_le (GEvidence.lift x l).tr
  have h2 := GEvidence.cnt_lift x l
  have h3 := GEvidence.cnt_bulk x
  omega
theorem intTrs_cnt : ∀ l : List Int, Tr.cntE (intTrs l) = l.length
  | [] => rfl
  | a :: l => by
    have := intTrs_cnt l
    simp only [intTrs] at this
    simp [intTrs, Tr.cntE, Tr.cntL, Tr.cnt, this]; omega

end Go.Proofs.Ytoifjkggpanceaa
