/- SatisfiesTermination, on both sides. Conditions: sizes below 2^40. -/
import Derived.Test.YtoifjkggpanceaaSmaller2
import Derived.Test.YtoifjkggpanceaaFind
namespace Go.Proofs.Ytoifjkggpanceaa
open Go.RowKit Go.Proofs

def GInstance.term (x : GInstance) : Bool := x.gWhere.all (fun b => GBound.smaller b x.gHead)
def GInstance.small (x : GInstance) : Prop := GType.size x.gHead ≤ 1099511627776 ∧ ∀ b ∈ x.gWhere, GType.size b.gType ≤ 1099511627776
theorem Tr.bulkAll_mem {l : List (List Tr)} {e : List Tr} (h : e ∈ l) : Tr.bulkL e ≤ Tr.bulkAll l := by
  induction l with
  | nil => simp at h
  | cons a l ih =>
    simp only [Tr.bulkAll]
    rcases List.mem_cons.1 h with rfl | h
    · omega
    · have := ih h; omega
theorem GInstance.small_of {x : GInstance} (h : Tr.bulkL x.tr ≤ 1048576) : x.small := by
  obtain ⟨v0, v1, v2, v3, v4, v5, v6, v7⟩ := x
  simp only [GInstance.tr, Tr.bulkL_append, Tr.bulkL, Tr.bulk] at h
  refine ⟨?_, fun b hb => ?_⟩
  · have := GType.size_bulk v2
    simp only [GInstance.gHead_mk]
    omega
  · simp only [GInstance.gWhere_mk] at hb
    have h1 := GBound.type_bulk b
    have h2 : Tr.bulkL b.tr ≤ Tr.bulkAll (GBound.trs v3) := Tr.bulkAll_mem (by rw [GBound.trs_map]; exact List.mem_map.2 ⟨b, hb, rfl⟩)
    omega
theorem not_any_not {α : Type} (p : α → Bool) (l : List α) : (!(l.any fun x => !p x)) = l.all p := by
  induction l with
  | nil => rfl
  | cons a l ih => simp [List.any_cons, List.all_cons, ← ih]

set_option maxRecDepth 100000 in
set_option maxHeartbeats 1000000 in
theorem term_c (y : GType) (pre ys post : List Value) (B : Nat) (x : GBound) (cs : List Value) (w : World) (hpre : pre.length = 2) (hr : RepL w x.tr cs) (hB : OB w B 94 ⟨pre ++ (ys ++ post)⟩) (hg : RepL w y.tr ys)
    (hs : GType.size x.gType ≤ 1099511627776) (hs' : GType.size y ≤ 1099511627776) :
    Calls Try.prog 137 (#[.agg ⟨cs⟩] ++ #[.pointer (some ⟨B, 0, none⟩)]) w fun e w' => e = .returned (.bool (!GBound.smaller x y)) ∧ Ext w w' := by
  have HR := Lib.hid hr
  have HG := Lib.hid hg
  have HI : Hid ((Try.prog.info? 34).map (·.size) = some cs.length) := by rw [← hr.length, GBound.tr_len]; exact isz34
  have HI' : Hid ((Try.prog.info? 32).map (·.size) = some ys.length) := by rw [← hg.length, GType.tr_len]; exact isz32
  have HP : Hid (∀ (j : Nat) (v : Value), ys[j]? = some v → (w.alloc (.cells ⟨cs⟩ 34)).cell? ⟨B, 2 + j, none⟩ = some v) := by
    have := OB.part (hB.ext (.alloc (.refl w) (.cells ⟨cs⟩ 34)))
    rw [hpre] at this
    exact this
  clear hr hg hB
  go_enter Try.func137, Try.ntmps137
  go_wp2_with (first
    | (refine wpList_load_rep rfl 34 (.tmp 2) rfl w.heap.size 0 rfl cs _ Try.underlying34 HI.out (OB.cells0 (OB.new w _ _)) ?_)
    | (refine wpList_load_rep rfl 32 (.tmp 5) rfl B 2 rfl ys _ Try.underlying32 HI'.out HP.out ?_))
  refine (smaller_impl x y _ _ _ (HR.out.ext (.alloc (.refl _) _)) (HG.out.ext (.alloc (.refl _) _)) hs hs').mono ?_
  rintro e w1 ⟨rfl, hw1⟩
  have HW1 := Lib.hid hw1
  clear hw1
  go_wp2_with fail
  go_ret
  exact ⟨rfl, .trans (.alloc (.refl _) _) HW1.out⟩

set_option maxRecDepth 100000 in
set_option maxHeartbeats 1000000 in
theorem term_impl (x : GInstance) (cs : List Value) (w : World) (hr : RepL w x.tr cs) (hs : x.small) :
    Calls Try.prog 66 #[.agg ⟨cs⟩] w fun e w' => e = .returned (.bool x.term) ∧ Ext w w' := by
  obtain ⟨v0, v1, v2, v3, v4, v5, v6, v7⟩ := x
  obtain ⟨a1, c1, x2, a3, c3, x6, a7, c7, rfl, -, -, h2, h3, -, -, h6, -⟩ := GInstance.opened hr
  obtain ⟨p0, p1, p2, rfl⟩ := list3 (h2.length.symm.trans (GType.tr_len v2))
  obtain ⟨q0, q1, q2, rfl⟩ := list3 (h6.length.symm.trans (GType.tr_len v6))
  rw [GBound.trs_map] at h3
  have HT : Hid (GInstance.term (.mk v0 v1 v2 v3 v4 v5 v6 v7) = !(v3.any fun b => !GBound.smaller b v2)) := (not_any_not _ _).symm
  have HH := Lib.hid h2
  have HS := Lib.hid h3
  obtain ⟨hz1, hs2⟩ := hs
  have HS2 := Lib.hid hs2
  simp only [GInstance.gHead_mk, GInstance.gWhere_mk] at hz1 HS2
  clear hr h2 h3 h6 hs2
  simp only [List.cons_append, List.nil_append]
  go_enter Try.func66, Try.ntmps66
  go_wp2_with fail
  refine (containsFunc_128 GBound.tr (fun b => !GBound.smaller b v2) v3 137 #[.pointer (some ⟨w.heap.size, 0, none⟩)] (run_callFunc_body Try.func137 (by kernel_rfl) (by kernel_rfl)) GBound.tr_len _ _
    (fun x hx cs w' hw' hr => term_c v2 [.string v0, .slice a1 v1.length c1] [p0, p1, p2] [.slice a3 v3.length c3, .bool v4, .bool v5, q0, q1, q2, .slice a7 v7.length c7] w.heap.size x cs w' rfl hr ((OB.new w _ _).ext hw') (HH.out.ext (.trans (.alloc (.refl _) _) hw')) (HS2.out x hx) hz1) (HS.out.ext (.alloc (.refl _) _))).mono ?_
  rintro e w1 ⟨rfl, hw1⟩
  have HW1 := Lib.hid hw1
  clear hw1
  go_wp2_with fail
  go_ret
  exact ⟨ret_bool HT.out.symm, .trans (.alloc (.refl _) _) HW1.out⟩

set_option maxRecDepth 100000 in
set_option maxHeartbeats 1000000 in
theorem term_spec (x : GInstance) (cs : List Value) (w : World) (hr : RepL w x.tr cs) (hs : x.small) :
    Calls Try.prog 67 #[.agg ⟨cs⟩] w fun e w' => e = .returned (.bool x.term) ∧ Ext w w' := by
  obtain ⟨v0, v1, v2, xs, v4, v5, v6, v7⟩ := x
  obtain ⟨a1, c1, x2, a, c, x6, a7, c7, rfl, -, -, h2, h3, -, -, h6, -⟩ := GInstance.opened hr
  obtain ⟨p0, p1, p2, rfl⟩ := list3 (h2.length.symm.trans (GType.tr_len v2))
  obtain ⟨q0, q1, q2, rfl⟩ := list3 (h6.length.symm.trans (GType.tr_len v6))
  obtain ⟨hl, hm, -⟩ := h3.lens
  have HT : Hid (GInstance.term (.mk v0 v1 v2 xs v4 v5 v6 v7) = xs.all (fun b => GBound.smaller b v2)) := rfl
  have HH := Lib.hid h2
  have HS := Lib.hid h3
  obtain ⟨hz1, hs2⟩ := hs
  have HS2 := Lib.hid hs2
  simp only [GInstance.gHead_mk, GInstance.gWhere_mk] at hz1 HS2
  clear hr h2 h3 h6 hs2
  simp only [List.cons_append, List.nil_append]
  go_enter Try.func67, Try.ntmps67
  go_wp2_with fail
  go_loopw [3] (fun i wr => ∃ k : Nat, k ≤ xs.length ∧ i = .int .i64 k ∧ Ext w wr ∧ Hid (OB wr w.heap.size 94 ⟨[.string v0, .slice a1 v1.length c1] ++ ([p0, p1, p2] ++ [.slice a xs.length c, .bool v4, .bool v5, q0, q1, q2, .slice a7 v7.length c7])⟩) ∧ Hid (GInstance.term (.mk v0 v1 v2 xs v4 v5 v6 v7) = (xs.drop k).all (fun b => GBound.smaller b v2))) (fun i _ => xs.length - (intOf i).toNat)
  case atStart => exact ⟨0, Nat.zero_le _, rfl, .alloc (.refl _) _, OB.new w _ _, HT.out⟩
  case round =>
    obtain ⟨k, hk, rfl, hw, HB, HE⟩ := hrel
    have hce : wr.cell? ⟨w.heap.size, 5, none⟩ = some (.slice a xs.length c) := HB.out.cell 5
    by_cases hlt : k < xs.length
    · obtain ⟨b, off, cs, rfl, hb, hcs, hc⟩ := (HS.out.ext hw).at2 (k := k) (GBound.trs_get hlt)
      have HST := Lib.hid (all_drop_step (p := fun b => GBound.smaller b v2) hlt)
      have hki := hlt
      have hsz := HS2.out _ (List.getElem_mem hlt)
      generalize xs[k] = z at *
      have HI : Hid ((Try.prog.info? 34).map (·.size) = some cs.length) := by rw [← hcs.length, GBound.tr_len]; exact isz34
      have HC : Hid (∀ W, Ext wr W → ∀ (j : Nat) (v : Value), cs[j]? = some v → W.cell? ⟨b, off + k * 4 + j, none⟩ = some v) := fun W hW j v hv => (hW.cell (p := ⟨b, off + k * 4 + j, none⟩) hb).trans (hc j v hv)
      have HCE : Hid (∀ W, Ext wr W → W.cell? ⟨w.heap.size, 5, none⟩ = some (.slice (some ⟨b, off, none⟩) xs.length c)) := fun W hW => (HB.out.ext hW).cell 5
      have HR := Lib.hid hcs
      clear hcs hc
      go_wp2_with fail
      refine wp_region_held_drew (S := Ext wr) (by kernel_rfl) ?_ (fun hHeld => ?_)
      · exact .drew (.refl _)
      refine wpAnyH_take (i := 0) rfl (by kernel_rfl) (by kernel_rfl) (by kernel_rfl) (fun _ _ _ h => h) (.inl ⟨rfl, fun _ _ => rfl⟩) (by assumption) ?_
      simp only [Act.put, List.getElem_toArray, List.getElem_cons_zero, List.setIfInBounds_toArray, List.set_cons_zero, List.set_cons_succ]
      refine wpAnyH_cell (i := 1) rfl (by kernel_rfl) (by kernel_rfl) (by kernel_rfl) rfl 86 (.tmp 11) rfl (w.heap.size) (5) rfl (.slice (some ⟨b, off, none⟩) xs.length c) _ Try.underlying86 rfl (fun W hW => HCE.out W hW) (by assumption) (fun _ _ _ _ h => h) ?_
      simp only [Act.put, List.getElem_toArray, List.getElem_cons_zero, List.getElem_cons_succ, List.setIfInBounds_toArray, List.set_cons_zero, List.set_cons_succ]
      refine wpAnyH_take (i := 2) rfl (by kernel_rfl) (by kernel_rfl) (by kernel_rfl) (fun _ _ _ h => h) (.inl ⟨rfl, fun _ _ => rfl⟩) (by assumption) ?_
      simp only [Act.put, List.getElem_toArray, List.getElem_cons_zero, List.getElem_cons_succ, List.setIfInBounds_toArray, List.set_cons_zero, List.set_cons_succ]
      refine wpAnyH_index (i := 3) rfl (by kernel_rfl) (by kernel_rfl) (by kernel_rfl) rfl 86 (.tmp 12) (.tmp 13) rfl (b) (off) (xs.length) (c) (k) (4) rfl rfl (hki) Try.underlying86 (by kernel_rfl) (by assumption) (fun _ _ _ _ h => h) ?_
      simp only [Act.put, List.getElem_toArray, List.getElem_cons_zero, List.getElem_cons_succ, List.setIfInBounds_toArray, List.set_cons_zero, List.set_cons_succ]
      refine wpAnyH_load_rep (i := 4) rfl (by kernel_rfl) (by kernel_rfl) (by kernel_rfl) (fun _ _ _ h => h) rfl 34 (.tmp 14) rfl (b) (off + k * 4) rfl cs _ Try.underlying34 HI.out (fun W hW => HC.out W hW) (by assumption) (fun _ _ _ _ h => h) ?_
      simp only [Act.put, List.getElem_toArray, List.getElem_cons_zero, List.getElem_cons_succ, List.setIfInBounds_toArray, List.set_cons_zero, List.set_cons_succ]
      refine wpAnyH_take (i := 5) rfl (by kernel_rfl) (by kernel_rfl) (by kernel_rfl) (fun _ _ _ h => h) (.inl ⟨rfl, fun _ _ => rfl⟩) (by assumption) ?_
      simp only [Act.put, List.getElem_toArray, List.getElem_cons_zero, List.getElem_cons_succ, List.setIfInBounds_toArray, List.set_cons_zero, List.set_cons_succ]
      refine wpAnyH_load_rep (i := 6) rfl (by kernel_rfl) (by kernel_rfl) (by kernel_rfl) (fun _ _ _ h => h) rfl 32 (.tmp 16) rfl (w.heap.size) (2) rfl [p0, p1, p2] _ Try.underlying32 isz32 (fun W hW => OB.part (HB.out.ext hW)) (by assumption) (fun _ _ _ _ h => h) ?_
      simp only [Act.put, List.getElem_toArray, List.getElem_cons_zero, List.getElem_cons_succ, List.setIfInBounds_toArray, List.set_cons_zero, List.set_cons_succ]
      refine wpAnyH_call (i := 7) (by kernel_rfl) rfl rfl (run_call_func rfl rfl #[.agg ⟨cs⟩, .agg ⟨[p0, p1, p2]⟩] (by simp only [List.map_toArray, List.map_cons, List.map_nil, Act.eval]; rfl) Try.func17 (by kernel_rfl) (by kernel_rfl) _) (smaller_spec z v2 _ _ _ (HR.out.ext hHeld) (HH.out.ext (hw.trans hHeld)) hsz hz1) ?_
      rintro e w1 ⟨rfl, hw1⟩
      have hs1 := Ext.trans hHeld hw1
      refine ⟨_, rfl, hs1, ?_⟩
      simp only [Act.put, List.getElem_toArray, List.getElem_cons_zero, List.getElem_cons_succ, List.setIfInBounds_toArray, List.set_cons_zero, List.set_cons_succ]
      refine wpAnyH_take (i := 8) rfl (by kernel_rfl) (by kernel_rfl) (by kernel_rfl) (fun _ _ _ h => h) (.inl ⟨rfl, fun _ _ => rfl⟩) (by assumption) ?_
      simp only [Act.put, List.getElem_toArray, List.getElem_cons_zero, List.getElem_cons_succ, List.setIfInBounds_toArray, List.set_cons_zero, List.set_cons_succ]
      refine wpAnyH_done (by kernel_rfl) ?_ _
      clear hHeld
      have HW1 := Lib.hid (hw.trans hs1)
      have HB1 := Lib.hid (HB.out.ext hs1)
      clear hs1 hw1 hce
      cases hq : GBound.smaller z v2
      · have HQ := Lib.hid hq
        clear hq
        go_wp2_with fail
        go_ret
        exact ⟨ret_bool (by rw [HE.out, HST.out, HQ.out]; rfl), HW1.out⟩
      · have HQ := Lib.hid hq
        clear hq
        go_wp2_with fail
        go_roundw
        case rel => exact ⟨k + 1, by omega, by go_num, HW1.out, HB1.out, by show _ = _; rw [HE.out, HST.out, HQ.out]; rfl⟩
        case measure => simp [intOf]; omega
    · have hkl : k = xs.length := by omega
      go_wp2_with fail
      go_ret
      exact ⟨ret_bool (by rw [HE.out, hkl, List.drop_length]; rfl), hw⟩

end Go.Proofs.Ytoifjkggpanceaa
