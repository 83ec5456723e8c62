/- Looking for a goal in a list: FindAssumption, CacheIndex, hasGoal, on both sides. No conditions. -/
import Derived.Test.YtoifjkggpanceaaTyEq
import Derived.Test.YtoifjkggpanceaaReg
import Derived.Test.YtoifjkggpanceaaAccT
namespace Go.Proofs.Ytoifjkggpanceaa
open Go.RowKit Go.Proofs

/-- A part of a block that is known whole. -/
theorem OB.part {w : World} {B : Nat} {T : TypeId} {pre cs post : List Value} (h : OB w B T ⟨pre ++ (cs ++ post)⟩) : ∀ (j : Nat) (v : Value), cs[j]? = some v → w.cell? ⟨B, pre.length + j, none⟩ = some v := by
  intro j v hv
  rw [h.cell]
  have hj : j < cs.length := (List.getElem?_eq_some_iff.1 hv).1
  change (List.toArray (pre ++ (cs ++ post)))[pre.length + j]? = some v
  rw [List.getElem?_toArray, List.getElem?_append_right (by omega), Nat.add_sub_cancel_left, List.getElem?_append_left hj, hv]

set_option maxRecDepth 100000 in
set_option maxHeartbeats 1000000 in
theorem hasGoal_c (g : GBound) (ds : List Value) (B : Nat) (x : GBound) (cs : List Value) (w : World) (hr : RepL w x.tr cs) (hB : OB w B 34 ⟨ds⟩) (hg : RepL w g.tr ds) :
    Calls Try.prog 172 (#[.agg ⟨cs⟩] ++ #[.pointer (some ⟨B, 0, none⟩)]) w fun e w' => e = .returned (.bool (GBound.eq x g)) ∧ Ext w w' := by
  have HR := Lib.hid hr
  have HG := Lib.hid hg
  have HB := Lib.hid hB
  have HI : Hid ((Try.prog.info? 34).map (·.size) = some cs.length) := by rw [← hr.length, GBound.tr_len]; exact isz34
  have HI' : Hid ((Try.prog.info? 34).map (·.size) = some ds.length) := by rw [← hg.length, GBound.tr_len]; exact isz34
  clear hr hg hB
  go_enter Try.func172, Try.ntmps172
  go_wp2_with (first
    | (refine wpList_load_rep rfl 34 (.tmp 2) rfl w.heap.size 0 rfl cs _ Try.underlying34 HI.out (OB.cells0 (OB.new w _ _)) ?_)
    | (refine wpList_load_rep rfl 34 (.tmp 1) rfl B 0 rfl ds _ Try.underlying34 HI'.out (OB.cells0 (HB.out.ext (.alloc (.refl w) _))) ?_))
  refine (eqGoal_impl x g _ _ _ (HR.out.ext (.alloc (.refl _) _)) (HG.out.ext (.alloc (.refl _) _))).mono ?_
  rintro e w1 ⟨rfl, hw1⟩
  have HW1 := Lib.hid hw1
  clear hw1
  go_wp2_with fail
  go_ret
  exact ⟨rfl, .trans (.alloc (.refl _) _) HW1.out⟩

set_option maxRecDepth 100000 in
set_option maxHeartbeats 1000000 in
theorem cacheIndex_c (g : GBound) (ds : List Value) (B : Nat) (x : GBound) (cs : List Value) (w : World) (hr : RepL w x.tr cs) (hB : OB w B 34 ⟨ds⟩) (hg : RepL w g.tr ds) :
    Calls Try.prog 136 (#[.agg ⟨cs⟩] ++ #[.pointer (some ⟨B, 0, none⟩)]) w fun e w' => e = .returned (.bool (GBound.eq x g)) ∧ Ext w w' := by
  have HR := Lib.hid hr
  have HG := Lib.hid hg
  have HB := Lib.hid hB
  have HI : Hid ((Try.prog.info? 34).map (·.size) = some cs.length) := by rw [← hr.length, GBound.tr_len]; exact isz34
  have HI' : Hid ((Try.prog.info? 34).map (·.size) = some ds.length) := by rw [← hg.length, GBound.tr_len]; exact isz34
  clear hr hg hB
  go_enter Try.func136, Try.ntmps136
  go_wp2_with (first
    | (refine wpList_load_rep rfl 34 (.tmp 2) rfl w.heap.size 0 rfl cs _ Try.underlying34 HI.out (OB.cells0 (OB.new w _ _)) ?_)
    | (refine wpList_load_rep rfl 34 (.tmp 1) rfl B 0 rfl ds _ Try.underlying34 HI'.out (OB.cells0 (HB.out.ext (.alloc (.refl w) _))) ?_))
  refine (eqGoal_impl x g _ _ _ (HR.out.ext (.alloc (.refl _) _)) (HG.out.ext (.alloc (.refl _) _))).mono ?_
  rintro e w1 ⟨rfl, hw1⟩
  have HW1 := Lib.hid hw1
  clear hw1
  go_wp2_with fail
  go_ret
  exact ⟨rfl, .trans (.alloc (.refl _) _) HW1.out⟩

set_option maxRecDepth 100000 in
set_option maxHeartbeats 1000000 in
theorem findAssumption_c (g : GBound) (ds : List Value) (B : Nat) (x : GAssumption) (cs : List Value) (w : World) (hr : RepL w x.tr cs) (hB : OB w B 34 ⟨ds⟩) (hg : RepL w g.tr ds) :
    Calls Try.prog 113 (#[.agg ⟨cs⟩] ++ #[.pointer (some ⟨B, 0, none⟩)]) w fun e w' => e = .returned (.bool (GBound.eq x.gGoal g)) ∧ Ext w w' := by
  obtain ⟨v0, v1, v2⟩ := x
  obtain ⟨x0, a2, c2, rfl, h0, -, -⟩ := GAssumption.opened hr
  simp only [GAssumption.gGoal_mk]
  have HR := Lib.hid h0
  have HG := Lib.hid hg
  have HB := Lib.hid hB
  have HI : Hid ((Try.prog.info? 34).map (·.size) = some x0.length) := by rw [← h0.length, GBound.tr_len]; exact isz34
  have HI' : Hid ((Try.prog.info? 34).map (·.size) = some ds.length) := by rw [← hg.length, GBound.tr_len]; exact isz34
  clear hr hg hB h0
  have HP : Hid (∀ (j : Nat) (v : Value), x0[j]? = some v → (w.alloc (.cells ⟨x0 ++ ([.int .i64 v1] ++ ([.slice a2 v2.length c2] ++ []))⟩ 159)).cell? ⟨w.heap.size, 0 + j, none⟩ = some v) := OB.part (pre := []) (OB.new w _ _)
  go_enter Try.func113, Try.ntmps113
  go_wp2_with (first
    | (refine wpList_load_rep rfl 34 (.tmp 4) rfl w.heap.size 0 rfl x0 _ Try.underlying34 HI.out HP.out ?_)
    | (refine wpList_load_rep rfl 34 (.tmp 1) rfl B 0 rfl ds _ Try.underlying34 HI'.out (OB.cells0 (HB.out.ext (.alloc (.refl w) _))) ?_))
  refine (eqGoal_impl v0 g _ _ _ (HR.out.ext (.alloc (.refl _) _)) (HG.out.ext (.alloc (.refl _) _))).mono ?_
  rintro e w1 ⟨rfl, hw1⟩
  have HW1 := Lib.hid hw1
  clear hw1
  go_wp2_with fail
  go_ret
  exact ⟨rfl, .trans (.alloc (.refl _) _) HW1.out⟩

set_option maxRecDepth 100000 in
set_option maxHeartbeats 1000000 in
theorem findAssumption_impl (xs : List GAssumption) (g : GBound) (v : Value) (ds : List Value) (w : World) (h : Rep w (.row 6 (GAssumption.trs xs)) v) (hg : RepL w g.tr ds) :
    Calls Try.prog 47 #[v, .agg ⟨ds⟩] w fun e w' => e = .returned (.int .i64 (idxL (fun a => GBound.eq a.gGoal g) xs 0)) ∧ Ext w w' := by
  obtain ⟨a, c, rfl, -, -⟩ := h.shape
  rw [GAssumption.trs_len] at *
  rw [GAssumption.trs_map] at h
  have HS := Lib.hid h
  have HG := Lib.hid hg
  clear h hg
  go_enter Try.func47, Try.ntmps47
  go_wp2_with fail
  refine (indexFunc_112 GAssumption.tr (fun a => GBound.eq a.gGoal g) xs 113 #[.pointer (some ⟨w.heap.size, 0, none⟩)] (run_callFunc_body Try.func113 (by kernel_rfl) (by kernel_rfl)) GAssumption.tr_len _ _
    (fun x _ cs w' hw' hr => findAssumption_c g ds w.heap.size x cs w' hr ((OB.new w _ _).ext hw') (HG.out.ext (.trans (.alloc (.refl _) _) hw'))) (HS.out.ext (.alloc (.refl _) _))).mono ?_
  rintro e w1 ⟨rfl, hw1⟩
  have HW1 := Lib.hid hw1
  clear hw1
  go_wp2_with fail
  go_ret
  exact ⟨rfl, .trans (.alloc (.refl _) _) HW1.out⟩

set_option maxRecDepth 100000 in
set_option maxHeartbeats 1000000 in
theorem findAssumption_spec (xs : List GAssumption) (g : GBound) (v : Value) (ds : List Value) (w : World) (h : Rep w (.row 6 (GAssumption.trs xs)) v) (hg : RepL w g.tr ds) :
    Calls Try.prog 45 #[v, .agg ⟨ds⟩] w fun e w' => e = .returned (.int .i64 (idxL (fun a => GBound.eq a.gGoal g) xs 0)) ∧ Ext w w' := by
  obtain ⟨a, c, rfl, hl, hm⟩ := h.shape
  rw [GAssumption.trs_len] at *
  unfold maxLen at hm
  have HS := Lib.hid h
  have HG := Lib.hid hg
  have HI' : Hid ((Try.prog.info? 34).map (·.size) = some ds.length) := by rw [← hg.length, GBound.tr_len]; exact isz34
  clear h hg
  go_enter Try.func45, Try.ntmps45
  go_wp2_with fail
  go_loopw [5] (fun i wr => ∃ k : Nat, k ≤ xs.length ∧ i = .int .i64 k ∧ Ext w wr ∧ Hid (OB wr w.heap.size 34 ⟨ds⟩) ∧ Hid (idxL (fun a => GBound.eq a.gGoal g) xs 0 = idxL (fun a => GBound.eq a.gGoal g) (xs.drop k) k)) (fun i _ => xs.length - (intOf i).toNat)
  case atStart => exact ⟨0, Nat.zero_le _, rfl, .alloc (.refl _) _, OB.new w _ _, rfl⟩
  case round =>
    obtain ⟨k, hk, rfl, hw, HB, HE⟩ := hrel
    by_cases hlt : k < xs.length
    · obtain ⟨b, off, cs, rfl, hb, hcs, hc⟩ := (HS.out.ext hw).at2 (k := k) (GAssumption.trs_get hlt)
      have HST := Lib.hid (idxL_step (p := fun a => GBound.eq a.gGoal g) hlt)
      have hki := hlt
      generalize xs[k] = z at *
      obtain ⟨v0, v1, v2⟩ := z
      obtain ⟨x0, a2, c2, rfl, h0, -, -⟩ := GAssumption.opened hcs
      have HI : Hid ((Try.prog.info? 34).map (·.size) = some x0.length) := by rw [← h0.length, GBound.tr_len]; exact isz34
      have HC : Hid (∀ W, Ext wr W → ∀ (j : Nat) (v : Value), x0[j]? = some v → W.cell? ⟨b, off + k * 6 + 0 + j, none⟩ = some v) := by
        intro W hW j v hv
        refine (hW.cell (p := ⟨b, off + k * 6 + 0 + j, none⟩) hb).trans (hc j v ?_)
        have hj : j < x0.length := (List.getElem?_eq_some_iff.1 hv).1
        rw [List.getElem?_append_left hj, hv]
      have HR := Lib.hid h0
      simp only [GAssumption.gGoal_mk] at HST
      clear hcs hc h0
      go_wp2_with fail
      refine wp_region_held_drew (S := Ext wr) (by kernel_rfl) ?_ (fun hHeld => ?_)
      · exact .drew (.refl _)
      refine wpAnyH_take (i := 0) rfl (by kernel_rfl) (by kernel_rfl) (by kernel_rfl) (fun _ _ _ h => h) (.inl ⟨rfl, fun _ _ => rfl⟩) (by assumption) ?_
      simp only [Act.put, List.getElem_toArray, List.getElem_cons_zero, List.getElem_cons_succ, List.setIfInBounds_toArray, List.set_cons_zero, List.set_cons_succ]
      refine wpAnyH_take (i := 1) rfl (by kernel_rfl) (by kernel_rfl) (by kernel_rfl) (fun _ _ _ h => h) (.inl ⟨rfl, fun _ _ => rfl⟩) (by assumption) ?_
      simp only [Act.put, List.getElem_toArray, List.getElem_cons_zero, List.getElem_cons_succ, List.setIfInBounds_toArray, List.set_cons_zero, List.set_cons_succ]
      refine wpAnyH_index (i := 2) rfl (by kernel_rfl) (by kernel_rfl) (by kernel_rfl) rfl 82 (.tmp 12) (.tmp 13) rfl (b) (off) (xs.length) (c) (k) (6) rfl rfl (hki) Try.underlying82 (by kernel_rfl) (by assumption) (fun _ _ _ _ h => h) ?_
      simp only [Act.put, List.getElem_toArray, List.getElem_cons_zero, List.getElem_cons_succ, List.setIfInBounds_toArray, List.set_cons_zero, List.set_cons_succ]
      refine wpAnyH_take (i := 3) rfl (by kernel_rfl) (by kernel_rfl) (by kernel_rfl) (fun _ _ _ h => h) (.inl ⟨rfl, fun _ _ => rfl⟩) (by assumption) ?_
      simp only [Act.put, List.getElem_toArray, List.getElem_cons_zero, List.getElem_cons_succ, List.setIfInBounds_toArray, List.set_cons_zero, List.set_cons_succ]
      refine wpAnyH_load_rep (i := 4) rfl (by kernel_rfl) (by kernel_rfl) (by kernel_rfl) (fun _ _ _ h => h) rfl 34 (.tmp 15) rfl (b) (off + k * 6 + 0) rfl x0 _ Try.underlying34 HI.out (fun W hW => HC.out W hW) (by assumption) (fun _ _ _ _ h => h) ?_
      simp only [Act.put, List.getElem_toArray, List.getElem_cons_zero, List.getElem_cons_succ, List.setIfInBounds_toArray, List.set_cons_zero, List.set_cons_succ]
      refine wpAnyH_load_rep (i := 5) rfl (by kernel_rfl) (by kernel_rfl) (by kernel_rfl) (fun _ _ _ h => h) rfl 34 (.tmp 3) rfl (w.heap.size) (0) rfl ds _ Try.underlying34 HI'.out (fun W hW => OB.cells0 (HB.out.ext hW)) (by assumption) (fun _ _ _ _ h => h) ?_
      simp only [Act.put, List.getElem_toArray, List.getElem_cons_zero, List.getElem_cons_succ, List.setIfInBounds_toArray, List.set_cons_zero, List.set_cons_succ]
      refine wpAnyH_call (i := 6) (by kernel_rfl) rfl rfl (run_call_func rfl rfl #[.agg ⟨x0⟩, .agg ⟨ds⟩] (by simp only [List.map_toArray, List.map_cons, List.map_nil, Act.eval]; rfl) Try.func110 (by kernel_rfl) (by kernel_rfl) _) (eqGoal_spec v0 g _ _ _ (HR.out.ext hHeld) (HG.out.ext (hw.trans hHeld))) ?_
      rintro e w1 ⟨rfl, hw1⟩
      have hs1 := Ext.trans hHeld hw1
      refine ⟨_, rfl, hs1, ?_⟩
      simp only [Act.put, List.getElem_toArray, List.getElem_cons_zero, List.getElem_cons_succ, List.setIfInBounds_toArray, List.set_cons_zero, List.set_cons_succ]
      refine wpAnyH_done (by kernel_rfl) ?_ _
      clear hHeld
      have HW1 := Lib.hid (hw.trans hs1)
      have HB1 := Lib.hid (HB.out.ext hs1)
      clear hs1 hw1
      cases hq : GBound.eq v0 g
      · have HQ := Lib.hid hq
        clear hq
        go_wp2_with fail
        go_roundw
        case rel => exact ⟨k + 1, by omega, by go_num, HW1.out, HB1.out, by show _ = _; rw [HE.out, HST.out]; simp [HQ.out]⟩
        case measure => simp [intOf]; omega
      · have HQ := Lib.hid hq
        clear hq
        go_wp2_with fail
        go_ret
        exact ⟨ret_int (by rw [HE.out, HST.out]; simp [HQ.out]), HW1.out⟩
    · have hkl : k = xs.length := by omega
      go_wp2_with fail
      go_ret
      exact ⟨ret_int (by rw [HE.out, hkl, List.drop_length]; rfl), hw⟩

set_option maxRecDepth 100000 in
set_option maxHeartbeats 1000000 in
theorem hasGoal_impl (xs : List GBound) (g : GBound) (v : Value) (ds : List Value) (w : World) (h : Rep w (.row 4 (GBound.trs xs)) v) (hg : RepL w g.tr ds) :
    Calls Try.prog 119 #[v, .agg ⟨ds⟩] w fun e w' => e = .returned (.bool (xs.any (fun a => GBound.eq a g))) ∧ Ext w w' := by
  obtain ⟨a, c, rfl, -, -⟩ := h.shape
  rw [GBound.trs_len] at *
  rw [GBound.trs_map] at h
  have HS := Lib.hid h
  have HG := Lib.hid hg
  clear h hg
  go_enter Try.func119, Try.ntmps119
  go_wp2_with fail
  refine (containsFunc_128 GBound.tr (fun a => GBound.eq a g) xs 172 #[.pointer (some ⟨w.heap.size, 0, none⟩)] (run_callFunc_body Try.func172 (by kernel_rfl) (by kernel_rfl)) GBound.tr_len _ _
    (fun x _ cs w' hw' hr => hasGoal_c g ds w.heap.size x cs w' hr ((OB.new w _ _).ext hw') (HG.out.ext (.trans (.alloc (.refl _) _) hw'))) (HS.out.ext (.alloc (.refl _) _))).mono ?_
  rintro e w1 ⟨rfl, hw1⟩
  have HW1 := Lib.hid hw1
  clear hw1
  go_wp2_with fail
  go_ret
  exact ⟨rfl, .trans (.alloc (.refl _) _) HW1.out⟩

set_option maxRecDepth 100000 in
set_option maxHeartbeats 1000000 in
theorem cacheIndex_impl (x : GCache) (g : GBound) (cs ds : List Value) (w : World) (h : RepL w x.tr cs) (hg : RepL w g.tr ds) :
    Calls Try.prog 63 #[.agg ⟨cs⟩, .agg ⟨ds⟩] w fun e w' => e = .returned (.int .i64 (idxL (fun a => GBound.eq a g) x.gGoals 0)) ∧ Ext w w' := by
  obtain ⟨xs, v1, v2⟩ := x
  obtain ⟨a0, c0, a1, c1, a2, c2, rfl, h0, -, -⟩ := GCache.opened h
  rw [GBound.trs_map] at h0
  simp only [GCache.gGoals_mk]
  have HS := Lib.hid h0
  have HG := Lib.hid hg
  clear h h0 hg
  simp only [List.cons_append, List.nil_append]
  go_enter Try.func63, Try.ntmps63
  go_wp2_with fail
  have h2 := Two.new w 104 34 #[.slice a0 xs.length c0, .slice a1 v1.length c1, .slice a2 v2.length c2] ⟨ds⟩
  refine (indexFunc_135 GBound.tr (fun a => GBound.eq a g) xs 136 #[.pointer (some ⟨w.heap.size + 1, 0, none⟩)] (run_callFunc_body Try.func136 (by kernel_rfl) (by kernel_rfl)) GBound.tr_len _ _
    (fun x _ cs w' hw' hr => cacheIndex_c g ds (w.heap.size + 1) x cs w' hr (h2.o1.ext hw') (HG.out.ext (.trans (.alloc (.alloc (.refl _) _) _) hw'))) (HS.out.ext (.alloc (.alloc (.refl _) _) _))).mono ?_
  rintro e w1 ⟨rfl, hw1⟩
  have HW1 := Lib.hid hw1
  clear hw1 h2
  go_wp2_with fail
  go_ret
  exact ⟨rfl, .trans (.alloc (.alloc (.refl _) _) _) HW1.out⟩

set_option maxRecDepth 100000 in
set_option maxHeartbeats 1000000 in
theorem cacheIndex_spec (x : GCache) (g : GBound) (cs ds : List Value) (w : World) (h : RepL w x.tr cs) (hg : RepL w g.tr ds) :
    Calls Try.prog 61 #[.agg ⟨cs⟩, .agg ⟨ds⟩] w fun e w' => e = .returned (.int .i64 (idxL (fun a => GBound.eq a g) x.gGoals 0)) ∧ Ext w w' := by
  obtain ⟨xs, v1, v2⟩ := x
  obtain ⟨a, c, a1, c1, a2, c2, rfl, h0, -, -⟩ := GCache.opened h
  obtain ⟨hl, hm, -⟩ := h0.lens
  simp only [GCache.gGoals_mk]
  have HS := Lib.hid h0
  have HG := Lib.hid hg
  have HI' : Hid ((Try.prog.info? 34).map (·.size) = some ds.length) := by rw [← hg.length, GBound.tr_len]; exact isz34
  clear h h0 hg
  simp only [List.cons_append, List.nil_append]
  have h2 := Two.new w 104 34 #[.slice a xs.length c, .slice a1 v1.length c1, .slice a2 v2.length c2] ⟨ds⟩
  have H2 := Lib.hid h2
  clear h2
  go_enter Try.func61, Try.ntmps61
  go_wp2_with fail
  go_loopw [5] (fun i wr => ∃ k : Nat, k ≤ xs.length ∧ i = .int .i64 k ∧ Ext w wr ∧ Hid (Two wr w.heap.size 104 #[.slice a xs.length c, .slice a1 v1.length c1, .slice a2 v2.length c2] (w.heap.size + 1) 34 ⟨ds⟩) ∧ Hid (idxL (fun a => GBound.eq a g) xs 0 = idxL (fun a => GBound.eq a g) (xs.drop k) k)) (fun i _ => xs.length - (intOf i).toNat)
  case atStart => exact ⟨0, Nat.zero_le _, rfl, .alloc (.alloc (.refl _) _) _, H2.out, rfl⟩
  case round =>
    obtain ⟨k, hk, rfl, hw, HB, HE⟩ := hrel
    have hce := HB.out.o0.cell 0
    by_cases hlt : k < xs.length
    · obtain ⟨b, off, cs, rfl, hb, hcs, hc⟩ := (HS.out.ext hw).at2 (k := k) (GBound.trs_get hlt)
      have HST := Lib.hid (idxL_step (p := fun a => GBound.eq a g) hlt)
      have hki := hlt
      generalize xs[k] = z at *
      have HI : Hid ((Try.prog.info? 34).map (·.size) = some cs.length) := by rw [← hcs.length, GBound.tr_len]; exact isz34
      have HC : Hid (∀ W, Ext wr W → ∀ (j : Nat) (v : Value), cs[j]? = some v → W.cell? ⟨b, off + k * 4 + j, none⟩ = some v) := fun W hW j v hv => (hW.cell (p := ⟨b, off + k * 4 + j, none⟩) hb).trans (hc j v hv)
      have HCE : Hid (∀ W, Ext wr W → W.cell? ⟨w.heap.size, 0, none⟩ = some (.slice (some ⟨b, off, none⟩) xs.length c)) := fun W hW => (HB.out.o0.ext hW).cell 0
      have HR := Lib.hid hcs
      clear hcs hc
      go_wp2_with fail
      refine wp_region_held_drew (S := Ext wr) (by kernel_rfl) ?_ (fun hHeld => ?_)
      · exact .drew (.refl _)
      refine wpAnyH_take (i := 0) rfl (by kernel_rfl) (by kernel_rfl) (by kernel_rfl) (fun _ _ _ h => h) (.inl ⟨rfl, fun _ _ => rfl⟩) (by assumption) ?_
      simp only [Act.put, List.getElem_toArray, List.getElem_cons_zero, List.getElem_cons_succ, List.setIfInBounds_toArray, List.set_cons_zero, List.set_cons_succ]
      refine wpAnyH_cell (i := 1) rfl (by kernel_rfl) (by kernel_rfl) (by kernel_rfl) rfl 86 (.tmp 13) rfl (w.heap.size) (0) rfl (.slice (some ⟨b, off, none⟩) xs.length c) _ Try.underlying86 rfl (fun W hW => HCE.out W hW) (by assumption) (fun _ _ _ _ h => h) ?_
      simp only [Act.put, List.getElem_toArray, List.getElem_cons_zero, List.getElem_cons_succ, List.setIfInBounds_toArray, List.set_cons_zero, List.set_cons_succ]
      refine wpAnyH_take (i := 2) rfl (by kernel_rfl) (by kernel_rfl) (by kernel_rfl) (fun _ _ _ h => h) (.inl ⟨rfl, fun _ _ => rfl⟩) (by assumption) ?_
      simp only [Act.put, List.getElem_toArray, List.getElem_cons_zero, List.getElem_cons_succ, List.setIfInBounds_toArray, List.set_cons_zero, List.set_cons_succ]
      refine wpAnyH_index (i := 3) rfl (by kernel_rfl) (by kernel_rfl) (by kernel_rfl) rfl 86 (.tmp 14) (.tmp 15) rfl (b) (off) (xs.length) (c) (k) (4) rfl rfl (hki) Try.underlying86 (by kernel_rfl) (by assumption) (fun _ _ _ _ h => h) ?_
      simp only [Act.put, List.getElem_toArray, List.getElem_cons_zero, List.getElem_cons_succ, List.setIfInBounds_toArray, List.set_cons_zero, List.set_cons_succ]
      refine wpAnyH_load_rep (i := 4) rfl (by kernel_rfl) (by kernel_rfl) (by kernel_rfl) (fun _ _ _ h => h) rfl 34 (.tmp 16) rfl (b) (off + k * 4) rfl cs _ Try.underlying34 HI.out (fun W hW => HC.out W hW) (by assumption) (fun _ _ _ _ h => h) ?_
      simp only [Act.put, List.getElem_toArray, List.getElem_cons_zero, List.getElem_cons_succ, List.setIfInBounds_toArray, List.set_cons_zero, List.set_cons_succ]
      refine wpAnyH_load_rep (i := 5) rfl (by kernel_rfl) (by kernel_rfl) (by kernel_rfl) (fun _ _ _ h => h) rfl 34 (.tmp 3) rfl (w.heap.size + 1) (0) rfl ds _ Try.underlying34 HI'.out (fun W hW => OB.cells0 (HB.out.o1.ext hW)) (by assumption) (fun _ _ _ _ h => h) ?_
      simp only [Act.put, List.getElem_toArray, List.getElem_cons_zero, List.getElem_cons_succ, List.setIfInBounds_toArray, List.set_cons_zero, List.set_cons_succ]
      refine wpAnyH_call (i := 6) (by kernel_rfl) rfl rfl (run_call_func rfl rfl #[.agg ⟨cs⟩, .agg ⟨ds⟩] (by simp only [List.map_toArray, List.map_cons, List.map_nil, Act.eval]; rfl) Try.func110 (by kernel_rfl) (by kernel_rfl) _) (eqGoal_spec z g _ _ _ (HR.out.ext hHeld) (HG.out.ext (hw.trans hHeld))) ?_
      rintro e w1 ⟨rfl, hw1⟩
      have hs1 := Ext.trans hHeld hw1
      refine ⟨_, rfl, hs1, ?_⟩
      simp only [Act.put, List.getElem_toArray, List.getElem_cons_zero, List.getElem_cons_succ, List.setIfInBounds_toArray, List.set_cons_zero, List.set_cons_succ]
      refine wpAnyH_done (by kernel_rfl) ?_ _
      clear hHeld
      have HW1 := Lib.hid (hw.trans hs1)
      have HB1 := Lib.hid (HB.out.ext hs1)
      clear hs1 hw1 hce
      cases hq : GBound.eq z g
      · have HQ := Lib.hid hq
        clear hq
        go_wp2_with fail
        go_roundw
        case rel => exact ⟨k + 1, by omega, by go_num, HW1.out, HB1.out, by show _ = _; rw [HE.out, HST.out]; simp [HQ.out]⟩
        case measure => simp [intOf]; omega
      · have HQ := Lib.hid hq
        clear hq
        go_wp2_with fail
        go_ret
        exact ⟨ret_int (by rw [HE.out, HST.out]; simp [HQ.out]), HW1.out⟩
    · have hkl : k = xs.length := by omega
      go_wp2_with fail
      go_ret
      exact ⟨ret_int (by rw [HE.out, hkl, List.drop_length]; rfl), hw⟩

end Go.Proofs.Ytoifjkggpanceaa
