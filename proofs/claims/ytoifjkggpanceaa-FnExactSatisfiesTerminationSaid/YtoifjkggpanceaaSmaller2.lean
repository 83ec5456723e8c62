/- BoundIsSmaller, on both sides. Conditions: sizes below 2^40. -/
import Derived.Test.YtoifjkggpanceaaSmaller
import Derived.Test.YtoifjkggpanceaaCount
namespace Go.Proofs.Ytoifjkggpanceaa
open Go.RowKit Go.Proofs

theorem GBound.type_bulk (x : GBound) : GType.size x.gType ≤ 1 + Tr.bulkL x.tr := by
  obtain ⟨a, b⟩ := x
  have := GType.size_bulk b
  simp only [GBound.gType_mk, GBound.tr, Tr.bulkL_append, Tr.bulkL]
  omega
theorem all_drop_step {α : Type} {p : α → Bool} {l : List α} {k : Nat} (h : k < l.length) : (l.drop k).all p = (p l[k] && (l.drop (k + 1)).all p) := by rw [List.drop_eq_getElem_cons h, List.all_cons]

set_option maxRecDepth 100000 in
set_option maxHeartbeats 1000000 in
theorem smaller_impl (x : GBound) (y : GType) (cs ds : List Value) (w : World) (hr : RepL w x.tr cs) (hr' : RepL w y.tr ds) (hsz : GType.size x.gType ≤ 1099511627776) (hsz' : GType.size y ≤ 1099511627776) :
    Calls Try.prog 20 #[.agg ⟨cs⟩, .agg ⟨ds⟩] w fun e w' => e = .returned (.bool (GBound.smaller x y)) ∧ Ext w w' := by
  obtain ⟨bt, b⟩ := x
  obtain ⟨xs, rfl, -, ht⟩ := GBound.opened hr
  simp only [GBound.gType_mk] at hsz
  have HT := Lib.hid ht
  have HY := Lib.hid hr'
  have HL : Hid (xs.length = 3) := by rw [← ht.length, GType.tr_len]; rfl
  have HL' : Hid (ds.length = 3) := by rw [← hr'.length, GType.tr_len]; rfl
  have HI : Hid ((Try.prog.info? 32).map (·.size) = some xs.length) := by rw [HL.out]; exact isz32
  have HI' : Hid ((Try.prog.info? 32).map (·.size) = some ds.length) := by rw [HL'.out]; exact isz32
  clear hr hr' ht
  simp only [List.append_nil, List.cons_append, List.nil_append]
  have h2 := Two.new w 34 32 ⟨(.string bt) :: xs⟩ ⟨ds⟩
  have hc1 : ∀ W, Ext ((w.alloc (.cells ⟨(.string bt) :: xs⟩ 34)).alloc (.cells ⟨ds⟩ 32)) W → ∀ (j : Nat) (v : Value), xs[j]? = some v → W.cell? ⟨w.heap.size, 1 + j, none⟩ = some v := by
    intro W hW j v hv
    rw [(h2.o0.ext hW).cell]
    rw [Nat.add_comm 1 j]
    simpa using hv
  have hc2 : ∀ W, Ext ((w.alloc (.cells ⟨(.string bt) :: xs⟩ 34)).alloc (.cells ⟨ds⟩ 32)) W → ∀ (j : Nat) (v : Value), ds[j]? = some v → W.cell? ⟨w.heap.size + 1, 0 + j, none⟩ = some v := fun W hW => (h2.o1.ext hW).cells0
  have HC1 := Lib.hid hc1
  have HC2 := Lib.hid hc2
  clear h2 hc1 hc2
  go_enter Try.func20, Try.ntmps20
  go_wp2_with (refine wpList_load_rep rfl 32 (.tmp 7) rfl w.heap.size 1 rfl xs _ Try.underlying32 HI.out (HC1.out _ (.refl _)) ?_)
  refine (typeVars_impl b xs _ (HT.out.ext (.alloc (.alloc (.refl _) _) _)) hsz).mono ?_
  rintro e w1 ⟨u, rfl, hw1, ho⟩
  have HW1 := Lib.hid hw1
  have HO := Lib.hid ho.rep
  obtain ⟨ua, uc, rfl, huc, hum⟩ := ho.rep.shape
  rw [strTrs_len] at *
  unfold maxLen at hum
  have hs : GBound.smaller (.mk bt b) y = (b.vars.all (fun v => decide (GType.count v b ≤ GType.count v y)) && decide (GType.size b < GType.size y)) := rfl
  have HSM := Lib.hid hs
  clear hw1 ho hs
  generalize b.vars = vs at *
  go_wp2_with fail
  go_loopw [11] (fun i wr => ∃ k : Nat, k ≤ vs.length ∧ i = .int .i64 k ∧ Ext w1 wr ∧ Hid (GBound.smaller (.mk bt b) y = ((vs.drop k).all (fun v => decide (GType.count v b ≤ GType.count v y)) && decide (GType.size b < GType.size y)))) (fun i _ => vs.length - (intOf i).toNat)
  case atStart => exact ⟨0, Nat.zero_le _, rfl, .refl _, HSM.out⟩
  case round =>
    obtain ⟨k, hk, rfl, hw, HE⟩ := hrel
    have HWR := Lib.hid (HW1.out.trans hw)
    have HW0 : Hid (Ext w wr) := Ext.trans (.alloc (.alloc (.refl _) _) _) HWR.out
    by_cases hlt : k < vs.length
    · obtain ⟨b', off', rfl, hb', -, hcell⟩ := (HO.out.ext hw).str hlt
      have HST := Lib.hid (all_drop_step (p := fun v => decide (GType.count v b ≤ GType.count v y)) hlt)
      have hki : k < vs.length := hlt
      generalize vs[k] = z at *
      go_wp2_with fail
      refine wp_region_held_drew (S := Ext wr) (by kernel_rfl) ?_ (fun hHeld => ?_)
      · exact .drew (.refl _)
      refine wpAnyH_take (i := 0) rfl (by kernel_rfl) (by kernel_rfl) (by kernel_rfl) (fun _ _ _ h => h) (.inl ⟨rfl, fun _ _ => rfl⟩) (by assumption) ?_
      simp only [Act.put, List.getElem_toArray, List.getElem_cons_zero, List.getElem_cons_succ, List.setIfInBounds_toArray, List.set_cons_zero, List.set_cons_succ]
      refine wpAnyH_load_rep (i := 1) rfl (by kernel_rfl) (by kernel_rfl) (by kernel_rfl) (fun _ _ _ h => h) rfl 32 (.tmp 15) rfl (w.heap.size) (1) rfl xs _ Try.underlying32 HI.out (fun W hW => HC1.out W (HWR.out.trans hW)) (by assumption) (fun _ _ _ _ h => h) ?_
      simp only [Act.put, List.getElem_toArray, List.getElem_cons_zero, List.getElem_cons_succ, List.setIfInBounds_toArray, List.set_cons_zero, List.set_cons_succ]
      refine wpAnyH_take (i := 2) rfl (by kernel_rfl) (by kernel_rfl) (by kernel_rfl) (fun _ _ _ h => h) (.inl ⟨rfl, fun _ _ => rfl⟩) (by assumption) ?_
      simp only [Act.put, List.getElem_toArray, List.getElem_cons_zero, List.getElem_cons_succ, List.setIfInBounds_toArray, List.set_cons_zero, List.set_cons_succ]
      refine wpAnyH_load_rep (i := 4) rfl (by kernel_rfl) (by kernel_rfl) (by kernel_rfl) (fun _ _ _ h => h) rfl 32 (.tmp 3) rfl (w.heap.size + 1) (0) rfl ds _ Try.underlying32 HI'.out (fun W hW => HC2.out W (HWR.out.trans hW)) (by assumption) (fun _ _ _ _ h => h) ?_
      simp only [Act.put, List.getElem_toArray, List.getElem_cons_zero, List.getElem_cons_succ, List.setIfInBounds_toArray, List.set_cons_zero, List.set_cons_succ]
      refine wpAnyH_take (i := 5) rfl (by kernel_rfl) (by kernel_rfl) (by kernel_rfl) (fun _ _ _ h => h) (.inl ⟨rfl, fun _ _ => rfl⟩) (by assumption) ?_
      simp only [Act.put, List.getElem_toArray, List.getElem_cons_zero, List.getElem_cons_succ, List.setIfInBounds_toArray, List.set_cons_zero, List.set_cons_succ]
      refine wpAnyH_call (i := 3) (by kernel_rfl) rfl rfl (run_call_func rfl rfl #[.agg ⟨xs⟩, .string z] (by simp only [List.map_toArray, List.map_cons, List.map_nil, Act.eval]; rfl) Try.func87 (by kernel_rfl) (by kernel_rfl) _) (typeCount_impl z b xs _ (HT.out.ext (HW0.out.trans hHeld)) hsz) ?_
      rintro e w2 ⟨rfl, hw2⟩
      have hs1 := Ext.trans hHeld hw2
      refine ⟨_, rfl, hs1, ?_⟩
      simp only [Act.put, List.getElem_toArray, List.getElem_cons_zero, List.getElem_cons_succ, List.setIfInBounds_toArray, List.set_cons_zero, List.set_cons_succ]
      refine wpAnyH_call (i := 6) (by kernel_rfl) rfl rfl (run_call_func rfl rfl #[.agg ⟨ds⟩, .string z] (by simp only [List.map_toArray, List.map_cons, List.map_nil, Act.eval]; rfl) Try.func87 (by kernel_rfl) (by kernel_rfl) _) (typeCount_impl z y ds _ (HY.out.ext (HW0.out.trans hs1)) hsz') ?_
      rintro e w3 ⟨rfl, hw3⟩
      have hs2 := Ext.trans hs1 hw3
      refine ⟨_, rfl, hs2, ?_⟩
      simp only [Act.put, List.getElem_toArray, List.getElem_cons_zero, List.getElem_cons_succ, List.setIfInBounds_toArray, List.set_cons_zero, List.set_cons_succ]
      refine wpAnyH_take (i := 7) rfl (by kernel_rfl) (by kernel_rfl) (by kernel_rfl) (fun _ _ _ h => h) (.inl ⟨rfl, fun _ _ => rfl⟩) (by assumption) ?_
      simp only [Act.put, List.getElem_toArray, List.getElem_cons_zero, List.getElem_cons_succ, List.setIfInBounds_toArray, List.set_cons_zero, List.set_cons_succ]
      refine wpAnyH_done (by kernel_rfl) ?_ _
      clear hHeld hs1
      have HW3 := Lib.hid (hw.trans hs2)
      clear hs2 hw3 hw2
      by_cases hcnt : GType.count z b ≤ GType.count z y
      · have hd : ¬ ((GType.count z y : Int) < (GType.count z b : Int)) := by omega
        have HD : Hid (decide (GType.count z b ≤ GType.count z y) = true) := by show _ = _; simpa using hcnt
        generalize GType.count z y = q1 at *
        generalize GType.count z b = q2 at *
        clear hcnt
        go_wp2_with fail
        go_roundw
        case rel => exact ⟨k + 1, by omega, by go_num, HW3.out, by show _ = _; rw [HE.out, HST.out, HD.out]; rfl⟩
        case measure => simp [intOf]; omega
      · have hd : (GType.count z y : Int) < (GType.count z b : Int) := by omega
        have HD : Hid (decide (GType.count z b ≤ GType.count z y) = false) := by show _ = _; simpa using hcnt
        generalize GType.count z y = q1 at *
        generalize GType.count z b = q2 at *
        clear hcnt
        go_wp2_with fail
        go_ret
        exact ⟨ret_bool (by rw [HE.out, HST.out, HD.out]; rfl), .trans (.alloc (.alloc (.refl _) _) _) (HW1.out.trans HW3.out)⟩
    · have hkl : k = vs.length := by omega
      go_wp2_with fail
      refine wp_region_held_drew (S := Ext wr) (by kernel_rfl) ?_ (fun hHeld => ?_)
      · exact .drew (.refl _)
      refine wpAnyH_take (i := 0) rfl (by kernel_rfl) (by kernel_rfl) (by kernel_rfl) (fun _ _ _ h => h) (.inl ⟨rfl, fun _ _ => rfl⟩) (by assumption) ?_
      simp only [Act.put, List.getElem_toArray, List.getElem_cons_zero, List.getElem_cons_succ, List.setIfInBounds_toArray, List.set_cons_zero, List.set_cons_succ]
      refine wpAnyH_load_rep (i := 1) rfl (by kernel_rfl) (by kernel_rfl) (by kernel_rfl) (fun _ _ _ h => h) rfl 32 (.tmp 24) rfl (w.heap.size) (1) rfl xs _ Try.underlying32 HI.out (fun W hW => HC1.out W (HWR.out.trans hW)) (by assumption) (fun _ _ _ _ h => h) ?_
      simp only [Act.put, List.getElem_toArray, List.getElem_cons_zero, List.getElem_cons_succ, List.setIfInBounds_toArray, List.set_cons_zero, List.set_cons_succ]
      refine wpAnyH_load_rep (i := 3) rfl (by kernel_rfl) (by kernel_rfl) (by kernel_rfl) (fun _ _ _ h => h) rfl 32 (.tmp 3) rfl (w.heap.size + 1) (0) rfl ds _ Try.underlying32 HI'.out (fun W hW => HC2.out W (HWR.out.trans hW)) (by assumption) (fun _ _ _ _ h => h) ?_
      simp only [Act.put, List.getElem_toArray, List.getElem_cons_zero, List.getElem_cons_succ, List.setIfInBounds_toArray, List.set_cons_zero, List.set_cons_succ]
      refine wpAnyH_call (i := 2) (by kernel_rfl) rfl rfl (run_call_func rfl rfl #[.agg ⟨xs⟩] (by simp only [List.map_toArray, List.map_cons, List.map_nil, Act.eval]; rfl) Try.func70 (by kernel_rfl) (by kernel_rfl) _) (typeSize_impl b xs _ (HT.out.ext (HW0.out.trans hHeld)) hsz) ?_
      rintro e w2 ⟨rfl, hw2⟩
      have hs1 := Ext.trans hHeld hw2
      refine ⟨_, rfl, hs1, ?_⟩
      simp only [Act.put, List.getElem_toArray, List.getElem_cons_zero, List.getElem_cons_succ, List.setIfInBounds_toArray, List.set_cons_zero, List.set_cons_succ]
      refine wpAnyH_call (i := 4) (by kernel_rfl) rfl rfl (run_call_func rfl rfl #[.agg ⟨ds⟩] (by simp only [List.map_toArray, List.map_cons, List.map_nil, Act.eval]; rfl) Try.func70 (by kernel_rfl) (by kernel_rfl) _) (typeSize_impl y ds _ (HY.out.ext (HW0.out.trans hs1)) hsz') ?_
      rintro e w3 ⟨rfl, hw3⟩
      have hs2 := Ext.trans hs1 hw3
      refine ⟨_, rfl, hs2, ?_⟩
      simp only [Act.put, List.getElem_toArray, List.getElem_cons_zero, List.getElem_cons_succ, List.setIfInBounds_toArray, List.set_cons_zero, List.set_cons_succ]
      refine wpAnyH_take (i := 5) rfl (by kernel_rfl) (by kernel_rfl) (by kernel_rfl) (fun _ _ _ h => h) (.inl ⟨rfl, fun _ _ => rfl⟩) (by assumption) ?_
      simp only [Act.put, List.getElem_toArray, List.getElem_cons_zero, List.getElem_cons_succ, List.setIfInBounds_toArray, List.set_cons_zero, List.set_cons_succ]
      refine wpAnyH_take (i := 6) rfl (by kernel_rfl) (by kernel_rfl) (by kernel_rfl) (fun _ _ _ h => h) (.inl ⟨rfl, fun _ _ => rfl⟩) (by assumption) ?_
      simp only [Act.put, List.getElem_toArray, List.getElem_cons_zero, List.getElem_cons_succ, List.setIfInBounds_toArray, List.set_cons_zero, List.set_cons_succ]
      refine wpAnyH_done (by kernel_rfl) ?_ _
      clear hHeld hs1
      have HW3 := Lib.hid (hw.trans hs2)
      clear hs2 hw3 hw2
      go_wp2_with fail
      go_ret
      refine ⟨ret_bool ?_, .trans (.alloc (.alloc (.refl _) _) _) (HW1.out.trans HW3.out)⟩
      rw [HE.out, hkl, List.drop_length]
      simp

set_option maxRecDepth 100000 in
set_option maxHeartbeats 1000000 in
theorem smaller_spec (x : GBound) (y : GType) (cs ds : List Value) (w : World) (hr : RepL w x.tr cs) (hr' : RepL w y.tr ds) (hsz : GType.size x.gType ≤ 1099511627776) (hsz' : GType.size y ≤ 1099511627776) :
    Calls Try.prog 17 #[.agg ⟨cs⟩, .agg ⟨ds⟩] w fun e w' => e = .returned (.bool (GBound.smaller x y)) ∧ Ext w w' := by
  obtain ⟨bt, b⟩ := x
  obtain ⟨xs, rfl, -, ht⟩ := GBound.opened hr
  simp only [GBound.gType_mk] at hsz
  have HT := Lib.hid ht
  have HY := Lib.hid hr'
  have HL : Hid (xs.length = 3) := by rw [← ht.length, GType.tr_len]; rfl
  have HL' : Hid (ds.length = 3) := by rw [← hr'.length, GType.tr_len]; rfl
  have HI : Hid ((Try.prog.info? 32).map (·.size) = some xs.length) := by rw [HL.out]; exact isz32
  have HI' : Hid ((Try.prog.info? 32).map (·.size) = some ds.length) := by rw [HL'.out]; exact isz32
  clear hr hr' ht
  simp only [List.append_nil, List.cons_append, List.nil_append]
  have h2 := Two.new w 34 32 ⟨(.string bt) :: xs⟩ ⟨ds⟩
  have hc1 : ∀ W, Ext ((w.alloc (.cells ⟨(.string bt) :: xs⟩ 34)).alloc (.cells ⟨ds⟩ 32)) W → ∀ (j : Nat) (v : Value), xs[j]? = some v → W.cell? ⟨w.heap.size, 1 + j, none⟩ = some v := by
    intro W hW j v hv
    rw [(h2.o0.ext hW).cell]
    rw [Nat.add_comm 1 j]
    simpa using hv
  have hc2 : ∀ W, Ext ((w.alloc (.cells ⟨(.string bt) :: xs⟩ 34)).alloc (.cells ⟨ds⟩ 32)) W → ∀ (j : Nat) (v : Value), ds[j]? = some v → W.cell? ⟨w.heap.size + 1, 0 + j, none⟩ = some v := fun W hW => (h2.o1.ext hW).cells0
  have HC1 := Lib.hid hc1
  have HC2 := Lib.hid hc2
  clear h2 hc1 hc2
  go_enter Try.func17, Try.ntmps17
  go_wp2_with (refine wpList_load_rep rfl 32 (.tmp 7) rfl w.heap.size 1 rfl xs _ Try.underlying32 HI.out (HC1.out _ (.refl _)) ?_)
  refine (typeVars_spec b xs _ (HT.out.ext (.alloc (.alloc (.refl _) _) _)) hsz).mono ?_
  rintro e w1 ⟨u, rfl, hw1, ho⟩
  have HW1 := Lib.hid hw1
  have HO := Lib.hid ho.rep
  obtain ⟨ua, uc, rfl, huc, hum⟩ := ho.rep.shape
  rw [strTrs_len] at *
  unfold maxLen at hum
  have hs : GBound.smaller (.mk bt b) y = (b.vars.all (fun v => decide (GType.count v b ≤ GType.count v y)) && decide (GType.size b < GType.size y)) := rfl
  have HSM := Lib.hid hs
  clear hw1 ho hs
  generalize b.vars = vs at *
  go_wp2_with fail
  go_loopw [6] (fun i wr => ∃ k : Nat, k ≤ vs.length ∧ i = .int .i64 k ∧ Ext w1 wr ∧ Hid (GBound.smaller (.mk bt b) y = ((vs.drop k).all (fun v => decide (GType.count v b ≤ GType.count v y)) && decide (GType.size b < GType.size y)))) (fun i _ => vs.length - (intOf i).toNat)
  case atStart => exact ⟨0, Nat.zero_le _, rfl, .refl _, HSM.out⟩
  case round =>
    obtain ⟨k, hk, rfl, hw, HE⟩ := hrel
    have HWR := Lib.hid (HW1.out.trans hw)
    have HW0 : Hid (Ext w wr) := Ext.trans (.alloc (.alloc (.refl _) _) _) HWR.out
    by_cases hlt : k < vs.length
    · obtain ⟨b', off', rfl, hb', -, hcell⟩ := (HO.out.ext hw).str hlt
      have HST := Lib.hid (all_drop_step (p := fun v => decide (GType.count v b ≤ GType.count v y)) hlt)
      have hki : k < vs.length := hlt
      generalize vs[k] = z at *
      have HCELL : Hid (∀ W, Ext wr W → W.cell? ⟨b', off' + k * 1, none⟩ = some (.string z)) := fun W hW => by rw [Nat.mul_one]; exact (hW.cell (p := ⟨b', off' + k, none⟩) hb').trans hcell
      go_wp2_with fail
      refine wp_region_held_drew (S := Ext wr) (by kernel_rfl) ?_ (fun hHeld => ?_)
      · exact .drew (.refl _)
      refine wpAnyH_take (i := 0) rfl (by kernel_rfl) (by kernel_rfl) (by kernel_rfl) (fun _ _ _ h => h) (.inl ⟨rfl, fun _ _ => rfl⟩) (by assumption) ?_
      simp only [Act.put, List.getElem_toArray, List.getElem_cons_zero, List.getElem_cons_succ, List.setIfInBounds_toArray, List.set_cons_zero, List.set_cons_succ]
      refine wpAnyH_load_rep (i := 1) rfl (by kernel_rfl) (by kernel_rfl) (by kernel_rfl) (fun _ _ _ h => h) rfl 32 (.tmp 16) rfl (w.heap.size) (1) rfl xs _ Try.underlying32 HI.out (fun W hW => HC1.out W (HWR.out.trans hW)) (by assumption) (fun _ _ _ _ h => h) ?_
      simp only [Act.put, List.getElem_toArray, List.getElem_cons_zero, List.getElem_cons_succ, List.setIfInBounds_toArray, List.set_cons_zero, List.set_cons_succ]
      refine wpAnyH_take (i := 2) rfl (by kernel_rfl) (by kernel_rfl) (by kernel_rfl) (fun _ _ _ h => h) (.inl ⟨rfl, fun _ _ => rfl⟩) (by assumption) ?_
      simp only [Act.put, List.getElem_toArray, List.getElem_cons_zero, List.getElem_cons_succ, List.setIfInBounds_toArray, List.set_cons_zero, List.set_cons_succ]
      refine wpAnyH_take (i := 3) rfl (by kernel_rfl) (by kernel_rfl) (by kernel_rfl) (fun _ _ _ h => h) (.inl ⟨rfl, fun _ _ => rfl⟩) (by assumption) ?_
      simp only [Act.put, List.getElem_toArray, List.getElem_cons_zero, List.getElem_cons_succ, List.setIfInBounds_toArray, List.set_cons_zero, List.set_cons_succ]
      refine wpAnyH_index (i := 4) rfl (by kernel_rfl) (by kernel_rfl) (by kernel_rfl) rfl 66 (.tmp 18) (.tmp 19) rfl (b') (off') (vs.length) (uc) (k) (1) rfl rfl (hki) Try.underlying66 (by kernel_rfl) (by assumption) (fun _ _ _ _ h => h) ?_
      simp only [Act.put, List.getElem_toArray, List.getElem_cons_zero, List.getElem_cons_succ, List.setIfInBounds_toArray, List.set_cons_zero, List.set_cons_succ]
      refine wpAnyH_cell (i := 5) rfl (by kernel_rfl) (by kernel_rfl) (by kernel_rfl) rfl 9 (.tmp 20) rfl (b') (off' + k * 1) rfl (.string z) _ Try.underlying9 rfl (fun W hW => HCELL.out W hW) (by assumption) (fun _ _ _ _ h => h) ?_
      simp only [Act.put, List.getElem_toArray, List.getElem_cons_zero, List.getElem_cons_succ, List.setIfInBounds_toArray, List.set_cons_zero, List.set_cons_succ]
      refine wpAnyH_load_rep (i := 7) rfl (by kernel_rfl) (by kernel_rfl) (by kernel_rfl) (fun _ _ _ h => h) rfl 32 (.tmp 3) rfl (w.heap.size + 1) (0) rfl ds _ Try.underlying32 HI'.out (fun W hW => HC2.out W (HWR.out.trans hW)) (by assumption) (fun _ _ _ _ h => h) ?_
      simp only [Act.put, List.getElem_toArray, List.getElem_cons_zero, List.getElem_cons_succ, List.setIfInBounds_toArray, List.set_cons_zero, List.set_cons_succ]
      refine wpAnyH_take (i := 8) rfl (by kernel_rfl) (by kernel_rfl) (by kernel_rfl) (fun _ _ _ h => h) (.inl ⟨rfl, fun _ _ => rfl⟩) (by assumption) ?_
      simp only [Act.put, List.getElem_toArray, List.getElem_cons_zero, List.getElem_cons_succ, List.setIfInBounds_toArray, List.set_cons_zero, List.set_cons_succ]
      refine wpAnyH_take (i := 9) rfl (by kernel_rfl) (by kernel_rfl) (by kernel_rfl) (fun _ _ _ h => h) (.inl ⟨rfl, fun _ _ => rfl⟩) (by assumption) ?_
      simp only [Act.put, List.getElem_toArray, List.getElem_cons_zero, List.getElem_cons_succ, List.setIfInBounds_toArray, List.set_cons_zero, List.set_cons_succ]
      refine wpAnyH_index (i := 10) rfl (by kernel_rfl) (by kernel_rfl) (by kernel_rfl) rfl 66 (.tmp 24) (.tmp 25) rfl (b') (off') (vs.length) (uc) (k) (1) rfl rfl (hki) Try.underlying66 (by kernel_rfl) (by assumption) (fun _ _ _ _ h => h) ?_
      simp only [Act.put, List.getElem_toArray, List.getElem_cons_zero, List.getElem_cons_succ, List.setIfInBounds_toArray, List.set_cons_zero, List.set_cons_succ]
      refine wpAnyH_cell (i := 11) rfl (by kernel_rfl) (by kernel_rfl) (by kernel_rfl) rfl 9 (.tmp 26) rfl (b') (off' + k * 1) rfl (.string z) _ Try.underlying9 rfl (fun W hW => HCELL.out W hW) (by assumption) (fun _ _ _ _ h => h) ?_
      simp only [Act.put, List.getElem_toArray, List.getElem_cons_zero, List.getElem_cons_succ, List.setIfInBounds_toArray, List.set_cons_zero, List.set_cons_succ]
      refine wpAnyH_call (i := 6) (by kernel_rfl) rfl rfl (run_call_func rfl rfl #[.agg ⟨xs⟩, .string z] (by simp only [List.map_toArray, List.map_cons, List.map_nil, Act.eval]; rfl) Try.func83 (by kernel_rfl) (by kernel_rfl) _) (typeCount_spec z b xs _ (HT.out.ext (HW0.out.trans hHeld)) hsz) ?_
      rintro e w2 ⟨rfl, hw2⟩
      have hs1 := Ext.trans hHeld hw2
      refine ⟨_, rfl, hs1, ?_⟩
      simp only [Act.put, List.getElem_toArray, List.getElem_cons_zero, List.getElem_cons_succ, List.setIfInBounds_toArray, List.set_cons_zero, List.set_cons_succ]
      refine wpAnyH_call (i := 12) (by kernel_rfl) rfl rfl (run_call_func rfl rfl #[.agg ⟨ds⟩, .string z] (by simp only [List.map_toArray, List.map_cons, List.map_nil, Act.eval]; rfl) Try.func83 (by kernel_rfl) (by kernel_rfl) _) (typeCount_spec z y ds _ (HY.out.ext (HW0.out.trans hs1)) hsz') ?_
      rintro e w3 ⟨rfl, hw3⟩
      have hs2 := Ext.trans hs1 hw3
      refine ⟨_, rfl, hs2, ?_⟩
      simp only [Act.put, List.getElem_toArray, List.getElem_cons_zero, List.getElem_cons_succ, List.setIfInBounds_toArray, List.set_cons_zero, List.set_cons_succ]
      refine wpAnyH_take (i := 13) rfl (by kernel_rfl) (by kernel_rfl) (by kernel_rfl) (fun _ _ _ h => h) (.inl ⟨rfl, fun _ _ => rfl⟩) (by assumption) ?_
      simp only [Act.put, List.getElem_toArray, List.getElem_cons_zero, List.getElem_cons_succ, List.setIfInBounds_toArray, List.set_cons_zero, List.set_cons_succ]
      refine wpAnyH_done (by kernel_rfl) ?_ _
      clear hHeld hs1
      have HW3 := Lib.hid (hw.trans hs2)
      clear hs2 hw3 hw2
      by_cases hcnt : GType.count z b ≤ GType.count z y
      · have hd : ¬ ((GType.count z y : Int) < (GType.count z b : Int)) := by omega
        have HD : Hid (decide (GType.count z b ≤ GType.count z y) = true) := by show _ = _; simpa using hcnt
        generalize GType.count z y = q1 at *
        generalize GType.count z b = q2 at *
        clear hcnt
        go_wp2_with fail
        go_roundw
        case rel => exact ⟨k + 1, by omega, by go_num, HW3.out, by show _ = _; rw [HE.out, HST.out, HD.out]; rfl⟩
        case measure => simp [intOf]; omega
      · have hd : (GType.count z y : Int) < (GType.count z b : Int) := by omega
        have HD : Hid (decide (GType.count z b ≤ GType.count z y) = false) := by show _ = _; simpa using hcnt
        generalize GType.count z y = q1 at *
        generalize GType.count z b = q2 at *
        clear hcnt
        go_wp2_with fail
        go_ret
        exact ⟨ret_bool (by rw [HE.out, HST.out, HD.out]; rfl), .trans (.alloc (.alloc (.refl _) _) _) (HW1.out.trans HW3.out)⟩
    · have hkl : k = vs.length := by omega
      go_wp2_with fail
      refine wp_region_held_drew (S := Ext wr) (by kernel_rfl) ?_ (fun hHeld => ?_)
      · exact .drew (.refl _)
      refine wpAnyH_take (i := 0) rfl (by kernel_rfl) (by kernel_rfl) (by kernel_rfl) (fun _ _ _ h => h) (.inl ⟨rfl, fun _ _ => rfl⟩) (by assumption) ?_
      simp only [Act.put, List.getElem_toArray, List.getElem_cons_zero, List.getElem_cons_succ, List.setIfInBounds_toArray, List.set_cons_zero, List.set_cons_succ]
      refine wpAnyH_load_rep (i := 1) rfl (by kernel_rfl) (by kernel_rfl) (by kernel_rfl) (fun _ _ _ h => h) rfl 32 (.tmp 30) rfl (w.heap.size) (1) rfl xs _ Try.underlying32 HI.out (fun W hW => HC1.out W (HWR.out.trans hW)) (by assumption) (fun _ _ _ _ h => h) ?_
      simp only [Act.put, List.getElem_toArray, List.getElem_cons_zero, List.getElem_cons_succ, List.setIfInBounds_toArray, List.set_cons_zero, List.set_cons_succ]
      refine wpAnyH_load_rep (i := 3) rfl (by kernel_rfl) (by kernel_rfl) (by kernel_rfl) (fun _ _ _ h => h) rfl 32 (.tmp 3) rfl (w.heap.size + 1) (0) rfl ds _ Try.underlying32 HI'.out (fun W hW => HC2.out W (HWR.out.trans hW)) (by assumption) (fun _ _ _ _ h => h) ?_
      simp only [Act.put, List.getElem_toArray, List.getElem_cons_zero, List.getElem_cons_succ, List.setIfInBounds_toArray, List.set_cons_zero, List.set_cons_succ]
      refine wpAnyH_call (i := 2) (by kernel_rfl) rfl rfl (run_call_func rfl rfl #[.agg ⟨xs⟩] (by simp only [List.map_toArray, List.map_cons, List.map_nil, Act.eval]; rfl) Try.func84 (by kernel_rfl) (by kernel_rfl) _) (typeSize_spec b xs _ (HT.out.ext (HW0.out.trans hHeld)) hsz) ?_
      rintro e w2 ⟨rfl, hw2⟩
      have hs1 := Ext.trans hHeld hw2
      refine ⟨_, rfl, hs1, ?_⟩
      simp only [Act.put, List.getElem_toArray, List.getElem_cons_zero, List.getElem_cons_succ, List.setIfInBounds_toArray, List.set_cons_zero, List.set_cons_succ]
      refine wpAnyH_call (i := 4) (by kernel_rfl) rfl rfl (run_call_func rfl rfl #[.agg ⟨ds⟩] (by simp only [List.map_toArray, List.map_cons, List.map_nil, Act.eval]; rfl) Try.func84 (by kernel_rfl) (by kernel_rfl) _) (typeSize_spec y ds _ (HY.out.ext (HW0.out.trans hs1)) hsz') ?_
      rintro e w3 ⟨rfl, hw3⟩
      have hs2 := Ext.trans hs1 hw3
      refine ⟨_, rfl, hs2, ?_⟩
      simp only [Act.put, List.getElem_toArray, List.getElem_cons_zero, List.getElem_cons_succ, List.setIfInBounds_toArray, List.set_cons_zero, List.set_cons_succ]
      refine wpAnyH_take (i := 5) rfl (by kernel_rfl) (by kernel_rfl) (by kernel_rfl) (fun _ _ _ h => h) (.inl ⟨rfl, fun _ _ => rfl⟩) (by assumption) ?_
      simp only [Act.put, List.getElem_toArray, List.getElem_cons_zero, List.getElem_cons_succ, List.setIfInBounds_toArray, List.set_cons_zero, List.set_cons_succ]
      refine wpAnyH_take (i := 6) rfl (by kernel_rfl) (by kernel_rfl) (by kernel_rfl) (fun _ _ _ h => h) (.inl ⟨rfl, fun _ _ => rfl⟩) (by assumption) ?_
      simp only [Act.put, List.getElem_toArray, List.getElem_cons_zero, List.getElem_cons_succ, List.setIfInBounds_toArray, List.set_cons_zero, List.set_cons_succ]
      refine wpAnyH_done (by kernel_rfl) ?_ _
      clear hHeld hs1
      have HW3 := Lib.hid (hw.trans hs2)
      clear hs2 hw3 hw2
      go_wp2_with fail
      go_ret
      refine ⟨ret_bool ?_, .trans (.alloc (.alloc (.refl _) _) _) (HW1.out.trans HW3.out)⟩
      rw [HE.out, hkl, List.drop_length]
      simp

end Go.Proofs.Ytoifjkggpanceaa
