/- Loops over slices that ask a function of each element. No conditions. -/
import Derived.Test.YtoifjkggpanceaaCtr
import Derived.Test.YtoifjkggpanceaaData
import Derived.Test.YtoifjkggpanceaaPlain
namespace Go.Proofs.Ytoifjkggpanceaa
open Go.RowKit Go.Proofs


set_option maxRecDepth 100000 in
set_option maxHeartbeats 1000000 in
theorem same_206 {α : Type} (tr : α → List Tr) (p : α → α → Bool) (xs ys : List α) (hl : ∀ x, (tr x).length = 3)
    (H : ∀ x ∈ xs, ∀ y ∈ ys, ∀ cs ds w, RepL w (tr x) cs → RepL w (tr y) ds → Calls Try.prog 169 #[.agg ⟨cs⟩, .agg ⟨ds⟩] w fun e w' => e = .returned (.bool (p x y)) ∧ Ext w w')
    (s u : Value) (w : World) (hs : Rep w (.row 3 (xs.map tr)) s) (hu : Rep w (.row 3 (ys.map tr)) u) :
    Calls Try.prog 206 #[s, u] w fun e w' => e = .returned (.bool (eqL p xs ys)) ∧ Ext w w' := by
  obtain ⟨a, cap, rfl, hlc, hm⟩ := hs.shape
  obtain ⟨a', cap', rfl, hlc', hm'⟩ := hu.shape
  unfold maxLen at hm hm'
  rw [List.length_map] at hlc hlc' ⊢
  rw [List.length_map] at *
  by_cases hlen : xs.length = ys.length
  · have HS := Lib.hid hs
    have HU := Lib.hid hu
    have HH := Lib.hid H
    have HL := Lib.hid hl
    rw [← hlen] at hlc' ⊢
    have HLEN := Lib.hid hlen
    clear hs hu H hl hlen
    go_enter Try.func206, Try.ntmps206
    go_wp2_with fail
    go_loopw [5] (fun i wr => ∃ k : Nat, k ≤ xs.length ∧ i = .int .i64 k ∧ Ext w wr ∧ Hid (eqL p xs ys = eqL p (xs.drop k) (ys.drop k))) (fun i _ => xs.length - (intOf i).toNat)
    case atStart => exact ⟨0, Nat.zero_le _, rfl, .refl _, rfl⟩
    case round =>
      obtain ⟨k, hk, rfl, hw, HE⟩ := hrel
      by_cases hlt : k < xs.length
      · have hlt' : k < ys.length := HLEN.out ▸ hlt
        obtain ⟨b, off, cs, rfl, hb, hcs, hc⟩ := (HS.out.ext hw).at2 (k := k) (e := tr xs[k]) (by rw [List.getElem?_map, List.getElem?_eq_getElem hlt]; rfl)
        obtain ⟨b', off', ds, rfl, hb', hds, hd⟩ := (HU.out.ext hw).at2 (k := k) (e := tr ys[k]) (by rw [List.getElem?_map, List.getElem?_eq_getElem hlt']; rfl)
        have HST := Lib.hid (eqL_step (p := p) hlt hlt')
        have HM := Lib.hid (List.getElem_mem hlt)
        have HM' := Lib.hid (List.getElem_mem hlt')
        have HCS := Lib.hid hcs
        have HDS := Lib.hid hds
        have HC := Lib.hid hc
        have HD := Lib.hid hd
        have HI : Hid ((Try.prog.info? 32).map (·.size) = some cs.length) := by rw [← hcs.length, HL.out]; exact isz32
        have HJ : Hid ((Try.prog.info? 32).map (·.size) = some ds.length) := by rw [← hds.length, HL.out]; exact isz32
        clear hcs hds hc hd
        go_wp2_with fail
        have ki : (k : Int) < (xs.length : Int) := by omega
        have k0 : (0 : Int) ≤ (k : Int) := by omega
        refine wp_region_still_tail 8 (by kernel_rfl) (by kernel_rfl) ?_
        simp only [List.take_succ_cons, List.take_zero, List.drop_succ_cons, List.drop_zero]
        change wpStill _ _ wr.drew _ _ _
        repeat (first
          | (refine wpStill_load_rep rfl 32 (.tmp 19) rfl b (off + k * 3) rfl cs _ Try.underlying32 HI.out HC.out ?_; simp only [Act.put])
          | (refine wpStill_load_rep rfl 32 (.tmp 23) rfl b' (off' + k * 3) rfl ds _ Try.underlying32 HJ.out HD.out ?_; simp only [Act.put])
          | still_step)
        refine wpStill_nil ?_
        change wpList _ _ _ _ _ wr.drew
        go_wp2_with fail
        refine (HH.out _ HM.out _ HM'.out _ _ _ (HCS.out.ext (.drew (.refl _))) (HDS.out.ext (.drew (.refl _)))).mono ?_
        rintro e w1 ⟨rfl, hw1⟩
        have HW1 := Lib.hid (hw.trans (.trans (.drew (.refl _)) hw1))
        clear hw1
        cases hp : p xs[k] ys[k]
        · have HP := Lib.hid hp
          clear hp
          go_wp2_with fail
          go_ret
          exact ⟨ret_bool (by rw [HE.out, HST.out, HP.out]; rfl), HW1.out⟩
        · have HP := Lib.hid hp
          clear hp
          go_wp2_with fail
          go_roundw
          case rel => exact ⟨k + 1, by omega, by go_num, HW1.out, by rw [HE.out, HST.out, HP.out]; rfl⟩
          case measure => simp [intOf]; omega
      · have hkl : k = xs.length := by omega
        go_wp2_with fail
        go_ret
        exact ⟨ret_bool (by rw [HE.out, hkl]; exact (eqL_end HLEN.out).symm), hw⟩
  · have hne : ((xs.length : Int) == (ys.length : Int)) = false := by simp; omega
    have hr := Lib.hid (eqL_len (p := p) hlen)
    clear hlen
    go_enter Try.func206, Try.ntmps206
    go_wp2_with fail
    go_ret
    exact ⟨ret_bool hr.out.symm, .refl _⟩


set_option maxRecDepth 100000 in
set_option maxHeartbeats 1000000 in
theorem equalFunc_178 {α : Type} (tr : α → List Tr) (p : α → α → Bool) (xs ys : List α) (g : FuncId) (hg : ∀ (args : Array Value) (w : World), (callFunc g args).run Try.prog w = .ok (.enter g args) w) (hl : ∀ x, (tr x).length = 3)
    (H : ∀ x ∈ xs, ∀ y ∈ ys, ∀ cs ds w, RepL w (tr x) cs → RepL w (tr y) ds → Calls Try.prog g #[.agg ⟨cs⟩, .agg ⟨ds⟩] w fun e w' => e = .returned (.bool (p x y)) ∧ Ext w w')
    (s u : Value) (w : World) (hs : Rep w (.row 3 (xs.map tr)) s) (hu : Rep w (.row 3 (ys.map tr)) u) :
    Calls Try.prog 178 #[s, u, .func (.func g) #[] #[]] w fun e w' => e = .returned (.bool (eqL p xs ys)) ∧ Ext w w' := by
  obtain ⟨a, cap, rfl, hlc, hm⟩ := hs.shape
  obtain ⟨a', cap', rfl, hlc', hm'⟩ := hu.shape
  unfold maxLen at hm hm'
  rw [List.length_map] at hlc hlc' ⊢
  rw [List.length_map] at *
  by_cases hlen : xs.length = ys.length
  · have HS := Lib.hid hs
    have HU := Lib.hid hu
    have HH := Lib.hid H
    have HL := Lib.hid hl
    rw [← hlen] at hlc' ⊢
    have HLEN := Lib.hid hlen
    clear hs hu H hl hlen
    go_enter Try.func178, Try.ntmps178
    go_wp2_with fail
    go_loopw [7, 17] (fun _ i wr => ∃ k : Nat, k ≤ xs.length ∧ i = .int .i64 k ∧ Ext w wr ∧ Hid (eqL p xs ys = eqL p (xs.drop k) (ys.drop k))) (fun _ i _ => xs.length - (intOf i).toNat)
    case atStart => exact ⟨0, Nat.zero_le _, rfl, .refl _, rfl⟩
    case round =>
      obtain ⟨k, hk, rfl, hw, HE⟩ := hrel
      by_cases hlt : k < xs.length
      · have hlt' : k < ys.length := HLEN.out ▸ hlt
        obtain ⟨b, off, cs, rfl, hb, hcs, hc⟩ := (HS.out.ext hw).at2 (k := k) (e := tr xs[k]) (by rw [List.getElem?_map, List.getElem?_eq_getElem hlt]; rfl)
        obtain ⟨b', off', ds, rfl, hb', hds, hd⟩ := (HU.out.ext hw).at2 (k := k) (e := tr ys[k]) (by rw [List.getElem?_map, List.getElem?_eq_getElem hlt']; rfl)
        have HST := Lib.hid (eqL_step (p := p) hlt hlt')
        have HM := Lib.hid (List.getElem_mem hlt)
        have HM' := Lib.hid (List.getElem_mem hlt')
        have HCS := Lib.hid hcs
        have HDS := Lib.hid hds
        have HC := Lib.hid hc
        have HD := Lib.hid hd
        have HCL : Hid (cs.length = 3) := by rw [← hcs.length, HL.out]; rfl
        have HDL : Hid (ds.length = 3) := by rw [← hds.length, HL.out]; rfl
        have HI : Hid ((Try.prog.info? 32).map (·.size) = some cs.length) := by rw [HCL.out]; exact isz32
        have HJ : Hid ((Try.prog.info? 32).map (·.size) = some ds.length) := by rw [HDL.out]; exact isz32
        clear hcs hds hc hd
        go_wp2_with (first
          | (refine wpList_load_rep rfl 32 (.tmp 20) rfl b (off + k * 3) rfl cs _ Try.underlying32 HI.out HC.out ?_)
          | (refine wpList_store_rep rfl 32 (.tmp 8) (.tmp 21) rfl wr.heap.size 0 rfl cs rfl 32 _ (OB.new wr _ _) HI.out (by rw [HCL.out]; exact Nat.le_refl _) HCS.out.one ?_; intro wb hob hgb hzb; rw [splice_whole (by rw [HCL.out]; rfl)] at hob; have HOB := Lib.hid hob; have HXB := Lib.hid (grown_ext (.alloc (.refl wr) _) hgb (Nat.le_refl _)); have HZB : Hid (wr.heap.size < wb.heap.size) := hob.lt; clear hob hgb hzb)
          | (refine wpList_load_rep rfl 32 (.tmp 24) rfl b' (off' + k * 3) rfl ds _ Try.underlying32 HJ.out (cells_ext HXB.out hb' HD.out) ?_)
          | (refine wpList_store_rep rfl 32 (.tmp 9) (.tmp 25) rfl wb.heap.size 0 rfl ds rfl 32 _ (OB.new wb _ _) HJ.out (by rw [HDL.out]; exact Nat.le_refl _) HDS.out.one ?_; intro wc hoc hgc hzc; rw [splice_whole (by rw [HDL.out]; rfl)] at hoc; have HOC := Lib.hid hoc; have HXC := Lib.hid (HXB.out.trans (grown_ext (.alloc (.refl wb) _) hgc (Nat.le_refl _))); have HOD := Lib.hid (HOB.out.ext (grown_ext (.alloc (.refl wb) _) hgc (Nat.le_refl _))); clear hoc hgc hzc)
          | (refine wpList_load_rep rfl 32 (.tmp 8) rfl wr.heap.size 0 rfl cs _ Try.underlying32 HI.out HOD.out.cells0 ?_)
          | (refine wpList_load_rep rfl 32 (.tmp 9) rfl wb.heap.size 0 rfl ds _ Try.underlying32 HJ.out HOC.out.cells0 ?_))
        refine (HH.out _ HM.out _ HM'.out _ _ _ (HCS.out.ext HXC.out) (HDS.out.ext HXC.out)).mono ?_
        rintro e w1 ⟨rfl, hw1⟩
        have HW1 := Lib.hid (hw.trans (HXC.out.trans hw1))
        clear hw1
        cases hp : p xs[k] ys[k]
        · have HP := Lib.hid hp
          clear hp
          go_wp2_with fail
          go_ret
          exact ⟨ret_bool (by rw [HE.out, HST.out, HP.out]; rfl), HW1.out⟩
        · have HP := Lib.hid hp
          clear hp
          go_wp2_with fail
          go_roundw
          case rel => exact ⟨k + 1, by omega, by go_num, HW1.out, by rw [HE.out, HST.out, HP.out]; rfl⟩
          case measure => simp [intOf]; omega
      · have hkl : k = xs.length := by omega
        go_wp2_with fail
        go_ret
        exact ⟨ret_bool (by rw [HE.out, hkl]; exact (eqL_end HLEN.out).symm), hw⟩
  · have hne : ((xs.length : Int) == (ys.length : Int)) = false := by simp; omega
    have hr := Lib.hid (eqL_len (p := p) hlen)
    clear hlen
    go_enter Try.func178, Try.ntmps178
    go_wp2_with fail
    go_ret
    exact ⟨ret_bool hr.out.symm, .refl _⟩


set_option maxRecDepth 100000 in
set_option maxHeartbeats 1000000 in
theorem indexFunc_112 {α : Type} (tr : α → List Tr) (p : α → Bool) (xs : List α) (g : FuncId) (caps : Array Value) (hg : ∀ (args : Array Value) (w : World), (callFunc g args).run Try.prog w = .ok (.enter g args) w) (hl : ∀ x, (tr x).length = 6) (s : Value) (w : World)
    (H : ∀ x ∈ xs, ∀ cs w', Ext w w' → RepL w' (tr x) cs → Calls Try.prog g (#[.agg ⟨cs⟩] ++ caps) w' fun e w'' => e = .returned (.bool (p x)) ∧ Ext w' w'')
    (hs : Rep w (.row 6 (xs.map tr)) s) :
    Calls Try.prog 112 #[s, .func (.func g) #[] caps] w fun e w' => e = .returned (.int .i64 (idxL p xs 0)) ∧ Ext w w' := by
  obtain ⟨a, cap, rfl, hlc, hm⟩ := hs.shape
  unfold maxLen at hm
  rw [List.length_map] at hlc ⊢
  rw [List.length_map] at hs
  have HS := Lib.hid hs
  have HH := Lib.hid H
  have HL := Lib.hid hl
  clear hs H hl
  go_enter Try.func112, Try.ntmps112
  go_wp2_with fail
  go_loopw [5, 8] (fun _ i wr => ∃ k : Nat, k ≤ xs.length ∧ i = .int .i64 k ∧ Ext w wr ∧ Hid (idxL p xs 0 = idxL p (xs.drop k) k)) (fun _ i _ => xs.length - (intOf i).toNat)
  case atStart => exact ⟨0, Nat.zero_le _, rfl, .refl _, rfl⟩
  case round =>
    obtain ⟨k, hk, rfl, hw, HE⟩ := hrel
    by_cases hlt : k < xs.length
    · obtain ⟨b, off, cs, rfl, hb, hcs, hc⟩ := (HS.out.ext hw).at2 (k := k) (e := tr xs[k]) (by rw [List.getElem?_map, List.getElem?_eq_getElem hlt]; rfl)
      have HST := Lib.hid (idxL_step (p := p) hlt)
      have HM := Lib.hid (List.getElem_mem hlt)
      have HCS := Lib.hid hcs
      have HC := Lib.hid hc
      have HI : Hid ((Try.prog.info? 159).map (·.size) = some cs.length) := by rw [← hcs.length, HL.out]; exact isz159
      clear hcs hc
      go_wp2_with (refine wpList_load_rep rfl 159 (.tmp 14) rfl b (off + k * 6) rfl cs _ Try.underlying159 HI.out HC.out ?_)
      refine (HH.out _ HM.out _ _ hw HCS.out).mono ?_
      rintro e w1 ⟨rfl, hw1⟩
      have HW1 := Lib.hid (hw.trans hw1)
      clear hw1
      cases hp : p xs[k]
      · have HP := Lib.hid hp
        clear hp
        go_wp2_with fail
        go_roundw
        case rel => exact ⟨k + 1, by omega, by go_num, HW1.out, by rw [HE.out, HST.out, HP.out]; rfl⟩
        case measure => simp [intOf]; omega
      · have HP := Lib.hid hp
        clear hp
        go_wp2_with fail
        go_ret
        exact ⟨ret_int (by rw [HE.out, HST.out, HP.out]; rfl), HW1.out⟩
    · have hkl : k = xs.length := by omega
      go_wp2_with fail
      go_ret
      exact ⟨ret_int (by rw [HE.out, hkl, List.drop_length]; rfl), hw⟩


set_option maxRecDepth 100000 in
set_option maxHeartbeats 1000000 in
theorem indexFunc_135 {α : Type} (tr : α → List Tr) (p : α → Bool) (xs : List α) (g : FuncId) (caps : Array Value) (hg : ∀ (args : Array Value) (w : World), (callFunc g args).run Try.prog w = .ok (.enter g args) w) (hl : ∀ x, (tr x).length = 4) (s : Value) (w : World)
    (H : ∀ x ∈ xs, ∀ cs w', Ext w w' → RepL w' (tr x) cs → Calls Try.prog g (#[.agg ⟨cs⟩] ++ caps) w' fun e w'' => e = .returned (.bool (p x)) ∧ Ext w' w'')
    (hs : Rep w (.row 4 (xs.map tr)) s) :
    Calls Try.prog 135 #[s, .func (.func g) #[] caps] w fun e w' => e = .returned (.int .i64 (idxL p xs 0)) ∧ Ext w w' := by
  obtain ⟨a, cap, rfl, hlc, hm⟩ := hs.shape
  unfold maxLen at hm
  rw [List.length_map] at hlc ⊢
  rw [List.length_map] at hs
  have HS := Lib.hid hs
  have HH := Lib.hid H
  have HL := Lib.hid hl
  clear hs H hl
  go_enter Try.func135, Try.ntmps135
  go_wp2_with fail
  go_loopw [5, 8] (fun _ i wr => ∃ k : Nat, k ≤ xs.length ∧ i = .int .i64 k ∧ Ext w wr ∧ Hid (idxL p xs 0 = idxL p (xs.drop k) k)) (fun _ i _ => xs.length - (intOf i).toNat)
  case atStart => exact ⟨0, Nat.zero_le _, rfl, .refl _, rfl⟩
  case round =>
    obtain ⟨k, hk, rfl, hw, HE⟩ := hrel
    by_cases hlt : k < xs.length
    · obtain ⟨b, off, cs, rfl, hb, hcs, hc⟩ := (HS.out.ext hw).at2 (k := k) (e := tr xs[k]) (by rw [List.getElem?_map, List.getElem?_eq_getElem hlt]; rfl)
      have HST := Lib.hid (idxL_step (p := p) hlt)
      have HM := Lib.hid (List.getElem_mem hlt)
      have HCS := Lib.hid hcs
      have HC := Lib.hid hc
      have HI : Hid ((Try.prog.info? 34).map (·.size) = some cs.length) := by rw [← hcs.length, HL.out]; exact isz34
      clear hcs hc
      go_wp2_with (refine wpList_load_rep rfl 34 (.tmp 14) rfl b (off + k * 4) rfl cs _ Try.underlying34 HI.out HC.out ?_)
      refine (HH.out _ HM.out _ _ hw HCS.out).mono ?_
      rintro e w1 ⟨rfl, hw1⟩
      have HW1 := Lib.hid (hw.trans hw1)
      clear hw1
      cases hp : p xs[k]
      · have HP := Lib.hid hp
        clear hp
        go_wp2_with fail
        go_roundw
        case rel => exact ⟨k + 1, by omega, by go_num, HW1.out, by rw [HE.out, HST.out, HP.out]; rfl⟩
        case measure => simp [intOf]; omega
      · have HP := Lib.hid hp
        clear hp
        go_wp2_with fail
        go_ret
        exact ⟨ret_int (by rw [HE.out, HST.out, HP.out]; rfl), HW1.out⟩
    · have hkl : k = xs.length := by omega
      go_wp2_with fail
      go_ret
      exact ⟨ret_int (by rw [HE.out, hkl, List.drop_length]; rfl), hw⟩


set_option maxRecDepth 100000 in
set_option maxHeartbeats 1000000 in
theorem containsFunc_128 {α : Type} (tr : α → List Tr) (p : α → Bool) (xs : List α) (g : FuncId) (caps : Array Value) (hg : ∀ (args : Array Value) (w : World), (callFunc g args).run Try.prog w = .ok (.enter g args) w) (hl : ∀ x, (tr x).length = 4) (s : Value) (w : World)
    (H : ∀ x ∈ xs, ∀ cs w', Ext w w' → RepL w' (tr x) cs → Calls Try.prog g (#[.agg ⟨cs⟩] ++ caps) w' fun e w'' => e = .returned (.bool (p x)) ∧ Ext w' w'')
    (hs : Rep w (.row 4 (xs.map tr)) s) :
    Calls Try.prog 128 #[s, .func (.func g) #[] caps] w fun e w' => e = .returned (.bool (xs.any p)) ∧ Ext w w' := by
  have hc := Lib.hid (indexFunc_135 tr p xs g caps hg hl s w H hs)
  have hb := Lib.hid (idxL_any (p := p) xs 0)
  clear H hs hl hg
  go_enter Try.func128, Try.ntmps128
  go_wp2_with fail
  refine hc.out.mono ?_
  rintro e w1 ⟨rfl, hw1⟩
  have HW1 := Lib.hid hw1
  clear hw1
  generalize idxL p xs 0 = q at *
  go_wp2_with fail
  go_ret
  exact ⟨ret_bool hb.out, HW1.out⟩


set_option maxRecDepth 100000 in
set_option maxHeartbeats 1000000 in
theorem indexFunc_255 {α : Type} (tr : α → List Tr) (p : α → Bool) (xs : List α) (g : FuncId) (caps : Array Value) (hg : ∀ (args : Array Value) (w : World), (callFunc g args).run Try.prog w = .ok (.enter g args) w) (hl : ∀ x, (tr x).length = 3) (s : Value) (w : World)
    (H : ∀ x ∈ xs, ∀ cs w', Ext w w' → RepL w' (tr x) cs → Calls Try.prog g (#[.agg ⟨cs⟩] ++ caps) w' fun e w'' => e = .returned (.bool (p x)) ∧ Ext w' w'')
    (hs : Rep w (.row 3 (xs.map tr)) s) :
    Calls Try.prog 255 #[s, .func (.func g) #[] caps] w fun e w' => e = .returned (.int .i64 (idxL p xs 0)) ∧ Ext w w' := by
  obtain ⟨a, cap, rfl, hlc, hm⟩ := hs.shape
  unfold maxLen at hm
  rw [List.length_map] at hlc ⊢
  rw [List.length_map] at hs
  have HS := Lib.hid hs
  have HH := Lib.hid H
  have HL := Lib.hid hl
  clear hs H hl
  go_enter Try.func255, Try.ntmps255
  go_wp2_with fail
  go_loopw [5, 8] (fun _ i wr => ∃ k : Nat, k ≤ xs.length ∧ i = .int .i64 k ∧ Ext w wr ∧ Hid (idxL p xs 0 = idxL p (xs.drop k) k)) (fun _ i _ => xs.length - (intOf i).toNat)
  case atStart => exact ⟨0, Nat.zero_le _, rfl, .refl _, rfl⟩
  case round =>
    obtain ⟨k, hk, rfl, hw, HE⟩ := hrel
    by_cases hlt : k < xs.length
    · obtain ⟨b, off, cs, rfl, hb, hcs, hc⟩ := (HS.out.ext hw).at2 (k := k) (e := tr xs[k]) (by rw [List.getElem?_map, List.getElem?_eq_getElem hlt]; rfl)
      have HST := Lib.hid (idxL_step (p := p) hlt)
      have HM := Lib.hid (List.getElem_mem hlt)
      have HCS := Lib.hid hcs
      have HC := Lib.hid hc
      have HI : Hid ((Try.prog.info? 32).map (·.size) = some cs.length) := by rw [← hcs.length, HL.out]; exact isz32
      clear hcs hc
      go_wp2_with (refine wpList_load_rep rfl 32 (.tmp 14) rfl b (off + k * 3) rfl cs _ Try.underlying32 HI.out HC.out ?_)
      refine (HH.out _ HM.out _ _ hw HCS.out).mono ?_
      rintro e w1 ⟨rfl, hw1⟩
      have HW1 := Lib.hid (hw.trans hw1)
      clear hw1
      cases hp : p xs[k]
      · have HP := Lib.hid hp
        clear hp
        go_wp2_with fail
        go_roundw
        case rel => exact ⟨k + 1, by omega, by go_num, HW1.out, by rw [HE.out, HST.out, HP.out]; rfl⟩
        case measure => simp [intOf]; omega
      · have HP := Lib.hid hp
        clear hp
        go_wp2_with fail
        go_ret
        exact ⟨ret_int (by rw [HE.out, HST.out, HP.out]; rfl), HW1.out⟩
    · have hkl : k = xs.length := by omega
      go_wp2_with fail
      go_ret
      exact ⟨ret_int (by rw [HE.out, hkl, List.drop_length]; rfl), hw⟩


set_option maxRecDepth 100000 in
set_option maxHeartbeats 1000000 in
theorem containsFunc_240 {α : Type} (tr : α → List Tr) (p : α → Bool) (xs : List α) (g : FuncId) (caps : Array Value) (hg : ∀ (args : Array Value) (w : World), (callFunc g args).run Try.prog w = .ok (.enter g args) w) (hl : ∀ x, (tr x).length = 3) (s : Value) (w : World)
    (H : ∀ x ∈ xs, ∀ cs w', Ext w w' → RepL w' (tr x) cs → Calls Try.prog g (#[.agg ⟨cs⟩] ++ caps) w' fun e w'' => e = .returned (.bool (p x)) ∧ Ext w' w'')
    (hs : Rep w (.row 3 (xs.map tr)) s) :
    Calls Try.prog 240 #[s, .func (.func g) #[] caps] w fun e w' => e = .returned (.bool (xs.any p)) ∧ Ext w w' := by
  have hc := Lib.hid (indexFunc_255 tr p xs g caps hg hl s w H hs)
  have hb := Lib.hid (idxL_any (p := p) xs 0)
  clear H hs hl hg
  go_enter Try.func240, Try.ntmps240
  go_wp2_with fail
  refine hc.out.mono ?_
  rintro e w1 ⟨rfl, hw1⟩
  have HW1 := Lib.hid hw1
  clear hw1
  generalize idxL p xs 0 = q at *
  go_wp2_with fail
  go_ret
  exact ⟨ret_bool hb.out, HW1.out⟩


set_option maxRecDepth 100000 in
set_option maxHeartbeats 1000000 in
theorem indexFunc_256 {α : Type} (tr : α → List Tr) (p : α → Bool) (xs : List α) (g : FuncId) (caps : Array Value) (hg : ∀ (args : Array Value) (w : World), (callFunc g args).run Try.prog w = .ok (.enter g args) w) (hl : ∀ x, (tr x).length = 2) (s : Value) (w : World)
    (H : ∀ x ∈ xs, ∀ cs w', Ext w w' → RepL w' (tr x) cs → Calls Try.prog g (#[.agg ⟨cs⟩] ++ caps) w' fun e w'' => e = .returned (.bool (p x)) ∧ Ext w' w'')
    (hs : Rep w (.row 2 (xs.map tr)) s) :
    Calls Try.prog 256 #[s, .func (.func g) #[] caps] w fun e w' => e = .returned (.int .i64 (idxL p xs 0)) ∧ Ext w w' := by
  obtain ⟨a, cap, rfl, hlc, hm⟩ := hs.shape
  unfold maxLen at hm
  rw [List.length_map] at hlc ⊢
  rw [List.length_map] at hs
  have HS := Lib.hid hs
  have HH := Lib.hid H
  have HL := Lib.hid hl
  clear hs H hl
  go_enter Try.func256, Try.ntmps256
  go_wp2_with fail
  go_loopw [5, 8] (fun _ i wr => ∃ k : Nat, k ≤ xs.length ∧ i = .int .i64 k ∧ Ext w wr ∧ Hid (idxL p xs 0 = idxL p (xs.drop k) k)) (fun _ i _ => xs.length - (intOf i).toNat)
  case atStart => exact ⟨0, Nat.zero_le _, rfl, .refl _, rfl⟩
  case round =>
    obtain ⟨k, hk, rfl, hw, HE⟩ := hrel
    by_cases hlt : k < xs.length
    · obtain ⟨b, off, cs, rfl, hb, hcs, hc⟩ := (HS.out.ext hw).at2 (k := k) (e := tr xs[k]) (by rw [List.getElem?_map, List.getElem?_eq_getElem hlt]; rfl)
      have HST := Lib.hid (idxL_step (p := p) hlt)
      have HM := Lib.hid (List.getElem_mem hlt)
      have HCS := Lib.hid hcs
      have HC := Lib.hid hc
      have HI : Hid ((Try.prog.info? 190).map (·.size) = some cs.length) := by rw [← hcs.length, HL.out]; exact isz190
      clear hcs hc
      go_wp2_with (refine wpList_load_rep rfl 190 (.tmp 14) rfl b (off + k * 2) rfl cs _ Try.underlying190 HI.out HC.out ?_)
      refine (HH.out _ HM.out _ _ hw HCS.out).mono ?_
      rintro e w1 ⟨rfl, hw1⟩
      have HW1 := Lib.hid (hw.trans hw1)
      clear hw1
      cases hp : p xs[k]
      · have HP := Lib.hid hp
        clear hp
        go_wp2_with fail
        go_roundw
        case rel => exact ⟨k + 1, by omega, by go_num, HW1.out, by rw [HE.out, HST.out, HP.out]; rfl⟩
        case measure => simp [intOf]; omega
      · have HP := Lib.hid hp
        clear hp
        go_wp2_with fail
        go_ret
        exact ⟨ret_int (by rw [HE.out, HST.out, HP.out]; rfl), HW1.out⟩
    · have hkl : k = xs.length := by omega
      go_wp2_with fail
      go_ret
      exact ⟨ret_int (by rw [HE.out, hkl, List.drop_length]; rfl), hw⟩


set_option maxRecDepth 100000 in
set_option maxHeartbeats 1000000 in
theorem containsFunc_243 {α : Type} (tr : α → List Tr) (p : α → Bool) (xs : List α) (g : FuncId) (caps : Array Value) (hg : ∀ (args : Array Value) (w : World), (callFunc g args).run Try.prog w = .ok (.enter g args) w) (hl : ∀ x, (tr x).length = 2) (s : Value) (w : World)
    (H : ∀ x ∈ xs, ∀ cs w', Ext w w' → RepL w' (tr x) cs → Calls Try.prog g (#[.agg ⟨cs⟩] ++ caps) w' fun e w'' => e = .returned (.bool (p x)) ∧ Ext w' w'')
    (hs : Rep w (.row 2 (xs.map tr)) s) :
    Calls Try.prog 243 #[s, .func (.func g) #[] caps] w fun e w' => e = .returned (.bool (xs.any p)) ∧ Ext w w' := by
  have hc := Lib.hid (indexFunc_256 tr p xs g caps hg hl s w H hs)
  have hb := Lib.hid (idxL_any (p := p) xs 0)
  clear H hs hl hg
  go_enter Try.func243, Try.ntmps243
  go_wp2_with fail
  refine hc.out.mono ?_
  rintro e w1 ⟨rfl, hw1⟩
  have HW1 := Lib.hid hw1
  clear hw1
  generalize idxL p xs 0 = q at *
  go_wp2_with fail
  go_ret
  exact ⟨ret_bool hb.out, HW1.out⟩

end Go.Proofs.Ytoifjkggpanceaa
