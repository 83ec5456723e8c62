/- Types: what the functions on types compute, on both sides. Conditions: sizes below 2^40 where something is counted. -/
import Derived.Test.YtoifjkggpanceaaTyPlain
import Derived.Test.YtoifjkggpanceaaAcc
import Derived.BigQuiet
import Derived.Deep.QuietTactic
namespace Go.Proofs.Ytoifjkggpanceaa
open Go.RowKit Go.Proofs

theorem hasS_step {l : List ByteArray} {s : ByteArray} {k : Nat} (h : k < l.length) : hasS (l.drop k) s = (decide (l[k] = s) || hasS (l.drop (k + 1)) s) := by
  rw [List.drop_eq_getElem_cons h, hasS, List.any_cons]; rfl

set_option maxRecDepth 100000 in
set_option maxHeartbeats 1000000 in
theorem l1Has_spec (l : List ByteArray) (s : ByteArray) (v : Value) (w : World) (h : Rep w (.row 1 (strTrs l)) v) :
    Calls Try.prog 104 #[v, .string s] w fun e w' => e = .returned (.bool (hasS l s)) ∧ w' = w := by
  obtain ⟨a, c, rfl, hl, hm⟩ := h.shape
  rw [strTrs_len] at *
  unfold maxLen at hm
  have HS := Lib.hid h
  clear h
  go_enter Try.func104, Try.ntmps104
  go_wp2_with fail
  go_loopw [5] (fun i wr => ∃ k : Nat, k ≤ l.length ∧ i = .int .i64 k ∧ wr = w ∧ Hid (hasS l s = hasS (l.drop k) s)) (fun i _ => l.length - (intOf i).toNat)
  case atStart => exact ⟨0, Nat.zero_le _, rfl, rfl, rfl⟩
  case round =>
    obtain ⟨k, hk, rfl, rfl, HE⟩ := hrel
    by_cases hlt : k < l.length
    · obtain ⟨b, off, rfl, hb, -, hcell⟩ := HS.out.str hlt
      have HST := Lib.hid (hasS_step (s := s) hlt)
      generalize l[k] = z at *
      go_wp2_with fail
      · rename_i hh
        have hz : z = s := bytes_inj (by simpa using hh)
        go_ret
        exact ⟨ret_bool (by rw [HE.out, HST.out]; simp [hz]), rfl⟩
      · rename_i hh
        have hz : ¬ z = s := fun h => by simp [h] at hh
        go_roundw
        case rel => exact ⟨k + 1, by omega, by go_num, by first | trivial | rfl, by show _ = _; rw [HE.out, HST.out]; simp [hz]⟩
        case measure => simp [intOf]; omega
    · have hkl : k = l.length := by omega
      go_wp2_with fail
      go_ret
      exact ⟨ret_bool (by rw [HE.out, hkl, List.drop_length]; rfl), rfl⟩

set_option maxRecDepth 100000 in
set_option maxHeartbeats 1000000 in
theorem typeSize_impl : ∀ (x : GType) (cs : List Value) (w : World), RepL w x.tr cs → GType.size x ≤ 1099511627776 →
    Calls Try.prog 70 #[.agg ⟨cs⟩] w fun e w' => e = .returned (.int .i64 (GType.size x)) ∧ Ext w w' := by
  refine GType.ind fun v0 v1 xs ih => ?_
  intro cs w hr hsz
  obtain ⟨a, c, rfl, -, -, h3⟩ := GType.opened hr
  obtain ⟨hl, hm, -⟩ := h3.lens
  have HS := Lib.hid h3
  have IH := Lib.hid ih
  simp only [GType.size] at hsz
  simp only [GType.size]
  clear hr h3 ih
  simp only [List.cons_append, List.nil_append]
  go_enter Try.func70, Try.ntmps70
  go_wp2_with fail
  go_loopw [3, 9] (fun n i wr => ∃ k m : Nat, k ≤ xs.length ∧ i = .int .i64 k ∧ n = .int .i64 (m : Int) ∧ Ext w wr ∧ 1 ≤ m ∧ Hid (m + GType.sizes (xs.drop k) = 1 + GType.sizes xs)) (fun _ i _ => xs.length - (intOf i).toNat)
  case atStart => exact ⟨0, 1, Nat.zero_le _, rfl, rfl, .alloc (.refl _) _, by omega, by rfl⟩
  case round =>
    obtain ⟨k, m, hk, rfl, rfl, hw, hm1, HE⟩ := hrel
    by_cases hlt : k < xs.length
    · obtain ⟨b, off, cs, rfl, hb, hcs, hc⟩ := (HS.out.ext hw).at2 (k := k) (GType.trs_get hlt)
      have HM := Lib.hid (List.getElem_mem hlt)
      have HCS := Lib.hid hcs
      have HC := Lib.hid hc
      have HI : Hid ((Try.prog.info? 32).map (·.size) = some cs.length) := by rw [← hcs.length, GType.tr_len]; exact isz32
      have HCL : Hid (cs.length = 3) := by rw [← hcs.length, GType.tr_len]; rfl
      clear hcs hc
      have HST := Lib.hid (GType.sizes_step hlt)
      have he := HE.out
      have hst := HST.out
      have hx : GType.size xs[k] ≤ 1099511627776 := by omega
      have hbd : m + GType.size xs[k] ≤ 1099511627777 := by omega
      clear he hst
      go_wp2_with (first
        | (refine wpList_load_rep rfl 32 (.tmp 11) rfl b (off + k * 3) rfl cs _ Try.underlying32 HI.out HC.out ?_)
        | (refine wpList_store_rep rfl 32 (.tmp 5) (.tmp 12) rfl wr.heap.size 0 rfl cs rfl 32 _ (OB.new wr _ _) HI.out (by rw [HCL.out]; exact Nat.le_refl _) HCS.out.one ?_; intro wb hob hgb hzb; rw [splice_whole (by rw [HCL.out]; rfl)] at hob; have HOB := Lib.hid hob; have HXB := Lib.hid (grown_ext (.alloc (.refl wr) _) hgb (Nat.le_refl _)); clear hob hgb hzb)
        | (refine wpList_load_rep rfl 32 (.tmp 5) rfl wr.heap.size 0 rfl cs _ Try.underlying32 HI.out HOB.out.cells0 ?_))
      refine (IH.out _ HM.out _ _ (HCS.out.ext HXB.out) hx).mono ?_
      rintro e w1 ⟨rfl, hw1⟩
      have HW1 := Lib.hid (hw.trans (HXB.out.trans hw1))
      clear hw1
      generalize GType.size xs[k] = z at *
      go_wp2_with fail
      go_roundw
      case rel => exact ⟨k + 1, m + z, by omega, by go_num, by go_num, HW1.out, by omega, by have := HE.out; have := HST.out; show _ = _; omega⟩
      case measure => simp [intOf]; omega
    · have hkl : k = xs.length := by omega
      go_wp2_with fail
      go_ret
      have := HE.out
      rw [hkl, List.drop_length] at this
      simp only [GType.sizes] at this
      exact ⟨ret_int (by omega), hw⟩

set_option maxRecDepth 100000 in
set_option maxHeartbeats 1000000 in
theorem typeSize_spec : ∀ (x : GType) (cs : List Value) (w : World), RepL w x.tr cs → GType.size x ≤ 1099511627776 →
    Calls Try.prog 84 #[.agg ⟨cs⟩] w fun e w' => e = .returned (.int .i64 (GType.size x)) ∧ Ext w w' := by
  refine GType.ind fun v0 v1 xs ih => ?_
  intro cs w hr hsz
  obtain ⟨a, c, rfl, -, -, h3⟩ := GType.opened hr
  obtain ⟨hl, hm, -⟩ := h3.lens
  have HS := Lib.hid h3
  have IH := Lib.hid ih
  simp only [GType.size] at hsz
  simp only [GType.size]
  clear hr h3 ih
  simp only [List.cons_append, List.nil_append]
  go_enter Try.func84, Try.ntmps84
  go_wp2_with fail
  go_loopw [3, 4] (fun n i wr => ∃ k m : Nat, k ≤ xs.length ∧ i = .int .i64 k ∧ n = .int .i64 (m : Int) ∧ Ext w wr ∧ Hid (OB wr w.heap.size 32 #[.int .i64 v0, .string v1, .slice a xs.length c]) ∧ 1 ≤ m ∧ Hid (m + GType.sizes (xs.drop k) = 1 + GType.sizes xs)) (fun _ i _ => xs.length - (intOf i).toNat)
  case atStart => exact ⟨0, 1, Nat.zero_le _, rfl, rfl, .alloc (.refl _) _, OB.new w _ _, by omega, by rfl⟩
  case round =>
    obtain ⟨k, m, hk, rfl, rfl, hw, HB, hm1, HE⟩ := hrel
    have hce := HB.out.cell
    by_cases hlt : k < xs.length
    · obtain ⟨b, off, cs, rfl, hb, hcs, hc⟩ := (HS.out.ext hw).at2 (k := k) (GType.trs_get hlt)
      have HM := Lib.hid (List.getElem_mem hlt)
      have HCS := Lib.hid hcs
      have HC := Lib.hid hc
      have HI : Hid ((Try.prog.info? 32).map (·.size) = some cs.length) := by rw [← hcs.length, GType.tr_len]; exact isz32
      have HCL : Hid (cs.length = 3) := by rw [← hcs.length, GType.tr_len]; rfl
      clear hcs hc
      have HST := Lib.hid (GType.sizes_step hlt)
      have he := HE.out
      have hst := HST.out
      have hx : GType.size xs[k] ≤ 1099511627776 := by omega
      have hbd : m + GType.size xs[k] ≤ 1099511627777 := by omega
      clear he hst
      go_wp2_with (refine wpList_load_rep rfl 32 (.tmp 16) rfl b (off + k * 3) rfl cs _ Try.underlying32 HI.out HC.out ?_)
      refine (IH.out _ HM.out _ _ HCS.out hx).mono ?_
      rintro e w1 ⟨rfl, hw1⟩
      have HW1 := Lib.hid (hw.trans hw1)
      have HB1 := Lib.hid (HB.out.ext hw1)
      clear hw1
      generalize GType.size xs[k] = z at *
      go_wp2_with fail
      go_roundw
      case rel => exact ⟨k + 1, m + z, by omega, by go_num, by go_num, HW1.out, HB1.out, by omega, by have := HE.out; have := HST.out; show _ = _; omega⟩
      case measure => simp [intOf]; omega
    · have hkl : k = xs.length := by omega
      go_wp2_with fail
      go_ret
      have := HE.out
      rw [hkl, List.drop_length] at this
      simp only [GType.sizes] at this
      exact ⟨ret_int (by omega), hw⟩


theorem GType.counts_size (v : ByteArray) : ∀ l : List GType, GType.counts v l ≤ GType.sizes l
  | [] => by simp [GType.counts, GType.pres, GType.sizes]
  | a :: l => by
    have h1 := GType.counts_size v l
    have h2 := GType.count_size v a
    have h3 := GType.counts_step (v := v) (l := a :: l) (k := 0) (by simp)
    simp only [List.drop_zero, List.getElem_cons_zero, List.drop_succ_cons] at h3
    simp only [GType.sizes]
    omega

set_option maxRecDepth 100000 in
set_option maxHeartbeats 1000000 in
theorem typeCount_spec (v : ByteArray) : ∀ (x : GType) (cs : List Value) (w : World), RepL w x.tr cs → GType.size x ≤ 1099511627776 →
    Calls Try.prog 83 #[.agg ⟨cs⟩, .string v] w fun e w' => e = .returned (.int .i64 (GType.count v x)) ∧ Ext w w' := by
  refine GType.ind fun v0 v1 xs ih => ?_
  intro cs w hr hsz
  obtain ⟨a, c, rfl, -, -, h3⟩ := GType.opened hr
  obtain ⟨hl, hm, -⟩ := h3.lens
  have HS := Lib.hid h3
  have IH := Lib.hid ih
  simp only [GType.size] at hsz
  have HCM := Lib.hid (GType.count_mk v v0 v1 xs)
  have hcs := GType.counts_size v xs
  clear hr h3 ih
  simp only [List.cons_append, List.nil_append]
  have key : ∀ d : Nat, d = (if v0 = 1 ∧ v1 = v then 1 else 0) → Hid (GType.count v (.mk v0 v1 xs) = d + GType.counts v xs) := fun d h => by rw [h]; exact HCM.out
  go_enter Try.func83, Try.ntmps83
  go_wp2_with fail
  · rename_i h1 h2 KK hKK
    have D := key 1 (by have hz : v1 = v := bytes_inj (by simpa using h2); simp [hz, h1])
    clear h2
    subst h1
    go_loopw [5, 6] (fun n i wr => ∃ k m : Nat, k ≤ xs.length ∧ i = .int .i64 k ∧ n = .int .i64 (m : Int) ∧ Ext w wr ∧ Hid (OB wr w.heap.size 32 #[.int .i64 1, .string v1, .slice a xs.length c]) ∧ m ≤ 1 + GType.counts v xs ∧ Hid (m + GType.counts v (xs.drop k) = GType.count v (.mk 1 v1 xs))) (fun _ i _ => xs.length - (intOf i).toNat)
    case atStart => exact ⟨0, 1, Nat.zero_le _, rfl, rfl, .alloc (.refl _) _, OB.new w _ _, by omega, D.out.symm⟩
    case round =>
      obtain ⟨k, m, hk, rfl, rfl, hw, HB, hm1, HE⟩ := hrel
      have hce := HB.out.cell
      by_cases hlt : k < xs.length
      · obtain ⟨b, off, cs, rfl, hb, hcs, hc⟩ := (HS.out.ext hw).at2 (k := k) (GType.trs_get hlt)
        have HM := Lib.hid (List.getElem_mem hlt)
        have HCS := Lib.hid hcs
        have HC := Lib.hid hc
        have HI : Hid ((Try.prog.info? 32).map (·.size) = some cs.length) := by rw [← hcs.length, GType.tr_len]; exact isz32
        have HCL : Hid (cs.length = 3) := by rw [← hcs.length, GType.tr_len]; rfl
        clear hcs hc
        have HST := Lib.hid (GType.counts_step (v := v) hlt)
        have hx1 : GType.size xs[k] + GType.sizes (xs.drop (k + 1)) ≤ GType.sizes xs := by rw [← GType.sizes_step hlt]; exact GType.sizes_drop xs k
        have hx : GType.size xs[k] ≤ 1099511627776 := by omega
        have hbd : GType.count v xs[k] ≤ 1099511627776 := by have := GType.count_size v xs[k]; omega
        clear hx1
        go_wp2_with (refine wpList_load_rep rfl 32 (.tmp 27) rfl b (off + k * 3) rfl cs _ Try.underlying32 HI.out HC.out ?_)
        refine (IH.out _ HM.out _ _ HCS.out hx).mono ?_
        rintro e w1 ⟨rfl, hw1⟩
        have HW1 := Lib.hid (hw.trans hw1)
        have HB1 := Lib.hid (HB.out.ext hw1)
        clear hw1
        have hcm : GType.count v (.mk 1 v1 xs) ≤ 1 + GType.counts v xs := by rw [HCM.out]; split <;> omega
        have HCN := Lib.hid hcm
        clear hcm
        generalize GType.count v xs[k] = z at *
        go_wp2_with fail
        go_roundw
        case rel => exact ⟨k + 1, m + z, by omega, by go_num, by go_num, HW1.out, HB1.out, by have := HE.out; have := HST.out; have := HCN.out; omega, by have := HE.out; have := HST.out; show _ = _; omega⟩
        case measure => simp [intOf]; omega
      · have hkl : k = xs.length := by omega
        go_wp2_with fail
        go_ret
        have := HE.out
        rw [hkl, List.drop_length] at this
        exact ⟨ret_int (by rw [← this]; simp [GType.counts, GType.pres]), hw⟩
  · rename_i h1 h2 KK hKK
    have D := key 0 (by have hz : ¬ v1 = v := (fun h => by simp [h] at h2); simp [hz])
    clear h2
    subst h1
    go_loopw [5, 6] (fun n i wr => ∃ k m : Nat, k ≤ xs.length ∧ i = .int .i64 k ∧ n = .int .i64 (m : Int) ∧ Ext w wr ∧ Hid (OB wr w.heap.size 32 #[.int .i64 1, .string v1, .slice a xs.length c]) ∧ m ≤ 1 + GType.counts v xs ∧ Hid (m + GType.counts v (xs.drop k) = GType.count v (.mk 1 v1 xs))) (fun _ i _ => xs.length - (intOf i).toNat)
    case atStart => exact ⟨0, 0, Nat.zero_le _, rfl, rfl, .alloc (.refl _) _, OB.new w _ _, by omega, D.out.symm⟩
    case round =>
      obtain ⟨k, m, hk, rfl, rfl, hw, HB, hm1, HE⟩ := hrel
      have hce := HB.out.cell
      by_cases hlt : k < xs.length
      · obtain ⟨b, off, cs, rfl, hb, hcs, hc⟩ := (HS.out.ext hw).at2 (k := k) (GType.trs_get hlt)
        have HM := Lib.hid (List.getElem_mem hlt)
        have HCS := Lib.hid hcs
        have HC := Lib.hid hc
        have HI : Hid ((Try.prog.info? 32).map (·.size) = some cs.length) := by rw [← hcs.length, GType.tr_len]; exact isz32
        have HCL : Hid (cs.length = 3) := by rw [← hcs.length, GType.tr_len]; rfl
        clear hcs hc
        have HST := Lib.hid (GType.counts_step (v := v) hlt)
        have hx1 : GType.size xs[k] + GType.sizes (xs.drop (k + 1)) ≤ GType.sizes xs := by rw [← GType.sizes_step hlt]; exact GType.sizes_drop xs k
        have hx : GType.size xs[k] ≤ 1099511627776 := by omega
        have hbd : GType.count v xs[k] ≤ 1099511627776 := by have := GType.count_size v xs[k]; omega
        clear hx1
        go_wp2_with (refine wpList_load_rep rfl 32 (.tmp 27) rfl b (off + k * 3) rfl cs _ Try.underlying32 HI.out HC.out ?_)
        refine (IH.out _ HM.out _ _ HCS.out hx).mono ?_
        rintro e w1 ⟨rfl, hw1⟩
        have HW1 := Lib.hid (hw.trans hw1)
        have HB1 := Lib.hid (HB.out.ext hw1)
        clear hw1
        have hcm : GType.count v (.mk 1 v1 xs) ≤ 1 + GType.counts v xs := by rw [HCM.out]; split <;> omega
        have HCN := Lib.hid hcm
        clear hcm
        generalize GType.count v xs[k] = z at *
        go_wp2_with fail
        go_roundw
        case rel => exact ⟨k + 1, m + z, by omega, by go_num, by go_num, HW1.out, HB1.out, by have := HE.out; have := HST.out; have := HCN.out; omega, by have := HE.out; have := HST.out; show _ = _; omega⟩
        case measure => simp [intOf]; omega
      · have hkl : k = xs.length := by omega
        go_wp2_with fail
        go_ret
        have := HE.out
        rw [hkl, List.drop_length] at this
        exact ⟨ret_int (by rw [← this]; simp [GType.counts, GType.pres]), hw⟩
  · rename_i h1 KK hKK
    have D := key 0 (by simp [h1])
    clear h1
    go_loopw [5, 6] (fun n i wr => ∃ k m : Nat, k ≤ xs.length ∧ i = .int .i64 k ∧ n = .int .i64 (m : Int) ∧ Ext w wr ∧ Hid (OB wr w.heap.size 32 #[.int .i64 v0, .string v1, .slice a xs.length c]) ∧ m ≤ 1 + GType.counts v xs ∧ Hid (m + GType.counts v (xs.drop k) = GType.count v (.mk v0 v1 xs))) (fun _ i _ => xs.length - (intOf i).toNat)
    case atStart => exact ⟨0, 0, Nat.zero_le _, rfl, rfl, .alloc (.refl _) _, OB.new w _ _, by omega, D.out.symm⟩
    case round =>
      obtain ⟨k, m, hk, rfl, rfl, hw, HB, hm1, HE⟩ := hrel
      have hce := HB.out.cell
      by_cases hlt : k < xs.length
      · obtain ⟨b, off, cs, rfl, hb, hcs, hc⟩ := (HS.out.ext hw).at2 (k := k) (GType.trs_get hlt)
        have HM := Lib.hid (List.getElem_mem hlt)
        have HCS := Lib.hid hcs
        have HC := Lib.hid hc
        have HI : Hid ((Try.prog.info? 32).map (·.size) = some cs.length) := by rw [← hcs.length, GType.tr_len]; exact isz32
        have HCL : Hid (cs.length = 3) := by rw [← hcs.length, GType.tr_len]; rfl
        clear hcs hc
        have HST := Lib.hid (GType.counts_step (v := v) hlt)
        have hx1 : GType.size xs[k] + GType.sizes (xs.drop (k + 1)) ≤ GType.sizes xs := by rw [← GType.sizes_step hlt]; exact GType.sizes_drop xs k
        have hx : GType.size xs[k] ≤ 1099511627776 := by omega
        have hbd : GType.count v xs[k] ≤ 1099511627776 := by have := GType.count_size v xs[k]; omega
        clear hx1
        go_wp2_with (refine wpList_load_rep rfl 32 (.tmp 27) rfl b (off + k * 3) rfl cs _ Try.underlying32 HI.out HC.out ?_)
        refine (IH.out _ HM.out _ _ HCS.out hx).mono ?_
        rintro e w1 ⟨rfl, hw1⟩
        have HW1 := Lib.hid (hw.trans hw1)
        have HB1 := Lib.hid (HB.out.ext hw1)
        clear hw1
        have hcm : GType.count v (.mk v0 v1 xs) ≤ 1 + GType.counts v xs := by rw [HCM.out]; split <;> omega
        have HCN := Lib.hid hcm
        clear hcm
        generalize GType.count v xs[k] = z at *
        go_wp2_with fail
        go_roundw
        case rel => exact ⟨k + 1, m + z, by omega, by go_num, by go_num, HW1.out, HB1.out, by have := HE.out; have := HST.out; have := HCN.out; omega, by have := HE.out; have := HST.out; show _ = _; omega⟩
        case measure => simp [intOf]; omega
      · have hkl : k = xs.length := by omega
        go_wp2_with fail
        go_ret
        have := HE.out
        rw [hkl, List.drop_length] at this
        exact ⟨ret_int (by rw [← this]; simp [GType.counts, GType.pres]), hw⟩

end Go.Proofs.Ytoifjkggpanceaa
