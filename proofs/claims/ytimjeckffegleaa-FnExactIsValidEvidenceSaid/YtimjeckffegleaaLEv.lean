/- Evidence: size, depth, equality, validity: what both sides compute. Condition: sizes below 2^40 where a size is counted. -/
import Derived.Test.YtimjeckffegleaaSL
import Derived.BigQuiet
import Derived.Deep.QuietTactic
namespace Go.Proofs.Ytimjeckffegleaa
open Go.RowKit Go.Proofs

mutual
def GEvidence.size : GEvidence → Nat
  | .mk _ _ _ xs => 1 + GEvidence.sizes xs
def GEvidence.sizes : List GEvidence → Nat
  | [] => 0
  | e :: r => GEvidence.size e + GEvidence.sizes r
end
theorem GEvidence.sizes_step {l : List GEvidence} {k : Nat} (h : k < l.length) : GEvidence.sizes (l.drop k) = GEvidence.size l[k] + GEvidence.sizes (l.drop (k + 1)) := by
  rw [List.drop_eq_getElem_cons h, GEvidence.sizes]

def GRef_eq : GInstanceRef → GInstanceRef → Bool
  | .mk p a, .mk q b => p == q && a == b
mutual
def GEvidence.eq : GEvidence → GEvidence → Bool
  | .mk k n r xs, .mk l m s ys => k == l && (n == m && (GRef_eq r s && GEvidence.eqs xs ys))
def GEvidence.eqs : List GEvidence → List GEvidence → Bool
  | [], [] => true
  | a :: l, b :: r => GEvidence.eq a b && GEvidence.eqs l r
  | _, _ => false
end
theorem GEvidence.eqs_eqL : ∀ (l r : List GEvidence), GEvidence.eqs l r = eqL GEvidence.eq l r
  | [], [] => rfl
  | [], _ :: _ => rfl
  | _ :: _, [] => rfl
  | a :: l, b :: r => by rw [GEvidence.eqs, eqL, GEvidence.eqs_eqL l r]

/-- Size is at most one more than what is counted of the tree. -/
theorem GEvidence.size_bulk : ∀ e : GEvidence, GEvidence.size e ≤ 1 + Tr.bulkL e.tr := by
  refine GEvidence.ind fun v0 v1 v2 v3 h => ?_
  have : ∀ l : List GEvidence, (∀ x ∈ l, GEvidence.size x ≤ 1 + Tr.bulkL x.tr) → GEvidence.sizes l ≤ l.length + Tr.bulkAll (GEvidence.trs l) := by
    intro l
    induction l with
    | nil => intro _; simp [GEvidence.sizes]
    | cons a l ih =>
      intro hl
      have h1 := hl a (by simp)
      have h2 := ih fun x hx => hl x (by simp [hx])
      simp only [GEvidence.sizes, GEvidence.trs, Tr.bulkAll, List.length_cons]
      omega
  have := this v3 h
  simp only [GEvidence.size, GEvidence.tr, Tr.bulkL_append, Tr.bulkL, Tr.bulk, GEvidence.trs_len]
  omega

mutual
def GEvidence.depth : GEvidence → Nat
  | .mk _ _ _ xs => GEvidence.depths xs
def GEvidence.depths : List GEvidence → Nat
  | [] => 0
  | e :: r => max (1 + GEvidence.depth e) (GEvidence.depths r)
end
theorem GEvidence.depths_step {l : List GEvidence} {k : Nat} (h : k < l.length) : GEvidence.depths (l.drop k) = max (1 + GEvidence.depth l[k]) (GEvidence.depths (l.drop (k + 1))) := by
  rw [List.drop_eq_getElem_cons h, GEvidence.depths]
theorem GEvidence.depth_size : ∀ e : GEvidence, GEvidence.depth e ≤ GEvidence.size e := by
  refine GEvidence.ind fun v0 v1 v2 v3 h => ?_
  simp only [GEvidence.depth, GEvidence.size]
  induction v3 with
  | nil => simp [GEvidence.depths]
  | cons a l ih =>
    have h1 := h a (by simp)
    have h2 := ih fun x hx => h x (by simp [hx])
    simp only [GEvidence.depths, GEvidence.sizes]
    omega

theorem GEvidence.sizes_drop : ∀ (l : List GEvidence) (k : Nat), GEvidence.sizes (l.drop k) ≤ GEvidence.sizes l
  | [], k => by simp
  | a :: l, 0 => by simp
  | a :: l, k + 1 => by
    have := GEvidence.sizes_drop l k
    simp only [List.drop_succ_cons, GEvidence.sizes]
    omega

set_option maxHeartbeats 1000000 in
theorem evidenceSize_impl : ∀ (x : GEvidence) (cs : List Value) (w : World), RepL w x.tr cs → GEvidence.size x ≤ 1099511627776 →
    Calls Try.prog 17 #[.agg ⟨cs⟩] w fun e w' => e = .returned (.int .i64 (GEvidence.size x)) ∧ Ext w w' := by
  refine GEvidence.ind fun v0 v1 v2 xs ih => ?_
  obtain ⟨p, t⟩ := v2
  intro cs w hr hsz
  obtain ⟨x2, a, c, rfl, -, -, h2, h3⟩ := GEvidence.opened hr
  obtain ⟨rfl, -, -⟩ := GInstanceRef.opened h2
  obtain ⟨hl, hm, -⟩ := h3.lens
  have HS := Lib.hid h3
  have IH := Lib.hid ih
  simp only [GEvidence.size] at hsz
  simp only [GEvidence.size]
  clear hr h2 h3 ih
  simp only [List.cons_append, List.nil_append]
  go_enter Try.func17, Try.ntmps17
  go_wp2_with fail
  go_loopw [3, 9] (fun n i wr => ∃ k m : Nat, k ≤ xs.length ∧ i = .int .i64 k ∧ n = .int .i64 (m : Int) ∧ Ext w wr ∧ 1 ≤ m ∧ Hid (m + GEvidence.sizes (xs.drop k) = 1 + GEvidence.sizes xs)) (fun _ i _ => xs.length - (intOf i).toNat)
  case atStart => exact ⟨0, 1, Nat.zero_le _, rfl, rfl, .alloc (.refl _) _, by omega, by rfl⟩
  case round =>
    obtain ⟨k, m, hk, rfl, rfl, hw, hm1, HE⟩ := hrel
    by_cases hlt : k < xs.length
    · obtain ⟨b, off, cs, rfl, hb, hcs, hc⟩ := (HS.out.ext hw).at2 (k := k) (GEvidence.trs_get hlt)
      have HM := Lib.hid (List.getElem_mem hlt)
      have HCS := Lib.hid hcs
      have HC := Lib.hid hc
      have HI : Hid ((Try.prog.info? 34).map (·.size) = some cs.length) := by rw [← hcs.length, GEvidence.tr_len]; exact isz34
      have HCL : Hid (cs.length = 5) := by rw [← hcs.length, GEvidence.tr_len]; rfl
      clear hcs hc
      have HST := Lib.hid (GEvidence.sizes_step hlt)
      have he := HE.out
      have hst := HST.out
      have hx : GEvidence.size xs[k] ≤ 1099511627776 := by omega
      have hbd : m + GEvidence.size xs[k] ≤ 1099511627777 := by omega
      clear he hst
      go_wp2_with (first
        | (refine wpList_load_rep rfl 34 (.tmp 11) rfl b (off + k * 5) rfl cs _ Try.underlying34 HI.out HC.out ?_)
        | (refine wpList_store_rep rfl 34 (.tmp 5) (.tmp 12) rfl wr.heap.size 0 rfl cs rfl 34 _ (OB.new wr _ _) HI.out (by rw [HCL.out]; exact Nat.le_refl _) HCS.out.one ?_; intro wb hob hgb hzb; rw [splice_whole (by rw [HCL.out]; rfl)] at hob; have HOB := Lib.hid hob; have HXB := Lib.hid (grown_ext (.alloc (.refl wr) _) hgb (Nat.le_refl _)); clear hob hgb hzb)
        | (refine wpList_load_rep rfl 34 (.tmp 5) rfl wr.heap.size 0 rfl cs _ Try.underlying34 HI.out HOB.out.cells0 ?_))
      refine (IH.out _ HM.out _ _ (HCS.out.ext HXB.out) hx).mono ?_
      rintro e w1 ⟨rfl, hw1⟩
      have HW1 := Lib.hid (hw.trans (HXB.out.trans hw1))
      clear hw1
      generalize GEvidence.size xs[k] = z at *
      go_wp2_with fail
      go_roundw
      case rel => exact ⟨k + 1, m + z, by omega, by go_num, by go_num, HW1.out, by omega, by have := HE.out; have := HST.out; show _ = _; omega⟩
      case measure => simp [intOf]; omega
    · have hkl : k = xs.length := by omega
      go_wp2_with fail
      go_ret
      have := HE.out
      rw [hkl, List.drop_length] at this
      simp only [GEvidence.sizes] at this
      exact ⟨ret_int (by omega), hw⟩

set_option maxHeartbeats 1000000 in
theorem evidenceDepth_impl : ∀ (x : GEvidence) (cs : List Value) (w : World), RepL w x.tr cs → GEvidence.size x ≤ 1099511627776 →
    Calls Try.prog 20 #[.agg ⟨cs⟩] w fun e w' => e = .returned (.int .i64 (GEvidence.depth x)) ∧ Ext w w' := by
  refine GEvidence.ind fun v0 v1 v2 xs ih => ?_
  obtain ⟨p, t⟩ := v2
  intro cs w hr hsz
  obtain ⟨x2, a, c, rfl, -, -, h2, h3⟩ := GEvidence.opened hr
  obtain ⟨rfl, -, -⟩ := GInstanceRef.opened h2
  obtain ⟨hl, hm, -⟩ := h3.lens
  have HS := Lib.hid h3
  have IH := Lib.hid ih
  simp only [GEvidence.size] at hsz
  simp only [GEvidence.depth]
  clear hr h2 h3 ih
  simp only [List.cons_append, List.nil_append]
  go_enter Try.func20, Try.ntmps20
  go_wp2_with fail
  go_loopw [3, 9] (fun n i wr => ∃ k m : Nat, k ≤ xs.length ∧ i = .int .i64 k ∧ n = .int .i64 (m : Int) ∧ Ext w wr ∧ m ≤ 1099511627776 ∧ Hid (max m (GEvidence.depths (xs.drop k)) = GEvidence.depths xs)) (fun _ i _ => xs.length - (intOf i).toNat)
  case atStart => exact ⟨0, 0, Nat.zero_le _, rfl, rfl, .alloc (.refl _) _, by omega, by show _ = _; simp⟩
  case round =>
    obtain ⟨k, m, hk, rfl, rfl, hw, hm1, HE⟩ := hrel
    by_cases hlt : k < xs.length
    · obtain ⟨b, off, cs, rfl, hb, hcs, hc⟩ := (HS.out.ext hw).at2 (k := k) (GEvidence.trs_get hlt)
      have HM := Lib.hid (List.getElem_mem hlt)
      have HCS := Lib.hid hcs
      have HC := Lib.hid hc
      have HI : Hid ((Try.prog.info? 34).map (·.size) = some cs.length) := by rw [← hcs.length, GEvidence.tr_len]; exact isz34
      have HCL : Hid (cs.length = 5) := by rw [← hcs.length, GEvidence.tr_len]; rfl
      clear hcs hc
      have HST := Lib.hid (GEvidence.depths_step hlt)
      have hx1 : GEvidence.size xs[k] + GEvidence.sizes (xs.drop (k + 1)) ≤ GEvidence.sizes xs := by rw [← GEvidence.sizes_step hlt]; exact GEvidence.sizes_drop xs k
      have hx : GEvidence.size xs[k] ≤ 1099511627776 := by omega
      have hx2 : GEvidence.size xs[k] < 1099511627776 := by omega
      clear hx1
      go_wp2_with (first
        | (refine wpList_load_rep rfl 34 (.tmp 11) rfl b (off + k * 5) rfl cs _ Try.underlying34 HI.out HC.out ?_)
        | (refine wpList_store_rep rfl 34 (.tmp 5) (.tmp 12) rfl wr.heap.size 0 rfl cs rfl 34 _ (OB.new wr _ _) HI.out (by rw [HCL.out]; exact Nat.le_refl _) HCS.out.one ?_; intro wb hob hgb hzb; rw [splice_whole (by rw [HCL.out]; rfl)] at hob; have HOB := Lib.hid hob; have HXB := Lib.hid (grown_ext (.alloc (.refl wr) _) hgb (Nat.le_refl _)); clear hob hgb hzb)
        | (refine wpList_load_rep rfl 34 (.tmp 5) rfl wr.heap.size 0 rfl cs _ Try.underlying34 HI.out HOB.out.cells0 ?_))
      refine (IH.out _ HM.out _ _ (HCS.out.ext HXB.out) hx).mono ?_
      rintro e w1 ⟨rfl, hw1⟩
      have HW1 := Lib.hid (hw.trans (HXB.out.trans hw1))
      clear hw1
      have hbd : GEvidence.depth xs[k] < 1099511627776 := by have := GEvidence.depth_size xs[k]; omega
      generalize GEvidence.depth xs[k] = z at *
      go_wp2_with fail
      go_roundw
      case rel => exact ⟨k + 1, max m (z + 1), by omega, by go_num, by go_num, HW1.out, by omega, by have := HE.out; have := HST.out; show _ = _; omega⟩
      case measure => simp [intOf]; omega
    · have hkl : k = xs.length := by omega
      go_wp2_with fail
      go_ret
      have := HE.out
      rw [hkl, List.drop_length] at this
      simp only [GEvidence.depths] at this
      exact ⟨ret_int (by omega), hw⟩

set_option maxHeartbeats 1000000 in
theorem l1Max_spec (a b : Nat) (w : World) : Calls Try.prog 36 #[.int .i64 (a : Int), .int .i64 (b : Int)] w fun e w' => e = .returned (.int .i64 ((max a b : Nat) : Int)) ∧ w = w' := by
  by_cases h : b < a
  · have e1 : max a b = a := by omega
    rw [e1]
    clear e1
    have h' : (b : Int) < (a : Int) := by omega
    go_enter Try.func36, Try.ntmps36
    go_wp2
    go_ret
    exact ⟨rfl, rfl⟩
  · have e1 : max a b = b := by omega
    rw [e1]
    clear e1
    have h' : ¬ (b : Int) < (a : Int) := by omega
    go_enter Try.func36, Try.ntmps36
    go_wp2
    go_ret
    exact ⟨rfl, rfl⟩

set_option maxHeartbeats 1000000 in
theorem evidenceSize_spec : ∀ (x : GEvidence) (cs : List Value) (w : World), RepL w x.tr cs → GEvidence.size x ≤ 1099511627776 →
    Calls Try.prog 15 #[.agg ⟨cs⟩] w fun e w' => e = .returned (.int .i64 (GEvidence.size x)) ∧ Ext w w' := by
  refine GEvidence.ind fun v0 v1 v2 xs ih => ?_
  obtain ⟨p, t⟩ := v2
  intro cs w hr hsz
  obtain ⟨x2, a, c, rfl, -, -, h2, h3⟩ := GEvidence.opened hr
  obtain ⟨rfl, -, -⟩ := GInstanceRef.opened h2
  obtain ⟨hl, hm, -⟩ := h3.lens
  have HS := Lib.hid h3
  have IH := Lib.hid ih
  simp only [GEvidence.size] at hsz
  simp only [GEvidence.size]
  clear hr h2 h3 ih
  simp only [List.cons_append, List.nil_append]
  go_enter Try.func15, Try.ntmps15
  go_wp2_with fail
  go_loopw [3, 4] (fun n i wr => ∃ k m : Nat, k ≤ xs.length ∧ i = .int .i64 k ∧ n = .int .i64 (m : Int) ∧ Ext w wr ∧ Hid (OB wr w.heap.size 34 #[.int .i64 v0, .int .i64 v1, .int .i64 p, .int .i64 t, .slice a xs.length c]) ∧ 1 ≤ m ∧ Hid (m + GEvidence.sizes (xs.drop k) = 1 + GEvidence.sizes xs)) (fun _ i _ => xs.length - (intOf i).toNat)
  case atStart => exact ⟨0, 1, Nat.zero_le _, rfl, rfl, .alloc (.refl _) _, OB.new w _ _, by omega, by rfl⟩
  case round =>
    obtain ⟨k, m, hk, rfl, rfl, hw, HB, hm1, HE⟩ := hrel
    have hce := HB.out.cell
    by_cases hlt : k < xs.length
    · obtain ⟨b, off, cs, rfl, hb, hcs, hc⟩ := (HS.out.ext hw).at2 (k := k) (GEvidence.trs_get hlt)
      have HM := Lib.hid (List.getElem_mem hlt)
      have HCS := Lib.hid hcs
      have HC := Lib.hid hc
      have HI : Hid ((Try.prog.info? 34).map (·.size) = some cs.length) := by rw [← hcs.length, GEvidence.tr_len]; exact isz34
      have HCL : Hid (cs.length = 5) := by rw [← hcs.length, GEvidence.tr_len]; rfl
      clear hcs hc
      have HST := Lib.hid (GEvidence.sizes_step hlt)
      have he := HE.out
      have hst := HST.out
      have hx : GEvidence.size xs[k] ≤ 1099511627776 := by omega
      have hbd : m + GEvidence.size xs[k] ≤ 1099511627777 := by omega
      clear he hst
      go_wp2_with (refine wpList_load_rep rfl 34 (.tmp 16) rfl b (off + k * 5) rfl cs _ Try.underlying34 HI.out HC.out ?_)
      refine (IH.out _ HM.out _ _ HCS.out hx).mono ?_
      rintro e w1 ⟨rfl, hw1⟩
      have HW1 := Lib.hid (hw.trans hw1)
      have HB1 := Lib.hid (HB.out.ext hw1)
      clear hw1
      generalize GEvidence.size xs[k] = z at *
      go_wp2_with fail
      go_roundw
      case rel => exact ⟨k + 1, m + z, by omega, by go_num, by go_num, HW1.out, HB1.out, by omega, by have := HE.out; have := HST.out; show _ = _; omega⟩
      case measure => simp [intOf]; omega
    · have hkl : k = xs.length := by omega
      go_wp2_with fail
      go_ret
      have := HE.out
      rw [hkl, List.drop_length] at this
      simp only [GEvidence.sizes] at this
      exact ⟨ret_int (by omega), hw⟩

set_option maxHeartbeats 1000000 in
theorem evidenceDepth_spec : ∀ (x : GEvidence) (cs : List Value) (w : World), RepL w x.tr cs → GEvidence.size x ≤ 1099511627776 →
    Calls Try.prog 19 #[.agg ⟨cs⟩] w fun e w' => e = .returned (.int .i64 (GEvidence.depth x)) ∧ Ext w w' := by
  refine GEvidence.ind fun v0 v1 v2 xs ih => ?_
  obtain ⟨p, t⟩ := v2
  intro cs w hr hsz
  obtain ⟨x2, a, c, rfl, -, -, h2, h3⟩ := GEvidence.opened hr
  obtain ⟨rfl, -, -⟩ := GInstanceRef.opened h2
  obtain ⟨hl, hm, -⟩ := h3.lens
  have HS := Lib.hid h3
  have IH := Lib.hid ih
  simp only [GEvidence.size] at hsz
  simp only [GEvidence.depth]
  clear hr h2 h3 ih
  simp only [List.cons_append, List.nil_append]
  go_enter Try.func19, Try.ntmps19
  go_wp2_with fail
  go_loopw [3, 4] (fun n i wr => ∃ k m : Nat, k ≤ xs.length ∧ i = .int .i64 k ∧ n = .int .i64 (m : Int) ∧ Ext w wr ∧ Hid (OB wr w.heap.size 34 #[.int .i64 v0, .int .i64 v1, .int .i64 p, .int .i64 t, .slice a xs.length c]) ∧ m ≤ 1099511627776 ∧ Hid (max m (GEvidence.depths (xs.drop k)) = GEvidence.depths xs)) (fun _ i _ => xs.length - (intOf i).toNat)
  case atStart => exact ⟨0, 0, Nat.zero_le _, rfl, rfl, .alloc (.refl _) _, OB.new w _ _, by omega, by show _ = _; simp⟩
  case round =>
    obtain ⟨k, m, hk, rfl, rfl, hw, HB, hm1, HE⟩ := hrel
    have hce := HB.out.cell
    by_cases hlt : k < xs.length
    · obtain ⟨b, off, cs, rfl, hb, hcs, hc⟩ := (HS.out.ext hw).at2 (k := k) (GEvidence.trs_get hlt)
      have HM := Lib.hid (List.getElem_mem hlt)
      have HCS := Lib.hid hcs
      have HC := Lib.hid hc
      have HI : Hid ((Try.prog.info? 34).map (·.size) = some cs.length) := by rw [← hcs.length, GEvidence.tr_len]; exact isz34
      have HCL : Hid (cs.length = 5) := by rw [← hcs.length, GEvidence.tr_len]; rfl
      clear hcs hc
      have HST := Lib.hid (GEvidence.depths_step hlt)
      have hx1 : GEvidence.size xs[k] + GEvidence.sizes (xs.drop (k + 1)) ≤ GEvidence.sizes xs := by rw [← GEvidence.sizes_step hlt]; exact GEvidence.sizes_drop xs k
      have hx : GEvidence.size xs[k] ≤ 1099511627776 := by omega
      have hx2 : GEvidence.size xs[k] < 1099511627776 := by omega
      clear hx1
      go_wp2_with (refine wpList_load_rep rfl 34 (.tmp 16) rfl b (off + k * 5) rfl cs _ Try.underlying34 HI.out HC.out ?_)
      refine (IH.out _ HM.out _ _ HCS.out hx).mono ?_
      rintro e w1 ⟨rfl, hw1⟩
      have HW1 := Lib.hid (hw.trans hw1)
      have HB1 := Lib.hid (HB.out.ext hw1)
      clear hw1
      have hbd : GEvidence.depth xs[k] < 1099511627776 := by have := GEvidence.depth_size xs[k]; omega
      generalize GEvidence.depth xs[k] = z at *
      go_wp2_with fail
      rw [show (1 : Int) + (z : Int) = ((1 + z : Nat) : Int) from by omega]
      refine (l1Max_spec m (1 + z) _).mono ?_
      rintro e w2 ⟨rfl, rfl⟩
      go_wp2_with fail
      go_roundw
      case rel => exact ⟨k + 1, max m (1 + z), by omega, by go_num, by rfl, HW1.out, HB1.out, by omega, by have := HE.out; have := HST.out; show _ = _; omega⟩
      case measure => simp [intOf]; omega
    · have hkl : k = xs.length := by omega
      go_wp2_with fail
      go_ret
      have := HE.out
      rw [hkl, List.drop_length] at this
      simp only [GEvidence.depths] at this
      exact ⟨ret_int (by omega), hw⟩

end Go.Proofs.Ytimjeckffegleaa
