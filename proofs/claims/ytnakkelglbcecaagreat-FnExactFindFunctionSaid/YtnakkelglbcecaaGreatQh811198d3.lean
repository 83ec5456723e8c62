/- Words, rules and walks of several kinds, laid together: Marks, Pm, Pm2, Pm3, Pm4. No conditions but those that each theorem states. -/
import Derived.Test.YtnakkelglbcecaaGreatQhd8db69fa
import Derived.Test.YtnakkelglbcecaaGreatQh040be154
import Derived.WalkArith
import Derived.WideShapes4
import Derived.IntWalk
import Derived.Deep.AppendSrc
set_option linter.unusedSimpArgs false
set_option linter.unusedVariables false
namespace Go.Proofs.YtnakkelglbcecaaGreat
open Go.RowKit Go.Proofs

def MarkSC (f : FuncId) (sz : Nat) (es : List (List Tr)) : Prop := ∀ (s : Value) (kz : Int) (k : Nat) (S : Nat → Prop) (w : World), kz = (k : Int) → Own w (.row sz es) s S → (∀ x, S x → x < w.heap.size) → k + Tr.cntE es ≤ 1152921504606846976 →
  Calls Tryz.prog f #[s, .int .i64 kz] w fun e w' => e = .returned (.int .i64 ((k + Tr.cntE es : Nat) : Int)) ∧ Own w' (.row sz (Tr.markE es k)) s S ∧ Chg S w w'
def HeldSC (f : FuncId) (sz : Nat) (es : List (List Tr)) : Prop := ∀ (s : Value) (kz : Int) (k : Nat) (w : World), kz = (k : Int) → Rep w (.row sz (Tr.markE es k)) s → k + Tr.cntE es ≤ 1152921504606846976 →
  Calls Tryz.prog f #[s, .int .i64 kz] w fun e w' => e = .returned (.int .i64 ((k + Tr.cntE es : Nat) : Int)) ∧ Ext w w'
def MarkC (f : FuncId) (ts : List Tr) : Prop := ∀ (cs : List Value) (kz : Int) (k : Nat) (S : Nat → Prop) (w : World), kz = (k : Int) → OwnL w ts cs S → (∀ x, S x → x < w.heap.size) → k + Tr.topN ts ≤ 1152921504606846976 →
  Calls Tryz.prog f #[.agg ⟨cs⟩, .int .i64 kz] w fun e w' => e = .returned (.int .i64 ((k + Tr.topN ts : Nat) : Int)) ∧ OwnL w' (Tr.topL ts k) cs S ∧ Chg S w w'
def HeldC (f : FuncId) (ts : List Tr) : Prop := ∀ (cs : List Value) (kz : Int) (k : Nat) (w : World), kz = (k : Int) → RepL w (Tr.topL ts k) cs → k + Tr.topN ts ≤ 1152921504606846976 →
  Calls Tryz.prog f #[.agg ⟨cs⟩, .int .i64 kz] w fun e w' => e = .returned (.int .i64 ((k + Tr.topN ts : Nat) : Int)) ∧ Ext w w'
theorem boolMark (a : Int) (k : Nat) (h : a = (k : Int)) : Value.bool (Int.tmod a 3 == 0) = Value.bool (k % 3 == 0) := by
  subst h
  have h1 : Int.tmod (k : Int) 3 = ((k % 3 : Nat) : Int) := by rw [Int.tmod_eq_emod_of_nonneg (by omega)]; omega
  rw [h1]
  congr 1
  rw [Bool.eq_iff_iff]
  simp
  try omega
set_option maxRecDepth 100000 in
set_option maxHeartbeats 2000000 in
theorem markText_any (kz : Int) (k : Nat) (w : World) (hz : kz = (k : Int)) (hk : k ≤ 2305843009213693952) :
    Calls Tryz.prog 94 #[.int .i64 kz] w fun e w' => e = .returned (.string (mtext k)) ∧ Ext w w' := by
  subst hz
  by_cases h0 : k = 0
  · subst h0
    go_enter Tryz.func94, Tryz.ntmps94
    go_wp2_with fail
    go_ret
    exact ⟨rfl, .refl _⟩
  · have hp : ¬ ((k : Int) ≤ 0) := by omega
    have HK : Hid (mtext k = ⟨((109 : UInt8) :: digits k).toArray⟩) := by show _ = _; unfold mtext; rw [if_neg h0]
    go_enter Tryz.func94, Tryz.ntmps94
    go_wp2_with fail
    go_loopw [0, 3] (fun kv ov wr => ∃ (j : Nat) (out : List UInt8), j ≤ k ∧ kv = .int .i64 j ∧ ov = .string ⟨out.toArray⟩ ∧ Ext w wr ∧ Hid (digits j ++ out = digits k) ∧ out.length ≤ 19 ∧ Hid ((digits j).length + out.length ≤ 19)) (fun kv _ _ => (intOf kv).toNat)
    case atStart => exact ⟨k, [], Nat.le_refl _, rfl, rfl, .refl _, by show _ = _; rw [List.append_nil], by simp, by have := digits_length k 19 (by omega); show _ ≤ _; simpa using this⟩
    case round =>
      obtain ⟨j, out, hj, rfl, rfl, hw, HD, hol, HL⟩ := hrel
      by_cases hlt : j = 0
      · subst hlt
        go_wp2_with fail
        go_ret
        refine ⟨?_, hw⟩
        have hd := HD.out
        rw [digits_zero, List.nil_append] at hd
        have he : (⟨#[109]⟩ : ByteArray) ++ ⟨out.toArray⟩ = mtext k := by rw [HK.out, bytes_cons, hd]
        exact congrArg (fun s => Ending.returned (.string s)) he
      · have hj0 : (0 : Int) < (j : Int) := by omega
        have HB : Hid (∀ q (hq : q < [UInt8.ofNat (48 + j % 10)].length), (wr.alloc (.cells #[.int .u8 (48 + (j : Int) % 10)] 5)).cell? ⟨wr.heap.size, q, none⟩ = some (.int .u8 (([UInt8.ofNat (48 + j % 10)][q]'hq).toNat : Int))) := by
          intro q hq
          obtain rfl : q = 0 := by simpa using hq
          rw [(OB.new wr _ _).cell]
          simp
          omega
        have HS : Hid ((digits j).length = (digits (j / 10)).length + 1) := by show _ = _; rw [digits_pos hlt]; simp
        have HR : Hid (digits (j / 10) ++ (UInt8.ofNat (48 + j % 10) :: out) = digits k) := by show _ = _; rw [← HD.out, digits_pos hlt]; simp
        have hsz : ({data := out.toArray} : ByteArray).size ≤ 19 := by show out.toArray.size ≤ 19; simpa using hol
        generalize UInt8.ofNat (48 + j % 10) = d at *
        go_wp2_with (refine wpList_bytes_back rfl 184 9 5 (.tmp 12) rfl Tryz.underlying184 Tryz.underlying5 Tryz.underlying9 wr.heap.size 1 1 [d] rfl rfl HB.out ?_)
        go_roundw
        case rel => exact ⟨j / 10, d :: out, by omega, by go_num, by congr 1, .trans hw (.alloc (.refl _) _), HR.out, by have h1 := HL.out; have h2 := HS.out; simp only [List.length_cons]; omega, by have h1 := HL.out; have h2 := HS.out; show _ ≤ _; simp only [List.length_cons]; omega⟩
        case measure => simp [intOf]; omega

set_option maxRecDepth 100000 in
set_option maxHeartbeats 2000000 in
theorem markStringS_all (l : List ByteArray) : MarkSC 31 1 (strTrs l) := by
  intro s kz k S w hz hown hS hbd
  subst hz
  obtain ⟨a, cap, rfl, hl, hm⟩ := hown.rep.shape
  rw [strTrs_len] at *
  unfold maxLen at hm
  have HO := Lib.hid hown
  have HSS := Lib.hid hS
  clear hown hS
  go_enter Tryz.func31, Tryz.ntmps31
  go_wp2_with fail
  go_loopw [1, 5] (fun kv i wr => ∃ j m : Nat, j ≤ l.length ∧ i = .int .i64 j ∧ kv = .int .i64 (m : Int) ∧ Hid (m = k + Tr.cntE ((strTrs l).take j)) ∧ Hid (Own wr (.row 1 (Tr.mid (strTrs l) k j)) (.slice a l.length cap) S) ∧ Hid (Chg S w wr)) (fun _ i _ => l.length - (intOf i).toNat)
  case atStart => exact ⟨0, k, Nat.zero_le _, rfl, rfl, by show _ = _; simp [Tr.cntE], by show Own _ _ _ _; rw [Tr.mid_zero]; exact HO.out, Chg.refl _ _⟩
  case round =>
    obtain ⟨j, m, hj, rfl, rfl, HM1, HO1, HC1⟩ := hrel
    by_cases hlt : j < l.length
    · have hlt2 : j < (strTrs l).length := by rw [strTrs_len]; exact hlt
      have hge : (strTrs l)[j] = [.leaf (Value.string l[j])] := by have h1 := strTrs_get hlt; rw [List.getElem?_eq_getElem hlt2] at h1; exact Option.some.inj h1
      have hcl := Tr.cntE_le hlt2
      have hms := Tr.mid_set (k := k) hlt2
      have hmg := Tr.mid_get (k := k) hlt2
      have htk : Tr.cntE ((strTrs l).take (j + 1)) = Tr.cntE ((strTrs l).take j) + Tr.cntL (strTrs l)[j] := Tr.cntE_take _ j hlt2
      rw [hge] at hcl hms hmg htk
      have hm1 := HM1.out
      rw [← hm1] at hms
      generalize l[j] = x at *
      have hcw : Tr.cntL [.leaf (Value.string x)] = 1 := rfl
      obtain ⟨b, off, E0, arr0, cs0, T, rfl, hfoc, hrep, hback⟩ := HO1.out.take hmg (Tr.mid_sz (strTrs_sz l)) (by omega) (fun x hx => Nat.lt_of_lt_of_le (HSS.out x hx) HC1.out.size)
      obtain ⟨d0, rfl⟩ := list1 hfoc.len
      have HF0 := Lib.hid hfoc
      have HBK := Lib.hid hback
      obtain ⟨arr1, hob1, hsz1, -, -⟩ := hfoc.arr
      have HOB0 := Lib.hid hob1
      have HFIT : Hid (off + j * 1 + 1 ≤ arr1.size) := by show _ ≤ _; rw [hsz1]; exact hfoc.fit
      have hmb : m + 1 ≤ 1152921504606846976 := by rw [← hcw]; omega
      rw [hcw] at htk
      have HMS := Lib.hid hms
      have HTK := Lib.hid htk
      have hlo : (0 : Int) ≤ (j : Int) := by omega
      clear hfoc hrep hback hob1 hsz1 hms hmg htk hge hcl hcw hm1
      go_wp2_with fail
      refine (markText_any _ m _ (by omega) (by omega)).mono ?_; rintro e w0 ⟨rfl, hw⟩
      have HXP := Lib.hid hw
      have HF1 := Lib.hid (HF0.out.ext hw)
      obtain ⟨ar1, ho, hzz, -, -⟩ := HF1.out.arr
      have HOB0 := Lib.hid ho
      have HFIT : Hid (off + j * 1 + 1 ≤ ar1.size) := by show _ ≤ _; rw [hzz]; exact HF1.out.fit
      have HF0 := HF1
      clear hw ho hzz
      go_wp2_with (refine wpList_store_cell rfl 9 (.tmp 16) (.tmp 15) rfl b (off + j) rfl (.string (mtext m)) rfl rfl E0 ar1 HOB0.out isz9 (by have := HFIT.out; omega) rfl ?_; intro w1 hob hg hq; have HOB1 : Hid (OB w1 b E0 (splice ar1 (off + j * 1 + 0) [Value.string (mtext m)])) := Lib.hid (by rw [Nat.mul_one]; exact hob); have HG1 := Lib.hid hg; clear hob hg hq)
      go_roundw
      case rel =>
        have hf := HF0.out.leaf (j := 0) (v := .string (mtext m)) rfl (by have := mtext_size m (by omega); show _ ≤ maxLen; unfold maxLen; omega) HOB0.out HOB1.out HG1.out
        obtain ⟨hown2, hchg2⟩ := HBK.out _ _ _ rfl hf
        refine ⟨j + 1, m + 1, by omega, by go_num, by first | rfl | go_num, by have h1 := HTK.out; have h2 := HM1.out; show _ = _; omega, ?_, HC1.out.trans hchg2⟩
        show Own _ _ _ _
        rw [← HMS.out]
        exact hown2
      case measure => simp [intOf]; omega
    · have hkl : j = (strTrs l).length := by rw [strTrs_len]; omega
      go_wp2_with fail
      go_ret
      have ho := HO1.out
      rw [hkl, Tr.mid_end] at ho
      have hm1 := HM1.out
      rw [hkl, List.take_length] at hm1
      subst hm1
      exact ⟨rfl, ho, HC1.out⟩

set_option maxRecDepth 100000 in
set_option maxHeartbeats 2000000 in
theorem heldStringS_all (l : List ByteArray) : HeldSC 32 1 (strTrs l) := by
  intro s kz k w hz hrep0 hbd
  subst hz
  obtain ⟨a, cap, rfl, hl, hm⟩ := hrep0.shape
  rw [Tr.markE_length, strTrs_len] at *
  unfold maxLen at hm
  have HO := Lib.hid hrep0
  clear hrep0
  go_enter Tryz.func32, Tryz.ntmps32
  go_wp2_with fail
  go_loopw [1, 5] (fun kv i wr => ∃ j m : Nat, j ≤ l.length ∧ i = .int .i64 j ∧ kv = .int .i64 (m : Int) ∧ Hid (m = k + Tr.cntE ((strTrs l).take j)) ∧ Ext w wr) (fun _ i _ => l.length - (intOf i).toNat)
  case atStart => exact ⟨0, k, Nat.zero_le _, rfl, rfl, by show _ = _; simp [Tr.cntE], .refl _⟩
  case round =>
    obtain ⟨j, m, hj, rfl, rfl, HM1, hw⟩ := hrel
    by_cases hlt : j < l.length
    · have hlt2 : j < (strTrs l).length := by rw [strTrs_len]; exact hlt
      have hge : (strTrs l)[j] = [.leaf (Value.string l[j])] := by have h1 := strTrs_get hlt; rw [List.getElem?_eq_getElem hlt2] at h1; exact Option.some.inj h1
      have hcl := Tr.cntE_le hlt2
      have hmg := Tr.markE_get (strTrs l) k j hlt2
      have htk : Tr.cntE ((strTrs l).take (j + 1)) = Tr.cntE ((strTrs l).take j) + Tr.cntL (strTrs l)[j] := Tr.cntE_take _ j hlt2
      rw [hge] at hcl hmg htk
      have hm1 := HM1.out
      rw [← hm1] at hmg
      generalize l[j] = x at *
      have hcw : Tr.cntL [.leaf (Value.string x)] = 1 := rfl
      obtain ⟨b, off, cs0, rfl, hb, hrep, hc⟩ := (HO.out.ext hw).at2 hmg
      obtain ⟨d0, rfl⟩ := list1 hrep.length.symm
      obtain ⟨rfl, -⟩ := (hrep.1).leaf_eq
      have hmb : m + 1 ≤ 1152921504606846976 := by rw [← hcw]; omega
      rw [hcw] at htk
      have HTK := Lib.hid htk
      have HC := Lib.hid hc
      have HB := Lib.hid hb
      have hki := hlt
      simp only [markLeaf, Tr.cnt] at *
      have hcell0 : wr.cell? ⟨b, off + j * 1, none⟩ = some _ := HC.out 0 _ rfl
      have HX0 := Lib.hid (Ext.refl wr)
      clear hrep hc hmg htk hge hcl hcw hm1 hb
      go_wp2_with fail
      refine wp_region_held_drew (S := Ext wr) (by kernel_rfl) ?_ (fun hHeld => ?_)
      · exact .drew (.refl _)
      refine wpAnyH_take (i := 0) rfl (by kernel_rfl) (by kernel_rfl) (by kernel_rfl) (fun _ _ _ h => h) (.inl ⟨rfl, fun _ _ => rfl⟩) (by assumption) ?_
      simp only [Act.put, List.getElem_toArray, List.getElem_cons_zero, List.setIfInBounds_toArray, List.set_cons_zero, List.set_cons_succ]
      refine wpAnyH_take (i := 1) rfl (by kernel_rfl) (by kernel_rfl) (by kernel_rfl) (fun _ _ _ h => h) (.inl ⟨rfl, fun _ _ => rfl⟩) (by assumption) ?_
      simp only [Act.put, List.getElem_toArray, List.getElem_cons_zero, List.getElem_cons_succ, List.setIfInBounds_toArray, List.set_cons_zero, List.set_cons_succ]
      refine wpAnyH_index (i := 2) rfl (by kernel_rfl) (by kernel_rfl) (by kernel_rfl) rfl 54 (.tmp 12) (.tmp 13) rfl (b) (off) (l.length) (cap) (j) (1) rfl rfl (hki) Tryz.underlying54 (by kernel_rfl) (by assumption) (fun _ _ _ _ h => h) ?_
      simp only [Act.put, List.getElem_toArray, List.getElem_cons_zero, List.getElem_cons_succ, List.setIfInBounds_toArray, List.set_cons_zero, List.set_cons_succ]
      refine wpAnyH_cell (i := 3) rfl (by kernel_rfl) (by kernel_rfl) (by kernel_rfl) rfl 9 (.tmp 14) rfl (b) (off + j * 1) rfl (.string (mtext m)) _ Tryz.underlying9 rfl (fun W hW => (hW.cell (p := ⟨b, off + j * 1, none⟩) (Nat.lt_of_lt_of_le HB.out (HX0.out).size)).trans hcell0) (by assumption) (fun _ _ _ _ h => h) ?_
      simp only [Act.put, List.getElem_toArray, List.getElem_cons_zero, List.getElem_cons_succ, List.setIfInBounds_toArray, List.set_cons_zero, List.set_cons_succ]
      refine wpAnyH_take (i := 4) rfl (by kernel_rfl) (by kernel_rfl) (by kernel_rfl) (fun _ _ _ h => h) (.inl ⟨rfl, fun _ _ => rfl⟩) (by assumption) ?_
      simp only [Act.put, List.getElem_toArray, List.getElem_cons_zero, List.getElem_cons_succ, List.setIfInBounds_toArray, List.set_cons_zero, List.set_cons_succ]
      refine wpAnyH_call (i := 5) (by kernel_rfl) rfl rfl (run_call_func rfl rfl #[.int .i64 _] (by simp only [List.map_toArray, List.map_cons, List.map_nil, Act.eval]; rfl) Tryz.func94 (by kernel_rfl) (by kernel_rfl) _) (markText_any _ m _ (by omega) (by omega)) ?_; rintro e wh1 ⟨rfl, hv1⟩
      have hs1 := Ext.trans hHeld hv1
      refine ⟨_, rfl, hs1, ?_⟩
      simp only [Act.put, List.getElem_toArray, List.getElem_cons_zero, List.getElem_cons_succ, List.setIfInBounds_toArray, List.set_cons_zero, List.set_cons_succ]
      refine wpAnyH_take (i := 6) rfl (by kernel_rfl) (by kernel_rfl) (by kernel_rfl) (fun _ _ _ h => h) (.inl ⟨rfl, fun _ _ => rfl⟩) (by assumption) ?_
      simp only [Act.put, List.getElem_toArray, List.getElem_cons_zero, List.getElem_cons_succ, List.setIfInBounds_toArray, List.set_cons_zero, List.set_cons_succ]
      refine wpAnyH_done (by kernel_rfl) ?_ _
      clear hHeld
      have HX0 := Lib.hid hs1
      clear hs1 hv1
      simp only [beq_self_eq_true, Bool.not_true]
      go_wp2_with fail
      go_roundw
      case rel => exact ⟨j + 1, (m + 1), by omega, by go_num, by first | rfl | go_num, by have h1 := HTK.out; have h2 := HM1.out; show _ = _; omega, hw.trans HX0.out⟩
      case measure => simp [intOf]; omega
    · have hkl : j = (strTrs l).length := by rw [strTrs_len]; omega
      go_wp2_with fail
      go_ret
      have hm1 := HM1.out
      rw [hkl, List.take_length] at hm1
      subst hm1
      exact ⟨rfl, hw⟩

set_option maxRecDepth 100000 in
set_option maxHeartbeats 2000000 in
theorem markTypeS_of (l : List GType) (H2 : ∀ x ∈ l, MarkSC 108 3 (GType.trs x.gArgs)) : MarkSC 108 3 (GType.trs l) := by
  intro s kz k S w hz hown hS hbd
  subst hz
  obtain ⟨a, cap, rfl, hl, hm⟩ := hown.rep.shape
  rw [GType.trs_len] at *
  unfold maxLen at hm
  have HO := Lib.hid hown
  have HSS := Lib.hid hS
  have HH2 := Lib.hid H2
  clear H2
  clear hown hS
  go_enter Tryz.func108, Tryz.ntmps108
  go_wp2_with fail
  go_loopw [1, 5] (fun kv i wr => ∃ j m : Nat, j ≤ l.length ∧ i = .int .i64 j ∧ kv = .int .i64 (m : Int) ∧ Hid (m = k + Tr.cntE ((GType.trs l).take j)) ∧ Hid (Own wr (.row 3 (Tr.mid (GType.trs l) k j)) (.slice a l.length cap) S) ∧ Hid (Chg S w wr)) (fun _ i _ => l.length - (intOf i).toNat)
  case atStart => exact ⟨0, k, Nat.zero_le _, rfl, rfl, by show _ = _; simp [Tr.cntE], by show Own _ _ _ _; rw [Tr.mid_zero]; exact HO.out, Chg.refl _ _⟩
  case round =>
    obtain ⟨j, m, hj, rfl, rfl, HM1, HO1, HC1⟩ := hrel
    by_cases hlt : j < l.length
    · have hlt2 : j < (GType.trs l).length := by rw [GType.trs_len]; exact hlt
      have hge : (GType.trs l)[j] = (l[j]).tr := by have h1 := GType.trs_get hlt; rw [List.getElem?_eq_getElem hlt2] at h1; exact Option.some.inj h1
      have hcl := Tr.cntE_le hlt2
      have hms := Tr.mid_set (k := k) hlt2
      have hmg := Tr.mid_get (k := k) hlt2
      have htk : Tr.cntE ((GType.trs l).take (j + 1)) = Tr.cntE ((GType.trs l).take j) + Tr.cntL (GType.trs l)[j] := Tr.cntE_take _ j hlt2
      rw [hge] at hcl hms hmg htk
      have hm1 := HM1.out
      rw [← hm1] at hms
      have HM2 := Lib.hid (HH2.out _ (List.getElem_mem hlt))
      generalize l[j] = x at *
      obtain ⟨v0, v1, v2⟩ := x
      have HM2 : Hid (MarkSC 108 3 (GType.trs v2)) := HM2
      have htr : GType.tr (.mk v0 v1 v2) = [.leaf (.int .i64 v0), .leaf (.string v1), .row 3 (GType.trs v2)] := by simp [GType.tr]
      rw [htr] at hcl hms hmg htk
      have hcw : Tr.cntL [.leaf (.int .i64 v0), .leaf (.string v1), .row 3 (GType.trs v2)] = 1 + 1 + Tr.cntE (GType.trs v2) := by simp only [Tr.cntL, Tr.cnt] <;> omega
      obtain ⟨b, off, E0, arr0, cs0, T, rfl, hfoc, hrep, hback⟩ := HO1.out.take hmg (Tr.mid_sz (GType.sz l)) (by omega) (fun x hx => Nat.lt_of_lt_of_le (HSS.out x hx) HC1.out.size)
      obtain ⟨d0, d1, d2, rfl⟩ := list3 hfoc.len
      obtain ⟨rfl, -⟩ := (hrep.1).leaf_eq
      obtain ⟨rfl, -⟩ := (hrep.2.1).leaf_eq
      obtain ⟨sa2, sc2, rfl, -, -⟩ := (hrep.2.2.1).shape
      have HF0 := Lib.hid hfoc
      have HBK := Lib.hid hback
      obtain ⟨arr1, hob1, hsz1, -, -⟩ := hfoc.arr
      have HOB0 := Lib.hid hob1
      have HFIT : Hid (off + j * 3 + 3 ≤ arr1.size) := by show _ ≤ _; rw [hsz1]; exact hfoc.fit
      have hmb : m + (1 + 1 + Tr.cntE (GType.trs v2)) ≤ 1152921504606846976 := by rw [← hcw]; omega
      rw [hcw] at htk
      have HMS := Lib.hid hms
      have HTK := Lib.hid htk
      have hlo : (0 : Int) ≤ (j : Int) := by omega
      clear hfoc hrep hback hob1 hsz1 hms hmg htk hge hcl hcw hm1 htr
      go_wp2_with (first
        | (refine wpList_store_cell rfl 3 (.tmp 16) (.tmp 14) rfl b (off + j * 3 + 0) rfl (.int .i64 ((m : Nat) : Int)) (by first | rfl | (simp only [Nat.cast_add, Nat.cast_one] <;> rfl)) rfl E0 arr1 HOB0.out isz3 (by have := HFIT.out; omega) rfl ?_; intro w1 hob hg hq; have HF1 := Lib.hid (HF0.out.leaf (j := 0) rfl (v := .int .i64 ((m : Nat) : Int)) (WalkArith.wf_i64 (by omega)) HOB0.out hob hg); obtain ⟨ar1, ho, hzz, -, -⟩ := HF1.out.arr; have HOB1 := Lib.hid ho; have HFT1 : Hid (off + j * 3 + 3 ≤ ar1.size) := (by show _ ≤ _; rw [hzz]; exact HF1.out.fit); clear hob hg hq ho hzz))
      refine (markText_any _ (m + 1) _ (by omega) (by omega)).mono ?_; rintro e w2 ⟨rfl, hw⟩
      have HF2 := Lib.hid (HF1.out.ext hw)
      obtain ⟨ar2, ho, hzz, -, -⟩ := HF2.out.arr
      have HOB2 := Lib.hid ho
      have HFT2 : Hid (off + j * 3 + 3 ≤ ar2.size) := by show _ ≤ _; rw [hzz]; exact HF2.out.fit
      clear hw ho hzz
      go_wp2_with (first
        | (refine wpList_store_cell rfl 9 (.tmp 24) (.tmp 22) rfl b (off + j * 3 + 1) rfl (.string (mtext (m + 1))) rfl rfl E0 ar2 HOB2.out isz9 (by have := HFT2.out; omega) rfl ?_; intro w3 hob hg hq; have HF3 := Lib.hid (HF2.out.leaf (j := 1) rfl (v := .string (mtext (m + 1))) (by have := mtext_size (m + 1) (by omega); show _ ≤ maxLen; unfold maxLen; omega) HOB2.out hob hg); obtain ⟨ar3, ho, hzz, -, -⟩ := HF3.out.arr; have HOB3 := Lib.hid ho; have HFT3 : Hid (off + j * 3 + 3 ≤ ar3.size) := (by show _ ≤ _; rw [hzz]; exact HF3.out.fit); clear hob hg hq ho hzz; have hcell2 := HF3.out.cell (j := 2) rfl))
      obtain ⟨U2, hu1, hu2, hu3⟩ := HF3.out.row (j := 2) rfl rfl
      refine (HM2.out _ _ ((m + 1) + 1) U2 _ (by omega) hu1 hu2 (by omega)).mono ?_; rintro e w4 ⟨rfl, how, hch⟩
      have HF4 := Lib.hid (hu3 w4 _ how hch)
      clear how hch hu1 hu2 hu3 hcell2
      go_wp2_with fail
      go_roundw
      case rel =>
        obtain ⟨hown2, hchg2⟩ := HBK.out _ _ _ rfl HF4.out
        refine ⟨j + 1, (((m + 1) + 1) + Tr.cntE (GType.trs v2)), by omega, by go_num, by first | rfl | go_num, by have h1 := HTK.out; have h2 := HM1.out; show _ = _; omega, ?_, HC1.out.trans hchg2⟩
        show Own _ _ _ _
        rw [← HMS.out]
        exact hown2
      case measure => simp [intOf]; omega
    · have hkl : j = (GType.trs l).length := by rw [GType.trs_len]; omega
      go_wp2_with fail
      go_ret
      have ho := HO1.out
      rw [hkl, Tr.mid_end] at ho
      have hm1 := HM1.out
      rw [hkl, List.take_length] at hm1
      subst hm1
      exact ⟨rfl, ho, HC1.out⟩
theorem markTypeS_in : ∀ x : GType, MarkSC 108 3 (GType.trs x.gArgs) :=
  GType.ind fun v0 v1 v2 ih => markTypeS_of v2 ih
theorem markTypeS_all (l : List GType) : MarkSC 108 3 (GType.trs l) := markTypeS_of l fun x _ => markTypeS_in x

set_option maxRecDepth 100000 in
set_option maxHeartbeats 2000000 in
theorem markExprS_of (l : List GExpr) (H7 : ∀ x ∈ l, MarkSC 168 9 (GExpr.trs x.gArgs)) (H8 : ∀ x ∈ l, MarkSC 169 11 (GArm.trs x.gArms)) : MarkSC 168 9 (GExpr.trs l) := by
  intro s kz k S w hz hown hS hbd
  subst hz
  obtain ⟨a, cap, rfl, hl, hm⟩ := hown.rep.shape
  rw [GExpr.trs_len] at *
  unfold maxLen at hm
  have HO := Lib.hid hown
  have HSS := Lib.hid hS
  have HH7 := Lib.hid H7
  clear H7
  have HH8 := Lib.hid H8
  clear H8
  clear hown hS
  go_enter Tryz.func168, Tryz.ntmps168
  go_wp2_with fail
  go_loopw [1, 5] (fun kv i wr => ∃ j m : Nat, j ≤ l.length ∧ i = .int .i64 j ∧ kv = .int .i64 (m : Int) ∧ Hid (m = k + Tr.cntE ((GExpr.trs l).take j)) ∧ Hid (Own wr (.row 9 (Tr.mid (GExpr.trs l) k j)) (.slice a l.length cap) S) ∧ Hid (Chg S w wr)) (fun _ i _ => l.length - (intOf i).toNat)
  case atStart => exact ⟨0, k, Nat.zero_le _, rfl, rfl, by show _ = _; simp [Tr.cntE], by show Own _ _ _ _; rw [Tr.mid_zero]; exact HO.out, Chg.refl _ _⟩
  case round =>
    obtain ⟨j, m, hj, rfl, rfl, HM1, HO1, HC1⟩ := hrel
    by_cases hlt : j < l.length
    · have hlt2 : j < (GExpr.trs l).length := by rw [GExpr.trs_len]; exact hlt
      have hge : (GExpr.trs l)[j] = (l[j]).tr := by have h1 := GExpr.trs_get hlt; rw [List.getElem?_eq_getElem hlt2] at h1; exact Option.some.inj h1
      have hcl := Tr.cntE_le hlt2
      have hms := Tr.mid_set (k := k) hlt2
      have hmg := Tr.mid_get (k := k) hlt2
      have htk : Tr.cntE ((GExpr.trs l).take (j + 1)) = Tr.cntE ((GExpr.trs l).take j) + Tr.cntL (GExpr.trs l)[j] := Tr.cntE_take _ j hlt2
      rw [hge] at hcl hms hmg htk
      have hm1 := HM1.out
      rw [← hm1] at hms
      have HM7 := Lib.hid (HH7.out _ (List.getElem_mem hlt))
      have HM8 := Lib.hid (HH8.out _ (List.getElem_mem hlt))
      generalize l[j] = x at *
      obtain ⟨v0, v1, v2, v3, ⟨v4_0, v4_1, v4_2⟩, v5, v6⟩ := x
      have HM7 : Hid (MarkSC 168 9 (GExpr.trs v5)) := HM7
      have HM8 : Hid (MarkSC 169 11 (GArm.trs v6)) := HM8
      have htr : GExpr.tr (.mk v0 v1 v2 v3 (.mk v4_0 v4_1 v4_2) v5 v6) = [.leaf (.int .i64 v0), .leaf (.string v1), .leaf (.string v2), .leaf (.int .i64 v3), .leaf (.int .i64 v4_0), .leaf (.string v4_1), .row 3 (GType.trs v4_2), .row 9 (GExpr.trs v5), .row 11 (GArm.trs v6)] := by simp [GExpr.tr, GType.tr]
      rw [htr] at hcl hms hmg htk
      have hcw : Tr.cntL [.leaf (.int .i64 v0), .leaf (.string v1), .leaf (.string v2), .leaf (.int .i64 v3), .leaf (.int .i64 v4_0), .leaf (.string v4_1), .row 3 (GType.trs v4_2), .row 9 (GExpr.trs v5), .row 11 (GArm.trs v6)] = 1 + 1 + 1 + 1 + 1 + 1 + Tr.cntE (GType.trs v4_2) + Tr.cntE (GExpr.trs v5) + Tr.cntE (GArm.trs v6) := by simp only [Tr.cntL, Tr.cnt] <;> omega
      obtain ⟨b, off, E0, arr0, cs0, T, rfl, hfoc, hrep, hback⟩ := HO1.out.take hmg (Tr.mid_sz (GExpr.sz l)) (by omega) (fun x hx => Nat.lt_of_lt_of_le (HSS.out x hx) HC1.out.size)
      obtain ⟨d0, d1, d2, d3, d4, d5, d6, d7, d8, rfl⟩ := list9 hfoc.len
      obtain ⟨rfl, -⟩ := (hrep.1).leaf_eq
      obtain ⟨rfl, -⟩ := (hrep.2.1).leaf_eq
      obtain ⟨rfl, -⟩ := (hrep.2.2.1).leaf_eq
      obtain ⟨rfl, -⟩ := (hrep.2.2.2.1).leaf_eq
      obtain ⟨rfl, -⟩ := (hrep.2.2.2.2.1).leaf_eq
      obtain ⟨rfl, -⟩ := (hrep.2.2.2.2.2.1).leaf_eq
      obtain ⟨sa6, sc6, rfl, -, -⟩ := (hrep.2.2.2.2.2.2.1).shape
      obtain ⟨sa7, sc7, rfl, -, -⟩ := (hrep.2.2.2.2.2.2.2.1).shape
      obtain ⟨sa8, sc8, rfl, -, -⟩ := (hrep.2.2.2.2.2.2.2.2.1).shape
      have HF0 := Lib.hid hfoc
      have HBK := Lib.hid hback
      obtain ⟨arr1, hob1, hsz1, -, -⟩ := hfoc.arr
      have HOB0 := Lib.hid hob1
      have HFIT : Hid (off + j * 9 + 9 ≤ arr1.size) := by show _ ≤ _; rw [hsz1]; exact hfoc.fit
      have hmb : m + (1 + 1 + 1 + 1 + 1 + 1 + Tr.cntE (GType.trs v4_2) + Tr.cntE (GExpr.trs v5) + Tr.cntE (GArm.trs v6)) ≤ 1152921504606846976 := by rw [← hcw]; omega
      rw [hcw] at htk
      have HMS := Lib.hid hms
      have HTK := Lib.hid htk
      have hlo : (0 : Int) ≤ (j : Int) := by omega
      clear hfoc hrep hback hob1 hsz1 hms hmg htk hge hcl hcw hm1 htr
      go_wp2_with (first
        | (refine wpList_store_cell rfl 3 (.tmp 16) (.tmp 14) rfl b (off + j * 9 + 0) rfl (.int .i64 ((m : Nat) : Int)) (by first | rfl | (simp only [Nat.cast_add, Nat.cast_one] <;> rfl)) rfl E0 arr1 HOB0.out isz3 (by have := HFIT.out; omega) rfl ?_; intro w1 hob hg hq; have HF1 := Lib.hid (HF0.out.leaf (j := 0) rfl (v := .int .i64 ((m : Nat) : Int)) (WalkArith.wf_i64 (by omega)) HOB0.out hob hg); obtain ⟨ar1, ho, hzz, -, -⟩ := HF1.out.arr; have HOB1 := Lib.hid ho; have HFT1 : Hid (off + j * 9 + 9 ≤ ar1.size) := (by show _ ≤ _; rw [hzz]; exact HF1.out.fit); clear hob hg hq ho hzz))
      refine (markText_any _ (m + 1) _ (by omega) (by omega)).mono ?_; rintro e w2 ⟨rfl, hw⟩
      have HF2 := Lib.hid (HF1.out.ext hw)
      obtain ⟨ar2, ho, hzz, -, -⟩ := HF2.out.arr
      have HOB2 := Lib.hid ho
      have HFT2 : Hid (off + j * 9 + 9 ≤ ar2.size) := by show _ ≤ _; rw [hzz]; exact HF2.out.fit
      clear hw ho hzz
      go_wp2_with (first
        | (refine wpList_store_cell rfl 9 (.tmp 24) (.tmp 22) rfl b (off + j * 9 + 1) rfl (.string (mtext (m + 1))) rfl rfl E0 ar2 HOB2.out isz9 (by have := HFT2.out; omega) rfl ?_; intro w3 hob hg hq; have HF3 := Lib.hid (HF2.out.leaf (j := 1) rfl (v := .string (mtext (m + 1))) (by have := mtext_size (m + 1) (by omega); show _ ≤ maxLen; unfold maxLen; omega) HOB2.out hob hg); obtain ⟨ar3, ho, hzz, -, -⟩ := HF3.out.arr; have HOB3 := Lib.hid ho; have HFT3 : Hid (off + j * 9 + 9 ≤ ar3.size) := (by show _ ≤ _; rw [hzz]; exact HF3.out.fit); clear hob hg hq ho hzz))
      refine (markText_any _ ((m + 1) + 1) _ (by omega) (by omega)).mono ?_; rintro e w4 ⟨rfl, hw⟩
      have HF4 := Lib.hid (HF3.out.ext hw)
      obtain ⟨ar4, ho, hzz, -, -⟩ := HF4.out.arr
      have HOB4 := Lib.hid ho
      have HFT4 : Hid (off + j * 9 + 9 ≤ ar4.size) := by show _ ≤ _; rw [hzz]; exact HF4.out.fit
      clear hw ho hzz
      go_wp2_with (first
        | (refine wpList_store_cell rfl 9 (.tmp 32) (.tmp 30) rfl b (off + j * 9 + 2) rfl (.string (mtext ((m + 1) + 1))) rfl rfl E0 ar4 HOB4.out isz9 (by have := HFT4.out; omega) rfl ?_; intro w5 hob hg hq; have HF5 := Lib.hid (HF4.out.leaf (j := 2) rfl (v := .string (mtext ((m + 1) + 1))) (by have := mtext_size ((m + 1) + 1) (by omega); show _ ≤ maxLen; unfold maxLen; omega) HOB4.out hob hg); obtain ⟨ar5, ho, hzz, -, -⟩ := HF5.out.arr; have HOB5 := Lib.hid ho; have HFT5 : Hid (off + j * 9 + 9 ≤ ar5.size) := (by show _ ≤ _; rw [hzz]; exact HF5.out.fit); clear hob hg hq ho hzz)
        | (refine wpList_store_cell rfl 3 (.tmp 39) (.tmp 37) rfl b (off + j * 9 + 3) rfl (.int .i64 (((((m + 1) + 1) + 1) : Nat) : Int)) (by first | rfl | (simp only [Nat.cast_add, Nat.cast_one] <;> rfl)) rfl E0 ar5 HOB5.out isz3 (by have := HFT5.out; omega) rfl ?_; intro w6 hob hg hq; have HF6 := Lib.hid (HF5.out.leaf (j := 3) rfl (v := .int .i64 (((((m + 1) + 1) + 1) : Nat) : Int)) (WalkArith.wf_i64 (by omega)) HOB5.out hob hg); obtain ⟨ar6, ho, hzz, -, -⟩ := HF6.out.arr; have HOB6 := Lib.hid ho; have HFT6 : Hid (off + j * 9 + 9 ≤ ar6.size) := (by show _ ≤ _; rw [hzz]; exact HF6.out.fit); clear hob hg hq ho hzz)
        | (refine wpList_store_cell rfl 3 (.tmp 47) (.tmp 44) rfl b (off + j * 9 + 4) rfl (.int .i64 ((((((m + 1) + 1) + 1) + 1) : Nat) : Int)) (by first | rfl | (simp only [Nat.cast_add, Nat.cast_one] <;> rfl)) rfl E0 ar6 HOB6.out isz3 (by have := HFT6.out; omega) rfl ?_; intro w7 hob hg hq; have HF7 := Lib.hid (HF6.out.leaf (j := 4) rfl (v := .int .i64 ((((((m + 1) + 1) + 1) + 1) : Nat) : Int)) (WalkArith.wf_i64 (by omega)) HOB6.out hob hg); obtain ⟨ar7, ho, hzz, -, -⟩ := HF7.out.arr; have HOB7 := Lib.hid ho; have HFT7 : Hid (off + j * 9 + 9 ≤ ar7.size) := (by show _ ≤ _; rw [hzz]; exact HF7.out.fit); clear hob hg hq ho hzz))
      refine (markText_any _ (((((m + 1) + 1) + 1) + 1) + 1) _ (by omega) (by omega)).mono ?_; rintro e w8 ⟨rfl, hw⟩
      have HF8 := Lib.hid (HF7.out.ext hw)
      obtain ⟨ar8, ho, hzz, -, -⟩ := HF8.out.arr
      have HOB8 := Lib.hid ho
      have HFT8 : Hid (off + j * 9 + 9 ≤ ar8.size) := by show _ ≤ _; rw [hzz]; exact HF8.out.fit
      clear hw ho hzz
      go_wp2_with (first
        | (refine wpList_store_cell rfl 9 (.tmp 56) (.tmp 53) rfl b (off + j * 9 + 5) rfl (.string (mtext (((((m + 1) + 1) + 1) + 1) + 1))) rfl rfl E0 ar8 HOB8.out isz9 (by have := HFT8.out; omega) rfl ?_; intro w9 hob hg hq; have HF9 := Lib.hid (HF8.out.leaf (j := 5) rfl (v := .string (mtext (((((m + 1) + 1) + 1) + 1) + 1))) (by have := mtext_size (((((m + 1) + 1) + 1) + 1) + 1) (by omega); show _ ≤ maxLen; unfold maxLen; omega) HOB8.out hob hg); obtain ⟨ar9, ho, hzz, -, -⟩ := HF9.out.arr; have HOB9 := Lib.hid ho; have HFT9 : Hid (off + j * 9 + 9 ≤ ar9.size) := (by show _ ≤ _; rw [hzz]; exact HF9.out.fit); clear hob hg hq ho hzz; have hcell6 := HF9.out.cell (j := 6) rfl))
      obtain ⟨U6, hu1, hu2, hu3⟩ := HF9.out.row (j := 6) rfl rfl
      refine ((markTypeS_all v4_2) _ _ ((((((m + 1) + 1) + 1) + 1) + 1) + 1) U6 _ (by omega) hu1 hu2 (by omega)).mono ?_; rintro e w10 ⟨rfl, how, hch⟩
      have HF10 := Lib.hid (hu3 w10 _ how hch)
      clear how hch hu1 hu2 hu3 hcell6
      obtain ⟨ar10, ho, hzz, -, -⟩ := HF10.out.arr
      have HOB10 := Lib.hid ho
      have HFT10 : Hid (off + j * 9 + 9 ≤ ar10.size) := by show _ ≤ _; rw [hzz]; exact HF10.out.fit
      clear ho hzz
      have hcell7 := HF10.out.cell (j := 7) rfl
      go_wp2_with fail
      obtain ⟨U7, hu1, hu2, hu3⟩ := HF10.out.row (j := 7) rfl rfl
      refine (HM7.out _ _ (((((((m + 1) + 1) + 1) + 1) + 1) + 1) + Tr.cntE (GType.trs v4_2)) U7 _ (by omega) hu1 hu2 (by omega)).mono ?_; rintro e w11 ⟨rfl, how, hch⟩
      have HF11 := Lib.hid (hu3 w11 _ how hch)
      clear how hch hu1 hu2 hu3 hcell7
      obtain ⟨ar11, ho, hzz, -, -⟩ := HF11.out.arr
      have HOB11 := Lib.hid ho
      have HFT11 : Hid (off + j * 9 + 9 ≤ ar11.size) := by show _ ≤ _; rw [hzz]; exact HF11.out.fit
      clear ho hzz
      have hcell8 := HF11.out.cell (j := 8) rfl
      go_wp2_with fail
      obtain ⟨U8, hu1, hu2, hu3⟩ := HF11.out.row (j := 8) rfl rfl
      refine (HM8.out _ _ ((((((((m + 1) + 1) + 1) + 1) + 1) + 1) + Tr.cntE (GType.trs v4_2)) + Tr.cntE (GExpr.trs v5)) U8 _ (by omega) hu1 hu2 (by omega)).mono ?_; rintro e w12 ⟨rfl, how, hch⟩
      have HF12 := Lib.hid (hu3 w12 _ how hch)
      clear how hch hu1 hu2 hu3 hcell8
      go_wp2_with fail
      go_roundw
      case rel =>
        obtain ⟨hown2, hchg2⟩ := HBK.out _ _ _ rfl HF12.out
        refine ⟨j + 1, (((((((((m + 1) + 1) + 1) + 1) + 1) + 1) + Tr.cntE (GType.trs v4_2)) + Tr.cntE (GExpr.trs v5)) + Tr.cntE (GArm.trs v6)), by omega, by go_num, by first | rfl | go_num, by have h1 := HTK.out; have h2 := HM1.out; show _ = _; omega, ?_, HC1.out.trans hchg2⟩
        show Own _ _ _ _
        rw [← HMS.out]
        exact hown2
      case measure => simp [intOf]; omega
    · have hkl : j = (GExpr.trs l).length := by rw [GExpr.trs_len]; omega
      go_wp2_with fail
      go_ret
      have ho := HO1.out
      rw [hkl, Tr.mid_end] at ho
      have hm1 := HM1.out
      rw [hkl, List.take_length] at hm1
      subst hm1
      exact ⟨rfl, ho, HC1.out⟩

set_option maxRecDepth 100000 in
set_option maxHeartbeats 2000000 in
theorem markArmS_of (l : List GArm) (H9 : ∀ x ∈ l, MarkSC 168 9 (GExpr.trs x.gBody.gArgs)) (H10 : ∀ x ∈ l, MarkSC 169 11 (GArm.trs x.gBody.gArms)) : MarkSC 169 11 (GArm.trs l) := by
  intro s kz k S w hz hown hS hbd
  subst hz
  obtain ⟨a, cap, rfl, hl, hm⟩ := hown.rep.shape
  rw [GArm.trs_len] at *
  unfold maxLen at hm
  have HO := Lib.hid hown
  have HSS := Lib.hid hS
  have HH9 := Lib.hid H9
  clear H9
  have HH10 := Lib.hid H10
  clear H10
  clear hown hS
  go_enter Tryz.func169, Tryz.ntmps169
  go_wp2_with fail
  go_loopw [1, 5] (fun kv i wr => ∃ j m : Nat, j ≤ l.length ∧ i = .int .i64 j ∧ kv = .int .i64 (m : Int) ∧ Hid (m = k + Tr.cntE ((GArm.trs l).take j)) ∧ Hid (Own wr (.row 11 (Tr.mid (GArm.trs l) k j)) (.slice a l.length cap) S) ∧ Hid (Chg S w wr)) (fun _ i _ => l.length - (intOf i).toNat)
  case atStart => exact ⟨0, k, Nat.zero_le _, rfl, rfl, by show _ = _; simp [Tr.cntE], by show Own _ _ _ _; rw [Tr.mid_zero]; exact HO.out, Chg.refl _ _⟩
  case round =>
    obtain ⟨j, m, hj, rfl, rfl, HM1, HO1, HC1⟩ := hrel
    by_cases hlt : j < l.length
    · have hlt2 : j < (GArm.trs l).length := by rw [GArm.trs_len]; exact hlt
      have hge : (GArm.trs l)[j] = (l[j]).tr := by have h1 := GArm.trs_get hlt; rw [List.getElem?_eq_getElem hlt2] at h1; exact Option.some.inj h1
      have hcl := Tr.cntE_le hlt2
      have hms := Tr.mid_set (k := k) hlt2
      have hmg := Tr.mid_get (k := k) hlt2
      have htk : Tr.cntE ((GArm.trs l).take (j + 1)) = Tr.cntE ((GArm.trs l).take j) + Tr.cntL (GArm.trs l)[j] := Tr.cntE_take _ j hlt2
      rw [hge] at hcl hms hmg htk
      have hm1 := HM1.out
      rw [← hm1] at hms
      have HM9 := Lib.hid (HH9.out _ (List.getElem_mem hlt))
      have HM10 := Lib.hid (HH10.out _ (List.getElem_mem hlt))
      generalize l[j] = x at *
      obtain ⟨v0, v1, ⟨v2_0, v2_1, v2_2, v2_3, ⟨v2_4_0, v2_4_1, v2_4_2⟩, v2_5, v2_6⟩⟩ := x
      have HM9 : Hid (MarkSC 168 9 (GExpr.trs v2_5)) := HM9
      have HM10 : Hid (MarkSC 169 11 (GArm.trs v2_6)) := HM10
      have htr : GArm.tr (.mk v0 v1 (.mk v2_0 v2_1 v2_2 v2_3 (.mk v2_4_0 v2_4_1 v2_4_2) v2_5 v2_6)) = [.leaf (.string v0), .row 1 (strTrs v1), .leaf (.int .i64 v2_0), .leaf (.string v2_1), .leaf (.string v2_2), .leaf (.int .i64 v2_3), .leaf (.int .i64 v2_4_0), .leaf (.string v2_4_1), .row 3 (GType.trs v2_4_2), .row 9 (GExpr.trs v2_5), .row 11 (GArm.trs v2_6)] := by simp [GArm.tr, GExpr.tr, GType.tr]
      rw [htr] at hcl hms hmg htk
      have hcw : Tr.cntL [.leaf (.string v0), .row 1 (strTrs v1), .leaf (.int .i64 v2_0), .leaf (.string v2_1), .leaf (.string v2_2), .leaf (.int .i64 v2_3), .leaf (.int .i64 v2_4_0), .leaf (.string v2_4_1), .row 3 (GType.trs v2_4_2), .row 9 (GExpr.trs v2_5), .row 11 (GArm.trs v2_6)] = 1 + Tr.cntE (strTrs v1) + 1 + 1 + 1 + 1 + 1 + 1 + Tr.cntE (GType.trs v2_4_2) + Tr.cntE (GExpr.trs v2_5) + Tr.cntE (GArm.trs v2_6) := by simp only [Tr.cntL, Tr.cnt] <;> omega
      obtain ⟨b, off, E0, arr0, cs0, T, rfl, hfoc, hrep, hback⟩ := HO1.out.take hmg (Tr.mid_sz (GArm.sz l)) (by omega) (fun x hx => Nat.lt_of_lt_of_le (HSS.out x hx) HC1.out.size)
      obtain ⟨d0, d1, d2, d3, d4, d5, d6, d7, d8, d9, d10, rfl⟩ := list11 hfoc.len
      obtain ⟨rfl, -⟩ := (hrep.1).leaf_eq
      obtain ⟨sa1, sc1, rfl, -, -⟩ := (hrep.2.1).shape
      obtain ⟨rfl, -⟩ := (hrep.2.2.1).leaf_eq
      obtain ⟨rfl, -⟩ := (hrep.2.2.2.1).leaf_eq
      obtain ⟨rfl, -⟩ := (hrep.2.2.2.2.1).leaf_eq
      obtain ⟨rfl, -⟩ := (hrep.2.2.2.2.2.1).leaf_eq
      obtain ⟨rfl, -⟩ := (hrep.2.2.2.2.2.2.1).leaf_eq
      obtain ⟨rfl, -⟩ := (hrep.2.2.2.2.2.2.2.1).leaf_eq
      obtain ⟨sa8, sc8, rfl, -, -⟩ := (hrep.2.2.2.2.2.2.2.2.1).shape
      obtain ⟨sa9, sc9, rfl, -, -⟩ := (hrep.2.2.2.2.2.2.2.2.2.1).shape
      obtain ⟨sa10, sc10, rfl, -, -⟩ := (hrep.2.2.2.2.2.2.2.2.2.2.1).shape
      have HF0 := Lib.hid hfoc
      have HBK := Lib.hid hback
      obtain ⟨arr1, hob1, hsz1, -, -⟩ := hfoc.arr
      have HOB0 := Lib.hid hob1
      have HFIT : Hid (off + j * 11 + 11 ≤ arr1.size) := by show _ ≤ _; rw [hsz1]; exact hfoc.fit
      have hmb : m + (1 + Tr.cntE (strTrs v1) + 1 + 1 + 1 + 1 + 1 + 1 + Tr.cntE (GType.trs v2_4_2) + Tr.cntE (GExpr.trs v2_5) + Tr.cntE (GArm.trs v2_6)) ≤ 1152921504606846976 := by rw [← hcw]; omega
      rw [hcw] at htk
      have HMS := Lib.hid hms
      have HTK := Lib.hid htk
      have hlo : (0 : Int) ≤ (j : Int) := by omega
      clear hfoc hrep hback hob1 hsz1 hms hmg htk hge hcl hcw hm1 htr
      go_wp2_with fail
      refine (markText_any _ m _ (by omega) (by omega)).mono ?_; rintro e w1 ⟨rfl, hw⟩
      have HF1 := Lib.hid (HF0.out.ext hw)
      obtain ⟨ar1, ho, hzz, -, -⟩ := HF1.out.arr
      have HOB1 := Lib.hid ho
      have HFT1 : Hid (off + j * 11 + 11 ≤ ar1.size) := by show _ ≤ _; rw [hzz]; exact HF1.out.fit
      clear hw ho hzz
      go_wp2_with (first
        | (refine wpList_store_cell rfl 9 (.tmp 17) (.tmp 15) rfl b (off + j * 11 + 0) rfl (.string (mtext m)) rfl rfl E0 ar1 HOB1.out isz9 (by have := HFT1.out; omega) rfl ?_; intro w2 hob hg hq; have HF2 := Lib.hid (HF1.out.leaf (j := 0) rfl (v := .string (mtext m)) (by have := mtext_size m (by omega); show _ ≤ maxLen; unfold maxLen; omega) HOB1.out hob hg); obtain ⟨ar2, ho, hzz, -, -⟩ := HF2.out.arr; have HOB2 := Lib.hid ho; have HFT2 : Hid (off + j * 11 + 11 ≤ ar2.size) := (by show _ ≤ _; rw [hzz]; exact HF2.out.fit); clear hob hg hq ho hzz; have hcell1 := HF2.out.cell (j := 1) rfl))
      obtain ⟨U1, hu1, hu2, hu3⟩ := HF2.out.row (j := 1) rfl rfl
      refine ((markStringS_all v1) _ _ (m + 1) U1 _ (by omega) hu1 hu2 (by omega)).mono ?_; rintro e w3 ⟨rfl, how, hch⟩
      have HF3 := Lib.hid (hu3 w3 _ how hch)
      clear how hch hu1 hu2 hu3 hcell1
      obtain ⟨ar3, ho, hzz, -, -⟩ := HF3.out.arr
      have HOB3 := Lib.hid ho
      have HFT3 : Hid (off + j * 11 + 11 ≤ ar3.size) := by show _ ≤ _; rw [hzz]; exact HF3.out.fit
      clear ho hzz
      go_wp2_with (first
        | (refine wpList_store_cell rfl 3 (.tmp 32) (.tmp 29) rfl b (off + j * 11 + 2) rfl (.int .i64 ((((m + 1) + Tr.cntE (strTrs v1)) : Nat) : Int)) (by first | rfl | (simp only [Nat.cast_add, Nat.cast_one] <;> rfl)) rfl E0 ar3 HOB3.out isz3 (by have := HFT3.out; omega) rfl ?_; intro w4 hob hg hq; have HF4 := Lib.hid (HF3.out.leaf (j := 2) rfl (v := .int .i64 ((((m + 1) + Tr.cntE (strTrs v1)) : Nat) : Int)) (WalkArith.wf_i64 (by omega)) HOB3.out hob hg); obtain ⟨ar4, ho, hzz, -, -⟩ := HF4.out.arr; have HOB4 := Lib.hid ho; have HFT4 : Hid (off + j * 11 + 11 ≤ ar4.size) := (by show _ ≤ _; rw [hzz]; exact HF4.out.fit); clear hob hg hq ho hzz))
      refine (markText_any _ (((m + 1) + Tr.cntE (strTrs v1)) + 1) _ (by omega) (by omega)).mono ?_; rintro e w5 ⟨rfl, hw⟩
      have HF5 := Lib.hid (HF4.out.ext hw)
      obtain ⟨ar5, ho, hzz, -, -⟩ := HF5.out.arr
      have HOB5 := Lib.hid ho
      have HFT5 : Hid (off + j * 11 + 11 ≤ ar5.size) := by show _ ≤ _; rw [hzz]; exact HF5.out.fit
      clear hw ho hzz
      go_wp2_with (first
        | (refine wpList_store_cell rfl 9 (.tmp 41) (.tmp 38) rfl b (off + j * 11 + 3) rfl (.string (mtext (((m + 1) + Tr.cntE (strTrs v1)) + 1))) rfl rfl E0 ar5 HOB5.out isz9 (by have := HFT5.out; omega) rfl ?_; intro w6 hob hg hq; have HF6 := Lib.hid (HF5.out.leaf (j := 3) rfl (v := .string (mtext (((m + 1) + Tr.cntE (strTrs v1)) + 1))) (by have := mtext_size (((m + 1) + Tr.cntE (strTrs v1)) + 1) (by omega); show _ ≤ maxLen; unfold maxLen; omega) HOB5.out hob hg); obtain ⟨ar6, ho, hzz, -, -⟩ := HF6.out.arr; have HOB6 := Lib.hid ho; have HFT6 : Hid (off + j * 11 + 11 ≤ ar6.size) := (by show _ ≤ _; rw [hzz]; exact HF6.out.fit); clear hob hg hq ho hzz))
      refine (markText_any _ ((((m + 1) + Tr.cntE (strTrs v1)) + 1) + 1) _ (by omega) (by omega)).mono ?_; rintro e w7 ⟨rfl, hw⟩
      have HF7 := Lib.hid (HF6.out.ext hw)
      obtain ⟨ar7, ho, hzz, -, -⟩ := HF7.out.arr
      have HOB7 := Lib.hid ho
      have HFT7 : Hid (off + j * 11 + 11 ≤ ar7.size) := by show _ ≤ _; rw [hzz]; exact HF7.out.fit
      clear hw ho hzz
      go_wp2_with (first
        | (refine wpList_store_cell rfl 9 (.tmp 50) (.tmp 47) rfl b (off + j * 11 + 4) rfl (.string (mtext ((((m + 1) + Tr.cntE (strTrs v1)) + 1) + 1))) rfl rfl E0 ar7 HOB7.out isz9 (by have := HFT7.out; omega) rfl ?_; intro w8 hob hg hq; have HF8 := Lib.hid (HF7.out.leaf (j := 4) rfl (v := .string (mtext ((((m + 1) + Tr.cntE (strTrs v1)) + 1) + 1))) (by have := mtext_size ((((m + 1) + Tr.cntE (strTrs v1)) + 1) + 1) (by omega); show _ ≤ maxLen; unfold maxLen; omega) HOB7.out hob hg); obtain ⟨ar8, ho, hzz, -, -⟩ := HF8.out.arr; have HOB8 := Lib.hid ho; have HFT8 : Hid (off + j * 11 + 11 ≤ ar8.size) := (by show _ ≤ _; rw [hzz]; exact HF8.out.fit); clear hob hg hq ho hzz)
        | (refine wpList_store_cell rfl 3 (.tmp 58) (.tmp 55) rfl b (off + j * 11 + 5) rfl (.int .i64 (((((((m + 1) + Tr.cntE (strTrs v1)) + 1) + 1) + 1) : Nat) : Int)) (by first | rfl | (simp only [Nat.cast_add, Nat.cast_one] <;> rfl)) rfl E0 ar8 HOB8.out isz3 (by have := HFT8.out; omega) rfl ?_; intro w9 hob hg hq; have HF9 := Lib.hid (HF8.out.leaf (j := 5) rfl (v := .int .i64 (((((((m + 1) + Tr.cntE (strTrs v1)) + 1) + 1) + 1) : Nat) : Int)) (WalkArith.wf_i64 (by omega)) HOB8.out hob hg); obtain ⟨ar9, ho, hzz, -, -⟩ := HF9.out.arr; have HOB9 := Lib.hid ho; have HFT9 : Hid (off + j * 11 + 11 ≤ ar9.size) := (by show _ ≤ _; rw [hzz]; exact HF9.out.fit); clear hob hg hq ho hzz)
        | (refine wpList_store_cell rfl 3 (.tmp 67) (.tmp 63) rfl b (off + j * 11 + 6) rfl (.int .i64 ((((((((m + 1) + Tr.cntE (strTrs v1)) + 1) + 1) + 1) + 1) : Nat) : Int)) (by first | rfl | (simp only [Nat.cast_add, Nat.cast_one] <;> rfl)) rfl E0 ar9 HOB9.out isz3 (by have := HFT9.out; omega) rfl ?_; intro w10 hob hg hq; have HF10 := Lib.hid (HF9.out.leaf (j := 6) rfl (v := .int .i64 ((((((((m + 1) + Tr.cntE (strTrs v1)) + 1) + 1) + 1) + 1) : Nat) : Int)) (WalkArith.wf_i64 (by omega)) HOB9.out hob hg); obtain ⟨ar10, ho, hzz, -, -⟩ := HF10.out.arr; have HOB10 := Lib.hid ho; have HFT10 : Hid (off + j * 11 + 11 ≤ ar10.size) := (by show _ ≤ _; rw [hzz]; exact HF10.out.fit); clear hob hg hq ho hzz))
      refine (markText_any _ (((((((m + 1) + Tr.cntE (strTrs v1)) + 1) + 1) + 1) + 1) + 1) _ (by omega) (by omega)).mono ?_; rintro e w11 ⟨rfl, hw⟩
      have HF11 := Lib.hid (HF10.out.ext hw)
      obtain ⟨ar11, ho, hzz, -, -⟩ := HF11.out.arr
      have HOB11 := Lib.hid ho
      have HFT11 : Hid (off + j * 11 + 11 ≤ ar11.size) := by show _ ≤ _; rw [hzz]; exact HF11.out.fit
      clear hw ho hzz
      go_wp2_with (first
        | (refine wpList_store_cell rfl 9 (.tmp 77) (.tmp 73) rfl b (off + j * 11 + 7) rfl (.string (mtext (((((((m + 1) + Tr.cntE (strTrs v1)) + 1) + 1) + 1) + 1) + 1))) rfl rfl E0 ar11 HOB11.out isz9 (by have := HFT11.out; omega) rfl ?_; intro w12 hob hg hq; have HF12 := Lib.hid (HF11.out.leaf (j := 7) rfl (v := .string (mtext (((((((m + 1) + Tr.cntE (strTrs v1)) + 1) + 1) + 1) + 1) + 1))) (by have := mtext_size (((((((m + 1) + Tr.cntE (strTrs v1)) + 1) + 1) + 1) + 1) + 1) (by omega); show _ ≤ maxLen; unfold maxLen; omega) HOB11.out hob hg); obtain ⟨ar12, ho, hzz, -, -⟩ := HF12.out.arr; have HOB12 := Lib.hid ho; have HFT12 : Hid (off + j * 11 + 11 ≤ ar12.size) := (by show _ ≤ _; rw [hzz]; exact HF12.out.fit); clear hob hg hq ho hzz; have hcell8 := HF12.out.cell (j := 8) rfl))
      obtain ⟨U8, hu1, hu2, hu3⟩ := HF12.out.row (j := 8) rfl rfl
      refine ((markTypeS_all v2_4_2) _ _ ((((((((m + 1) + Tr.cntE (strTrs v1)) + 1) + 1) + 1) + 1) + 1) + 1) U8 _ (by omega) hu1 hu2 (by omega)).mono ?_; rintro e w13 ⟨rfl, how, hch⟩
      have HF13 := Lib.hid (hu3 w13 _ how hch)
      clear how hch hu1 hu2 hu3 hcell8
      obtain ⟨ar13, ho, hzz, -, -⟩ := HF13.out.arr
      have HOB13 := Lib.hid ho
      have HFT13 : Hid (off + j * 11 + 11 ≤ ar13.size) := by show _ ≤ _; rw [hzz]; exact HF13.out.fit
      clear ho hzz
      have hcell9 := HF13.out.cell (j := 9) rfl
      go_wp2_with fail
      obtain ⟨U9, hu1, hu2, hu3⟩ := HF13.out.row (j := 9) rfl rfl
      refine (HM9.out _ _ (((((((((m + 1) + Tr.cntE (strTrs v1)) + 1) + 1) + 1) + 1) + 1) + 1) + Tr.cntE (GType.trs v2_4_2)) U9 _ (by omega) hu1 hu2 (by omega)).mono ?_; rintro e w14 ⟨rfl, how, hch⟩
      have HF14 := Lib.hid (hu3 w14 _ how hch)
      clear how hch hu1 hu2 hu3 hcell9
      obtain ⟨ar14, ho, hzz, -, -⟩ := HF14.out.arr
      have HOB14 := Lib.hid ho
      have HFT14 : Hid (off + j * 11 + 11 ≤ ar14.size) := by show _ ≤ _; rw [hzz]; exact HF14.out.fit
      clear ho hzz
      have hcell10 := HF14.out.cell (j := 10) rfl
      go_wp2_with fail
      obtain ⟨U10, hu1, hu2, hu3⟩ := HF14.out.row (j := 10) rfl rfl
      refine (HM10.out _ _ ((((((((((m + 1) + Tr.cntE (strTrs v1)) + 1) + 1) + 1) + 1) + 1) + 1) + Tr.cntE (GType.trs v2_4_2)) + Tr.cntE (GExpr.trs v2_5)) U10 _ (by omega) hu1 hu2 (by omega)).mono ?_; rintro e w15 ⟨rfl, how, hch⟩
      have HF15 := Lib.hid (hu3 w15 _ how hch)
      clear how hch hu1 hu2 hu3 hcell10
      go_wp2_with fail
      go_roundw
      case rel =>
        obtain ⟨hown2, hchg2⟩ := HBK.out _ _ _ rfl HF15.out
        refine ⟨j + 1, (((((((((((m + 1) + Tr.cntE (strTrs v1)) + 1) + 1) + 1) + 1) + 1) + 1) + Tr.cntE (GType.trs v2_4_2)) + Tr.cntE (GExpr.trs v2_5)) + Tr.cntE (GArm.trs v2_6)), by omega, by go_num, by first | rfl | go_num, by have h1 := HTK.out; have h2 := HM1.out; show _ = _; omega, ?_, HC1.out.trans hchg2⟩
        show Own _ _ _ _
        rw [← HMS.out]
        exact hown2
      case measure => simp [intOf]; omega
    · have hkl : j = (GArm.trs l).length := by rw [GArm.trs_len]; omega
      go_wp2_with fail
      go_ret
      have ho := HO1.out
      rw [hkl, Tr.mid_end] at ho
      have hm1 := HM1.out
      rw [hkl, List.take_length] at hm1
      subst hm1
      exact ⟨rfl, ho, HC1.out⟩
theorem markExpr_in : ∀ x : GExpr, MarkSC 168 9 (GExpr.trs x.gArgs) ∧ MarkSC 169 11 (GArm.trs x.gArms) :=
  GExpr.ind fun v0 v1 v2 v3 v4 v5 v6 ih5 ih6 => ⟨markExprS_of v5 (fun x hx => (ih5 x hx).1) (fun x hx => (ih5 x hx).2), markArmS_of v6 (fun x hx => (ih6 x hx).1) (fun x hx => (ih6 x hx).2)⟩
theorem markExprS_all (l : List GExpr) : MarkSC 168 9 (GExpr.trs l) := markExprS_of l (fun x _ => (markExpr_in x).1) (fun x _ => (markExpr_in x).2)
theorem markArmS_all (l : List GArm) : MarkSC 169 11 (GArm.trs l) := markArmS_of l (fun x _ => (markExpr_in x.gBody).1) (fun x _ => (markExpr_in x.gBody).2)

set_option maxRecDepth 100000 in
set_option maxHeartbeats 2000000 in
theorem markBoundS_of (l : List GBound)  : MarkSC 56 4 (GBound.trs l) := by
  intro s kz k S w hz hown hS hbd
  subst hz
  obtain ⟨a, cap, rfl, hl, hm⟩ := hown.rep.shape
  rw [GBound.trs_len] at *
  unfold maxLen at hm
  have HO := Lib.hid hown
  have HSS := Lib.hid hS
  clear hown hS
  go_enter Tryz.func56, Tryz.ntmps56
  go_wp2_with fail
  go_loopw [1, 5] (fun kv i wr => ∃ j m : Nat, j ≤ l.length ∧ i = .int .i64 j ∧ kv = .int .i64 (m : Int) ∧ Hid (m = k + Tr.cntE ((GBound.trs l).take j)) ∧ Hid (Own wr (.row 4 (Tr.mid (GBound.trs l) k j)) (.slice a l.length cap) S) ∧ Hid (Chg S w wr)) (fun _ i _ => l.length - (intOf i).toNat)
  case atStart => exact ⟨0, k, Nat.zero_le _, rfl, rfl, by show _ = _; simp [Tr.cntE], by show Own _ _ _ _; rw [Tr.mid_zero]; exact HO.out, Chg.refl _ _⟩
  case round =>
    obtain ⟨j, m, hj, rfl, rfl, HM1, HO1, HC1⟩ := hrel
    by_cases hlt : j < l.length
    · have hlt2 : j < (GBound.trs l).length := by rw [GBound.trs_len]; exact hlt
      have hge : (GBound.trs l)[j] = (l[j]).tr := by have h1 := GBound.trs_get hlt; rw [List.getElem?_eq_getElem hlt2] at h1; exact Option.some.inj h1
      have hcl := Tr.cntE_le hlt2
      have hms := Tr.mid_set (k := k) hlt2
      have hmg := Tr.mid_get (k := k) hlt2
      have htk : Tr.cntE ((GBound.trs l).take (j + 1)) = Tr.cntE ((GBound.trs l).take j) + Tr.cntL (GBound.trs l)[j] := Tr.cntE_take _ j hlt2
      rw [hge] at hcl hms hmg htk
      have hm1 := HM1.out
      rw [← hm1] at hms
      generalize l[j] = x at *
      obtain ⟨v0, ⟨v1_0, v1_1, v1_2⟩⟩ := x
      have htr : GBound.tr (.mk v0 (.mk v1_0 v1_1 v1_2)) = [.leaf (.string v0), .leaf (.int .i64 v1_0), .leaf (.string v1_1), .row 3 (GType.trs v1_2)] := by simp [GBound.tr, GType.tr]
      rw [htr] at hcl hms hmg htk
      have hcw : Tr.cntL [.leaf (.string v0), .leaf (.int .i64 v1_0), .leaf (.string v1_1), .row 3 (GType.trs v1_2)] = 1 + 1 + 1 + Tr.cntE (GType.trs v1_2) := by simp only [Tr.cntL, Tr.cnt] <;> omega
      obtain ⟨b, off, E0, arr0, cs0, T, rfl, hfoc, hrep, hback⟩ := HO1.out.take hmg (Tr.mid_sz (GBound.sz l)) (by omega) (fun x hx => Nat.lt_of_lt_of_le (HSS.out x hx) HC1.out.size)
      obtain ⟨d0, d1, d2, d3, rfl⟩ := list4 hfoc.len
      obtain ⟨rfl, -⟩ := (hrep.1).leaf_eq
      obtain ⟨rfl, -⟩ := (hrep.2.1).leaf_eq
      obtain ⟨rfl, -⟩ := (hrep.2.2.1).leaf_eq
      obtain ⟨sa3, sc3, rfl, -, -⟩ := (hrep.2.2.2.1).shape
      have HF0 := Lib.hid hfoc
      have HBK := Lib.hid hback
      obtain ⟨arr1, hob1, hsz1, -, -⟩ := hfoc.arr
      have HOB0 := Lib.hid hob1
      have HFIT : Hid (off + j * 4 + 4 ≤ arr1.size) := by show _ ≤ _; rw [hsz1]; exact hfoc.fit
      have hmb : m + (1 + 1 + 1 + Tr.cntE (GType.trs v1_2)) ≤ 1152921504606846976 := by rw [← hcw]; omega
      rw [hcw] at htk
      have HMS := Lib.hid hms
      have HTK := Lib.hid htk
      have hlo : (0 : Int) ≤ (j : Int) := by omega
      clear hfoc hrep hback hob1 hsz1 hms hmg htk hge hcl hcw hm1 htr
      go_wp2_with fail
      refine (markText_any _ m _ (by omega) (by omega)).mono ?_; rintro e w1 ⟨rfl, hw⟩
      have HF1 := Lib.hid (HF0.out.ext hw)
      obtain ⟨ar1, ho, hzz, -, -⟩ := HF1.out.arr
      have HOB1 := Lib.hid ho
      have HFT1 : Hid (off + j * 4 + 4 ≤ ar1.size) := by show _ ≤ _; rw [hzz]; exact HF1.out.fit
      clear hw ho hzz
      go_wp2_with (first
        | (refine wpList_store_cell rfl 9 (.tmp 17) (.tmp 15) rfl b (off + j * 4 + 0) rfl (.string (mtext m)) rfl rfl E0 ar1 HOB1.out isz9 (by have := HFT1.out; omega) rfl ?_; intro w2 hob hg hq; have HF2 := Lib.hid (HF1.out.leaf (j := 0) rfl (v := .string (mtext m)) (by have := mtext_size m (by omega); show _ ≤ maxLen; unfold maxLen; omega) HOB1.out hob hg); obtain ⟨ar2, ho, hzz, -, -⟩ := HF2.out.arr; have HOB2 := Lib.hid ho; have HFT2 : Hid (off + j * 4 + 4 ≤ ar2.size) := (by show _ ≤ _; rw [hzz]; exact HF2.out.fit); clear hob hg hq ho hzz)
        | (refine wpList_store_cell rfl 3 (.tmp 25) (.tmp 22) rfl b (off + j * 4 + 1) rfl (.int .i64 (((m + 1) : Nat) : Int)) (by first | rfl | (simp only [Nat.cast_add, Nat.cast_one] <;> rfl)) rfl E0 ar2 HOB2.out isz3 (by have := HFT2.out; omega) rfl ?_; intro w3 hob hg hq; have HF3 := Lib.hid (HF2.out.leaf (j := 1) rfl (v := .int .i64 (((m + 1) : Nat) : Int)) (WalkArith.wf_i64 (by omega)) HOB2.out hob hg); obtain ⟨ar3, ho, hzz, -, -⟩ := HF3.out.arr; have HOB3 := Lib.hid ho; have HFT3 : Hid (off + j * 4 + 4 ≤ ar3.size) := (by show _ ≤ _; rw [hzz]; exact HF3.out.fit); clear hob hg hq ho hzz))
      refine (markText_any _ ((m + 1) + 1) _ (by omega) (by omega)).mono ?_; rintro e w4 ⟨rfl, hw⟩
      have HF4 := Lib.hid (HF3.out.ext hw)
      obtain ⟨ar4, ho, hzz, -, -⟩ := HF4.out.arr
      have HOB4 := Lib.hid ho
      have HFT4 : Hid (off + j * 4 + 4 ≤ ar4.size) := by show _ ≤ _; rw [hzz]; exact HF4.out.fit
      clear hw ho hzz
      go_wp2_with (first
        | (refine wpList_store_cell rfl 9 (.tmp 34) (.tmp 31) rfl b (off + j * 4 + 2) rfl (.string (mtext ((m + 1) + 1))) rfl rfl E0 ar4 HOB4.out isz9 (by have := HFT4.out; omega) rfl ?_; intro w5 hob hg hq; have HF5 := Lib.hid (HF4.out.leaf (j := 2) rfl (v := .string (mtext ((m + 1) + 1))) (by have := mtext_size ((m + 1) + 1) (by omega); show _ ≤ maxLen; unfold maxLen; omega) HOB4.out hob hg); obtain ⟨ar5, ho, hzz, -, -⟩ := HF5.out.arr; have HOB5 := Lib.hid ho; have HFT5 : Hid (off + j * 4 + 4 ≤ ar5.size) := (by show _ ≤ _; rw [hzz]; exact HF5.out.fit); clear hob hg hq ho hzz; have hcell3 := HF5.out.cell (j := 3) rfl))
      obtain ⟨U3, hu1, hu2, hu3⟩ := HF5.out.row (j := 3) rfl rfl
      refine ((markTypeS_all v1_2) _ _ (((m + 1) + 1) + 1) U3 _ (by omega) hu1 hu2 (by omega)).mono ?_; rintro e w6 ⟨rfl, how, hch⟩
      have HF6 := Lib.hid (hu3 w6 _ how hch)
      clear how hch hu1 hu2 hu3 hcell3
      go_wp2_with fail
      go_roundw
      case rel =>
        obtain ⟨hown2, hchg2⟩ := HBK.out _ _ _ rfl HF6.out
        refine ⟨j + 1, ((((m + 1) + 1) + 1) + Tr.cntE (GType.trs v1_2)), by omega, by go_num, by first | rfl | go_num, by have h1 := HTK.out; have h2 := HM1.out; show _ = _; omega, ?_, HC1.out.trans hchg2⟩
        show Own _ _ _ _
        rw [← HMS.out]
        exact hown2
      case measure => simp [intOf]; omega
    · have hkl : j = (GBound.trs l).length := by rw [GBound.trs_len]; omega
      go_wp2_with fail
      go_ret
      have ho := HO1.out
      rw [hkl, Tr.mid_end] at ho
      have hm1 := HM1.out
      rw [hkl, List.take_length] at hm1
      subst hm1
      exact ⟨rfl, ho, HC1.out⟩
theorem markBoundS_all (l : List GBound) : MarkSC 56 4 (GBound.trs l) := markBoundS_of l

set_option maxRecDepth 100000 in
set_option maxHeartbeats 2000000 in
theorem markParamS_of (l : List GParam)  : MarkSC 131 4 (GParam.trs l) := by
  intro s kz k S w hz hown hS hbd
  subst hz
  obtain ⟨a, cap, rfl, hl, hm⟩ := hown.rep.shape
  rw [GParam.trs_len] at *
  unfold maxLen at hm
  have HO := Lib.hid hown
  have HSS := Lib.hid hS
  clear hown hS
  go_enter Tryz.func131, Tryz.ntmps131
  go_wp2_with fail
  go_loopw [1, 5] (fun kv i wr => ∃ j m : Nat, j ≤ l.length ∧ i = .int .i64 j ∧ kv = .int .i64 (m : Int) ∧ Hid (m = k + Tr.cntE ((GParam.trs l).take j)) ∧ Hid (Own wr (.row 4 (Tr.mid (GParam.trs l) k j)) (.slice a l.length cap) S) ∧ Hid (Chg S w wr)) (fun _ i _ => l.length - (intOf i).toNat)
  case atStart => exact ⟨0, k, Nat.zero_le _, rfl, rfl, by show _ = _; simp [Tr.cntE], by show Own _ _ _ _; rw [Tr.mid_zero]; exact HO.out, Chg.refl _ _⟩
  case round =>
    obtain ⟨j, m, hj, rfl, rfl, HM1, HO1, HC1⟩ := hrel
    by_cases hlt : j < l.length
    · have hlt2 : j < (GParam.trs l).length := by rw [GParam.trs_len]; exact hlt
      have hge : (GParam.trs l)[j] = (l[j]).tr := by have h1 := GParam.trs_get hlt; rw [List.getElem?_eq_getElem hlt2] at h1; exact Option.some.inj h1
      have hcl := Tr.cntE_le hlt2
      have hms := Tr.mid_set (k := k) hlt2
      have hmg := Tr.mid_get (k := k) hlt2
      have htk : Tr.cntE ((GParam.trs l).take (j + 1)) = Tr.cntE ((GParam.trs l).take j) + Tr.cntL (GParam.trs l)[j] := Tr.cntE_take _ j hlt2
      rw [hge] at hcl hms hmg htk
      have hm1 := HM1.out
      rw [← hm1] at hms
      generalize l[j] = x at *
      obtain ⟨v0, ⟨v1_0, v1_1, v1_2⟩⟩ := x
      have htr : GParam.tr (.mk v0 (.mk v1_0 v1_1 v1_2)) = [.leaf (.string v0), .leaf (.int .i64 v1_0), .leaf (.string v1_1), .row 3 (GType.trs v1_2)] := by simp [GParam.tr, GType.tr]
      rw [htr] at hcl hms hmg htk
      have hcw : Tr.cntL [.leaf (.string v0), .leaf (.int .i64 v1_0), .leaf (.string v1_1), .row 3 (GType.trs v1_2)] = 1 + 1 + 1 + Tr.cntE (GType.trs v1_2) := by simp only [Tr.cntL, Tr.cnt] <;> omega
      obtain ⟨b, off, E0, arr0, cs0, T, rfl, hfoc, hrep, hback⟩ := HO1.out.take hmg (Tr.mid_sz (GParam.sz l)) (by omega) (fun x hx => Nat.lt_of_lt_of_le (HSS.out x hx) HC1.out.size)
      obtain ⟨d0, d1, d2, d3, rfl⟩ := list4 hfoc.len
      obtain ⟨rfl, -⟩ := (hrep.1).leaf_eq
      obtain ⟨rfl, -⟩ := (hrep.2.1).leaf_eq
      obtain ⟨rfl, -⟩ := (hrep.2.2.1).leaf_eq
      obtain ⟨sa3, sc3, rfl, -, -⟩ := (hrep.2.2.2.1).shape
      have HF0 := Lib.hid hfoc
      have HBK := Lib.hid hback
      obtain ⟨arr1, hob1, hsz1, -, -⟩ := hfoc.arr
      have HOB0 := Lib.hid hob1
      have HFIT : Hid (off + j * 4 + 4 ≤ arr1.size) := by show _ ≤ _; rw [hsz1]; exact hfoc.fit
      have hmb : m + (1 + 1 + 1 + Tr.cntE (GType.trs v1_2)) ≤ 1152921504606846976 := by rw [← hcw]; omega
      rw [hcw] at htk
      have HMS := Lib.hid hms
      have HTK := Lib.hid htk
      have hlo : (0 : Int) ≤ (j : Int) := by omega
      clear hfoc hrep hback hob1 hsz1 hms hmg htk hge hcl hcw hm1 htr
      go_wp2_with fail
      refine (markText_any _ m _ (by omega) (by omega)).mono ?_; rintro e w1 ⟨rfl, hw⟩
      have HF1 := Lib.hid (HF0.out.ext hw)
      obtain ⟨ar1, ho, hzz, -, -⟩ := HF1.out.arr
      have HOB1 := Lib.hid ho
      have HFT1 : Hid (off + j * 4 + 4 ≤ ar1.size) := by show _ ≤ _; rw [hzz]; exact HF1.out.fit
      clear hw ho hzz
      go_wp2_with (first
        | (refine wpList_store_cell rfl 9 (.tmp 17) (.tmp 15) rfl b (off + j * 4 + 0) rfl (.string (mtext m)) rfl rfl E0 ar1 HOB1.out isz9 (by have := HFT1.out; omega) rfl ?_; intro w2 hob hg hq; have HF2 := Lib.hid (HF1.out.leaf (j := 0) rfl (v := .string (mtext m)) (by have := mtext_size m (by omega); show _ ≤ maxLen; unfold maxLen; omega) HOB1.out hob hg); obtain ⟨ar2, ho, hzz, -, -⟩ := HF2.out.arr; have HOB2 := Lib.hid ho; have HFT2 : Hid (off + j * 4 + 4 ≤ ar2.size) := (by show _ ≤ _; rw [hzz]; exact HF2.out.fit); clear hob hg hq ho hzz)
        | (refine wpList_store_cell rfl 3 (.tmp 25) (.tmp 22) rfl b (off + j * 4 + 1) rfl (.int .i64 (((m + 1) : Nat) : Int)) (by first | rfl | (simp only [Nat.cast_add, Nat.cast_one] <;> rfl)) rfl E0 ar2 HOB2.out isz3 (by have := HFT2.out; omega) rfl ?_; intro w3 hob hg hq; have HF3 := Lib.hid (HF2.out.leaf (j := 1) rfl (v := .int .i64 (((m + 1) : Nat) : Int)) (WalkArith.wf_i64 (by omega)) HOB2.out hob hg); obtain ⟨ar3, ho, hzz, -, -⟩ := HF3.out.arr; have HOB3 := Lib.hid ho; have HFT3 : Hid (off + j * 4 + 4 ≤ ar3.size) := (by show _ ≤ _; rw [hzz]; exact HF3.out.fit); clear hob hg hq ho hzz))
      refine (markText_any _ ((m + 1) + 1) _ (by omega) (by omega)).mono ?_; rintro e w4 ⟨rfl, hw⟩
      have HF4 := Lib.hid (HF3.out.ext hw)
      obtain ⟨ar4, ho, hzz, -, -⟩ := HF4.out.arr
      have HOB4 := Lib.hid ho
      have HFT4 : Hid (off + j * 4 + 4 ≤ ar4.size) := by show _ ≤ _; rw [hzz]; exact HF4.out.fit
      clear hw ho hzz
      go_wp2_with (first
        | (refine wpList_store_cell rfl 9 (.tmp 34) (.tmp 31) rfl b (off + j * 4 + 2) rfl (.string (mtext ((m + 1) + 1))) rfl rfl E0 ar4 HOB4.out isz9 (by have := HFT4.out; omega) rfl ?_; intro w5 hob hg hq; have HF5 := Lib.hid (HF4.out.leaf (j := 2) rfl (v := .string (mtext ((m + 1) + 1))) (by have := mtext_size ((m + 1) + 1) (by omega); show _ ≤ maxLen; unfold maxLen; omega) HOB4.out hob hg); obtain ⟨ar5, ho, hzz, -, -⟩ := HF5.out.arr; have HOB5 := Lib.hid ho; have HFT5 : Hid (off + j * 4 + 4 ≤ ar5.size) := (by show _ ≤ _; rw [hzz]; exact HF5.out.fit); clear hob hg hq ho hzz; have hcell3 := HF5.out.cell (j := 3) rfl))
      obtain ⟨U3, hu1, hu2, hu3⟩ := HF5.out.row (j := 3) rfl rfl
      refine ((markTypeS_all v1_2) _ _ (((m + 1) + 1) + 1) U3 _ (by omega) hu1 hu2 (by omega)).mono ?_; rintro e w6 ⟨rfl, how, hch⟩
      have HF6 := Lib.hid (hu3 w6 _ how hch)
      clear how hch hu1 hu2 hu3 hcell3
      go_wp2_with fail
      go_roundw
      case rel =>
        obtain ⟨hown2, hchg2⟩ := HBK.out _ _ _ rfl HF6.out
        refine ⟨j + 1, ((((m + 1) + 1) + 1) + Tr.cntE (GType.trs v1_2)), by omega, by go_num, by first | rfl | go_num, by have h1 := HTK.out; have h2 := HM1.out; show _ = _; omega, ?_, HC1.out.trans hchg2⟩
        show Own _ _ _ _
        rw [← HMS.out]
        exact hown2
      case measure => simp [intOf]; omega
    · have hkl : j = (GParam.trs l).length := by rw [GParam.trs_len]; omega
      go_wp2_with fail
      go_ret
      have ho := HO1.out
      rw [hkl, Tr.mid_end] at ho
      have hm1 := HM1.out
      rw [hkl, List.take_length] at hm1
      subst hm1
      exact ⟨rfl, ho, HC1.out⟩
theorem markParamS_all (l : List GParam) : MarkSC 131 4 (GParam.trs l) := markParamS_of l

set_option maxRecDepth 100000 in
set_option maxHeartbeats 2000000 in
theorem markMethodS_of (l : List GMethod)  : MarkSC 198 11 (GMethod.trs l) := by
  intro s kz k S w hz hown hS hbd
  subst hz
  obtain ⟨a, cap, rfl, hl, hm⟩ := hown.rep.shape
  rw [GMethod.trs_len] at *
  unfold maxLen at hm
  have HO := Lib.hid hown
  have HSS := Lib.hid hS
  clear hown hS
  go_enter Tryz.func198, Tryz.ntmps198
  go_wp2_with fail
  go_loopw [1, 5] (fun kv i wr => ∃ j m : Nat, j ≤ l.length ∧ i = .int .i64 j ∧ kv = .int .i64 (m : Int) ∧ Hid (m = k + Tr.cntE ((GMethod.trs l).take j)) ∧ Hid (Own wr (.row 11 (Tr.mid (GMethod.trs l) k j)) (.slice a l.length cap) S) ∧ Hid (Chg S w wr)) (fun _ i _ => l.length - (intOf i).toNat)
  case atStart => exact ⟨0, k, Nat.zero_le _, rfl, rfl, by show _ = _; simp [Tr.cntE], by show Own _ _ _ _; rw [Tr.mid_zero]; exact HO.out, Chg.refl _ _⟩
  case round =>
    obtain ⟨j, m, hj, rfl, rfl, HM1, HO1, HC1⟩ := hrel
    by_cases hlt : j < l.length
    · have hlt2 : j < (GMethod.trs l).length := by rw [GMethod.trs_len]; exact hlt
      have hge : (GMethod.trs l)[j] = (l[j]).tr := by have h1 := GMethod.trs_get hlt; rw [List.getElem?_eq_getElem hlt2] at h1; exact Option.some.inj h1
      have hcl := Tr.cntE_le hlt2
      have hms := Tr.mid_set (k := k) hlt2
      have hmg := Tr.mid_get (k := k) hlt2
      have htk : Tr.cntE ((GMethod.trs l).take (j + 1)) = Tr.cntE ((GMethod.trs l).take j) + Tr.cntL (GMethod.trs l)[j] := Tr.cntE_take _ j hlt2
      rw [hge] at hcl hms hmg htk
      have hm1 := HM1.out
      rw [← hm1] at hms
      generalize l[j] = x at *
      obtain ⟨v0, v1, ⟨v2_0, v2_1, v2_2, v2_3, ⟨v2_4_0, v2_4_1, v2_4_2⟩, v2_5, v2_6⟩⟩ := x
      have htr : GMethod.tr (.mk v0 v1 (.mk v2_0 v2_1 v2_2 v2_3 (.mk v2_4_0 v2_4_1 v2_4_2) v2_5 v2_6)) = [.leaf (.string v0), .row 1 (strTrs v1), .leaf (.int .i64 v2_0), .leaf (.string v2_1), .leaf (.string v2_2), .leaf (.int .i64 v2_3), .leaf (.int .i64 v2_4_0), .leaf (.string v2_4_1), .row 3 (GType.trs v2_4_2), .row 9 (GExpr.trs v2_5), .row 11 (GArm.trs v2_6)] := by simp [GMethod.tr, GExpr.tr, GType.tr]
      rw [htr] at hcl hms hmg htk
      have hcw : Tr.cntL [.leaf (.string v0), .row 1 (strTrs v1), .leaf (.int .i64 v2_0), .leaf (.string v2_1), .leaf (.string v2_2), .leaf (.int .i64 v2_3), .leaf (.int .i64 v2_4_0), .leaf (.string v2_4_1), .row 3 (GType.trs v2_4_2), .row 9 (GExpr.trs v2_5), .row 11 (GArm.trs v2_6)] = 1 + Tr.cntE (strTrs v1) + 1 + 1 + 1 + 1 + 1 + 1 + Tr.cntE (GType.trs v2_4_2) + Tr.cntE (GExpr.trs v2_5) + Tr.cntE (GArm.trs v2_6) := by simp only [Tr.cntL, Tr.cnt] <;> omega
      obtain ⟨b, off, E0, arr0, cs0, T, rfl, hfoc, hrep, hback⟩ := HO1.out.take hmg (Tr.mid_sz (GMethod.sz l)) (by omega) (fun x hx => Nat.lt_of_lt_of_le (HSS.out x hx) HC1.out.size)
      obtain ⟨d0, d1, d2, d3, d4, d5, d6, d7, d8, d9, d10, rfl⟩ := list11 hfoc.len
      obtain ⟨rfl, -⟩ := (hrep.1).leaf_eq
      obtain ⟨sa1, sc1, rfl, -, -⟩ := (hrep.2.1).shape
      obtain ⟨rfl, -⟩ := (hrep.2.2.1).leaf_eq
      obtain ⟨rfl, -⟩ := (hrep.2.2.2.1).leaf_eq
      obtain ⟨rfl, -⟩ := (hrep.2.2.2.2.1).leaf_eq
      obtain ⟨rfl, -⟩ := (hrep.2.2.2.2.2.1).leaf_eq
      obtain ⟨rfl, -⟩ := (hrep.2.2.2.2.2.2.1).leaf_eq
      obtain ⟨rfl, -⟩ := (hrep.2.2.2.2.2.2.2.1).leaf_eq
      obtain ⟨sa8, sc8, rfl, -, -⟩ := (hrep.2.2.2.2.2.2.2.2.1).shape
      obtain ⟨sa9, sc9, rfl, -, -⟩ := (hrep.2.2.2.2.2.2.2.2.2.1).shape
      obtain ⟨sa10, sc10, rfl, -, -⟩ := (hrep.2.2.2.2.2.2.2.2.2.2.1).shape
      have HF0 := Lib.hid hfoc
      have HBK := Lib.hid hback
      obtain ⟨arr1, hob1, hsz1, -, -⟩ := hfoc.arr
      have HOB0 := Lib.hid hob1
      have HFIT : Hid (off + j * 11 + 11 ≤ arr1.size) := by show _ ≤ _; rw [hsz1]; exact hfoc.fit
      have hmb : m + (1 + Tr.cntE (strTrs v1) + 1 + 1 + 1 + 1 + 1 + 1 + Tr.cntE (GType.trs v2_4_2) + Tr.cntE (GExpr.trs v2_5) + Tr.cntE (GArm.trs v2_6)) ≤ 1152921504606846976 := by rw [← hcw]; omega
      rw [hcw] at htk
      have HMS := Lib.hid hms
      have HTK := Lib.hid htk
      have hlo : (0 : Int) ≤ (j : Int) := by omega
      clear hfoc hrep hback hob1 hsz1 hms hmg htk hge hcl hcw hm1 htr
      go_wp2_with fail
      refine (markText_any _ m _ (by omega) (by omega)).mono ?_; rintro e w1 ⟨rfl, hw⟩
      have HF1 := Lib.hid (HF0.out.ext hw)
      obtain ⟨ar1, ho, hzz, -, -⟩ := HF1.out.arr
      have HOB1 := Lib.hid ho
      have HFT1 : Hid (off + j * 11 + 11 ≤ ar1.size) := by show _ ≤ _; rw [hzz]; exact HF1.out.fit
      clear hw ho hzz
      go_wp2_with (first
        | (refine wpList_store_cell rfl 9 (.tmp 17) (.tmp 15) rfl b (off + j * 11 + 0) rfl (.string (mtext m)) rfl rfl E0 ar1 HOB1.out isz9 (by have := HFT1.out; omega) rfl ?_; intro w2 hob hg hq; have HF2 := Lib.hid (HF1.out.leaf (j := 0) rfl (v := .string (mtext m)) (by have := mtext_size m (by omega); show _ ≤ maxLen; unfold maxLen; omega) HOB1.out hob hg); obtain ⟨ar2, ho, hzz, -, -⟩ := HF2.out.arr; have HOB2 := Lib.hid ho; have HFT2 : Hid (off + j * 11 + 11 ≤ ar2.size) := (by show _ ≤ _; rw [hzz]; exact HF2.out.fit); clear hob hg hq ho hzz; have hcell1 := HF2.out.cell (j := 1) rfl))
      obtain ⟨U1, hu1, hu2, hu3⟩ := HF2.out.row (j := 1) rfl rfl
      refine ((markStringS_all v1) _ _ (m + 1) U1 _ (by omega) hu1 hu2 (by omega)).mono ?_; rintro e w3 ⟨rfl, how, hch⟩
      have HF3 := Lib.hid (hu3 w3 _ how hch)
      clear how hch hu1 hu2 hu3 hcell1
      obtain ⟨ar3, ho, hzz, -, -⟩ := HF3.out.arr
      have HOB3 := Lib.hid ho
      have HFT3 : Hid (off + j * 11 + 11 ≤ ar3.size) := by show _ ≤ _; rw [hzz]; exact HF3.out.fit
      clear ho hzz
      go_wp2_with (first
        | (refine wpList_store_cell rfl 3 (.tmp 32) (.tmp 29) rfl b (off + j * 11 + 2) rfl (.int .i64 ((((m + 1) + Tr.cntE (strTrs v1)) : Nat) : Int)) (by first | rfl | (simp only [Nat.cast_add, Nat.cast_one] <;> rfl)) rfl E0 ar3 HOB3.out isz3 (by have := HFT3.out; omega) rfl ?_; intro w4 hob hg hq; have HF4 := Lib.hid (HF3.out.leaf (j := 2) rfl (v := .int .i64 ((((m + 1) + Tr.cntE (strTrs v1)) : Nat) : Int)) (WalkArith.wf_i64 (by omega)) HOB3.out hob hg); obtain ⟨ar4, ho, hzz, -, -⟩ := HF4.out.arr; have HOB4 := Lib.hid ho; have HFT4 : Hid (off + j * 11 + 11 ≤ ar4.size) := (by show _ ≤ _; rw [hzz]; exact HF4.out.fit); clear hob hg hq ho hzz))
      refine (markText_any _ (((m + 1) + Tr.cntE (strTrs v1)) + 1) _ (by omega) (by omega)).mono ?_; rintro e w5 ⟨rfl, hw⟩
      have HF5 := Lib.hid (HF4.out.ext hw)
      obtain ⟨ar5, ho, hzz, -, -⟩ := HF5.out.arr
      have HOB5 := Lib.hid ho
      have HFT5 : Hid (off + j * 11 + 11 ≤ ar5.size) := by show _ ≤ _; rw [hzz]; exact HF5.out.fit
      clear hw ho hzz
      go_wp2_with (first
        | (refine wpList_store_cell rfl 9 (.tmp 41) (.tmp 38) rfl b (off + j * 11 + 3) rfl (.string (mtext (((m + 1) + Tr.cntE (strTrs v1)) + 1))) rfl rfl E0 ar5 HOB5.out isz9 (by have := HFT5.out; omega) rfl ?_; intro w6 hob hg hq; have HF6 := Lib.hid (HF5.out.leaf (j := 3) rfl (v := .string (mtext (((m + 1) + Tr.cntE (strTrs v1)) + 1))) (by have := mtext_size (((m + 1) + Tr.cntE (strTrs v1)) + 1) (by omega); show _ ≤ maxLen; unfold maxLen; omega) HOB5.out hob hg); obtain ⟨ar6, ho, hzz, -, -⟩ := HF6.out.arr; have HOB6 := Lib.hid ho; have HFT6 : Hid (off + j * 11 + 11 ≤ ar6.size) := (by show _ ≤ _; rw [hzz]; exact HF6.out.fit); clear hob hg hq ho hzz))
      refine (markText_any _ ((((m + 1) + Tr.cntE (strTrs v1)) + 1) + 1) _ (by omega) (by omega)).mono ?_; rintro e w7 ⟨rfl, hw⟩
      have HF7 := Lib.hid (HF6.out.ext hw)
      obtain ⟨ar7, ho, hzz, -, -⟩ := HF7.out.arr
      have HOB7 := Lib.hid ho
      have HFT7 : Hid (off + j * 11 + 11 ≤ ar7.size) := by show _ ≤ _; rw [hzz]; exact HF7.out.fit
      clear hw ho hzz
      go_wp2_with (first
        | (refine wpList_store_cell rfl 9 (.tmp 50) (.tmp 47) rfl b (off + j * 11 + 4) rfl (.string (mtext ((((m + 1) + Tr.cntE (strTrs v1)) + 1) + 1))) rfl rfl E0 ar7 HOB7.out isz9 (by have := HFT7.out; omega) rfl ?_; intro w8 hob hg hq; have HF8 := Lib.hid (HF7.out.leaf (j := 4) rfl (v := .string (mtext ((((m + 1) + Tr.cntE (strTrs v1)) + 1) + 1))) (by have := mtext_size ((((m + 1) + Tr.cntE (strTrs v1)) + 1) + 1) (by omega); show _ ≤ maxLen; unfold maxLen; omega) HOB7.out hob hg); obtain ⟨ar8, ho, hzz, -, -⟩ := HF8.out.arr; have HOB8 := Lib.hid ho; have HFT8 : Hid (off + j * 11 + 11 ≤ ar8.size) := (by show _ ≤ _; rw [hzz]; exact HF8.out.fit); clear hob hg hq ho hzz)
        | (refine wpList_store_cell rfl 3 (.tmp 58) (.tmp 55) rfl b (off + j * 11 + 5) rfl (.int .i64 (((((((m + 1) + Tr.cntE (strTrs v1)) + 1) + 1) + 1) : Nat) : Int)) (by first | rfl | (simp only [Nat.cast_add, Nat.cast_one] <;> rfl)) rfl E0 ar8 HOB8.out isz3 (by have := HFT8.out; omega) rfl ?_; intro w9 hob hg hq; have HF9 := Lib.hid (HF8.out.leaf (j := 5) rfl (v := .int .i64 (((((((m + 1) + Tr.cntE (strTrs v1)) + 1) + 1) + 1) : Nat) : Int)) (WalkArith.wf_i64 (by omega)) HOB8.out hob hg); obtain ⟨ar9, ho, hzz, -, -⟩ := HF9.out.arr; have HOB9 := Lib.hid ho; have HFT9 : Hid (off + j * 11 + 11 ≤ ar9.size) := (by show _ ≤ _; rw [hzz]; exact HF9.out.fit); clear hob hg hq ho hzz)
        | (refine wpList_store_cell rfl 3 (.tmp 67) (.tmp 63) rfl b (off + j * 11 + 6) rfl (.int .i64 ((((((((m + 1) + Tr.cntE (strTrs v1)) + 1) + 1) + 1) + 1) : Nat) : Int)) (by first | rfl | (simp only [Nat.cast_add, Nat.cast_one] <;> rfl)) rfl E0 ar9 HOB9.out isz3 (by have := HFT9.out; omega) rfl ?_; intro w10 hob hg hq; have HF10 := Lib.hid (HF9.out.leaf (j := 6) rfl (v := .int .i64 ((((((((m + 1) + Tr.cntE (strTrs v1)) + 1) + 1) + 1) + 1) : Nat) : Int)) (WalkArith.wf_i64 (by omega)) HOB9.out hob hg); obtain ⟨ar10, ho, hzz, -, -⟩ := HF10.out.arr; have HOB10 := Lib.hid ho; have HFT10 : Hid (off + j * 11 + 11 ≤ ar10.size) := (by show _ ≤ _; rw [hzz]; exact HF10.out.fit); clear hob hg hq ho hzz))
      refine (markText_any _ (((((((m + 1) + Tr.cntE (strTrs v1)) + 1) + 1) + 1) + 1) + 1) _ (by omega) (by omega)).mono ?_; rintro e w11 ⟨rfl, hw⟩
      have HF11 := Lib.hid (HF10.out.ext hw)
      obtain ⟨ar11, ho, hzz, -, -⟩ := HF11.out.arr
      have HOB11 := Lib.hid ho
      have HFT11 : Hid (off + j * 11 + 11 ≤ ar11.size) := by show _ ≤ _; rw [hzz]; exact HF11.out.fit
      clear hw ho hzz
      go_wp2_with (first
        | (refine wpList_store_cell rfl 9 (.tmp 77) (.tmp 73) rfl b (off + j * 11 + 7) rfl (.string (mtext (((((((m + 1) + Tr.cntE (strTrs v1)) + 1) + 1) + 1) + 1) + 1))) rfl rfl E0 ar11 HOB11.out isz9 (by have := HFT11.out; omega) rfl ?_; intro w12 hob hg hq; have HF12 := Lib.hid (HF11.out.leaf (j := 7) rfl (v := .string (mtext (((((((m + 1) + Tr.cntE (strTrs v1)) + 1) + 1) + 1) + 1) + 1))) (by have := mtext_size (((((((m + 1) + Tr.cntE (strTrs v1)) + 1) + 1) + 1) + 1) + 1) (by omega); show _ ≤ maxLen; unfold maxLen; omega) HOB11.out hob hg); obtain ⟨ar12, ho, hzz, -, -⟩ := HF12.out.arr; have HOB12 := Lib.hid ho; have HFT12 : Hid (off + j * 11 + 11 ≤ ar12.size) := (by show _ ≤ _; rw [hzz]; exact HF12.out.fit); clear hob hg hq ho hzz; have hcell8 := HF12.out.cell (j := 8) rfl))
      obtain ⟨U8, hu1, hu2, hu3⟩ := HF12.out.row (j := 8) rfl rfl
      refine ((markTypeS_all v2_4_2) _ _ ((((((((m + 1) + Tr.cntE (strTrs v1)) + 1) + 1) + 1) + 1) + 1) + 1) U8 _ (by omega) hu1 hu2 (by omega)).mono ?_; rintro e w13 ⟨rfl, how, hch⟩
      have HF13 := Lib.hid (hu3 w13 _ how hch)
      clear how hch hu1 hu2 hu3 hcell8
      obtain ⟨ar13, ho, hzz, -, -⟩ := HF13.out.arr
      have HOB13 := Lib.hid ho
      have HFT13 : Hid (off + j * 11 + 11 ≤ ar13.size) := by show _ ≤ _; rw [hzz]; exact HF13.out.fit
      clear ho hzz
      have hcell9 := HF13.out.cell (j := 9) rfl
      go_wp2_with fail
      obtain ⟨U9, hu1, hu2, hu3⟩ := HF13.out.row (j := 9) rfl rfl
      refine ((markExprS_all v2_5) _ _ (((((((((m + 1) + Tr.cntE (strTrs v1)) + 1) + 1) + 1) + 1) + 1) + 1) + Tr.cntE (GType.trs v2_4_2)) U9 _ (by omega) hu1 hu2 (by omega)).mono ?_; rintro e w14 ⟨rfl, how, hch⟩
      have HF14 := Lib.hid (hu3 w14 _ how hch)
      clear how hch hu1 hu2 hu3 hcell9
      obtain ⟨ar14, ho, hzz, -, -⟩ := HF14.out.arr
      have HOB14 := Lib.hid ho
      have HFT14 : Hid (off + j * 11 + 11 ≤ ar14.size) := by show _ ≤ _; rw [hzz]; exact HF14.out.fit
      clear ho hzz
      have hcell10 := HF14.out.cell (j := 10) rfl
      go_wp2_with fail
      obtain ⟨U10, hu1, hu2, hu3⟩ := HF14.out.row (j := 10) rfl rfl
      refine ((markArmS_all v2_6) _ _ ((((((((((m + 1) + Tr.cntE (strTrs v1)) + 1) + 1) + 1) + 1) + 1) + 1) + Tr.cntE (GType.trs v2_4_2)) + Tr.cntE (GExpr.trs v2_5)) U10 _ (by omega) hu1 hu2 (by omega)).mono ?_; rintro e w15 ⟨rfl, how, hch⟩
      have HF15 := Lib.hid (hu3 w15 _ how hch)
      clear how hch hu1 hu2 hu3 hcell10
      go_wp2_with fail
      go_roundw
      case rel =>
        obtain ⟨hown2, hchg2⟩ := HBK.out _ _ _ rfl HF15.out
        refine ⟨j + 1, (((((((((((m + 1) + Tr.cntE (strTrs v1)) + 1) + 1) + 1) + 1) + 1) + 1) + Tr.cntE (GType.trs v2_4_2)) + Tr.cntE (GExpr.trs v2_5)) + Tr.cntE (GArm.trs v2_6)), by omega, by go_num, by first | rfl | go_num, by have h1 := HTK.out; have h2 := HM1.out; show _ = _; omega, ?_, HC1.out.trans hchg2⟩
        show Own _ _ _ _
        rw [← HMS.out]
        exact hown2
      case measure => simp [intOf]; omega
    · have hkl : j = (GMethod.trs l).length := by rw [GMethod.trs_len]; omega
      go_wp2_with fail
      go_ret
      have ho := HO1.out
      rw [hkl, Tr.mid_end] at ho
      have hm1 := HM1.out
      rw [hkl, List.take_length] at hm1
      subst hm1
      exact ⟨rfl, ho, HC1.out⟩
theorem markMethodS_all (l : List GMethod) : MarkSC 198 11 (GMethod.trs l) := markMethodS_of l

set_option maxRecDepth 100000 in
set_option maxHeartbeats 2000000 in
theorem markConstructorS_of (l : List GConstructor)  : MarkSC 197 2 (GConstructor.trs l) := by
  intro s kz k S w hz hown hS hbd
  subst hz
  obtain ⟨a, cap, rfl, hl, hm⟩ := hown.rep.shape
  rw [GConstructor.trs_len] at *
  unfold maxLen at hm
  have HO := Lib.hid hown
  have HSS := Lib.hid hS
  clear hown hS
  go_enter Tryz.func197, Tryz.ntmps197
  go_wp2_with fail
  go_loopw [1, 5] (fun kv i wr => ∃ j m : Nat, j ≤ l.length ∧ i = .int .i64 j ∧ kv = .int .i64 (m : Int) ∧ Hid (m = k + Tr.cntE ((GConstructor.trs l).take j)) ∧ Hid (Own wr (.row 2 (Tr.mid (GConstructor.trs l) k j)) (.slice a l.length cap) S) ∧ Hid (Chg S w wr)) (fun _ i _ => l.length - (intOf i).toNat)
  case atStart => exact ⟨0, k, Nat.zero_le _, rfl, rfl, by show _ = _; simp [Tr.cntE], by show Own _ _ _ _; rw [Tr.mid_zero]; exact HO.out, Chg.refl _ _⟩
  case round =>
    obtain ⟨j, m, hj, rfl, rfl, HM1, HO1, HC1⟩ := hrel
    by_cases hlt : j < l.length
    · have hlt2 : j < (GConstructor.trs l).length := by rw [GConstructor.trs_len]; exact hlt
      have hge : (GConstructor.trs l)[j] = (l[j]).tr := by have h1 := GConstructor.trs_get hlt; rw [List.getElem?_eq_getElem hlt2] at h1; exact Option.some.inj h1
      have hcl := Tr.cntE_le hlt2
      have hms := Tr.mid_set (k := k) hlt2
      have hmg := Tr.mid_get (k := k) hlt2
      have htk : Tr.cntE ((GConstructor.trs l).take (j + 1)) = Tr.cntE ((GConstructor.trs l).take j) + Tr.cntL (GConstructor.trs l)[j] := Tr.cntE_take _ j hlt2
      rw [hge] at hcl hms hmg htk
      have hm1 := HM1.out
      rw [← hm1] at hms
      generalize l[j] = x at *
      obtain ⟨v0, v1⟩ := x
      have htr : GConstructor.tr (.mk v0 v1) = [.leaf (.string v0), .row 3 (GType.trs v1)] := by simp [GConstructor.tr]
      rw [htr] at hcl hms hmg htk
      have hcw : Tr.cntL [.leaf (.string v0), .row 3 (GType.trs v1)] = 1 + Tr.cntE (GType.trs v1) := by simp only [Tr.cntL, Tr.cnt] <;> omega
      obtain ⟨b, off, E0, arr0, cs0, T, rfl, hfoc, hrep, hback⟩ := HO1.out.take hmg (Tr.mid_sz (GConstructor.sz l)) (by omega) (fun x hx => Nat.lt_of_lt_of_le (HSS.out x hx) HC1.out.size)
      obtain ⟨d0, d1, rfl⟩ := list2 hfoc.len
      obtain ⟨rfl, -⟩ := (hrep.1).leaf_eq
      obtain ⟨sa1, sc1, rfl, -, -⟩ := (hrep.2.1).shape
      have HF0 := Lib.hid hfoc
      have HBK := Lib.hid hback
      obtain ⟨arr1, hob1, hsz1, -, -⟩ := hfoc.arr
      have HOB0 := Lib.hid hob1
      have HFIT : Hid (off + j * 2 + 2 ≤ arr1.size) := by show _ ≤ _; rw [hsz1]; exact hfoc.fit
      have hmb : m + (1 + Tr.cntE (GType.trs v1)) ≤ 1152921504606846976 := by rw [← hcw]; omega
      rw [hcw] at htk
      have HMS := Lib.hid hms
      have HTK := Lib.hid htk
      have hlo : (0 : Int) ≤ (j : Int) := by omega
      clear hfoc hrep hback hob1 hsz1 hms hmg htk hge hcl hcw hm1 htr
      go_wp2_with fail
      refine (markText_any _ m _ (by omega) (by omega)).mono ?_; rintro e w1 ⟨rfl, hw⟩
      have HF1 := Lib.hid (HF0.out.ext hw)
      obtain ⟨ar1, ho, hzz, -, -⟩ := HF1.out.arr
      have HOB1 := Lib.hid ho
      have HFT1 : Hid (off + j * 2 + 2 ≤ ar1.size) := by show _ ≤ _; rw [hzz]; exact HF1.out.fit
      clear hw ho hzz
      go_wp2_with (first
        | (refine wpList_store_cell rfl 9 (.tmp 17) (.tmp 15) rfl b (off + j * 2 + 0) rfl (.string (mtext m)) rfl rfl E0 ar1 HOB1.out isz9 (by have := HFT1.out; omega) rfl ?_; intro w2 hob hg hq; have HF2 := Lib.hid (HF1.out.leaf (j := 0) rfl (v := .string (mtext m)) (by have := mtext_size m (by omega); show _ ≤ maxLen; unfold maxLen; omega) HOB1.out hob hg); obtain ⟨ar2, ho, hzz, -, -⟩ := HF2.out.arr; have HOB2 := Lib.hid ho; have HFT2 : Hid (off + j * 2 + 2 ≤ ar2.size) := (by show _ ≤ _; rw [hzz]; exact HF2.out.fit); clear hob hg hq ho hzz; have hcell1 := HF2.out.cell (j := 1) rfl))
      obtain ⟨U1, hu1, hu2, hu3⟩ := HF2.out.row (j := 1) rfl rfl
      refine ((markTypeS_all v1) _ _ (m + 1) U1 _ (by omega) hu1 hu2 (by omega)).mono ?_; rintro e w3 ⟨rfl, how, hch⟩
      have HF3 := Lib.hid (hu3 w3 _ how hch)
      clear how hch hu1 hu2 hu3 hcell1
      go_wp2_with fail
      go_roundw
      case rel =>
        obtain ⟨hown2, hchg2⟩ := HBK.out _ _ _ rfl HF3.out
        refine ⟨j + 1, ((m + 1) + Tr.cntE (GType.trs v1)), by omega, by go_num, by first | rfl | go_num, by have h1 := HTK.out; have h2 := HM1.out; show _ = _; omega, ?_, HC1.out.trans hchg2⟩
        show Own _ _ _ _
        rw [← HMS.out]
        exact hown2
      case measure => simp [intOf]; omega
    · have hkl : j = (GConstructor.trs l).length := by rw [GConstructor.trs_len]; omega
      go_wp2_with fail
      go_ret
      have ho := HO1.out
      rw [hkl, Tr.mid_end] at ho
      have hm1 := HM1.out
      rw [hkl, List.take_length] at hm1
      subst hm1
      exact ⟨rfl, ho, HC1.out⟩
theorem markConstructorS_all (l : List GConstructor) : MarkSC 197 2 (GConstructor.trs l) := markConstructorS_of l

set_option maxRecDepth 100000 in
set_option maxHeartbeats 2000000 in
theorem markSignatureS_of (l : List GSignature)  : MarkSC 123 16 (GSignature.trs l) := by
  intro s kz k S w hz hown hS hbd
  subst hz
  obtain ⟨a, cap, rfl, hl, hm⟩ := hown.rep.shape
  rw [GSignature.trs_len] at *
  unfold maxLen at hm
  have HO := Lib.hid hown
  have HSS := Lib.hid hS
  clear hown hS
  go_enter Tryz.func123, Tryz.ntmps123
  go_wp2_with fail
  go_loopw [1, 5] (fun kv i wr => ∃ j m : Nat, j ≤ l.length ∧ i = .int .i64 j ∧ kv = .int .i64 (m : Int) ∧ Hid (m = k + Tr.cntE ((GSignature.trs l).take j)) ∧ Hid (Own wr (.row 16 (Tr.mid (GSignature.trs l) k j)) (.slice a l.length cap) S) ∧ Hid (Chg S w wr)) (fun _ i _ => l.length - (intOf i).toNat)
  case atStart => exact ⟨0, k, Nat.zero_le _, rfl, rfl, by show _ = _; simp [Tr.cntE], by show Own _ _ _ _; rw [Tr.mid_zero]; exact HO.out, Chg.refl _ _⟩
  case round =>
    obtain ⟨j, m, hj, rfl, rfl, HM1, HO1, HC1⟩ := hrel
    by_cases hlt : j < l.length
    · have hlt2 : j < (GSignature.trs l).length := by rw [GSignature.trs_len]; exact hlt
      have hge : (GSignature.trs l)[j] = (l[j]).tr := by have h1 := GSignature.trs_get hlt; rw [List.getElem?_eq_getElem hlt2] at h1; exact Option.some.inj h1
      have hcl := Tr.cntE_le hlt2
      have hms := Tr.mid_set (k := k) hlt2
      have hmg := Tr.mid_get (k := k) hlt2
      have htk : Tr.cntE ((GSignature.trs l).take (j + 1)) = Tr.cntE ((GSignature.trs l).take j) + Tr.cntL (GSignature.trs l)[j] := Tr.cntE_take _ j hlt2
      rw [hge] at hcl hms hmg htk
      have hm1 := HM1.out
      rw [← hm1] at hms
      generalize l[j] = x at *
      obtain ⟨v0, v1, ⟨v2_0, v2_1, v2_2⟩, v3, v4, ⟨v5_0, v5_1, v5_2, v5_3, ⟨v5_4_0, v5_4_1, v5_4_2⟩, v5_5, v5_6⟩⟩ := x
      have htr : GSignature.tr (.mk v0 v1 (.mk v2_0 v2_1 v2_2) v3 v4 (.mk v5_0 v5_1 v5_2 v5_3 (.mk v5_4_0 v5_4_1 v5_4_2) v5_5 v5_6)) = [.leaf (.string v0), .row 3 (GType.trs v1), .leaf (.int .i64 v2_0), .leaf (.string v2_1), .row 3 (GType.trs v2_2), .leaf (.bool v3), .row 1 (strTrs v4), .leaf (.int .i64 v5_0), .leaf (.string v5_1), .leaf (.string v5_2), .leaf (.int .i64 v5_3), .leaf (.int .i64 v5_4_0), .leaf (.string v5_4_1), .row 3 (GType.trs v5_4_2), .row 9 (GExpr.trs v5_5), .row 11 (GArm.trs v5_6)] := by simp [GSignature.tr, GType.tr, GExpr.tr, GType.tr]
      rw [htr] at hcl hms hmg htk
      have hcw : Tr.cntL [.leaf (.string v0), .row 3 (GType.trs v1), .leaf (.int .i64 v2_0), .leaf (.string v2_1), .row 3 (GType.trs v2_2), .leaf (.bool v3), .row 1 (strTrs v4), .leaf (.int .i64 v5_0), .leaf (.string v5_1), .leaf (.string v5_2), .leaf (.int .i64 v5_3), .leaf (.int .i64 v5_4_0), .leaf (.string v5_4_1), .row 3 (GType.trs v5_4_2), .row 9 (GExpr.trs v5_5), .row 11 (GArm.trs v5_6)] = 1 + Tr.cntE (GType.trs v1) + 1 + 1 + Tr.cntE (GType.trs v2_2) + 1 + Tr.cntE (strTrs v4) + 1 + 1 + 1 + 1 + 1 + 1 + Tr.cntE (GType.trs v5_4_2) + Tr.cntE (GExpr.trs v5_5) + Tr.cntE (GArm.trs v5_6) := by simp only [Tr.cntL, Tr.cnt] <;> omega
      obtain ⟨b, off, E0, arr0, cs0, T, rfl, hfoc, hrep, hback⟩ := HO1.out.take hmg (Tr.mid_sz (GSignature.sz l)) (by omega) (fun x hx => Nat.lt_of_lt_of_le (HSS.out x hx) HC1.out.size)
      obtain ⟨d0, d1, d2, d3, d4, d5, d6, d7, d8, d9, d10, d11, d12, d13, d14, d15, rfl⟩ := list16 hfoc.len
      obtain ⟨rfl, -⟩ := (hrep.1).leaf_eq
      obtain ⟨sa1, sc1, rfl, -, -⟩ := (hrep.2.1).shape
      obtain ⟨rfl, -⟩ := (hrep.2.2.1).leaf_eq
      obtain ⟨rfl, -⟩ := (hrep.2.2.2.1).leaf_eq
      obtain ⟨sa4, sc4, rfl, -, -⟩ := (hrep.2.2.2.2.1).shape
      obtain ⟨rfl, -⟩ := (hrep.2.2.2.2.2.1).leaf_eq
      obtain ⟨sa6, sc6, rfl, -, -⟩ := (hrep.2.2.2.2.2.2.1).shape
      obtain ⟨rfl, -⟩ := (hrep.2.2.2.2.2.2.2.1).leaf_eq
      obtain ⟨rfl, -⟩ := (hrep.2.2.2.2.2.2.2.2.1).leaf_eq
      obtain ⟨rfl, -⟩ := (hrep.2.2.2.2.2.2.2.2.2.1).leaf_eq
      obtain ⟨rfl, -⟩ := (hrep.2.2.2.2.2.2.2.2.2.2.1).leaf_eq
      obtain ⟨rfl, -⟩ := (hrep.2.2.2.2.2.2.2.2.2.2.2.1).leaf_eq
      obtain ⟨rfl, -⟩ := (hrep.2.2.2.2.2.2.2.2.2.2.2.2.1).leaf_eq
      obtain ⟨sa13, sc13, rfl, -, -⟩ := (hrep.2.2.2.2.2.2.2.2.2.2.2.2.2.1).shape
      obtain ⟨sa14, sc14, rfl, -, -⟩ := (hrep.2.2.2.2.2.2.2.2.2.2.2.2.2.2.1).shape
      obtain ⟨sa15, sc15, rfl, -, -⟩ := (hrep.2.2.2.2.2.2.2.2.2.2.2.2.2.2.2.1).shape
      have HF0 := Lib.hid hfoc
      have HBK := Lib.hid hback
      obtain ⟨arr1, hob1, hsz1, -, -⟩ := hfoc.arr
      have HOB0 := Lib.hid hob1
      have HFIT : Hid (off + j * 16 + 16 ≤ arr1.size) := by show _ ≤ _; rw [hsz1]; exact hfoc.fit
      have hmb : m + (1 + Tr.cntE (GType.trs v1) + 1 + 1 + Tr.cntE (GType.trs v2_2) + 1 + Tr.cntE (strTrs v4) + 1 + 1 + 1 + 1 + 1 + 1 + Tr.cntE (GType.trs v5_4_2) + Tr.cntE (GExpr.trs v5_5) + Tr.cntE (GArm.trs v5_6)) ≤ 1152921504606846976 := by rw [← hcw]; omega
      rw [hcw] at htk
      have HMS := Lib.hid hms
      have HTK := Lib.hid htk
      have hlo : (0 : Int) ≤ (j : Int) := by omega
      clear hfoc hrep hback hob1 hsz1 hms hmg htk hge hcl hcw hm1 htr
      go_wp2_with fail
      refine (markText_any _ m _ (by omega) (by omega)).mono ?_; rintro e w1 ⟨rfl, hw⟩
      have HF1 := Lib.hid (HF0.out.ext hw)
      obtain ⟨ar1, ho, hzz, -, -⟩ := HF1.out.arr
      have HOB1 := Lib.hid ho
      have HFT1 : Hid (off + j * 16 + 16 ≤ ar1.size) := by show _ ≤ _; rw [hzz]; exact HF1.out.fit
      clear hw ho hzz
      go_wp2_with (first
        | (refine wpList_store_cell rfl 9 (.tmp 17) (.tmp 15) rfl b (off + j * 16 + 0) rfl (.string (mtext m)) rfl rfl E0 ar1 HOB1.out isz9 (by have := HFT1.out; omega) rfl ?_; intro w2 hob hg hq; have HF2 := Lib.hid (HF1.out.leaf (j := 0) rfl (v := .string (mtext m)) (by have := mtext_size m (by omega); show _ ≤ maxLen; unfold maxLen; omega) HOB1.out hob hg); obtain ⟨ar2, ho, hzz, -, -⟩ := HF2.out.arr; have HOB2 := Lib.hid ho; have HFT2 : Hid (off + j * 16 + 16 ≤ ar2.size) := (by show _ ≤ _; rw [hzz]; exact HF2.out.fit); clear hob hg hq ho hzz; have hcell1 := HF2.out.cell (j := 1) rfl))
      obtain ⟨U1, hu1, hu2, hu3⟩ := HF2.out.row (j := 1) rfl rfl
      refine ((markTypeS_all v1) _ _ (m + 1) U1 _ (by omega) hu1 hu2 (by omega)).mono ?_; rintro e w3 ⟨rfl, how, hch⟩
      have HF3 := Lib.hid (hu3 w3 _ how hch)
      clear how hch hu1 hu2 hu3 hcell1
      obtain ⟨ar3, ho, hzz, -, -⟩ := HF3.out.arr
      have HOB3 := Lib.hid ho
      have HFT3 : Hid (off + j * 16 + 16 ≤ ar3.size) := by show _ ≤ _; rw [hzz]; exact HF3.out.fit
      clear ho hzz
      go_wp2_with (first
        | (refine wpList_store_cell rfl 3 (.tmp 32) (.tmp 29) rfl b (off + j * 16 + 2) rfl (.int .i64 ((((m + 1) + Tr.cntE (GType.trs v1)) : Nat) : Int)) (by first | rfl | (simp only [Nat.cast_add, Nat.cast_one] <;> rfl)) rfl E0 ar3 HOB3.out isz3 (by have := HFT3.out; omega) rfl ?_; intro w4 hob hg hq; have HF4 := Lib.hid (HF3.out.leaf (j := 2) rfl (v := .int .i64 ((((m + 1) + Tr.cntE (GType.trs v1)) : Nat) : Int)) (WalkArith.wf_i64 (by omega)) HOB3.out hob hg); obtain ⟨ar4, ho, hzz, -, -⟩ := HF4.out.arr; have HOB4 := Lib.hid ho; have HFT4 : Hid (off + j * 16 + 16 ≤ ar4.size) := (by show _ ≤ _; rw [hzz]; exact HF4.out.fit); clear hob hg hq ho hzz))
      refine (markText_any _ (((m + 1) + Tr.cntE (GType.trs v1)) + 1) _ (by omega) (by omega)).mono ?_; rintro e w5 ⟨rfl, hw⟩
      have HF5 := Lib.hid (HF4.out.ext hw)
      obtain ⟨ar5, ho, hzz, -, -⟩ := HF5.out.arr
      have HOB5 := Lib.hid ho
      have HFT5 : Hid (off + j * 16 + 16 ≤ ar5.size) := by show _ ≤ _; rw [hzz]; exact HF5.out.fit
      clear hw ho hzz
      go_wp2_with (first
        | (refine wpList_store_cell rfl 9 (.tmp 41) (.tmp 38) rfl b (off + j * 16 + 3) rfl (.string (mtext (((m + 1) + Tr.cntE (GType.trs v1)) + 1))) rfl rfl E0 ar5 HOB5.out isz9 (by have := HFT5.out; omega) rfl ?_; intro w6 hob hg hq; have HF6 := Lib.hid (HF5.out.leaf (j := 3) rfl (v := .string (mtext (((m + 1) + Tr.cntE (GType.trs v1)) + 1))) (by have := mtext_size (((m + 1) + Tr.cntE (GType.trs v1)) + 1) (by omega); show _ ≤ maxLen; unfold maxLen; omega) HOB5.out hob hg); obtain ⟨ar6, ho, hzz, -, -⟩ := HF6.out.arr; have HOB6 := Lib.hid ho; have HFT6 : Hid (off + j * 16 + 16 ≤ ar6.size) := (by show _ ≤ _; rw [hzz]; exact HF6.out.fit); clear hob hg hq ho hzz; have hcell4 := HF6.out.cell (j := 4) rfl))
      obtain ⟨U4, hu1, hu2, hu3⟩ := HF6.out.row (j := 4) rfl rfl
      refine ((markTypeS_all v2_2) _ _ ((((m + 1) + Tr.cntE (GType.trs v1)) + 1) + 1) U4 _ (by omega) hu1 hu2 (by omega)).mono ?_; rintro e w7 ⟨rfl, how, hch⟩
      have HF7 := Lib.hid (hu3 w7 _ how hch)
      clear how hch hu1 hu2 hu3 hcell4
      obtain ⟨ar7, ho, hzz, -, -⟩ := HF7.out.arr
      have HOB7 := Lib.hid ho
      have HFT7 : Hid (off + j * 16 + 16 ≤ ar7.size) := by show _ ≤ _; rw [hzz]; exact HF7.out.fit
      clear ho hzz
      go_wp2_with (first
        | (refine wpList_store_cell rfl 4 (.tmp 58) (.tmp 56) rfl b (off + j * 16 + 5) rfl (.bool ((((((m + 1) + Tr.cntE (GType.trs v1)) + 1) + 1) + Tr.cntE (GType.trs v2_2)) % 3 == 0)) (by first | rfl | exact boolMark _ _ (by first | rfl | (simp only [Nat.cast_add, Nat.cast_one] <;> rfl))) rfl E0 ar7 HOB7.out isz4 (by have := HFT7.out; omega) rfl ?_; intro w8 hob hg hq; have HF8 := Lib.hid (HF7.out.leaf (j := 5) rfl (v := .bool ((((((m + 1) + Tr.cntE (GType.trs v1)) + 1) + 1) + Tr.cntE (GType.trs v2_2)) % 3 == 0)) trivial HOB7.out hob hg); obtain ⟨ar8, ho, hzz, -, -⟩ := HF8.out.arr; have HOB8 := Lib.hid ho; have HFT8 : Hid (off + j * 16 + 16 ≤ ar8.size) := (by show _ ≤ _; rw [hzz]; exact HF8.out.fit); clear hob hg hq ho hzz; have hcell6 := HF8.out.cell (j := 6) rfl))
      obtain ⟨U6, hu1, hu2, hu3⟩ := HF8.out.row (j := 6) rfl rfl
      refine ((markStringS_all v4) _ _ ((((((m + 1) + Tr.cntE (GType.trs v1)) + 1) + 1) + Tr.cntE (GType.trs v2_2)) + 1) U6 _ (by omega) hu1 hu2 (by omega)).mono ?_; rintro e w9 ⟨rfl, how, hch⟩
      have HF9 := Lib.hid (hu3 w9 _ how hch)
      clear how hch hu1 hu2 hu3 hcell6
      obtain ⟨ar9, ho, hzz, -, -⟩ := HF9.out.arr
      have HOB9 := Lib.hid ho
      have HFT9 : Hid (off + j * 16 + 16 ≤ ar9.size) := by show _ ≤ _; rw [hzz]; exact HF9.out.fit
      clear ho hzz
      go_wp2_with (first
        | (refine wpList_store_cell rfl 3 (.tmp 73) (.tmp 70) rfl b (off + j * 16 + 7) rfl (.int .i64 (((((((((m + 1) + Tr.cntE (GType.trs v1)) + 1) + 1) + Tr.cntE (GType.trs v2_2)) + 1) + Tr.cntE (strTrs v4)) : Nat) : Int)) (by first | rfl | (simp only [Nat.cast_add, Nat.cast_one] <;> rfl)) rfl E0 ar9 HOB9.out isz3 (by have := HFT9.out; omega) rfl ?_; intro w10 hob hg hq; have HF10 := Lib.hid (HF9.out.leaf (j := 7) rfl (v := .int .i64 (((((((((m + 1) + Tr.cntE (GType.trs v1)) + 1) + 1) + Tr.cntE (GType.trs v2_2)) + 1) + Tr.cntE (strTrs v4)) : Nat) : Int)) (WalkArith.wf_i64 (by omega)) HOB9.out hob hg); obtain ⟨ar10, ho, hzz, -, -⟩ := HF10.out.arr; have HOB10 := Lib.hid ho; have HFT10 : Hid (off + j * 16 + 16 ≤ ar10.size) := (by show _ ≤ _; rw [hzz]; exact HF10.out.fit); clear hob hg hq ho hzz))
      refine (markText_any _ ((((((((m + 1) + Tr.cntE (GType.trs v1)) + 1) + 1) + Tr.cntE (GType.trs v2_2)) + 1) + Tr.cntE (strTrs v4)) + 1) _ (by omega) (by omega)).mono ?_; rintro e w11 ⟨rfl, hw⟩
      have HF11 := Lib.hid (HF10.out.ext hw)
      obtain ⟨ar11, ho, hzz, -, -⟩ := HF11.out.arr
      have HOB11 := Lib.hid ho
      have HFT11 : Hid (off + j * 16 + 16 ≤ ar11.size) := by show _ ≤ _; rw [hzz]; exact HF11.out.fit
      clear hw ho hzz
      go_wp2_with (first
        | (refine wpList_store_cell rfl 9 (.tmp 82) (.tmp 79) rfl b (off + j * 16 + 8) rfl (.string (mtext ((((((((m + 1) + Tr.cntE (GType.trs v1)) + 1) + 1) + Tr.cntE (GType.trs v2_2)) + 1) + Tr.cntE (strTrs v4)) + 1))) rfl rfl E0 ar11 HOB11.out isz9 (by have := HFT11.out; omega) rfl ?_; intro w12 hob hg hq; have HF12 := Lib.hid (HF11.out.leaf (j := 8) rfl (v := .string (mtext ((((((((m + 1) + Tr.cntE (GType.trs v1)) + 1) + 1) + Tr.cntE (GType.trs v2_2)) + 1) + Tr.cntE (strTrs v4)) + 1))) (by have := mtext_size ((((((((m + 1) + Tr.cntE (GType.trs v1)) + 1) + 1) + Tr.cntE (GType.trs v2_2)) + 1) + Tr.cntE (strTrs v4)) + 1) (by omega); show _ ≤ maxLen; unfold maxLen; omega) HOB11.out hob hg); obtain ⟨ar12, ho, hzz, -, -⟩ := HF12.out.arr; have HOB12 := Lib.hid ho; have HFT12 : Hid (off + j * 16 + 16 ≤ ar12.size) := (by show _ ≤ _; rw [hzz]; exact HF12.out.fit); clear hob hg hq ho hzz))
      refine (markText_any _ (((((((((m + 1) + Tr.cntE (GType.trs v1)) + 1) + 1) + Tr.cntE (GType.trs v2_2)) + 1) + Tr.cntE (strTrs v4)) + 1) + 1) _ (by omega) (by omega)).mono ?_; rintro e w13 ⟨rfl, hw⟩
      have HF13 := Lib.hid (HF12.out.ext hw)
      obtain ⟨ar13, ho, hzz, -, -⟩ := HF13.out.arr
      have HOB13 := Lib.hid ho
      have HFT13 : Hid (off + j * 16 + 16 ≤ ar13.size) := by show _ ≤ _; rw [hzz]; exact HF13.out.fit
      clear hw ho hzz
      go_wp2_with (first
        | (refine wpList_store_cell rfl 9 (.tmp 91) (.tmp 88) rfl b (off + j * 16 + 9) rfl (.string (mtext (((((((((m + 1) + Tr.cntE (GType.trs v1)) + 1) + 1) + Tr.cntE (GType.trs v2_2)) + 1) + Tr.cntE (strTrs v4)) + 1) + 1))) rfl rfl E0 ar13 HOB13.out isz9 (by have := HFT13.out; omega) rfl ?_; intro w14 hob hg hq; have HF14 := Lib.hid (HF13.out.leaf (j := 9) rfl (v := .string (mtext (((((((((m + 1) + Tr.cntE (GType.trs v1)) + 1) + 1) + Tr.cntE (GType.trs v2_2)) + 1) + Tr.cntE (strTrs v4)) + 1) + 1))) (by have := mtext_size (((((((((m + 1) + Tr.cntE (GType.trs v1)) + 1) + 1) + Tr.cntE (GType.trs v2_2)) + 1) + Tr.cntE (strTrs v4)) + 1) + 1) (by omega); show _ ≤ maxLen; unfold maxLen; omega) HOB13.out hob hg); obtain ⟨ar14, ho, hzz, -, -⟩ := HF14.out.arr; have HOB14 := Lib.hid ho; have HFT14 : Hid (off + j * 16 + 16 ≤ ar14.size) := (by show _ ≤ _; rw [hzz]; exact HF14.out.fit); clear hob hg hq ho hzz)
        | (refine wpList_store_cell rfl 3 (.tmp 99) (.tmp 96) rfl b (off + j * 16 + 10) rfl (.int .i64 ((((((((((((m + 1) + Tr.cntE (GType.trs v1)) + 1) + 1) + Tr.cntE (GType.trs v2_2)) + 1) + Tr.cntE (strTrs v4)) + 1) + 1) + 1) : Nat) : Int)) (by first | rfl | (simp only [Nat.cast_add, Nat.cast_one] <;> rfl)) rfl E0 ar14 HOB14.out isz3 (by have := HFT14.out; omega) rfl ?_; intro w15 hob hg hq; have HF15 := Lib.hid (HF14.out.leaf (j := 10) rfl (v := .int .i64 ((((((((((((m + 1) + Tr.cntE (GType.trs v1)) + 1) + 1) + Tr.cntE (GType.trs v2_2)) + 1) + Tr.cntE (strTrs v4)) + 1) + 1) + 1) : Nat) : Int)) (WalkArith.wf_i64 (by omega)) HOB14.out hob hg); obtain ⟨ar15, ho, hzz, -, -⟩ := HF15.out.arr; have HOB15 := Lib.hid ho; have HFT15 : Hid (off + j * 16 + 16 ≤ ar15.size) := (by show _ ≤ _; rw [hzz]; exact HF15.out.fit); clear hob hg hq ho hzz)
        | (refine wpList_store_cell rfl 3 (.tmp 108) (.tmp 104) rfl b (off + j * 16 + 11) rfl (.int .i64 (((((((((((((m + 1) + Tr.cntE (GType.trs v1)) + 1) + 1) + Tr.cntE (GType.trs v2_2)) + 1) + Tr.cntE (strTrs v4)) + 1) + 1) + 1) + 1) : Nat) : Int)) (by first | rfl | (simp only [Nat.cast_add, Nat.cast_one] <;> rfl)) rfl E0 ar15 HOB15.out isz3 (by have := HFT15.out; omega) rfl ?_; intro w16 hob hg hq; have HF16 := Lib.hid (HF15.out.leaf (j := 11) rfl (v := .int .i64 (((((((((((((m + 1) + Tr.cntE (GType.trs v1)) + 1) + 1) + Tr.cntE (GType.trs v2_2)) + 1) + Tr.cntE (strTrs v4)) + 1) + 1) + 1) + 1) : Nat) : Int)) (WalkArith.wf_i64 (by omega)) HOB15.out hob hg); obtain ⟨ar16, ho, hzz, -, -⟩ := HF16.out.arr; have HOB16 := Lib.hid ho; have HFT16 : Hid (off + j * 16 + 16 ≤ ar16.size) := (by show _ ≤ _; rw [hzz]; exact HF16.out.fit); clear hob hg hq ho hzz))
      refine (markText_any _ ((((((((((((m + 1) + Tr.cntE (GType.trs v1)) + 1) + 1) + Tr.cntE (GType.trs v2_2)) + 1) + Tr.cntE (strTrs v4)) + 1) + 1) + 1) + 1) + 1) _ (by omega) (by omega)).mono ?_; rintro e w17 ⟨rfl, hw⟩
      have HF17 := Lib.hid (HF16.out.ext hw)
      obtain ⟨ar17, ho, hzz, -, -⟩ := HF17.out.arr
      have HOB17 := Lib.hid ho
      have HFT17 : Hid (off + j * 16 + 16 ≤ ar17.size) := by show _ ≤ _; rw [hzz]; exact HF17.out.fit
      clear hw ho hzz
      go_wp2_with (first
        | (refine wpList_store_cell rfl 9 (.tmp 118) (.tmp 114) rfl b (off + j * 16 + 12) rfl (.string (mtext ((((((((((((m + 1) + Tr.cntE (GType.trs v1)) + 1) + 1) + Tr.cntE (GType.trs v2_2)) + 1) + Tr.cntE (strTrs v4)) + 1) + 1) + 1) + 1) + 1))) rfl rfl E0 ar17 HOB17.out isz9 (by have := HFT17.out; omega) rfl ?_; intro w18 hob hg hq; have HF18 := Lib.hid (HF17.out.leaf (j := 12) rfl (v := .string (mtext ((((((((((((m + 1) + Tr.cntE (GType.trs v1)) + 1) + 1) + Tr.cntE (GType.trs v2_2)) + 1) + Tr.cntE (strTrs v4)) + 1) + 1) + 1) + 1) + 1))) (by have := mtext_size ((((((((((((m + 1) + Tr.cntE (GType.trs v1)) + 1) + 1) + Tr.cntE (GType.trs v2_2)) + 1) + Tr.cntE (strTrs v4)) + 1) + 1) + 1) + 1) + 1) (by omega); show _ ≤ maxLen; unfold maxLen; omega) HOB17.out hob hg); obtain ⟨ar18, ho, hzz, -, -⟩ := HF18.out.arr; have HOB18 := Lib.hid ho; have HFT18 : Hid (off + j * 16 + 16 ≤ ar18.size) := (by show _ ≤ _; rw [hzz]; exact HF18.out.fit); clear hob hg hq ho hzz; have hcell13 := HF18.out.cell (j := 13) rfl))
      obtain ⟨U13, hu1, hu2, hu3⟩ := HF18.out.row (j := 13) rfl rfl
      refine ((markTypeS_all v5_4_2) _ _ (((((((((((((m + 1) + Tr.cntE (GType.trs v1)) + 1) + 1) + Tr.cntE (GType.trs v2_2)) + 1) + Tr.cntE (strTrs v4)) + 1) + 1) + 1) + 1) + 1) + 1) U13 _ (by omega) hu1 hu2 (by omega)).mono ?_; rintro e w19 ⟨rfl, how, hch⟩
      have HF19 := Lib.hid (hu3 w19 _ how hch)
      clear how hch hu1 hu2 hu3 hcell13
      obtain ⟨ar19, ho, hzz, -, -⟩ := HF19.out.arr
      have HOB19 := Lib.hid ho
      have HFT19 : Hid (off + j * 16 + 16 ≤ ar19.size) := by show _ ≤ _; rw [hzz]; exact HF19.out.fit
      clear ho hzz
      have hcell14 := HF19.out.cell (j := 14) rfl
      go_wp2_with fail
      obtain ⟨U14, hu1, hu2, hu3⟩ := HF19.out.row (j := 14) rfl rfl
      refine ((markExprS_all v5_5) _ _ ((((((((((((((m + 1) + Tr.cntE (GType.trs v1)) + 1) + 1) + Tr.cntE (GType.trs v2_2)) + 1) + Tr.cntE (strTrs v4)) + 1) + 1) + 1) + 1) + 1) + 1) + Tr.cntE (GType.trs v5_4_2)) U14 _ (by omega) hu1 hu2 (by omega)).mono ?_; rintro e w20 ⟨rfl, how, hch⟩
      have HF20 := Lib.hid (hu3 w20 _ how hch)
      clear how hch hu1 hu2 hu3 hcell14
      obtain ⟨ar20, ho, hzz, -, -⟩ := HF20.out.arr
      have HOB20 := Lib.hid ho
      have HFT20 : Hid (off + j * 16 + 16 ≤ ar20.size) := by show _ ≤ _; rw [hzz]; exact HF20.out.fit
      clear ho hzz
      have hcell15 := HF20.out.cell (j := 15) rfl
      go_wp2_with fail
      obtain ⟨U15, hu1, hu2, hu3⟩ := HF20.out.row (j := 15) rfl rfl
      refine ((markArmS_all v5_6) _ _ (((((((((((((((m + 1) + Tr.cntE (GType.trs v1)) + 1) + 1) + Tr.cntE (GType.trs v2_2)) + 1) + Tr.cntE (strTrs v4)) + 1) + 1) + 1) + 1) + 1) + 1) + Tr.cntE (GType.trs v5_4_2)) + Tr.cntE (GExpr.trs v5_5)) U15 _ (by omega) hu1 hu2 (by omega)).mono ?_; rintro e w21 ⟨rfl, how, hch⟩
      have HF21 := Lib.hid (hu3 w21 _ how hch)
      clear how hch hu1 hu2 hu3 hcell15
      go_wp2_with fail
      go_roundw
      case rel =>
        obtain ⟨hown2, hchg2⟩ := HBK.out _ _ _ rfl HF21.out
        refine ⟨j + 1, ((((((((((((((((m + 1) + Tr.cntE (GType.trs v1)) + 1) + 1) + Tr.cntE (GType.trs v2_2)) + 1) + Tr.cntE (strTrs v4)) + 1) + 1) + 1) + 1) + 1) + 1) + Tr.cntE (GType.trs v5_4_2)) + Tr.cntE (GExpr.trs v5_5)) + Tr.cntE (GArm.trs v5_6)), by omega, by go_num, by first | rfl | go_num, by have h1 := HTK.out; have h2 := HM1.out; show _ = _; omega, ?_, HC1.out.trans hchg2⟩
        show Own _ _ _ _
        rw [← HMS.out]
        exact hown2
      case measure => simp [intOf]; omega
    · have hkl : j = (GSignature.trs l).length := by rw [GSignature.trs_len]; omega
      go_wp2_with fail
      go_ret
      have ho := HO1.out
      rw [hkl, Tr.mid_end] at ho
      have hm1 := HM1.out
      rw [hkl, List.take_length] at hm1
      subst hm1
      exact ⟨rfl, ho, HC1.out⟩
theorem markSignatureS_all (l : List GSignature) : MarkSC 123 16 (GSignature.trs l) := markSignatureS_of l

set_option maxRecDepth 100000 in
set_option maxHeartbeats 2000000 in
theorem markTraitS_of (l : List GTrait)  : MarkSC 152 5 (GTrait.trs l) := by
  intro s kz k S w hz hown hS hbd
  subst hz
  obtain ⟨a, cap, rfl, hl, hm⟩ := hown.rep.shape
  rw [GTrait.trs_len] at *
  unfold maxLen at hm
  have HO := Lib.hid hown
  have HSS := Lib.hid hS
  clear hown hS
  go_enter Tryz.func152, Tryz.ntmps152
  go_wp2_with fail
  go_loopw [1, 5] (fun kv i wr => ∃ j m : Nat, j ≤ l.length ∧ i = .int .i64 j ∧ kv = .int .i64 (m : Int) ∧ Hid (m = k + Tr.cntE ((GTrait.trs l).take j)) ∧ Hid (Own wr (.row 5 (Tr.mid (GTrait.trs l) k j)) (.slice a l.length cap) S) ∧ Hid (Chg S w wr)) (fun _ i _ => l.length - (intOf i).toNat)
  case atStart => exact ⟨0, k, Nat.zero_le _, rfl, rfl, by show _ = _; simp [Tr.cntE], by show Own _ _ _ _; rw [Tr.mid_zero]; exact HO.out, Chg.refl _ _⟩
  case round =>
    obtain ⟨j, m, hj, rfl, rfl, HM1, HO1, HC1⟩ := hrel
    by_cases hlt : j < l.length
    · have hlt2 : j < (GTrait.trs l).length := by rw [GTrait.trs_len]; exact hlt
      have hge : (GTrait.trs l)[j] = (l[j]).tr := by have h1 := GTrait.trs_get hlt; rw [List.getElem?_eq_getElem hlt2] at h1; exact Option.some.inj h1
      have hcl := Tr.cntE_le hlt2
      have hms := Tr.mid_set (k := k) hlt2
      have hmg := Tr.mid_get (k := k) hlt2
      have htk : Tr.cntE ((GTrait.trs l).take (j + 1)) = Tr.cntE ((GTrait.trs l).take j) + Tr.cntL (GTrait.trs l)[j] := Tr.cntE_take _ j hlt2
      rw [hge] at hcl hms hmg htk
      have hm1 := HM1.out
      rw [← hm1] at hms
      generalize l[j] = x at *
      obtain ⟨v0, v1, v2, v3, v4⟩ := x
      have htr : GTrait.tr (.mk v0 v1 v2 v3 v4) = [.leaf (.string v0), .row 1 (strTrs v1), .leaf (.bool v2), .leaf (.bool v3), .row 16 (GSignature.trs v4)] := by simp [GTrait.tr]
      rw [htr] at hcl hms hmg htk
      have hcw : Tr.cntL [.leaf (.string v0), .row 1 (strTrs v1), .leaf (.bool v2), .leaf (.bool v3), .row 16 (GSignature.trs v4)] = 1 + Tr.cntE (strTrs v1) + 1 + 1 + Tr.cntE (GSignature.trs v4) := by simp only [Tr.cntL, Tr.cnt] <;> omega
      obtain ⟨b, off, E0, arr0, cs0, T, rfl, hfoc, hrep, hback⟩ := HO1.out.take hmg (Tr.mid_sz (GTrait.sz l)) (by omega) (fun x hx => Nat.lt_of_lt_of_le (HSS.out x hx) HC1.out.size)
      obtain ⟨d0, d1, d2, d3, d4, rfl⟩ := list5 hfoc.len
      obtain ⟨rfl, -⟩ := (hrep.1).leaf_eq
      obtain ⟨sa1, sc1, rfl, -, -⟩ := (hrep.2.1).shape
      obtain ⟨rfl, -⟩ := (hrep.2.2.1).leaf_eq
      obtain ⟨rfl, -⟩ := (hrep.2.2.2.1).leaf_eq
      obtain ⟨sa4, sc4, rfl, -, -⟩ := (hrep.2.2.2.2.1).shape
      have HF0 := Lib.hid hfoc
      have HBK := Lib.hid hback
      obtain ⟨arr1, hob1, hsz1, -, -⟩ := hfoc.arr
      have HOB0 := Lib.hid hob1
      have HFIT : Hid (off + j * 5 + 5 ≤ arr1.size) := by show _ ≤ _; rw [hsz1]; exact hfoc.fit
      have hmb : m + (1 + Tr.cntE (strTrs v1) + 1 + 1 + Tr.cntE (GSignature.trs v4)) ≤ 1152921504606846976 := by rw [← hcw]; omega
      rw [hcw] at htk
      have HMS := Lib.hid hms
      have HTK := Lib.hid htk
      have hlo : (0 : Int) ≤ (j : Int) := by omega
      clear hfoc hrep hback hob1 hsz1 hms hmg htk hge hcl hcw hm1 htr
      go_wp2_with fail
      refine (markText_any _ m _ (by omega) (by omega)).mono ?_; rintro e w1 ⟨rfl, hw⟩
      have HF1 := Lib.hid (HF0.out.ext hw)
      obtain ⟨ar1, ho, hzz, -, -⟩ := HF1.out.arr
      have HOB1 := Lib.hid ho
      have HFT1 : Hid (off + j * 5 + 5 ≤ ar1.size) := by show _ ≤ _; rw [hzz]; exact HF1.out.fit
      clear hw ho hzz
      go_wp2_with (first
        | (refine wpList_store_cell rfl 9 (.tmp 17) (.tmp 15) rfl b (off + j * 5 + 0) rfl (.string (mtext m)) rfl rfl E0 ar1 HOB1.out isz9 (by have := HFT1.out; omega) rfl ?_; intro w2 hob hg hq; have HF2 := Lib.hid (HF1.out.leaf (j := 0) rfl (v := .string (mtext m)) (by have := mtext_size m (by omega); show _ ≤ maxLen; unfold maxLen; omega) HOB1.out hob hg); obtain ⟨ar2, ho, hzz, -, -⟩ := HF2.out.arr; have HOB2 := Lib.hid ho; have HFT2 : Hid (off + j * 5 + 5 ≤ ar2.size) := (by show _ ≤ _; rw [hzz]; exact HF2.out.fit); clear hob hg hq ho hzz; have hcell1 := HF2.out.cell (j := 1) rfl))
      obtain ⟨U1, hu1, hu2, hu3⟩ := HF2.out.row (j := 1) rfl rfl
      refine ((markStringS_all v1) _ _ (m + 1) U1 _ (by omega) hu1 hu2 (by omega)).mono ?_; rintro e w3 ⟨rfl, how, hch⟩
      have HF3 := Lib.hid (hu3 w3 _ how hch)
      clear how hch hu1 hu2 hu3 hcell1
      obtain ⟨ar3, ho, hzz, -, -⟩ := HF3.out.arr
      have HOB3 := Lib.hid ho
      have HFT3 : Hid (off + j * 5 + 5 ≤ ar3.size) := by show _ ≤ _; rw [hzz]; exact HF3.out.fit
      clear ho hzz
      go_wp2_with (first
        | (refine wpList_store_cell rfl 4 (.tmp 33) (.tmp 31) rfl b (off + j * 5 + 2) rfl (.bool (((m + 1) + Tr.cntE (strTrs v1)) % 3 == 0)) (by first | rfl | exact boolMark _ _ (by first | rfl | (simp only [Nat.cast_add, Nat.cast_one] <;> rfl))) rfl E0 ar3 HOB3.out isz4 (by have := HFT3.out; omega) rfl ?_; intro w4 hob hg hq; have HF4 := Lib.hid (HF3.out.leaf (j := 2) rfl (v := .bool (((m + 1) + Tr.cntE (strTrs v1)) % 3 == 0)) trivial HOB3.out hob hg); obtain ⟨ar4, ho, hzz, -, -⟩ := HF4.out.arr; have HOB4 := Lib.hid ho; have HFT4 : Hid (off + j * 5 + 5 ≤ ar4.size) := (by show _ ≤ _; rw [hzz]; exact HF4.out.fit); clear hob hg hq ho hzz)
        | (refine wpList_store_cell rfl 4 (.tmp 42) (.tmp 40) rfl b (off + j * 5 + 3) rfl (.bool ((((m + 1) + Tr.cntE (strTrs v1)) + 1) % 3 == 0)) (by first | rfl | exact boolMark _ _ (by first | rfl | (simp only [Nat.cast_add, Nat.cast_one] <;> rfl))) rfl E0 ar4 HOB4.out isz4 (by have := HFT4.out; omega) rfl ?_; intro w5 hob hg hq; have HF5 := Lib.hid (HF4.out.leaf (j := 3) rfl (v := .bool ((((m + 1) + Tr.cntE (strTrs v1)) + 1) % 3 == 0)) trivial HOB4.out hob hg); obtain ⟨ar5, ho, hzz, -, -⟩ := HF5.out.arr; have HOB5 := Lib.hid ho; have HFT5 : Hid (off + j * 5 + 5 ≤ ar5.size) := (by show _ ≤ _; rw [hzz]; exact HF5.out.fit); clear hob hg hq ho hzz; have hcell4 := HF5.out.cell (j := 4) rfl))
      obtain ⟨U4, hu1, hu2, hu3⟩ := HF5.out.row (j := 4) rfl rfl
      refine ((markSignatureS_all v4) _ _ ((((m + 1) + Tr.cntE (strTrs v1)) + 1) + 1) U4 _ (by omega) hu1 hu2 (by omega)).mono ?_; rintro e w6 ⟨rfl, how, hch⟩
      have HF6 := Lib.hid (hu3 w6 _ how hch)
      clear how hch hu1 hu2 hu3 hcell4
      go_wp2_with fail
      go_roundw
      case rel =>
        obtain ⟨hown2, hchg2⟩ := HBK.out _ _ _ rfl HF6.out
        refine ⟨j + 1, (((((m + 1) + Tr.cntE (strTrs v1)) + 1) + 1) + Tr.cntE (GSignature.trs v4)), by omega, by go_num, by first | rfl | go_num, by have h1 := HTK.out; have h2 := HM1.out; show _ = _; omega, ?_, HC1.out.trans hchg2⟩
        show Own _ _ _ _
        rw [← HMS.out]
        exact hown2
      case measure => simp [intOf]; omega
    · have hkl : j = (GTrait.trs l).length := by rw [GTrait.trs_len]; omega
      go_wp2_with fail
      go_ret
      have ho := HO1.out
      rw [hkl, Tr.mid_end] at ho
      have hm1 := HM1.out
      rw [hkl, List.take_length] at hm1
      subst hm1
      exact ⟨rfl, ho, HC1.out⟩
theorem markTraitS_all (l : List GTrait) : MarkSC 152 5 (GTrait.trs l) := markTraitS_of l

set_option maxRecDepth 100000 in
set_option maxHeartbeats 2000000 in
theorem markDataTypeS_of (l : List GDataType)  : MarkSC 153 3 (GDataType.trs l) := by
  intro s kz k S w hz hown hS hbd
  subst hz
  obtain ⟨a, cap, rfl, hl, hm⟩ := hown.rep.shape
  rw [GDataType.trs_len] at *
  unfold maxLen at hm
  have HO := Lib.hid hown
  have HSS := Lib.hid hS
  clear hown hS
  go_enter Tryz.func153, Tryz.ntmps153
  go_wp2_with fail
  go_loopw [1, 5] (fun kv i wr => ∃ j m : Nat, j ≤ l.length ∧ i = .int .i64 j ∧ kv = .int .i64 (m : Int) ∧ Hid (m = k + Tr.cntE ((GDataType.trs l).take j)) ∧ Hid (Own wr (.row 3 (Tr.mid (GDataType.trs l) k j)) (.slice a l.length cap) S) ∧ Hid (Chg S w wr)) (fun _ i _ => l.length - (intOf i).toNat)
  case atStart => exact ⟨0, k, Nat.zero_le _, rfl, rfl, by show _ = _; simp [Tr.cntE], by show Own _ _ _ _; rw [Tr.mid_zero]; exact HO.out, Chg.refl _ _⟩
  case round =>
    obtain ⟨j, m, hj, rfl, rfl, HM1, HO1, HC1⟩ := hrel
    by_cases hlt : j < l.length
    · have hlt2 : j < (GDataType.trs l).length := by rw [GDataType.trs_len]; exact hlt
      have hge : (GDataType.trs l)[j] = (l[j]).tr := by have h1 := GDataType.trs_get hlt; rw [List.getElem?_eq_getElem hlt2] at h1; exact Option.some.inj h1
      have hcl := Tr.cntE_le hlt2
      have hms := Tr.mid_set (k := k) hlt2
      have hmg := Tr.mid_get (k := k) hlt2
      have htk : Tr.cntE ((GDataType.trs l).take (j + 1)) = Tr.cntE ((GDataType.trs l).take j) + Tr.cntL (GDataType.trs l)[j] := Tr.cntE_take _ j hlt2
      rw [hge] at hcl hms hmg htk
      have hm1 := HM1.out
      rw [← hm1] at hms
      generalize l[j] = x at *
      obtain ⟨v0, v1, v2⟩ := x
      have htr : GDataType.tr (.mk v0 v1 v2) = [.leaf (.string v0), .row 1 (strTrs v1), .row 2 (GConstructor.trs v2)] := by simp [GDataType.tr]
      rw [htr] at hcl hms hmg htk
      have hcw : Tr.cntL [.leaf (.string v0), .row 1 (strTrs v1), .row 2 (GConstructor.trs v2)] = 1 + Tr.cntE (strTrs v1) + Tr.cntE (GConstructor.trs v2) := by simp only [Tr.cntL, Tr.cnt] <;> omega
      obtain ⟨b, off, E0, arr0, cs0, T, rfl, hfoc, hrep, hback⟩ := HO1.out.take hmg (Tr.mid_sz (GDataType.sz l)) (by omega) (fun x hx => Nat.lt_of_lt_of_le (HSS.out x hx) HC1.out.size)
      obtain ⟨d0, d1, d2, rfl⟩ := list3 hfoc.len
      obtain ⟨rfl, -⟩ := (hrep.1).leaf_eq
      obtain ⟨sa1, sc1, rfl, -, -⟩ := (hrep.2.1).shape
      obtain ⟨sa2, sc2, rfl, -, -⟩ := (hrep.2.2.1).shape
      have HF0 := Lib.hid hfoc
      have HBK := Lib.hid hback
      obtain ⟨arr1, hob1, hsz1, -, -⟩ := hfoc.arr
      have HOB0 := Lib.hid hob1
      have HFIT : Hid (off + j * 3 + 3 ≤ arr1.size) := by show _ ≤ _; rw [hsz1]; exact hfoc.fit
      have hmb : m + (1 + Tr.cntE (strTrs v1) + Tr.cntE (GConstructor.trs v2)) ≤ 1152921504606846976 := by rw [← hcw]; omega
      rw [hcw] at htk
      have HMS := Lib.hid hms
      have HTK := Lib.hid htk
      have hlo : (0 : Int) ≤ (j : Int) := by omega
      clear hfoc hrep hback hob1 hsz1 hms hmg htk hge hcl hcw hm1 htr
      go_wp2_with fail
      refine (markText_any _ m _ (by omega) (by omega)).mono ?_; rintro e w1 ⟨rfl, hw⟩
      have HF1 := Lib.hid (HF0.out.ext hw)
      obtain ⟨ar1, ho, hzz, -, -⟩ := HF1.out.arr
      have HOB1 := Lib.hid ho
      have HFT1 : Hid (off + j * 3 + 3 ≤ ar1.size) := by show _ ≤ _; rw [hzz]; exact HF1.out.fit
      clear hw ho hzz
      go_wp2_with (first
        | (refine wpList_store_cell rfl 9 (.tmp 17) (.tmp 15) rfl b (off + j * 3 + 0) rfl (.string (mtext m)) rfl rfl E0 ar1 HOB1.out isz9 (by have := HFT1.out; omega) rfl ?_; intro w2 hob hg hq; have HF2 := Lib.hid (HF1.out.leaf (j := 0) rfl (v := .string (mtext m)) (by have := mtext_size m (by omega); show _ ≤ maxLen; unfold maxLen; omega) HOB1.out hob hg); obtain ⟨ar2, ho, hzz, -, -⟩ := HF2.out.arr; have HOB2 := Lib.hid ho; have HFT2 : Hid (off + j * 3 + 3 ≤ ar2.size) := (by show _ ≤ _; rw [hzz]; exact HF2.out.fit); clear hob hg hq ho hzz; have hcell1 := HF2.out.cell (j := 1) rfl))
      obtain ⟨U1, hu1, hu2, hu3⟩ := HF2.out.row (j := 1) rfl rfl
      refine ((markStringS_all v1) _ _ (m + 1) U1 _ (by omega) hu1 hu2 (by omega)).mono ?_; rintro e w3 ⟨rfl, how, hch⟩
      have HF3 := Lib.hid (hu3 w3 _ how hch)
      clear how hch hu1 hu2 hu3 hcell1
      obtain ⟨ar3, ho, hzz, -, -⟩ := HF3.out.arr
      have HOB3 := Lib.hid ho
      have HFT3 : Hid (off + j * 3 + 3 ≤ ar3.size) := by show _ ≤ _; rw [hzz]; exact HF3.out.fit
      clear ho hzz
      have hcell2 := HF3.out.cell (j := 2) rfl
      go_wp2_with fail
      obtain ⟨U2, hu1, hu2, hu3⟩ := HF3.out.row (j := 2) rfl rfl
      refine ((markConstructorS_all v2) _ _ ((m + 1) + Tr.cntE (strTrs v1)) U2 _ (by omega) hu1 hu2 (by omega)).mono ?_; rintro e w4 ⟨rfl, how, hch⟩
      have HF4 := Lib.hid (hu3 w4 _ how hch)
      clear how hch hu1 hu2 hu3 hcell2
      go_wp2_with fail
      go_roundw
      case rel =>
        obtain ⟨hown2, hchg2⟩ := HBK.out _ _ _ rfl HF4.out
        refine ⟨j + 1, (((m + 1) + Tr.cntE (strTrs v1)) + Tr.cntE (GConstructor.trs v2)), by omega, by go_num, by first | rfl | go_num, by have h1 := HTK.out; have h2 := HM1.out; show _ = _; omega, ?_, HC1.out.trans hchg2⟩
        show Own _ _ _ _
        rw [← HMS.out]
        exact hown2
      case measure => simp [intOf]; omega
    · have hkl : j = (GDataType.trs l).length := by rw [GDataType.trs_len]; omega
      go_wp2_with fail
      go_ret
      have ho := HO1.out
      rw [hkl, Tr.mid_end] at ho
      have hm1 := HM1.out
      rw [hkl, List.take_length] at hm1
      subst hm1
      exact ⟨rfl, ho, HC1.out⟩
theorem markDataTypeS_all (l : List GDataType) : MarkSC 153 3 (GDataType.trs l) := markDataTypeS_of l

set_option maxRecDepth 100000 in
set_option maxHeartbeats 2000000 in
theorem markInstanceS_of (l : List GInstance)  : MarkSC 154 12 (GInstance.trs l) := by
  intro s kz k S w hz hown hS hbd
  subst hz
  obtain ⟨a, cap, rfl, hl, hm⟩ := hown.rep.shape
  rw [GInstance.trs_len] at *
  unfold maxLen at hm
  have HO := Lib.hid hown
  have HSS := Lib.hid hS
  clear hown hS
  go_enter Tryz.func154, Tryz.ntmps154
  go_wp2_with fail
  go_loopw [1, 5] (fun kv i wr => ∃ j m : Nat, j ≤ l.length ∧ i = .int .i64 j ∧ kv = .int .i64 (m : Int) ∧ Hid (m = k + Tr.cntE ((GInstance.trs l).take j)) ∧ Hid (Own wr (.row 12 (Tr.mid (GInstance.trs l) k j)) (.slice a l.length cap) S) ∧ Hid (Chg S w wr)) (fun _ i _ => l.length - (intOf i).toNat)
  case atStart => exact ⟨0, k, Nat.zero_le _, rfl, rfl, by show _ = _; simp [Tr.cntE], by show Own _ _ _ _; rw [Tr.mid_zero]; exact HO.out, Chg.refl _ _⟩
  case round =>
    obtain ⟨j, m, hj, rfl, rfl, HM1, HO1, HC1⟩ := hrel
    by_cases hlt : j < l.length
    · have hlt2 : j < (GInstance.trs l).length := by rw [GInstance.trs_len]; exact hlt
      have hge : (GInstance.trs l)[j] = (l[j]).tr := by have h1 := GInstance.trs_get hlt; rw [List.getElem?_eq_getElem hlt2] at h1; exact Option.some.inj h1
      have hcl := Tr.cntE_le hlt2
      have hms := Tr.mid_set (k := k) hlt2
      have hmg := Tr.mid_get (k := k) hlt2
      have htk : Tr.cntE ((GInstance.trs l).take (j + 1)) = Tr.cntE ((GInstance.trs l).take j) + Tr.cntL (GInstance.trs l)[j] := Tr.cntE_take _ j hlt2
      rw [hge] at hcl hms hmg htk
      have hm1 := HM1.out
      rw [← hm1] at hms
      generalize l[j] = x at *
      obtain ⟨v0, v1, ⟨v2_0, v2_1, v2_2⟩, v3, v4, v5, ⟨v6_0, v6_1, v6_2⟩, v7⟩ := x
      have htr : GInstance.tr (.mk v0 v1 (.mk v2_0 v2_1 v2_2) v3 v4 v5 (.mk v6_0 v6_1 v6_2) v7) = [.leaf (.string v0), .row 1 (strTrs v1), .leaf (.int .i64 v2_0), .leaf (.string v2_1), .row 3 (GType.trs v2_2), .row 4 (GBound.trs v3), .leaf (.bool v4), .leaf (.bool v5), .leaf (.int .i64 v6_0), .leaf (.string v6_1), .row 3 (GType.trs v6_2), .row 11 (GMethod.trs v7)] := by simp [GInstance.tr, GType.tr, GType.tr]
      rw [htr] at hcl hms hmg htk
      have hcw : Tr.cntL [.leaf (.string v0), .row 1 (strTrs v1), .leaf (.int .i64 v2_0), .leaf (.string v2_1), .row 3 (GType.trs v2_2), .row 4 (GBound.trs v3), .leaf (.bool v4), .leaf (.bool v5), .leaf (.int .i64 v6_0), .leaf (.string v6_1), .row 3 (GType.trs v6_2), .row 11 (GMethod.trs v7)] = 1 + Tr.cntE (strTrs v1) + 1 + 1 + Tr.cntE (GType.trs v2_2) + Tr.cntE (GBound.trs v3) + 1 + 1 + 1 + 1 + Tr.cntE (GType.trs v6_2) + Tr.cntE (GMethod.trs v7) := by simp only [Tr.cntL, Tr.cnt] <;> omega
      obtain ⟨b, off, E0, arr0, cs0, T, rfl, hfoc, hrep, hback⟩ := HO1.out.take hmg (Tr.mid_sz (GInstance.sz l)) (by omega) (fun x hx => Nat.lt_of_lt_of_le (HSS.out x hx) HC1.out.size)
      obtain ⟨d0, d1, d2, d3, d4, d5, d6, d7, d8, d9, d10, d11, rfl⟩ := list12 hfoc.len
      obtain ⟨rfl, -⟩ := (hrep.1).leaf_eq
      obtain ⟨sa1, sc1, rfl, -, -⟩ := (hrep.2.1).shape
      obtain ⟨rfl, -⟩ := (hrep.2.2.1).leaf_eq
      obtain ⟨rfl, -⟩ := (hrep.2.2.2.1).leaf_eq
      obtain ⟨sa4, sc4, rfl, -, -⟩ := (hrep.2.2.2.2.1).shape
      obtain ⟨sa5, sc5, rfl, -, -⟩ := (hrep.2.2.2.2.2.1).shape
      obtain ⟨rfl, -⟩ := (hrep.2.2.2.2.2.2.1).leaf_eq
      obtain ⟨rfl, -⟩ := (hrep.2.2.2.2.2.2.2.1).leaf_eq
      obtain ⟨rfl, -⟩ := (hrep.2.2.2.2.2.2.2.2.1).leaf_eq
      obtain ⟨rfl, -⟩ := (hrep.2.2.2.2.2.2.2.2.2.1).leaf_eq
      obtain ⟨sa10, sc10, rfl, -, -⟩ := (hrep.2.2.2.2.2.2.2.2.2.2.1).shape
      obtain ⟨sa11, sc11, rfl, -, -⟩ := (hrep.2.2.2.2.2.2.2.2.2.2.2.1).shape
      have HF0 := Lib.hid hfoc
      have HBK := Lib.hid hback
      obtain ⟨arr1, hob1, hsz1, -, -⟩ := hfoc.arr
      have HOB0 := Lib.hid hob1
      have HFIT : Hid (off + j * 12 + 12 ≤ arr1.size) := by show _ ≤ _; rw [hsz1]; exact hfoc.fit
      have hmb : m + (1 + Tr.cntE (strTrs v1) + 1 + 1 + Tr.cntE (GType.trs v2_2) + Tr.cntE (GBound.trs v3) + 1 + 1 + 1 + 1 + Tr.cntE (GType.trs v6_2) + Tr.cntE (GMethod.trs v7)) ≤ 1152921504606846976 := by rw [← hcw]; omega
      rw [hcw] at htk
      have HMS := Lib.hid hms
      have HTK := Lib.hid htk
      have hlo : (0 : Int) ≤ (j : Int) := by omega
      clear hfoc hrep hback hob1 hsz1 hms hmg htk hge hcl hcw hm1 htr
      go_wp2_with fail
      refine (markText_any _ m _ (by omega) (by omega)).mono ?_; rintro e w1 ⟨rfl, hw⟩
      have HF1 := Lib.hid (HF0.out.ext hw)
      obtain ⟨ar1, ho, hzz, -, -⟩ := HF1.out.arr
      have HOB1 := Lib.hid ho
      have HFT1 : Hid (off + j * 12 + 12 ≤ ar1.size) := by show _ ≤ _; rw [hzz]; exact HF1.out.fit
      clear hw ho hzz
      go_wp2_with (first
        | (refine wpList_store_cell rfl 9 (.tmp 17) (.tmp 15) rfl b (off + j * 12 + 0) rfl (.string (mtext m)) rfl rfl E0 ar1 HOB1.out isz9 (by have := HFT1.out; omega) rfl ?_; intro w2 hob hg hq; have HF2 := Lib.hid (HF1.out.leaf (j := 0) rfl (v := .string (mtext m)) (by have := mtext_size m (by omega); show _ ≤ maxLen; unfold maxLen; omega) HOB1.out hob hg); obtain ⟨ar2, ho, hzz, -, -⟩ := HF2.out.arr; have HOB2 := Lib.hid ho; have HFT2 : Hid (off + j * 12 + 12 ≤ ar2.size) := (by show _ ≤ _; rw [hzz]; exact HF2.out.fit); clear hob hg hq ho hzz; have hcell1 := HF2.out.cell (j := 1) rfl))
      obtain ⟨U1, hu1, hu2, hu3⟩ := HF2.out.row (j := 1) rfl rfl
      refine ((markStringS_all v1) _ _ (m + 1) U1 _ (by omega) hu1 hu2 (by omega)).mono ?_; rintro e w3 ⟨rfl, how, hch⟩
      have HF3 := Lib.hid (hu3 w3 _ how hch)
      clear how hch hu1 hu2 hu3 hcell1
      obtain ⟨ar3, ho, hzz, -, -⟩ := HF3.out.arr
      have HOB3 := Lib.hid ho
      have HFT3 : Hid (off + j * 12 + 12 ≤ ar3.size) := by show _ ≤ _; rw [hzz]; exact HF3.out.fit
      clear ho hzz
      go_wp2_with (first
        | (refine wpList_store_cell rfl 3 (.tmp 32) (.tmp 29) rfl b (off + j * 12 + 2) rfl (.int .i64 ((((m + 1) + Tr.cntE (strTrs v1)) : Nat) : Int)) (by first | rfl | (simp only [Nat.cast_add, Nat.cast_one] <;> rfl)) rfl E0 ar3 HOB3.out isz3 (by have := HFT3.out; omega) rfl ?_; intro w4 hob hg hq; have HF4 := Lib.hid (HF3.out.leaf (j := 2) rfl (v := .int .i64 ((((m + 1) + Tr.cntE (strTrs v1)) : Nat) : Int)) (WalkArith.wf_i64 (by omega)) HOB3.out hob hg); obtain ⟨ar4, ho, hzz, -, -⟩ := HF4.out.arr; have HOB4 := Lib.hid ho; have HFT4 : Hid (off + j * 12 + 12 ≤ ar4.size) := (by show _ ≤ _; rw [hzz]; exact HF4.out.fit); clear hob hg hq ho hzz))
      refine (markText_any _ (((m + 1) + Tr.cntE (strTrs v1)) + 1) _ (by omega) (by omega)).mono ?_; rintro e w5 ⟨rfl, hw⟩
      have HF5 := Lib.hid (HF4.out.ext hw)
      obtain ⟨ar5, ho, hzz, -, -⟩ := HF5.out.arr
      have HOB5 := Lib.hid ho
      have HFT5 : Hid (off + j * 12 + 12 ≤ ar5.size) := by show _ ≤ _; rw [hzz]; exact HF5.out.fit
      clear hw ho hzz
      go_wp2_with (first
        | (refine wpList_store_cell rfl 9 (.tmp 41) (.tmp 38) rfl b (off + j * 12 + 3) rfl (.string (mtext (((m + 1) + Tr.cntE (strTrs v1)) + 1))) rfl rfl E0 ar5 HOB5.out isz9 (by have := HFT5.out; omega) rfl ?_; intro w6 hob hg hq; have HF6 := Lib.hid (HF5.out.leaf (j := 3) rfl (v := .string (mtext (((m + 1) + Tr.cntE (strTrs v1)) + 1))) (by have := mtext_size (((m + 1) + Tr.cntE (strTrs v1)) + 1) (by omega); show _ ≤ maxLen; unfold maxLen; omega) HOB5.out hob hg); obtain ⟨ar6, ho, hzz, -, -⟩ := HF6.out.arr; have HOB6 := Lib.hid ho; have HFT6 : Hid (off + j * 12 + 12 ≤ ar6.size) := (by show _ ≤ _; rw [hzz]; exact HF6.out.fit); clear hob hg hq ho hzz; have hcell4 := HF6.out.cell (j := 4) rfl))
      obtain ⟨U4, hu1, hu2, hu3⟩ := HF6.out.row (j := 4) rfl rfl
      refine ((markTypeS_all v2_2) _ _ ((((m + 1) + Tr.cntE (strTrs v1)) + 1) + 1) U4 _ (by omega) hu1 hu2 (by omega)).mono ?_; rintro e w7 ⟨rfl, how, hch⟩
      have HF7 := Lib.hid (hu3 w7 _ how hch)
      clear how hch hu1 hu2 hu3 hcell4
      obtain ⟨ar7, ho, hzz, -, -⟩ := HF7.out.arr
      have HOB7 := Lib.hid ho
      have HFT7 : Hid (off + j * 12 + 12 ≤ ar7.size) := by show _ ≤ _; rw [hzz]; exact HF7.out.fit
      clear ho hzz
      have hcell5 := HF7.out.cell (j := 5) rfl
      go_wp2_with fail
      obtain ⟨U5, hu1, hu2, hu3⟩ := HF7.out.row (j := 5) rfl rfl
      refine ((markBoundS_all v3) _ _ (((((m + 1) + Tr.cntE (strTrs v1)) + 1) + 1) + Tr.cntE (GType.trs v2_2)) U5 _ (by omega) hu1 hu2 (by omega)).mono ?_; rintro e w8 ⟨rfl, how, hch⟩
      have HF8 := Lib.hid (hu3 w8 _ how hch)
      clear how hch hu1 hu2 hu3 hcell5
      obtain ⟨ar8, ho, hzz, -, -⟩ := HF8.out.arr
      have HOB8 := Lib.hid ho
      have HFT8 : Hid (off + j * 12 + 12 ≤ ar8.size) := by show _ ≤ _; rw [hzz]; exact HF8.out.fit
      clear ho hzz
      go_wp2_with (first
        | (refine wpList_store_cell rfl 4 (.tmp 65) (.tmp 63) rfl b (off + j * 12 + 6) rfl (.bool (((((((m + 1) + Tr.cntE (strTrs v1)) + 1) + 1) + Tr.cntE (GType.trs v2_2)) + Tr.cntE (GBound.trs v3)) % 3 == 0)) (by first | rfl | exact boolMark _ _ (by first | rfl | (simp only [Nat.cast_add, Nat.cast_one] <;> rfl))) rfl E0 ar8 HOB8.out isz4 (by have := HFT8.out; omega) rfl ?_; intro w9 hob hg hq; have HF9 := Lib.hid (HF8.out.leaf (j := 6) rfl (v := .bool (((((((m + 1) + Tr.cntE (strTrs v1)) + 1) + 1) + Tr.cntE (GType.trs v2_2)) + Tr.cntE (GBound.trs v3)) % 3 == 0)) trivial HOB8.out hob hg); obtain ⟨ar9, ho, hzz, -, -⟩ := HF9.out.arr; have HOB9 := Lib.hid ho; have HFT9 : Hid (off + j * 12 + 12 ≤ ar9.size) := (by show _ ≤ _; rw [hzz]; exact HF9.out.fit); clear hob hg hq ho hzz)
        | (refine wpList_store_cell rfl 4 (.tmp 74) (.tmp 72) rfl b (off + j * 12 + 7) rfl (.bool ((((((((m + 1) + Tr.cntE (strTrs v1)) + 1) + 1) + Tr.cntE (GType.trs v2_2)) + Tr.cntE (GBound.trs v3)) + 1) % 3 == 0)) (by first | rfl | exact boolMark _ _ (by first | rfl | (simp only [Nat.cast_add, Nat.cast_one] <;> rfl))) rfl E0 ar9 HOB9.out isz4 (by have := HFT9.out; omega) rfl ?_; intro w10 hob hg hq; have HF10 := Lib.hid (HF9.out.leaf (j := 7) rfl (v := .bool ((((((((m + 1) + Tr.cntE (strTrs v1)) + 1) + 1) + Tr.cntE (GType.trs v2_2)) + Tr.cntE (GBound.trs v3)) + 1) % 3 == 0)) trivial HOB9.out hob hg); obtain ⟨ar10, ho, hzz, -, -⟩ := HF10.out.arr; have HOB10 := Lib.hid ho; have HFT10 : Hid (off + j * 12 + 12 ≤ ar10.size) := (by show _ ≤ _; rw [hzz]; exact HF10.out.fit); clear hob hg hq ho hzz)
        | (refine wpList_store_cell rfl 3 (.tmp 82) (.tmp 79) rfl b (off + j * 12 + 8) rfl (.int .i64 ((((((((((m + 1) + Tr.cntE (strTrs v1)) + 1) + 1) + Tr.cntE (GType.trs v2_2)) + Tr.cntE (GBound.trs v3)) + 1) + 1) : Nat) : Int)) (by first | rfl | (simp only [Nat.cast_add, Nat.cast_one] <;> rfl)) rfl E0 ar10 HOB10.out isz3 (by have := HFT10.out; omega) rfl ?_; intro w11 hob hg hq; have HF11 := Lib.hid (HF10.out.leaf (j := 8) rfl (v := .int .i64 ((((((((((m + 1) + Tr.cntE (strTrs v1)) + 1) + 1) + Tr.cntE (GType.trs v2_2)) + Tr.cntE (GBound.trs v3)) + 1) + 1) : Nat) : Int)) (WalkArith.wf_i64 (by omega)) HOB10.out hob hg); obtain ⟨ar11, ho, hzz, -, -⟩ := HF11.out.arr; have HOB11 := Lib.hid ho; have HFT11 : Hid (off + j * 12 + 12 ≤ ar11.size) := (by show _ ≤ _; rw [hzz]; exact HF11.out.fit); clear hob hg hq ho hzz))
      refine (markText_any _ (((((((((m + 1) + Tr.cntE (strTrs v1)) + 1) + 1) + Tr.cntE (GType.trs v2_2)) + Tr.cntE (GBound.trs v3)) + 1) + 1) + 1) _ (by omega) (by omega)).mono ?_; rintro e w12 ⟨rfl, hw⟩
      have HF12 := Lib.hid (HF11.out.ext hw)
      obtain ⟨ar12, ho, hzz, -, -⟩ := HF12.out.arr
      have HOB12 := Lib.hid ho
      have HFT12 : Hid (off + j * 12 + 12 ≤ ar12.size) := by show _ ≤ _; rw [hzz]; exact HF12.out.fit
      clear hw ho hzz
      go_wp2_with (first
        | (refine wpList_store_cell rfl 9 (.tmp 91) (.tmp 88) rfl b (off + j * 12 + 9) rfl (.string (mtext (((((((((m + 1) + Tr.cntE (strTrs v1)) + 1) + 1) + Tr.cntE (GType.trs v2_2)) + Tr.cntE (GBound.trs v3)) + 1) + 1) + 1))) rfl rfl E0 ar12 HOB12.out isz9 (by have := HFT12.out; omega) rfl ?_; intro w13 hob hg hq; have HF13 := Lib.hid (HF12.out.leaf (j := 9) rfl (v := .string (mtext (((((((((m + 1) + Tr.cntE (strTrs v1)) + 1) + 1) + Tr.cntE (GType.trs v2_2)) + Tr.cntE (GBound.trs v3)) + 1) + 1) + 1))) (by have := mtext_size (((((((((m + 1) + Tr.cntE (strTrs v1)) + 1) + 1) + Tr.cntE (GType.trs v2_2)) + Tr.cntE (GBound.trs v3)) + 1) + 1) + 1) (by omega); show _ ≤ maxLen; unfold maxLen; omega) HOB12.out hob hg); obtain ⟨ar13, ho, hzz, -, -⟩ := HF13.out.arr; have HOB13 := Lib.hid ho; have HFT13 : Hid (off + j * 12 + 12 ≤ ar13.size) := (by show _ ≤ _; rw [hzz]; exact HF13.out.fit); clear hob hg hq ho hzz; have hcell10 := HF13.out.cell (j := 10) rfl))
      obtain ⟨U10, hu1, hu2, hu3⟩ := HF13.out.row (j := 10) rfl rfl
      refine ((markTypeS_all v6_2) _ _ ((((((((((m + 1) + Tr.cntE (strTrs v1)) + 1) + 1) + Tr.cntE (GType.trs v2_2)) + Tr.cntE (GBound.trs v3)) + 1) + 1) + 1) + 1) U10 _ (by omega) hu1 hu2 (by omega)).mono ?_; rintro e w14 ⟨rfl, how, hch⟩
      have HF14 := Lib.hid (hu3 w14 _ how hch)
      clear how hch hu1 hu2 hu3 hcell10
      obtain ⟨ar14, ho, hzz, -, -⟩ := HF14.out.arr
      have HOB14 := Lib.hid ho
      have HFT14 : Hid (off + j * 12 + 12 ≤ ar14.size) := by show _ ≤ _; rw [hzz]; exact HF14.out.fit
      clear ho hzz
      have hcell11 := HF14.out.cell (j := 11) rfl
      go_wp2_with fail
      obtain ⟨U11, hu1, hu2, hu3⟩ := HF14.out.row (j := 11) rfl rfl
      refine ((markMethodS_all v7) _ _ (((((((((((m + 1) + Tr.cntE (strTrs v1)) + 1) + 1) + Tr.cntE (GType.trs v2_2)) + Tr.cntE (GBound.trs v3)) + 1) + 1) + 1) + 1) + Tr.cntE (GType.trs v6_2)) U11 _ (by omega) hu1 hu2 (by omega)).mono ?_; rintro e w15 ⟨rfl, how, hch⟩
      have HF15 := Lib.hid (hu3 w15 _ how hch)
      clear how hch hu1 hu2 hu3 hcell11
      go_wp2_with fail
      go_roundw
      case rel =>
        obtain ⟨hown2, hchg2⟩ := HBK.out _ _ _ rfl HF15.out
        refine ⟨j + 1, ((((((((((((m + 1) + Tr.cntE (strTrs v1)) + 1) + 1) + Tr.cntE (GType.trs v2_2)) + Tr.cntE (GBound.trs v3)) + 1) + 1) + 1) + 1) + Tr.cntE (GType.trs v6_2)) + Tr.cntE (GMethod.trs v7)), by omega, by go_num, by first | rfl | go_num, by have h1 := HTK.out; have h2 := HM1.out; show _ = _; omega, ?_, HC1.out.trans hchg2⟩
        show Own _ _ _ _
        rw [← HMS.out]
        exact hown2
      case measure => simp [intOf]; omega
    · have hkl : j = (GInstance.trs l).length := by rw [GInstance.trs_len]; omega
      go_wp2_with fail
      go_ret
      have ho := HO1.out
      rw [hkl, Tr.mid_end] at ho
      have hm1 := HM1.out
      rw [hkl, List.take_length] at hm1
      subst hm1
      exact ⟨rfl, ho, HC1.out⟩
theorem markInstanceS_all (l : List GInstance) : MarkSC 154 12 (GInstance.trs l) := markInstanceS_of l

set_option maxRecDepth 100000 in
set_option maxHeartbeats 2000000 in
theorem markFunctionS_of (l : List GFunction)  : MarkSC 155 16 (GFunction.trs l) := by
  intro s kz k S w hz hown hS hbd
  subst hz
  obtain ⟨a, cap, rfl, hl, hm⟩ := hown.rep.shape
  rw [GFunction.trs_len] at *
  unfold maxLen at hm
  have HO := Lib.hid hown
  have HSS := Lib.hid hS
  clear hown hS
  go_enter Tryz.func155, Tryz.ntmps155
  go_wp2_with fail
  go_loopw [1, 5] (fun kv i wr => ∃ j m : Nat, j ≤ l.length ∧ i = .int .i64 j ∧ kv = .int .i64 (m : Int) ∧ Hid (m = k + Tr.cntE ((GFunction.trs l).take j)) ∧ Hid (Own wr (.row 16 (Tr.mid (GFunction.trs l) k j)) (.slice a l.length cap) S) ∧ Hid (Chg S w wr)) (fun _ i _ => l.length - (intOf i).toNat)
  case atStart => exact ⟨0, k, Nat.zero_le _, rfl, rfl, by show _ = _; simp [Tr.cntE], by show Own _ _ _ _; rw [Tr.mid_zero]; exact HO.out, Chg.refl _ _⟩
  case round =>
    obtain ⟨j, m, hj, rfl, rfl, HM1, HO1, HC1⟩ := hrel
    by_cases hlt : j < l.length
    · have hlt2 : j < (GFunction.trs l).length := by rw [GFunction.trs_len]; exact hlt
      have hge : (GFunction.trs l)[j] = (l[j]).tr := by have h1 := GFunction.trs_get hlt; rw [List.getElem?_eq_getElem hlt2] at h1; exact Option.some.inj h1
      have hcl := Tr.cntE_le hlt2
      have hms := Tr.mid_set (k := k) hlt2
      have hmg := Tr.mid_get (k := k) hlt2
      have htk : Tr.cntE ((GFunction.trs l).take (j + 1)) = Tr.cntE ((GFunction.trs l).take j) + Tr.cntL (GFunction.trs l)[j] := Tr.cntE_take _ j hlt2
      rw [hge] at hcl hms hmg htk
      have hm1 := HM1.out
      rw [← hm1] at hms
      generalize l[j] = x at *
      obtain ⟨v0, v1, v2, v3, ⟨v4_0, v4_1, v4_2⟩, ⟨v5_0, v5_1, v5_2, v5_3, ⟨v5_4_0, v5_4_1, v5_4_2⟩, v5_5, v5_6⟩⟩ := x
      have htr : GFunction.tr (.mk v0 v1 v2 v3 (.mk v4_0 v4_1 v4_2) (.mk v5_0 v5_1 v5_2 v5_3 (.mk v5_4_0 v5_4_1 v5_4_2) v5_5 v5_6)) = [.leaf (.string v0), .row 1 (strTrs v1), .row 4 (GBound.trs v2), .row 4 (GParam.trs v3), .leaf (.int .i64 v4_0), .leaf (.string v4_1), .row 3 (GType.trs v4_2), .leaf (.int .i64 v5_0), .leaf (.string v5_1), .leaf (.string v5_2), .leaf (.int .i64 v5_3), .leaf (.int .i64 v5_4_0), .leaf (.string v5_4_1), .row 3 (GType.trs v5_4_2), .row 9 (GExpr.trs v5_5), .row 11 (GArm.trs v5_6)] := by simp [GFunction.tr, GType.tr, GExpr.tr, GType.tr]
      rw [htr] at hcl hms hmg htk
      have hcw : Tr.cntL [.leaf (.string v0), .row 1 (strTrs v1), .row 4 (GBound.trs v2), .row 4 (GParam.trs v3), .leaf (.int .i64 v4_0), .leaf (.string v4_1), .row 3 (GType.trs v4_2), .leaf (.int .i64 v5_0), .leaf (.string v5_1), .leaf (.string v5_2), .leaf (.int .i64 v5_3), .leaf (.int .i64 v5_4_0), .leaf (.string v5_4_1), .row 3 (GType.trs v5_4_2), .row 9 (GExpr.trs v5_5), .row 11 (GArm.trs v5_6)] = 1 + Tr.cntE (strTrs v1) + Tr.cntE (GBound.trs v2) + Tr.cntE (GParam.trs v3) + 1 + 1 + Tr.cntE (GType.trs v4_2) + 1 + 1 + 1 + 1 + 1 + 1 + Tr.cntE (GType.trs v5_4_2) + Tr.cntE (GExpr.trs v5_5) + Tr.cntE (GArm.trs v5_6) := by simp only [Tr.cntL, Tr.cnt] <;> omega
      obtain ⟨b, off, E0, arr0, cs0, T, rfl, hfoc, hrep, hback⟩ := HO1.out.take hmg (Tr.mid_sz (GFunction.sz l)) (by omega) (fun x hx => Nat.lt_of_lt_of_le (HSS.out x hx) HC1.out.size)
      obtain ⟨d0, d1, d2, d3, d4, d5, d6, d7, d8, d9, d10, d11, d12, d13, d14, d15, rfl⟩ := list16 hfoc.len
      obtain ⟨rfl, -⟩ := (hrep.1).leaf_eq
      obtain ⟨sa1, sc1, rfl, -, -⟩ := (hrep.2.1).shape
      obtain ⟨sa2, sc2, rfl, -, -⟩ := (hrep.2.2.1).shape
      obtain ⟨sa3, sc3, rfl, -, -⟩ := (hrep.2.2.2.1).shape
      obtain ⟨rfl, -⟩ := (hrep.2.2.2.2.1).leaf_eq
      obtain ⟨rfl, -⟩ := (hrep.2.2.2.2.2.1).leaf_eq
      obtain ⟨sa6, sc6, rfl, -, -⟩ := (hrep.2.2.2.2.2.2.1).shape
      obtain ⟨rfl, -⟩ := (hrep.2.2.2.2.2.2.2.1).leaf_eq
      obtain ⟨rfl, -⟩ := (hrep.2.2.2.2.2.2.2.2.1).leaf_eq
      obtain ⟨rfl, -⟩ := (hrep.2.2.2.2.2.2.2.2.2.1).leaf_eq
      obtain ⟨rfl, -⟩ := (hrep.2.2.2.2.2.2.2.2.2.2.1).leaf_eq
      obtain ⟨rfl, -⟩ := (hrep.2.2.2.2.2.2.2.2.2.2.2.1).leaf_eq
      obtain ⟨rfl, -⟩ := (hrep.2.2.2.2.2.2.2.2.2.2.2.2.1).leaf_eq
      obtain ⟨sa13, sc13, rfl, -, -⟩ := (hrep.2.2.2.2.2.2.2.2.2.2.2.2.2.1).shape
      obtain ⟨sa14, sc14, rfl, -, -⟩ := (hrep.2.2.2.2.2.2.2.2.2.2.2.2.2.2.1).shape
      obtain ⟨sa15, sc15, rfl, -, -⟩ := (hrep.2.2.2.2.2.2.2.2.2.2.2.2.2.2.2.1).shape
      have HF0 := Lib.hid hfoc
      have HBK := Lib.hid hback
      obtain ⟨arr1, hob1, hsz1, -, -⟩ := hfoc.arr
      have HOB0 := Lib.hid hob1
      have HFIT : Hid (off + j * 16 + 16 ≤ arr1.size) := by show _ ≤ _; rw [hsz1]; exact hfoc.fit
      have hmb : m + (1 + Tr.cntE (strTrs v1) + Tr.cntE (GBound.trs v2) + Tr.cntE (GParam.trs v3) + 1 + 1 + Tr.cntE (GType.trs v4_2) + 1 + 1 + 1 + 1 + 1 + 1 + Tr.cntE (GType.trs v5_4_2) + Tr.cntE (GExpr.trs v5_5) + Tr.cntE (GArm.trs v5_6)) ≤ 1152921504606846976 := by rw [← hcw]; omega
      rw [hcw] at htk
      have HMS := Lib.hid hms
      have HTK := Lib.hid htk
      have hlo : (0 : Int) ≤ (j : Int) := by omega
      clear hfoc hrep hback hob1 hsz1 hms hmg htk hge hcl hcw hm1 htr
      go_wp2_with fail
      refine (markText_any _ m _ (by omega) (by omega)).mono ?_; rintro e w1 ⟨rfl, hw⟩
      have HF1 := Lib.hid (HF0.out.ext hw)
      obtain ⟨ar1, ho, hzz, -, -⟩ := HF1.out.arr
      have HOB1 := Lib.hid ho
      have HFT1 : Hid (off + j * 16 + 16 ≤ ar1.size) := by show _ ≤ _; rw [hzz]; exact HF1.out.fit
      clear hw ho hzz
      go_wp2_with (first
        | (refine wpList_store_cell rfl 9 (.tmp 17) (.tmp 15) rfl b (off + j * 16 + 0) rfl (.string (mtext m)) rfl rfl E0 ar1 HOB1.out isz9 (by have := HFT1.out; omega) rfl ?_; intro w2 hob hg hq; have HF2 := Lib.hid (HF1.out.leaf (j := 0) rfl (v := .string (mtext m)) (by have := mtext_size m (by omega); show _ ≤ maxLen; unfold maxLen; omega) HOB1.out hob hg); obtain ⟨ar2, ho, hzz, -, -⟩ := HF2.out.arr; have HOB2 := Lib.hid ho; have HFT2 : Hid (off + j * 16 + 16 ≤ ar2.size) := (by show _ ≤ _; rw [hzz]; exact HF2.out.fit); clear hob hg hq ho hzz; have hcell1 := HF2.out.cell (j := 1) rfl))
      obtain ⟨U1, hu1, hu2, hu3⟩ := HF2.out.row (j := 1) rfl rfl
      refine ((markStringS_all v1) _ _ (m + 1) U1 _ (by omega) hu1 hu2 (by omega)).mono ?_; rintro e w3 ⟨rfl, how, hch⟩
      have HF3 := Lib.hid (hu3 w3 _ how hch)
      clear how hch hu1 hu2 hu3 hcell1
      obtain ⟨ar3, ho, hzz, -, -⟩ := HF3.out.arr
      have HOB3 := Lib.hid ho
      have HFT3 : Hid (off + j * 16 + 16 ≤ ar3.size) := by show _ ≤ _; rw [hzz]; exact HF3.out.fit
      clear ho hzz
      have hcell2 := HF3.out.cell (j := 2) rfl
      go_wp2_with fail
      obtain ⟨U2, hu1, hu2, hu3⟩ := HF3.out.row (j := 2) rfl rfl
      refine ((markBoundS_all v2) _ _ ((m + 1) + Tr.cntE (strTrs v1)) U2 _ (by omega) hu1 hu2 (by omega)).mono ?_; rintro e w4 ⟨rfl, how, hch⟩
      have HF4 := Lib.hid (hu3 w4 _ how hch)
      clear how hch hu1 hu2 hu3 hcell2
      obtain ⟨ar4, ho, hzz, -, -⟩ := HF4.out.arr
      have HOB4 := Lib.hid ho
      have HFT4 : Hid (off + j * 16 + 16 ≤ ar4.size) := by show _ ≤ _; rw [hzz]; exact HF4.out.fit
      clear ho hzz
      have hcell3 := HF4.out.cell (j := 3) rfl
      go_wp2_with fail
      obtain ⟨U3, hu1, hu2, hu3⟩ := HF4.out.row (j := 3) rfl rfl
      refine ((markParamS_all v3) _ _ (((m + 1) + Tr.cntE (strTrs v1)) + Tr.cntE (GBound.trs v2)) U3 _ (by omega) hu1 hu2 (by omega)).mono ?_; rintro e w5 ⟨rfl, how, hch⟩
      have HF5 := Lib.hid (hu3 w5 _ how hch)
      clear how hch hu1 hu2 hu3 hcell3
      obtain ⟨ar5, ho, hzz, -, -⟩ := HF5.out.arr
      have HOB5 := Lib.hid ho
      have HFT5 : Hid (off + j * 16 + 16 ≤ ar5.size) := by show _ ≤ _; rw [hzz]; exact HF5.out.fit
      clear ho hzz
      go_wp2_with (first
        | (refine wpList_store_cell rfl 3 (.tmp 46) (.tmp 43) rfl b (off + j * 16 + 4) rfl (.int .i64 ((((((m + 1) + Tr.cntE (strTrs v1)) + Tr.cntE (GBound.trs v2)) + Tr.cntE (GParam.trs v3)) : Nat) : Int)) (by first | rfl | (simp only [Nat.cast_add, Nat.cast_one] <;> rfl)) rfl E0 ar5 HOB5.out isz3 (by have := HFT5.out; omega) rfl ?_; intro w6 hob hg hq; have HF6 := Lib.hid (HF5.out.leaf (j := 4) rfl (v := .int .i64 ((((((m + 1) + Tr.cntE (strTrs v1)) + Tr.cntE (GBound.trs v2)) + Tr.cntE (GParam.trs v3)) : Nat) : Int)) (WalkArith.wf_i64 (by omega)) HOB5.out hob hg); obtain ⟨ar6, ho, hzz, -, -⟩ := HF6.out.arr; have HOB6 := Lib.hid ho; have HFT6 : Hid (off + j * 16 + 16 ≤ ar6.size) := (by show _ ≤ _; rw [hzz]; exact HF6.out.fit); clear hob hg hq ho hzz))
      refine (markText_any _ (((((m + 1) + Tr.cntE (strTrs v1)) + Tr.cntE (GBound.trs v2)) + Tr.cntE (GParam.trs v3)) + 1) _ (by omega) (by omega)).mono ?_; rintro e w7 ⟨rfl, hw⟩
      have HF7 := Lib.hid (HF6.out.ext hw)
      obtain ⟨ar7, ho, hzz, -, -⟩ := HF7.out.arr
      have HOB7 := Lib.hid ho
      have HFT7 : Hid (off + j * 16 + 16 ≤ ar7.size) := by show _ ≤ _; rw [hzz]; exact HF7.out.fit
      clear hw ho hzz
      go_wp2_with (first
        | (refine wpList_store_cell rfl 9 (.tmp 55) (.tmp 52) rfl b (off + j * 16 + 5) rfl (.string (mtext (((((m + 1) + Tr.cntE (strTrs v1)) + Tr.cntE (GBound.trs v2)) + Tr.cntE (GParam.trs v3)) + 1))) rfl rfl E0 ar7 HOB7.out isz9 (by have := HFT7.out; omega) rfl ?_; intro w8 hob hg hq; have HF8 := Lib.hid (HF7.out.leaf (j := 5) rfl (v := .string (mtext (((((m + 1) + Tr.cntE (strTrs v1)) + Tr.cntE (GBound.trs v2)) + Tr.cntE (GParam.trs v3)) + 1))) (by have := mtext_size (((((m + 1) + Tr.cntE (strTrs v1)) + Tr.cntE (GBound.trs v2)) + Tr.cntE (GParam.trs v3)) + 1) (by omega); show _ ≤ maxLen; unfold maxLen; omega) HOB7.out hob hg); obtain ⟨ar8, ho, hzz, -, -⟩ := HF8.out.arr; have HOB8 := Lib.hid ho; have HFT8 : Hid (off + j * 16 + 16 ≤ ar8.size) := (by show _ ≤ _; rw [hzz]; exact HF8.out.fit); clear hob hg hq ho hzz; have hcell6 := HF8.out.cell (j := 6) rfl))
      obtain ⟨U6, hu1, hu2, hu3⟩ := HF8.out.row (j := 6) rfl rfl
      refine ((markTypeS_all v4_2) _ _ ((((((m + 1) + Tr.cntE (strTrs v1)) + Tr.cntE (GBound.trs v2)) + Tr.cntE (GParam.trs v3)) + 1) + 1) U6 _ (by omega) hu1 hu2 (by omega)).mono ?_; rintro e w9 ⟨rfl, how, hch⟩
      have HF9 := Lib.hid (hu3 w9 _ how hch)
      clear how hch hu1 hu2 hu3 hcell6
      obtain ⟨ar9, ho, hzz, -, -⟩ := HF9.out.arr
      have HOB9 := Lib.hid ho
      have HFT9 : Hid (off + j * 16 + 16 ≤ ar9.size) := by show _ ≤ _; rw [hzz]; exact HF9.out.fit
      clear ho hzz
      go_wp2_with (first
        | (refine wpList_store_cell rfl 3 (.tmp 71) (.tmp 68) rfl b (off + j * 16 + 7) rfl (.int .i64 (((((((((m + 1) + Tr.cntE (strTrs v1)) + Tr.cntE (GBound.trs v2)) + Tr.cntE (GParam.trs v3)) + 1) + 1) + Tr.cntE (GType.trs v4_2)) : Nat) : Int)) (by first | rfl | (simp only [Nat.cast_add, Nat.cast_one] <;> rfl)) rfl E0 ar9 HOB9.out isz3 (by have := HFT9.out; omega) rfl ?_; intro w10 hob hg hq; have HF10 := Lib.hid (HF9.out.leaf (j := 7) rfl (v := .int .i64 (((((((((m + 1) + Tr.cntE (strTrs v1)) + Tr.cntE (GBound.trs v2)) + Tr.cntE (GParam.trs v3)) + 1) + 1) + Tr.cntE (GType.trs v4_2)) : Nat) : Int)) (WalkArith.wf_i64 (by omega)) HOB9.out hob hg); obtain ⟨ar10, ho, hzz, -, -⟩ := HF10.out.arr; have HOB10 := Lib.hid ho; have HFT10 : Hid (off + j * 16 + 16 ≤ ar10.size) := (by show _ ≤ _; rw [hzz]; exact HF10.out.fit); clear hob hg hq ho hzz))
      refine (markText_any _ ((((((((m + 1) + Tr.cntE (strTrs v1)) + Tr.cntE (GBound.trs v2)) + Tr.cntE (GParam.trs v3)) + 1) + 1) + Tr.cntE (GType.trs v4_2)) + 1) _ (by omega) (by omega)).mono ?_; rintro e w11 ⟨rfl, hw⟩
      have HF11 := Lib.hid (HF10.out.ext hw)
      obtain ⟨ar11, ho, hzz, -, -⟩ := HF11.out.arr
      have HOB11 := Lib.hid ho
      have HFT11 : Hid (off + j * 16 + 16 ≤ ar11.size) := by show _ ≤ _; rw [hzz]; exact HF11.out.fit
      clear hw ho hzz
      go_wp2_with (first
        | (refine wpList_store_cell rfl 9 (.tmp 80) (.tmp 77) rfl b (off + j * 16 + 8) rfl (.string (mtext ((((((((m + 1) + Tr.cntE (strTrs v1)) + Tr.cntE (GBound.trs v2)) + Tr.cntE (GParam.trs v3)) + 1) + 1) + Tr.cntE (GType.trs v4_2)) + 1))) rfl rfl E0 ar11 HOB11.out isz9 (by have := HFT11.out; omega) rfl ?_; intro w12 hob hg hq; have HF12 := Lib.hid (HF11.out.leaf (j := 8) rfl (v := .string (mtext ((((((((m + 1) + Tr.cntE (strTrs v1)) + Tr.cntE (GBound.trs v2)) + Tr.cntE (GParam.trs v3)) + 1) + 1) + Tr.cntE (GType.trs v4_2)) + 1))) (by have := mtext_size ((((((((m + 1) + Tr.cntE (strTrs v1)) + Tr.cntE (GBound.trs v2)) + Tr.cntE (GParam.trs v3)) + 1) + 1) + Tr.cntE (GType.trs v4_2)) + 1) (by omega); show _ ≤ maxLen; unfold maxLen; omega) HOB11.out hob hg); obtain ⟨ar12, ho, hzz, -, -⟩ := HF12.out.arr; have HOB12 := Lib.hid ho; have HFT12 : Hid (off + j * 16 + 16 ≤ ar12.size) := (by show _ ≤ _; rw [hzz]; exact HF12.out.fit); clear hob hg hq ho hzz))
      refine (markText_any _ (((((((((m + 1) + Tr.cntE (strTrs v1)) + Tr.cntE (GBound.trs v2)) + Tr.cntE (GParam.trs v3)) + 1) + 1) + Tr.cntE (GType.trs v4_2)) + 1) + 1) _ (by omega) (by omega)).mono ?_; rintro e w13 ⟨rfl, hw⟩
      have HF13 := Lib.hid (HF12.out.ext hw)
      obtain ⟨ar13, ho, hzz, -, -⟩ := HF13.out.arr
      have HOB13 := Lib.hid ho
      have HFT13 : Hid (off + j * 16 + 16 ≤ ar13.size) := by show _ ≤ _; rw [hzz]; exact HF13.out.fit
      clear hw ho hzz
      go_wp2_with (first
        | (refine wpList_store_cell rfl 9 (.tmp 89) (.tmp 86) rfl b (off + j * 16 + 9) rfl (.string (mtext (((((((((m + 1) + Tr.cntE (strTrs v1)) + Tr.cntE (GBound.trs v2)) + Tr.cntE (GParam.trs v3)) + 1) + 1) + Tr.cntE (GType.trs v4_2)) + 1) + 1))) rfl rfl E0 ar13 HOB13.out isz9 (by have := HFT13.out; omega) rfl ?_; intro w14 hob hg hq; have HF14 := Lib.hid (HF13.out.leaf (j := 9) rfl (v := .string (mtext (((((((((m + 1) + Tr.cntE (strTrs v1)) + Tr.cntE (GBound.trs v2)) + Tr.cntE (GParam.trs v3)) + 1) + 1) + Tr.cntE (GType.trs v4_2)) + 1) + 1))) (by have := mtext_size (((((((((m + 1) + Tr.cntE (strTrs v1)) + Tr.cntE (GBound.trs v2)) + Tr.cntE (GParam.trs v3)) + 1) + 1) + Tr.cntE (GType.trs v4_2)) + 1) + 1) (by omega); show _ ≤ maxLen; unfold maxLen; omega) HOB13.out hob hg); obtain ⟨ar14, ho, hzz, -, -⟩ := HF14.out.arr; have HOB14 := Lib.hid ho; have HFT14 : Hid (off + j * 16 + 16 ≤ ar14.size) := (by show _ ≤ _; rw [hzz]; exact HF14.out.fit); clear hob hg hq ho hzz)
        | (refine wpList_store_cell rfl 3 (.tmp 97) (.tmp 94) rfl b (off + j * 16 + 10) rfl (.int .i64 ((((((((((((m + 1) + Tr.cntE (strTrs v1)) + Tr.cntE (GBound.trs v2)) + Tr.cntE (GParam.trs v3)) + 1) + 1) + Tr.cntE (GType.trs v4_2)) + 1) + 1) + 1) : Nat) : Int)) (by first | rfl | (simp only [Nat.cast_add, Nat.cast_one] <;> rfl)) rfl E0 ar14 HOB14.out isz3 (by have := HFT14.out; omega) rfl ?_; intro w15 hob hg hq; have HF15 := Lib.hid (HF14.out.leaf (j := 10) rfl (v := .int .i64 ((((((((((((m + 1) + Tr.cntE (strTrs v1)) + Tr.cntE (GBound.trs v2)) + Tr.cntE (GParam.trs v3)) + 1) + 1) + Tr.cntE (GType.trs v4_2)) + 1) + 1) + 1) : Nat) : Int)) (WalkArith.wf_i64 (by omega)) HOB14.out hob hg); obtain ⟨ar15, ho, hzz, -, -⟩ := HF15.out.arr; have HOB15 := Lib.hid ho; have HFT15 : Hid (off + j * 16 + 16 ≤ ar15.size) := (by show _ ≤ _; rw [hzz]; exact HF15.out.fit); clear hob hg hq ho hzz)
        | (refine wpList_store_cell rfl 3 (.tmp 106) (.tmp 102) rfl b (off + j * 16 + 11) rfl (.int .i64 (((((((((((((m + 1) + Tr.cntE (strTrs v1)) + Tr.cntE (GBound.trs v2)) + Tr.cntE (GParam.trs v3)) + 1) + 1) + Tr.cntE (GType.trs v4_2)) + 1) + 1) + 1) + 1) : Nat) : Int)) (by first | rfl | (simp only [Nat.cast_add, Nat.cast_one] <;> rfl)) rfl E0 ar15 HOB15.out isz3 (by have := HFT15.out; omega) rfl ?_; intro w16 hob hg hq; have HF16 := Lib.hid (HF15.out.leaf (j := 11) rfl (v := .int .i64 (((((((((((((m + 1) + Tr.cntE (strTrs v1)) + Tr.cntE (GBound.trs v2)) + Tr.cntE (GParam.trs v3)) + 1) + 1) + Tr.cntE (GType.trs v4_2)) + 1) + 1) + 1) + 1) : Nat) : Int)) (WalkArith.wf_i64 (by omega)) HOB15.out hob hg); obtain ⟨ar16, ho, hzz, -, -⟩ := HF16.out.arr; have HOB16 := Lib.hid ho; have HFT16 : Hid (off + j * 16 + 16 ≤ ar16.size) := (by show _ ≤ _; rw [hzz]; exact HF16.out.fit); clear hob hg hq ho hzz))
      refine (markText_any _ ((((((((((((m + 1) + Tr.cntE (strTrs v1)) + Tr.cntE (GBound.trs v2)) + Tr.cntE (GParam.trs v3)) + 1) + 1) + Tr.cntE (GType.trs v4_2)) + 1) + 1) + 1) + 1) + 1) _ (by omega) (by omega)).mono ?_; rintro e w17 ⟨rfl, hw⟩
      have HF17 := Lib.hid (HF16.out.ext hw)
      obtain ⟨ar17, ho, hzz, -, -⟩ := HF17.out.arr
      have HOB17 := Lib.hid ho
      have HFT17 : Hid (off + j * 16 + 16 ≤ ar17.size) := by show _ ≤ _; rw [hzz]; exact HF17.out.fit
      clear hw ho hzz
      go_wp2_with (first
        | (refine wpList_store_cell rfl 9 (.tmp 116) (.tmp 112) rfl b (off + j * 16 + 12) rfl (.string (mtext ((((((((((((m + 1) + Tr.cntE (strTrs v1)) + Tr.cntE (GBound.trs v2)) + Tr.cntE (GParam.trs v3)) + 1) + 1) + Tr.cntE (GType.trs v4_2)) + 1) + 1) + 1) + 1) + 1))) rfl rfl E0 ar17 HOB17.out isz9 (by have := HFT17.out; omega) rfl ?_; intro w18 hob hg hq; have HF18 := Lib.hid (HF17.out.leaf (j := 12) rfl (v := .string (mtext ((((((((((((m + 1) + Tr.cntE (strTrs v1)) + Tr.cntE (GBound.trs v2)) + Tr.cntE (GParam.trs v3)) + 1) + 1) + Tr.cntE (GType.trs v4_2)) + 1) + 1) + 1) + 1) + 1))) (by have := mtext_size ((((((((((((m + 1) + Tr.cntE (strTrs v1)) + Tr.cntE (GBound.trs v2)) + Tr.cntE (GParam.trs v3)) + 1) + 1) + Tr.cntE (GType.trs v4_2)) + 1) + 1) + 1) + 1) + 1) (by omega); show _ ≤ maxLen; unfold maxLen; omega) HOB17.out hob hg); obtain ⟨ar18, ho, hzz, -, -⟩ := HF18.out.arr; have HOB18 := Lib.hid ho; have HFT18 : Hid (off + j * 16 + 16 ≤ ar18.size) := (by show _ ≤ _; rw [hzz]; exact HF18.out.fit); clear hob hg hq ho hzz; have hcell13 := HF18.out.cell (j := 13) rfl))
      obtain ⟨U13, hu1, hu2, hu3⟩ := HF18.out.row (j := 13) rfl rfl
      refine ((markTypeS_all v5_4_2) _ _ (((((((((((((m + 1) + Tr.cntE (strTrs v1)) + Tr.cntE (GBound.trs v2)) + Tr.cntE (GParam.trs v3)) + 1) + 1) + Tr.cntE (GType.trs v4_2)) + 1) + 1) + 1) + 1) + 1) + 1) U13 _ (by omega) hu1 hu2 (by omega)).mono ?_; rintro e w19 ⟨rfl, how, hch⟩
      have HF19 := Lib.hid (hu3 w19 _ how hch)
      clear how hch hu1 hu2 hu3 hcell13
      obtain ⟨ar19, ho, hzz, -, -⟩ := HF19.out.arr
      have HOB19 := Lib.hid ho
      have HFT19 : Hid (off + j * 16 + 16 ≤ ar19.size) := by show _ ≤ _; rw [hzz]; exact HF19.out.fit
      clear ho hzz
      have hcell14 := HF19.out.cell (j := 14) rfl
      go_wp2_with fail
      obtain ⟨U14, hu1, hu2, hu3⟩ := HF19.out.row (j := 14) rfl rfl
      refine ((markExprS_all v5_5) _ _ ((((((((((((((m + 1) + Tr.cntE (strTrs v1)) + Tr.cntE (GBound.trs v2)) + Tr.cntE (GParam.trs v3)) + 1) + 1) + Tr.cntE (GType.trs v4_2)) + 1) + 1) + 1) + 1) + 1) + 1) + Tr.cntE (GType.trs v5_4_2)) U14 _ (by omega) hu1 hu2 (by omega)).mono ?_; rintro e w20 ⟨rfl, how, hch⟩
      have HF20 := Lib.hid (hu3 w20 _ how hch)
      clear how hch hu1 hu2 hu3 hcell14
      obtain ⟨ar20, ho, hzz, -, -⟩ := HF20.out.arr
      have HOB20 := Lib.hid ho
      have HFT20 : Hid (off + j * 16 + 16 ≤ ar20.size) := by show _ ≤ _; rw [hzz]; exact HF20.out.fit
      clear ho hzz
      have hcell15 := HF20.out.cell (j := 15) rfl
      go_wp2_with fail
      obtain ⟨U15, hu1, hu2, hu3⟩ := HF20.out.row (j := 15) rfl rfl
      refine ((markArmS_all v5_6) _ _ (((((((((((((((m + 1) + Tr.cntE (strTrs v1)) + Tr.cntE (GBound.trs v2)) + Tr.cntE (GParam.trs v3)) + 1) + 1) + Tr.cntE (GType.trs v4_2)) + 1) + 1) + 1) + 1) + 1) + 1) + Tr.cntE (GType.trs v5_4_2)) + Tr.cntE (GExpr.trs v5_5)) U15 _ (by omega) hu1 hu2 (by omega)).mono ?_; rintro e w21 ⟨rfl, how, hch⟩
      have HF21 := Lib.hid (hu3 w21 _ how hch)
      clear how hch hu1 hu2 hu3 hcell15
      go_wp2_with fail
      go_roundw
      case rel =>
        obtain ⟨hown2, hchg2⟩ := HBK.out _ _ _ rfl HF21.out
        refine ⟨j + 1, ((((((((((((((((m + 1) + Tr.cntE (strTrs v1)) + Tr.cntE (GBound.trs v2)) + Tr.cntE (GParam.trs v3)) + 1) + 1) + Tr.cntE (GType.trs v4_2)) + 1) + 1) + 1) + 1) + 1) + 1) + Tr.cntE (GType.trs v5_4_2)) + Tr.cntE (GExpr.trs v5_5)) + Tr.cntE (GArm.trs v5_6)), by omega, by go_num, by first | rfl | go_num, by have h1 := HTK.out; have h2 := HM1.out; show _ = _; omega, ?_, HC1.out.trans hchg2⟩
        show Own _ _ _ _
        rw [← HMS.out]
        exact hown2
      case measure => simp [intOf]; omega
    · have hkl : j = (GFunction.trs l).length := by rw [GFunction.trs_len]; omega
      go_wp2_with fail
      go_ret
      have ho := HO1.out
      rw [hkl, Tr.mid_end] at ho
      have hm1 := HM1.out
      rw [hkl, List.take_length] at hm1
      subst hm1
      exact ⟨rfl, ho, HC1.out⟩
theorem markFunctionS_all (l : List GFunction) : MarkSC 155 16 (GFunction.trs l) := markFunctionS_of l

set_option maxRecDepth 100000 in
set_option maxHeartbeats 2000000 in
theorem markPackageS_of (l : List GPackage)  : MarkSC 93 6 (GPackage.trs l) := by
  intro s kz k S w hz hown hS hbd
  subst hz
  obtain ⟨a, cap, rfl, hl, hm⟩ := hown.rep.shape
  rw [GPackage.trs_len] at *
  unfold maxLen at hm
  have HO := Lib.hid hown
  have HSS := Lib.hid hS
  clear hown hS
  go_enter Tryz.func93, Tryz.ntmps93
  go_wp2_with fail
  go_loopw [1, 5] (fun kv i wr => ∃ j m : Nat, j ≤ l.length ∧ i = .int .i64 j ∧ kv = .int .i64 (m : Int) ∧ Hid (m = k + Tr.cntE ((GPackage.trs l).take j)) ∧ Hid (Own wr (.row 6 (Tr.mid (GPackage.trs l) k j)) (.slice a l.length cap) S) ∧ Hid (Chg S w wr)) (fun _ i _ => l.length - (intOf i).toNat)
  case atStart => exact ⟨0, k, Nat.zero_le _, rfl, rfl, by show _ = _; simp [Tr.cntE], by show Own _ _ _ _; rw [Tr.mid_zero]; exact HO.out, Chg.refl _ _⟩
  case round =>
    obtain ⟨j, m, hj, rfl, rfl, HM1, HO1, HC1⟩ := hrel
    by_cases hlt : j < l.length
    · have hlt2 : j < (GPackage.trs l).length := by rw [GPackage.trs_len]; exact hlt
      have hge : (GPackage.trs l)[j] = (l[j]).tr := by have h1 := GPackage.trs_get hlt; rw [List.getElem?_eq_getElem hlt2] at h1; exact Option.some.inj h1
      have hcl := Tr.cntE_le hlt2
      have hms := Tr.mid_set (k := k) hlt2
      have hmg := Tr.mid_get (k := k) hlt2
      have htk : Tr.cntE ((GPackage.trs l).take (j + 1)) = Tr.cntE ((GPackage.trs l).take j) + Tr.cntL (GPackage.trs l)[j] := Tr.cntE_take _ j hlt2
      rw [hge] at hcl hms hmg htk
      have hm1 := HM1.out
      rw [← hm1] at hms
      generalize l[j] = x at *
      obtain ⟨v0, v1, v2, v3, v4, v5⟩ := x
      have htr : GPackage.tr (.mk v0 v1 v2 v3 v4 v5) = [.leaf (.string v0), .row 1 (strTrs v1), .row 5 (GTrait.trs v2), .row 3 (GDataType.trs v3), .row 12 (GInstance.trs v4), .row 16 (GFunction.trs v5)] := by simp [GPackage.tr]
      rw [htr] at hcl hms hmg htk
      have hcw : Tr.cntL [.leaf (.string v0), .row 1 (strTrs v1), .row 5 (GTrait.trs v2), .row 3 (GDataType.trs v3), .row 12 (GInstance.trs v4), .row 16 (GFunction.trs v5)] = 1 + Tr.cntE (strTrs v1) + Tr.cntE (GTrait.trs v2) + Tr.cntE (GDataType.trs v3) + Tr.cntE (GInstance.trs v4) + Tr.cntE (GFunction.trs v5) := by simp only [Tr.cntL, Tr.cnt] <;> omega
      obtain ⟨b, off, E0, arr0, cs0, T, rfl, hfoc, hrep, hback⟩ := HO1.out.take hmg (Tr.mid_sz (GPackage.sz l)) (by omega) (fun x hx => Nat.lt_of_lt_of_le (HSS.out x hx) HC1.out.size)
      obtain ⟨d0, d1, d2, d3, d4, d5, rfl⟩ := list6 hfoc.len
      obtain ⟨rfl, -⟩ := (hrep.1).leaf_eq
      obtain ⟨sa1, sc1, rfl, -, -⟩ := (hrep.2.1).shape
      obtain ⟨sa2, sc2, rfl, -, -⟩ := (hrep.2.2.1).shape
      obtain ⟨sa3, sc3, rfl, -, -⟩ := (hrep.2.2.2.1).shape
      obtain ⟨sa4, sc4, rfl, -, -⟩ := (hrep.2.2.2.2.1).shape
      obtain ⟨sa5, sc5, rfl, -, -⟩ := (hrep.2.2.2.2.2.1).shape
      have HF0 := Lib.hid hfoc
      have HBK := Lib.hid hback
      obtain ⟨arr1, hob1, hsz1, -, -⟩ := hfoc.arr
      have HOB0 := Lib.hid hob1
      have HFIT : Hid (off + j * 6 + 6 ≤ arr1.size) := by show _ ≤ _; rw [hsz1]; exact hfoc.fit
      have hmb : m + (1 + Tr.cntE (strTrs v1) + Tr.cntE (GTrait.trs v2) + Tr.cntE (GDataType.trs v3) + Tr.cntE (GInstance.trs v4) + Tr.cntE (GFunction.trs v5)) ≤ 1152921504606846976 := by rw [← hcw]; omega
      rw [hcw] at htk
      have HMS := Lib.hid hms
      have HTK := Lib.hid htk
      have hlo : (0 : Int) ≤ (j : Int) := by omega
      clear hfoc hrep hback hob1 hsz1 hms hmg htk hge hcl hcw hm1 htr
      go_wp2_with fail
      refine (markText_any _ m _ (by omega) (by omega)).mono ?_; rintro e w1 ⟨rfl, hw⟩
      have HF1 := Lib.hid (HF0.out.ext hw)
      obtain ⟨ar1, ho, hzz, -, -⟩ := HF1.out.arr
      have HOB1 := Lib.hid ho
      have HFT1 : Hid (off + j * 6 + 6 ≤ ar1.size) := by show _ ≤ _; rw [hzz]; exact HF1.out.fit
      clear hw ho hzz
      go_wp2_with (first
        | (refine wpList_store_cell rfl 9 (.tmp 17) (.tmp 15) rfl b (off + j * 6 + 0) rfl (.string (mtext m)) rfl rfl E0 ar1 HOB1.out isz9 (by have := HFT1.out; omega) rfl ?_; intro w2 hob hg hq; have HF2 := Lib.hid (HF1.out.leaf (j := 0) rfl (v := .string (mtext m)) (by have := mtext_size m (by omega); show _ ≤ maxLen; unfold maxLen; omega) HOB1.out hob hg); obtain ⟨ar2, ho, hzz, -, -⟩ := HF2.out.arr; have HOB2 := Lib.hid ho; have HFT2 : Hid (off + j * 6 + 6 ≤ ar2.size) := (by show _ ≤ _; rw [hzz]; exact HF2.out.fit); clear hob hg hq ho hzz; have hcell1 := HF2.out.cell (j := 1) rfl))
      obtain ⟨U1, hu1, hu2, hu3⟩ := HF2.out.row (j := 1) rfl rfl
      refine ((markStringS_all v1) _ _ (m + 1) U1 _ (by omega) hu1 hu2 (by omega)).mono ?_; rintro e w3 ⟨rfl, how, hch⟩
      have HF3 := Lib.hid (hu3 w3 _ how hch)
      clear how hch hu1 hu2 hu3 hcell1
      obtain ⟨ar3, ho, hzz, -, -⟩ := HF3.out.arr
      have HOB3 := Lib.hid ho
      have HFT3 : Hid (off + j * 6 + 6 ≤ ar3.size) := by show _ ≤ _; rw [hzz]; exact HF3.out.fit
      clear ho hzz
      have hcell2 := HF3.out.cell (j := 2) rfl
      go_wp2_with fail
      obtain ⟨U2, hu1, hu2, hu3⟩ := HF3.out.row (j := 2) rfl rfl
      refine ((markTraitS_all v2) _ _ ((m + 1) + Tr.cntE (strTrs v1)) U2 _ (by omega) hu1 hu2 (by omega)).mono ?_; rintro e w4 ⟨rfl, how, hch⟩
      have HF4 := Lib.hid (hu3 w4 _ how hch)
      clear how hch hu1 hu2 hu3 hcell2
      obtain ⟨ar4, ho, hzz, -, -⟩ := HF4.out.arr
      have HOB4 := Lib.hid ho
      have HFT4 : Hid (off + j * 6 + 6 ≤ ar4.size) := by show _ ≤ _; rw [hzz]; exact HF4.out.fit
      clear ho hzz
      have hcell3 := HF4.out.cell (j := 3) rfl
      go_wp2_with fail
      obtain ⟨U3, hu1, hu2, hu3⟩ := HF4.out.row (j := 3) rfl rfl
      refine ((markDataTypeS_all v3) _ _ (((m + 1) + Tr.cntE (strTrs v1)) + Tr.cntE (GTrait.trs v2)) U3 _ (by omega) hu1 hu2 (by omega)).mono ?_; rintro e w5 ⟨rfl, how, hch⟩
      have HF5 := Lib.hid (hu3 w5 _ how hch)
      clear how hch hu1 hu2 hu3 hcell3
      obtain ⟨ar5, ho, hzz, -, -⟩ := HF5.out.arr
      have HOB5 := Lib.hid ho
      have HFT5 : Hid (off + j * 6 + 6 ≤ ar5.size) := by show _ ≤ _; rw [hzz]; exact HF5.out.fit
      clear ho hzz
      have hcell4 := HF5.out.cell (j := 4) rfl
      go_wp2_with fail
      obtain ⟨U4, hu1, hu2, hu3⟩ := HF5.out.row (j := 4) rfl rfl
      refine ((markInstanceS_all v4) _ _ ((((m + 1) + Tr.cntE (strTrs v1)) + Tr.cntE (GTrait.trs v2)) + Tr.cntE (GDataType.trs v3)) U4 _ (by omega) hu1 hu2 (by omega)).mono ?_; rintro e w6 ⟨rfl, how, hch⟩
      have HF6 := Lib.hid (hu3 w6 _ how hch)
      clear how hch hu1 hu2 hu3 hcell4
      obtain ⟨ar6, ho, hzz, -, -⟩ := HF6.out.arr
      have HOB6 := Lib.hid ho
      have HFT6 : Hid (off + j * 6 + 6 ≤ ar6.size) := by show _ ≤ _; rw [hzz]; exact HF6.out.fit
      clear ho hzz
      have hcell5 := HF6.out.cell (j := 5) rfl
      go_wp2_with fail
      obtain ⟨U5, hu1, hu2, hu3⟩ := HF6.out.row (j := 5) rfl rfl
      refine ((markFunctionS_all v5) _ _ (((((m + 1) + Tr.cntE (strTrs v1)) + Tr.cntE (GTrait.trs v2)) + Tr.cntE (GDataType.trs v3)) + Tr.cntE (GInstance.trs v4)) U5 _ (by omega) hu1 hu2 (by omega)).mono ?_; rintro e w7 ⟨rfl, how, hch⟩
      have HF7 := Lib.hid (hu3 w7 _ how hch)
      clear how hch hu1 hu2 hu3 hcell5
      go_wp2_with fail
      go_roundw
      case rel =>
        obtain ⟨hown2, hchg2⟩ := HBK.out _ _ _ rfl HF7.out
        refine ⟨j + 1, ((((((m + 1) + Tr.cntE (strTrs v1)) + Tr.cntE (GTrait.trs v2)) + Tr.cntE (GDataType.trs v3)) + Tr.cntE (GInstance.trs v4)) + Tr.cntE (GFunction.trs v5)), by omega, by go_num, by first | rfl | go_num, by have h1 := HTK.out; have h2 := HM1.out; show _ = _; omega, ?_, HC1.out.trans hchg2⟩
        show Own _ _ _ _
        rw [← HMS.out]
        exact hown2
      case measure => simp [intOf]; omega
    · have hkl : j = (GPackage.trs l).length := by rw [GPackage.trs_len]; omega
      go_wp2_with fail
      go_ret
      have ho := HO1.out
      rw [hkl, Tr.mid_end] at ho
      have hm1 := HM1.out
      rw [hkl, List.take_length] at hm1
      subst hm1
      exact ⟨rfl, ho, HC1.out⟩
theorem markPackageS_all (l : List GPackage) : MarkSC 93 6 (GPackage.trs l) := markPackageS_of l

set_option maxRecDepth 100000 in
set_option maxHeartbeats 2000000 in
theorem markType_all (x : GType) : MarkC 48 x.tr := by
  obtain ⟨v0, v1, v2⟩ := x
  have htr : GType.tr (.mk v0 v1 v2) = [.leaf (.int .i64 v0), .leaf (.string v1), .row 3 (GType.trs v2)] := by simp [GType.tr]
  rw [htr]
  clear htr
  intro cs kz k S w hz ho hS hbd
  subst hz
  simp only [Tr.topN, Tr.topL, Nat.add_zero] at *
  have hr := ho.rep
  obtain ⟨d0, d1, d2, rfl⟩ := list3 hr.length.symm
  obtain ⟨rfl, -⟩ := (hr.1).leaf_eq
  obtain ⟨rfl, -⟩ := (hr.2.1).leaf_eq
  have HR := Lib.hid (hr.2.2.1)
  obtain ⟨sa, sc, hd, -, -⟩ := HR.out.shape
  rw [GType.trs_len] at hd
  subst hd
  obtain ⟨U, hu1, hu2, hu3⟩ := ho.setRow (j := 2) rfl rfl
  have HU1 := Lib.hid hu1
  have HU2 := Lib.hid hu2
  have HU3 := Lib.hid hu3
  have HSS := Lib.hid hS
  clear ho hS hr hu1 hu2 hu3
  go_enter Tryz.func48, Tryz.ntmps48
  go_wp2_with fail
  refine (markTypeS_all v2 _ _ k U _ (by rfl) (HU1.out.ext (.alloc (.refl _) _)) (fun x hx => by have := HSS.out x (HU2.out x hx); simp only [World.size_alloc]; omega) (by omega)).mono ?_; rintro e w1 ⟨rfl, how, hch⟩
  have hown := HU3.out w1 _ how (fun x hx _ hn => (hch.block x (by simp only [World.size_alloc]; omega) hn).trans ((Ext.alloc (.refl w) _).block x hx))
  have hchg := (Chg.of_ext (.alloc (.refl w) _)).trans (hch.mono HU2.out)
  have HOWN := Lib.hid hown
  have HCHG := Lib.hid hchg
  clear how hch hown hchg
  go_wp2_with fail
  go_ret
  exact ⟨rfl, HOWN.out, HCHG.out⟩
-- markExpr: not served
-- markBound: not served
-- markTrait: not served
-- markFunction: not served

set_option maxRecDepth 100000 in
set_option maxHeartbeats 2000000 in
theorem markProgram_all (x : GProgram) : MarkC 30 x.tr := by
  obtain ⟨v0⟩ := x
  have htr : GProgram.tr (.mk v0) = [.row 6 (GPackage.trs v0)] := by simp [GProgram.tr]
  rw [htr]
  clear htr
  intro cs kz k S w hz ho hS hbd
  subst hz
  simp only [Tr.topN, Tr.topL, Nat.add_zero] at *
  have hr := ho.rep
  obtain ⟨d0, rfl⟩ := list1 hr.length.symm
  have HR := Lib.hid (hr.1)
  obtain ⟨sa, sc, hd, -, -⟩ := HR.out.shape
  rw [GPackage.trs_len] at hd
  subst hd
  obtain ⟨U, hu1, hu2, hu3⟩ := ho.setRow (j := 0) rfl rfl
  have HU1 := Lib.hid hu1
  have HU2 := Lib.hid hu2
  have HU3 := Lib.hid hu3
  have HSS := Lib.hid hS
  clear ho hS hr hu1 hu2 hu3
  go_enter Tryz.func30, Tryz.ntmps30
  go_wp2_with fail
  refine (markPackageS_all v0 _ _ k U _ (by rfl) (HU1.out.ext (.alloc (.refl _) _)) (fun x hx => by have := HSS.out x (HU2.out x hx); simp only [World.size_alloc]; omega) (by omega)).mono ?_; rintro e w1 ⟨rfl, how, hch⟩
  have hown := HU3.out w1 _ how (fun x hx _ hn => (hch.block x (by simp only [World.size_alloc]; omega) hn).trans ((Ext.alloc (.refl w) _).block x hx))
  have hchg := (Chg.of_ext (.alloc (.refl w) _)).trans (hch.mono HU2.out)
  have HOWN := Lib.hid hown
  have HCHG := Lib.hid hchg
  clear how hch hown hchg
  go_wp2_with fail
  go_ret
  exact ⟨rfl, HOWN.out, HCHG.out⟩

end Go.Proofs.YtnakkelglbcecaaGreat

namespace Go.Proofs.YtnakkelglbcecaaGreat
set_option linter.unusedSimpArgs false
set_option linter.unusedVariables false
open Go.RowKit

/-- Abstract values. -/
inductive PV where
  | t (t : Tr)
  | agg (cs : List PV)
  | tup (vs : List PV)
  | nil
  | acc (sz : Nat) (es : List (List Tr)) (r : Nat)
  | ptr (k off : Nat)
  | eptr (cs : List Tr)
  | fn (f : FuncId) (caps : List PV)
  | full (sz n r : Nat)
  | rptr (r i : Nat)

structure PBox where
  ty : TypeId
  cells : List PV
structure PRow where
  E : TypeId
  sz : Nat
  es : List (List Tr)
  whole : Bool
structure Sto where
  boxes : List (Option PBox)
  rows : List PRow
structure Lay where
  ρ : Nat → Nat
  γ : Nat → Option (Nat × Nat)

/-- No box lies at this place, and no row may still grow there. -/
def Sto.ok (st : Sto) (m : Lay) (b o : Nat) : Prop :=
  (∀ k x, st.boxes[k]? = some (some x) → m.ρ k ≠ b) ∧ (∀ r row g c, st.rows[r]? = some row → m.γ r = some (g, c) → g = b → o < row.es.length * row.sz)
def okA (av : Nat → Nat → Prop) (st : Sto) (m : Lay) (b o : Nat) : Prop := ¬ av b o ∧ st.ok m b o

inductive RepM (ok : Nat → Nat → Prop) (w : World) : Tr → Value → Prop
  | leaf {v : Value} : LeafOk v → RepM ok w (.leaf v) v
  | row {sz : Nat} {es : List (List Tr)} {a : Option Addr} {cap : Nat} (c : Nat → Nat → Value) : es.length ≤ cap → cap ≤ maxLen →
      (es ≠ [] → ∃ b off, a = some ⟨b, off, none⟩ ∧ b < w.heap.size ∧ ∀ i e, es[i]? = some e → ∀ j d, e[j]? = some d → ok b (off + i * sz + j) ∧ w.cell? ⟨b, off + i * sz + j, none⟩ = some (c i j)) →
      (∀ i e, es[i]? = some e → ∀ j d, e[j]? = some d → RepM ok w d (c i j)) → RepM ok w (.row sz es) (.slice a es.length cap)

theorem RepM.mono {ok ok' : Nat → Nat → Prop} {w w' : World} {t : Tr} {v : Value} (h : RepM ok w t v) (hz : w.heap.size ≤ w'.heap.size) (hk : ∀ b o, b < w.heap.size → ok b o → ok' b o)
    (hc : ∀ b o, b < w.heap.size → ok b o → w'.cell? ⟨b, o, none⟩ = w.cell? ⟨b, o, none⟩) : RepM ok' w' t v := by
  induction h with
  | leaf h => exact .leaf h
  | row c h1 h2 h3 _ ih =>
    refine .row c h1 h2 (fun hne => ?_) ih
    obtain ⟨b, off, ha, hb, h4⟩ := h3 hne
    exact ⟨b, off, ha, Nat.lt_of_lt_of_le hb hz, fun i e he j d hd => ⟨hk _ _ hb (h4 i e he j d hd).1, (hc _ _ hb (h4 i e he j d hd).1).trans (h4 i e he j d hd).2⟩⟩
theorem RepM.rep {ok : Nat → Nat → Prop} {w : World} {t : Tr} {v : Value} (h : RepM ok w t v) : Rep w t v := by
  induction h with
  | leaf h => exact .leaf h
  | row c h1 h2 h3 _ ih =>
    refine .row c h1 h2 (fun hne => ?_) ih
    obtain ⟨b, off, ha, hb, h4⟩ := h3 hne
    exact ⟨b, off, ha, hb, fun i e he j d hd => (h4 i e he j d hd).2⟩
theorem Rep.repM {ok : Nat → Nat → Prop} {w : World} {t : Tr} {v : Value} (h : Rep w t v) (hk : ∀ b o, b < w.heap.size → ok b o) : RepM ok w t v := by
  induction h with
  | leaf h => exact .leaf h
  | row c h1 h2 h3 _ ih =>
    refine .row c h1 h2 (fun hne => ?_) ih
    obtain ⟨b, off, ha, hb, h4⟩ := h3 hne
    exact ⟨b, off, ha, hb, fun i e he j d hd => ⟨hk _ _ hb, h4 i e he j d hd⟩⟩
theorem RepM.shape {ok : Nat → Nat → Prop} {w : World} {sz : Nat} {es : List (List Tr)} {v : Value} (h : RepM ok w (.row sz es) v) : ∃ a cap, v = .slice a es.length cap ∧ es.length ≤ cap ∧ cap ≤ maxLen := h.rep.shape
theorem RepM.leaf_eq {ok : Nat → Nat → Prop} {w : World} {v u : Value} (h : RepM ok w (.leaf v) u) : u = v ∧ LeafOk v := h.rep.leaf_eq

def rowVal : Option (Nat × Nat) → Nat → Value
  | none, _ => .slice none 0 0
  | some (g, c), n => .slice (some ⟨g, 0, none⟩) n c

mutual
/-- The value stands for the abstract value. -/
def RV (ok : Nat → Nat → Prop) (st : Sto) (m : Lay) (w : World) : PV → Value → Prop
  | .t t, v => RepM ok w t v
  | .agg cs, v => ∃ vs, v = .agg ⟨vs⟩ ∧ RVL ok st m w cs vs
  | .tup cs, v => ∃ vs, v = .tuple ⟨vs⟩ ∧ RVL ok st m w cs vs
  | .nil, v => v = .slice none 0 0
  | .acc sz es r, v => ∃ row, st.rows[r]? = some row ∧ row.sz = sz ∧ es.length ≤ row.es.length ∧ RepM ok w (.row sz es) v ∧ (es.length = row.es.length → v = rowVal (m.γ r) es.length)
  | .ptr k off, v => (∃ x, st.boxes[k]? = some (some x)) ∧ v = .pointer (some ⟨m.ρ k, off, none⟩)
  | .eptr cs, v => ∃ b off, v = .pointer (some ⟨b, off, none⟩) ∧ b < w.heap.size ∧ ∃ c : Nat → Value, ∀ j d, cs[j]? = some d → ok b (off + j) ∧ w.cell? ⟨b, off + j, none⟩ = some (c j) ∧ RepM ok w d (c j)
  | .fn f caps, v => ∃ vs, v = .func (.func f) #[] ⟨vs⟩ ∧ RVL ok st m w caps vs
  | .full sz n r, v => ∃ row g, st.rows[r]? = some row ∧ row.sz = sz ∧ row.whole = true ∧ m.γ r = some (g, n) ∧ v = .slice (some ⟨g, 0, none⟩) n n
  | .rptr r i, v => ∃ row g n, st.rows[r]? = some row ∧ row.whole = true ∧ m.γ r = some (g, n) ∧ v = .pointer (some ⟨g, i * row.sz, none⟩)
def RVL (ok : Nat → Nat → Prop) (st : Sto) (m : Lay) (w : World) : List PV → List Value → Prop
  | [], [] => True
  | p :: ps, v :: vs => RV ok st m w p v ∧ RVL ok st m w ps vs
  | _, _ => False
end

def RowOk (ok : Nat → Nat → Prop) (m : Lay) (w : World) (r : Nat) (row : PRow) : Prop :=
  0 < row.sz ∧ (∀ e ∈ row.es, e.length = row.sz) ∧ ((m.γ r = none ∧ row.es = []) ∨ ∃ g c cur, m.γ r = some (g, c) ∧ OB w g row.E cur ∧ cur.size = c * row.sz ∧ row.es.length ≤ c ∧ c ≤ maxLen ∧ RepM ok w (.row row.sz row.es) (.slice (some ⟨g, 0, none⟩) row.es.length c))

structure StoOk (av : Nat → Nat → Prop) (st : Sto) (m : Lay) (w : World) : Prop where
  box : ∀ k x, st.boxes[k]? = some (some x) → ∃ vs, OB w (m.ρ k) x.ty ⟨vs⟩ ∧ RVL (okA av st m) st m w x.cells vs
  binj : ∀ k k' x x', st.boxes[k]? = some (some x) → st.boxes[k']? = some (some x') → k ≠ k' → m.ρ k ≠ m.ρ k'
  row : ∀ r row, st.rows[r]? = some row → RowOk (okA av st m) m w r row
  rinj : ∀ r r' row row' g c c', st.rows[r]? = some row → st.rows[r']? = some row' → m.γ r = some (g, c) → m.γ r' = some (g, c') → r = r'
  br : ∀ k x r row g c, st.boxes[k]? = some (some x) → st.rows[r]? = some row → m.γ r = some (g, c) → m.ρ k ≠ g
  avlt : ∀ b o, av b o → b < w.heap.size
  avr : ∀ r row g c, st.rows[r]? = some row → m.γ r = some (g, c) → ∀ o, ¬ av g o

/-- What a run may have changed. -/
structure Ev (st : Sto) (m : Lay) (w : World) (st' : Sto) (m' : Lay) (w' : World) : Prop where
  os : w'.os = w.os
  tape : w'.tape = w.tape
  output : w'.output = w.output
  size : w.heap.size ≤ w'.heap.size
  blk : ∀ b, b < w.heap.size → (∀ k x, st.boxes[k]? = some (some x) → m.ρ k ≠ b) → (∀ r row g c, st.rows[r]? = some row → m.γ r = some (g, c) → g ≠ b) → w'.heap[b]? = w.heap[b]?
  cell : ∀ b o, b < w.heap.size → st.ok m b o → w'.cell? ⟨b, o, none⟩ = w.cell? ⟨b, o, none⟩
  okk : ∀ b o, b < w.heap.size → st.ok m b o → st'.ok m' b o
  live : ∀ k x, st.boxes[k]? = some (some x) → (∃ x', st'.boxes[k]? = some (some x')) ∧ m'.ρ k = m.ρ k
  fresh : ∀ k x', st'.boxes[k]? = some (some x') → (∃ x, st.boxes[k]? = some (some x)) ∨ w.heap.size ≤ m'.ρ k
  rowl : ∀ r row, st.rows[r]? = some row → ∃ row', st'.rows[r]? = some row' ∧ row'.sz = row.sz ∧ row.es.length ≤ row'.es.length ∧ (row.es.length = row'.es.length → m'.γ r = m.γ r) ∧ (row.whole = true → row'.whole = true ∧ m'.γ r = m.γ r)
  rfresh : ∀ r row' g c, st'.rows[r]? = some row' → m'.γ r = some (g, c) → (∃ row c0, st.rows[r]? = some row ∧ m.γ r = some (g, c0)) ∨ w.heap.size ≤ g

theorem Ev.refl (st : Sto) (m : Lay) (w : World) : Ev st m w st m w :=
  ⟨rfl, rfl, rfl, Nat.le_refl _, fun _ _ _ _ => rfl, fun _ _ _ _ => rfl, fun _ _ _ h => h, fun _ x h => ⟨⟨x, h⟩, rfl⟩, fun _ x h => .inl ⟨x, h⟩, fun _ row h => ⟨row, h, rfl, Nat.le_refl _, fun _ => rfl, fun h => ⟨h, rfl⟩⟩, fun _ row _ c h h' => .inl ⟨row, c, h, h'⟩⟩

theorem Ev.trans {st st1 st2 : Sto} {m m1 m2 : Lay} {w w1 w2 : World} (h : Ev st m w st1 m1 w1) (k : Ev st1 m1 w1 st2 m2 w2) : Ev st m w st2 m2 w2 where
  os := k.os.trans h.os
  tape := k.tape.trans h.tape
  output := k.output.trans h.output
  size := Nat.le_trans h.size k.size
  blk := fun b hb h1 h2 => (k.blk b (Nat.lt_of_lt_of_le hb h.size) (fun i x' hx' => by
      rcases h.fresh i x' hx' with ⟨x, hx⟩ | hf
      · rw [(h.live i x hx).2]; exact h1 i x hx
      · omega) (fun r row' g c hr hg => by
      rcases h.rfresh r row' g c hr hg with ⟨row, c0, hr0, hg0⟩ | hf
      · exact h2 r row g c0 hr0 hg0
      · omega)).trans (h.blk b hb h1 h2)
  cell := fun b o hb hk => (k.cell b o (Nat.lt_of_lt_of_le hb h.size) (h.okk b o hb hk)).trans (h.cell b o hb hk)
  okk := fun b o hb hk => k.okk b o (Nat.lt_of_lt_of_le hb h.size) (h.okk b o hb hk)
  live := fun i x hx => by
    obtain ⟨⟨x1, hx1⟩, e1⟩ := h.live i x hx
    obtain ⟨hx2, e2⟩ := k.live i x1 hx1
    exact ⟨hx2, e2.trans e1⟩
  fresh := fun i x' hx' => by
    rcases k.fresh i x' hx' with ⟨x1, hx1⟩ | hf
    · rcases h.fresh i x1 hx1 with hx | hf
      · exact .inl hx
      · exact .inr (by rw [(k.live i x1 hx1).2]; exact hf)
    · exact .inr (Nat.le_trans h.size hf)
  rowl := fun r row hr => by
    obtain ⟨row1, hr1, s1, l1, g1, f1⟩ := h.rowl r row hr
    obtain ⟨row2, hr2, s2, l2, g2, f2⟩ := k.rowl r row1 hr1
    refine ⟨row2, hr2, s2.trans s1, Nat.le_trans l1 l2, fun he => ?_, fun hf => ?_⟩
    · rw [g2 (by omega), g1 (by omega)]
    · obtain ⟨a1, a2⟩ := f1 hf
      obtain ⟨b1, b2⟩ := f2 a1
      exact ⟨b1, b2.trans a2⟩
  rfresh := fun r row' g c hr hg => by
    rcases k.rfresh r row' g c hr hg with ⟨row1, c1, hr1, hg1⟩ | hf
    · exact h.rfresh r row1 g c1 hr1 hg1
    · exact .inr (Nat.le_trans h.size hf)

mutual
theorem RV.mono {av : Nat → Nat → Prop} {st st' : Sto} {m m' : Lay} {w w' : World} (h : Ev st m w st' m' w') : ∀ (p : PV) (v : Value), RV (okA av st m) st m w p v → RV (okA av st' m') st' m' w' p v
  | .t t, v, hr => RepM.mono hr h.size (fun b o hb hk => ⟨hk.1, h.okk b o hb hk.2⟩) (fun b o hb hk => h.cell b o hb hk.2)
  | .agg cs, v, hr => by
    obtain ⟨vs, rfl, hl⟩ := hr
    exact ⟨vs, rfl, RVL.mono h cs vs hl⟩
  | .tup cs, v, hr => by
    obtain ⟨vs, rfl, hl⟩ := hr
    exact ⟨vs, rfl, RVL.mono h cs vs hl⟩
  | .nil, v, hr => hr
  | .acc sz es r, v, hr => by
    obtain ⟨row, h1, h2, h3, h4, h5⟩ := hr
    obtain ⟨row', k1, k2, k3, k4, -⟩ := h.rowl r row h1
    exact ⟨row', k1, k2.trans h2, Nat.le_trans h3 k3, RepM.mono h4 h.size (fun b o hb hk => ⟨hk.1, h.okk b o hb hk.2⟩) (fun b o hb hk => h.cell b o hb hk.2), fun he => by rw [k4 (by omega)]; exact h5 (by omega)⟩
  | .ptr k off, v, hr => by
    obtain ⟨⟨x, hx⟩, hv⟩ := hr
    obtain ⟨h1, h2⟩ := h.live k x hx
    exact ⟨h1, by rw [h2]; exact hv⟩
  | .eptr cs, v, hr => by
    obtain ⟨b, off, h1, hb, c, h2⟩ := hr
    refine ⟨b, off, h1, Nat.lt_of_lt_of_le hb h.size, c, fun j d hd => ?_⟩
    obtain ⟨k1, k2, k3⟩ := h2 j d hd
    exact ⟨⟨k1.1, h.okk _ _ hb k1.2⟩, (h.cell _ _ hb k1.2).trans k2, RepM.mono k3 h.size (fun b o hb hk => ⟨hk.1, h.okk b o hb hk.2⟩) (fun b o hb hk => h.cell b o hb hk.2)⟩
  | .fn f caps, v, hr => by
    obtain ⟨vs, rfl, hl⟩ := hr
    exact ⟨vs, rfl, RVL.mono h caps vs hl⟩
  | .full sz n r, v, hr => by
    obtain ⟨row, g, h1, h2, h3, h4, h5⟩ := hr
    obtain ⟨row', k1, k2, -, -, k5⟩ := h.rowl r row h1
    exact ⟨row', g, k1, k2.trans h2, (k5 h3).1, by rw [(k5 h3).2]; exact h4, h5⟩
  | .rptr r i, v, hr => by
    obtain ⟨row, g, n, h1, h3, h4, h5⟩ := hr
    obtain ⟨row', k1, k2, -, -, k5⟩ := h.rowl r row h1
    exact ⟨row', g, n, k1, (k5 h3).1, by rw [(k5 h3).2]; exact h4, by rw [k2]; exact h5⟩
theorem RVL.mono {av : Nat → Nat → Prop} {st st' : Sto} {m m' : Lay} {w w' : World} (h : Ev st m w st' m' w') : ∀ (ps : List PV) (vs : List Value), RVL (okA av st m) st m w ps vs → RVL (okA av st' m') st' m' w' ps vs
  | [], [], hr => hr
  | p :: ps, v :: vs, hr => ⟨RV.mono h p v hr.1, RVL.mono h ps vs hr.2⟩
  | [], _ :: _, hr => hr.elim
  | _ :: _, [], hr => hr.elim
end

theorem RVL.length {ok : Nat → Nat → Prop} {st : Sto} {m : Lay} {w : World} : ∀ {ps : List PV} {vs : List Value}, RVL ok st m w ps vs → ps.length = vs.length
  | [], [], _ => rfl
  | _ :: _, _ :: _, h => by simp [RVL.length h.2]
  | [], _ :: _, h => h.elim
  | _ :: _, [], h => h.elim
theorem RVL.get {ok : Nat → Nat → Prop} {st : Sto} {m : Lay} {w : World} : ∀ {ps : List PV} {vs : List Value} {j : Nat} {p : PV}, RVL ok st m w ps vs → ps[j]? = some p → ∃ v, vs[j]? = some v ∧ RV ok st m w p v
  | [], [], _, _, _, hp => by simp at hp
  | p :: ps, v :: vs, 0, q, h, hp => by simp at hp; subst hp; exact ⟨v, rfl, h.1⟩
  | p :: ps, v :: vs, j + 1, q, h, hp => by simpa using RVL.get (j := j) h.2 (by simpa using hp)
  | [], _ :: _, _, _, h, _ => h.elim
  | _ :: _, [], _, _, h, _ => h.elim
theorem RVL.take {ok : Nat → Nat → Prop} {st : Sto} {m : Lay} {w : World} : ∀ {ps : List PV} {vs : List Value} (n : Nat), RVL ok st m w ps vs → RVL ok st m w (ps.take n) (vs.take n)
  | [], [], n, _ => by simp [RVL]
  | p :: ps, v :: vs, 0, _ => by simp [RVL]
  | p :: ps, v :: vs, n + 1, h => ⟨h.1, RVL.take n h.2⟩
  | [], _ :: _, _, h => h.elim
  | _ :: _, [], _, h => h.elim
theorem RVL.drop {ok : Nat → Nat → Prop} {st : Sto} {m : Lay} {w : World} : ∀ {ps : List PV} {vs : List Value} (n : Nat), RVL ok st m w ps vs → RVL ok st m w (ps.drop n) (vs.drop n)
  | [], [], n, _ => by simp [RVL]
  | p :: ps, v :: vs, 0, h => h
  | p :: ps, v :: vs, n + 1, h => RVL.drop (ps := ps) (vs := vs) n h.2
  | [], _ :: _, _, h => h.elim
  | _ :: _, [], _, h => h.elim
theorem RVL.append {ok : Nat → Nat → Prop} {st : Sto} {m : Lay} {w : World} : ∀ {ps qs : List PV} {vs us : List Value}, RVL ok st m w ps vs → RVL ok st m w qs us → RVL ok st m w (ps ++ qs) (vs ++ us)
  | [], _, [], _, _, k => k
  | p :: ps, _, v :: vs, _, h, k => ⟨h.1, RVL.append h.2 k⟩
  | [], _, _ :: _, _, h, _ => h.elim
  | _ :: _, _, [], _, h, _ => h.elim

theorem RVL.ofTr {ok : Nat → Nat → Prop} {st : Sto} {m : Lay} {w : World} : ∀ {ts : List Tr} {vs : List Value}, RVL ok st m w (ts.map PV.t) vs → RepL w ts vs
  | [], [], _ => trivial
  | _ :: _, _ :: _, h => ⟨RepM.rep h.1, RVL.ofTr h.2⟩
  | [], _ :: _, h => h.elim
  | _ :: _, [], h => h.elim
theorem RepL.toRVL {ok : Nat → Nat → Prop} {st : Sto} {m : Lay} {w : World} (hk : ∀ b o, b < w.heap.size → ok b o) : ∀ {ts : List Tr} {vs : List Value}, RepL w ts vs → RVL ok st m w (ts.map PV.t) vs
  | [], [], _ => trivial
  | _ :: _, _ :: _, h => ⟨h.1.repM hk, RepL.toRVL hk h.2⟩
  | [], _ :: _, h => h.elim
  | _ :: _, [], h => h.elim

end Go.Proofs.YtnakkelglbcecaaGreat

namespace Go.Proofs.YtnakkelglbcecaaGreat
set_option linter.unusedSimpArgs false
set_option linter.unusedVariables false
open Go.RowKit

structure AS where
  env : List (Nat × PV)
  st : Sto
def AS.lk (s : AS) (i : Nat) : Option PV := s.env.lookup i
def AS.put (s : AS) (d : Nat) (p : PV) : AS := ⟨(d, p) :: s.env, s.st⟩
def AS.putO (s : AS) : Option Nat → PV → AS
  | none, _ => s
  | some d, p => s.put d p
def AS.delO (s : AS) : Option Nat → AS
  | none => s
  | some d => ⟨s.env.filter (fun x => x.1 != d), s.st⟩
def constPV : Value → Option PV
  | .int k n => if (Lit.int k n).wf then some (.t (.leaf (.int k n))) else none
  | .bool b => some (.t (.leaf (.bool b)))
  | .string s => if s.size ≤ maxLen then some (.t (.leaf (.string s))) else none
  | .slice none 0 0 => some .nil
  | _ => none
def AS.ev (s : AS) : Operand → Option PV
  | .tmp i => s.lk i
  | .const v => constPV v
  | .global _ => none
  | .func f => some (.fn f [])

/-- What stood at the entry. -/
structure Ctx where
  av : Nat → Nat → Prop
  st : Sto
  m : Lay
  w : World

structure RA (C : Ctx) (n : Nat) (s : AS) (m : Lay) (a : Act) (w : World) : Prop where
  dfr : a.defers = []
  tsz : a.tmps.size = n
  sto : StoOk C.av s.st m w
  env : ∀ i p, s.lk i = some p → ∃ v, a.tmps[i]? = some v ∧ RV (okA C.av s.st m) s.st m w p v
  ev : Ev C.st C.m C.w s.st m w

theorem constPV_rv {ok : Nat → Nat → Prop} {st : Sto} {m : Lay} {w : World} {v : Value} {p : PV} (h : constPV v = some p) : RV ok st m w p v := by
  unfold constPV at h
  split at h
  · split at h
    · rename_i hw
      cases h
      exact RepM.leaf hw
    · cases h
  · cases h
    exact RepM.leaf trivial
  · split at h
    · rename_i hw
      cases h
      exact RepM.leaf hw
    · cases h
  · cases h
    rfl
  · cases h

section
variable {C : Ctx} {n : Nat} {s : AS} {m : Lay} {a : Act} {w : World}

theorem RA.eval (h : RA C n s m a w) {x : Operand} {p : PV} (hx : s.ev x = some p) : RV (okA C.av s.st m) s.st m w p (a.eval x) := by
  cases x with
  | tmp i =>
    obtain ⟨v, hv, hr⟩ := h.env i p hx
    simpa [Act.eval, Array.getD_eq_getD_getElem?, hv] using hr
  | const v => exact constPV_rv hx
  | global g => cases hx
  | func f =>
    cases hx
    exact ⟨[], rfl, trivial⟩

theorem AS.lk_put (s : AS) (d i : Nat) (p : PV) : (s.put d p).lk i = if i = d then some p else s.lk i := by
  unfold AS.lk AS.put
  rw [List.lookup_cons]
  by_cases h : i = d
  · simp [h]
  · rw [if_neg h, show (i == d) = false by simp [h]]

theorem RA.put (h : RA C n s m a w) {d : Option Nat} {p : PV} {v : Value} (hd : ∀ x, d = some x → x < n) (hr : RV (okA C.av s.st m) s.st m w p v) : RA C n (s.putO d p) m (a.put d v) w := by
  cases d with
  | none => exact h
  | some d =>
    refine ⟨h.dfr, by simp [Act.put, h.tsz], h.sto, fun i q hq => ?_, h.ev⟩
    have hq' : (s.put d p).lk i = some q := hq
    rw [AS.lk_put] at hq'
    have hdn := hd d rfl
    by_cases hi : i = d
    · rw [if_pos hi] at hq'
      cases hq'
      subst hi
      exact ⟨v, by simp [Act.put, h.tsz, hdn], hr⟩
    · rw [if_neg hi] at hq'
      obtain ⟨u, hu, hru⟩ := h.env i q hq'
      exact ⟨u, by simp only [Act.put]; rw [Array.getElem?_setIfInBounds_ne (fun e => hi e.symm)]; exact hu, hru⟩

theorem lookup_filter_ne {d i : Nat} {q : PV} : ∀ (l : List (Nat × PV)), (l.filter (fun x => x.1 != d)).lookup i = some q → i ≠ d ∧ l.lookup i = some q
  | [], h => by simp at h
  | (k, p) :: l, h => by
    by_cases hk : k = d
    · have h' : (l.filter (fun x => x.1 != d)).lookup i = some q := by simpa [List.filter_cons, hk] using h
      obtain ⟨h1, h2⟩ := lookup_filter_ne l h'
      refine ⟨h1, ?_⟩
      rw [List.lookup_cons, show (i == k) = false by simp [hk, h1]]
      exact h2
    · have h' : ((k, p) :: l.filter (fun x => x.1 != d)).lookup i = some q := by simpa [List.filter_cons, hk] using h
      rw [List.lookup_cons] at h' ⊢
      by_cases hik : i = k
      · subst hik
        simp only [BEq.rfl] at h' ⊢
        exact ⟨hk, h'⟩
      · rw [show (i == k) = false by simp [hik]] at h' ⊢
        exact lookup_filter_ne l h'

theorem RA.del (h : RA C n s m a w) (d : Option Nat) (v : Value) : RA C n (s.delO d) m (a.put d v) w := by
  cases d with
  | none => exact h
  | some d =>
    refine ⟨h.dfr, by simp [Act.put, h.tsz], h.sto, fun i q hq => ?_, h.ev⟩
    obtain ⟨h1, h2⟩ := lookup_filter_ne s.env hq
    obtain ⟨u, hu, hru⟩ := h.env i q h2
    exact ⟨u, by simp only [Act.put]; rw [Array.getElem?_setIfInBounds_ne (fun e => h1 e.symm)]; exact hu, hru⟩

theorem RA.step (h : RA C n s m a w) {st1 : Sto} {m1 : Lay} {w1 : World} (e : Ev s.st m w st1 m1 w1) (k : StoOk C.av st1 m1 w1) : RA C n ⟨s.env, st1⟩ m1 a w1 :=
  ⟨h.dfr, h.tsz, k, fun i p hp => by obtain ⟨v, hv, hr⟩ := h.env i p hp; exact ⟨v, hv, RV.mono e p v hr⟩, h.ev.trans e⟩
end

/-- A state that says less. -/
def Wk (C : Ctx) (n : Nat) (s s' : AS) : Prop := ∀ m a w, RA C n s m a w → ∃ m', RA C n s' m' a w
theorem Wk.refl (C : Ctx) (n : Nat) (s : AS) : Wk C n s s := fun m _ _ h => ⟨m, h⟩
theorem Wk.trans {C : Ctx} {n : Nat} {s s' s'' : AS} (h : Wk C n s s') (k : Wk C n s' s'') : Wk C n s s'' := fun m a w hr => by
  obtain ⟨m', h'⟩ := h m a w hr
  exact k m' a w h'

def AWP (P : Program) (C : Ctx) (n : Nat) (c : Code) (Q : Exit → AS → Prop) (s : AS) : Prop :=
  ∀ m a w, RA C n s m a w → c.wp P (fun e a' w' => ∃ s' m', Q e s' ∧ RA C n s' m' a' w') a w
def AL (P : Program) (C : Ctx) (n : Nat) (ops : Array Oper) (l : List Oper) (Q : Exit → AS → Prop) (s : AS) : Prop :=
  ∀ m a w, RA C n s m a w → wpList P ops (fun e a' w' => ∃ s' m', Q e s' ∧ RA C n s' m' a' w') l a w
def AOp (P : Program) (C : Ctx) (n : Nat) (o : Oper) (s s1 : AS) : Prop :=
  ∀ m a w, RA C n s m a w → ∀ (K : Act → World → Prop) (Q : Exit → Act → World → Prop), (∀ m' a' w', RA C n s1 m' a' w' → K a' w') → o.wp P a w K Q

def thenA (next : AS → Prop) (Q : Exit → AS → Prop) : Exit → AS → Prop
  | .normal, s => next s
  | e, s => Q e s
def inBlockA (id : Nat) (Q : Exit → AS → Prop) : Exit → AS → Prop
  | .exit id', s => if id' = id then Q .normal s else Q (.exit id') s
  | e, s => Q e s

section
variable {P : Program} {C : Ctx} {n : Nat} {s : AS} {Q : Exit → AS → Prop}

theorem AWP.weak {c : Code} {s' : AS} (hw : Wk C n s s') (h : AWP P C n c Q s') : AWP P C n c Q s := fun m a w hr => by
  obtain ⟨m', h'⟩ := hw m a w hr
  exact h m' a w h'
theorem AWP.mono {c : Code} {Q' : Exit → AS → Prop} (h : AWP P C n c Q s) (hq : ∀ e s', Q e s' → Q' e s') : AWP P C n c Q' s := fun m a w hr =>
  wp_mono (h m a w hr) fun e a' w' => by rintro ⟨s', m', h1, h2⟩; exact ⟨s', m', hq e s' h1, h2⟩

theorem AWP.skip (h : Q .normal s) : AWP P C n .skip Q s := fun m _ _ hr => wp_skip ⟨s, m, h, hr⟩
theorem AWP.exit {id : Nat} (h : Q (.exit id) s) : AWP P C n (.exit id) Q s := fun m _ _ hr => wp_exit ⟨s, m, h, hr⟩
theorem AWP.ret (h : Q .ret s) : AWP P C n .ret Q s := fun m _ _ hr => wp_ret ⟨s, m, h, hr⟩
theorem AWP.seq {x y : Code} (h : AWP P C n x (thenA (AWP P C n y Q) Q) s) : AWP P C n (.seq x y) Q s := fun m a w hr =>
  wp_seq (wp_mono (h m a w hr) fun e a' w' => by
    rintro ⟨s', m', h1, h2⟩
    cases e with
    | normal => exact h1 m' a' w' h2
    | _ => exact ⟨s', m', h1, h2⟩)
theorem AWP.block {id : Nat} {c : Code} (h : AWP P C n c (inBlockA id Q) s) : AWP P C n (.block id c) Q s := fun m a w hr =>
  wp_block (wp_mono (h m a w hr) fun e a' w' => by
    rintro ⟨s', m', h1, h2⟩
    cases e with
    | exit id' =>
      simp only [inBlockA] at h1
      simp only [Exit.inBlock]
      split <;> rename_i hid
      · rw [if_pos hid] at h1; exact ⟨s', m', h1, h2⟩
      · rw [if_neg hid] at h1; exact ⟨s', m', h1, h2⟩
    | _ => exact ⟨s', m', h1, h2⟩)
theorem AWP.cond {c : Operand} {x y : Code} {b : Bool} (hc : s.ev c = some (.t (.leaf (.bool b)))) (ht : b = true → AWP P C n x Q s) (hf : b = false → AWP P C n y Q s) : AWP P C n (.cond c x y) Q s := fun m a w hr => by
  have hv := (RepM.leaf_eq (hr.eval hc)).1
  exact wp_cond_split hv (fun h => ht h m a w hr) (fun h => hf h m a w hr)

theorem wp_loop_ix {c : Code} {R : Exit → Act → World → Prop} {ι : Type} (I : ι → Act → World → Prop) (μ : ι → Nat) (i0 : ι) {a : Act} {w : World} (h₀ : I i0 a w)
    (round : ∀ i a w, I i a w → c.wp P (Exit.then (fun a' w' => ∃ j, I j a' w' ∧ μ j < μ i) R) a w) : (Code.loop c).wp P R a w := by
  intro b k cs
  have key : ∀ n i a w, μ i = n → I i a w → ∃ e a' w', R e a' w' ∧ Arrives P (lone (b.at a (.code c :: .inLoop c :: k)) cs w) b k cs e a' w' := by
    intro n
    induction n using Nat.strongRecOn with
    | _ n ih =>
      intro i a w hn hI
      obtain ⟨e, a₁, w₁, hq, harr⟩ := round i a w hI b (.inLoop c :: k) cs
      cases e with
      | normal =>
        obtain ⟨j, hI₁, hlt⟩ := hq
        obtain ⟨e₂, a₂, w₂, hq₂, harr₂⟩ := ih (μ j) (hn ▸ hlt) j a₁ w₁ rfl hI₁
        exact ⟨e₂, a₂, w₂, hq₂, .of_steps (Steps.trans harr (.one step_inLoop)) harr₂⟩
      | exit id => exact ⟨_, a₁, w₁, hq, .pass (x := .inLoop c) rfl (fun _ _ => .inl (by simp)) harr⟩
      | goto l => exact ⟨_, a₁, w₁, hq, .pass (x := .inLoop c) rfl (fun _ _ => .inl (by simp)) harr⟩
      | ret => exact ⟨_, a₁, w₁, hq, .pass (x := .inLoop c) rfl (fun _ _ => .inl (by simp)) harr⟩
      | panic ch => exact ⟨_, a₁, w₁, hq, .pass (x := .inLoop c) rfl (fun _ _ => .inl (by simp)) harr⟩
      | outgrown => exact ⟨_, a₁, w₁, hq, .pass (x := .inLoop c) rfl (fun _ _ => .inl (by simp)) harr⟩
  obtain ⟨e, a', w', hq, harr⟩ := key _ i0 a w rfl h₀
  exact ⟨e, a', w', hq, .of_steps (.one step_loop) harr⟩

/-- A loop: at its head the state is 'I i' for some i. -/
theorem AWP.loop {c : Code} {ι : Type} (I : ι → AS) (μ : ι → Nat) (i0 : ι) (h0 : Wk C n s (I i0)) (round : ∀ i, AWP P C n c (thenA (fun s' => ∃ j, Wk C n s' (I j) ∧ μ j < μ i) Q) (I i)) : AWP P C n (.loop c) Q s := fun m a w hr => by
  refine wp_loop_ix (fun i a w => ∃ m, RA C n (I i) m a w) μ i0 (h0 m a w hr) fun i a w hi => ?_
  obtain ⟨m1, h1⟩ := hi
  refine wp_mono (round i m1 a w h1) fun e a' w' => ?_; rintro ⟨s', m', h2, h3⟩
  cases e with
  | normal =>
    obtain ⟨j, hj, hlt⟩ := h2
    exact ⟨j, hj m' a' w' h3, hlt⟩
  | _ => exact ⟨s', m', h2, h3⟩

theorem AWP.region {id : Nat} {ops : Array Oper} (h : AL P C n ops ops.toList Q s) : AWP P C n (.region id ops false) Q s := fun m a w hr => wp_region_list (h m a w hr)
theorem AWP.region_lit {id : Nat} {l : List Oper} (h : AL P C n l.toArray l Q s) : AWP P C n (.region id l.toArray false) Q s := AWP.region (by simpa using h)
theorem AL.nil {ops : Array Oper} (h : Q .normal s) : AL P C n ops [] Q s := fun m _ _ hr => wpList_nil ⟨s, m, h, hr⟩
theorem AL.cons {ops : Array Oper} {o : Oper} {rest : List Oper} {s1 : AS} (hg : o.guard = none) (ho : AOp P C n o s s1) (h : AL P C n ops rest Q s1) : AL P C n ops (o :: rest) Q s := fun m a w hr =>
  wpList_plain hg fun K hK => ho m a w hr K _ fun m' a' w' h' => hK a' w' (h m' a' w' h')

theorem RA.yielded {a : Act} {m : Lay} {w : World} (hr : RA C n s m a w) {ops : Array Oper} {j d : Nat} {b : Bool} (hj : (ops[j]?).bind (·.dst) = some d) (hb : s.lk d = some (.t (.leaf (.bool b)))) : yielded ops a.tmps j = some b := by
  obtain ⟨v, hv, hrv⟩ := hr.env d _ hb
  obtain ⟨rfl, -⟩ := RepM.leaf_eq hrv
  simp [Go.yielded, hj, hv]
theorem AL.skip {ops : Array Oper} {o : Oper} {rest : List Oper} {j d : Nat} {b c : Bool} (hg : o.guard = some (j, c)) (hj : (ops[j]?).bind (·.dst) = some d) (hb : s.lk d = some (.t (.leaf (.bool b)))) (hbc : (b == c) = false) (h : AL P C n ops rest Q (s.delO o.dst)) : AL P C n ops (o :: rest) Q s := fun m a w hr =>
  wpList_step fun K hK => by
    rw [if_neg (by simpa [Region.wanted, hg, hr.yielded hj hb] using hbc)]
    exact hK _ _ (h m _ w (hr.del o.dst undef))

/-- An operation that yields a value and leaves the memory alone. -/
theorem AOp.quiet {o : Oper} {p : PV} (hd : ∀ x, o.dst = some x → x < n) (h : ∀ m a w, RA C n s m a w → ∃ v, (execOp a.eval o).run P w = .ok (.value v) w ∧ RV (okA C.av s.st m) s.st m w p v) : AOp P C n o s (s.putO o.dst p) := fun m a w hr K Q hK => by
  obtain ⟨v, hv, hp⟩ := h m a w hr
  unfold Oper.wp
  rw [hv]
  exact hK m _ w (hr.put hd hp)
end

/-- A call: whatever the memory, the function returns 'res', the boxes and rows that it was handed stand as in the new store. -/
def ACalls (P : Program) (f : FuncId) (args : List PV) (pre : Sto) (R : PV → Sto → Prop) : Prop :=
  ∀ av m w vals, StoOk av pre m w → RVL (okA av pre m) pre m w args vals →
    Calls P f ⟨vals⟩ w fun e w' => ∃ res st' m' v, e = .returned v ∧ R res st' ∧ StoOk av st' m' w' ∧ Ev pre m w st' m' w' ∧ RV (okA av st' m') st' m' w' res v

def argEnv : Nat → List PV → List (Nat × PV)
  | _, [] => []
  | i, p :: ps => (i, p) :: argEnv (i + 1) ps
theorem argEnv_lookup {av : Nat → Nat → Prop} {st : Sto} {m : Lay} {w : World} : ∀ (ps : List PV) (vs : List Value) (k i : Nat) (p : PV), RVL (okA av st m) st m w ps vs → (argEnv k ps).lookup i = some p → ∃ v, k ≤ i ∧ vs[i - k]? = some v ∧ RV (okA av st m) st m w p v
  | [], [], _, _, _, _, h => by simp [argEnv] at h
  | q :: ps, u :: vs, k, i, p, hr, h => by
    rw [argEnv, List.lookup_cons] at h
    by_cases hik : i = k
    · subst hik
      simp at h
      subst h
      exact ⟨u, Nat.le_refl _, by simp, hr.1⟩
    · rw [show (i == k) = false by simp [hik]] at h
      obtain ⟨v, h1, h2, h3⟩ := argEnv_lookup ps vs (k + 1) i p hr.2 h
      exact ⟨v, by omega, by rw [show i - k = (i - (k + 1)) + 1 by omega]; simpa using h2, h3⟩
  | [], _ :: _, _, _, _, hr, _ => hr.elim
  | _ :: _, [], _, _, _, hr, _ => hr.elim

/-- What a function's end says: its results, and the boxes and rows that stay. -/
def Ends (P : Program) (C : Ctx) (n : Nat) (fn : Func) (R : PV → Sto → Prop) (e : Exit) (s : AS) : Prop :=
  (e = .normal ∨ e = .ret) ∧ ∀ m a w, RA C n s m a w → ∃ res st' m' v, (results fn a.tmps).run P w = .ok v w ∧ R res st' ∧ StoOk C.av st' m' w ∧ Ev C.st C.m C.w st' m' w ∧ RV (okA C.av st' m') st' m' w res v

theorem ACalls.intro {P : Program} {f : FuncId} {fn : Func} {c : Code} {args : List PV} {pre : Sto} {R : PV → Sto → Prop} (hf : P.funcs[f]? = some fn) (hb : fn.body = some c) (hn : args.length ≤ fn.ntmps)
    (h : ∀ C : Ctx, C.st = pre → AWP P C fn.ntmps c (Ends P C fn.ntmps fn R) ⟨argEnv 0 args, pre⟩) : ACalls P f args pre R := by
  intro av m w vals hst hargs
  refine calls_of_wp hf hb ?_
  have hl : args.length = vals.length := hargs.length
  have hra : RA ⟨av, pre, m, w⟩ fn.ntmps ⟨argEnv 0 args, pre⟩ m { tmps := ⟨vals⟩ ++ Array.replicate (fn.ntmps - (⟨vals⟩ : Array Value).size) undef, defers := [] } w := by
    refine ⟨rfl, by simp; omega, hst, fun i p hp => ?_, Ev.refl _ _ _⟩
    obtain ⟨v, -, h2, h3⟩ := argEnv_lookup args vals 0 i p hargs hp
    refine ⟨v, ?_, h3⟩
    have hi : i < vals.length := (List.getElem?_eq_some_iff.1 (by simpa using h2)).1
    rw [Array.getElem?_append_left (by simpa using hi)]
    simpa using h2
  refine wp_mono (h ⟨av, pre, m, w⟩ rfl m _ w hra) fun e a' w' => ?_; rintro ⟨s', m', ⟨he, hends⟩, hr⟩
  obtain ⟨res, st', m2, v, h1, h2, h3, h4, h5⟩ := hends m' a' w' hr
  rcases he with rfl | rfl
  · exact ⟨hr.dfr, v, h1, res, st', m2, v, rfl, h2, h3, h4, h5⟩
  · exact ⟨hr.dfr, v, h1, res, st', m2, v, rfl, h2, h3, h4, h5⟩

end Go.Proofs.YtnakkelglbcecaaGreat

namespace Go.Proofs.YtnakkelglbcecaaGreat
set_option linter.unusedSimpArgs false
set_option linter.unusedVariables false
open Go.RowKit Go.WalkArith Go.IntWalk Go.WideShapes

def dstOk (d : Option Nat) (n : Nat) : Bool := match d with | none => true | some x => decide (x < n)
theorem dstOk_lt {d : Option Nat} {n : Nat} (h : dstOk d n = true) : ∀ x, d = some x → x < n := by
  rintro x rfl
  simpa [dstOk] using h
def aggD : TypeDesc → Bool
  | .struct _ | .array _ _ => true
  | _ => false
/-- Is it a struct (or an array), and how many cells has it? -/
def shapeOf (P : Program) (T : TypeId) : Option (Bool × Nat) :=
  match P.underlying T, P.info? T with
  | some d, some i => some (aggD d, i.size)
  | _, _ => none
def fieldOff (P : Program) (T f : Nat) : Option Nat :=
  match P.underlying T with
  | some (.struct fs) => match fs[f]? with
    | some fd => match P.info? fd.type with
      | some i => if i.size = 0 then none else some fd.offset
      | none => none
    | none => none
  | _ => none
/-- A slice's element: its type, its cells, its bytes. -/
def elemOf? (P : Program) (T : TypeId) : Option (TypeId × Nat × Nat) :=
  match P.underlying T with
  | some (.slice E) => (P.info? E).map fun i => (E, i.size, i.bytes)
  | _ => none

section
variable {P : Program}
theorem shapeOf.spec {T : TypeId} {b : Bool} {n : Nat} (h : shapeOf P T = some (b, n)) : ∃ d i, P.underlying T = some d ∧ P.info? T = some i ∧ aggD d = b ∧ i.size = n := by
  unfold shapeOf at h
  split at h
  · rename_i d i hu hi
    simp only [Option.some.injEq, Prod.mk.injEq] at h
    exact ⟨d, i, hu, hi, h.1, h.2⟩
  · cases h
theorem fieldOff.spec {T f d : Nat} (h : fieldOff P T f = some d) : ∃ fs fd i, P.underlying T = some (.struct fs) ∧ fs[f]? = some fd ∧ P.info? fd.type = some i ∧ i.size ≠ 0 ∧ fd.offset = d := by
  unfold fieldOff at h
  split at h
  · rename_i fs hu
    split at h
    · rename_i fd hf
      split at h
      · rename_i i hi
        split at h
        · cases h
        · rename_i hz
          exact ⟨fs, fd, i, hu, hf, hi, hz, by simpa using h⟩
      · cases h
    · cases h
  · cases h
theorem elemOf?.spec {T E sz by_ : Nat} (h : elemOf? P T = some (E, sz, by_)) : ∃ i, P.underlying T = some (.slice E) ∧ P.info? E = some i ∧ i.size = sz ∧ i.bytes = by_ := by
  unfold elemOf? at h
  split at h
  · rename_i E' hu
    cases hi : P.info? E' with
    | none => simp [hi] at h
    | some i =>
      simp only [hi, Option.map_some, Option.some.injEq, Prod.mk.injEq] at h
      obtain ⟨rfl, h1, h2⟩ := h
      exact ⟨i, hu, hi, h1, h2⟩
  · cases h

theorem run_isAgg {T : TypeId} {b : Bool} {n : Nat} (h : shapeOf P T = some (b, n)) (w : World) : (isAgg T).run P w = .ok b w := by
  obtain ⟨d, i, hu, -, hb, -⟩ := shapeOf.spec h
  unfold isAgg
  rw [Sem.run_bind, run_underlying hu w]
  cases d <;> simp_all [aggD]
theorem run_sizeOf' {T : TypeId} {b : Bool} {n : Nat} (h : shapeOf P T = some (b, n)) (w : World) : (Go.sizeOf T).run P w = .ok n w := by
  obtain ⟨d, i, -, hi, -, hs⟩ := shapeOf.spec h
  simp [Go.sizeOf, typeInfo, hi, hs]
theorem run_loadVar_agg {T : TypeId} {b off : Nat} {cs : List Value} {w : World} (h : shapeOf P T = some (true, cs.length)) (hc : ∀ j v, cs[j]? = some v → w.cell? ⟨b, off + j, none⟩ = some v) : (loadVar T ⟨b, off, none⟩).run P w = .ok (.agg ⟨cs⟩) w := by
  have hl : (loadCells ⟨b, off, none⟩ cs.length).run P w = .ok cs.toArray w :=
    run_loadCells_list (P := P) w ⟨b, off, none⟩ cs (fun j v hv => by
      have hadd : (⟨b, off, none⟩ : Addr).add j = ⟨b, off + j, none⟩ := by unfold Addr.add; split <;> simp_all
      rw [hadd]; exact hc j v hv)
  simp [loadVar, Sem.run_bind, run_isAgg h, run_sizeOf' h, hl]
theorem run_loadVar_one {T : TypeId} {n : Nat} {p : Addr} {v : Value} {w : World} (h : shapeOf P T = some (false, n)) (hc : w.cell? p = some v) : (loadVar T p).run P w = .ok v w := by
  simp [loadVar, Sem.run_bind, run_isAgg h, hc]
theorem run_fieldAt' {T f d b o : Nat} (h : fieldOff P T f = some d) (w : World) : (Instr.fieldAt T (.pointer (some ⟨b, o, none⟩)) f).run P w = .ok (.pointer (some ⟨b, o + d, none⟩)) w := by
  obtain ⟨fs, fd, i, hu, hf, hi, hz, rfl⟩ := fieldOff.spec h
  have hadd : ∀ n, (⟨b, o, none⟩ : Addr).add n = ⟨b, o + n, none⟩ := fun n => by unfold Addr.add; split <;> simp_all
  simp [Instr.fieldAt, Sem.run_bind, run_underlying hu, hf, Instr.sureAddr, fieldPlace, Go.sizeOf, typeInfo, hi, hz, hadd]
theorem run_indexAt' {T E sz by_ b off len cap k : Nat} (h : elemOf? P T = some (E, sz, by_)) (hk : k < len) (w : World) : (Instr.indexAt T (.slice (some ⟨b, off, none⟩) len cap) (.int .i64 (k : Int))).run P w = .ok (.pointer (some ⟨b, off + k * sz, none⟩)) w := by
  obtain ⟨i, hu, hi, hs, -⟩ := elemOf?.spec h
  have hadd : ∀ n, (⟨b, off, none⟩ : Addr).add n = ⟨b, off + n, none⟩ := fun n => by unfold Addr.add; split <;> simp_all
  simp [Instr.indexAt, asIntOf, Sem.run_bind, run_underlying hu, Go.sizeOf, typeInfo, hi, hs, hadd]
  intro h2
  omega
end

section
variable {P : Program} {C : Ctx} {n : Nat} {s : AS} {o : Oper}

theorem AOp.move {x : Operand} {p : PV} (ho : o.op = .move x ∨ o.op = .assign x) (hd : dstOk o.dst n = true) (hx : s.ev x = some p) : AOp P C n o s (s.putO o.dst p) :=
  AOp.quiet (dstOk_lt hd) fun m a w hr => ⟨a.eval x, by unfold execOp; rcases ho with ho | ho <;> simp [ho], hr.eval hx⟩

theorem AOp.bin {op : BinOp} {T yT : TypeId} {x y : Operand} {u v r : Value} (ho : o.op = .binOp op T x y yT) (hd : dstOk o.dst n = true) (hx : s.ev x = some (.t (.leaf u))) (hy : s.ev y = some (.t (.leaf v)))
    (hrun : ∀ w, ((do eqGuard op T x y u v; binOp op T u v) : Sem Value).run P w = .ok r w) (hr : LeafOk r) : AOp P C n o s (s.putO o.dst (.t (.leaf r))) :=
  AOp.quiet (dstOk_lt hd) fun m a w h => by
    have h1 := (RepM.leaf_eq (h.eval hx)).1
    have h2 := (RepM.leaf_eq (h.eval hy)).1
    refine ⟨r, ?_, RepM.leaf hr⟩
    unfold execOp
    simp only [ho, h1, h2]
    rw [Sem.run_bind, hrun w]
    rfl

theorem AOp.addI {T yT : TypeId} {x y : Operand} {a b c : Int} (ho : o.op = .binOp .add T x y yT) (hd : dstOk o.dst n = true) (hx : s.ev x = some (.t (.leaf (.int .i64 a)))) (hy : s.ev y = some (.t (.leaf (.int .i64 b))))
    (hc : a + b = c) (hb : -9223372036854775808 ≤ c ∧ c ≤ 9223372036854775807) : AOp P C n o s (s.putO o.dst (.t (.leaf (.int .i64 c)))) := by
  subst hc
  exact AOp.bin ho hd hx hy (fun w => by simp [eqGuard, binOp, Op.intArith, i64_in _ hb]) (wf_i64 hb)
theorem AOp.lss {T yT : TypeId} {x y : Operand} {k : IntKind} {a b : Int} (ho : o.op = .binOp .lss T x y yT) (hd : dstOk o.dst n = true) (hx : s.ev x = some (.t (.leaf (.int k a)))) (hy : s.ev y = some (.t (.leaf (.int k b)))) :
    AOp P C n o s (s.putO o.dst (.t (.leaf (.bool (decide (a < b)))))) := AOp.bin ho hd hx hy (fun w => by simp [eqGuard, binOp, Op.intCmp]) trivial
theorem bytes_toList_inj {a b : ByteArray} (h : a.toList = b.toList) : a = b := by
  rw [ByteArray.toList_eq, ByteArray.toList_eq] at h
  obtain ⟨⟨x⟩⟩ := a
  obtain ⟨⟨y⟩⟩ := b
  have h : x = y := h
  rw [h]
theorem bytes_beq (a b : ByteArray) : (a.toList == b.toList) = decide (a = b) := by
  by_cases h : a = b
  · subst h; simp
  · rw [decide_eq_false h]
    simpa using fun e => h (bytes_toList_inj e)
theorem AOp.eqlS {T yT : TypeId} {x y : Operand} {a b : ByteArray} (ho : o.op = .binOp .eql T x y yT) (hd : dstOk o.dst n = true) (hx : s.ev x = some (.t (.leaf (.string a)))) (hy : s.ev y = some (.t (.leaf (.string b)))) :
    AOp P C n o s (s.putO o.dst (.t (.leaf (.bool (decide (a = b)))))) := AOp.bin ho hd hx hy (fun w => by simp [eqGuard, binOp, Op.stringOp, bytes_beq]) trivial
theorem AOp.fieldPtr {T : TypeId} {x : Operand} {f k d e : Nat} (ho : o.op = .fieldAddr T x f) (hd : dstOk o.dst n = true) (hx : s.ev x = some (.ptr k d)) (hf : fieldOff P T f = some e) : AOp P C n o s (s.putO o.dst (.ptr k (d + e))) :=
  AOp.quiet (dstOk_lt hd) fun m a w h => by
    obtain ⟨h1, h2⟩ := h.eval hx
    refine ⟨_, ?_, h1, rfl⟩
    unfold execOp
    simp [ho, h2, run_fieldAt' hf]
theorem AOp.fieldEptr {T : TypeId} {x : Operand} {f e : Nat} {cs : List Tr} (ho : o.op = .fieldAddr T x f) (hd : dstOk o.dst n = true) (hx : s.ev x = some (.eptr cs)) (hf : fieldOff P T f = some e) : AOp P C n o s (s.putO o.dst (.eptr (cs.drop e))) :=
  AOp.quiet (dstOk_lt hd) fun m a w h => by
    obtain ⟨b, off, h1, hb, c, h2⟩ := h.eval hx
    refine ⟨.pointer (some ⟨b, off + e, none⟩), ?_, b, off + e, rfl, hb, fun j => c (e + j), fun j d hj => ?_⟩
    · unfold execOp
      simp [ho, h1, run_fieldAt' hf]
    · rw [List.getElem?_drop] at hj
      obtain ⟨k1, k2, k3⟩ := h2 _ _ hj
      exact ⟨by rw [Nat.add_assoc]; exact k1, by rw [Nat.add_assoc]; exact k2, k3⟩
/-- The data of a slice, whichever way it is held. -/
def rowOf : PV → Option (Nat × List (List Tr))
  | .t (.row sz es) => some (sz, es)
  | .acc sz es _ => some (sz, es)
  | _ => none
theorem rowOf_rv {ok : Nat → Nat → Prop} {st : Sto} {m : Lay} {w : World} {p : PV} {sz : Nat} {es : List (List Tr)} {v : Value} (h : rowOf p = some (sz, es)) (hr : RV ok st m w p v) : RepM ok w (.row sz es) v := by
  unfold rowOf at h
  split at h
  · cases h; exact hr
  · cases h
    obtain ⟨row, -, -, -, h4, -⟩ := hr
    exact h4
  · cases h
theorem AOp.index {T E sz by_ : Nat} {x i : Operand} {p : PV} {es : List (List Tr)} {e : List Tr} {k : Nat} (ho : o.op = .indexAddr T x i) (hd : dstOk o.dst n = true) (hx : s.ev x = some p) (hp : rowOf p = some (sz, es)) (hi : s.ev i = some (.t (.leaf (.int .i64 (k : Int)))))
    (he : es[k]? = some e) (hT : elemOf? P T = some (E, sz, by_)) : AOp P C n o s (s.putO o.dst (.eptr e)) :=
  AOp.quiet (dstOk_lt hd) fun m a w h => by
    have h1 := rowOf_rv hp (h.eval hx)
    have h2 := (RepM.leaf_eq (h.eval hi)).1
    cases hv : a.eval x with
    | slice ad len cap =>
      rw [hv] at h1
      cases h1 with
      | row c k1 k2 k3 k4 =>
        obtain ⟨b, off, rfl, hb, k5⟩ := k3 (by rintro rfl; simp at he)
        have hk : k < es.length := (List.getElem?_eq_some_iff.1 he).1
        refine ⟨.pointer (some ⟨b, off + k * sz, none⟩), ?_, b, off + k * sz, rfl, hb, c k, fun j d hj => ⟨(k5 k e he j d hj).1, (k5 k e he j d hj).2, k4 k e he j d hj⟩⟩
        unfold execOp
        simp [ho, hv, h2, run_indexAt' hT hk]
    | _ => rw [hv] at h1; cases h1
theorem AOp.len {T ty : TypeId} {x : Operand} {p : PV} {sz : Nat} {es : List (List Tr)} {E : Nat × Nat × Nat} (ho : o.op = .call { callee := .builtin .len, args := #[x], argTypes := #[T] }) (hd : dstOk o.dst n = true) (hx : s.ev x = some p) (hp : rowOf p = some (sz, es)) (hT : elemOf? P T = some E) :
    AOp P C n o s (s.putO o.dst (.t (.leaf (.int .i64 (es.length : Int))))) :=
  AOp.quiet (dstOk_lt hd) fun m a w h => by
    obtain ⟨ad, cap, h1, h2, h3⟩ := (rowOf_rv hp (h.eval hx)).shape
    obtain ⟨E1, E2, E3⟩ := E
    obtain ⟨i, hu, -, -, -⟩ := elemOf?.spec hT
    refine ⟨.int .i64 (es.length : Int), ?_, RepM.leaf (wf_i64 (by unfold maxLen at h3; omega))⟩
    unfold execOp
    simp [ho, resolve, invoke, builtin, h1, Builtin.len_, run_underlying hu, goInt]
theorem AOp.extract {x : Operand} {i : Nat} {ps : List PV} {p : PV} (ho : o.op = .extract x i) (hd : dstOk o.dst n = true) (hx : s.ev x = some (.tup ps)) (hi : ps[i]? = some p) : AOp P C n o s (s.putO o.dst p) :=
  AOp.quiet (dstOk_lt hd) fun m a w h => by
    obtain ⟨vs, h1, h2⟩ := h.eval hx
    obtain ⟨v, hv, hr⟩ := h2.get hi
    refine ⟨v, ?_, hr⟩
    unfold execOp
    simp [ho, h1, Instr.extract, hv]
/-- A load from one of our boxes. -/
theorem AOp.loadPtr {T : TypeId} {x : Operand} {k d z : Nat} {bx : PBox} {cs : List PV} (ho : o.op = .load T x) (hd : dstOk o.dst n = true) (hx : s.ev x = some (.ptr k d)) (hb : s.st.boxes[k]? = some (some bx)) (hT : shapeOf P T = some (true, z)) (hc : (bx.cells.drop d).take z = cs) (hl : cs.length = z) :
    AOp P C n o s (s.putO o.dst (.agg cs)) :=
  AOp.quiet (dstOk_lt hd) fun m a w h => by
    obtain ⟨-, h2⟩ := h.eval hx
    obtain ⟨vs, h3, h4⟩ := h.sto.box k bx hb
    have h5 := RVL.take z (RVL.drop d h4)
    rw [hc] at h5
    refine ⟨.agg ⟨(vs.drop d).take z⟩, ?_, _, rfl, h5⟩
    have hlen := h5.length
    have hld := run_loadVar_agg (P := P) (T := T) (b := m.ρ k) (off := d) (cs := (vs.drop d).take z) (w := w) (by rw [← hlen, hl]; exact hT) (fun j v hj => by
      have hjz : j < z := by have := (List.getElem?_eq_some_iff.1 hj).1; simp at this; omega
      rw [List.getElem?_take, if_pos hjz, List.getElem?_drop] at hj
      rw [h3.cell]
      simpa using hj)
    unfold execOp
    simp [ho, h2, Instr.loadAt, Instr.sureAddr, hld]
theorem AOp.loadPtr1 {T : TypeId} {x : Operand} {k d z : Nat} {bx : PBox} {p : PV} (ho : o.op = .load T x) (hd : dstOk o.dst n = true) (hx : s.ev x = some (.ptr k d)) (hb : s.st.boxes[k]? = some (some bx)) (hT : shapeOf P T = some (false, z)) (hc : bx.cells[d]? = some p) :
    AOp P C n o s (s.putO o.dst p) :=
  AOp.quiet (dstOk_lt hd) fun m a w h => by
    obtain ⟨-, h2⟩ := h.eval hx
    obtain ⟨vs, h3, h4⟩ := h.sto.box k bx hb
    obtain ⟨v, hv, hr⟩ := h4.get hc
    refine ⟨v, ?_, hr⟩
    have hld := run_loadVar_one (P := P) (T := T) (p := ⟨m.ρ k, d, none⟩) (v := v) (w := w) hT (by rw [h3.cell]; simpa using hv)
    unfold execOp
    simp [ho, h2, Instr.loadAt, Instr.sureAddr, hld]
theorem RVL.of_fn {ok : Nat → Nat → Prop} {st : Sto} {m : Lay} {w : World} {c : Nat → Value} : ∀ {ts : List Tr} (k : Nat), (∀ (j : Nat) d, ts[j]? = some d → RepM ok w d (c (k + j))) → RVL ok st m w (ts.map PV.t) ((List.range' k ts.length).map c) := by
  intro ts
  induction ts with
  | nil => intro k _; simp [RVL]
  | cons t ts ih =>
    intro k h
    refine ⟨h 0 t rfl, ?_⟩
    exact ih (k + 1) (fun j d hd => by have := h (j + 1) d (by simpa using hd); rwa [show k + 1 + j = k + (j + 1) by omega])
theorem AOp.loadEptr {T : TypeId} {x : Operand} {z : Nat} {cs ds : List Tr} (ho : o.op = .load T x) (hd : dstOk o.dst n = true) (hx : s.ev x = some (.eptr cs)) (hT : shapeOf P T = some (true, z)) (hc : cs.take z = ds) (hl : ds.length = z) :
    AOp P C n o s (s.putO o.dst (.agg (ds.map PV.t))) :=
  AOp.quiet (dstOk_lt hd) fun m a w h => by
    obtain ⟨b, off, h1, hb, c, h2⟩ := h.eval hx
    have hget : ∀ (j : Nat) d, ds[j]? = some d → cs[j]? = some d := fun j d hj => by
      rw [← hc, List.getElem?_take] at hj
      split at hj
      · exact hj
      · cases hj
    refine ⟨.agg ⟨(List.range' 0 ds.length).map c⟩, ?_, _, rfl, RVL.of_fn 0 fun j d hj => by rw [Nat.zero_add]; exact (h2 j d (hget j d hj)).2.2⟩
    have hld := run_loadVar_agg (P := P) (T := T) (b := b) (off := off) (cs := (List.range' 0 ds.length).map c) (w := w) (by simpa [hl] using hT) (fun j v hj => by
      rw [List.getElem?_map] at hj
      rcases hr : (List.range' 0 ds.length)[j]? with _ | i
      · simp [hr] at hj
      · have hjl : j < ds.length := by have := (List.getElem?_eq_some_iff.1 hr).1; simpa using this
        rw [List.getElem?_range' hjl] at hr
        simp at hr
        subst hr
        simp [List.getElem?_range' hjl] at hj
        rw [← hj]
        exact (h2 j ds[j] (hget j _ (List.getElem?_eq_getElem hjl))).2.1)
    unfold execOp
    simp [ho, h1, Instr.loadAt, Instr.sureAddr, hld]
theorem AOp.loadEptr1 {T : TypeId} {x : Operand} {z : Nat} {d : Tr} {cs : List Tr} (ho : o.op = .load T x) (hd : dstOk o.dst n = true) (hx : s.ev x = some (.eptr cs)) (hT : shapeOf P T = some (false, z)) (hc : cs[0]? = some d) :
    AOp P C n o s (s.putO o.dst (.t d)) :=
  AOp.quiet (dstOk_lt hd) fun m a w h => by
    obtain ⟨b, off, h1, hb, c, h2⟩ := h.eval hx
    obtain ⟨k1, k2, k3⟩ := h2 0 d hc
    refine ⟨c 0, ?_, k3⟩
    have hld := run_loadVar_one (P := P) (T := T) (p := ⟨b, off, none⟩) (v := c 0) (w := w) hT k2
    unfold execOp
    simp [ho, h1, Instr.loadAt, Instr.sureAddr, hld]
end
end Go.Proofs.YtnakkelglbcecaaGreat

namespace Go.Proofs.YtnakkelglbcecaaGreat
set_option linter.unusedSimpArgs false
set_option linter.unusedVariables false
open Go.RowKit Go.WalkArith Go.IntWalk Go.WideShapes

def upd {α : Type} (f : Nat → α) (k : Nat) (v : α) : Nat → α := fun i => if i = k then v else f i
theorem upd_same {α : Type} (f : Nat → α) (k : Nat) (v : α) : upd f k v k = v := by simp [upd]
theorem upd_ne {α : Type} {f : Nat → α} {k i : Nat} {v : α} (h : i ≠ k) : upd f k v i = f i := by simp [upd, h]

theorem getElem?_snoc {α : Type} {l : List α} {x y : α} {i : Nat} (h : (l ++ [x])[i]? = some y) : (i < l.length ∧ l[i]? = some y) ∨ (i = l.length ∧ y = x) := by
  rcases Nat.lt_or_ge i l.length with hi | hi
  · rw [List.getElem?_append_left hi] at h
    exact .inl ⟨hi, h⟩
  · rw [List.getElem?_append_right hi] at h
    rcases hk : i - l.length with _ | k
    · rw [hk] at h
      simp at h
      exact .inr ⟨by omega, h.symm⟩
    · rw [hk] at h
      simp at h
theorem get_lt {α : Type} {l : List α} {y : α} {i : Nat} (h : l[i]? = some y) : i < l.length := (List.getElem?_eq_some_iff.1 h).1

theorem heap_other_cell {w w' : World} {b o : Nat} (h : w'.heap[b]? = w.heap[b]?) : w'.cell? ⟨b, o, none⟩ = w.cell? ⟨b, o, none⟩ := World.cell?_of_block (a := ⟨b, o, none⟩) h

theorem StoOk.box_lt {av : Nat → Nat → Prop} {st : Sto} {m : Lay} {w : World} (h : StoOk av st m w) {k : Nat} {x : PBox} (hx : st.boxes[k]? = some (some x)) : m.ρ k < w.heap.size := by
  obtain ⟨vs, h1, -⟩ := h.box k x hx
  exact h1.lt
theorem StoOk.row_lt {av : Nat → Nat → Prop} {st : Sto} {m : Lay} {w : World} (h : StoOk av st m w) {r : Nat} {row : PRow} {g c : Nat} (hr : st.rows[r]? = some row) (hg : m.γ r = some (g, c)) : g < w.heap.size := by
  obtain ⟨-, -, h1⟩ := h.row r row hr
  rcases h1 with ⟨h1, -⟩ | ⟨g', c', cur, h1, h2, -⟩
  · rw [hg] at h1; cases h1
  · rw [hg] at h1
    injection h1 with h1
    injection h1 with h1 h3
    subst h1
    exact h2.lt

/-- The world may be later: what is known of stores stays. -/
theorem Ev.later {st : Sto} {m : Lay} {w w' : World} (h : Ext w w') : Ev st m w st m w' :=
  ⟨h.os, h.tape, h.output, h.size, fun b hb _ _ => h.block b hb, fun b o hb _ => heap_other_cell (h.block b hb), fun _ _ _ h => h, fun _ x h => ⟨⟨x, h⟩, rfl⟩, fun _ x h => .inl ⟨x, h⟩, fun _ row h => ⟨row, h, rfl, Nat.le_refl _, fun _ => rfl, fun h => ⟨h, rfl⟩⟩, fun _ row _ c h h' => .inl ⟨row, c, h, h'⟩⟩
theorem RepM.ext {ok : Nat → Nat → Prop} {w w' : World} {t : Tr} {v : Value} (h : RepM ok w t v) (hx : Ext w w') : RepM ok w' t v := h.mono hx.size (fun _ _ _ h => h) (fun _ _ hb _ => heap_other_cell (hx.block _ hb))
theorem StoOk.later {av : Nat → Nat → Prop} {st : Sto} {m : Lay} {w w' : World} (h : StoOk av st m w) (hx : Ext w w') : StoOk av st m w' where
  box := fun k x hk => by
    obtain ⟨vs, h1, h2⟩ := h.box k x hk
    exact ⟨vs, h1.ext hx, RVL.mono (Ev.later hx) _ _ h2⟩
  binj := h.binj
  row := fun r row hr => by
    obtain ⟨h1, h2, h3⟩ := h.row r row hr
    refine ⟨h1, h2, ?_⟩
    rcases h3 with h3 | ⟨g, c, cur, k1, k2, k3, k4, k5, k6⟩
    · exact .inl h3
    · exact .inr ⟨g, c, cur, k1, k2.ext hx, k3, k4, k5, k6.ext hx⟩
  rinj := h.rinj
  br := h.br
  avlt := fun b o hb => Nat.lt_of_lt_of_le (h.avlt b o hb) hx.size
  avr := h.avr

/-! ### A new box -/
def Sto.addBox (st : Sto) (x : PBox) : Sto := ⟨st.boxes ++ [some x], st.rows⟩
theorem addBox_live {st : Sto} {x y : PBox} {k : Nat} (h : (st.addBox x).boxes[k]? = some (some y)) : (k < st.boxes.length ∧ st.boxes[k]? = some (some y)) ∨ (k = st.boxes.length ∧ y = x) := by
  rcases getElem?_snoc h with h | ⟨h1, h2⟩
  · exact .inl h
  · exact .inr ⟨h1, Option.some.inj h2⟩
theorem ev_addBox {st : Sto} {m : Lay} {w : World} {x : PBox} {vs : Array Value} : Ev st m w (st.addBox x) ⟨upd m.ρ st.boxes.length w.heap.size, m.γ⟩ (w.alloc (.cells vs x.ty)) := by
  have hx : Ext w (w.alloc (.cells vs x.ty)) := .alloc (.refl _) _
  refine ⟨hx.os, hx.tape, hx.output, hx.size, fun b hb _ _ => hx.block b hb, fun b o hb _ => heap_other_cell (hx.block b hb), fun b o hb h => ⟨fun k y hk => ?_, h.2⟩, fun k y hk => ⟨⟨y, ?_⟩, ?_⟩, fun k y hk => ?_, fun _ row h => ⟨row, h, rfl, Nat.le_refl _, fun _ => rfl, fun h => ⟨h, rfl⟩⟩, fun _ row _ c h h' => .inl ⟨row, c, h, h'⟩⟩
  · rcases addBox_live hk with ⟨h1, h2⟩ | ⟨rfl, rfl⟩
    · simp only [upd_ne (show k ≠ st.boxes.length by omega)]
      exact h.1 k y h2
    · simp only [upd_same]
      omega
  · show (st.boxes ++ [some x])[k]? = _
    rw [List.getElem?_append_left (get_lt hk)]; exact hk
  · exact upd_ne (by have := get_lt hk; omega)
  · rcases addBox_live hk with ⟨h1, h2⟩ | ⟨rfl, rfl⟩
    · exact .inl ⟨y, h2⟩
    · exact .inr (by simp [upd_same])
theorem sto_addBox {av : Nat → Nat → Prop} {st : Sto} {m : Lay} {w : World} {x : PBox} {vs : List Value} (h : StoOk av st m w) (hc : RVL (okA av st m) st m w x.cells vs) :
    StoOk av (st.addBox x) ⟨upd m.ρ st.boxes.length w.heap.size, m.γ⟩ (w.alloc (.cells ⟨vs⟩ x.ty)) := by
  have hx : Ext w (w.alloc (.cells ⟨vs⟩ x.ty)) := .alloc (.refl _) _
  have he : Ev st m w (st.addBox x) ⟨upd m.ρ st.boxes.length w.heap.size, m.γ⟩ (w.alloc (.cells ⟨vs⟩ x.ty)) := ev_addBox
  have hw := fun k y (hk : st.boxes[k]? = some (some y)) => h.box_lt hk
  refine ⟨fun k y hk => ?_, fun k k' y y' hk hk' hne => ?_, fun r row hr => ?_, h.rinj, fun k y r row g c hk hr hg => ?_, fun b o hb => Nat.lt_of_lt_of_le (h.avlt b o hb) hx.size, h.avr⟩
  · rcases addBox_live hk with ⟨h1, h2⟩ | ⟨rfl, rfl⟩
    · obtain ⟨us, k1, k2⟩ := h.box k y h2
      simp only [upd_ne (show k ≠ st.boxes.length by omega)]
      exact ⟨us, k1.ext hx, RVL.mono he _ _ k2⟩
    · simp only [upd_same]
      exact ⟨vs, OB.new w _ _, RVL.mono he _ _ hc⟩
  · rcases addBox_live hk with ⟨h1, h2⟩ | ⟨rfl, rfl⟩ <;> rcases addBox_live hk' with ⟨h1', h2'⟩ | ⟨rfl, rfl⟩
    · simp only [upd_ne (show k ≠ st.boxes.length by omega), upd_ne (show k' ≠ st.boxes.length by omega)]
      exact h.binj k k' y y' h2 h2' hne
    · simp only [upd_ne (show k ≠ st.boxes.length by omega), upd_same]
      have := hw k y h2
      omega
    · simp only [upd_ne (show k' ≠ st.boxes.length by omega), upd_same]
      have := hw k' y' h2'
      omega
    · exact absurd rfl hne
  · obtain ⟨k1, k2, k3⟩ := h.row r row hr
    refine ⟨k1, k2, ?_⟩
    rcases k3 with k3 | ⟨g, c, cur, q1, q2, q3, q4, q5, q6⟩
    · exact .inl k3
    · exact .inr ⟨g, c, cur, q1, q2.ext hx, q3, q4, q5, RV.mono he (.t _) _ q6⟩
  · rcases addBox_live hk with ⟨h1, h2⟩ | ⟨rfl, rfl⟩
    · simp only [upd_ne (show k ≠ st.boxes.length by omega)]
      exact h.br k y r row g c h2 hr hg
    · simp only [upd_same]
      have := h.row_lt hr hg
      omega

/-! ### A box is written -/
def Sto.setBox (st : Sto) (k : Nat) (x : PBox) : Sto := ⟨st.boxes.set k (some x), st.rows⟩
theorem setBox_live {st : Sto} {x y : PBox} {k i : Nat} (h : (st.setBox k x).boxes[i]? = some (some y)) : (i ≠ k ∧ st.boxes[i]? = some (some y)) ∨ (i = k ∧ y = x) := by
  have h : (st.boxes.set k (some x))[i]? = some (some y) := h
  rw [List.getElem?_set] at h
  split at h
  · rename_i hik
    split at h
    · exact .inr ⟨hik.symm, by simpa using h.symm⟩
    · cases h
  · rename_i hik
    exact .inl ⟨fun e => hik e.symm, h⟩
theorem ev_setBox {av : Nat → Nat → Prop} {st : Sto} {m : Lay} {w w1 : World} {k : Nat} {x y : PBox} (hst : StoOk av st m w) (hk : st.boxes[k]? = some (some x)) (hos : w1.os = w.os) (ht : w1.tape = w.tape) (hout : w1.output = w.output) (hz : w1.heap.size = w.heap.size)
    (hb : ∀ b, b ≠ m.ρ k → w1.heap[b]? = w.heap[b]?) : Ev st m w (st.setBox k y) m w1 := by
  refine ⟨hos, ht, hout, by omega, fun b _ h1 _ => hb b (fun e => h1 k x hk e.symm), fun b o _ h => heap_other_cell (hb b (fun e => h.1 k x hk e.symm)), fun b o _ h => ⟨fun i z hi => ?_, h.2⟩, fun i z hi => ⟨?_, rfl⟩, fun i z hi => ?_, fun _ row h => ⟨row, h, rfl, Nat.le_refl _, fun _ => rfl, fun h => ⟨h, rfl⟩⟩, fun _ row _ c h h' => .inl ⟨row, c, h, h'⟩⟩
  · rcases setBox_live hi with ⟨h1, h2⟩ | ⟨rfl, rfl⟩
    · exact h.1 i z h2
    · exact h.1 _ x hk
  · show ∃ x', (st.boxes.set k (some y))[i]? = some (some x')
    rw [List.getElem?_set]
    by_cases hik : k = i
    · subst hik
      exact ⟨y, by simp [get_lt hi]⟩
    · exact ⟨z, by rw [if_neg hik]; exact hi⟩
  · rcases setBox_live hi with ⟨h1, h2⟩ | ⟨rfl, rfl⟩
    · exact .inl ⟨z, h2⟩
    · exact .inl ⟨x, hk⟩
theorem sto_setBox {av : Nat → Nat → Prop} {st : Sto} {m : Lay} {w w1 : World} {k : Nat} {x y : PBox} {vs : List Value} (hst : StoOk av st m w) (hk : st.boxes[k]? = some (some x)) (hos : w1.os = w.os) (ht : w1.tape = w.tape) (hout : w1.output = w.output) (hz : w1.heap.size = w.heap.size)
    (hb : ∀ b, b ≠ m.ρ k → w1.heap[b]? = w.heap[b]?) (hob : OB w1 (m.ρ k) y.ty ⟨vs⟩) (hc : RVL (okA av st m) st m w y.cells vs) : StoOk av (st.setBox k y) m w1 := by
  have he : Ev st m w (st.setBox k y) m w1 := ev_setBox hst hk hos ht hout hz hb
  refine ⟨fun i z hi => ?_, fun i i' z z' hi hi' hne => ?_, fun r row hr => ?_, hst.rinj, fun i z r row g c hi hr hg => ?_, fun b o h => by rw [hz]; exact hst.avlt b o h, hst.avr⟩
  · rcases setBox_live hi with ⟨h1, h2⟩ | ⟨rfl, rfl⟩
    · obtain ⟨us, k1, k2⟩ := hst.box i z h2
      exact ⟨us, (hb _ (hst.binj i k z x h2 hk h1)).trans k1, RVL.mono he _ _ k2⟩
    · exact ⟨vs, hob, RVL.mono he _ _ hc⟩
  · have key : ∀ i z, (st.setBox k y).boxes[i]? = some (some z) → ∃ z', st.boxes[i]? = some (some z') := fun i z hi => by
      rcases setBox_live hi with ⟨h1, h2⟩ | ⟨rfl, rfl⟩
      · exact ⟨z, h2⟩
      · exact ⟨x, hk⟩
    obtain ⟨u, hu⟩ := key i z hi
    obtain ⟨u', hu'⟩ := key i' z' hi'
    exact hst.binj i i' u u' hu hu' hne
  · obtain ⟨k1, k2, k3⟩ := hst.row r row hr
    refine ⟨k1, k2, ?_⟩
    rcases k3 with k3 | ⟨g, c, cur, q1, q2, q3, q4, q5, q6⟩
    · exact .inl k3
    · exact .inr ⟨g, c, cur, q1, (hb g (fun e => hst.br k x r row g c hk hr q1 e.symm)).trans q2, q3, q4, q5, RV.mono he (.t _) _ q6⟩
  · rcases setBox_live hi with ⟨h1, h2⟩ | ⟨rfl, rfl⟩
    · exact hst.br i z r row g c h2 hr hg
    · exact hst.br _ x r row g c hk hr hg

/-! ### A row grows -/
def Sto.setRow (st : Sto) (r : Nat) (row : PRow) : Sto := ⟨st.boxes, st.rows.set r row⟩
theorem setRow_live {st : Sto} {x y : PRow} {k i : Nat} (h : (st.setRow k x).rows[i]? = some y) : (i ≠ k ∧ st.rows[i]? = some y) ∨ (i = k ∧ y = x) := by
  have h : (st.rows.set k x)[i]? = some y := h
  rw [List.getElem?_set] at h
  split at h
  · rename_i hik
    split at h
    · exact .inr ⟨hik.symm, by simpa using h.symm⟩
    · cases h
  · rename_i hik
    exact .inl ⟨fun e => hik e.symm, h⟩

/-- A row has come to hold more: at the place (g, c); the row's old place, if it had one, is the same or is left alone. -/
structure Grow (av : Nat → Nat → Prop) (st : Sto) (m : Lay) (w : World) (r : Nat) (row : PRow) (es2 : List (List Tr)) (g c : Nat) (cur : Array Value) (w1 : World) : Prop where
  live : st.rows[r]? = some row
  os : w1.os = w.os
  tape : w1.tape = w.tape
  output : w1.output = w.output
  size : w.heap.size ≤ w1.heap.size
  blk : ∀ b, b < w.heap.size → b ≠ g → w1.heap[b]? = w.heap[b]?
  ob : OB w1 g row.E cur
  csz : cur.size = c * row.sz
  fit : row.es.length + es2.length ≤ c
  max : c ≤ maxLen
  lens : ∀ e ∈ es2, e.length = row.sz
  old : ∀ i e, row.es[i]? = some e → ∀ j d, e[j]? = some d → ∃ v, cur[i * row.sz + j]? = some v ∧ RepM (okA av st m) w d v
  new : ∀ i e, es2[i]? = some e → ∀ j d, e[j]? = some d → ∃ v, cur[(row.es.length + i) * row.sz + j]? = some v ∧ RepM (okA av st m) w d v
  place : (∃ c0 cur0, m.γ r = some (g, c0) ∧ OB w g row.E cur0 ∧ ∀ o, o < row.es.length * row.sz → cur[o]? = cur0[o]?) ∨ w.heap.size ≤ g
  cap : row.whole = true ∨ es2 = [] → m.γ r = some (g, c)

theorem Grow.ev {av : Nat → Nat → Prop} {st : Sto} {m : Lay} {w : World} {r : Nat} {row : PRow} {es2 : List (List Tr)} {g c : Nat} {cur : Array Value} {w1 : World} (h : Grow av st m w r row es2 g c cur w1) (hst : StoOk av st m w) :
    Ev st m w (st.setRow r { row with es := row.es ++ es2 }) ⟨m.ρ, upd m.γ r (some (g, c))⟩ w1 := by
  have hg : ∀ b, b < w.heap.size → b = g → ∃ c0, m.γ r = some (g, c0) := fun b hb e => by
    rcases h.place with ⟨c0, cur0, h1, -⟩ | h1
    · exact ⟨c0, h1⟩
    · omega
  refine ⟨h.os, h.tape, h.output, h.size, fun b hb _ h2 => h.blk b hb fun e => ?_, fun b o hb hk => ?_, fun b o hb hk => ⟨hk.1, fun i row' g' c' hi hg' e => ?_⟩, fun k x hk => ⟨⟨x, hk⟩, rfl⟩, fun k x hk => .inl ⟨x, hk⟩, fun i row' hi => ?_, fun i row' g' c' hi hg' => ?_⟩
  · obtain ⟨c0, h1⟩ := hg b hb e
    exact h2 r row g c0 h.live h1 e.symm
  · by_cases e : b = g
    · subst e
      rcases h.place with ⟨c0, cur0, h1, h2, h3⟩ | h1
      · have ho := hk.2 r row b c0 h.live h1 rfl
        rw [h.ob.cell, h2.cell, h3 o ho]
      · omega
    · exact heap_other_cell (h.blk b hb e)
  · rcases setRow_live hi with ⟨h1, h2⟩ | ⟨rfl, rfl⟩
    · simp only [upd_ne h1] at hg'
      exact hk.2 i row' g' c' h2 hg' e
    · simp only [upd_same, Option.some.injEq, Prod.mk.injEq] at hg'
      obtain ⟨rfl, rfl⟩ := hg'
      subst e
      obtain ⟨c0, h1⟩ := hg _ hb rfl
      have := hk.2 _ row _ c0 h.live h1 rfl
      simp only [List.length_append]
      exact Nat.lt_of_lt_of_le this (Nat.mul_le_mul_right _ (by omega))
  · by_cases e : i = r
    · subst e
      rw [h.live] at hi
      cases hi
      refine ⟨{ row with es := row.es ++ es2 }, by show (st.rows.set i _)[i]? = _; simp [List.getElem?_set, get_lt h.live], rfl, by simp, fun he => ?_, fun hw => ⟨hw, ?_⟩⟩
      · simp only [upd_same]
        exact (h.cap (.inr (by simpa using he))).symm
      · simp only [upd_same]
        exact (h.cap (.inl hw)).symm
    · refine ⟨row', by show (st.rows.set r _)[i]? = _; rw [List.getElem?_set, if_neg (fun e' => e e'.symm)]; exact hi, rfl, Nat.le_refl _, fun _ => upd_ne e, fun hw => ⟨hw, upd_ne e⟩⟩
  · rcases setRow_live hi with ⟨h1, h2⟩ | ⟨rfl, rfl⟩
    · simp only [upd_ne h1] at hg'
      exact .inl ⟨row', c', h2, hg'⟩
    · simp only [upd_same, Option.some.injEq, Prod.mk.injEq] at hg'
      obtain ⟨rfl, rfl⟩ := hg'
      rcases h.place with ⟨c0, cur0, h1, -⟩ | h1
      · exact .inl ⟨row, c0, h.live, h1⟩
      · exact .inr h1

theorem Grow.sto {av : Nat → Nat → Prop} {st : Sto} {m : Lay} {w : World} {r : Nat} {row : PRow} {es2 : List (List Tr)} {g c : Nat} {cur : Array Value} {w1 : World} (h : Grow av st m w r row es2 g c cur w1) (hst : StoOk av st m w) :
    StoOk av (st.setRow r { row with es := row.es ++ es2 }) ⟨m.ρ, upd m.γ r (some (g, c))⟩ w1 := by
  have he := h.ev hst
  have hgn : ∀ i row' c', i ≠ r → st.rows[i]? = some row' → m.γ i = some (g, c') → False := fun i row' c' hne hi hg => by
    rcases h.place with ⟨c0, cur0, h1, -⟩ | h1
    · exact hne (hst.rinj i r row' row g c' c0 hi h.live hg h1)
    · have := hst.row_lt hi hg; omega
  have hbn : ∀ k x, st.boxes[k]? = some (some x) → m.ρ k ≠ g := fun k x hk e => by
    rcases h.place with ⟨c0, cur0, h1, -⟩ | h1
    · exact hst.br k x r row g c0 hk h.live h1 e
    · have := hst.box_lt hk; omega
  have hav : ∀ o, ¬ av g o := fun o ha => by
    rcases h.place with ⟨c0, cur0, h1, -⟩ | h1
    · exact hst.avr r row g c0 h.live h1 o ha
    · have := hst.avlt _ _ ha; omega
  obtain ⟨hpos, hlens, -⟩ := hst.row r row h.live
  refine ⟨fun k x hk => ?_, hst.binj, fun i row' hi => ?_, fun i i' row' row'' g' c' c'' hi hi' hg hg' => ?_, fun k x i row' g' c' hk hi hg => ?_, fun b o hb => Nat.lt_of_lt_of_le (hst.avlt b o hb) h.size, fun i row' g' c' hi hg o => ?_⟩
  · obtain ⟨vs, k1, k2⟩ := hst.box k x hk
    exact ⟨vs, (h.blk _ k1.lt (hbn k x hk)).trans k1, RVL.mono he _ _ k2⟩
  · rcases setRow_live hi with ⟨h1, h2⟩ | ⟨rfl, rfl⟩
    · obtain ⟨k1, k2, k3⟩ := hst.row i row' h2
      refine ⟨k1, k2, ?_⟩
      simp only [upd_ne h1]
      rcases k3 with k3 | ⟨g', c', cur', q1, q2, q3, q4, q5, q6⟩
      · exact .inl k3
      · refine .inr ⟨g', c', cur', q1, (h.blk g' q2.lt (fun e => ?_)).trans q2, q3, q4, q5, RV.mono he (.t _) _ q6⟩
        subst e
        exact hgn i row' c' h1 h2 q1
    · refine ⟨hpos, fun e he' => ?_, .inr ⟨g, c, cur, upd_same _ _ _, h.ob, h.csz, by simpa using h.fit, h.max, ?_⟩⟩
      · rcases List.mem_append.1 he' with h1 | h1
        · exact hlens e h1
        · exact h.lens e h1
      · have hget : ∀ q e, (row.es ++ es2)[q]? = some e → ∀ j d, e[j]? = some d → ∃ v, cur[q * row.sz + j]? = some v ∧ RepM (okA av st m) w d v := fun q e hq j d hd => by
          rcases Nat.lt_or_ge q row.es.length with hlt | hge
          · rw [List.getElem?_append_left hlt] at hq
            exact h.old q e hq j d hd
          · rw [List.getElem?_append_right hge] at hq
            have := h.new _ e hq j d hd
            rwa [show row.es.length + (q - row.es.length) = q by omega] at this
        have hlen2 : ∀ q e, (row.es ++ es2)[q]? = some e → q < (row.es ++ es2).length ∧ e.length = row.sz := fun q e hq => by
          refine ⟨get_lt hq, ?_⟩
          rcases List.mem_append.1 (List.mem_of_getElem? hq) with h1 | h1
          · exact hlens e h1
          · exact h.lens e h1
        refine RepM.row (es := row.es ++ es2) (fun q j => (cur[q * row.sz + j]?).getD undef) (by simpa using h.fit) h.max (fun _ => ⟨g, 0, rfl, h.ob.lt, fun q e hq j d hd => ⟨?_, ?_⟩⟩) (fun q e hq j d hd => ?_)
        · rw [Nat.zero_add]
          refine ⟨hav _, fun k x hk => hbn k x hk, fun i' row' g' c' hi' hg' e' => ?_⟩
          rcases setRow_live hi' with ⟨h1, h2⟩ | ⟨rfl, rfl⟩
          · simp only [upd_ne h1] at hg'
            subst e'
            exact (hgn i' row' c' h1 h2 hg').elim
          · obtain ⟨h1, h2⟩ := hlen2 q e hq
            have hj := get_lt hd
            show q * row.sz + j < (row.es ++ es2).length * row.sz
            have : (q + 1) * row.sz ≤ (row.es ++ es2).length * row.sz := Nat.mul_le_mul_right _ h1
            rw [Nat.succ_mul] at this
            omega
        · obtain ⟨v, hv, -⟩ := hget q e hq j d hd
          rw [Nat.zero_add, h.ob.cell, hv]
          rfl
        · obtain ⟨v, hv, hr⟩ := hget q e hq j d hd
          rw [hv]
          exact RV.mono he (.t d) _ hr
  · rcases setRow_live hi with ⟨h1, h2⟩ | ⟨rfl, rfl⟩ <;> rcases setRow_live hi' with ⟨h1', h2'⟩ | ⟨rfl, rfl⟩
    · simp only [upd_ne h1] at hg
      simp only [upd_ne h1'] at hg'
      exact hst.rinj i i' row' row'' g' c' c'' h2 h2' hg hg'
    · simp only [upd_ne h1] at hg
      simp only [upd_same, Option.some.injEq, Prod.mk.injEq] at hg'
      obtain ⟨rfl, rfl⟩ := hg'
      exact (hgn i row' c' h1 h2 hg).elim
    · simp only [upd_ne h1'] at hg'
      simp only [upd_same, Option.some.injEq, Prod.mk.injEq] at hg
      obtain ⟨rfl, rfl⟩ := hg
      exact (hgn i' row'' c'' h1' h2' hg').elim
    · rfl
  · rcases setRow_live hi with ⟨h1, h2⟩ | ⟨rfl, rfl⟩
    · simp only [upd_ne h1] at hg
      exact hst.br k x i row' g' c' hk h2 hg
    · simp only [upd_same, Option.some.injEq, Prod.mk.injEq] at hg
      obtain ⟨rfl, rfl⟩ := hg
      exact hbn k x hk
  · rcases setRow_live hi with ⟨h1, h2⟩ | ⟨rfl, rfl⟩
    · simp only [upd_ne h1] at hg
      exact hst.avr i row' g' c' h2 hg o
    · simp only [upd_same, Option.some.injEq, Prod.mk.injEq] at hg
      obtain ⟨rfl, rfl⟩ := hg
      exact hav o

/-! ### A row comes to be -/
def Sto.addRow (st : Sto) (row : PRow) : Sto := ⟨st.boxes, st.rows ++ [row]⟩
theorem ev_addRow {av : Nat → Nat → Prop} {st : Sto} {m : Lay} {w : World} {row : PRow} (_hst : StoOk av st m w) : Ev st m w (st.addRow row) ⟨m.ρ, upd m.γ st.rows.length none⟩ w := by
  refine ⟨rfl, rfl, rfl, Nat.le_refl _, fun _ _ _ _ => rfl, fun _ _ _ _ => rfl, fun b o _ h => ⟨h.1, fun i row' g c hi hg e => ?_⟩, fun _ x h => ⟨⟨x, h⟩, rfl⟩, fun _ x h => .inl ⟨x, h⟩, fun i row' hi => ⟨row', ?_, rfl, Nat.le_refl _, fun _ => ?_, fun hw => ⟨hw, ?_⟩⟩, fun i row' g c hi hg => ?_⟩
  · rcases getElem?_snoc hi with ⟨h1, h2⟩ | ⟨rfl, rfl⟩
    · simp only [upd_ne (show i ≠ st.rows.length by omega)] at hg
      exact h.2 i row' g c h2 hg e
    · simp [upd_same] at hg
  · show (st.rows ++ [row])[i]? = _
    rw [List.getElem?_append_left (get_lt hi)]; exact hi
  · exact upd_ne (by have := get_lt hi; omega)
  · exact upd_ne (by have := get_lt hi; omega)
  · rcases getElem?_snoc hi with ⟨h1, h2⟩ | ⟨rfl, rfl⟩
    · simp only [upd_ne (show i ≠ st.rows.length by omega)] at hg
      exact .inl ⟨row', c, h2, hg⟩
    · simp [upd_same] at hg
theorem sto_addRow {av : Nat → Nat → Prop} {st : Sto} {m : Lay} {w : World} {row : PRow} (h : StoOk av st m w) (hp : 0 < row.sz) (he : row.es = []) : StoOk av (st.addRow row) ⟨m.ρ, upd m.γ st.rows.length none⟩ w := by
  have ev := ev_addRow (row := row) h
  have key : ∀ i row' g c, (st.addRow row).rows[i]? = some row' → upd m.γ st.rows.length none i = some (g, c) → st.rows[i]? = some row' ∧ m.γ i = some (g, c) := fun i row' g c hi hg => by
    rcases getElem?_snoc hi with ⟨h1, h2⟩ | ⟨rfl, rfl⟩
    · rw [upd_ne (show i ≠ st.rows.length by omega)] at hg
      exact ⟨h2, hg⟩
    · simp [upd_same] at hg
  refine ⟨fun k x hk => ?_, h.binj, fun i row' hi => ?_, fun i i' row' row'' g c c' hi hi' hg hg' => ?_, fun k x i row' g c hk hi hg => ?_, h.avlt, fun i row' g c hi hg => ?_⟩
  · obtain ⟨vs, k1, k2⟩ := h.box k x hk
    exact ⟨vs, k1, RVL.mono ev _ _ k2⟩
  · rcases getElem?_snoc hi with ⟨h1, h2⟩ | ⟨rfl, rfl⟩
    · obtain ⟨k1, k2, k3⟩ := h.row i row' h2
      refine ⟨k1, k2, ?_⟩
      simp only [upd_ne (show i ≠ st.rows.length by omega)]
      rcases k3 with k3 | ⟨g, c, cur, q1, q2, q3, q4, q5, q6⟩
      · exact .inl k3
      · exact .inr ⟨g, c, cur, q1, q2, q3, q4, q5, RV.mono ev (.t _) _ q6⟩
    · exact ⟨hp, by rw [he]; simp, .inl ⟨upd_same _ _ _, he⟩⟩
  · obtain ⟨h1, h2⟩ := key i row' g c hi hg
    obtain ⟨h1', h2'⟩ := key i' row'' g c' hi' hg'
    exact h.rinj i i' row' row'' g c c' h1 h1' h2 h2'
  · obtain ⟨h1, h2⟩ := key i row' g c hi hg
    exact h.br k x i row' g c hk h1 h2
  · obtain ⟨h1, h2⟩ := key i row' g c hi hg
    exact h.avr i row' g c h1 h2
end Go.Proofs.YtnakkelglbcecaaGreat
