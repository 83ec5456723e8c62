/- The laws' own marks: what mark.. and held.. do to plain data of our own. Condition: fewer than 2^41 marks. -/
import Derived.Test.YtoifjkggpanceaaCtr
import Derived.Test.YtoifjkggpanceaaData
import Derived.Test.YtoifjkggpanceaaFoc
import Derived.Test.YtoifjkggpanceaaReg
import Derived.WalkArith
namespace Go.Proofs.Ytoifjkggpanceaa
open Go.RowKit Go.Proofs

def MarkSC (f : FuncId) (sz : Nat) (es : List (List Tr)) : Prop := ∀ (s : Value) (kz : Int) (k : Nat) (S : Nat → Prop) (w : World), kz = (k : Int) → Own w (.row sz es) s S → (∀ x, S x → x < w.heap.size) → k + Tr.cntE es ≤ 1152921504606846976 →
  Calls Try.prog f #[s, .int .i64 kz] w fun e w' => e = .returned (.int .i64 ((k + Tr.cntE es : Nat) : Int)) ∧ Own w' (.row sz (Tr.markE es k)) s S ∧ Chg S w w'
def HeldSC (f : FuncId) (sz : Nat) (es : List (List Tr)) : Prop := ∀ (s : Value) (kz : Int) (k : Nat) (w : World), kz = (k : Int) → Rep w (.row sz (Tr.markE es k)) s → k + Tr.cntE es ≤ 1152921504606846976 →
  Calls Try.prog f #[s, .int .i64 kz] w fun e w' => e = .returned (.int .i64 ((k + Tr.cntE es : Nat) : Int)) ∧ Ext w w'
def MarkC (f : FuncId) (ts : List Tr) : Prop := ∀ (cs : List Value) (kz : Int) (k : Nat) (S : Nat → Prop) (w : World), kz = (k : Int) → OwnL w ts cs S → (∀ x, S x → x < w.heap.size) → k + Tr.topN ts ≤ 1152921504606846976 →
  Calls Try.prog f #[.agg ⟨cs⟩, .int .i64 kz] w fun e w' => e = .returned (.int .i64 ((k + Tr.topN ts : Nat) : Int)) ∧ OwnL w' (Tr.topL ts k) cs S ∧ Chg S w w'
def HeldC (f : FuncId) (ts : List Tr) : Prop := ∀ (cs : List Value) (kz : Int) (k : Nat) (w : World), kz = (k : Int) → RepL w (Tr.topL ts k) cs → k + Tr.topN ts ≤ 1152921504606846976 →
  Calls Try.prog f #[.agg ⟨cs⟩, .int .i64 kz] w fun e w' => e = .returned (.int .i64 ((k + Tr.topN ts : Nat) : Int)) ∧ Ext w w'
theorem bytes_same (a : ByteArray) : (a.toList == a.toList) = true := by simp

set_option maxRecDepth 100000 in
set_option maxHeartbeats 2000000 in
theorem markText_any (kz : Int) (k : Nat) (w : World) (hz : kz = (k : Int)) (hk : k ≤ 2305843009213693952) :
    Calls Try.prog 121 #[.int .i64 kz] w fun e w' => e = .returned (.string (mtext k)) ∧ Ext w w' := by
  subst hz
  by_cases h0 : k = 0
  · subst h0
    go_enter Try.func121, Try.ntmps121
    go_wp2_with fail
    go_ret
    exact ⟨rfl, .refl _⟩
  · have hp : ¬ ((k : Int) ≤ 0) := by omega
    have HK : Hid (mtext k = ⟨((109 : UInt8) :: digits k).toArray⟩) := by show _ = _; unfold mtext; rw [if_neg h0]
    go_enter Try.func121, Try.ntmps121
    go_wp2_with fail
    go_loopw [0, 3] (fun kv ov wr => ∃ (j : Nat) (out : List UInt8), j ≤ k ∧ kv = .int .i64 j ∧ ov = .string ⟨out.toArray⟩ ∧ Ext w wr ∧ Hid (digits j ++ out = digits k) ∧ out.length ≤ 19 ∧ Hid ((digits j).length + out.length ≤ 19)) (fun kv _ _ => (intOf kv).toNat)
    case atStart => exact ⟨k, [], Nat.le_refl _, rfl, rfl, .refl _, by show _ = _; rw [List.append_nil], by simp, by have := digits_length k 19 (by omega); show _ ≤ _; simpa using this⟩
    case round =>
      obtain ⟨j, out, hj, rfl, rfl, hw, HD, hol, HL⟩ := hrel
      by_cases hlt : j = 0
      · subst hlt
        go_wp2_with fail
        go_ret
        refine ⟨?_, hw⟩
        have hd := HD.out
        rw [digits_zero, List.nil_append] at hd
        have he : (⟨#[109]⟩ : ByteArray) ++ ⟨out.toArray⟩ = mtext k := by rw [HK.out, bytes_cons, hd]
        exact congrArg (fun s => Ending.returned (.string s)) he
      · have hj0 : (0 : Int) < (j : Int) := by omega
        have HB : Hid (∀ q (hq : q < [UInt8.ofNat (48 + j % 10)].length), (wr.alloc (.cells #[.int .u8 (48 + (j : Int) % 10)] 5)).cell? ⟨wr.heap.size, q, none⟩ = some (.int .u8 (([UInt8.ofNat (48 + j % 10)][q]'hq).toNat : Int))) := by
          intro q hq
          obtain rfl : q = 0 := by simpa using hq
          rw [(OB.new wr _ _).cell]
          simp
          omega
        have HS : Hid ((digits j).length = (digits (j / 10)).length + 1) := by show _ = _; rw [digits_pos hlt]; simp
        have HR : Hid (digits (j / 10) ++ (UInt8.ofNat (48 + j % 10) :: out) = digits k) := by show _ = _; rw [← HD.out, digits_pos hlt]; simp
        have hsz : ({data := out.toArray} : ByteArray).size ≤ 19 := by show out.toArray.size ≤ 19; simpa using hol
        generalize UInt8.ofNat (48 + j % 10) = d at *
        go_wp2_with (refine wpList_bytes_back rfl 59 9 5 (.tmp 12) rfl Try.underlying59 Try.underlying5 Try.underlying9 wr.heap.size 1 1 [d] rfl rfl HB.out ?_)
        go_roundw
        case rel => exact ⟨j / 10, d :: out, by omega, by go_num, by congr 1, .trans hw (.alloc (.refl _) _), HR.out, by have h1 := HL.out; have h2 := HS.out; simp only [List.length_cons]; omega, by have h1 := HL.out; have h2 := HS.out; show _ ≤ _; simp only [List.length_cons]; omega⟩
        case measure => simp [intOf]; omega

set_option maxRecDepth 100000 in
set_option maxHeartbeats 2000000 in
theorem markIntS_all (l : List Int) : MarkSC 31 1 (intTrs l) := by
  intro s kz k S w hz hown hS hbd
  subst hz
  obtain ⟨a, cap, rfl, hl, hm⟩ := hown.rep.shape
  rw [intTrs_len] at *
  unfold maxLen at hm
  have HO := Lib.hid hown
  have HSS := Lib.hid hS
  clear hown hS
  go_enter Try.func31, Try.ntmps31
  go_wp2_with fail
  go_loopw [1, 5] (fun kv i wr => ∃ j m : Nat, j ≤ l.length ∧ i = .int .i64 j ∧ kv = .int .i64 (m : Int) ∧ Hid (m = k + Tr.cntE ((intTrs l).take j)) ∧ Hid (Own wr (.row 1 (Tr.mid (intTrs l) k j)) (.slice a l.length cap) S) ∧ Hid (Chg S w wr)) (fun _ i _ => l.length - (intOf i).toNat)
  case atStart => exact ⟨0, k, Nat.zero_le _, rfl, rfl, by show _ = _; simp [Tr.cntE], by show Own _ _ _ _; rw [Tr.mid_zero]; exact HO.out, Chg.refl _ _⟩
  case round =>
    obtain ⟨j, m, hj, rfl, rfl, HM1, HO1, HC1⟩ := hrel
    by_cases hlt : j < l.length
    · have hlt2 : j < (intTrs l).length := by rw [intTrs_len]; exact hlt
      have hge : (intTrs l)[j] = [.leaf (Value.int .i64 l[j])] := by have h1 := intTrs_get hlt; rw [List.getElem?_eq_getElem hlt2] at h1; exact Option.some.inj h1
      have hcl := Tr.cntE_le hlt2
      have hms := Tr.mid_set (k := k) hlt2
      have hmg := Tr.mid_get (k := k) hlt2
      have htk : Tr.cntE ((intTrs l).take (j + 1)) = Tr.cntE ((intTrs l).take j) + Tr.cntL (intTrs l)[j] := Tr.cntE_take _ j hlt2
      rw [hge] at hcl hms hmg htk
      have hm1 := HM1.out
      rw [← hm1] at hms
      generalize l[j] = x at *
      have hcw : Tr.cntL [.leaf (Value.int .i64 x)] = 1 := rfl
      obtain ⟨b, off, E0, arr0, cs0, T, rfl, hfoc, hrep, hback⟩ := HO1.out.take hmg (Tr.mid_sz (intTrs_sz l)) (by omega) (fun x hx => Nat.lt_of_lt_of_le (HSS.out x hx) HC1.out.size)
      obtain ⟨d0, rfl⟩ := list1 hfoc.len
      have HF0 := Lib.hid hfoc
      have HBK := Lib.hid hback
      obtain ⟨arr1, hob1, hsz1, -, -⟩ := hfoc.arr
      have HOB0 := Lib.hid hob1
      have HFIT : Hid (off + j * 1 + 1 ≤ arr1.size) := by show _ ≤ _; rw [hsz1]; exact hfoc.fit
      have hmb : m + 1 ≤ 1152921504606846976 := by rw [← hcw]; omega
      rw [hcw] at htk
      have HMS := Lib.hid hms
      have HTK := Lib.hid htk
      have hlo : (0 : Int) ≤ (j : Int) := by omega
      clear hfoc hrep hback hob1 hsz1 hms hmg htk hge hcl hcw hm1
      have HXP := Lib.hid (Ext.refl wr)
      go_wp2_with (refine wpList_store_cell rfl 3 (.tmp 15) (.tmp 14) rfl b (off + j) rfl (.int .i64 ((m : Nat) : Int)) rfl rfl E0 arr1 HOB0.out isz3 (by have := HFIT.out; omega) rfl ?_; intro w1 hob hg hq; have HOB1 : Hid (OB w1 b E0 (splice arr1 (off + j * 1 + 0) [Value.int .i64 ((m : Nat) : Int)])) := Lib.hid (by rw [Nat.mul_one]; exact hob); have HG1 := Lib.hid hg; clear hob hg hq)
      go_roundw
      case rel =>
        have hf := HF0.out.leaf (j := 0) (v := .int .i64 ((m : Nat) : Int)) rfl (WalkArith.wf_i64 (by omega)) HOB0.out HOB1.out HG1.out
        obtain ⟨hown2, hchg2⟩ := HBK.out _ _ _ rfl hf
        refine ⟨j + 1, m + 1, by omega, by go_num, by first | rfl | go_num, by have h1 := HTK.out; have h2 := HM1.out; show _ = _; omega, ?_, (HC1.out.trans (.of_ext HXP.out)).trans hchg2⟩
        show Own _ _ _ _
        rw [← HMS.out]
        exact hown2
      case measure => simp [intOf]; omega
    · have hkl : j = (intTrs l).length := by rw [intTrs_len]; omega
      go_wp2_with fail
      go_ret
      have ho := HO1.out
      rw [hkl, Tr.mid_end] at ho
      have hm1 := HM1.out
      rw [hkl, List.take_length] at hm1
      subst hm1
      exact ⟨rfl, ho, HC1.out⟩

set_option maxRecDepth 100000 in
set_option maxHeartbeats 2000000 in
theorem markTypeS_of (l : List GType) (H : ∀ x ∈ l, MarkSC 120 3 (GType.trs x.gArgs)) : MarkSC 120 3 (GType.trs l) := by
  intro s kz k S w hz hown hS hbd
  subst hz
  obtain ⟨a, cap, rfl, hl, hm⟩ := hown.rep.shape
  rw [GType.trs_len] at *
  unfold maxLen at hm
  have HO := Lib.hid hown
  have HSS := Lib.hid hS
  have HH := Lib.hid H
  clear H
  clear hown hS
  go_enter Try.func120, Try.ntmps120
  go_wp2_with fail
  go_loopw [1, 5] (fun kv i wr => ∃ j m : Nat, j ≤ l.length ∧ i = .int .i64 j ∧ kv = .int .i64 (m : Int) ∧ Hid (m = k + Tr.cntE ((GType.trs l).take j)) ∧ Hid (Own wr (.row 3 (Tr.mid (GType.trs l) k j)) (.slice a l.length cap) S) ∧ Hid (Chg S w wr)) (fun _ i _ => l.length - (intOf i).toNat)
  case atStart => exact ⟨0, k, Nat.zero_le _, rfl, rfl, by show _ = _; simp [Tr.cntE], by show Own _ _ _ _; rw [Tr.mid_zero]; exact HO.out, Chg.refl _ _⟩
  case round =>
    obtain ⟨j, m, hj, rfl, rfl, HM1, HO1, HC1⟩ := hrel
    by_cases hlt : j < l.length
    · have hlt2 : j < (GType.trs l).length := by rw [GType.trs_len]; exact hlt
      have hge : (GType.trs l)[j] = (l[j]).tr := by have h1 := GType.trs_get hlt; rw [List.getElem?_eq_getElem hlt2] at h1; exact Option.some.inj h1
      have hcl := Tr.cntE_le hlt2
      have hms := Tr.mid_set (k := k) hlt2
      have hmg := Tr.mid_get (k := k) hlt2
      have htk : Tr.cntE ((GType.trs l).take (j + 1)) = Tr.cntE ((GType.trs l).take j) + Tr.cntL (GType.trs l)[j] := Tr.cntE_take _ j hlt2
      rw [hge] at hcl hms hmg htk
      have hm1 := HM1.out
      rw [← hm1] at hms
      have HM := Lib.hid (HH.out _ (List.getElem_mem hlt))
      generalize l[j] = x at *
      obtain ⟨v0, v1, v2⟩ := x
      have HM : Hid (MarkSC 120 3 (GType.trs v2)) := HM
      have htr : GType.tr (.mk v0 v1 v2) = [.leaf (.int .i64 v0), .leaf (.string v1), .row 3 (GType.trs v2)] := by simp [GType.tr]
      rw [htr] at hcl hms hmg htk
      have hcw : Tr.cntL [.leaf (.int .i64 v0), .leaf (.string v1), .row 3 (GType.trs v2)] = 1 + 1 + Tr.cntE (GType.trs v2) := by simp only [Tr.cntL, Tr.cnt]; omega
      obtain ⟨b, off, E0, arr0, cs0, T, rfl, hfoc, hrep, hback⟩ := HO1.out.take hmg (Tr.mid_sz (GType.sz l)) (by omega) (fun x hx => Nat.lt_of_lt_of_le (HSS.out x hx) HC1.out.size)
      obtain ⟨d0, d1, d2, rfl⟩ := list3 hfoc.len
      obtain ⟨rfl, -⟩ := (hrep.1).leaf_eq
      obtain ⟨rfl, -⟩ := (hrep.2.1).leaf_eq
      obtain ⟨sa2, sc2, rfl, -, -⟩ := (hrep.2.2.1).shape
      have HF0 := Lib.hid hfoc
      have HBK := Lib.hid hback
      obtain ⟨arr1, hob1, hsz1, -, -⟩ := hfoc.arr
      have HOB0 := Lib.hid hob1
      have HFIT : Hid (off + j * 3 + 3 ≤ arr1.size) := by show _ ≤ _; rw [hsz1]; exact hfoc.fit
      have hmb : m + (1 + 1 + Tr.cntE (GType.trs v2)) ≤ 1152921504606846976 := by rw [← hcw]; omega
      rw [hcw] at htk
      have HMS := Lib.hid hms
      have HTK := Lib.hid htk
      have hlo : (0 : Int) ≤ (j : Int) := by omega
      clear hfoc hrep hback hob1 hsz1 hms hmg htk hge hcl hcw hm1 htr
      go_wp2_with (first
        | (refine wpList_store_cell rfl 3 (.tmp 16) (.tmp 14) rfl b (off + j * 3 + 0) rfl (.int .i64 ((m : Nat) : Int)) (by first | rfl | (simp only [Nat.cast_add, Nat.cast_one] <;> rfl)) rfl E0 arr1 HOB0.out isz3 (by have := HFIT.out; omega) rfl ?_; intro w1 hob hg hq; have HF1 := Lib.hid (HF0.out.leaf (j := 0) rfl (v := .int .i64 ((m : Nat) : Int)) (WalkArith.wf_i64 (by omega)) HOB0.out hob hg); obtain ⟨ar1, ho, hzz, -, -⟩ := HF1.out.arr; have HOB1 := Lib.hid ho; have HFT1 : Hid (off + j * 3 + 3 ≤ ar1.size) := (by show _ ≤ _; rw [hzz]; exact HF1.out.fit); clear hob hg hq ho hzz))
      refine (markText_any _ (m + 1) _ (by omega) (by omega)).mono ?_
      rintro e w2 ⟨rfl, hw⟩
      have HF2 := Lib.hid (HF1.out.ext hw)
      obtain ⟨ar2, ho, hzz, -, -⟩ := HF2.out.arr
      have HOB2 := Lib.hid ho
      have HFT2 : Hid (off + j * 3 + 3 ≤ ar2.size) := by show _ ≤ _; rw [hzz]; exact HF2.out.fit
      clear hw ho hzz
      go_wp2_with (first
        | (refine wpList_store_cell rfl 9 (.tmp 24) (.tmp 22) rfl b (off + j * 3 + 1) rfl (.string (mtext (m + 1))) rfl rfl E0 ar2 HOB2.out isz9 (by have := HFT2.out; omega) rfl ?_; intro w3 hob hg hq; have HF3 := Lib.hid (HF2.out.leaf (j := 1) rfl (v := .string (mtext (m + 1))) (by have := mtext_size (m + 1) (by omega); show _ ≤ maxLen; unfold maxLen; omega) HOB2.out hob hg); obtain ⟨ar3, ho, hzz, -, -⟩ := HF3.out.arr; have HOB3 := Lib.hid ho; have HFT3 : Hid (off + j * 3 + 3 ≤ ar3.size) := (by show _ ≤ _; rw [hzz]; exact HF3.out.fit); clear hob hg hq ho hzz; have hcell2 := HF3.out.cell (j := 2) rfl))
      obtain ⟨U2, hu1, hu2, hu3⟩ := HF3.out.row (j := 2) rfl rfl
      refine (HM.out _ _ ((m + 1) + 1) U2 _ (by omega) hu1 hu2 (by omega)).mono ?_
      rintro e w4 ⟨rfl, how, hch⟩
      have HF4 := Lib.hid (hu3 w4 _ how hch)
      clear how hch hu1 hu2 hu3 hcell2
      go_wp2_with fail
      go_roundw
      case rel =>
        obtain ⟨hown2, hchg2⟩ := HBK.out _ _ _ rfl HF4.out
        refine ⟨j + 1, (((m + 1) + 1) + Tr.cntE (GType.trs v2)), by omega, by go_num, by first | rfl | go_num, by have h1 := HTK.out; have h2 := HM1.out; show _ = _; omega, ?_, HC1.out.trans hchg2⟩
        show Own _ _ _ _
        rw [← HMS.out]
        exact hown2
      case measure => simp [intOf]; omega
    · have hkl : j = (GType.trs l).length := by rw [GType.trs_len]; omega
      go_wp2_with fail
      go_ret
      have ho := HO1.out
      rw [hkl, Tr.mid_end] at ho
      have hm1 := HM1.out
      rw [hkl, List.take_length] at hm1
      subst hm1
      exact ⟨rfl, ho, HC1.out⟩
theorem markTypeS_in : ∀ x : GType, MarkSC 120 3 (GType.trs x.gArgs) :=
  GType.ind fun v0 v1 v2 ih => markTypeS_of v2 ih
theorem markTypeS_all (l : List GType) : MarkSC 120 3 (GType.trs l) := markTypeS_of l fun x _ => markTypeS_in x

set_option maxRecDepth 100000 in
set_option maxHeartbeats 2000000 in
theorem heldTypeS_of (l : List GType) (H : ∀ x ∈ l, HeldSC 122 3 (GType.trs x.gArgs)) : HeldSC 122 3 (GType.trs l) := by
  intro s kz k w hz hrep0 hbd
  subst hz
  obtain ⟨a, cap, rfl, hl, hm⟩ := hrep0.shape
  rw [Tr.markE_length, GType.trs_len] at *
  unfold maxLen at hm
  have HO := Lib.hid hrep0
  have HH := Lib.hid H
  clear H
  clear hrep0
  go_enter Try.func122, Try.ntmps122
  go_wp2_with fail
  go_loopw [1, 5] (fun kv i wr => ∃ j m : Nat, j ≤ l.length ∧ i = .int .i64 j ∧ kv = .int .i64 (m : Int) ∧ Hid (m = k + Tr.cntE ((GType.trs l).take j)) ∧ Ext w wr) (fun _ i _ => l.length - (intOf i).toNat)
  case atStart => exact ⟨0, k, Nat.zero_le _, rfl, rfl, by show _ = _; simp [Tr.cntE], .refl _⟩
  case round =>
    obtain ⟨j, m, hj, rfl, rfl, HM1, hw⟩ := hrel
    by_cases hlt : j < l.length
    · have hlt2 : j < (GType.trs l).length := by rw [GType.trs_len]; exact hlt
      have hge : (GType.trs l)[j] = (l[j]).tr := by have h1 := GType.trs_get hlt; rw [List.getElem?_eq_getElem hlt2] at h1; exact Option.some.inj h1
      have hcl := Tr.cntE_le hlt2
      have hmg := Tr.markE_get (GType.trs l) k j hlt2
      have htk : Tr.cntE ((GType.trs l).take (j + 1)) = Tr.cntE ((GType.trs l).take j) + Tr.cntL (GType.trs l)[j] := Tr.cntE_take _ j hlt2
      rw [hge] at hcl hmg htk
      have hm1 := HM1.out
      rw [← hm1] at hmg
      have HM := Lib.hid (HH.out _ (List.getElem_mem hlt))
      generalize l[j] = x at *
      obtain ⟨v0, v1, v2⟩ := x
      have HM : Hid (HeldSC 122 3 (GType.trs v2)) := HM
      have htr : GType.tr (.mk v0 v1 v2) = [.leaf (.int .i64 v0), .leaf (.string v1), .row 3 (GType.trs v2)] := by simp [GType.tr]
      rw [htr] at hcl hmg htk
      have hcw : Tr.cntL [.leaf (.int .i64 v0), .leaf (.string v1), .row 3 (GType.trs v2)] = 1 + 1 + Tr.cntE (GType.trs v2) := by simp only [Tr.cntL, Tr.cnt]; omega
      obtain ⟨b, off, cs0, rfl, hb, hrep, hc⟩ := (HO.out.ext hw).at2 hmg
      obtain ⟨d0, d1, d2, rfl⟩ := list3 hrep.length.symm
      obtain ⟨rfl, -⟩ := (hrep.1).leaf_eq
      obtain ⟨rfl, -⟩ := (hrep.2.1).leaf_eq
      have HR2 := Lib.hid (hrep.2.2.1)
      obtain ⟨sa2, sc2, hd2, -, -⟩ := HR2.out.shape
      rw [Tr.markE_length] at hd2
      subst hd2
      have hmb : m + (1 + 1 + Tr.cntE (GType.trs v2)) ≤ 1152921504606846976 := by rw [← hcw]; omega
      rw [hcw] at htk
      have HTK := Lib.hid htk
      have HC := Lib.hid hc
      have HB := Lib.hid hb
      have hki := hlt
      simp only [markLeaf, Tr.cnt] at *
      have hcell0 : wr.cell? ⟨b, off + j * 3, none⟩ = some _ := HC.out 0 _ rfl
      have hcell1 : wr.cell? ⟨b, off + j * 3 + 1, none⟩ = some _ := HC.out 1 _ rfl
      have hcell2 : wr.cell? ⟨b, off + j * 3 + 2, none⟩ = some _ := HC.out 2 _ rfl
      clear hrep hc hmg htk hge hcl hcw hm1 htr hb
      go_wp2_with fail
      have HX0 := Lib.hid (Ext.refl wr)
      refine wp_region_held_drew (S := Ext wr) (by kernel_rfl) ?_ (fun hHeld => ?_)
      · exact .drew (.refl _)
      refine wpAnyH_take (i := 0) rfl (by kernel_rfl) (by kernel_rfl) (by kernel_rfl) (fun _ _ _ h => h) (.inl ⟨rfl, fun _ _ => rfl⟩) (by assumption) ?_
      simp only [Act.put, List.getElem_toArray, List.getElem_cons_zero, List.setIfInBounds_toArray, List.set_cons_zero, List.set_cons_succ]
      refine wpAnyH_take (i := 1) rfl (by kernel_rfl) (by kernel_rfl) (by kernel_rfl) (fun _ _ _ h => h) (.inl ⟨rfl, fun _ _ => rfl⟩) (by assumption) ?_
      simp only [Act.put, List.getElem_toArray, List.getElem_cons_zero, List.getElem_cons_succ, List.setIfInBounds_toArray, List.set_cons_zero, List.set_cons_succ]
      refine wpAnyH_index (i := 2) rfl (by kernel_rfl) (by kernel_rfl) (by kernel_rfl) rfl 30 (.tmp 21) (.tmp 22) rfl (b) (off) (l.length) (cap) (j) (3) rfl rfl (hki) Try.underlying30 (by kernel_rfl) (by assumption) (fun _ _ _ _ h => h) ?_
      simp only [Act.put, List.getElem_toArray, List.getElem_cons_zero, List.getElem_cons_succ, List.setIfInBounds_toArray, List.set_cons_zero, List.set_cons_succ]
      refine wpAnyH_take (i := 3) rfl (by kernel_rfl) (by kernel_rfl) (by kernel_rfl) (fun _ _ _ h => h) (.inl ⟨rfl, fun _ _ => rfl⟩) (by assumption) ?_
      simp only [Act.put, List.getElem_toArray, List.getElem_cons_zero, List.getElem_cons_succ, List.setIfInBounds_toArray, List.set_cons_zero, List.set_cons_succ]
      refine wpAnyH_cell (i := 4) rfl (by kernel_rfl) (by kernel_rfl) (by kernel_rfl) rfl 9 (.tmp 24) rfl (b) (off + j * 3 + 1) rfl (.string (mtext (m + 1))) _ Try.underlying9 rfl (fun W hW => (hW.cell (p := ⟨b, off + j * 3 + 1, none⟩) (Nat.lt_of_lt_of_le HB.out (HX0.out).size)).trans hcell1) (by assumption) (fun _ _ _ _ h => h) ?_
      simp only [Act.put, List.getElem_toArray, List.getElem_cons_zero, List.getElem_cons_succ, List.setIfInBounds_toArray, List.set_cons_zero, List.set_cons_succ]
      refine wpAnyH_take (i := 5) rfl (by kernel_rfl) (by kernel_rfl) (by kernel_rfl) (fun _ _ _ h => h) (.inl ⟨rfl, fun _ _ => rfl⟩) (by assumption) ?_
      simp only [Act.put, List.getElem_toArray, List.getElem_cons_zero, List.getElem_cons_succ, List.setIfInBounds_toArray, List.set_cons_zero, List.set_cons_succ]
      refine wpAnyH_call (i := 6) (by kernel_rfl) rfl rfl (run_call_func rfl rfl #[.int .i64 _] (by simp only [List.map_toArray, List.map_cons, List.map_nil, Act.eval]; rfl) Try.func121 (by kernel_rfl) (by kernel_rfl) _) (markText_any _ (m + 1) _ (by omega) (by omega)) ?_
      rintro e wh1 ⟨rfl, hv1⟩
      have hs1 := Ext.trans hHeld hv1
      refine ⟨_, rfl, hs1, ?_⟩
      simp only [Act.put, List.getElem_toArray, List.getElem_cons_zero, List.getElem_cons_succ, List.setIfInBounds_toArray, List.set_cons_zero, List.set_cons_succ]
      refine wpAnyH_take (i := 7) rfl (by kernel_rfl) (by kernel_rfl) (by kernel_rfl) (fun _ _ _ h => h) (.inl ⟨rfl, fun _ _ => rfl⟩) (by assumption) ?_
      simp only [Act.put, List.getElem_toArray, List.getElem_cons_zero, List.getElem_cons_succ, List.setIfInBounds_toArray, List.set_cons_zero, List.set_cons_succ]
      refine wpAnyH_done (by kernel_rfl) ?_ _
      clear hHeld
      have HX1 := Lib.hid (Ext.trans HX0.out hs1)
      have hcell2 := (hs1.cell (p := ⟨b, off + j * 3 + 2, none⟩) (Nat.lt_of_lt_of_le HB.out HX0.out.size)).trans hcell2
      clear hs1 hv1
      simp only [beq_self_eq_true, Bool.not_true]
      go_wp2_with fail
      refine (HM.out _ _ ((m + 1) + 1) _ (by omega) (HR2.out.ext HX1.out) (by omega)).mono ?_
      rintro e wh2 ⟨rfl, hv2⟩
      have HX2 := Lib.hid (Ext.trans HX1.out hv2)
      clear hv2
      have hng : ¬ (((((m + 1) + 1) + Tr.cntE (GType.trs v2)) : Nat) : Int) < 0 := by omega
      go_wp2_with fail
      go_roundw
      case rel => exact ⟨j + 1, (((m + 1) + 1) + Tr.cntE (GType.trs v2)), by omega, by go_num, by first | rfl | go_num, by have h1 := HTK.out; have h2 := HM1.out; show _ = _; omega, hw.trans HX2.out⟩
      case measure => simp [intOf]; omega
    · have hkl : j = (GType.trs l).length := by rw [GType.trs_len]; omega
      go_wp2_with fail
      go_ret
      have hm1 := HM1.out
      rw [hkl, List.take_length] at hm1
      subst hm1
      exact ⟨rfl, hw⟩
theorem heldTypeS_in : ∀ x : GType, HeldSC 122 3 (GType.trs x.gArgs) :=
  GType.ind fun v0 v1 v2 ih => heldTypeS_of v2 ih
theorem heldTypeS_all (l : List GType) : HeldSC 122 3 (GType.trs l) := heldTypeS_of l fun x _ => heldTypeS_in x

set_option maxRecDepth 100000 in
set_option maxHeartbeats 2000000 in
theorem markBoundS_of (l : List GBound)  : MarkSC 53 4 (GBound.trs l) := by
  intro s kz k S w hz hown hS hbd
  subst hz
  obtain ⟨a, cap, rfl, hl, hm⟩ := hown.rep.shape
  rw [GBound.trs_len] at *
  unfold maxLen at hm
  have HO := Lib.hid hown
  have HSS := Lib.hid hS
  clear hown hS
  go_enter Try.func53, Try.ntmps53
  go_wp2_with fail
  go_loopw [1, 5] (fun kv i wr => ∃ j m : Nat, j ≤ l.length ∧ i = .int .i64 j ∧ kv = .int .i64 (m : Int) ∧ Hid (m = k + Tr.cntE ((GBound.trs l).take j)) ∧ Hid (Own wr (.row 4 (Tr.mid (GBound.trs l) k j)) (.slice a l.length cap) S) ∧ Hid (Chg S w wr)) (fun _ i _ => l.length - (intOf i).toNat)
  case atStart => exact ⟨0, k, Nat.zero_le _, rfl, rfl, by show _ = _; simp [Tr.cntE], by show Own _ _ _ _; rw [Tr.mid_zero]; exact HO.out, Chg.refl _ _⟩
  case round =>
    obtain ⟨j, m, hj, rfl, rfl, HM1, HO1, HC1⟩ := hrel
    by_cases hlt : j < l.length
    · have hlt2 : j < (GBound.trs l).length := by rw [GBound.trs_len]; exact hlt
      have hge : (GBound.trs l)[j] = (l[j]).tr := by have h1 := GBound.trs_get hlt; rw [List.getElem?_eq_getElem hlt2] at h1; exact Option.some.inj h1
      have hcl := Tr.cntE_le hlt2
      have hms := Tr.mid_set (k := k) hlt2
      have hmg := Tr.mid_get (k := k) hlt2
      have htk : Tr.cntE ((GBound.trs l).take (j + 1)) = Tr.cntE ((GBound.trs l).take j) + Tr.cntL (GBound.trs l)[j] := Tr.cntE_take _ j hlt2
      rw [hge] at hcl hms hmg htk
      have hm1 := HM1.out
      rw [← hm1] at hms
      generalize l[j] = x at *
      obtain ⟨v0, ⟨v1_0, v1_1, v1_2⟩⟩ := x
      have htr : GBound.tr (.mk v0 (.mk v1_0 v1_1 v1_2)) = [.leaf (.string v0), .leaf (.int .i64 v1_0), .leaf (.string v1_1), .row 3 (GType.trs v1_2)] := by simp [GBound.tr, GType.tr]
      rw [htr] at hcl hms hmg htk
      have hcw : Tr.cntL [.leaf (.string v0), .leaf (.int .i64 v1_0), .leaf (.string v1_1), .row 3 (GType.trs v1_2)] = 1 + 1 + 1 + Tr.cntE (GType.trs v1_2) := by simp only [Tr.cntL, Tr.cnt]; omega
      obtain ⟨b, off, E0, arr0, cs0, T, rfl, hfoc, hrep, hback⟩ := HO1.out.take hmg (Tr.mid_sz (GBound.sz l)) (by omega) (fun x hx => Nat.lt_of_lt_of_le (HSS.out x hx) HC1.out.size)
      obtain ⟨d0, d1, d2, d3, rfl⟩ := list4 hfoc.len
      obtain ⟨rfl, -⟩ := (hrep.1).leaf_eq
      obtain ⟨rfl, -⟩ := (hrep.2.1).leaf_eq
      obtain ⟨rfl, -⟩ := (hrep.2.2.1).leaf_eq
      obtain ⟨sa3, sc3, rfl, -, -⟩ := (hrep.2.2.2.1).shape
      have HF0 := Lib.hid hfoc
      have HBK := Lib.hid hback
      obtain ⟨arr1, hob1, hsz1, -, -⟩ := hfoc.arr
      have HOB0 := Lib.hid hob1
      have HFIT : Hid (off + j * 4 + 4 ≤ arr1.size) := by show _ ≤ _; rw [hsz1]; exact hfoc.fit
      have hmb : m + (1 + 1 + 1 + Tr.cntE (GType.trs v1_2)) ≤ 1152921504606846976 := by rw [← hcw]; omega
      rw [hcw] at htk
      have HMS := Lib.hid hms
      have HTK := Lib.hid htk
      have hlo : (0 : Int) ≤ (j : Int) := by omega
      clear hfoc hrep hback hob1 hsz1 hms hmg htk hge hcl hcw hm1 htr
      go_wp2_with fail
      refine (markText_any _ m _ (by omega) (by omega)).mono ?_
      rintro e w1 ⟨rfl, hw⟩
      have HF1 := Lib.hid (HF0.out.ext hw)
      obtain ⟨ar1, ho, hzz, -, -⟩ := HF1.out.arr
      have HOB1 := Lib.hid ho
      have HFT1 : Hid (off + j * 4 + 4 ≤ ar1.size) := by show _ ≤ _; rw [hzz]; exact HF1.out.fit
      clear hw ho hzz
      go_wp2_with (first
        | (refine wpList_store_cell rfl 9 (.tmp 17) (.tmp 15) rfl b (off + j * 4 + 0) rfl (.string (mtext m)) rfl rfl E0 ar1 HOB1.out isz9 (by have := HFT1.out; omega) rfl ?_; intro w2 hob hg hq; have HF2 := Lib.hid (HF1.out.leaf (j := 0) rfl (v := .string (mtext m)) (by have := mtext_size m (by omega); show _ ≤ maxLen; unfold maxLen; omega) HOB1.out hob hg); obtain ⟨ar2, ho, hzz, -, -⟩ := HF2.out.arr; have HOB2 := Lib.hid ho; have HFT2 : Hid (off + j * 4 + 4 ≤ ar2.size) := (by show _ ≤ _; rw [hzz]; exact HF2.out.fit); clear hob hg hq ho hzz)
        | (refine wpList_store_cell rfl 3 (.tmp 25) (.tmp 22) rfl b (off + j * 4 + 1) rfl (.int .i64 (((m + 1) : Nat) : Int)) (by first | rfl | (simp only [Nat.cast_add, Nat.cast_one] <;> rfl)) rfl E0 ar2 HOB2.out isz3 (by have := HFT2.out; omega) rfl ?_; intro w3 hob hg hq; have HF3 := Lib.hid (HF2.out.leaf (j := 1) rfl (v := .int .i64 (((m + 1) : Nat) : Int)) (WalkArith.wf_i64 (by omega)) HOB2.out hob hg); obtain ⟨ar3, ho, hzz, -, -⟩ := HF3.out.arr; have HOB3 := Lib.hid ho; have HFT3 : Hid (off + j * 4 + 4 ≤ ar3.size) := (by show _ ≤ _; rw [hzz]; exact HF3.out.fit); clear hob hg hq ho hzz))
      refine (markText_any _ ((m + 1) + 1) _ (by omega) (by omega)).mono ?_
      rintro e w4 ⟨rfl, hw⟩
      have HF4 := Lib.hid (HF3.out.ext hw)
      obtain ⟨ar4, ho, hzz, -, -⟩ := HF4.out.arr
      have HOB4 := Lib.hid ho
      have HFT4 : Hid (off + j * 4 + 4 ≤ ar4.size) := by show _ ≤ _; rw [hzz]; exact HF4.out.fit
      clear hw ho hzz
      go_wp2_with (first
        | (refine wpList_store_cell rfl 9 (.tmp 34) (.tmp 31) rfl b (off + j * 4 + 2) rfl (.string (mtext ((m + 1) + 1))) rfl rfl E0 ar4 HOB4.out isz9 (by have := HFT4.out; omega) rfl ?_; intro w5 hob hg hq; have HF5 := Lib.hid (HF4.out.leaf (j := 2) rfl (v := .string (mtext ((m + 1) + 1))) (by have := mtext_size ((m + 1) + 1) (by omega); show _ ≤ maxLen; unfold maxLen; omega) HOB4.out hob hg); obtain ⟨ar5, ho, hzz, -, -⟩ := HF5.out.arr; have HOB5 := Lib.hid ho; have HFT5 : Hid (off + j * 4 + 4 ≤ ar5.size) := (by show _ ≤ _; rw [hzz]; exact HF5.out.fit); clear hob hg hq ho hzz; have hcell3 := HF5.out.cell (j := 3) rfl))
      obtain ⟨U3, hu1, hu2, hu3⟩ := HF5.out.row (j := 3) rfl rfl
      refine ((markTypeS_all v1_2) _ _ (((m + 1) + 1) + 1) U3 _ (by omega) hu1 hu2 (by omega)).mono ?_
      rintro e w6 ⟨rfl, how, hch⟩
      have HF6 := Lib.hid (hu3 w6 _ how hch)
      clear how hch hu1 hu2 hu3 hcell3
      go_wp2_with fail
      go_roundw
      case rel =>
        obtain ⟨hown2, hchg2⟩ := HBK.out _ _ _ rfl HF6.out
        refine ⟨j + 1, ((((m + 1) + 1) + 1) + Tr.cntE (GType.trs v1_2)), by omega, by go_num, by first | rfl | go_num, by have h1 := HTK.out; have h2 := HM1.out; show _ = _; omega, ?_, HC1.out.trans hchg2⟩
        show Own _ _ _ _
        rw [← HMS.out]
        exact hown2
      case measure => simp [intOf]; omega
    · have hkl : j = (GBound.trs l).length := by rw [GBound.trs_len]; omega
      go_wp2_with fail
      go_ret
      have ho := HO1.out
      rw [hkl, Tr.mid_end] at ho
      have hm1 := HM1.out
      rw [hkl, List.take_length] at hm1
      subst hm1
      exact ⟨rfl, ho, HC1.out⟩
theorem markBoundS_all (l : List GBound) : MarkSC 53 4 (GBound.trs l) := markBoundS_of l

set_option maxRecDepth 100000 in
set_option maxHeartbeats 2000000 in
theorem heldBoundS_of (l : List GBound)  : HeldSC 54 4 (GBound.trs l) := by
  intro s kz k w hz hrep0 hbd
  subst hz
  obtain ⟨a, cap, rfl, hl, hm⟩ := hrep0.shape
  rw [Tr.markE_length, GBound.trs_len] at *
  unfold maxLen at hm
  have HO := Lib.hid hrep0
  clear hrep0
  go_enter Try.func54, Try.ntmps54
  go_wp2_with fail
  go_loopw [1, 5] (fun kv i wr => ∃ j m : Nat, j ≤ l.length ∧ i = .int .i64 j ∧ kv = .int .i64 (m : Int) ∧ Hid (m = k + Tr.cntE ((GBound.trs l).take j)) ∧ Ext w wr) (fun _ i _ => l.length - (intOf i).toNat)
  case atStart => exact ⟨0, k, Nat.zero_le _, rfl, rfl, by show _ = _; simp [Tr.cntE], .refl _⟩
  case round =>
    obtain ⟨j, m, hj, rfl, rfl, HM1, hw⟩ := hrel
    by_cases hlt : j < l.length
    · have hlt2 : j < (GBound.trs l).length := by rw [GBound.trs_len]; exact hlt
      have hge : (GBound.trs l)[j] = (l[j]).tr := by have h1 := GBound.trs_get hlt; rw [List.getElem?_eq_getElem hlt2] at h1; exact Option.some.inj h1
      have hcl := Tr.cntE_le hlt2
      have hmg := Tr.markE_get (GBound.trs l) k j hlt2
      have htk : Tr.cntE ((GBound.trs l).take (j + 1)) = Tr.cntE ((GBound.trs l).take j) + Tr.cntL (GBound.trs l)[j] := Tr.cntE_take _ j hlt2
      rw [hge] at hcl hmg htk
      have hm1 := HM1.out
      rw [← hm1] at hmg
      generalize l[j] = x at *
      obtain ⟨v0, ⟨v1_0, v1_1, v1_2⟩⟩ := x
      have htr : GBound.tr (.mk v0 (.mk v1_0 v1_1 v1_2)) = [.leaf (.string v0), .leaf (.int .i64 v1_0), .leaf (.string v1_1), .row 3 (GType.trs v1_2)] := by simp [GBound.tr, GType.tr]
      rw [htr] at hcl hmg htk
      have hcw : Tr.cntL [.leaf (.string v0), .leaf (.int .i64 v1_0), .leaf (.string v1_1), .row 3 (GType.trs v1_2)] = 1 + 1 + 1 + Tr.cntE (GType.trs v1_2) := by simp only [Tr.cntL, Tr.cnt]; omega
      obtain ⟨b, off, cs0, rfl, hb, hrep, hc⟩ := (HO.out.ext hw).at2 hmg
      obtain ⟨d0, d1, d2, d3, rfl⟩ := list4 hrep.length.symm
      obtain ⟨rfl, -⟩ := (hrep.1).leaf_eq
      obtain ⟨rfl, -⟩ := (hrep.2.1).leaf_eq
      obtain ⟨rfl, -⟩ := (hrep.2.2.1).leaf_eq
      have HR3 := Lib.hid (hrep.2.2.2.1)
      obtain ⟨sa3, sc3, hd3, -, -⟩ := HR3.out.shape
      rw [Tr.markE_length] at hd3
      subst hd3
      have hmb : m + (1 + 1 + 1 + Tr.cntE (GType.trs v1_2)) ≤ 1152921504606846976 := by rw [← hcw]; omega
      rw [hcw] at htk
      have HTK := Lib.hid htk
      have HC := Lib.hid hc
      have HB := Lib.hid hb
      have hki := hlt
      simp only [markLeaf, Tr.cnt] at *
      have hcell0 : wr.cell? ⟨b, off + j * 4, none⟩ = some _ := HC.out 0 _ rfl
      have hcell1 : wr.cell? ⟨b, off + j * 4 + 1, none⟩ = some _ := HC.out 1 _ rfl
      have hcell2 : wr.cell? ⟨b, off + j * 4 + 2, none⟩ = some _ := HC.out 2 _ rfl
      have hcell3 : wr.cell? ⟨b, off + j * 4 + 3, none⟩ = some _ := HC.out 3 _ rfl
      clear hrep hc hmg htk hge hcl hcw hm1 htr hb
      go_wp2_with fail
      have HX0 := Lib.hid (Ext.refl wr)
      refine wp_region_held_drew (S := Ext wr) (by kernel_rfl) ?_ (fun hHeld => ?_)
      · exact .drew (.refl _)
      refine wpAnyH_take (i := 0) rfl (by kernel_rfl) (by kernel_rfl) (by kernel_rfl) (fun _ _ _ h => h) (.inl ⟨rfl, fun _ _ => rfl⟩) (by assumption) ?_
      simp only [Act.put, List.getElem_toArray, List.getElem_cons_zero, List.setIfInBounds_toArray, List.set_cons_zero, List.set_cons_succ]
      refine wpAnyH_take (i := 1) rfl (by kernel_rfl) (by kernel_rfl) (by kernel_rfl) (fun _ _ _ h => h) (.inl ⟨rfl, fun _ _ => rfl⟩) (by assumption) ?_
      simp only [Act.put, List.getElem_toArray, List.getElem_cons_zero, List.getElem_cons_succ, List.setIfInBounds_toArray, List.set_cons_zero, List.set_cons_succ]
      refine wpAnyH_index (i := 2) rfl (by kernel_rfl) (by kernel_rfl) (by kernel_rfl) rfl 86 (.tmp 12) (.tmp 13) rfl (b) (off) (l.length) (cap) (j) (4) rfl rfl (hki) Try.underlying86 (by kernel_rfl) (by assumption) (fun _ _ _ _ h => h) ?_
      simp only [Act.put, List.getElem_toArray, List.getElem_cons_zero, List.getElem_cons_succ, List.setIfInBounds_toArray, List.set_cons_zero, List.set_cons_succ]
      refine wpAnyH_take (i := 3) rfl (by kernel_rfl) (by kernel_rfl) (by kernel_rfl) (fun _ _ _ h => h) (.inl ⟨rfl, fun _ _ => rfl⟩) (by assumption) ?_
      simp only [Act.put, List.getElem_toArray, List.getElem_cons_zero, List.getElem_cons_succ, List.setIfInBounds_toArray, List.set_cons_zero, List.set_cons_succ]
      refine wpAnyH_cell (i := 4) rfl (by kernel_rfl) (by kernel_rfl) (by kernel_rfl) rfl 9 (.tmp 15) rfl (b) (off + j * 4) rfl (.string (mtext m)) _ Try.underlying9 rfl (fun W hW => (hW.cell (p := ⟨b, off + j * 4, none⟩) (Nat.lt_of_lt_of_le HB.out (HX0.out).size)).trans hcell0) (by assumption) (fun _ _ _ _ h => h) ?_
      simp only [Act.put, List.getElem_toArray, List.getElem_cons_zero, List.getElem_cons_succ, List.setIfInBounds_toArray, List.set_cons_zero, List.set_cons_succ]
      refine wpAnyH_take (i := 5) rfl (by kernel_rfl) (by kernel_rfl) (by kernel_rfl) (fun _ _ _ h => h) (.inl ⟨rfl, fun _ _ => rfl⟩) (by assumption) ?_
      simp only [Act.put, List.getElem_toArray, List.getElem_cons_zero, List.getElem_cons_succ, List.setIfInBounds_toArray, List.set_cons_zero, List.set_cons_succ]
      refine wpAnyH_call (i := 6) (by kernel_rfl) rfl rfl (run_call_func rfl rfl #[.int .i64 _] (by simp only [List.map_toArray, List.map_cons, List.map_nil, Act.eval]; rfl) Try.func121 (by kernel_rfl) (by kernel_rfl) _) (markText_any _ m _ (by omega) (by omega)) ?_
      rintro e wh1 ⟨rfl, hv1⟩
      have hs1 := Ext.trans hHeld hv1
      refine ⟨_, rfl, hs1, ?_⟩
      simp only [Act.put, List.getElem_toArray, List.getElem_cons_zero, List.getElem_cons_succ, List.setIfInBounds_toArray, List.set_cons_zero, List.set_cons_succ]
      refine wpAnyH_take (i := 7) rfl (by kernel_rfl) (by kernel_rfl) (by kernel_rfl) (fun _ _ _ h => h) (.inl ⟨rfl, fun _ _ => rfl⟩) (by assumption) ?_
      simp only [Act.put, List.getElem_toArray, List.getElem_cons_zero, List.getElem_cons_succ, List.setIfInBounds_toArray, List.set_cons_zero, List.set_cons_succ]
      refine wpAnyH_done (by kernel_rfl) ?_ _
      clear hHeld
      have HX1 := Lib.hid (Ext.trans HX0.out hs1)
      have hcell1 := (hs1.cell (p := ⟨b, off + j * 4 + 1, none⟩) (Nat.lt_of_lt_of_le HB.out HX0.out.size)).trans hcell1
      have hcell2 := (hs1.cell (p := ⟨b, off + j * 4 + 2, none⟩) (Nat.lt_of_lt_of_le HB.out HX0.out.size)).trans hcell2
      have hcell3 := (hs1.cell (p := ⟨b, off + j * 4 + 3, none⟩) (Nat.lt_of_lt_of_le HB.out HX0.out.size)).trans hcell3
      clear hs1 hv1
      simp only [beq_self_eq_true, Bool.not_true]
      go_wp2_with fail
      refine wp_region_held_drew (S := Ext wh1) (by kernel_rfl) ?_ (fun hHeld => ?_)
      · exact .drew (.refl _)
      refine wpAnyH_take (i := 0) rfl (by kernel_rfl) (by kernel_rfl) (by kernel_rfl) (fun _ _ _ h => h) (.inl ⟨rfl, fun _ _ => rfl⟩) (by assumption) ?_
      simp only [Act.put, List.getElem_toArray, List.getElem_cons_zero, List.setIfInBounds_toArray, List.set_cons_zero, List.set_cons_succ]
      refine wpAnyH_take (i := 1) rfl (by kernel_rfl) (by kernel_rfl) (by kernel_rfl) (fun _ _ _ h => h) (.inl ⟨rfl, fun _ _ => rfl⟩) (by assumption) ?_
      simp only [Act.put, List.getElem_toArray, List.getElem_cons_zero, List.getElem_cons_succ, List.setIfInBounds_toArray, List.set_cons_zero, List.set_cons_succ]
      refine wpAnyH_index (i := 2) rfl (by kernel_rfl) (by kernel_rfl) (by kernel_rfl) rfl 86 (.tmp 32) (.tmp 33) rfl (b) (off) (l.length) (cap) (j) (4) rfl rfl (hki) Try.underlying86 (by kernel_rfl) (by assumption) (fun _ _ _ _ h => h) ?_
      simp only [Act.put, List.getElem_toArray, List.getElem_cons_zero, List.getElem_cons_succ, List.setIfInBounds_toArray, List.set_cons_zero, List.set_cons_succ]
      refine wpAnyH_take (i := 3) rfl (by kernel_rfl) (by kernel_rfl) (by kernel_rfl) (fun _ _ _ h => h) (.inl ⟨rfl, fun _ _ => rfl⟩) (by assumption) ?_
      simp only [Act.put, List.getElem_toArray, List.getElem_cons_zero, List.getElem_cons_succ, List.setIfInBounds_toArray, List.set_cons_zero, List.set_cons_succ]
      refine wpAnyH_take (i := 4) rfl (by kernel_rfl) (by kernel_rfl) (by kernel_rfl) (fun _ _ _ h => h) (.inl ⟨rfl, fun _ _ => rfl⟩) (by assumption) ?_
      simp only [Act.put, List.getElem_toArray, List.getElem_cons_zero, List.getElem_cons_succ, List.setIfInBounds_toArray, List.set_cons_zero, List.set_cons_succ]
      refine wpAnyH_cell (i := 5) rfl (by kernel_rfl) (by kernel_rfl) (by kernel_rfl) rfl 9 (.tmp 36) rfl (b) (off + j * 4 + 2) rfl (.string (mtext ((m + 1) + 1))) _ Try.underlying9 rfl (fun W hW => (hW.cell (p := ⟨b, off + j * 4 + 2, none⟩) (Nat.lt_of_lt_of_le HB.out (HX1.out).size)).trans hcell2) (by assumption) (fun _ _ _ _ h => h) ?_
      simp only [Act.put, List.getElem_toArray, List.getElem_cons_zero, List.getElem_cons_succ, List.setIfInBounds_toArray, List.set_cons_zero, List.set_cons_succ]
      refine wpAnyH_take (i := 6) rfl (by kernel_rfl) (by kernel_rfl) (by kernel_rfl) (fun _ _ _ h => h) (.inl ⟨rfl, fun _ _ => rfl⟩) (by assumption) ?_
      simp only [Act.put, List.getElem_toArray, List.getElem_cons_zero, List.getElem_cons_succ, List.setIfInBounds_toArray, List.set_cons_zero, List.set_cons_succ]
      refine wpAnyH_call (i := 7) (by kernel_rfl) rfl rfl (run_call_func rfl rfl #[.int .i64 _] (by simp only [List.map_toArray, List.map_cons, List.map_nil, Act.eval]; rfl) Try.func121 (by kernel_rfl) (by kernel_rfl) _) (markText_any _ ((m + 1) + 1) _ (by omega) (by omega)) ?_
      rintro e wh2 ⟨rfl, hv2⟩
      have hs1 := Ext.trans hHeld hv2
      refine ⟨_, rfl, hs1, ?_⟩
      simp only [Act.put, List.getElem_toArray, List.getElem_cons_zero, List.getElem_cons_succ, List.setIfInBounds_toArray, List.set_cons_zero, List.set_cons_succ]
      refine wpAnyH_take (i := 8) rfl (by kernel_rfl) (by kernel_rfl) (by kernel_rfl) (fun _ _ _ h => h) (.inl ⟨rfl, fun _ _ => rfl⟩) (by assumption) ?_
      simp only [Act.put, List.getElem_toArray, List.getElem_cons_zero, List.getElem_cons_succ, List.setIfInBounds_toArray, List.set_cons_zero, List.set_cons_succ]
      refine wpAnyH_done (by kernel_rfl) ?_ _
      clear hHeld
      have HX2 := Lib.hid (Ext.trans HX1.out hs1)
      have hcell3 := (hs1.cell (p := ⟨b, off + j * 4 + 3, none⟩) (Nat.lt_of_lt_of_le HB.out HX1.out.size)).trans hcell3
      clear hs1 hv2
      simp only [beq_self_eq_true, Bool.not_true]
      go_wp2_with fail
      refine ((heldTypeS_all v1_2) _ _ (((m + 1) + 1) + 1) _ (by omega) (HR3.out.ext HX2.out) (by omega)).mono ?_
      rintro e wh3 ⟨rfl, hv3⟩
      have HX3 := Lib.hid (Ext.trans HX2.out hv3)
      clear hv3
      have hng : ¬ ((((((m + 1) + 1) + 1) + Tr.cntE (GType.trs v1_2)) : Nat) : Int) < 0 := by omega
      go_wp2_with fail
      go_roundw
      case rel => exact ⟨j + 1, ((((m + 1) + 1) + 1) + Tr.cntE (GType.trs v1_2)), by omega, by go_num, by first | rfl | go_num, by have h1 := HTK.out; have h2 := HM1.out; show _ = _; omega, hw.trans HX3.out⟩
      case measure => simp [intOf]; omega
    · have hkl : j = (GBound.trs l).length := by rw [GBound.trs_len]; omega
      go_wp2_with fail
      go_ret
      have hm1 := HM1.out
      rw [hkl, List.take_length] at hm1
      subst hm1
      exact ⟨rfl, hw⟩
theorem heldBoundS_all (l : List GBound) : HeldSC 54 4 (GBound.trs l) := heldBoundS_of l

set_option maxRecDepth 100000 in
set_option maxHeartbeats 2000000 in
theorem markEvidenceS_of (l : List GEvidence) (H : ∀ x ∈ l, MarkSC 96 5 (GEvidence.trs x.gArgs)) : MarkSC 96 5 (GEvidence.trs l) := by
  intro s kz k S w hz hown hS hbd
  subst hz
  obtain ⟨a, cap, rfl, hl, hm⟩ := hown.rep.shape
  rw [GEvidence.trs_len] at *
  unfold maxLen at hm
  have HO := Lib.hid hown
  have HSS := Lib.hid hS
  have HH := Lib.hid H
  clear H
  clear hown hS
  go_enter Try.func96, Try.ntmps96
  go_wp2_with fail
  go_loopw [1, 5] (fun kv i wr => ∃ j m : Nat, j ≤ l.length ∧ i = .int .i64 j ∧ kv = .int .i64 (m : Int) ∧ Hid (m = k + Tr.cntE ((GEvidence.trs l).take j)) ∧ Hid (Own wr (.row 5 (Tr.mid (GEvidence.trs l) k j)) (.slice a l.length cap) S) ∧ Hid (Chg S w wr)) (fun _ i _ => l.length - (intOf i).toNat)
  case atStart => exact ⟨0, k, Nat.zero_le _, rfl, rfl, by show _ = _; simp [Tr.cntE], by show Own _ _ _ _; rw [Tr.mid_zero]; exact HO.out, Chg.refl _ _⟩
  case round =>
    obtain ⟨j, m, hj, rfl, rfl, HM1, HO1, HC1⟩ := hrel
    by_cases hlt : j < l.length
    · have hlt2 : j < (GEvidence.trs l).length := by rw [GEvidence.trs_len]; exact hlt
      have hge : (GEvidence.trs l)[j] = (l[j]).tr := by have h1 := GEvidence.trs_get hlt; rw [List.getElem?_eq_getElem hlt2] at h1; exact Option.some.inj h1
      have hcl := Tr.cntE_le hlt2
      have hms := Tr.mid_set (k := k) hlt2
      have hmg := Tr.mid_get (k := k) hlt2
      have htk : Tr.cntE ((GEvidence.trs l).take (j + 1)) = Tr.cntE ((GEvidence.trs l).take j) + Tr.cntL (GEvidence.trs l)[j] := Tr.cntE_take _ j hlt2
      rw [hge] at hcl hms hmg htk
      have hm1 := HM1.out
      rw [← hm1] at hms
      have HM := Lib.hid (HH.out _ (List.getElem_mem hlt))
      generalize l[j] = x at *
      obtain ⟨v0, v1, ⟨v2_0, v2_1⟩, v3⟩ := x
      have HM : Hid (MarkSC 96 5 (GEvidence.trs v3)) := HM
      have htr : GEvidence.tr (.mk v0 v1 (.mk v2_0 v2_1) v3) = [.leaf (.int .i64 v0), .leaf (.int .i64 v1), .leaf (.int .i64 v2_0), .leaf (.int .i64 v2_1), .row 5 (GEvidence.trs v3)] := by simp [GEvidence.tr, GInstanceRef.tr]
      rw [htr] at hcl hms hmg htk
      have hcw : Tr.cntL [.leaf (.int .i64 v0), .leaf (.int .i64 v1), .leaf (.int .i64 v2_0), .leaf (.int .i64 v2_1), .row 5 (GEvidence.trs v3)] = 1 + 1 + 1 + 1 + Tr.cntE (GEvidence.trs v3) := by simp only [Tr.cntL, Tr.cnt]; omega
      obtain ⟨b, off, E0, arr0, cs0, T, rfl, hfoc, hrep, hback⟩ := HO1.out.take hmg (Tr.mid_sz (GEvidence.sz l)) (by omega) (fun x hx => Nat.lt_of_lt_of_le (HSS.out x hx) HC1.out.size)
      obtain ⟨d0, d1, d2, d3, d4, rfl⟩ := list5 hfoc.len
      obtain ⟨rfl, -⟩ := (hrep.1).leaf_eq
      obtain ⟨rfl, -⟩ := (hrep.2.1).leaf_eq
      obtain ⟨rfl, -⟩ := (hrep.2.2.1).leaf_eq
      obtain ⟨rfl, -⟩ := (hrep.2.2.2.1).leaf_eq
      obtain ⟨sa4, sc4, rfl, -, -⟩ := (hrep.2.2.2.2.1).shape
      have HF0 := Lib.hid hfoc
      have HBK := Lib.hid hback
      obtain ⟨arr1, hob1, hsz1, -, -⟩ := hfoc.arr
      have HOB0 := Lib.hid hob1
      have HFIT : Hid (off + j * 5 + 5 ≤ arr1.size) := by show _ ≤ _; rw [hsz1]; exact hfoc.fit
      have hmb : m + (1 + 1 + 1 + 1 + Tr.cntE (GEvidence.trs v3)) ≤ 1152921504606846976 := by rw [← hcw]; omega
      rw [hcw] at htk
      have HMS := Lib.hid hms
      have HTK := Lib.hid htk
      have hlo : (0 : Int) ≤ (j : Int) := by omega
      clear hfoc hrep hback hob1 hsz1 hms hmg htk hge hcl hcw hm1 htr
      go_wp2_with (first
        | (refine wpList_store_cell rfl 3 (.tmp 16) (.tmp 14) rfl b (off + j * 5 + 0) rfl (.int .i64 ((m : Nat) : Int)) (by first | rfl | (simp only [Nat.cast_add, Nat.cast_one] <;> rfl)) rfl E0 arr1 HOB0.out isz3 (by have := HFIT.out; omega) rfl ?_; intro w1 hob hg hq; have HF1 := Lib.hid (HF0.out.leaf (j := 0) rfl (v := .int .i64 ((m : Nat) : Int)) (WalkArith.wf_i64 (by omega)) HOB0.out hob hg); obtain ⟨ar1, ho, hzz, -, -⟩ := HF1.out.arr; have HOB1 := Lib.hid ho; have HFT1 : Hid (off + j * 5 + 5 ≤ ar1.size) := (by show _ ≤ _; rw [hzz]; exact HF1.out.fit); clear hob hg hq ho hzz)
        | (refine wpList_store_cell rfl 3 (.tmp 23) (.tmp 21) rfl b (off + j * 5 + 1) rfl (.int .i64 (((m + 1) : Nat) : Int)) (by first | rfl | (simp only [Nat.cast_add, Nat.cast_one] <;> rfl)) rfl E0 ar1 HOB1.out isz3 (by have := HFT1.out; omega) rfl ?_; intro w2 hob hg hq; have HF2 := Lib.hid (HF1.out.leaf (j := 1) rfl (v := .int .i64 (((m + 1) : Nat) : Int)) (WalkArith.wf_i64 (by omega)) HOB1.out hob hg); obtain ⟨ar2, ho, hzz, -, -⟩ := HF2.out.arr; have HOB2 := Lib.hid ho; have HFT2 : Hid (off + j * 5 + 5 ≤ ar2.size) := (by show _ ≤ _; rw [hzz]; exact HF2.out.fit); clear hob hg hq ho hzz)
        | (refine wpList_store_cell rfl 3 (.tmp 31) (.tmp 28) rfl b (off + j * 5 + 2) rfl (.int .i64 ((((m + 1) + 1) : Nat) : Int)) (by first | rfl | (simp only [Nat.cast_add, Nat.cast_one] <;> rfl)) rfl E0 ar2 HOB2.out isz3 (by have := HFT2.out; omega) rfl ?_; intro w3 hob hg hq; have HF3 := Lib.hid (HF2.out.leaf (j := 2) rfl (v := .int .i64 ((((m + 1) + 1) : Nat) : Int)) (WalkArith.wf_i64 (by omega)) HOB2.out hob hg); obtain ⟨ar3, ho, hzz, -, -⟩ := HF3.out.arr; have HOB3 := Lib.hid ho; have HFT3 : Hid (off + j * 5 + 5 ≤ ar3.size) := (by show _ ≤ _; rw [hzz]; exact HF3.out.fit); clear hob hg hq ho hzz)
        | (refine wpList_store_cell rfl 3 (.tmp 39) (.tmp 36) rfl b (off + j * 5 + 3) rfl (.int .i64 (((((m + 1) + 1) + 1) : Nat) : Int)) (by first | rfl | (simp only [Nat.cast_add, Nat.cast_one] <;> rfl)) rfl E0 ar3 HOB3.out isz3 (by have := HFT3.out; omega) rfl ?_; intro w4 hob hg hq; have HF4 := Lib.hid (HF3.out.leaf (j := 3) rfl (v := .int .i64 (((((m + 1) + 1) + 1) : Nat) : Int)) (WalkArith.wf_i64 (by omega)) HOB3.out hob hg); obtain ⟨ar4, ho, hzz, -, -⟩ := HF4.out.arr; have HOB4 := Lib.hid ho; have HFT4 : Hid (off + j * 5 + 5 ≤ ar4.size) := (by show _ ≤ _; rw [hzz]; exact HF4.out.fit); clear hob hg hq ho hzz; have hcell4 := HF4.out.cell (j := 4) rfl))
      obtain ⟨U4, hu1, hu2, hu3⟩ := HF4.out.row (j := 4) rfl rfl
      refine (HM.out _ _ ((((m + 1) + 1) + 1) + 1) U4 _ (by omega) hu1 hu2 (by omega)).mono ?_
      rintro e w5 ⟨rfl, how, hch⟩
      have HF5 := Lib.hid (hu3 w5 _ how hch)
      clear how hch hu1 hu2 hu3 hcell4
      go_wp2_with fail
      go_roundw
      case rel =>
        obtain ⟨hown2, hchg2⟩ := HBK.out _ _ _ rfl HF5.out
        refine ⟨j + 1, (((((m + 1) + 1) + 1) + 1) + Tr.cntE (GEvidence.trs v3)), by omega, by go_num, by first | rfl | go_num, by have h1 := HTK.out; have h2 := HM1.out; show _ = _; omega, ?_, HC1.out.trans hchg2⟩
        show Own _ _ _ _
        rw [← HMS.out]
        exact hown2
      case measure => simp [intOf]; omega
    · have hkl : j = (GEvidence.trs l).length := by rw [GEvidence.trs_len]; omega
      go_wp2_with fail
      go_ret
      have ho := HO1.out
      rw [hkl, Tr.mid_end] at ho
      have hm1 := HM1.out
      rw [hkl, List.take_length] at hm1
      subst hm1
      exact ⟨rfl, ho, HC1.out⟩
theorem markEvidenceS_in : ∀ x : GEvidence, MarkSC 96 5 (GEvidence.trs x.gArgs) :=
  GEvidence.ind fun v0 v1 v2 v3 ih => markEvidenceS_of v3 ih
theorem markEvidenceS_all (l : List GEvidence) : MarkSC 96 5 (GEvidence.trs l) := markEvidenceS_of l fun x _ => markEvidenceS_in x

set_option maxRecDepth 100000 in
set_option maxHeartbeats 2000000 in
theorem heldEvidenceS_of (l : List GEvidence) (H : ∀ x ∈ l, HeldSC 97 5 (GEvidence.trs x.gArgs)) : HeldSC 97 5 (GEvidence.trs l) := by
  intro s kz k w hz hrep0 hbd
  subst hz
  obtain ⟨a, cap, rfl, hl, hm⟩ := hrep0.shape
  rw [Tr.markE_length, GEvidence.trs_len] at *
  unfold maxLen at hm
  have HO := Lib.hid hrep0
  have HH := Lib.hid H
  clear H
  clear hrep0
  go_enter Try.func97, Try.ntmps97
  go_wp2_with fail
  go_loopw [1, 5] (fun kv i wr => ∃ j m : Nat, j ≤ l.length ∧ i = .int .i64 j ∧ kv = .int .i64 (m : Int) ∧ Hid (m = k + Tr.cntE ((GEvidence.trs l).take j)) ∧ Ext w wr) (fun _ i _ => l.length - (intOf i).toNat)
  case atStart => exact ⟨0, k, Nat.zero_le _, rfl, rfl, by show _ = _; simp [Tr.cntE], .refl _⟩
  case round =>
    obtain ⟨j, m, hj, rfl, rfl, HM1, hw⟩ := hrel
    by_cases hlt : j < l.length
    · have hlt2 : j < (GEvidence.trs l).length := by rw [GEvidence.trs_len]; exact hlt
      have hge : (GEvidence.trs l)[j] = (l[j]).tr := by have h1 := GEvidence.trs_get hlt; rw [List.getElem?_eq_getElem hlt2] at h1; exact Option.some.inj h1
      have hcl := Tr.cntE_le hlt2
      have hmg := Tr.markE_get (GEvidence.trs l) k j hlt2
      have htk : Tr.cntE ((GEvidence.trs l).take (j + 1)) = Tr.cntE ((GEvidence.trs l).take j) + Tr.cntL (GEvidence.trs l)[j] := Tr.cntE_take _ j hlt2
      rw [hge] at hcl hmg htk
      have hm1 := HM1.out
      rw [← hm1] at hmg
      have HM := Lib.hid (HH.out _ (List.getElem_mem hlt))
      generalize l[j] = x at *
      obtain ⟨v0, v1, ⟨v2_0, v2_1⟩, v3⟩ := x
      have HM : Hid (HeldSC 97 5 (GEvidence.trs v3)) := HM
      have htr : GEvidence.tr (.mk v0 v1 (.mk v2_0 v2_1) v3) = [.leaf (.int .i64 v0), .leaf (.int .i64 v1), .leaf (.int .i64 v2_0), .leaf (.int .i64 v2_1), .row 5 (GEvidence.trs v3)] := by simp [GEvidence.tr, GInstanceRef.tr]
      rw [htr] at hcl hmg htk
      have hcw : Tr.cntL [.leaf (.int .i64 v0), .leaf (.int .i64 v1), .leaf (.int .i64 v2_0), .leaf (.int .i64 v2_1), .row 5 (GEvidence.trs v3)] = 1 + 1 + 1 + 1 + Tr.cntE (GEvidence.trs v3) := by simp only [Tr.cntL, Tr.cnt]; omega
      obtain ⟨b, off, cs0, rfl, hb, hrep, hc⟩ := (HO.out.ext hw).at2 hmg
      obtain ⟨d0, d1, d2, d3, d4, rfl⟩ := list5 hrep.length.symm
      obtain ⟨rfl, -⟩ := (hrep.1).leaf_eq
      obtain ⟨rfl, -⟩ := (hrep.2.1).leaf_eq
      obtain ⟨rfl, -⟩ := (hrep.2.2.1).leaf_eq
      obtain ⟨rfl, -⟩ := (hrep.2.2.2.1).leaf_eq
      have HR4 := Lib.hid (hrep.2.2.2.2.1)
      obtain ⟨sa4, sc4, hd4, -, -⟩ := HR4.out.shape
      rw [Tr.markE_length] at hd4
      subst hd4
      have hmb : m + (1 + 1 + 1 + 1 + Tr.cntE (GEvidence.trs v3)) ≤ 1152921504606846976 := by rw [← hcw]; omega
      rw [hcw] at htk
      have HTK := Lib.hid htk
      have HC := Lib.hid hc
      have HB := Lib.hid hb
      have hki := hlt
      simp only [markLeaf, Tr.cnt] at *
      have hcell0 : wr.cell? ⟨b, off + j * 5, none⟩ = some _ := HC.out 0 _ rfl
      have hcell1 : wr.cell? ⟨b, off + j * 5 + 1, none⟩ = some _ := HC.out 1 _ rfl
      have hcell2 : wr.cell? ⟨b, off + j * 5 + 2, none⟩ = some _ := HC.out 2 _ rfl
      have hcell3 : wr.cell? ⟨b, off + j * 5 + 3, none⟩ = some _ := HC.out 3 _ rfl
      have hcell4 : wr.cell? ⟨b, off + j * 5 + 4, none⟩ = some _ := HC.out 4 _ rfl
      clear hrep hc hmg htk hge hcl hcw hm1 htr hb
      go_wp2_with fail
      have HX0 := Lib.hid (Ext.refl wr)
      refine (HM.out _ _ ((((m + 1) + 1) + 1) + 1) _ (by omega) (HR4.out.ext HX0.out) (by omega)).mono ?_
      rintro e wh1 ⟨rfl, hv1⟩
      have HX1 := Lib.hid (Ext.trans HX0.out hv1)
      clear hv1
      have hng : ¬ (((((((m + 1) + 1) + 1) + 1) + Tr.cntE (GEvidence.trs v3)) : Nat) : Int) < 0 := by omega
      go_wp2_with fail
      go_roundw
      case rel => exact ⟨j + 1, (((((m + 1) + 1) + 1) + 1) + Tr.cntE (GEvidence.trs v3)), by omega, by go_num, by first | rfl | go_num, by have h1 := HTK.out; have h2 := HM1.out; show _ = _; omega, hw.trans HX1.out⟩
      case measure => simp [intOf]; omega
    · have hkl : j = (GEvidence.trs l).length := by rw [GEvidence.trs_len]; omega
      go_wp2_with fail
      go_ret
      have hm1 := HM1.out
      rw [hkl, List.take_length] at hm1
      subst hm1
      exact ⟨rfl, hw⟩
theorem heldEvidenceS_in : ∀ x : GEvidence, HeldSC 97 5 (GEvidence.trs x.gArgs) :=
  GEvidence.ind fun v0 v1 v2 v3 ih => heldEvidenceS_of v3 ih
theorem heldEvidenceS_all (l : List GEvidence) : HeldSC 97 5 (GEvidence.trs l) := heldEvidenceS_of l fun x _ => heldEvidenceS_in x

set_option maxRecDepth 100000 in
set_option maxHeartbeats 2000000 in
theorem markType_all (x : GType) : MarkC 52 x.tr := by
  obtain ⟨v0, v1, v2⟩ := x
  have htr : GType.tr (.mk v0 v1 v2) = [.leaf (.int .i64 v0), .leaf (.string v1), .row 3 (GType.trs v2)] := by simp [GType.tr]
  rw [htr]
  clear htr
  intro cs kz k S w hz ho hS hbd
  subst hz
  simp only [Tr.topN, Tr.topL, Nat.add_zero] at *
  have hr := ho.rep
  obtain ⟨d0, d1, d2, rfl⟩ := list3 hr.length.symm
  obtain ⟨rfl, -⟩ := (hr.1).leaf_eq
  obtain ⟨rfl, -⟩ := (hr.2.1).leaf_eq
  have HR := Lib.hid (hr.2.2.1)
  obtain ⟨sa, sc, hd, -, -⟩ := HR.out.shape
  rw [GType.trs_len] at hd
  subst hd
  obtain ⟨U, hu1, hu2, hu3⟩ := ho.setRow (j := 2) rfl rfl
  have HU1 := Lib.hid hu1
  have HU2 := Lib.hid hu2
  have HU3 := Lib.hid hu3
  have HSS := Lib.hid hS
  clear ho hS hr hu1 hu2 hu3
  go_enter Try.func52, Try.ntmps52
  go_wp2_with fail
  refine (markTypeS_all v2 _ _ k U _ (by rfl) (HU1.out.ext (.alloc (.refl _) _)) (fun x hx => by have := HSS.out x (HU2.out x hx); simp only [World.size_alloc]; omega) (by omega)).mono ?_
  rintro e w1 ⟨rfl, how, hch⟩
  have hown := HU3.out w1 _ how (fun x hx _ hn => (hch.block x (by simp only [World.size_alloc]; omega) hn).trans ((Ext.alloc (.refl w) _).block x hx))
  have hchg := (Chg.of_ext (.alloc (.refl w) _)).trans (hch.mono HU2.out)
  have HOWN := Lib.hid hown
  have HCHG := Lib.hid hchg
  clear how hch hown hchg
  go_wp2_with fail
  go_ret
  exact ⟨rfl, HOWN.out, HCHG.out⟩

set_option maxRecDepth 100000 in
set_option maxHeartbeats 2000000 in
theorem heldType_all (x : GType) : HeldC 159 x.tr := by
  obtain ⟨v0, v1, v2⟩ := x
  have htr : GType.tr (.mk v0 v1 v2) = [.leaf (.int .i64 v0), .leaf (.string v1), .row 3 (GType.trs v2)] := by simp [GType.tr]
  rw [htr]
  clear htr
  intro cs kz k w hz hr hbd
  subst hz
  simp only [Tr.topN, Tr.topL, Nat.add_zero] at *
  obtain ⟨d0, d1, d2, rfl⟩ := list3 hr.length.symm
  obtain ⟨rfl, -⟩ := (hr.1).leaf_eq
  obtain ⟨rfl, -⟩ := (hr.2.1).leaf_eq
  have HR := Lib.hid (hr.2.2.1)
  obtain ⟨sa, sc, hd, -, -⟩ := HR.out.shape
  rw [Tr.markE_length] at hd
  rw [GType.trs_len] at hd
  subst hd
  clear hr
  go_enter Try.func159, Try.ntmps159
  go_wp2_with fail
  refine (heldTypeS_all v2 _ _ k _ (by rfl) (HR.out.ext (.alloc (.refl _) _)) (by omega)).mono ?_
  rintro e w1 ⟨rfl, hw1⟩
  have HW1 := Lib.hid (Ext.trans (.alloc (.refl _) _) hw1)
  clear hw1
  have hng : ¬ ((k + Tr.cntE (GType.trs v2) : Nat) : Int) < 0 := by omega
  go_wp2_with fail
  go_ret
  exact ⟨rfl, HW1.out⟩
-- markBound: not served
-- heldBound: not served

set_option maxRecDepth 100000 in
set_option maxHeartbeats 2000000 in
theorem markEvidence_all (x : GEvidence) : MarkC 30 x.tr := by
  obtain ⟨v0, v1, ⟨v2_0, v2_1⟩, v3⟩ := x
  have htr : GEvidence.tr (.mk v0 v1 (.mk v2_0 v2_1) v3) = [.leaf (.int .i64 v0), .leaf (.int .i64 v1), .leaf (.int .i64 v2_0), .leaf (.int .i64 v2_1), .row 5 (GEvidence.trs v3)] := by simp [GEvidence.tr, GInstanceRef.tr]
  rw [htr]
  clear htr
  intro cs kz k S w hz ho hS hbd
  subst hz
  simp only [Tr.topN, Tr.topL, Nat.add_zero] at *
  have hr := ho.rep
  obtain ⟨d0, d1, d2, d3, d4, rfl⟩ := list5 hr.length.symm
  obtain ⟨rfl, -⟩ := (hr.1).leaf_eq
  obtain ⟨rfl, -⟩ := (hr.2.1).leaf_eq
  obtain ⟨rfl, -⟩ := (hr.2.2.1).leaf_eq
  obtain ⟨rfl, -⟩ := (hr.2.2.2.1).leaf_eq
  have HR := Lib.hid (hr.2.2.2.2.1)
  obtain ⟨sa, sc, hd, -, -⟩ := HR.out.shape
  rw [GEvidence.trs_len] at hd
  subst hd
  obtain ⟨U, hu1, hu2, hu3⟩ := ho.setRow (j := 4) rfl rfl
  have HU1 := Lib.hid hu1
  have HU2 := Lib.hid hu2
  have HU3 := Lib.hid hu3
  have HSS := Lib.hid hS
  clear ho hS hr hu1 hu2 hu3
  go_enter Try.func30, Try.ntmps30
  go_wp2_with fail
  refine (markEvidenceS_all v3 _ _ k U _ (by rfl) (HU1.out.ext (.alloc (.refl _) _)) (fun x hx => by have := HSS.out x (HU2.out x hx); simp only [World.size_alloc]; omega) (by omega)).mono ?_
  rintro e w1 ⟨rfl, how, hch⟩
  have hown := HU3.out w1 _ how (fun x hx _ hn => (hch.block x (by simp only [World.size_alloc]; omega) hn).trans ((Ext.alloc (.refl w) _).block x hx))
  have hchg := (Chg.of_ext (.alloc (.refl w) _)).trans (hch.mono HU2.out)
  have HOWN := Lib.hid hown
  have HCHG := Lib.hid hchg
  clear how hch hown hchg
  go_wp2_with fail
  go_ret
  exact ⟨rfl, HOWN.out, HCHG.out⟩

set_option maxRecDepth 100000 in
set_option maxHeartbeats 2000000 in
theorem heldEvidence_all (x : GEvidence) : HeldC 32 x.tr := by
  obtain ⟨v0, v1, ⟨v2_0, v2_1⟩, v3⟩ := x
  have htr : GEvidence.tr (.mk v0 v1 (.mk v2_0 v2_1) v3) = [.leaf (.int .i64 v0), .leaf (.int .i64 v1), .leaf (.int .i64 v2_0), .leaf (.int .i64 v2_1), .row 5 (GEvidence.trs v3)] := by simp [GEvidence.tr, GInstanceRef.tr]
  rw [htr]
  clear htr
  intro cs kz k w hz hr hbd
  subst hz
  simp only [Tr.topN, Tr.topL, Nat.add_zero] at *
  obtain ⟨d0, d1, d2, d3, d4, rfl⟩ := list5 hr.length.symm
  obtain ⟨rfl, -⟩ := (hr.1).leaf_eq
  obtain ⟨rfl, -⟩ := (hr.2.1).leaf_eq
  obtain ⟨rfl, -⟩ := (hr.2.2.1).leaf_eq
  obtain ⟨rfl, -⟩ := (hr.2.2.2.1).leaf_eq
  have HR := Lib.hid (hr.2.2.2.2.1)
  obtain ⟨sa, sc, hd, -, -⟩ := HR.out.shape
  rw [Tr.markE_length] at hd
  rw [GEvidence.trs_len] at hd
  subst hd
  clear hr
  go_enter Try.func32, Try.ntmps32
  go_wp2_with fail
  refine (heldEvidenceS_all v3 _ _ k _ (by rfl) (HR.out.ext (.alloc (.refl _) _)) (by omega)).mono ?_
  rintro e w1 ⟨rfl, hw1⟩
  have HW1 := Lib.hid (Ext.trans (.alloc (.refl _) _) hw1)
  clear hw1
  have hng : ¬ ((k + Tr.cntE (GEvidence.trs v3) : Nat) : Int) < 0 := by omega
  go_wp2_with fail
  go_ret
  exact ⟨rfl, HW1.out⟩

end Go.Proofs.Ytoifjkggpanceaa
