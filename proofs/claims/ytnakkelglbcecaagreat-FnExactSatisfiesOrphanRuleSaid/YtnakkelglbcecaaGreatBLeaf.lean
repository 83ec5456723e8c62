/- The laws' own helpers at slices of integers and of strings. No conditions. -/
import Derived.Test.YtnakkelglbcecaaGreatCtr
import Derived.Test.YtnakkelglbcecaaGreatData
import Derived.BigQuiet
import Derived.Deep.QuietTactic
namespace Go.Proofs.YtnakkelglbcecaaGreat
open Go.RowKit Go.Proofs

set_option maxRecDepth 100000 in
set_option maxHeartbeats 1000000 in
theorem szStringS_all (l : List ByteArray) : SzSC 178 1 (strTrs l) := by
  intro s left w hs h0 h1
  obtain ⟨a, cap, rfl, hl, hm⟩ := hs.shape
  rw [strTrs_len] at *
  unfold maxLen at hm
  have HS := Lib.hid hs
  clear hs
  go_enter Tryz.func178, Tryz.ntmps178
  go_wp2_with fail
  · go_ret
    exact ⟨-1, rfl, .refl _, by omega, by omega, by omega⟩
  go_loopw [1, 5] (fun lv i wr => ∃ (k : Nat) (r : Int), k ≤ l.length ∧ i = .int .i64 k ∧ lv = .int .i64 r ∧ wr = w ∧ 0 ≤ r ∧ Hid (r + l.length + Tr.bulkAll ((strTrs l).take k) ≤ left) ∧ r ≤ left) (fun _ i _ => l.length - (intOf i).toNat)
  case atStart => exact ⟨0, _, Nat.zero_le _, rfl, rfl, rfl, by omega, by show _ ≤ _; simp only [List.take_zero, Tr.bulkAll]; omega, by omega⟩
  case round =>
    obtain ⟨k, r, hk, rfl, rfl, rfl, hr0, HR, hrl⟩ := hrel
    by_cases hlt : k < l.length
    · obtain ⟨b, off, rfl, hb, hle, hcell⟩ := HS.out.str hlt
      have HT : Hid (Tr.bulkAll ((strTrs l).take (k + 1)) = Tr.bulkAll ((strTrs l).take k) + l[k].size) := by
        show _ = _
        have h1 : k < (strTrs l).length := by rw [strTrs_len]; exact hlt
        rw [Tr.bulkAll_take _ k h1]
        have h2 : (strTrs l)[k] = [.leaf (.string l[k])] := by simp [strTrs]
        rw [h2]
        simp [Tr.bulkL, Tr.bulk]
      unfold maxLen at hle
      generalize l[k] = z at *
      go_wp2_with fail
      · go_ret
        exact ⟨-1, rfl, .refl _, by omega, by omega, by omega⟩
      · go_roundw
        case rel => exact ⟨k + 1, _, by omega, by go_num, rfl, by first | trivial | rfl, by omega, by show _ ≤ _; have h1 := HR.out; have h2 := HT.out; omega, by omega⟩
        case measure => simp [intOf]; omega
    · have hkl : k = l.length := by omega
      go_wp2_with fail
      go_ret
      refine ⟨r, rfl, .refl _, by omega, by omega, fun _ => ?_⟩
      have h1 := HR.out
      rw [hkl, ← strTrs_len, List.take_length] at h1
      simp only [Tr.bulk]
      omega

set_option maxRecDepth 100000 in
set_option maxHeartbeats 1000000 in
theorem eqIntS_all (l : List Int) : EqSC 35 1 (intTrs l) := by
  intro s u w hs hu
  obtain ⟨a, cap, rfl, hl, hm⟩ := hs.shape
  obtain ⟨a', cap', rfl, hl', hm'⟩ := hu.shape
  rw [intTrs_len] at *
  unfold maxLen at hm hm'
  have HS := Lib.hid hs
  have HU := Lib.hid hu
  clear hs hu
  go_enter Tryz.func35, Tryz.ntmps35
  go_wp2_with fail
  go_loopw [5] (fun i wr => ∃ k : Nat, k ≤ l.length ∧ i = .int .i64 k ∧ Ext w wr) (fun i _ => l.length - (intOf i).toNat)
  case atStart => exact ⟨0, Nat.zero_le _, rfl, .refl _⟩
  case round =>
    obtain ⟨k, hk, rfl, hw⟩ := hrel
    by_cases hlt : k < l.length
    · obtain ⟨b, off, rfl, hb, -, hcell⟩ := (HS.out.ext hw).int hlt
      obtain ⟨b', off', rfl, hb', -, hcell'⟩ := (HU.out.ext hw).int hlt
      have ki : (k : Int) < (l.length : Int) := by omega
      have k0 : (0 : Int) ≤ (k : Int) := by omega
      have hk0 : 0 ≤ k := Nat.zero_le k
      generalize l[k] = z at *
      go_wp2_with fail
      go_quiet (fail)
      go_wp2_with fail
      go_roundw
      case rel => exact ⟨k + 1, by omega, by go_num, hw.drewN _⟩
      case measure => simp [intOf]; omega
    · go_wp2_with fail
      go_ret
      exact ⟨rfl, hw⟩

set_option maxRecDepth 100000 in
set_option maxHeartbeats 1000000 in
theorem eqStringS_all (l : List ByteArray) : EqSC 29 1 (strTrs l) := by
  intro s u w hs hu
  obtain ⟨a, cap, rfl, hl, hm⟩ := hs.shape
  obtain ⟨a', cap', rfl, hl', hm'⟩ := hu.shape
  rw [strTrs_len] at *
  unfold maxLen at hm hm'
  have HS := Lib.hid hs
  have HU := Lib.hid hu
  clear hs hu
  go_enter Tryz.func29, Tryz.ntmps29
  go_wp2_with fail
  go_loopw [5] (fun i wr => ∃ k : Nat, k ≤ l.length ∧ i = .int .i64 k ∧ Ext w wr) (fun i _ => l.length - (intOf i).toNat)
  case atStart => exact ⟨0, Nat.zero_le _, rfl, .refl _⟩
  case round =>
    obtain ⟨k, hk, rfl, hw⟩ := hrel
    by_cases hlt : k < l.length
    · obtain ⟨b, off, rfl, hb, -, hcell⟩ := (HS.out.ext hw).str hlt
      obtain ⟨b', off', rfl, hb', -, hcell'⟩ := (HU.out.ext hw).str hlt
      have ki : (k : Int) < (l.length : Int) := by omega
      have k0 : (0 : Int) ≤ (k : Int) := by omega
      have hk0 : 0 ≤ k := Nat.zero_le k
      generalize l[k] = z at *
      go_wp2_with fail
      go_quiet (fail)
      go_wp2_with fail
      go_roundw
      case rel => exact ⟨k + 1, by omega, by go_num, hw.drewN _⟩
      case measure => simp [intOf]; omega
    · go_wp2_with fail
      go_ret
      exact ⟨rfl, hw⟩

set_option maxRecDepth 100000 in
set_option maxHeartbeats 1000000 in
theorem toStringS_all (l : List ByteArray) : ToSC 183 1 (strTrs l) := by
  intro s w hs hbk
  obtain ⟨a, cap, rfl, hl, hm⟩ := hs.shape
  rw [strTrs_len] at *
  unfold maxLen at hm
  have HS := Lib.hid hs
  have n0 : (0 : Int) ≤ l.length := by omega
  clear hs
  go_enter Tryz.func183, Tryz.ntmps183
  go_wp2_with (refine wpList_make_rep rfl 54 (.tmp 6) rfl l.length rfl 9 Tryz.underlying54 1 16 iszb9 (by omega) (by omega) ?_; intro wm arr0 ha0 hob0 hx0 hz0; have HA0 := Lib.hid ha0; have HOB0 := Lib.hid hob0; have HX0 := Lib.hid hx0; have HZ0 := Lib.hid hz0; clear ha0 hob0 hx0 hz0)
  go_loopw [4] (fun i wr => ∃ (k : Nat) (arr : Array Value), k ≤ l.length ∧ i = .int .i64 k ∧ Ext w wr ∧ w.heap.size < wr.heap.size ∧ OB wr w.heap.size 9 arr ∧ arr.size = (strTrs l).length * 1 ∧ Part wr w.heap.size arr 1 (strTrs l) k) (fun i _ => l.length - (intOf i).toNat)
  case atStart => exact ⟨0, arr0, Nat.zero_le _, rfl, HX0.out, by rw [HZ0.out]; omega, HOB0.out, by rw [strTrs_len]; exact HA0.out, Part.zero _ _ _ _ _⟩
  case round =>
    obtain ⟨k, arr, hk, rfl, hw, hgt, hob, hasz, hpart⟩ := hrel
    have HOB := Lib.hid hob
    have HAS := Lib.hid hasz
    have HP := Lib.hid hpart
    clear hob hasz hpart
    by_cases hlt : k < l.length
    · obtain ⟨b, off, rfl, hb, hle, hcell⟩ := (HS.out.ext hw).str hlt
      have HGT := Lib.hid (strTrs_get hlt)
      have HLE : Hid (LeafOk (Value.string l[k])) := hle
      have HF : Hid (0 + k * 1 + 1 ≤ arr.size) := by have h1 := HAS.out; rw [strTrs_len] at h1; show _ ≤ _; omega
      clear hle
      generalize l[k] = z at *
      go_wp2_with (refine wpList_store_cell rfl 9 (.tmp 20) (.tmp 19) rfl w.heap.size k rfl (.string z) rfl rfl 9 arr HOB.out isz9 (by have h1 := HF.out; omega) rfl ?_; intro w2 hob2 hg2 hz2; have HOB2 := Lib.hid hob2; have HG2 := Lib.hid hg2; have HZ2 := Lib.hid hz2; clear hob2 hg2 hz2)
      go_roundw
      case rel =>
        have hob2 : OB w2 w.heap.size 9 (splice arr (k * 1) [Value.string z]) := by rw [Nat.mul_one]; exact HOB2.out
        have hfit : k * 1 + [Value.string z].length ≤ arr.size := by have := HF.out; simp; omega
        refine ⟨k + 1, _, by omega, by go_num, grown_ext hw HG2.out (Nat.le_refl _), by rw [HZ2.out]; exact hgt, hob2, by rw [splice_size hfit]; exact HAS.out, HP.out.step hgt (.refl _) HGT.out (OwnL.cons_leaf HLE.out (OwnL.nil _ _)) rfl HAS.out HG2.out hob2⟩
      case measure => simp [intOf]; omega
    · have hkl : k = l.length := by omega
      go_wp2_with fail
      go_ret
      subst hkl
      have hp := HP.out
      rw [← strTrs_len] at hp
      have := (hp.done HOB.out (strTrs_sz l) (Nat.le_refl _) (by rw [strTrs_len]; unfold maxLen; omega) (Nat.le_refl _)).mono (S' := Between w wr) fun x hx => ⟨hx.1, hx.2⟩
      rw [strTrs_len] at this
      exact ⟨_, rfl, hw, this⟩

end Go.Proofs.YtnakkelglbcecaaGreat
