/- Evidence: validity on both sides. No conditions. -/
import Derived.Test.YtimjeckffegleaaLEv
import Derived.BigQuiet
import Derived.Deep.QuietTactic
namespace Go.Proofs.Ytimjeckffegleaa
open Go.RowKit Go.Proofs

mutual
def GEvidence.valid : GEvidence → Bool
  | .mk k n (.mk p a) xs =>
    (if k = 1 then decide (n = 0) && decide (0 ≤ p) && decide (0 ≤ a) && decide ((xs.length : Int) ≤ 4)
     else if k = 2 then decide (0 ≤ n) && decide (p = 0) && decide (a = 0) && ((xs.length : Int) == 0)
     else if k = 3 then decide (0 ≤ n) && decide (p = 0) && decide (a = 0) && ((xs.length : Int) == 1)
     else if k = 4 ∨ k = 5 then decide (n = 0) && decide (p = 0) && decide (a = 0) && ((xs.length : Int) == 0)
     else false) && GEvidence.valids xs
def GEvidence.valids : List GEvidence → Bool
  | [] => true
  | e :: r => GEvidence.valid e && GEvidence.valids r
end
theorem GEvidence.valids_step {l : List GEvidence} {k : Nat} (h : k < l.length) : GEvidence.valids (l.drop k) = (GEvidence.valid l[k] && GEvidence.valids (l.drop (k + 1))) := by
  rw [List.drop_eq_getElem_cons h, GEvidence.valids]
theorem kinds5 (v : Int) : v = 1 ∨ v = 2 ∨ v = 3 ∨ v = 4 ∨ v = 5 ∨ (v == 1) = false ∧ (v == 2) = false ∧ (v == 3) = false ∧ (v == 4) = false ∧ (v == 5) = false := by
  simp; omega

set_option maxHeartbeats 4000000 in
theorem evidenceValid_spec : ∀ (x : GEvidence) (cs : List Value) (w : World), RepL w x.tr cs →
    Calls Try.prog 28 #[.agg ⟨cs⟩] w fun e w' => e = .returned (.bool (GEvidence.valid x)) ∧ Ext w w' := by
  refine GEvidence.ind fun v0 v1 v2 xs ih => ?_
  obtain ⟨p, t⟩ := v2
  intro cs w hr
  obtain ⟨x2, a, c, rfl, -, -, h2, h3⟩ := GEvidence.opened hr
  obtain ⟨rfl, -, -⟩ := GInstanceRef.opened h2
  obtain ⟨hl, hm, -⟩ := h3.lens
  have HS := Lib.hid h3
  have IH := Lib.hid ih
  clear hr h2 h3 ih
  simp only [List.cons_append, List.nil_append]
  rcases kinds5 v0 with rfl | rfl | rfl | rfl | rfl | ⟨k1, k2, k3, k4, k5⟩
  all_goals go_enter Try.func28, Try.ntmps28
  all_goals go_wp2_with fail
  all_goals first
    | (go_ret; exact ⟨ret_bool (by simp_all [GEvidence.valid] <;> omega), .alloc (.refl _) _⟩)
    | skip
  all_goals
    go_loopw [4] (fun i wr => ∃ (k : Nat) (z : Int), k ≤ xs.length ∧ i = .int .i64 k ∧ Ext w wr ∧ Hid (OB wr w.heap.size 34 #[.int .i64 z, .int .i64 v1, .int .i64 p, .int .i64 t, .slice a xs.length c]) ∧ Hid (GEvidence.valids xs = GEvidence.valids (xs.drop k))) (fun i _ => xs.length - (intOf i).toNat)
    case atStart =>
      simp_all only []
      exact ⟨0, _, Nat.zero_le _, rfl, .alloc (.refl _) _, OB.new w _ _, rfl⟩
    case round =>
      obtain ⟨k, z0, hk, rfl, hw, HB, HE⟩ := hrel
      have hce := HB.out.cell
      by_cases hlt : k < xs.length
      · obtain ⟨b, off, cs, rfl, hb, hcs, hc⟩ := (HS.out.ext hw).at2 (k := k) (GEvidence.trs_get hlt)
        have HM := Lib.hid (List.getElem_mem hlt)
        have HCS := Lib.hid hcs
        have HC := Lib.hid hc
        have HI : Hid ((Try.prog.info? 34).map (·.size) = some cs.length) := by rw [← hcs.length, GEvidence.tr_len]; exact isz34
        have HCL : Hid (cs.length = 5) := by rw [← hcs.length, GEvidence.tr_len]; rfl
        clear hcs hc
        have HST := Lib.hid (GEvidence.valids_step hlt)
        go_wp2_with (refine wpList_load_rep rfl 34 (.tmp 70) rfl b (off + k * 5) rfl cs _ Try.underlying34 HI.out HC.out ?_)
        refine (IH.out _ HM.out _ _ HCS.out).mono ?_
        rintro e w1 ⟨rfl, hw1⟩
        have HW1 := Lib.hid (hw.trans hw1)
        have HB1 := Lib.hid (HB.out.ext hw1)
        clear hw1
        cases hz : GEvidence.valid xs[k]
        · have HZ := Lib.hid hz
          clear hz
          go_wp2_with fail
          go_ret
          exact ⟨ret_bool (by have := HE.out; rw [HST.out, HZ.out] at this; simp [GEvidence.valid, this]), HW1.out⟩
        · have HZ := Lib.hid hz
          clear hz
          go_wp2_with fail
          go_roundw
          case rel =>
            exact ⟨k + 1, z0, by omega, by go_num, HW1.out, HB1.out, by have := HE.out; rw [HST.out, HZ.out] at this; exact this⟩
          case measure => simp [intOf]; omega
      · have hkl : k = xs.length := by omega
        go_wp2_with fail
        all_goals
          go_ret
          have := HE.out
          rw [hkl, List.drop_length] at this
          simp only [GEvidence.valids] at this
          exact ⟨ret_bool (by simp_all [GEvidence.valid] <;> omega), hw⟩
theorem GEvidence.valids_any : ∀ xs : List GEvidence, GEvidence.valids xs = !(xs.any fun a => !GEvidence.valid a)
  | [] => rfl
  | e :: r => by rw [GEvidence.valids, GEvidence.valids_any r]; simp

theorem ref4 (p t : Int) : p = 0 ∧ t = 0 ∨ p = 0 ∧ (t == 0) = false ∨ (p == 0) = false ∧ 0 ≤ p ∧ 0 < p ∨ (p == 0) = false ∧ p < 0 ∧ decide (0 ≤ p) = false := by
  simp; omega

def ValidC (f : FuncId) (x : GEvidence) (r : Bool) : Prop := ∀ (cs : List Value) (w : World), RepL w x.tr cs → Calls Try.prog f #[.agg ⟨cs⟩] w fun e w' => e = .returned (.bool r) ∧ Ext w w'

set_option maxHeartbeats 1000000 in
theorem evidenceValid_lam (x : GEvidence) (H : ValidC 29 x (GEvidence.valid x)) : ValidC 45 x (!GEvidence.valid x) := by
  intro cs w hr
  have HR := Lib.hid hr
  have HI : Hid ((Try.prog.info? 34).map (·.size) = some cs.length) := by rw [← hr.length, GEvidence.tr_len]; exact isz34
  have HH := Lib.hid H
  clear hr H
  go_enter Try.func45, Try.ntmps45
  go_wp2_with (refine wpList_load_rep rfl 34 (.tmp 1) rfl w.heap.size 0 rfl cs _ Try.underlying34 HI.out (OB.cells0 (OB.new w _ _)) ?_)
  refine (HH.out _ _ (HR.out.ext (.alloc (.refl _) _))).mono ?_
  rintro e w1 ⟨rfl, hw1⟩
  have HW1 := Lib.hid hw1
  clear hw1
  generalize hq : GEvidence.valid x = q at *
  have HQ := Lib.hid hq
  clear hq
  go_wp2_with fail
  go_ret
  exact ⟨ret_bool (by simp [HQ.out]), .trans (.alloc (.refl _) _) HW1.out⟩

set_option maxHeartbeats 4000000 in
theorem evidenceValid_impl : ∀ (x : GEvidence), ValidC 29 x (GEvidence.valid x) := by
  refine GEvidence.ind fun v0 v1 v2 xs ih => ?_
  obtain ⟨p, t⟩ := v2
  intro cs w hr
  obtain ⟨x2, a, c, rfl, -, -, h2, h3⟩ := GEvidence.opened hr
  obtain ⟨rfl, -, -⟩ := GInstanceRef.opened h2
  obtain ⟨hl, hm, -⟩ := h3.lens
  rw [GEvidence.trs_map] at h3
  have HC := Lib.hid (fun w' hx => containsFunc_44 GEvidence.tr (fun a => !GEvidence.valid a) xs 45 #[] (run_callFunc_body Try.func45 (by kernel_rfl) (by kernel_rfl)) GEvidence.tr_len _ w' (fun x hx cs w' _ h => evidenceValid_lam x (ih x hx) cs w' h) (h3.ext hx))
  have HV := Lib.hid (GEvidence.valids_any xs)
  generalize hz : xs.any (fun a => !GEvidence.valid a) = z at *
  clear hr h2 h3 ih hz
  simp only [List.cons_append, List.nil_append]
  rcases kinds5 v0 with rfl | rfl | rfl | rfl | rfl | ⟨k1, k2, k3, k4, k5⟩
  all_goals rcases ref4 p t with ⟨rfl, rfl⟩ | ⟨rfl, p1⟩ | ⟨p1, p2, p3⟩ | ⟨p1, p2, p3⟩
  all_goals go_enter Try.func29, Try.ntmps29
  all_goals go_wp2_with fail
  all_goals go_quiet (fail)
  all_goals go_wp2_with fail
  all_goals try (go_quiet (fail); go_wp2_with fail)
  all_goals first
    | (go_ret; exact ⟨ret_bool (by simp_all [GEvidence.valid] <;> omega), by first | exact .drewN (.alloc (.refl _) _) _ | exact .drewN (.drewN (.alloc (.refl _) _) _) _⟩)
    | skip
  all_goals first
    | refine (HC.out _ ?_).mono ?_
    | (have hx0 : xs.length = 0 := by first | assumption | simp_all
       rw [hx0] at HC
       refine (HC.out _ ?_).mono ?_)
  all_goals first
    | exact .drewN (.alloc (.refl _) _) _
    | exact .drewN (.drewN (.alloc (.refl _) _) _) _
    | skip
  all_goals
    rintro e w1 ⟨rfl, hw1⟩
    have HW1 := Lib.hid hw1
    clear hw1
    go_wp2_with fail
    go_ret
    exact ⟨ret_bool (by have hv := HV.out; simp_all [GEvidence.valid] <;> omega), .trans (by first | exact .drewN (.alloc (.refl _) _) _ | exact .drewN (.drewN (.alloc (.refl _) _) _) _) HW1.out⟩

end Go.Proofs.Ytimjeckffegleaa
