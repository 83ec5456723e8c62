/- Evidence: equality on both sides. No conditions. -/
import Derived.Test.YtimjeckffegleaaLEv
namespace Go.Proofs.Ytimjeckffegleaa
open Go.RowKit Go.Proofs

def EqEvC (f : FuncId) (x y : GEvidence) : Prop := ∀ (cs ds : List Value) (w : World), RepL w x.tr cs → RepL w y.tr ds →
  Calls Try.prog f #[.agg ⟨cs⟩, .agg ⟨ds⟩] w fun e w' => e = .returned (.bool (GEvidence.eq x y)) ∧ Ext w w'

set_option maxHeartbeats 2000000 in
theorem eqEv_spec_of (k n : Int) (p t : Int) (xs : List GEvidence) (H : ∀ x ∈ xs, ∀ y, EqEvC 21 x y) : ∀ y, EqEvC 21 (.mk k n (.mk p t) xs) y := by
  intro y cs ds w hr hs
  obtain ⟨l, m, ⟨q, u⟩, ys⟩ := y
  obtain ⟨x2, a, c, rfl, -, -, h2, h3⟩ := GEvidence.opened hr
  obtain ⟨rfl, -, -⟩ := GInstanceRef.opened h2
  obtain ⟨y2, a', c', rfl, -, -, h2', h3'⟩ := GEvidence.opened hs
  obtain ⟨rfl, -, -⟩ := GInstanceRef.opened h2'
  rw [GEvidence.trs_map] at h3 h3'
  have hcall := Lib.hid (fun w' hx => same_37 GEvidence.tr GEvidence.eq xs ys GEvidence.tr_len (fun x hx y _ cs ds w h1 h2 => H x hx y cs ds w h1 h2) _ _ w' (h3.ext hx) (h3'.ext hx))
  clear H hr hs h2 h2' h3 h3'
  simp only [GEvidence.eq, GRef_eq, GEvidence.eqs_eqL, List.cons_append, List.nil_append]
  by_cases h1 : k = l
  · subst h1
    by_cases h2 : n = m
    · subst h2
      by_cases h3 : p = q ∧ t = u
      · obtain ⟨rfl, rfl⟩ := h3
        go_enter Try.func21, Try.ntmps21
        go_wp2_with fail
        refine (hcall.out _ (.alloc (.alloc (.refl _) _) _)).mono ?_
        rintro e w1 ⟨rfl, hw1⟩
        have HW1 := Lib.hid hw1
        clear hw1
        generalize hz : eqL GEvidence.eq xs ys = z at *
        have HZ := Lib.hid hz
        clear hz
        go_wp2_with fail
        go_ret
        exact ⟨ret_bool (by simp [HZ.out]), .trans (.alloc (.alloc (.refl _) _) _) HW1.out⟩
      · have e3 : Hid ((p == q && t == u) = false) := by show _ = _; simpa using h3
        go_enter Try.func21, Try.ntmps21
        go_wp2_with fail
        all_goals
          go_ret
          exact ⟨ret_bool (by rw [e3.out]; simp), .alloc (.alloc (.refl _) _) _⟩
    · have e2 : (n == m) = false := by simpa using h2
      have E2 := Lib.hid e2
      go_enter Try.func21, Try.ntmps21
      go_wp2_with fail
      go_ret
      exact ⟨ret_bool (by rw [E2.out]; simp), .alloc (.alloc (.refl _) _) _⟩
  · have e1 : (k == l) = false := by simpa using h1
    have E1 := Lib.hid e1
    go_enter Try.func21, Try.ntmps21
    go_wp2_with fail
    go_ret
    exact ⟨ret_bool (by rw [E1.out]; simp), .alloc (.alloc (.refl _) _) _⟩
theorem eqEv_spec : ∀ x y, EqEvC 21 x y := by
  refine GEvidence.ind fun v0 v1 v2 xs ih => ?_
  obtain ⟨p, t⟩ := v2
  exact eqEv_spec_of v0 v1 p t xs ih

set_option maxHeartbeats 2000000 in
theorem eqEv_impl_of (k n : Int) (p t : Int) (xs : List GEvidence) (H : ∀ x ∈ xs, ∀ y, EqEvC 22 x y) : ∀ y, EqEvC 22 (.mk k n (.mk p t) xs) y := by
  intro y cs ds w hr hs
  obtain ⟨l, m, ⟨q, u⟩, ys⟩ := y
  obtain ⟨x2, a, c, rfl, -, -, h2, h3⟩ := GEvidence.opened hr
  obtain ⟨rfl, -, -⟩ := GInstanceRef.opened h2
  obtain ⟨y2, a', c', rfl, -, -, h2', h3'⟩ := GEvidence.opened hs
  obtain ⟨rfl, -, -⟩ := GInstanceRef.opened h2'
  rw [GEvidence.trs_map] at h3 h3'
  have hcall := Lib.hid (fun w' hx => equalFunc_38 GEvidence.tr GEvidence.eq xs ys 22 (run_callFunc_body Try.func22 (by kernel_rfl) (by kernel_rfl)) GEvidence.tr_len (fun x hx y _ cs ds w h1 h2 => H x hx y cs ds w h1 h2) _ _ w' (h3.ext hx) (h3'.ext hx))
  clear H hr hs h2 h2' h3 h3'
  simp only [GEvidence.eq, GRef_eq, GEvidence.eqs_eqL, List.cons_append, List.nil_append]
  by_cases h1 : k = l
  · subst h1
    by_cases h2 : n = m
    · subst h2
      by_cases h3 : p = q ∧ t = u
      · obtain ⟨rfl, rfl⟩ := h3
        go_enter Try.func22, Try.ntmps22
        go_wp2_with fail
        refine (hcall.out _ (.alloc (.alloc (.refl _) _) _)).mono ?_
        rintro e w1 ⟨rfl, hw1⟩
        have HW1 := Lib.hid hw1
        clear hw1
        generalize hz : eqL GEvidence.eq xs ys = z at *
        have HZ := Lib.hid hz
        clear hz
        go_wp2_with fail
        go_ret
        exact ⟨ret_bool (by simp [HZ.out]), .trans (.alloc (.alloc (.refl _) _) _) HW1.out⟩
      · have e3 : Hid ((p == q && t == u) = false) := by show _ = _; simpa using h3
        go_enter Try.func22, Try.ntmps22
        go_wp2_with fail
        all_goals
          go_ret
          exact ⟨ret_bool (by rw [e3.out]; simp), .alloc (.alloc (.refl _) _) _⟩
    · have e2 : (n == m) = false := by simpa using h2
      have E2 := Lib.hid e2
      go_enter Try.func22, Try.ntmps22
      go_wp2_with fail
      go_ret
      exact ⟨ret_bool (by rw [E2.out]; simp), .alloc (.alloc (.refl _) _) _⟩
  · have e1 : (k == l) = false := by simpa using h1
    have E1 := Lib.hid e1
    go_enter Try.func22, Try.ntmps22
    go_wp2_with fail
    go_ret
    exact ⟨ret_bool (by rw [E1.out]; simp), .alloc (.alloc (.refl _) _) _⟩
theorem eqEv_impl : ∀ x y, EqEvC 22 x y := by
  refine GEvidence.ind fun v0 v1 v2 xs ih => ?_
  obtain ⟨p, t⟩ := v2
  exact eqEv_impl_of v0 v1 p t xs ih

end Go.Proofs.Ytimjeckffegleaa
