/- Types and goals: equality on both sides. No conditions. -/
import Derived.Test.YtoifjkggpanceaaSL
namespace Go.Proofs.Ytoifjkggpanceaa
open Go.RowKit Go.Proofs

theorem bytes_beq_self (a : ByteArray) : (a == a) = true := by
  obtain ⟨x⟩ := a
  show (x == x) = true
  simp
theorem bytes_inj {a b : ByteArray} (h : a.toList = b.toList) : a = b := by
  rw [ByteArray.toList_eq, ByteArray.toList_eq] at h
  obtain ⟨⟨x⟩⟩ := a
  obtain ⟨⟨y⟩⟩ := b
  have h : x = y := h
  rw [h]
theorem bytes_beq_ne {a b : ByteArray} (h : ¬ a = b) : (a == b) = false := by
  obtain ⟨x⟩ := a
  obtain ⟨y⟩ := b
  show (x == y) = false
  simp only [beq_eq_false_iff_ne, ne_eq]
  rintro rfl
  exact h rfl

mutual
def GType.eq : GType → GType → Bool
  | .mk k n xs, .mk l m ys => k == l && (n == m && GType.eqs xs ys)
def GType.eqs : List GType → List GType → Bool
  | [], [] => true
  | a :: l, b :: r => GType.eq a b && GType.eqs l r
  | _, _ => false
end
theorem GType.eqs_eqL : ∀ (l r : List GType), GType.eqs l r = eqL GType.eq l r
  | [], [] => rfl
  | [], _ :: _ => rfl
  | _ :: _, [] => rfl
  | a :: l, b :: r => by rw [GType.eqs, eqL, GType.eqs_eqL l r]
def GBound.eq : GBound → GBound → Bool
  | .mk n x, .mk m y => n == m && GType.eq x y

def EqTyC (f : FuncId) (x y : GType) : Prop := ∀ (cs ds : List Value) (w : World), RepL w x.tr cs → RepL w y.tr ds →
  Calls Try.prog f #[.agg ⟨cs⟩, .agg ⟨ds⟩] w fun e w' => e = .returned (.bool (GType.eq x y)) ∧ Ext w w'

set_option maxHeartbeats 2000000 in
theorem eqTy_spec_of (k : Int) (n : ByteArray) (xs : List GType) (H : ∀ x ∈ xs, ∀ y, EqTyC 169 x y) : ∀ y, EqTyC 169 (.mk k n xs) y := by
  intro y cs ds w hr hs
  obtain ⟨l, m, ys⟩ := y
  obtain ⟨a, c, rfl, -, -, h3⟩ := GType.opened hr
  obtain ⟨a', c', rfl, -, -, h3'⟩ := GType.opened hs
  rw [GType.trs_map] at h3 h3'
  have hcall := Lib.hid (fun w' hx => same_206 GType.tr GType.eq xs ys GType.tr_len (fun x hx y _ cs ds w h1 h2 => H x hx y cs ds w h1 h2) _ _ w' (h3.ext hx) (h3'.ext hx))
  clear H hr hs h3 h3'
  simp only [GType.eq, GType.eqs_eqL, List.cons_append, List.nil_append]
  by_cases h1 : k = l
  · subst h1
    by_cases h2 : n = m
    · subst h2
      go_enter Try.func169, Try.ntmps169
      go_wp2_with fail
      refine (hcall.out _ (.alloc (.alloc (.refl _) _) _)).mono ?_
      rintro e w1 ⟨rfl, hw1⟩
      have HW1 := Lib.hid hw1
      clear hw1
      generalize hz : eqL GType.eq xs ys = z at *
      have HZ := Lib.hid hz
      clear hz
      go_wp2_with fail
      go_ret
      exact ⟨ret_bool (by simp [HZ.out, bytes_beq_self]), .trans (.alloc (.alloc (.refl _) _) _) HW1.out⟩
    · have e2 : ¬ n.toList = m.toList := fun h => h2 (bytes_inj h)
      go_enter Try.func169, Try.ntmps169
      go_wp2_with fail
      go_ret
      exact ⟨ret_bool (by simp [bytes_beq_ne h2]), .alloc (.alloc (.refl _) _) _⟩
  · have e1 : (k == l) = false := by simpa using h1
    have E1 := Lib.hid e1
    go_enter Try.func169, Try.ntmps169
    go_wp2_with fail
    go_ret
    exact ⟨ret_bool (by rw [E1.out]; simp), .alloc (.alloc (.refl _) _) _⟩
theorem eqTy_spec : ∀ x y, EqTyC 169 x y := by
  refine GType.ind fun v0 v1 xs ih => ?_
  exact eqTy_spec_of v0 v1 xs ih

set_option maxHeartbeats 2000000 in
theorem eqGoal_spec (x y : GBound) (cs ds : List Value) (w : World) (hr : RepL w x.tr cs) (hs : RepL w y.tr ds) :
    Calls Try.prog 110 #[.agg ⟨cs⟩, .agg ⟨ds⟩] w fun e w' => e = .returned (.bool (GBound.eq x y)) ∧ Ext w w' := by
  obtain ⟨n, ⟨k, s, xs⟩⟩ := x
  obtain ⟨m, ⟨l, u, ys⟩⟩ := y
  obtain ⟨x1, rfl, -, h1⟩ := GBound.opened hr
  obtain ⟨y1, rfl, -, h1'⟩ := GBound.opened hs
  have hcall := Lib.hid (fun w' hx => eqTy_spec _ _ _ _ w' (h1.ext hx) (h1'.ext hx))
  obtain ⟨a, c, rfl, -, -, -⟩ := GType.opened h1
  obtain ⟨a', c', rfl, -, -, -⟩ := GType.opened h1'
  clear hr hs h1 h1'
  simp only [GBound.eq, List.cons_append, List.nil_append] at *
  by_cases h2 : n = m
  · subst h2
    go_enter Try.func110, Try.ntmps110
    go_wp2_with fail
    refine (hcall.out _ (.alloc (.alloc (.refl _) _) _)).mono ?_
    rintro e w1 ⟨rfl, hw1⟩
    have HW1 := Lib.hid hw1
    clear hw1
    generalize hz : GType.eq (.mk k s xs) (.mk l u ys) = z at *
    have HZ := Lib.hid hz
    clear hz
    go_wp2_with fail
    go_ret
    exact ⟨ret_bool (by simp [HZ.out, bytes_beq_self]), .trans (.alloc (.alloc (.refl _) _) _) HW1.out⟩
  · have e2 : ¬ n.toList = m.toList := fun h => h2 (bytes_inj h)
    go_enter Try.func110, Try.ntmps110
    go_wp2_with fail
    go_ret
    exact ⟨ret_bool (by simp [bytes_beq_ne h2]), .alloc (.alloc (.refl _) _) _⟩

set_option maxHeartbeats 2000000 in
theorem eqTy_impl_of (k : Int) (n : ByteArray) (xs : List GType) (H : ∀ x ∈ xs, ∀ y, EqTyC 130 x y) : ∀ y, EqTyC 130 (.mk k n xs) y := by
  intro y cs ds w hr hs
  obtain ⟨l, m, ys⟩ := y
  obtain ⟨a, c, rfl, -, -, h3⟩ := GType.opened hr
  obtain ⟨a', c', rfl, -, -, h3'⟩ := GType.opened hs
  rw [GType.trs_map] at h3 h3'
  have hcall := Lib.hid (fun w' hx => equalFunc_178 GType.tr GType.eq xs ys 130 (run_callFunc_body Try.func130 (by kernel_rfl) (by kernel_rfl)) GType.tr_len (fun x hx y _ cs ds w h1 h2 => H x hx y cs ds w h1 h2) _ _ w' (h3.ext hx) (h3'.ext hx))
  clear H hr hs h3 h3'
  simp only [GType.eq, GType.eqs_eqL, List.cons_append, List.nil_append]
  by_cases h1 : k = l
  · subst h1
    by_cases h2 : n = m
    · subst h2
      go_enter Try.func130, Try.ntmps130
      go_wp2_with fail
      refine (hcall.out _ (.alloc (.alloc (.refl _) _) _)).mono ?_
      rintro e w1 ⟨rfl, hw1⟩
      have HW1 := Lib.hid hw1
      clear hw1
      generalize hz : eqL GType.eq xs ys = z at *
      have HZ := Lib.hid hz
      clear hz
      go_wp2_with fail
      go_ret
      exact ⟨ret_bool (by simp [HZ.out, bytes_beq_self]), .trans (.alloc (.alloc (.refl _) _) _) HW1.out⟩
    · have e2 : ¬ n.toList = m.toList := fun h => h2 (bytes_inj h)
      go_enter Try.func130, Try.ntmps130
      go_wp2_with fail
      go_ret
      exact ⟨ret_bool (by simp [bytes_beq_ne h2]), .alloc (.alloc (.refl _) _) _⟩
  · have e1 : (k == l) = false := by simpa using h1
    have E1 := Lib.hid e1
    go_enter Try.func130, Try.ntmps130
    go_wp2_with fail
    go_ret
    exact ⟨ret_bool (by rw [E1.out]; simp), .alloc (.alloc (.refl _) _) _⟩
theorem eqTy_impl : ∀ x y, EqTyC 130 x y := by
  refine GType.ind fun v0 v1 xs ih => ?_
  exact eqTy_impl_of v0 v1 xs ih

set_option maxHeartbeats 2000000 in
theorem eqGoal_impl (x y : GBound) (cs ds : List Value) (w : World) (hr : RepL w x.tr cs) (hs : RepL w y.tr ds) :
    Calls Try.prog 58 #[.agg ⟨cs⟩, .agg ⟨ds⟩] w fun e w' => e = .returned (.bool (GBound.eq x y)) ∧ Ext w w' := by
  obtain ⟨n, ⟨k, s, xs⟩⟩ := x
  obtain ⟨m, ⟨l, u, ys⟩⟩ := y
  obtain ⟨x1, rfl, -, h1⟩ := GBound.opened hr
  obtain ⟨y1, rfl, -, h1'⟩ := GBound.opened hs
  have hcall := Lib.hid (fun w' hx => eqTy_impl _ _ _ _ w' (h1.ext hx) (h1'.ext hx))
  obtain ⟨a, c, rfl, -, -, -⟩ := GType.opened h1
  obtain ⟨a', c', rfl, -, -, -⟩ := GType.opened h1'
  clear hr hs h1 h1'
  simp only [GBound.eq, List.cons_append, List.nil_append] at *
  by_cases h2 : n = m
  · subst h2
    go_enter Try.func58, Try.ntmps58
    go_wp2_with fail
    refine (hcall.out _ (.alloc (.alloc (.refl _) _) _)).mono ?_
    rintro e w1 ⟨rfl, hw1⟩
    have HW1 := Lib.hid hw1
    clear hw1
    generalize hz : GType.eq (.mk k s xs) (.mk l u ys) = z at *
    have HZ := Lib.hid hz
    clear hz
    go_wp2_with fail
    go_ret
    exact ⟨ret_bool (by simp [HZ.out, bytes_beq_self]), .trans (.alloc (.alloc (.refl _) _) _) HW1.out⟩
  · have e2 : ¬ n.toList = m.toList := fun h => h2 (bytes_inj h)
    go_enter Try.func58, Try.ntmps58
    go_wp2_with fail
    go_ret
    exact ⟨ret_bool (by simp [bytes_beq_ne h2]), .alloc (.alloc (.refl _) _) _⟩

end Go.Proofs.Ytoifjkggpanceaa
