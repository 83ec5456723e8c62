/- Plain functions on lists that the loops compute. -/
import Derived.Test.YtoifjkggpanceaaCore
namespace Go.Proofs.Ytoifjkggpanceaa

def eqL {α : Type} (p : α → α → Bool) : List α → List α → Bool
  | [], [] => true
  | a :: l, b :: r => p a b && eqL p l r
  | _, _ => false
theorem eqL_len {α : Type} {p : α → α → Bool} : ∀ {l r : List α}, l.length ≠ r.length → eqL p l r = false
  | [], [], h => absurd rfl h
  | [], _ :: _, _ => rfl
  | _ :: _, [], _ => rfl
  | a :: l, b :: r, h => by simp [eqL, eqL_len (l := l) (r := r) (by simpa using h)]
theorem eqL_step {α : Type} {p : α → α → Bool} {l r : List α} {k : Nat} (h : k < l.length) (h' : k < r.length) : eqL p (l.drop k) (r.drop k) = (p l[k] r[k] && eqL p (l.drop (k + 1)) (r.drop (k + 1))) := by
  rw [List.drop_eq_getElem_cons h, List.drop_eq_getElem_cons h', eqL]
theorem eqL_end {α : Type} {p : α → α → Bool} {l r : List α} (h : l.length = r.length) : eqL p (l.drop l.length) (r.drop l.length) = true := by
  rw [List.drop_length, h, List.drop_length, eqL]

/-- The index of the first element that meets p, counted from i; -1 if there is none. -/
def idxL {α : Type} (p : α → Bool) : List α → Nat → Int
  | [], _ => -1
  | a :: l, i => if p a then i else idxL p l (i + 1)
theorem idxL_step {α : Type} {p : α → Bool} {l : List α} {k : Nat} (h : k < l.length) : idxL p (l.drop k) k = if p l[k] then (k : Int) else idxL p (l.drop (k + 1)) (k + 1) := by
  rw [List.drop_eq_getElem_cons h, idxL]
theorem idxL_any {α : Type} {p : α → Bool} : ∀ (l : List α) (i : Nat), decide (0 ≤ idxL p l i) = l.any p
  | [], i => by simp [idxL]
  | a :: l, i => by
    unfold idxL
    by_cases h : p a
    · simp [h]
    · simp [h, idxL_any l (i + 1)]
theorem idxL_le {α : Type} {p : α → Bool} : ∀ (l : List α) (i : Nat), -1 ≤ idxL p l i ∧ idxL p l i < i + l.length
  | [], i => by simp [idxL]; omega
  | a :: l, i => by
    unfold idxL
    have := idxL_le (p := p) l (i + 1)
    simp only [List.length_cons]
    split <;> omega
end Go.Proofs.Ytoifjkggpanceaa
