/- Slices that a call makes and lets grow by append: the strings in them. No conditions. -/
import Derived.Test.YtoifjkggpanceaaData
import Derived.Test.YtoifjkggpanceaaOwn
import Derived.Deep.AppendLies
namespace Go.Proofs.Ytoifjkggpanceaa
open Go.RowKit

/-- A slice of strings whose row is the call's own (blocks from 'base' on). -/
def AccS (e : TypeId) (base : Nat) (w : World) (l : List ByteArray) (v : Value) : Prop := w.ownsRow base e 1 v l.length (l.map Value.string) ∧ ∀ s ∈ l, s.size ≤ maxLen

theorem AccS.nil (e : TypeId) (base : Nat) (w : World) : AccS e base w [] (.slice none 0 0) := ⟨⟨rfl, .inl ⟨rfl, rfl⟩⟩, by simp⟩
theorem AccS.keep {e : TypeId} {base : Nat} {w w' : World} {l : List ByteArray} {v : Value} (h : AccS e base w l v) (hk : ∀ b, base ≤ b → b < w.heap.size → w'.heap[b]? = w.heap[b]?) : AccS e base w' l v := by
  refine ⟨⟨h.1.1, ?_⟩, h.2⟩
  rcases h.1.2 with h1 | ⟨g, cap, cur, h1, h2, h3, h4⟩
  · exact .inl h1
  · refine .inr ⟨g, cap, cur, h1, h2, ?_, h4⟩
    rw [hk g h2 (by rcases Nat.lt_or_ge g w.heap.size with hl | hl; exact hl; rw [Array.getElem?_eq_none hl] at h3; cases h3)]
    exact h3
theorem AccS.ext {e : TypeId} {base : Nat} {w w' : World} {l : List ByteArray} {v : Value} (h : AccS e base w l v) (hx : Ext w w') : AccS e base w' l v := h.keep fun b _ hb => hx.block b hb
theorem AccS.mono {e : TypeId} {base base' : Nat} {w : World} {l : List ByteArray} {v : Value} (h : AccS e base w l v) (hb : base' ≤ base) : AccS e base' w l v := by
  refine ⟨⟨h.1.1, ?_⟩, h.2⟩
  rcases h.1.2 with h1 | ⟨g, cap, cur, h1, h2, h3⟩
  · exact .inl h1
  · exact .inr ⟨g, cap, cur, h1, by omega, h3⟩
theorem AccS.own {e : TypeId} {base : Nat} {w : World} {l : List ByteArray} {v : Value} (h : AccS e base w l v) : Own w (.row 1 (strTrs l)) v (fun x => base ≤ x ∧ x < w.heap.size) := by
  have hget : ∀ (i : Nat) (x : List Tr), (strTrs l)[i]? = some x → ∃ s, l[i]? = some s ∧ x = [Tr.leaf (.string s)] := by
    intro i x hx
    unfold strTrs at hx
    rw [List.getElem?_map] at hx
    rcases hl : l[i]? with _ | s
    · simp [hl] at hx
    · simp [hl] at hx
      exact ⟨s, rfl, hx.symm⟩
  rcases h.1.2 with ⟨rfl, h0⟩ | ⟨g, cap, cur, rfl, h2, h3, h4, h5, h6, h7⟩
  · have : l = [] := List.length_eq_zero_iff.1 h0
    subst this
    exact Own.row (es := []) (fun _ _ => undef) (fun _ _ _ => False) (by simp) (by unfold maxLen; omega) (by simp) (by simp) (by simp) (by simp)
  · have hl := strTrs_len l
    rw [← hl]
    refine Own.row (fun i _ => (l[i]?.map Value.string).getD undef) (fun _ _ _ => False) (by rw [hl]; exact h4) h5 ?_ ?_ (by simp) (by simp)
    · intro _
      refine ⟨g, 0, e, cur, rfl, h3, ⟨h2, OB.lt h3⟩, ?_⟩
      intro i x hx j d hd
      obtain ⟨s, hs, rfl⟩ := hget i x hx
      cases j with
      | zero =>
        refine ⟨?_, by simp⟩
        have h8 : (cur.toList.take (l.length * 1))[i]? = (l.map Value.string)[i]? := by rw [h7]
        have hi : i < l.length := (List.getElem?_eq_some_iff.1 hs).1
        rw [List.getElem?_take, if_pos (by omega), List.getElem?_map, hs] at h8
        simpa [hs] using h8
      | succ j => simp at hd
    · intro i x hx j d hd
      obtain ⟨s, hs, rfl⟩ := hget i x hx
      cases j with
      | zero =>
        simp at hd
        subst hd
        simp only [hs, Option.map_some, Option.getD_some]
        exact .leaf (h.2 s (List.mem_of_getElem? hs))
      | succ j => simp at hd
theorem AccS.rep {e : TypeId} {base : Nat} {w : World} {l : List ByteArray} {v : Value} (h : AccS e base w l v) : Rep w (.row 1 (strTrs l)) v := h.own.rep

end Go.Proofs.Ytoifjkggpanceaa
