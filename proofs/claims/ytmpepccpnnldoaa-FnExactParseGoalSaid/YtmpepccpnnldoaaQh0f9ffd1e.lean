/- Words, rules and walks of several kinds, laid together: Pm4, Pm5, Pm6, Pm7, Pm8, Pm9, Pm10, PmD, PmX, PmY, PmZ, PmW, PmV, PmN, PmK, Fresh, OfL, PmM, PmU, PmT, PmO, PmR, PmBool, Pma, PmDS, PmF, PmS, PmEq, PmaB. No conditions but those that each theorem states. -/
import Derived.Test.YtmpepccpnnldoaaQh88715e30
import Derived.Deep.AppendSrc
import Derived.Great.BuildSlice
import Derived.Test.YtmpepccpnnldoaaProg
import Derived.Laws.MakeOwn
set_option linter.unusedSimpArgs false
set_option linter.unusedVariables false
namespace Go.Proofs.Ytmpepccpnnldoaa
set_option linter.unusedSimpArgs false
set_option linter.unusedVariables false
open Go.RowKit Go.WalkArith Go.IntWalk Go.WideShapes

def upd {α : Type} (f : Nat → α) (k : Nat) (v : α) : Nat → α := fun i => if i = k then v else f i
theorem upd_same {α : Type} (f : Nat → α) (k : Nat) (v : α) : upd f k v k = v := by simp [upd]
theorem upd_ne {α : Type} {f : Nat → α} {k i : Nat} {v : α} (h : i ≠ k) : upd f k v i = f i := by simp [upd, h]

theorem getElem?_snoc {α : Type} {l : List α} {x y : α} {i : Nat} (h : (l ++ [x])[i]? = some y) : (i < l.length ∧ l[i]? = some y) ∨ (i = l.length ∧ y = x) := by
  rcases Nat.lt_or_ge i l.length with hi | hi
  · rw [List.getElem?_append_left hi] at h
    exact .inl ⟨hi, h⟩
  · rw [List.getElem?_append_right hi] at h
    rcases hk : i - l.length with _ | k
    · rw [hk] at h
      simp at h
      exact .inr ⟨by omega, h.symm⟩
    · rw [hk] at h
      simp at h
theorem get_lt {α : Type} {l : List α} {y : α} {i : Nat} (h : l[i]? = some y) : i < l.length := (List.getElem?_eq_some_iff.1 h).1

theorem heap_other_cell {w w' : World} {b o : Nat} (h : w'.heap[b]? = w.heap[b]?) : w'.cell? ⟨b, o, none⟩ = w.cell? ⟨b, o, none⟩ := World.cell?_of_block (a := ⟨b, o, none⟩) h

theorem StoOk.box_lt {av : Nat → Nat → Prop} {st : Sto} {m : Lay} {w : World} (h : StoOk av st m w) {k : Nat} {x : PBox} (hx : st.boxes[k]? = some (some x)) : m.ρ k < w.heap.size := by
  obtain ⟨vs, h1, -⟩ := h.box k x hx
  exact h1.lt
theorem StoOk.row_lt {av : Nat → Nat → Prop} {st : Sto} {m : Lay} {w : World} (h : StoOk av st m w) {r : Nat} {row : PRow} {g c : Nat} (hr : st.rows[r]? = some row) (hg : m.γ r = some (g, c)) : g < w.heap.size := by
  obtain ⟨-, -, h1⟩ := h.row r row hr
  rcases h1 with ⟨h1, -⟩ | ⟨g', c', cur, h1, h2, -⟩
  · rw [hg] at h1; cases h1
  · rw [hg] at h1
    injection h1 with h1
    injection h1 with h1 h3
    subst h1
    exact h2.lt

/-- The world may be later: what is known of stores stays. -/
theorem Ev.later {st : Sto} {m : Lay} {w w' : World} (h : Ext w w') : Ev st m w st m w' :=
  ⟨h.os, h.tape, h.output, h.size, fun b hb _ _ => h.block b hb, fun b o hb _ => heap_other_cell (h.block b hb), fun _ _ _ h => h, fun _ x h => ⟨⟨x, h⟩, rfl⟩, fun _ x h => .inl ⟨x, h⟩, fun _ row h => ⟨row, h, rfl, Nat.le_refl _, fun _ => rfl, fun h => ⟨h, rfl⟩⟩, fun _ row _ c h h' => .inl ⟨row, c, h, h'⟩⟩
theorem RepM.ext {ok : Nat → Nat → Prop} {w w' : World} {t : Tr} {v : Value} (h : RepM ok w t v) (hx : Ext w w') : RepM ok w' t v := h.mono hx.size (fun _ _ _ h => h) (fun _ _ hb _ => heap_other_cell (hx.block _ hb))
theorem StoOk.later {av : Nat → Nat → Prop} {st : Sto} {m : Lay} {w w' : World} (h : StoOk av st m w) (hx : Ext w w') : StoOk av st m w' where
  box := fun k x hk => by
    obtain ⟨vs, h1, h2⟩ := h.box k x hk
    exact ⟨vs, h1.ext hx, RVL.mono (Ev.later hx) _ _ h2⟩
  binj := h.binj
  row := fun r row hr => by
    obtain ⟨h1, h2, h3⟩ := h.row r row hr
    refine ⟨h1, h2, ?_⟩
    rcases h3 with h3 | ⟨g, c, cur, k1, k2, k3, k4, k5, k6⟩
    · exact .inl h3
    · exact .inr ⟨g, c, cur, k1, k2.ext hx, k3, k4, k5, k6.ext hx⟩
  rinj := h.rinj
  br := h.br
  avlt := fun b o hb => Nat.lt_of_lt_of_le (h.avlt b o hb) hx.size
  avr := h.avr
  avb := h.avb

/-! ### A new box -/
def Sto.addBox (st : Sto) (x : PBox) : Sto := ⟨st.boxes ++ [some x], st.rows⟩
theorem addBox_live {st : Sto} {x y : PBox} {k : Nat} (h : (st.addBox x).boxes[k]? = some (some y)) : (k < st.boxes.length ∧ st.boxes[k]? = some (some y)) ∨ (k = st.boxes.length ∧ y = x) := by
  rcases getElem?_snoc h with h | ⟨h1, h2⟩
  · exact .inl h
  · exact .inr ⟨h1, Option.some.inj h2⟩
theorem ev_addBox {st : Sto} {m : Lay} {w : World} {x : PBox} {vs : Array Value} : Ev st m w (st.addBox x) ⟨upd m.ρ st.boxes.length w.heap.size, m.γ⟩ (w.alloc (.cells vs x.ty)) := by
  have hx : Ext w (w.alloc (.cells vs x.ty)) := .alloc (.refl _) _
  refine ⟨hx.os, hx.tape, hx.output, hx.size, fun b hb _ _ => hx.block b hb, fun b o hb _ => heap_other_cell (hx.block b hb), fun b o hb h => ⟨fun k y hk => ?_, h.2⟩, fun k y hk => ⟨⟨y, ?_⟩, ?_⟩, fun k y hk => ?_, fun _ row h => ⟨row, h, rfl, Nat.le_refl _, fun _ => rfl, fun h => ⟨h, rfl⟩⟩, fun _ row _ c h h' => .inl ⟨row, c, h, h'⟩⟩
  · rcases addBox_live hk with ⟨h1, h2⟩ | ⟨rfl, rfl⟩
    · simp only [upd_ne (show k ≠ st.boxes.length by omega)]
      exact h.1 k y h2
    · simp only [upd_same]
      omega
  · show (st.boxes ++ [some x])[k]? = _
    rw [List.getElem?_append_left (get_lt hk)]; exact hk
  · exact upd_ne (by have := get_lt hk; omega)
  · rcases addBox_live hk with ⟨h1, h2⟩ | ⟨rfl, rfl⟩
    · exact .inl ⟨y, h2⟩
    · exact .inr (by simp [upd_same])
theorem sto_addBox {av : Nat → Nat → Prop} {st : Sto} {m : Lay} {w : World} {x : PBox} {vs : List Value} (h : StoOk av st m w) (hc : RVL (okA av st m) st m w x.cells vs) :
    StoOk av (st.addBox x) ⟨upd m.ρ st.boxes.length w.heap.size, m.γ⟩ (w.alloc (.cells ⟨vs⟩ x.ty)) := by
  have hx : Ext w (w.alloc (.cells ⟨vs⟩ x.ty)) := .alloc (.refl _) _
  have he : Ev st m w (st.addBox x) ⟨upd m.ρ st.boxes.length w.heap.size, m.γ⟩ (w.alloc (.cells ⟨vs⟩ x.ty)) := ev_addBox
  have hw := fun k y (hk : st.boxes[k]? = some (some y)) => h.box_lt hk
  refine ⟨fun k y hk => ?_, fun k k' y y' hk hk' hne => ?_, fun r row hr => ?_, h.rinj, fun k y r row g c hk hr hg => ?_, fun b o hb => Nat.lt_of_lt_of_le (h.avlt b o hb) hx.size, h.avr, fun k y hk o ha => ?_⟩
  · rcases addBox_live hk with ⟨h1, h2⟩ | ⟨rfl, rfl⟩
    · obtain ⟨us, k1, k2⟩ := h.box k y h2
      simp only [upd_ne (show k ≠ st.boxes.length by omega)]
      exact ⟨us, k1.ext hx, RVL.mono he _ _ k2⟩
    · simp only [upd_same]
      exact ⟨vs, .of (OB.new w _ _), RVL.mono he _ _ hc⟩
  · rcases addBox_live hk with ⟨h1, h2⟩ | ⟨rfl, rfl⟩ <;> rcases addBox_live hk' with ⟨h1', h2'⟩ | ⟨rfl, rfl⟩
    · simp only [upd_ne (show k ≠ st.boxes.length by omega), upd_ne (show k' ≠ st.boxes.length by omega)]
      exact h.binj k k' y y' h2 h2' hne
    · simp only [upd_ne (show k ≠ st.boxes.length by omega), upd_same]
      have := hw k y h2
      omega
    · simp only [upd_ne (show k' ≠ st.boxes.length by omega), upd_same]
      have := hw k' y' h2'
      omega
    · exact absurd rfl hne
  · obtain ⟨k1, k2, k3⟩ := h.row r row hr
    refine ⟨k1, k2, ?_⟩
    rcases k3 with k3 | ⟨g, c, cur, q1, q2, q3, q4, q5, q6⟩
    · exact .inl k3
    · exact .inr ⟨g, c, cur, q1, q2.ext hx, q3, q4, q5, RV.mono he (.t _) _ q6⟩
  · rcases addBox_live hk with ⟨h1, h2⟩ | ⟨rfl, rfl⟩
    · simp only [upd_ne (show k ≠ st.boxes.length by omega)]
      exact h.br k y r row g c h2 hr hg
    · simp only [upd_same]
      have := h.row_lt hr hg
      omega
  · rcases addBox_live hk with ⟨h1, h2⟩ | ⟨rfl, rfl⟩
    · simp only [upd_ne (show k ≠ st.boxes.length by omega)] at ha
      exact h.avb k y h2 o ha
    · simp only [upd_same] at ha
      have := h.avlt _ _ ha
      omega

/-! ### A box is written -/
def Sto.setBox (st : Sto) (k : Nat) (x : PBox) : Sto := ⟨st.boxes.set k (some x), st.rows⟩
theorem setBox_live {st : Sto} {x y : PBox} {k i : Nat} (h : (st.setBox k x).boxes[i]? = some (some y)) : (i ≠ k ∧ st.boxes[i]? = some (some y)) ∨ (i = k ∧ y = x) := by
  have h : (st.boxes.set k (some x))[i]? = some (some y) := h
  rw [List.getElem?_set] at h
  split at h
  · rename_i hik
    split at h
    · exact .inr ⟨hik.symm, by simpa using h.symm⟩
    · cases h
  · rename_i hik
    exact .inl ⟨fun e => hik e.symm, h⟩
theorem ev_setBox {av : Nat → Nat → Prop} {st : Sto} {m : Lay} {w w1 : World} {k : Nat} {x y : PBox} (hst : StoOk av st m w) (hk : st.boxes[k]? = some (some x)) (hos : w1.os = w.os) (ht : w1.tape = w.tape) (hout : w1.output = w.output) (hz : w1.heap.size = w.heap.size)
    (hb : ∀ b, b ≠ m.ρ k → w1.heap[b]? = w.heap[b]?) : Ev st m w (st.setBox k y) m w1 := by
  refine ⟨hos, ht, hout, by omega, fun b _ h1 _ => hb b (fun e => h1 k x hk e.symm), fun b o _ h => heap_other_cell (hb b (fun e => h.1 k x hk e.symm)), fun b o _ h => ⟨fun i z hi => ?_, h.2⟩, fun i z hi => ⟨?_, rfl⟩, fun i z hi => ?_, fun _ row h => ⟨row, h, rfl, Nat.le_refl _, fun _ => rfl, fun h => ⟨h, rfl⟩⟩, fun _ row _ c h h' => .inl ⟨row, c, h, h'⟩⟩
  · rcases setBox_live hi with ⟨h1, h2⟩ | ⟨rfl, rfl⟩
    · exact h.1 i z h2
    · exact h.1 _ x hk
  · show ∃ x', (st.boxes.set k (some y))[i]? = some (some x')
    rw [List.getElem?_set]
    by_cases hik : k = i
    · subst hik
      exact ⟨y, by simp [get_lt hi]⟩
    · exact ⟨z, by rw [if_neg hik]; exact hi⟩
  · rcases setBox_live hi with ⟨h1, h2⟩ | ⟨rfl, rfl⟩
    · exact .inl ⟨z, h2⟩
    · exact .inl ⟨x, hk⟩
theorem sto_setBox {av : Nat → Nat → Prop} {st : Sto} {m : Lay} {w w1 : World} {k : Nat} {x y : PBox} {vs : List Value} (hst : StoOk av st m w) (hk : st.boxes[k]? = some (some x)) (hos : w1.os = w.os) (ht : w1.tape = w.tape) (hout : w1.output = w.output) (hz : w1.heap.size = w.heap.size)
    (hb : ∀ b, b ≠ m.ρ k → w1.heap[b]? = w.heap[b]?) (hob : OBp w1 (m.ρ k) y.ty vs) (hc : RVL (okA av st m) st m w y.cells vs) : StoOk av (st.setBox k y) m w1 := by
  have he : Ev st m w (st.setBox k y) m w1 := ev_setBox hst hk hos ht hout hz hb
  refine ⟨fun i z hi => ?_, fun i i' z z' hi hi' hne => ?_, fun r row hr => ?_, hst.rinj, fun i z r row g c hi hr hg => ?_, fun b o h => by rw [hz]; exact hst.avlt b o h, hst.avr, fun i z hi => ?_⟩
  · rcases setBox_live hi with ⟨h1, h2⟩ | ⟨rfl, rfl⟩
    · obtain ⟨us, k1, k2⟩ := hst.box i z h2
      exact ⟨us, k1.keep (hb _ (hst.binj i k z x h2 hk h1)), RVL.mono he _ _ k2⟩
    · exact ⟨vs, hob, RVL.mono he _ _ hc⟩
  · have key : ∀ i z, (st.setBox k y).boxes[i]? = some (some z) → ∃ z', st.boxes[i]? = some (some z') := fun i z hi => by
      rcases setBox_live hi with ⟨h1, h2⟩ | ⟨rfl, rfl⟩
      · exact ⟨z, h2⟩
      · exact ⟨x, hk⟩
    obtain ⟨u, hu⟩ := key i z hi
    obtain ⟨u', hu'⟩ := key i' z' hi'
    exact hst.binj i i' u u' hu hu' hne
  · obtain ⟨k1, k2, k3⟩ := hst.row r row hr
    refine ⟨k1, k2, ?_⟩
    rcases k3 with k3 | ⟨g, c, cur, q1, q2, q3, q4, q5, q6⟩
    · exact .inl k3
    · exact .inr ⟨g, c, cur, q1, (hb g (fun e => hst.br k x r row g c hk hr q1 e.symm)).trans q2, q3, q4, q5, RV.mono he (.t _) _ q6⟩
  · rcases setBox_live hi with ⟨h1, h2⟩ | ⟨rfl, rfl⟩
    · exact hst.br i z r row g c h2 hr hg
    · exact hst.br _ x r row g c hk hr hg
  · rcases setBox_live hi with ⟨h1, h2⟩ | ⟨rfl, rfl⟩
    · exact hst.avb i z h2
    · exact hst.avb _ x hk

/-! ### A row grows -/
def Sto.setRow (st : Sto) (r : Nat) (row : PRow) : Sto := ⟨st.boxes, st.rows.set r row⟩
theorem setRow_live {st : Sto} {x y : PRow} {k i : Nat} (h : (st.setRow k x).rows[i]? = some y) : (i ≠ k ∧ st.rows[i]? = some y) ∨ (i = k ∧ y = x) := by
  have h : (st.rows.set k x)[i]? = some y := h
  rw [List.getElem?_set] at h
  split at h
  · rename_i hik
    split at h
    · exact .inr ⟨hik.symm, by simpa using h.symm⟩
    · cases h
  · rename_i hik
    exact .inl ⟨fun e => hik e.symm, h⟩

/-- A row has come to hold more: at the place (g, c); the row's old place, if it had one, is the same or is left alone. -/
structure Grow (av : Nat → Nat → Prop) (st : Sto) (m : Lay) (w : World) (r : Nat) (row : PRow) (es2 : List (List Tr)) (g c : Nat) (cur : Array Value) (w1 : World) : Prop where
  live : st.rows[r]? = some row
  os : w1.os = w.os
  tape : w1.tape = w.tape
  output : w1.output = w.output
  size : w.heap.size ≤ w1.heap.size
  blk : ∀ b, b < w.heap.size → b ≠ g → w1.heap[b]? = w.heap[b]?
  ob : OB w1 g row.E cur
  csz : cur.size = c * row.sz
  fit : row.es.length + es2.length ≤ c
  max : c ≤ maxLen
  lens : ∀ e ∈ es2, e.length = row.sz
  old : ∀ i e, row.es[i]? = some e → ∀ j d, e[j]? = some d → ∃ v, cur[i * row.sz + j]? = some v ∧ RepM (okA av st m) w d v
  new : ∀ i e, es2[i]? = some e → ∀ j d, e[j]? = some d → ∃ v, cur[(row.es.length + i) * row.sz + j]? = some v ∧ RepM (okA av st m) w d v
  place : (∃ c0 cur0, m.γ r = some (g, c0) ∧ OB w g row.E cur0 ∧ ∀ o, o < row.es.length * row.sz → cur[o]? = cur0[o]?) ∨ w.heap.size ≤ g
  cap : row.whole = true ∨ es2 = [] → m.γ r = some (g, c)

theorem Grow.ev {av : Nat → Nat → Prop} {st : Sto} {m : Lay} {w : World} {r : Nat} {row : PRow} {es2 : List (List Tr)} {g c : Nat} {cur : Array Value} {w1 : World} (h : Grow av st m w r row es2 g c cur w1) (hst : StoOk av st m w) :
    Ev st m w (st.setRow r { row with es := row.es ++ es2 }) ⟨m.ρ, upd m.γ r (some (g, c))⟩ w1 := by
  have hg : ∀ b, b < w.heap.size → b = g → ∃ c0, m.γ r = some (g, c0) := fun b hb e => by
    rcases h.place with ⟨c0, cur0, h1, -⟩ | h1
    · exact ⟨c0, h1⟩
    · omega
  refine ⟨h.os, h.tape, h.output, h.size, fun b hb _ h2 => h.blk b hb fun e => ?_, fun b o hb hk => ?_, fun b o hb hk => ⟨hk.1, fun i row' g' c' hi hg' e => ?_⟩, fun k x hk => ⟨⟨x, hk⟩, rfl⟩, fun k x hk => .inl ⟨x, hk⟩, fun i row' hi => ?_, fun i row' g' c' hi hg' => ?_⟩
  · obtain ⟨c0, h1⟩ := hg b hb e
    exact h2 r row g c0 h.live h1 e.symm
  · by_cases e : b = g
    · subst e
      rcases h.place with ⟨c0, cur0, h1, h2, h3⟩ | h1
      · have ho := hk.2 r row b c0 h.live h1 rfl
        rw [h.ob.cell, h2.cell, h3 o ho]
      · omega
    · exact heap_other_cell (h.blk b hb e)
  · rcases setRow_live hi with ⟨h1, h2⟩ | ⟨rfl, rfl⟩
    · simp only [upd_ne h1] at hg'
      exact hk.2 i row' g' c' h2 hg' e
    · simp only [upd_same, Option.some.injEq, Prod.mk.injEq] at hg'
      obtain ⟨rfl, rfl⟩ := hg'
      subst e
      obtain ⟨c0, h1⟩ := hg _ hb rfl
      have := hk.2 _ row _ c0 h.live h1 rfl
      simp only [List.length_append]
      exact Nat.lt_of_lt_of_le this (Nat.mul_le_mul_right _ (by omega))
  · by_cases e : i = r
    · subst e
      rw [h.live] at hi
      cases hi
      refine ⟨{ row with es := row.es ++ es2 }, by show (st.rows.set i _)[i]? = _; simp [List.getElem?_set, get_lt h.live], rfl, by simp, fun he => ?_, fun hw => ⟨hw, ?_⟩⟩
      · simp only [upd_same]
        exact (h.cap (.inr (by simpa using he))).symm
      · simp only [upd_same]
        exact (h.cap (.inl hw)).symm
    · refine ⟨row', by show (st.rows.set r _)[i]? = _; rw [List.getElem?_set, if_neg (fun e' => e e'.symm)]; exact hi, rfl, Nat.le_refl _, fun _ => upd_ne e, fun hw => ⟨hw, upd_ne e⟩⟩
  · rcases setRow_live hi with ⟨h1, h2⟩ | ⟨rfl, rfl⟩
    · simp only [upd_ne h1] at hg'
      exact .inl ⟨row', c', h2, hg'⟩
    · simp only [upd_same, Option.some.injEq, Prod.mk.injEq] at hg'
      obtain ⟨rfl, rfl⟩ := hg'
      rcases h.place with ⟨c0, cur0, h1, -⟩ | h1
      · exact .inl ⟨row, c0, h.live, h1⟩
      · exact .inr h1

theorem Grow.sto {av : Nat → Nat → Prop} {st : Sto} {m : Lay} {w : World} {r : Nat} {row : PRow} {es2 : List (List Tr)} {g c : Nat} {cur : Array Value} {w1 : World} (h : Grow av st m w r row es2 g c cur w1) (hst : StoOk av st m w) :
    StoOk av (st.setRow r { row with es := row.es ++ es2 }) ⟨m.ρ, upd m.γ r (some (g, c))⟩ w1 := by
  have he := h.ev hst
  have hgn : ∀ i row' c', i ≠ r → st.rows[i]? = some row' → m.γ i = some (g, c') → False := fun i row' c' hne hi hg => by
    rcases h.place with ⟨c0, cur0, h1, -⟩ | h1
    · exact hne (hst.rinj i r row' row g c' c0 hi h.live hg h1)
    · have := hst.row_lt hi hg; omega
  have hbn : ∀ k x, st.boxes[k]? = some (some x) → m.ρ k ≠ g := fun k x hk e => by
    rcases h.place with ⟨c0, cur0, h1, -⟩ | h1
    · exact hst.br k x r row g c0 hk h.live h1 e
    · have := hst.box_lt hk; omega
  have hav : ∀ o, ¬ av g o := fun o ha => by
    rcases h.place with ⟨c0, cur0, h1, -⟩ | h1
    · exact hst.avr r row g c0 h.live h1 o ha
    · have := hst.avlt _ _ ha; omega
  obtain ⟨hpos, hlens, -⟩ := hst.row r row h.live
  refine ⟨fun k x hk => ?_, hst.binj, fun i row' hi => ?_, fun i i' row' row'' g' c' c'' hi hi' hg hg' => ?_, fun k x i row' g' c' hk hi hg => ?_, fun b o hb => Nat.lt_of_lt_of_le (hst.avlt b o hb) h.size, fun i row' g' c' hi hg o => ?_, hst.avb⟩
  · obtain ⟨vs, k1, k2⟩ := hst.box k x hk
    exact ⟨vs, k1.keep (h.blk _ k1.lt (hbn k x hk)), RVL.mono he _ _ k2⟩
  · rcases setRow_live hi with ⟨h1, h2⟩ | ⟨rfl, rfl⟩
    · obtain ⟨k1, k2, k3⟩ := hst.row i row' h2
      refine ⟨k1, k2, ?_⟩
      simp only [upd_ne h1]
      rcases k3 with k3 | ⟨g', c', cur', q1, q2, q3, q4, q5, q6⟩
      · exact .inl k3
      · refine .inr ⟨g', c', cur', q1, (h.blk g' q2.lt (fun e => ?_)).trans q2, q3, q4, q5, RV.mono he (.t _) _ q6⟩
        subst e
        exact hgn i row' c' h1 h2 q1
    · refine ⟨hpos, fun e he' => ?_, .inr ⟨g, c, cur, upd_same _ _ _, h.ob, h.csz, by simpa using h.fit, h.max, ?_⟩⟩
      · rcases List.mem_append.1 he' with h1 | h1
        · exact hlens e h1
        · exact h.lens e h1
      · have hget : ∀ q e, (row.es ++ es2)[q]? = some e → ∀ j d, e[j]? = some d → ∃ v, cur[q * row.sz + j]? = some v ∧ RepM (okA av st m) w d v := fun q e hq j d hd => by
          rcases Nat.lt_or_ge q row.es.length with hlt | hge
          · rw [List.getElem?_append_left hlt] at hq
            exact h.old q e hq j d hd
          · rw [List.getElem?_append_right hge] at hq
            have := h.new _ e hq j d hd
            rwa [show row.es.length + (q - row.es.length) = q by omega] at this
        have hlen2 : ∀ q e, (row.es ++ es2)[q]? = some e → q < (row.es ++ es2).length ∧ e.length = row.sz := fun q e hq => by
          refine ⟨get_lt hq, ?_⟩
          rcases List.mem_append.1 (List.mem_of_getElem? hq) with h1 | h1
          · exact hlens e h1
          · exact h.lens e h1
        refine RepM.row (es := row.es ++ es2) (fun q j => (cur[q * row.sz + j]?).getD undef) (by simpa using h.fit) h.max (fun _ => ⟨g, 0, rfl, h.ob.lt, fun q e hq j d hd => ⟨?_, ?_⟩⟩) (fun q e hq j d hd => ?_)
        · rw [Nat.zero_add]
          refine ⟨hav _, fun k x hk => hbn k x hk, fun i' row' g' c' hi' hg' e' => ?_⟩
          rcases setRow_live hi' with ⟨h1, h2⟩ | ⟨rfl, rfl⟩
          · simp only [upd_ne h1] at hg'
            subst e'
            exact (hgn i' row' c' h1 h2 hg').elim
          · obtain ⟨h1, h2⟩ := hlen2 q e hq
            have hj := get_lt hd
            show q * row.sz + j < (row.es ++ es2).length * row.sz
            have : (q + 1) * row.sz ≤ (row.es ++ es2).length * row.sz := Nat.mul_le_mul_right _ h1
            rw [Nat.succ_mul] at this
            omega
        · obtain ⟨v, hv, -⟩ := hget q e hq j d hd
          rw [Nat.zero_add, h.ob.cell, hv]
          rfl
        · obtain ⟨v, hv, hr⟩ := hget q e hq j d hd
          rw [hv]
          exact RV.mono he (.t d) _ hr
  · rcases setRow_live hi with ⟨h1, h2⟩ | ⟨rfl, rfl⟩ <;> rcases setRow_live hi' with ⟨h1', h2'⟩ | ⟨rfl, rfl⟩
    · simp only [upd_ne h1] at hg
      simp only [upd_ne h1'] at hg'
      exact hst.rinj i i' row' row'' g' c' c'' h2 h2' hg hg'
    · simp only [upd_ne h1] at hg
      simp only [upd_same, Option.some.injEq, Prod.mk.injEq] at hg'
      obtain ⟨rfl, rfl⟩ := hg'
      exact (hgn i row' c' h1 h2 hg).elim
    · simp only [upd_ne h1'] at hg'
      simp only [upd_same, Option.some.injEq, Prod.mk.injEq] at hg
      obtain ⟨rfl, rfl⟩ := hg
      exact (hgn i' row'' c'' h1' h2' hg').elim
    · rfl
  · rcases setRow_live hi with ⟨h1, h2⟩ | ⟨rfl, rfl⟩
    · simp only [upd_ne h1] at hg
      exact hst.br k x i row' g' c' hk h2 hg
    · simp only [upd_same, Option.some.injEq, Prod.mk.injEq] at hg
      obtain ⟨rfl, rfl⟩ := hg
      exact hbn k x hk
  · rcases setRow_live hi with ⟨h1, h2⟩ | ⟨rfl, rfl⟩
    · simp only [upd_ne h1] at hg
      exact hst.avr i row' g' c' h2 hg o
    · simp only [upd_same, Option.some.injEq, Prod.mk.injEq] at hg
      obtain ⟨rfl, rfl⟩ := hg
      exact hav o

/-! ### A row comes to be -/
def Sto.addRow (st : Sto) (row : PRow) : Sto := ⟨st.boxes, st.rows ++ [row]⟩
theorem ev_addRow {av : Nat → Nat → Prop} {st : Sto} {m : Lay} {w : World} {row : PRow} (_hst : StoOk av st m w) : Ev st m w (st.addRow row) ⟨m.ρ, upd m.γ st.rows.length none⟩ w := by
  refine ⟨rfl, rfl, rfl, Nat.le_refl _, fun _ _ _ _ => rfl, fun _ _ _ _ => rfl, fun b o _ h => ⟨h.1, fun i row' g c hi hg e => ?_⟩, fun _ x h => ⟨⟨x, h⟩, rfl⟩, fun _ x h => .inl ⟨x, h⟩, fun i row' hi => ⟨row', ?_, rfl, Nat.le_refl _, fun _ => ?_, fun hw => ⟨hw, ?_⟩⟩, fun i row' g c hi hg => ?_⟩
  · rcases getElem?_snoc hi with ⟨h1, h2⟩ | ⟨rfl, rfl⟩
    · simp only [upd_ne (show i ≠ st.rows.length by omega)] at hg
      exact h.2 i row' g c h2 hg e
    · simp [upd_same] at hg
  · show (st.rows ++ [row])[i]? = _
    rw [List.getElem?_append_left (get_lt hi)]; exact hi
  · exact upd_ne (by have := get_lt hi; omega)
  · exact upd_ne (by have := get_lt hi; omega)
  · rcases getElem?_snoc hi with ⟨h1, h2⟩ | ⟨rfl, rfl⟩
    · simp only [upd_ne (show i ≠ st.rows.length by omega)] at hg
      exact .inl ⟨row', c, h2, hg⟩
    · simp [upd_same] at hg
theorem sto_addRow {av : Nat → Nat → Prop} {st : Sto} {m : Lay} {w : World} {row : PRow} (h : StoOk av st m w) (hp : 0 < row.sz) (he : row.es = []) : StoOk av (st.addRow row) ⟨m.ρ, upd m.γ st.rows.length none⟩ w := by
  have ev := ev_addRow (row := row) h
  have key : ∀ i row' g c, (st.addRow row).rows[i]? = some row' → upd m.γ st.rows.length none i = some (g, c) → st.rows[i]? = some row' ∧ m.γ i = some (g, c) := fun i row' g c hi hg => by
    rcases getElem?_snoc hi with ⟨h1, h2⟩ | ⟨rfl, rfl⟩
    · rw [upd_ne (show i ≠ st.rows.length by omega)] at hg
      exact ⟨h2, hg⟩
    · simp [upd_same] at hg
  refine ⟨fun k x hk => ?_, h.binj, fun i row' hi => ?_, fun i i' row' row'' g c c' hi hi' hg hg' => ?_, fun k x i row' g c hk hi hg => ?_, h.avlt, fun i row' g c hi hg => ?_, h.avb⟩
  · obtain ⟨vs, k1, k2⟩ := h.box k x hk
    exact ⟨vs, k1, RVL.mono ev _ _ k2⟩
  · rcases getElem?_snoc hi with ⟨h1, h2⟩ | ⟨rfl, rfl⟩
    · obtain ⟨k1, k2, k3⟩ := h.row i row' h2
      refine ⟨k1, k2, ?_⟩
      simp only [upd_ne (show i ≠ st.rows.length by omega)]
      rcases k3 with k3 | ⟨g, c, cur, q1, q2, q3, q4, q5, q6⟩
      · exact .inl k3
      · exact .inr ⟨g, c, cur, q1, q2, q3, q4, q5, RV.mono ev (.t _) _ q6⟩
    · exact ⟨hp, by rw [he]; simp, .inl ⟨upd_same _ _ _, he⟩⟩
  · obtain ⟨h1, h2⟩ := key i row' g c hi hg
    obtain ⟨h1', h2'⟩ := key i' row'' g c' hi' hg'
    exact h.rinj i i' row' row'' g c c' h1 h1' h2 h2'
  · obtain ⟨h1, h2⟩ := key i row' g c hi hg
    exact h.br k x i row' g c hk h1 h2
  · obtain ⟨h1, h2⟩ := key i row' g c hi hg
    exact h.avr i row' g c h1 h2
end Go.Proofs.Ytmpepccpnnldoaa

namespace Go.Proofs.Ytmpepccpnnldoaa
set_option linter.unusedSimpArgs false
set_option linter.unusedVariables false
open Go.RowKit Go.WalkArith Go.IntWalk Go.WideShapes

theorem RepM.one {ok : Nat → Nat → Prop} {w : World} {t : Tr} {v : Value} (h : RepM ok w t v) : v.oneCell' = true := h.rep.one
/-- The cells of a slice, as a list. -/
theorem RepM.news {ok : Nat → Nat → Prop} {w : World} {sz : Nat} {es : List (List Tr)} {v : Value} (h : RepM ok w (.row sz es) v) (hl : ∀ e ∈ es, e.length = sz) (hne : es ≠ []) (hsz : 0 < sz) :
    ∃ (b off c : Nat) (news : List Value), v = .slice (some ⟨b, off, none⟩) es.length c ∧ news.length = es.length * sz ∧ (∀ (j : Nat) u, news[j]? = some u → w.cell? ((⟨b, off, none⟩ : Addr).add j) = some u) ∧ (∀ u ∈ news, u.oneCell' = true) ∧
      (∀ i e, es[i]? = some e → ∀ j d, e[j]? = some d → ∃ v, news[i * sz + j]? = some v ∧ RepM ok w d v) := by
  cases h with
  | row c h1 h2 h3 h4 =>
    obtain ⟨b, off, rfl, hb, h5⟩ := h3 hne
    have hadd : ∀ n, (⟨b, off, none⟩ : Addr).add n = ⟨b, off + n, none⟩ := fun n => by unfold Addr.add; split <;> simp_all
    have key : ∀ q, q < es.length * sz → ∃ e d, es[q / sz]? = some e ∧ e[q % sz]? = some d := fun q hq => by
      have h1 : q / sz < es.length := by rw [Nat.div_lt_iff_lt_mul hsz]; exact hq
      have h2 : q % sz < (es[q / sz]).length := by rw [hl _ (List.getElem_mem h1)]; exact Nat.mod_lt _ hsz
      exact ⟨es[q / sz], (es[q / sz])[q % sz], List.getElem?_eq_getElem h1, List.getElem?_eq_getElem h2⟩
    have hget : ∀ q, q < es.length * sz → ((List.range (es.length * sz)).map (fun q => c (q / sz) (q % sz)))[q]? = some (c (q / sz) (q % sz)) := fun q hq => by
      rw [List.getElem?_map, List.getElem?_range hq]; rfl
    refine ⟨b, off, _, (List.range (es.length * sz)).map (fun q => c (q / sz) (q % sz)), rfl, by simp, fun j u hu => ?_, fun u hu => ?_, fun i e he j d hd => ?_⟩
    · have hj : j < es.length * sz := by have := get_lt hu; simpa using this
      rw [hget j hj] at hu
      cases hu
      obtain ⟨e, d, k1, k2⟩ := key j hj
      have := (h5 _ e k1 _ d k2).2
      rw [hadd, ← this]
      congr 2
      have := Nat.div_add_mod j sz
      rw [Nat.mul_comm] at this
      omega
    · obtain ⟨q, hq, rfl⟩ := List.mem_map.1 hu
      obtain ⟨e, d, k1, k2⟩ := key q (by simpa using hq)
      exact (h4 _ e k1 _ d k2).one
    · have hi := get_lt he
      have hj : j < sz := by rw [← hl e (List.mem_of_getElem? he)]; exact get_lt hd
      have hq : i * sz + j < es.length * sz := by
        have : (i + 1) * sz ≤ es.length * sz := Nat.mul_le_mul_right _ hi
        rw [Nat.succ_mul] at this
        omega
      refine ⟨c i j, ?_, h4 i e he j d hd⟩
      rw [hget _ hq]
      have e1 : (i * sz + j) / sz = i := by rw [Nat.mul_comm, Nat.mul_add_div hsz]; simp [Nat.div_eq_of_lt hj]
      have e2 : (i * sz + j) % sz = j := by rw [Nat.mul_comm, Nat.mul_add_mod]; exact Nat.mod_eq_of_lt hj
      rw [e1, e2]

def zerosOf (P : Program) (T : TypeId) : Option (List PV) := match P.info? T with
  | some i => match i.zero with
    | some z => z.cells.toList.mapM constPV
    | none => none
  | none => none
theorem mapM_constPV {ok : Nat → Nat → Prop} {st : Sto} {m : Lay} {w : World} : ∀ {vs : List Value} {ps : List PV}, vs.mapM constPV = some ps → RVL ok st m w ps vs
  | [], ps, h => by
    simp at h
    subst h
    trivial
  | v :: vs, ps, h => by
    rw [List.mapM_cons] at h
    cases h1 : constPV v with
    | none => simp [h1] at h
    | some p =>
      cases h2 : vs.mapM constPV with
      | none => simp [h1, h2] at h
      | some qs =>
        simp [h1, h2] at h
        subst h
        exact ⟨constPV_rv h1, mapM_constPV h2⟩
theorem zerosOf.spec {P : Program} {T : TypeId} {ps : List PV} (h : zerosOf P T = some ps) : ∃ i z, P.info? T = some i ∧ i.zero = some z ∧ ∀ ok st m w, RVL ok st m w ps z.cells.toList := by
  unfold zerosOf at h
  split at h
  · rename_i i hi
    split at h
    · rename_i z hz
      exact ⟨i, z, hi, hz, fun _ _ _ _ => mapM_constPV h⟩
    · cases h
  · cases h

section
variable {P : Program} {C : Ctx} {n : Nat} {s : AS} {o : Oper}

theorem AOp.run {s1 : AS} {p : PV} (hd : dstOk o.dst n = true) (h : ∀ m a w, RA C n s m a w → ∃ v m1 w1, (execOp a.eval o).run P w = .ok (.value v) w1 ∧ Ev s.st m w s1.st m1 w1 ∧ StoOk C.av s1.st m1 w1 ∧ RV (okA C.av s1.st m1) s1.st m1 w1 p v)
    (he : s1.env = s.env) : AOp P C n o s (s1.putO o.dst p) := fun m a w hr K Q hK => by
  obtain ⟨v, m1, w1, h1, h2, h3, h4⟩ := h m a w hr
  unfold Oper.wp
  rw [h1]
  obtain ⟨env1, st1⟩ := s1
  cases he
  exact hK m1 _ w1 ((hr.step h2 h3).put (dstOk_lt hd) h4)
theorem AOp.runU {s1 : AS} (h : ∀ m a w, RA C n s m a w → ∃ m1 w1, (execOp a.eval o).run P w = .ok .skip w1 ∧ Ev s.st m w s1.st m1 w1 ∧ StoOk C.av s1.st m1 w1)
    (he : s1.env = s.env) : AOp P C n o s (s1.delO o.dst) := fun m a w hr K Q hK => by
  obtain ⟨m1, w1, h1, h2, h3⟩ := h m a w hr
  unfold Oper.wp
  rw [h1]
  obtain ⟨env1, st1⟩ := s1
  cases he
  exact hK m1 _ w1 ((hr.step h2 h3).del o.dst undef)

theorem AOp.alloc {T : TypeId} {ps : List PV} (ho : o.op = .alloc T) (hd : dstOk o.dst n = true) (hz : zerosOf P T = some ps) : AOp P C n o s ((⟨s.env, s.st.addBox ⟨T, ps⟩⟩ : AS).putO o.dst (.ptr s.st.boxes.length 0)) :=
  AOp.run hd (s1 := ⟨s.env, s.st.addBox ⟨T, ps⟩⟩) (fun m a w h => by
    obtain ⟨i, z, hi, hzz, hr⟩ := zerosOf.spec hz
    refine ⟨.pointer (some ⟨w.heap.size, 0, none⟩), _, w.alloc (.cells ⟨z.cells.toList⟩ T), ?_, ev_addBox (x := ⟨T, ps⟩), sto_addBox (x := ⟨T, ps⟩) h.sto (hr _ _ _ _), ⟨⟨T, ps⟩, by simp [Sto.addBox]⟩, by simp [upd_same]⟩
    unfold execOp
    simp [ho, Instr.alloc, zeroValue, typeInfo, hi, hzz, newVar, newRow]) rfl

/-- The cells that a value takes. -/
def cellsP : PV → List PV
  | .agg cs => cs
  | p => [p]
theorem cellsP_rv {ok : Nat → Nat → Prop} {st : Sto} {m : Lay} {w : World} {p : PV} {v : Value} (h : RV ok st m w p v) (ht : ∀ ps, p ≠ .tup ps) : RVL ok st m w (cellsP p) v.cells.toList := by
  cases p with
  | agg cs =>
    obtain ⟨vs, rfl, h1⟩ := h
    exact h1
  | tup ps => exact absurd rfl (ht ps)
  | t t =>
    have h0 : RepM ok w t v := h
    have hv : v.cells = #[v] := by
      cases h0 with
      | leaf hl => cases v <;> first | rfl | exact hl.elim
      | row => rfl
    rw [hv]; exact ⟨h, trivial⟩
  | nil => obtain rfl := (show v = _ from h); exact ⟨rfl, trivial⟩
  | acc sz es r =>
    obtain ⟨row, h1, h2, h3, h4, h5⟩ := h
    obtain ⟨ad, cap, rfl, -, -⟩ := h4.shape
    exact ⟨⟨row, h1, h2, h3, h4, h5⟩, trivial⟩
  | ptr k d =>
    obtain ⟨h1, rfl⟩ := h
    exact ⟨⟨h1, rfl⟩, trivial⟩
  | eptr cs =>
    obtain ⟨b, off, rfl, h2⟩ := h
    exact ⟨⟨b, off, rfl, h2⟩, trivial⟩
  | fn f cs =>
    obtain ⟨vs, rfl, h2⟩ := h
    exact ⟨⟨vs, rfl, h2⟩, trivial⟩
  | full sz k r =>
    obtain ⟨row, g, h1, h2, h3, h4, rfl⟩ := h
    exact ⟨⟨row, g, h1, h2, h3, h4, rfl⟩, trivial⟩
  | rptr r i =>
    obtain ⟨row, g, k, h1, h3, h4, rfl⟩ := h
    exact ⟨⟨row, g, k, h1, h3, h4, rfl⟩, trivial⟩
  | lit sz es =>
    obtain ⟨h1, ad, rfl⟩ := h
    exact ⟨⟨h1, ad, rfl⟩, trivial⟩
  | bsl k n =>
    obtain ⟨h1, rfl⟩ := h
    exact ⟨⟨h1, rfl⟩, trivial⟩
  | gsl k n =>
    obtain ⟨h1, c, hc, hm, rfl⟩ := h
    exact ⟨⟨h1, c, hc, hm, rfl⟩, trivial⟩
def notTup : PV → Bool
  | .tup _ => false
  | _ => true
theorem notTup.ne {p : PV} (h : notTup p = true) : ∀ ps, p ≠ .tup ps := by rintro ps rfl; cases h
theorem RV.oneCell {ok : Nat → Nat → Prop} {st : Sto} {m : Lay} {w : World} {p : PV} {v : Value} (h : RV ok st m w p v) (ht : cellsP p = [p]) (htt : notTup p = true) : v.oneCell' = true := by
  cases p with
  | agg cs =>
    exfalso
    simp only [cellsP] at ht
    have := congrArg (fun l : List PV => SizeOf.sizeOf l) ht
    simp at this
    omega
  | tup ps => cases htt
  | t t => exact RepM.one h
  | nil => obtain rfl := (show v = _ from h); rfl
  | acc sz es r =>
    obtain ⟨row, h1, h2, h3, h4, h5⟩ := h
    exact h4.one
  | ptr k d => obtain ⟨h1, rfl⟩ := h; rfl
  | eptr cs => obtain ⟨b, off, rfl, h2⟩ := h; rfl
  | fn f cs => obtain ⟨vs, rfl, h2⟩ := h; rfl
  | full sz k r => obtain ⟨row, g, h1, h2, h3, h4, rfl⟩ := h; rfl
  | rptr r i => obtain ⟨row, g, k, h1, h3, h4, rfl⟩ := h; rfl
  | lit sz es => exact RepM.one h.1
  | bsl k n => obtain ⟨h1, rfl⟩ := h; rfl
  | gsl k n => obtain ⟨h1, c, hc, hm, rfl⟩ := h; rfl
/-- Cells that are cells. -/
def flatP : List PV → Bool
  | [] => true
  | .agg _ :: _ => false
  | .tup _ :: _ => false
  | _ :: ps => flatP ps
theorem flatP.one {ok : Nat → Nat → Prop} {st : Sto} {m : Lay} {w : World} : ∀ {ps : List PV} {vs : List Value}, flatP ps = true → RVL ok st m w ps vs → ∀ v ∈ vs, v.oneCell' = true
  | [], [], _, _, v, hv => by cases hv
  | p :: ps, u :: vs, hf, h, v, hv => by
    have h2 : flatP ps = true := by cases p <;> first | exact hf | cases hf
    rcases List.mem_cons.1 hv with rfl | hv
    · cases p with
      | agg cs => cases hf
      | tup cs => cases hf
      | _ => exact h.1.oneCell rfl rfl
    · exact flatP.one h2 h.2 v hv
  | [], _ :: _, _, h, _, _ => h.elim
  | _ :: _, [], _, h, _, _ => h.elim

theorem AOp.box {T : TypeId} {x : Operand} {p : PV} {cs : List PV} (ho : o.op = .box T x) (hd : dstOk o.dst n = true) (hx : s.ev x = some p) (hc : cellsP p = cs) (ht : notTup p = true) : AOp P C n o s ((⟨s.env, s.st.addBox ⟨T, cs⟩⟩ : AS).putO o.dst (.ptr s.st.boxes.length 0)) :=
  AOp.run hd (s1 := ⟨s.env, s.st.addBox ⟨T, cs⟩⟩) (fun m a w h => by
    subst hc
    have hr := cellsP_rv (h.eval hx) (notTup.ne ht)
    refine ⟨.pointer (some ⟨w.heap.size, 0, none⟩), _, w.alloc (.cells ⟨(a.eval x).cells.toList⟩ T), ?_, ev_addBox (x := ⟨T, cellsP p⟩), sto_addBox (x := ⟨T, cellsP p⟩) h.sto hr, ⟨⟨T, cellsP p⟩, by simp [Sto.addBox]⟩, by simp [upd_same]⟩
    unfold execOp
    simp [ho, Instr.box, newVar, newRow]) rfl

theorem run_storeVar_ob {T : TypeId} {B d : Nat} {v : Value} {w : World} {E : TypeId} {arr : Array Value} (hob : OB w B E arr) (hT : (P.info? T).map (·.size) = some v.cells.size) (hfit : d + v.cells.size ≤ arr.size) (h1 : ∀ u ∈ v.cells.toList, u.oneCell' = true) :
    (storeVar T ⟨B, d, none⟩ v).run P w = .ok () (w.setRow B (splice arr d v.cells.toList)) := by
  have hst := run_storeCells_at P B d E v.cells.toList 0 arr w hob (by simpa using hfit) h1
  cases hq : P.info? T with
  | none => simp [hq] at hT
  | some i =>
    have hs : i.size = v.cells.size := by simpa [hq] using hT
    simp only [storeVar]
    simp [Go.sizeOf, typeInfo, hq, hs, hst, splice]

theorem splice_rest {vs rest us : List Value} {d : Nat} (h : d + us.length ≤ vs.length) : splice ⟨vs ++ rest⟩ d us = ⟨(splice ⟨vs⟩ d us).toList ++ rest⟩ := by
  unfold splice
  simp only [List.append_assoc]
  rw [List.take_append_of_le_length (by omega), List.drop_append_of_le_length h]
theorem RVL.splice {ok : Nat → Nat → Prop} {st : Sto} {m : Lay} {w : World} {ps qs : List PV} {vs us : List Value} (h : RVL ok st m w ps vs) (k : RVL ok st m w qs us) (d : Nat) : RVL ok st m w (ps.take d ++ qs ++ ps.drop (d + qs.length)) (splice ⟨vs⟩ d us).toList := by
  have := RVL.append (RVL.append (h.take d) k) (h.drop (d + qs.length))
  rw [k.length] at this ⊢
  simpa [Go.Proofs.Ytmpepccpnnldoaa.splice] using this

theorem AOp.storePtr {T : TypeId} {x y : Operand} {k d : Nat} {bx : PBox} {p : PV} {cs ds : List PV} (ho : o.op = .store T x y) (hx : s.ev x = some (.ptr k d)) (hb : s.st.boxes[k]? = some (some bx)) (hy : s.ev y = some p) (hc : cellsP p = cs) (ht : notTup p = true) (hf : flatP cs = true)
    (hT : (P.info? T).map (·.size) = some cs.length) (hfit : d + cs.length ≤ bx.cells.length) (hds : bx.cells.take d ++ cs ++ bx.cells.drop (d + cs.length) = ds) : AOp P C n o s ((⟨s.env, s.st.setBox k ⟨bx.ty, ds⟩⟩ : AS).delO o.dst) :=
  AOp.runU (s1 := ⟨s.env, s.st.setBox k ⟨bx.ty, ds⟩⟩) (fun m a w h => by
    subst hc hds
    have hr := cellsP_rv (h.eval hy) (notTup.ne ht)
    obtain ⟨-, h2⟩ := h.eval hx
    obtain ⟨vs, ⟨rest, h3⟩, h4⟩ := h.sto.box k bx hb
    have hl1 := hr.length
    have hl2 := h4.length
    have hft : d + (a.eval y).cells.toList.length ≤ vs.length := by rw [← hl2]; rw [hl1] at hfit; exact hfit
    have hrun := run_storeVar_ob (P := P) (T := T) (d := d) (v := a.eval y) h3 (by rw [hT, hl1]; simp) (by simp only [List.size_toArray, List.length_append]; simp only [Array.length_toList] at hft; omega) (flatP.one hf hr)
    rw [splice_rest hft] at hrun
    have hother : ∀ b, b ≠ m.ρ k → (w.setRow (m.ρ k) ⟨(splice ⟨vs⟩ d (a.eval y).cells.toList).toList ++ rest⟩).heap[b]? = w.heap[b]? := fun b hb => setRow_other w _ b _ hb
    refine ⟨m, w.setRow (m.ρ k) ⟨(splice ⟨vs⟩ d (a.eval y).cells.toList).toList ++ rest⟩, ?_, ev_setBox h.sto hb rfl rfl rfl (by simp) hother, sto_setBox (vs := (splice ⟨vs⟩ d (a.eval y).cells.toList).toList) h.sto hb rfl rfl rfl (by simp) hother ⟨rest, ?_⟩ (RVL.splice h4 hr d)⟩
    · unfold execOp
      simp [ho, h2, Instr.storeAt, Instr.sureAddr, hrun]
    · exact setRow_heap w _ ⟨vs ++ rest⟩ _ _ _ h3) rfl
end
end Go.Proofs.Ytmpepccpnnldoaa

namespace Go.Proofs.Ytmpepccpnnldoaa
set_option linter.unusedSimpArgs false
set_option linter.unusedVariables false
open Go.RowKit Go.WalkArith Go.IntWalk Go.WideShapes

mutual
inductive PV.Le : PV → PV → Prop
  | refl (p : PV) : PV.Le p p
  | nil (sz : Nat) : PV.Le .nil (.t (.row sz []))
  | acc (sz : Nat) (es : List (List Tr)) (r : Nat) : PV.Le (.acc sz es r) (.t (.row sz es))
  | lit (sz : Nat) (es : List (List Tr)) : PV.Le (.lit sz es) (.t (.row sz es))
  | nilLit (sz : Nat) : PV.Le .nil (.lit sz [])
  | agg {ps qs : List PV} : LeL ps qs → PV.Le (.agg ps) (.agg qs)
  | tup {ps qs : List PV} : LeL ps qs → PV.Le (.tup ps) (.tup qs)
inductive LeL : List PV → List PV → Prop
  | nil : LeL [] []
  | cons {p q : PV} {ps qs : List PV} : PV.Le p q → LeL ps qs → LeL (p :: ps) (q :: qs)
end
mutual
theorem PV.Le.rv {ok : Nat → Nat → Prop} {st : Sto} {m : Lay} {w : World} : ∀ {p q : PV} {v : Value}, PV.Le p q → RV ok st m w p v → RV ok st m w q v
  | _, _, _, .refl _, h => h
  | _, _, _, .nil _, h => by
    obtain rfl := (show _ = _ from h)
    exact RepM.row (es := []) (fun _ _ => undef) (by simp) (by unfold maxLen; omega) (by simp) (by simp)
  | _, _, _, .acc _ _ _, h => by
    obtain ⟨row, -, -, -, h4, -⟩ := h
    exact h4
  | _, _, _, .lit _ _, h => h.1
  | _, _, _, .nilLit _, h => by
    obtain rfl := (show _ = _ from h)
    exact ⟨RepM.row (es := []) (fun _ _ => undef) (by simp) (by unfold maxLen; omega) (by simp) (by simp), none, rfl⟩
  | _, _, _, .agg k, h => by
    obtain ⟨vs, hv, h1⟩ := h
    exact ⟨vs, hv, LeL.rv k h1⟩
  | _, _, _, .tup k, h => by
    obtain ⟨vs, hv, h1⟩ := h
    exact ⟨vs, hv, LeL.rv k h1⟩
theorem LeL.rv {ok : Nat → Nat → Prop} {st : Sto} {m : Lay} {w : World} : ∀ {ps qs : List PV} {vs : List Value}, LeL ps qs → RVL ok st m w ps vs → RVL ok st m w qs vs
  | _, _, [], .nil, h => h
  | _, _, _ :: _, .nil, h => h.elim
  | _, _, [], .cons _ _, h => h.elim
  | _, _, _ :: _, .cons k1 k2, h => ⟨PV.Le.rv k1 h.1, LeL.rv k2 h.2⟩
end

mutual
/-- What the value leans on is there. -/
def PV.okIn (st : Sto) : PV → Bool
  | .t _ => true
  | .agg cs => okInL st cs
  | .tup cs => okInL st cs
  | .nil => true
  | .acc _ _ r => decide (r < st.rows.length)
  | .ptr k _ => match st.boxes[k]? with | some (some _) => true | _ => false
  | .eptr _ => true
  | .fn _ cs => okInL st cs
  | .full _ _ r => decide (r < st.rows.length)
  | .rptr r _ => decide (r < st.rows.length)
  | .lit _ _ => true
  | .bsl k _ => match st.boxes[k]? with | some (some _) => true | _ => false
  | .gsl k _ => match st.boxes[k]? with | some (some _) => true | _ => false
def okInL (st : Sto) : List PV → Bool
  | [] => true
  | p :: ps => PV.okIn st p && okInL st ps
end

/-- A store that says less. -/
structure StLe (st st' : Sto) : Prop where
  boxes : ∀ (k : Nat) (x' : PBox), st'.boxes[k]? = some (some x') → ∃ x : PBox, st.boxes[k]? = some (some x) ∧ x.ty = x'.ty ∧ LeL x.cells x'.cells ∧ okInL st' x'.cells = true
  rows : ∀ (r : Nat) (row' : PRow), st'.rows[r]? = some row' → st.rows[r]? = some row'
/-- A store with fewer boxes and rows; of the boxes' contents nothing is said. -/
structure StSub (st st' : Sto) : Prop where
  boxes : ∀ (k : Nat) (x' : PBox), st'.boxes[k]? = some (some x') → ∃ x : PBox, st.boxes[k]? = some (some x)
  rows : ∀ (r : Nat) (row' : PRow), st'.rows[r]? = some row' → st.rows[r]? = some row'
theorem StLe.sub {st st' : Sto} (h : StLe st st') : StSub st st' := ⟨fun k x hk => by obtain ⟨y, hy, -⟩ := h.boxes k x hk; exact ⟨y, hy⟩, h.rows⟩
theorem StSub.ok {av : Nat → Nat → Prop} {st st' : Sto} (h : StSub st st') {m : Lay} {b o : Nat} (k : okA av st m b o) : okA av st' m b o :=
  ⟨k.1, fun i x hi => by obtain ⟨y, hy⟩ := h.boxes i x hi; exact k.2.1 i y hy, fun r row g c hr => k.2.2 r row g c (h.rows r row hr)⟩
theorem StLe.ok {av : Nat → Nat → Prop} {st st' : Sto} (h : StLe st st') {m : Lay} {b o : Nat} (k : okA av st m b o) : okA av st' m b o := h.sub.ok k
theorem get_of_lt {α : Type} {l : List α} {i : Nat} (h : i < l.length) : ∃ x, l[i]? = some x := ⟨l[i], List.getElem?_eq_getElem h⟩
mutual
theorem StSub.rv {av : Nat → Nat → Prop} {st st' : Sto} (h : StSub st st') {m : Lay} {w : World} : ∀ (p : PV) (v : Value), PV.okIn st' p = true → RV (okA av st m) st m w p v → RV (okA av st' m) st' m w p v
  | .t t, v, _, hr => RepM.mono hr (Nat.le_refl _) (fun _ _ _ k => h.ok k) (fun _ _ _ _ => rfl)
  | .agg cs, v, hk, hr => by
    obtain ⟨vs, rfl, hl⟩ := hr
    exact ⟨vs, rfl, StSub.rvL h cs vs hk hl⟩
  | .tup cs, v, hk, hr => by
    obtain ⟨vs, rfl, hl⟩ := hr
    exact ⟨vs, rfl, StSub.rvL h cs vs hk hl⟩
  | .nil, v, _, hr => hr
  | .acc sz es r, v, hk, hr => by
    obtain ⟨row, h1, h2, h3, h4, h5⟩ := hr
    obtain ⟨row', hr'⟩ := get_of_lt (of_decide_eq_true hk)
    have := h.rows r row' hr'
    rw [h1] at this
    cases this
    exact ⟨row, hr', h2, h3, RepM.mono h4 (Nat.le_refl _) (fun _ _ _ k => h.ok k) (fun _ _ _ _ => rfl), h5⟩
  | .ptr k off, v, hk, hr => by
    obtain ⟨-, hv⟩ := hr
    refine ⟨?_, hv⟩
    simp only [PV.okIn] at hk
    split at hk
    · rename_i x hx
      exact ⟨x, hx⟩
    · cases hk
  | .eptr cs, v, _, hr => by
    obtain ⟨b, off, h1, hb, c, h2⟩ := hr
    refine ⟨b, off, h1, hb, c, fun j d hd => ?_⟩
    obtain ⟨k1, k2, k3⟩ := h2 j d hd
    exact ⟨h.ok k1, k2, RepM.mono k3 (Nat.le_refl _) (fun _ _ _ k => h.ok k) (fun _ _ _ _ => rfl)⟩
  | .fn f caps, v, hk, hr => by
    obtain ⟨vs, rfl, hl⟩ := hr
    exact ⟨vs, rfl, StSub.rvL h caps vs hk hl⟩
  | .full sz n r, v, hk, hr => by
    obtain ⟨row, g, h1, h2, h3, h4, h5⟩ := hr
    obtain ⟨row', hr'⟩ := get_of_lt (of_decide_eq_true hk)
    have := h.rows r row' hr'
    rw [h1] at this
    cases this
    exact ⟨row, g, hr', h2, h3, h4, h5⟩
  | .rptr r i, v, hk, hr => by
    obtain ⟨row, g, n, h1, h3, h4, h5⟩ := hr
    obtain ⟨row', hr'⟩ := get_of_lt (of_decide_eq_true hk)
    have := h.rows r row' hr'
    rw [h1] at this
    cases this
    exact ⟨row, g, n, hr', h3, h4, h5⟩
  | .lit sz es, v, _, hr => ⟨RepM.mono hr.1 (Nat.le_refl _) (fun _ _ _ k => h.ok k) (fun _ _ _ _ => rfl), hr.2⟩
  | .bsl k n, v, hk, hr => by
    obtain ⟨-, hv⟩ := hr
    refine ⟨?_, hv⟩
    simp only [PV.okIn] at hk
    split at hk
    · rename_i x hx
      exact ⟨x, hx⟩
    · cases hk
  | .gsl k n, v, hk, hr => by
    obtain ⟨-, hv⟩ := hr
    refine ⟨?_, hv⟩
    simp only [PV.okIn] at hk
    split at hk
    · rename_i x hx
      exact ⟨x, hx⟩
    · cases hk
theorem StSub.rvL {av : Nat → Nat → Prop} {st st' : Sto} (h : StSub st st') {m : Lay} {w : World} : ∀ (ps : List PV) (vs : List Value), okInL st' ps = true → RVL (okA av st m) st m w ps vs → RVL (okA av st' m) st' m w ps vs
  | [], [], _, hr => hr
  | p :: ps, v :: vs, hk, hr => by
    simp only [okInL, Bool.and_eq_true] at hk
    exact ⟨StSub.rv h p v hk.1 hr.1, StSub.rvL h ps vs hk.2 hr.2⟩
  | [], _ :: _, _, hr => hr.elim
  | _ :: _, [], _, hr => hr.elim
end
theorem StLe.rv {av : Nat → Nat → Prop} {st st' : Sto} (h : StLe st st') {m : Lay} {w : World} (p : PV) (v : Value) : PV.okIn st' p = true → RV (okA av st m) st m w p v → RV (okA av st' m) st' m w p v := h.sub.rv p v
theorem StLe.rvL {av : Nat → Nat → Prop} {st st' : Sto} (h : StLe st st') {m : Lay} {w : World} (ps : List PV) (vs : List Value) : okInL st' ps = true → RVL (okA av st m) st m w ps vs → RVL (okA av st' m) st' m w ps vs := h.sub.rvL ps vs
theorem StLe.sto {av : Nat → Nat → Prop} {st st' : Sto} (h : StLe st st') {m : Lay} {w : World} (k : StoOk av st m w) : StoOk av st' m w where
  box := fun i x hi => by
    obtain ⟨y, hy, ht, hl, hk⟩ := h.boxes i x hi
    obtain ⟨vs, h1, h2⟩ := k.box i y hy
    exact ⟨vs, by rw [← ht]; exact h1, StLe.rvL h _ _ hk (LeL.rv hl h2)⟩
  binj := fun i i' x x' hi hi' => by
    obtain ⟨y, hy, -⟩ := h.boxes i x hi
    obtain ⟨y', hy', -⟩ := h.boxes i' x' hi'
    exact k.binj i i' y y' hy hy'
  row := fun r row hr => by
    obtain ⟨h1, h2, h3⟩ := k.row r row (h.rows r row hr)
    refine ⟨h1, h2, ?_⟩
    rcases h3 with h3 | ⟨g, c, cur, q1, q2, q3, q4, q5, q6⟩
    · exact .inl h3
    · exact .inr ⟨g, c, cur, q1, q2, q3, q4, q5, RepM.mono q6 (Nat.le_refl _) (fun _ _ _ k => h.ok k) (fun _ _ _ _ => rfl)⟩
  rinj := fun r r' row row' g c c' hr hr' => k.rinj r r' row row' g c c' (h.rows r row hr) (h.rows r' row' hr')
  br := fun i x r row g c hi hr => by
    obtain ⟨y, hy, -⟩ := h.boxes i x hi
    exact k.br i y r row g c hy (h.rows r row hr)
  avlt := k.avlt
  avr := fun r row g c hr => k.avr r row g c (h.rows r row hr)
  avb := fun i x hi => by
    obtain ⟨y, hy, -⟩ := h.boxes i x hi
    exact k.avb i y hy

/-- The boxes and rows that were handed in are still there. -/
def Keeps0 (pre st' : Sto) : Prop := (∀ (k : Nat) (x : PBox), pre.boxes[k]? = some (some x) → ∃ x' : PBox, st'.boxes[k]? = some (some x')) ∧ (∀ (r : Nat) (row : PRow), pre.rows[r]? = some row → ∃ row' : PRow, st'.rows[r]? = some row')
theorem StLe.ev {pre st st' : Sto} (h : StLe st st') {m0 m : Lay} {w0 w : World} (k : Ev pre m0 w0 st m w) (hp : Keeps0 pre st') : Ev pre m0 w0 st' m w where
  os := k.os
  tape := k.tape
  output := k.output
  size := k.size
  blk := k.blk
  cell := k.cell
  okk := fun b o hb ho => (h.ok (av := fun _ _ => False) ⟨id, k.okk b o hb ho⟩).2
  live := fun i x hi => ⟨hp.1 i x hi, (k.live i x hi).2⟩
  fresh := fun i x' hi => by
    obtain ⟨y, hy, -⟩ := h.boxes i x' hi
    exact k.fresh i y hy
  rowl := fun r row hr => by
    obtain ⟨row', hr'⟩ := hp.2 r row hr
    obtain ⟨row2, h1, h2⟩ := k.rowl r row hr
    have := h.rows r row' hr'
    rw [h1] at this
    cases this
    exact ⟨_, hr', h2⟩
  rfresh := fun r row' g c hr hg => k.rfresh r row' g c (h.rows r row' hr) hg

/-- Each entry that is kept says no more than before. -/
def EnvLe (s : AS) (st' : Sto) : List (Nat × PV) → Prop
  | [] => True
  | (i, q) :: l => (∃ p, s.lk i = some p ∧ PV.Le p q ∧ PV.okIn st' q = true) ∧ EnvLe s st' l
theorem EnvLe.get {s : AS} {st' : Sto} : ∀ {l : List (Nat × PV)} {i : Nat} {q : PV}, EnvLe s st' l → l.lookup i = some q → ∃ p, s.lk i = some p ∧ PV.Le p q ∧ PV.okIn st' q = true
  | [], _, _, _, h => by simp at h
  | (k, p) :: l, i, q, hl, h => by
    rw [List.lookup_cons] at h
    by_cases hik : i = k
    · subst hik
      simp at h
      subst h
      exact hl.1
    · rw [show (i == k) = false by simp [hik]] at h
      exact EnvLe.get hl.2 h
theorem Wk.mk {C : Ctx} {n : Nat} {s s' : AS} (hst : StLe s.st s'.st) (hp : Keeps0 C.st s'.st) (he : EnvLe s s'.st s'.env) : Wk C n s s' := fun m a w h =>
  ⟨m, h.dfr, h.tsz, hst.sto h.sto, fun i q hq => by
    obtain ⟨p, h1, h2, h3⟩ := he.get hq
    obtain ⟨v, hv, hr⟩ := h.env i p h1
    exact ⟨v, hv, hst.rv q v h3 (h2.rv hr)⟩, hst.ev h.ev hp⟩

/-- Box by box. -/
def BoxLe (st' : Sto) : List (Option PBox) → List (Option PBox) → Prop
  | _, [] => True
  | _ :: xs, none :: ys => BoxLe st' xs ys
  | some x :: xs, some y :: ys => (x.ty = y.ty ∧ LeL x.cells y.cells ∧ okInL st' y.cells = true) ∧ BoxLe st' xs ys
  | _, _ => False
theorem BoxLe.get {st' : Sto} : ∀ {xs ys : List (Option PBox)}, BoxLe st' xs ys → ∀ (k : Nat) (y : PBox), ys[k]? = some (some y) → ∃ x : PBox, xs[k]? = some (some x) ∧ x.ty = y.ty ∧ LeL x.cells y.cells ∧ okInL st' y.cells = true
  | _, [], _, k, y, h => by simp at h
  | [], none :: ys, hl, k, y, h => hl.elim
  | x :: xs, none :: ys, hl, 0, y, h => by simp at h
  | none :: xs, none :: ys, hl, k + 1, y, h => by simpa using BoxLe.get (xs := xs) hl k y (by simpa using h)
  | some _ :: xs, none :: ys, hl, k + 1, y, h => by simpa using BoxLe.get (xs := xs) hl k y (by simpa using h)
  | some x :: xs, some z :: ys, hl, 0, y, h => by
    simp at h
    subst h
    exact ⟨x, rfl, hl.1⟩
  | some x :: xs, some z :: ys, hl, k + 1, y, h => by simpa using BoxLe.get (xs := xs) hl.2 k y (by simpa using h)
  | [], some _ :: _, hl, _, _, _ => hl.elim
  | none :: _, some _ :: _, hl, _, _, _ => hl.elim
theorem StLe.mk' {st st' : Sto} (hb : BoxLe st' st.boxes st'.boxes) (hr : st.rows.take st'.rows.length = st'.rows) : StLe st st' :=
  ⟨hb.get, fun r row' h => by
    rw [← hr, List.getElem?_take] at h
    split at h
    · exact h
    · cases h⟩
theorem Keeps0.nil {st' : Sto} : Keeps0 ⟨[], []⟩ st' := ⟨fun _ _ h => by simp at h, fun _ _ h => by simp at h⟩

/-! ### Ends -/
def ResOk (P : Program) (s : AS) : ResultVar → PV → Prop
  | .tmp i, p => s.lk i = some p
  | .cell a T, p => ∃ k bx z, s.lk a = some (.ptr k 0) ∧ s.st.boxes[k]? = some (some bx) ∧ shapeOf P T = some (true, z) ∧ bx.cells.length = z ∧ p = .agg bx.cells
def ResL (P : Program) (s : AS) : List ResultVar → List PV → Prop
  | [], [] => True
  | r :: rs, p :: ps => ResOk P s r p ∧ ResL P s rs ps
  | _, _ => False
section
variable {P : Program} {C : Ctx} {n : Nat} {s : AS}
def resOne (tmps : Array Value) : ResultVar → Sem Value
  | .tmp t => pure (tmps.getD t undef)
  | .cell a t => do loadVar t (← asAddr (tmps.getD a undef))
theorem ResOk.run {m : Lay} {a : Act} {w : World} (h : RA C n s m a w) {r : ResultVar} {p : PV} (hr : ResOk P s r p) : ∃ v, (resOne a.tmps r).run P w = .ok v w ∧ RV (okA C.av s.st m) s.st m w p v := by
  cases r with
  | tmp i =>
    obtain ⟨v, hv, hr⟩ := h.env i p hr
    exact ⟨v, by simp [resOne, Array.getD_eq_getD_getElem?, hv], hr⟩
  | cell i T =>
    obtain ⟨k, bx, z, h1, h2, h3, h4, rfl⟩ := hr
    obtain ⟨v, hv, -, rfl⟩ := h.env i _ h1
    obtain ⟨vs, h5, h6⟩ := h.sto.box k bx h2
    refine ⟨.agg ⟨vs⟩, ?_, vs, rfl, h6⟩
    have hld := run_loadVar_agg (P := P) (T := T) (b := m.ρ k) (off := 0) (cs := vs) (w := w) (by rw [← h6.length, h4]; exact h3) (fun j v hj => by rw [Nat.zero_add]; exact h5.cell (by simpa using hj))
    simp [resOne, Array.getD_eq_getD_getElem?, hv, asAddr, hld]
theorem mapM_list {α : Type} (f : α → Sem Value) (w : World) : ∀ (l : List α) (vs : List Value), (∀ (i : Nat) x v, l[i]? = some x → vs[i]? = some v → (f x).run P w = .ok v w) → l.length = vs.length → (l.mapM f).run P w = .ok vs w
  | [], [], _, _ => by simp
  | x :: l, v :: vs, h, hl => by
    rw [List.mapM_cons, Sem.run_bind, h 0 x v rfl rfl, Result.andThen_ok, Sem.run_bind, mapM_list f w l vs (fun i y u hy hu => h (i + 1) y u (by simpa using hy) (by simpa using hu)) (by simpa using hl), Result.andThen_ok]
    simp
  | [], _ :: _, _, h => by simp at h
  | _ :: _, [], _, h => by simp at h
theorem ResL.run {m : Lay} {a : Act} {w : World} (h : RA C n s m a w) : ∀ {rs : List ResultVar} {ps : List PV}, ResL P s rs ps → ∃ vs, RVL (okA C.av s.st m) s.st m w ps vs ∧ vs.length = rs.length ∧ ∀ (i : Nat) r v, rs[i]? = some r → vs[i]? = some v → (resOne a.tmps r).run P w = .ok v w
  | [], [], _ => ⟨[], trivial, rfl, by simp⟩
  | r :: rs, p :: ps, hr => by
    obtain ⟨v, h1, h2⟩ := hr.1.run h
    obtain ⟨vs, k1, k2, k3⟩ := ResL.run h hr.2
    refine ⟨v :: vs, ⟨h2, k1⟩, by simp [k2], fun i x u hx hu => ?_⟩
    cases i with
    | zero => simp at hx hu; subst hx hu; exact h1
    | succ i => exact k3 i x u (by simpa using hx) (by simpa using hu)
  | [], _ :: _, h => h.elim
  | _ :: _, [], h => h.elim
theorem results_run {fn : Func} {tmps : Array Value} {vs : List Value} {w : World} (hl : vs.length = fn.results.toList.length) (h : ∀ (i : Nat) r v, fn.results.toList[i]? = some r → vs[i]? = some v → (resOne tmps r).run P w = .ok v w) :
    (results fn tmps).run P w = .ok (if h : vs.length = 1 then vs[0] else .tuple ⟨vs⟩) w := by
  have hm := mapM_list (P := P) (resOne tmps) w fn.results.toList vs h hl.symm
  have e : (fn.results.mapM (resOne tmps)).run P w = .ok ⟨vs⟩ w := by
    rw [← Array.toArray_toList (xs := fn.results), List.mapM_toArray]
    simp [hm]
  have e2 : results fn tmps = (do let vs ← fn.results.mapM (resOne tmps); pure (if h : vs.size = 1 then vs[0] else .tuple vs)) := by
    unfold results
    congr
  rw [e2, Sem.run_bind, e, Result.andThen_ok]
  simp

theorem Ends.mk {fn : Func} {R : PV → Sto → Prop} {e : Exit} {ps : List PV} {res q : PV} {st' : Sto} (he : e = .normal ∨ e = .ret) (hr : ResL P s fn.results.toList ps) (hres : (match ps with | [p] => p | ps => .tup ps) = res)
    (hst : StLe s.st st') (hp : Keeps0 C.st st') (hle : PV.Le res q) (hk : PV.okIn st' q = true) (hR : R q st') : Ends P C n fn R e s := by
  refine ⟨he, fun m a w h => ?_⟩
  obtain ⟨vs, h1, h2, h3⟩ := hr.run h
  refine ⟨q, st', m, _, results_run h2 h3, hR, hst.sto h.sto, hst.ev h.ev hp, hst.rv q _ hk (hle.rv ?_)⟩
  subst hres
  match ps, vs, h1 with
  | [p], [v], h1 => exact h1.1
  | [], [], h1 => exact ⟨[], rfl, trivial⟩
  | p :: p' :: ps, v :: v' :: vs, h1 => exact ⟨_, by simp, h1⟩
end

/-! ### Calls without boxes and rows of ours -/
theorem ACalls.mono {P : Program} {f : FuncId} {args : List PV} {pre : Sto} {R R' : PV → Sto → Prop} (h : ACalls P f args pre R) (hr : ∀ r st, R r st → R' r st) : ACalls P f args pre R' := fun av m w vals h1 h2 =>
  (h av m w vals h1 h2).mono fun e w' => by
    rintro ⟨res, st', m', v, k1, k2, k3⟩
    exact ⟨res, st', m', v, k1, hr _ _ k2, k3⟩

/-- The function computes: it is handed data, and returns 'res'. -/
def AFun (P : Program) (f : FuncId) (args : List PV) (res : PV) : Prop := ACalls P f args ⟨[], []⟩ (fun r st' => r = res ∧ st' = ⟨[], []⟩)

mutual
def PV.free : PV → Bool
  | .t _ => true
  | .agg cs => freeL cs
  | .tup cs => freeL cs
  | .nil => true
  | .eptr _ => true
  | .fn _ cs => freeL cs
  | _ => false
def freeL : List PV → Bool
  | [] => true
  | p :: ps => PV.free p && freeL ps
end
mutual
theorem PV.free.rv {ok ok' : Nat → Nat → Prop} {st st' : Sto} {m m' : Lay} {w : World} (hk : ∀ b o, b < w.heap.size → ok b o → ok' b o) : ∀ (p : PV) (v : Value), PV.free p = true → RV ok st m w p v → RV ok' st' m' w p v
  | .t t, v, _, hr => RepM.mono hr (Nat.le_refl _) hk (fun _ _ _ _ => rfl)
  | .agg cs, v, hf, hr => by
    obtain ⟨vs, rfl, hl⟩ := hr
    exact ⟨vs, rfl, freeL.rv hk cs vs hf hl⟩
  | .tup cs, v, hf, hr => by
    obtain ⟨vs, rfl, hl⟩ := hr
    exact ⟨vs, rfl, freeL.rv hk cs vs hf hl⟩
  | .nil, v, _, hr => hr
  | .eptr cs, v, _, hr => by
    obtain ⟨b, off, h1, hb, c, h2⟩ := hr
    refine ⟨b, off, h1, hb, c, fun j d hd => ?_⟩
    obtain ⟨k1, k2, k3⟩ := h2 j d hd
    exact ⟨hk _ _ hb k1, k2, RepM.mono k3 (Nat.le_refl _) hk (fun _ _ _ _ => rfl)⟩
  | .fn f cs, v, hf, hr => by
    obtain ⟨vs, rfl, hl⟩ := hr
    exact ⟨vs, rfl, freeL.rv hk cs vs hf hl⟩
  | .acc _ _ _, _, hf, _ => by cases hf
  | .ptr _ _, _, hf, _ => by cases hf
  | .full _ _ _, _, hf, _ => by cases hf
  | .rptr _ _, _, hf, _ => by cases hf
  | .lit _ _, _, hf, _ => by cases hf
  | .bsl _ _, _, hf, _ => by cases hf
  | .gsl _ _, _, hf, _ => by cases hf
theorem freeL.rv {ok ok' : Nat → Nat → Prop} {st st' : Sto} {m m' : Lay} {w : World} (hk : ∀ b o, b < w.heap.size → ok b o → ok' b o) : ∀ (ps : List PV) (vs : List Value), freeL ps = true → RVL ok st m w ps vs → RVL ok' st' m' w ps vs
  | [], [], _, hr => hr
  | p :: ps, v :: vs, hf, hr => by
    simp only [freeL, Bool.and_eq_true] at hf
    exact ⟨PV.free.rv hk p v hf.1 hr.1, freeL.rv hk ps vs hf.2 hr.2⟩
  | [], _ :: _, _, hr => hr.elim
  | _ :: _, [], _, hr => hr.elim
end
theorem StoOk.nil {av : Nat → Nat → Prop} {m : Lay} {w : World} (h : ∀ b o, av b o → b < w.heap.size) : StoOk av ⟨[], []⟩ m w :=
  ⟨fun _ _ h => by simp at h, fun _ _ _ _ h => by simp at h, fun _ _ h => by simp at h, fun _ _ _ _ _ _ _ h => by simp at h, fun _ _ _ _ _ _ h => by simp at h, h, fun _ _ _ _ h => by simp at h, fun _ _ h => by simp at h⟩
theorem okA_new {av : Nat → Nat → Prop} {st : Sto} {m : Lay} {w : World} (h : StoOk av st m w) {b : Nat} (hb : w.heap.size ≤ b) (o : Nat) : okA av st m b o :=
  ⟨fun ha => by have := h.avlt _ _ ha; omega, fun k x hk e => by have := h.box_lt hk; omega, fun r row g c hr hg e => by have := h.row_lt hr hg; omega⟩

section
variable {P : Program} {C : Ctx} {n : Nat} {s : AS} {o : Oper}
theorem evL {m : Lay} {a : Act} {w : World} (h : RA C n s m a w) : ∀ {xs : List Operand} {ps : List PV}, xs.map s.ev = ps.map some → RVL (okA C.av s.st m) s.st m w ps (xs.map a.eval)
  | [], [], _ => trivial
  | x :: xs, p :: ps, hx => by
    simp only [List.map_cons, List.cons.injEq] at hx
    exact ⟨h.eval hx.1, evL h hx.2⟩
  | [], _ :: _, hx => by simp at hx
  | _ :: _, [], hx => by simp at hx

/-- The callee's view of a memory in which everything of ours is shut. -/
def shut (C : Ctx) (s : AS) (m : Lay) (w : World) (b o : Nat) : Prop := b < w.heap.size ∧ ¬ okA C.av s.st m b o
theorem AOp.enter {f : FuncId} {fn : Func} {ps qs : List PV} {res : PV} (hd : dstOk o.dst n = true) (_hf : P.funcs[f]? = some fn) (_hnm : (fn.name == "runtime.NumGoroutine") = false) (_hb : fn.body.isNone = false)
    (hrun : ∀ m a w, RA C n s m a w → ∃ vals, (execOp a.eval o).run P w = .ok (.enter f ⟨vals⟩) w ∧ RVL (okA C.av s.st m) s.st m w ps vals) (hle : LeL ps qs) (hfr : freeL qs = true) (hfr' : PV.free res = true) (hc : AFun P f qs res) :
    AOp P C n o s (s.putO o.dst res) := fun m a w h K Q hK => by
  obtain ⟨vals, h1, h2⟩ := hrun m a w h
  unfold Oper.wp
  rw [h1]
  have h3 := hc (shut C s m w) m w vals (StoOk.nil fun b o hb => hb.1) (freeL.rv (fun b o hb hk => ⟨fun hs => hs.2 hk, fun _ _ h => by simp at h, fun _ _ _ _ h => by simp at h⟩) _ _ hfr (LeL.rv hle h2))
  refine Calls.mono h3 fun e w' => ?_; rintro ⟨r, st', m', v, rfl, ⟨rfl, rfl⟩, h4, h5, h6⟩
  have hx : Ext w w' := ⟨h5.os, h5.tape, h5.output, h5.size, fun b hb => h5.blk b hb (fun _ _ h => by simp at h) (fun _ _ _ _ h => by simp at h)⟩
  have hk : ∀ b o, b < w'.heap.size → okA (shut C s m w) ⟨[], []⟩ m' b o → okA C.av s.st m b o := fun b o hb hk => by
    rcases Nat.lt_or_ge b w.heap.size with hlt | hge
    · exact Classical.byContradiction fun hn => hk.1 ⟨hlt, hn⟩
    · exact okA_new h.sto hge o
  exact hK m _ w' ((h.step (Ev.later hx) (h.sto.later hx)).put (dstOk_lt hd) (PV.free.rv hk _ _ hfr' h6))
theorem AOp.callF {f : FuncId} {fn : Func} {xs : List Operand} {ts : Array TypeId} {ps qs : List PV} {res : PV} (ho : o.op = .call { callee := .value (.func f), args := ⟨xs⟩, argTypes := ts }) (hd : dstOk o.dst n = true) (hf : P.funcs[f]? = some fn) (hnm : (fn.name == "runtime.NumGoroutine") = false) (hb : fn.body.isNone = false)
    (hx : xs.map s.ev = ps.map some) (hle : LeL ps qs) (hfr : freeL qs = true) (hfr' : PV.free res = true) (hc : AFun P f qs res) : AOp P C n o s (s.putO o.dst res) :=
  AOp.enter hd hf hnm hb (fun m a w h => ⟨xs.map a.eval, by
    have hcf := run_callFunc_body (P := P) hf hnm hb
    unfold execOp
    simp only [ho]
    simp [resolve, invoke, Deferred.ofValue, Act.eval, hcf], evL h hx⟩) hle hfr hfr' hc
/-- A call of a function value, its captured values behind the arguments. -/
theorem AOp.callV {y : Operand} {f : FuncId} {fn : Func} {xs : List Operand} {ts : Array TypeId} {ps cs qs : List PV} {res : PV} (ho : o.op = .call { callee := .value y, args := ⟨xs⟩, argTypes := ts }) (hd : dstOk o.dst n = true) (hy : s.ev y = some (.fn f cs)) (hf : P.funcs[f]? = some fn) (hnm : (fn.name == "runtime.NumGoroutine") = false) (hb : fn.body.isNone = false)
    (hx : xs.map s.ev = ps.map some) (hle : LeL (ps ++ cs) qs) (hfr : freeL qs = true) (hfr' : PV.free res = true) (hc : AFun P f qs res) : AOp P C n o s (s.putO o.dst res) :=
  AOp.enter hd hf hnm hb (ps := ps ++ cs) (fun m a w h => by
    obtain ⟨vs, h1, h2⟩ := h.eval hy
    refine ⟨xs.map a.eval ++ vs, ?_, RVL.append (evL h hx) h2⟩
    have hcf := run_callFunc_body (P := P) hf hnm hb
    unfold execOp
    simp only [ho]
    simp [resolve, invoke, Deferred.ofValue, h1, hcf]) hle hfr hfr' hc
end
/-- Views compared: found by the one tactic that finds them. -/
theorem leA {p : Prop} (h : p := by (repeat' (first | exact PV.Le.refl _ | exact LeL.nil | exact PV.Le.nil _ | exact PV.Le.acc _ _ _ | exact PV.Le.lit _ _ | exact PV.Le.nilLit _ | apply LeL.cons | apply PV.Le.agg | apply PV.Le.tup))) : p := h

end Go.Proofs.Ytmpepccpnnldoaa

namespace Go.Proofs.Ytmpepccpnnldoaa
set_option linter.unusedSimpArgs false
set_option linter.unusedVariables false
open Go.RowKit Go.WalkArith Go.IntWalk Go.WideShapes

section
variable {P : Program} {C : Ctx} {n : Nat} {s : AS} {Q : Exit → AS → Prop} {o : Oper}

theorem AWP.loopJ {c : Code} {ι : Type} (J : ι → Prop) (I : ι → AS) (μ : ι → Nat) (i0 : ι) (hj : J i0) (h0 : Wk C n s (I i0)) (round : ∀ i, J i → AWP P C n c (thenA (fun s' => ∃ j, J j ∧ Wk C n s' (I j) ∧ μ j < μ i) Q) (I i)) : AWP P C n (.loop c) Q s :=
  AWP.loop (ι := { i // J i }) (fun i => I i.1) (fun i => μ i.1) ⟨i0, hj⟩ h0 fun i => AWP.mono (round i.1 i.2) fun e s' h => by
    cases e with
    | normal =>
      obtain ⟨j, h1, h2, h3⟩ := h
      exact ⟨⟨j, h1⟩, h2, h3⟩
    | _ => exact h

theorem AWP.fact {c : Code} {F : Prop} (h : ∀ m a w, RA C n s m a w → F) (k : F → AWP P C n c Q s) : AWP P C n c Q s := fun m a w hr => k (h m a w hr) m a w hr
theorem lk_len (i : Nat) {p : PV} {sz : Nat} {es : List (List Tr)} (hx : s.lk i = some p) (hp : rowOf p = some (sz, es)) : ∀ m a w, RA C n s m a w → es.length ≤ 9223372036854775807 := fun m a w h => by
  obtain ⟨v, -, hr⟩ := h.env i p hx
  obtain ⟨ad, cap, -, h2, h3⟩ := (rowOf_rv hp hr).shape
  unfold maxLen at h3
  omega
theorem box_len (k j : Nat) {bx : PBox} {p : PV} {sz : Nat} {es : List (List Tr)} (hb : s.st.boxes[k]? = some (some bx)) (hx : bx.cells[j]? = some p) (hp : rowOf p = some (sz, es)) : ∀ m a w, RA C n s m a w → es.length ≤ 9223372036854775807 := fun m a w h => by
  obtain ⟨vs, -, h1⟩ := h.sto.box k bx hb
  obtain ⟨v, -, hr⟩ := h1.get hx
  obtain ⟨ad, cap, -, h2, h3⟩ := (rowOf_rv hp hr).shape
  unfold maxLen at h3
  omega
theorem Grow.acc {av : Nat → Nat → Prop} {st : Sto} {m : Lay} {w : World} {r : Nat} {row : PRow} {es2 : List (List Tr)} {g c : Nat} {cur : Array Value} {w1 : World} (h : Grow av st m w r row es2 g c cur w1) (hst : StoOk av st m w) :
    RV (okA av (st.setRow r { row with es := row.es ++ es2 }) ⟨m.ρ, upd m.γ r (some (g, c))⟩) (st.setRow r { row with es := row.es ++ es2 }) ⟨m.ρ, upd m.γ r (some (g, c))⟩ w1 (.acc row.sz (row.es ++ es2) r) (.slice (some ⟨g, 0, none⟩) (row.es.length + es2.length) c) := by
  have hl : (st.setRow r { row with es := row.es ++ es2 }).rows[r]? = some { row with es := row.es ++ es2 } := by
    show (st.rows.set r _)[r]? = _
    simp [List.getElem?_set, get_lt h.live]
  obtain ⟨-, -, h3⟩ := (h.sto hst).row r _ hl
  refine ⟨_, hl, rfl, Nat.le_refl _, ?_, fun _ => by simp [upd_same, rowVal]⟩
  rcases h3 with ⟨h4, -⟩ | ⟨g', c', cur', h4, -, -, -, -, h5⟩
  · simp [upd_same] at h4
  · simp only [upd_same, Option.some.injEq, Prod.mk.injEq] at h4
    obtain ⟨rfl, rfl⟩ := h4
    simpa using h5

/-- What 'append' does at one state. -/
theorem append_at {T E sz by_ : Nat} {x y : Operand} {es es2 : List (List Tr)} {r : Nat} {row : PRow} {p : PV} {m : Lay} {a : Act} {w : World} (ho : o.op = .call { callee := .builtin .append, args := #[x, y], argTypes := #[T, T] })
    (h : RA C n s m a w) (hx' : RV (okA C.av s.st m) s.st m w (.acc sz es r) (a.eval x)) (hrow : s.st.rows[r]? = some row) (hes : row.es = es) (hE : row.E = E) (hw : row.whole = false) (hy : s.ev y = some p) (hp : rowOf p = some (sz, es2)) (h2 : ∀ e ∈ es2, e.length = sz)
    (hT : elemOf? P T = some (E, sz, by_)) (hz : (P.info? E).bind (fun i => i.zero.map (fun z => z.cells.size)) = some sz) (hb : 0 < by_) (hlen : (es.length + es2.length) * by_ ≤ 140737488355328) :
    ∃ v m1 w1, (execOp a.eval o).run P w = .ok (.value v) w1 ∧ Ev s.st m w (s.st.setRow r { row with es := es ++ es2 }) m1 w1 ∧ StoOk C.av (s.st.setRow r { row with es := es ++ es2 }) m1 w1 ∧ RV (okA C.av (s.st.setRow r { row with es := es ++ es2 }) m1) (s.st.setRow r { row with es := es ++ es2 }) m1 w1 (.acc sz (es ++ es2) r) v := by
    subst hes hE
    obtain ⟨i, hu, hi, hs, hby⟩ := elemOf?.spec hT
    obtain ⟨row', k1, k2, k3, k4, k5⟩ := hx'
    rw [hrow] at k1
    cases k1
    subst k2
    have k2 : row.sz = row.sz := rfl
    have k5 := k5 rfl
    have h3 := rowOf_rv hp (h.eval hy)
    obtain ⟨hpos, hlens, hplace⟩ := h.sto.row r row hrow
    rw [k2] at hpos
    by_cases hne : es2 = []
    · -- nothing is appended
      subst hne
      have hst : s.st.setRow r { row with es := row.es ++ [] } = s.st := by
        have e1 : ({ row with es := row.es ++ [] } : PRow) = row := by simp
        rw [e1]
        unfold Sto.setRow
        have e2 : s.st.rows.set r row = s.st.rows := by
          apply List.ext_getElem?
          intro j
          rw [List.getElem?_set]
          split
          · rename_i e; subst e; rw [if_pos (get_lt hrow), hrow]
          · rfl
        rw [e2]
      obtain ⟨ad, cap, hv, hlc, hcm⟩ := k4.shape
      obtain ⟨ad2, cap2, hv2, -, -⟩ := h3.shape
      refine ⟨a.eval x, m, w, ?_, by rw [hst]; exact Ev.refl _ _ _, by rw [hst]; exact h.sto, ?_⟩
      · unfold execOp
        simp only [ho, resolve, invoke, builtin, Sem.run_bind, Sem.run_pure, Result.andThen_ok, List.map_toArray, List.map_cons, List.map_nil, hv, hv2]
        have hfc : ∀ W, (Builtin.firstCells i.size 0 (.slice ad2 0 cap2)).run P W = .ok #[] W := fun W => by
          cases ad2 with
          | none => simp [Builtin.firstCells]
          | some q => simp [Builtin.firstCells, loadCells, loadCellsFrom]
        cases ad with
        | none => simp [Builtin.append_, run_underlying hu, Go.sizeOf, typeInfo, hi, Builtin.lenOf, hlc, hfc]
        | some q => simp [Builtin.append_, run_underlying hu, Go.sizeOf, typeInfo, hi, Builtin.lenOf, hlc, hfc, storeCells]
      · rw [hst, List.append_nil]
        exact ⟨row, hrow, k2, Nat.le_refl _, k4, fun _ => k5⟩
    · obtain ⟨b, off, c2, news, hv2, hnl, hnews, hone, hnd⟩ := h3.news h2 hne hpos
      have hpos2 : 0 < es2.length := List.length_pos_iff.2 hne
      have hlen : (row.es.length + es2.length) * i.bytes ≤ 140737488355328 := by rw [hby]; exact hlen
      have h63 : row.es.length + es2.length ≤ 140737488355328 := Nat.le_trans (Nat.le_mul_of_pos_right _ (by omega)) hlen
      cases hzz : i.zero with
      | none => simp [hi, hzz] at hz
      | some z =>
        have hzs : z.cells.size = row.sz := by simpa [hi, hzz] using hz
        have hrun : ∀ v w1, (Builtin.append_ #[T, T] o.type #[a.eval x, a.eval y]).run P w = .ok v w1 → (execOp a.eval o).run P w = .ok (.value v) w1 := fun v w1 hr => by
          unfold execOp
          simp only [ho, resolve, invoke, builtin, Sem.run_bind, Sem.run_pure, Result.andThen_ok, List.map_toArray, List.map_cons, List.map_nil, hr]
        have hnew : ∀ (cur : Array Value) (pre post : List Value), cur.toList = pre ++ (news ++ post) → pre.length = row.es.length * row.sz → ∀ q e, es2[q]? = some e → ∀ j d, e[j]? = some d → ∃ v, cur[(row.es.length + q) * row.sz + j]? = some v ∧ RepM (okA C.av s.st m) w d v := fun cur pre post hcur hpl q e hq j d hd => by
          obtain ⟨v, hv, hr⟩ := hnd q e hq j d hd
          refine ⟨v, ?_, hr⟩
          rw [← Array.getElem?_toList, hcur, Nat.add_mul, Nat.add_assoc, ← hpl, List.getElem?_append_right (by omega), Nat.add_sub_cancel_left, k2, List.getElem?_append_left (get_lt hv), hv]
        rcases hplace with ⟨hg0, he0⟩ | ⟨g, c, cur, hg, hob, hcs, hfit, hmax, hrep⟩
        · -- nil
          have hx0 : a.eval x = .slice none 0 0 := by rw [k5, hg0]; rfl
          have hl0 : row.es.length = 0 := by rw [he0]; rfl
          have happ := run_append_nil (P := P) w T o.type row.E i z hu hi hzz ⟨b, off, none⟩ es2.length c2 news (by rw [hnl, hs]) hnews (by omega) (by omega) (by rw [hl0, Nat.zero_add] at hlen; omega)
          rw [← hv2, ← hx0] at happ
          have hG : Grow C.av s.st m w r row es2 w.heap.size (grownCap w es2.length 0 row.E) (news.toArray ++ Builtin.zeroCells z.cells (grownCap w es2.length 0 row.E - es2.length)) (w.drew.alloc (.cells (news.toArray ++ Builtin.zeroCells z.cells (grownCap w es2.length 0 row.E - es2.length)) row.E)) := by
            have hge := grownCap_ge w es2.length 0 row.E
            refine ⟨hrow, rfl, rfl, rfl, by simp, fun b hb _ => Below.heap_alloc w.drew _ b hb, heap_alloc_new w.drew _, ?_, by omega, grownCap_le_maxLen w _ _ _ (by unfold maxLen; omega), fun e he => by rw [k2]; exact h2 e he, fun q e hq => by rw [he0] at hq; simp at hq, hnew _ [] (Builtin.zeroCells z.cells (grownCap w es2.length 0 row.E - es2.length)).toList (by simp) (by rw [hl0]; simp), .inr (Nat.le_refl _), fun hc => ?_⟩
            · rw [Array.size_append, size_zeroCells, hzs, k2]
              simp only [List.size_toArray, hnl]
              rw [← Nat.add_mul]
              congr 1
              omega
            · rcases hc with hc | hc
              · rw [hw] at hc; cases hc
              · exact absurd hc hne
          refine ⟨_, _, _, hrun _ _ happ, hG.ev h.sto, hG.sto h.sto, ?_⟩
          have := hG.acc h.sto
          rw [hl0, Nat.zero_add, k2] at this
          exact this
        · have hx0 : a.eval x = .slice (some ⟨g, 0, none⟩) row.es.length c := by rw [k5, hg]; rfl
          have hold : ∀ q e, row.es[q]? = some e → ∀ j d, e[j]? = some d → ∃ v, cur[q * row.sz + j]? = some v ∧ RepM (okA C.av s.st m) w d v := fun q e hq j d hd => by
            cases hrep with
            | row cf q1 q2 q3 q4 =>
              obtain ⟨b', off', hbo, hb', q5⟩ := q3 (by rintro e0; rw [e0] at hq; simp at hq)
              injection hbo with hbo
              injection hbo with e1 e2 e3
              subst e1 e2
              have := (q5 q e hq j d hd).2
              rw [hob.cell, Nat.zero_add] at this
              exact ⟨cf q j, this, q4 q e hq j d hd⟩
          have hfitc : row.es.length * row.sz ≤ cur.size := by rw [hcs]; exact Nat.mul_le_mul_right _ hfit
          by_cases hroom : row.es.length + es2.length ≤ c
          · have hcap : row.es.length * i.size + news.length ≤ cur.size := by rw [hnl, hcs, hs, k2, ← Nat.add_mul]; exact Nat.mul_le_mul_right _ hroom
            have happ := run_append_room (P := P) w T o.type row.E i hu hi g row.es.length c cur hob ⟨b, off, none⟩ es2.length c2 news (by rw [hnl, hs]) hnews hone hroom hcap
            rw [← hv2, ← hx0] at happ
            rw [hs, ← k2] at happ
            have hcl : (cur.toList.take (row.es.length * row.sz)).length = row.es.length * row.sz := by simp; omega
            have hG : Grow C.av s.st m w r row es2 g c (cur.toList.take (row.es.length * row.sz) ++ news ++ cur.toList.drop (row.es.length * row.sz + news.length)).toArray (w.setRow g (cur.toList.take (row.es.length * row.sz) ++ news ++ cur.toList.drop (row.es.length * row.sz + news.length)).toArray) := by
              refine ⟨hrow, rfl, rfl, rfl, by simp, fun b hb hne => setRow_other w g b _ hne, setRow_heap w g cur _ _ _ hob, ?_, hroom, hmax, fun e he => by rw [k2]; exact h2 e he, fun q e hq j d hd => ?_, hnew _ _ _ (by simp [List.append_assoc]; rfl) hcl, .inl ⟨c, cur, hg, hob, fun o ho => ?_⟩, fun _ => hg⟩
              · rw [hs, k2.symm] at hcap
                simp only [List.size_toArray, List.length_append, hcl, List.length_drop, Array.length_toList]
                omega
              · obtain ⟨v, hv, hr⟩ := hold q e hq j d hd
                refine ⟨v, ?_, hr⟩
                have hq1 := get_lt hq
                have hj1 : j < row.sz := by rw [← hlens e (List.mem_of_getElem? hq)]; exact get_lt hd
                have hlt : q * row.sz + j < row.es.length * row.sz := by
                  have : (q + 1) * row.sz ≤ row.es.length * row.sz := Nat.mul_le_mul_right _ hq1
                  rw [Nat.succ_mul] at this
                  omega
                rw [List.getElem?_toArray, List.append_assoc, List.getElem?_append_left (by rw [hcl]; exact hlt), List.getElem?_take, if_pos hlt, Array.getElem?_toList, hv]
              · rw [List.getElem?_toArray, List.append_assoc, List.getElem?_append_left (by rw [hcl]; exact ho), List.getElem?_take, if_pos ho, Array.getElem?_toList]
            have hgm : upd m.γ r (some (g, c)) = m.γ := by
              funext q
              by_cases hqr : q = r
              · subst hqr; rw [upd_same, hg]
              · rw [upd_ne hqr]
            refine ⟨_, _, _, hrun _ _ happ, hG.ev h.sto, hG.sto h.sto, ?_⟩
            have := hG.acc h.sto
            rw [k2] at this
            exact this
          · have happ := run_append_grow (P := P) w T o.type row.E i z hu hi hzz ⟨g, 0, none⟩ row.es.length c (cur.toList.take (row.es.length * row.sz)) (by rw [hs, ← k2]; simp; omega) (fun j v hj => by
              have hjl := get_lt hj
              rw [List.getElem?_take] at hj
              split at hj
              · rename_i hjl2
                have hadd : (⟨g, 0, none⟩ : Addr).add j = ⟨g, j, none⟩ := by unfold Addr.add; split <;> simp_all
                rw [hadd, hob.cell]
                simpa using hj
              · cases hj) ⟨b, off, none⟩ es2.length c2 news (by rw [hnl, hs]) hnews (by omega) (by omega) (growslice_fits (by omega) hlen)
            rw [← hv2, ← hx0] at happ
            have hcl : (cur.toList.take (row.es.length * row.sz)).length = row.es.length * row.sz := by simp; omega
            have hG : Grow C.av s.st m w r row es2 w.heap.size (grownCap w (row.es.length + es2.length) c row.E) ((cur.toList.take (row.es.length * row.sz)).toArray ++ news.toArray ++ Builtin.zeroCells z.cells (grownCap w (row.es.length + es2.length) c row.E - (row.es.length + es2.length))) (w.drew.alloc (.cells ((cur.toList.take (row.es.length * row.sz)).toArray ++ news.toArray ++ Builtin.zeroCells z.cells (grownCap w (row.es.length + es2.length) c row.E - (row.es.length + es2.length))) row.E)) := by
              have hge := grownCap_ge w (row.es.length + es2.length) c row.E
              refine ⟨hrow, rfl, rfl, rfl, by simp, fun b hb _ => Below.heap_alloc w.drew _ b hb, heap_alloc_new w.drew _, ?_, hge, grownCap_le_maxLen w _ _ _ (by unfold maxLen; omega), fun e he => by rw [k2]; exact h2 e he, fun q e hq j d hd => ?_, hnew _ _ _ (by simp [List.append_assoc]; rfl) hcl, .inr (Nat.le_refl _), fun hc => ?_⟩
              · rw [Array.size_append, Array.size_append, size_zeroCells, hzs]
                simp only [List.size_toArray, hcl, hnl, ← k2]
                rw [← Nat.add_mul, ← Nat.add_mul]
                congr 1
                omega
              · obtain ⟨v, hv, hr⟩ := hold q e hq j d hd
                refine ⟨v, ?_, hr⟩
                have hq1 := get_lt hq
                have hj1 : j < row.sz := by rw [← hlens e (List.mem_of_getElem? hq)]; exact get_lt hd
                have hlt : q * row.sz + j < row.es.length * row.sz := by
                  have : (q + 1) * row.sz ≤ row.es.length * row.sz := Nat.mul_le_mul_right _ hq1
                  rw [Nat.succ_mul] at this
                  omega
                rw [Array.append_assoc, Array.getElem?_append_left (by rw [List.size_toArray, hcl]; exact hlt), List.getElem?_toArray, List.getElem?_take, if_pos hlt, Array.getElem?_toList, hv]
              · rcases hc with hc | hc
                · rw [hw] at hc; cases hc
                · exact absurd hc hne
            refine ⟨_, _, _, hrun _ _ happ, hG.ev h.sto, hG.sto h.sto, ?_⟩
            have := hG.acc h.sto
            rw [k2] at this
            exact this
/-- What 'append' puts into a row that grows. -/
theorem AOp.append {T E sz by_ : Nat} {x y : Operand} {es es2 : List (List Tr)} {r : Nat} {row : PRow} {p : PV} (ho : o.op = .call { callee := .builtin .append, args := #[x, y], argTypes := #[T, T] }) (hd : dstOk o.dst n = true)
    (hx : s.ev x = some (.acc sz es r)) (hrow : s.st.rows[r]? = some row) (hes : row.es = es) (hE : row.E = E) (hw : row.whole = false) (hy : s.ev y = some p) (hp : rowOf p = some (sz, es2)) (h2 : ∀ e ∈ es2, e.length = sz)
    (hT : elemOf? P T = some (E, sz, by_)) (hz : (P.info? E).bind (fun i => i.zero.map (fun z => z.cells.size)) = some sz) (hb : 0 < by_) (hlen : (es.length + es2.length) * by_ ≤ 140737488355328) :
    AOp P C n o s ((⟨s.env, s.st.setRow r { row with es := es ++ es2 }⟩ : AS).putO o.dst (.acc sz (es ++ es2) r)) :=
  AOp.run hd (s1 := ⟨s.env, s.st.setRow r { row with es := es ++ es2 }⟩) (fun m a w h => append_at ho h (h.eval hx) hrow hes hE hw hy hp h2 hT hz hb hlen) rfl
end
end Go.Proofs.Ytmpepccpnnldoaa

namespace Go.Proofs.Ytmpepccpnnldoaa
set_option linter.unusedSimpArgs false
set_option linter.unusedVariables false
open Go.RowKit Go.WalkArith Go.IntWalk Go.WideShapes

theorem ev_newRow {av : Nat → Nat → Prop} {st : Sto} {m : Lay} {w : World} {row : PRow} {c : Nat} {cur : Array Value} (_hst : StoOk av st m w) : Ev st m w (st.addRow row) ⟨m.ρ, upd m.γ st.rows.length (some (w.heap.size, c))⟩ (w.alloc (.cells cur row.E)) := by
  have hx : Ext w (w.alloc (.cells cur row.E)) := .alloc (.refl _) _
  refine ⟨hx.os, hx.tape, hx.output, hx.size, fun b hb _ _ => hx.block b hb, fun b o hb _ => heap_other_cell (hx.block b hb), fun b o hb h => ⟨h.1, fun i row' g c' hi hg e => ?_⟩, fun _ x h => ⟨⟨x, h⟩, rfl⟩, fun _ x h => .inl ⟨x, h⟩, fun i row' hi => ⟨row', ?_, rfl, Nat.le_refl _, fun _ => ?_, fun hw => ⟨hw, ?_⟩⟩, fun i row' g c' hi hg => ?_⟩
  · rcases getElem?_snoc hi with ⟨h1, h2⟩ | ⟨rfl, rfl⟩
    · simp only [upd_ne (show i ≠ st.rows.length by omega)] at hg
      exact h.2 i row' g c' h2 hg e
    · simp only [upd_same, Option.some.injEq, Prod.mk.injEq] at hg
      omega
  · show (st.rows ++ [row])[i]? = _
    rw [List.getElem?_append_left (get_lt hi)]; exact hi
  · exact upd_ne (by have := get_lt hi; omega)
  · exact upd_ne (by have := get_lt hi; omega)
  · rcases getElem?_snoc hi with ⟨h1, h2⟩ | ⟨rfl, rfl⟩
    · simp only [upd_ne (show i ≠ st.rows.length by omega)] at hg
      exact .inl ⟨row', c', h2, hg⟩
    · simp only [upd_same, Option.some.injEq, Prod.mk.injEq] at hg
      exact .inr (by omega)
theorem RepM.nilRow (ok : Nat → Nat → Prop) (w : World) (sz : Nat) (a : Option Addr) {c : Nat} (hc : c ≤ maxLen) : RepM ok w (.row sz []) (.slice a 0 c) := RepM.row (es := []) (fun _ _ => undef) (by simp) hc (by simp) (by simp)
theorem sto_newRow {av : Nat → Nat → Prop} {st : Sto} {m : Lay} {w : World} {row : PRow} {c : Nat} {cur : Array Value} (h : StoOk av st m w) (hp : 0 < row.sz) (he : row.es = []) (hc : cur.size = c * row.sz) (hm : c ≤ maxLen) :
    StoOk av (st.addRow row) ⟨m.ρ, upd m.γ st.rows.length (some (w.heap.size, c))⟩ (w.alloc (.cells cur row.E)) := by
  have hx : Ext w (w.alloc (.cells cur row.E)) := .alloc (.refl _) _
  have ev := ev_newRow (row := row) (c := c) (cur := cur) h
  have key : ∀ i row' g c', (st.addRow row).rows[i]? = some row' → upd m.γ st.rows.length (some (w.heap.size, c)) i = some (g, c') → (i < st.rows.length ∧ st.rows[i]? = some row' ∧ m.γ i = some (g, c')) ∨ (i = st.rows.length ∧ g = w.heap.size) := fun i row' g c' hi hg => by
    rcases getElem?_snoc hi with ⟨h1, h2⟩ | ⟨rfl, rfl⟩
    · rw [upd_ne (show i ≠ st.rows.length by omega)] at hg
      exact .inl ⟨h1, h2, hg⟩
    · simp only [upd_same, Option.some.injEq, Prod.mk.injEq] at hg
      exact .inr ⟨rfl, hg.1.symm⟩
  refine ⟨fun k x hk => ?_, h.binj, fun i row' hi => ?_, fun i i' row' row'' g c' c'' hi hi' hg hg' => ?_, fun k x i row' g c' hk hi hg => ?_, fun b o hb => Nat.lt_of_lt_of_le (h.avlt b o hb) hx.size, fun i row' g c' hi hg o => ?_, h.avb⟩
  · obtain ⟨vs, k1, k2⟩ := h.box k x hk
    exact ⟨vs, k1.ext hx, RVL.mono ev _ _ k2⟩
  · rcases getElem?_snoc hi with ⟨h1, h2⟩ | ⟨rfl, rfl⟩
    · obtain ⟨k1, k2, k3⟩ := h.row i row' h2
      refine ⟨k1, k2, ?_⟩
      simp only [upd_ne (show i ≠ st.rows.length by omega)]
      rcases k3 with k3 | ⟨g, c', cur', q1, q2, q3, q4, q5, q6⟩
      · exact .inl k3
      · exact .inr ⟨g, c', cur', q1, q2.ext hx, q3, q4, q5, RV.mono ev (.t _) _ q6⟩
    · exact ⟨hp, by rw [he]; simp, .inr ⟨w.heap.size, c, cur, upd_same _ _ _, OB.new w _ _, hc, by rw [he]; simp, hm, by rw [he]; exact RepM.nilRow _ _ _ _ hm⟩⟩
  · rcases key i row' g c' hi hg with ⟨h0, h1, h2⟩ | ⟨h1, h2⟩ <;> rcases key i' row'' g c'' hi' hg' with ⟨h0', h1', h2'⟩ | ⟨h1', h2'⟩
    · exact h.rinj i i' row' row'' g c' c'' h1 h1' h2 h2'
    · have := h.row_lt h1 h2; omega
    · have := h.row_lt h1' h2'; omega
    · omega
  · rcases key i row' g c' hi hg with ⟨h0, h1, h2⟩ | ⟨h1, h2⟩
    · exact h.br k x i row' g c' hk h1 h2
    · have := h.box_lt hk
      show m.ρ k ≠ g
      omega
  · rcases key i row' g c' hi hg with ⟨h0, h1, h2⟩ | ⟨h1, h2⟩
    · exact h.avr i row' g c' h1 h2 o
    · intro ha
      have := h.avlt _ _ ha
      omega

/-! ### Filling -/
theorem foldl_splice (off : Nat) : ∀ (l : List Value) (k : Nat) (cells : Array Value), off + k + l.length ≤ cells.size → (l.zipIdx k).foldl (fun cs (x : Value × Nat) => cs.setIfInBounds (off + x.2) x.1) cells = splice cells (off + k) l
  | [], k, cells, _ => by simp [splice]
  | x :: l, k, cells, h => by
    simp only [List.zipIdx_cons, List.foldl_cons]
    simp only [List.length_cons] at h
    rw [foldl_splice off l (k + 1) _ (by simp; omega)]
    apply Array.ext'
    apply List.ext_getElem?
    intro j
    have hk : off + k < cells.toList.length := by simp; omega
    simp only [splice, Array.toList_setIfInBounds]
    rw [List.append_assoc, List.append_assoc]
    rcases Nat.lt_trichotomy j (off + k) with hj | hj | hj
    · rw [List.getElem?_append_left (by simp at hk ⊢; omega), List.getElem?_append_left (by simp at hk ⊢; omega), List.getElem?_take, List.getElem?_take, if_pos (by omega), if_pos hj, List.getElem?_set_ne (by omega)]
    · subst hj
      have hk2 : min (off + k) cells.size = off + k := by simp at hk; omega
      rw [List.getElem?_append_left (by simp at hk ⊢; omega), List.getElem?_take, if_pos (by omega), List.getElem?_set_self hk, List.getElem?_append_right (by simp; omega)]
      simp [hk2]
    · have e1 : (List.take (off + (k + 1)) (cells.toList.set (off + k) x)).length = off + (k + 1) := by
        rw [List.length_take, List.length_set]; simp at hk ⊢; omega
      have e2 : (List.take (off + k) cells.toList).length = off + k := by
        rw [List.length_take]; simp at hk ⊢; omega
      have L : ∀ D : List Value, (List.take (off + (k + 1)) (cells.toList.set (off + k) x) ++ (l ++ D))[j]? = (l ++ D)[j - (off + (k + 1))]? := fun D => by rw [List.getElem?_append_right (by omega), e1]
      have R : ∀ D : List Value, (List.take (off + k) cells.toList ++ (x :: l ++ D))[j]? = (l ++ D)[j - (off + (k + 1))]? := fun D => by
        rw [List.getElem?_append_right (by omega), e2, show j - (off + k) = (j - (off + (k + 1))) + 1 by omega]
        simp
      rw [L, R]
      rcases Nat.lt_or_ge (j - (off + (k + 1))) l.length with h1 | h1
      · rw [List.getElem?_append_left h1, List.getElem?_append_left h1]
      · rw [List.getElem?_append_right h1, List.getElem?_append_right h1, List.getElem?_drop, List.getElem?_drop, List.getElem?_set_ne (by omega), List.length_cons]
        congr 1
        omega

def fillP (place : Nat → Option (Nat × Nat)) : List PV → List (Nat × List PV) → Option (List PV)
  | cells, [] => some cells
  | cells, (i, ps) :: rest => match place i with
    | some (off, size) => if ps.length = size ∧ off + ps.length ≤ cells.length then fillP place (cells.take off ++ ps ++ cells.drop (off + ps.length)) rest else none
    | none => none
def PartsR (ok : Nat → Nat → Prop) (st : Sto) (m : Lay) (w : World) : List (Nat × List PV) → List (Nat × Value) → Prop
  | [], [] => True
  | (i, ps) :: l, (j, v) :: k => (i = j ∧ RVL ok st m w ps v.cells.toList) ∧ PartsR ok st m w l k
  | _, _ => False
theorem fillP_ok {ok : Nat → Nat → Prop} {st : Sto} {m : Lay} {w : World} {place : Nat → Option (Nat × Nat)} : ∀ {parts : List (Nat × List PV)} {pv : List (Nat × Value)} {cells qs : List PV} {vs : List Value}, PartsR ok st m w parts pv → RVL ok st m w cells vs → fillP place cells parts = some qs →
    ∃ us, Instr.fill place ⟨vs⟩ pv = some ⟨us⟩ ∧ RVL ok st m w qs us
  | [], [], cells, qs, vs, _, hr, h => by
    simp [fillP] at h
    subst h
    exact ⟨vs, rfl, hr⟩
  | (i, ps) :: l, (j, v) :: k, cells, qs, vs, hp, hr, h => by
    obtain ⟨⟨rfl, hv⟩, hp⟩ := hp
    simp only [fillP] at h
    split at h
    · rename_i off size hpl
      split at h
      · rename_i hc
        obtain ⟨us, h1, h2⟩ := fillP_ok hp (RVL.splice hr hv off) h
        refine ⟨us, ?_, h2⟩
        have hl1 := hv.length
        have hl2 := hr.length
        unfold Instr.fill
        have hc1 : v.cells.size = size := by rw [← hc.1, hl1]; simp
        have hc2 : ¬ (off + size > vs.length) := by rw [← hc1]; simp only [← hl2]; have := hc.2; rw [hl1] at this; simp at this; omega
        simp only [hpl, hc1]
        rw [if_neg (by simpa using hc2)]
        have hf := foldl_splice off v.cells.toList 0 ⟨vs⟩ (by simp only [List.size_toArray, ← hl2]; have := hc.2; rw [hl1] at this; omega)
        have hfe : (v.cells.zipIdx.foldl (fun cs (x : Value × Nat) => cs.setIfInBounds (off + x.2) x.1) (⟨vs⟩ : Array Value)) = splice ⟨vs⟩ off v.cells.toList := by
          rw [← Array.foldl_toList, Array.toList_zipIdx]
          exact hf
        have e3 : (⟨(splice ⟨vs⟩ off v.cells.toList).toList⟩ : Array Value) = splice ⟨vs⟩ off v.cells.toList := rfl
        rw [e3] at h1
        rw [← hfe] at h1
        exact h1
      · cases h
    · cases h
  | [], _ :: _, _, _, _, h, _, _ => h.elim
  | _ :: _, [], _, _, _, h, _, _ => h.elim

def placesOf (P : Program) (T : TypeId) : Option (List (Nat × Nat)) := match P.underlying T with
  | some (.struct fields) => fields.toList.mapM (fun f => (P.info? f.type).map fun i => (f.offset, i.size))
  | _ => none

section
variable {P : Program} {C : Ctx} {n : Nat} {s : AS} {Q : Exit → AS → Prop} {o : Oper}

/-- The parts of a literal: their places, and the cells that each takes. -/
def partsP (s : AS) : List (Nat × Operand) → Option (List (Nat × List PV))
  | [] => some []
  | (i, x) :: l => match s.ev x, partsP s l with
    | some p, some r => if notTup p then some ((i, cellsP p) :: r) else none
    | _, _ => none
theorem partsP_ok {m : Lay} {a : Act} {w : World} (h : RA C n s m a w) : ∀ {l : List (Nat × Operand)} {ps : List (Nat × List PV)}, partsP s l = some ps → PartsR (okA C.av s.st m) s.st m w ps (l.map fun (i, x) => (i, a.eval x))
  | [], ps, hp => by
    simp [partsP] at hp
    subst hp
    trivial
  | (i, x) :: l, ps, hp => by
    simp only [partsP] at hp
    split at hp
    · rename_i p r h1 h2
      split at hp
      · rename_i ht
        cases hp
        exact ⟨⟨rfl, cellsP_rv (h.eval h1) (notTup.ne ht)⟩, partsP_ok h h2⟩
      · cases hp
    · cases hp

theorem AOp.build {T : TypeId} {parts : Array (Nat × Operand)} {ps : List (Nat × List PV)} {zs cs : List PV} {places : List (Nat × Nat)} (ho : o.op = .build T parts) (hd : dstOk o.dst n = true) (hz : zerosOf P T = some zs) (hpl : placesOf P T = some places) (hp : partsP s parts.toList = some ps)
    (hc : fillP (places.toArray[·]?) zs ps = some cs) : AOp P C n o s (s.putO o.dst (.agg cs)) :=
  AOp.quiet (dstOk_lt hd) fun m a w h => by
    obtain ⟨i, z, hi, hzz, hr⟩ := zerosOf.spec hz
    obtain ⟨us, h1, h2⟩ := fillP_ok (partsP_ok h hp) (hr (okA C.av s.st m) s.st m w) hc
    refine ⟨.agg ⟨us⟩, ?_, us, rfl, h2⟩
    have hb : P.built T (parts.map fun (i, x) => (i, a.eval x)).toList = some ⟨us⟩ := by
      unfold placesOf at hpl
      unfold Program.built
      cases hu : P.underlying T with
      | none => simp [hu] at hpl
      | some d =>
        cases d with
        | struct fields =>
          simp only [hu] at hpl
          simp only [hi, hzz, hpl, Array.toList_map]
          exact h1
        | _ => simp [hu] at hpl
    unfold execOp
    simp [ho, run_build w T _ _ hb]

theorem RVL.of_get {ok : Nat → Nat → Prop} {st : Sto} {m : Lay} {w : World} : ∀ {ps : List PV} {vs : List Value}, vs.length = ps.length → (∀ (j : Nat) (p : PV), ps[j]? = some p → ∃ v, vs[j]? = some v ∧ RV ok st m w p v) → RVL ok st m w ps vs
  | [], [], _, _ => trivial
  | [], _ :: _, h, _ => by simp at h
  | _ :: _, [], h, _ => by simp at h
  | p :: ps, v :: vs, h, k => by
    obtain ⟨u, hu, hr⟩ := k 0 p rfl
    simp at hu
    subst hu
    exact ⟨hr, RVL.of_get (by simpa using h) fun j d hd => by have := k (j + 1) d (by simpa using hd); simpa using this⟩

theorem flatten_get {α : Type} {sz : Nat} : ∀ {es : List (List α)} {i j : Nat} {e : List α} {d : α}, (∀ e ∈ es, e.length = sz) → es[i]? = some e → e[j]? = some d → es.flatten[i * sz + j]? = some d
  | [], i, j, e, d, _, h, _ => by simp at h
  | x :: es, 0, j, e, d, hl, h, hd => by
    simp at h
    subst h
    rw [List.flatten_cons, Nat.zero_mul, Nat.zero_add, List.getElem?_append_left (get_lt hd)]
    exact hd
  | x :: es, i + 1, j, e, d, hl, h, hd => by
    have hx := hl x (by simp)
    rw [List.flatten_cons, Nat.succ_mul, List.getElem?_append_right (by omega), hx, show i * sz + sz + j - sz = i * sz + j by omega]
    exact flatten_get (fun e he => hl e (by simp [he])) (by simpa using h) hd
theorem flatten_len {α : Type} {sz : Nat} : ∀ {es : List (List α)}, (∀ e ∈ es, e.length = sz) → es.flatten.length = es.length * sz
  | [], _ => by simp
  | x :: es, hl => by
    rw [List.flatten_cons, List.length_append, hl x (by simp), flatten_len (fun e he => hl e (by simp [he])), List.length_cons, Nat.succ_mul, Nat.add_comm]

theorem AOp.buildSlice {T E sz by_ len : Nat} {parts : Array (Nat × Operand)} {ps : List (Nat × List PV)} {zs cs : List PV} {es : List (List Tr)} (ho : o.op = .buildSlice T len parts) (hd : dstOk o.dst n = true) (hT : elemOf? P T = some (E, sz, by_)) (hz : zerosOf P E = some zs) (hp : partsP s parts.toList = some ps)
    (hc : fillP (fun i => some (i * sz, sz)) (List.replicate len zs).flatten ps = some cs) (hle : LeL cs (es.flatten.map PV.t)) (hel : es.length = len) (hes : ∀ e ∈ es, e.length = sz) (hsz : 0 < sz) (hzl : zs.length = sz) (hsm : len * sz ≤ 16777216) :
    AOp P C n o s ((⟨s.env, s.st.addRow ⟨E, sz, es, false⟩⟩ : AS).putO o.dst (.acc sz es s.st.rows.length)) :=
  AOp.run hd (s1 := ⟨s.env, s.st.addRow ⟨E, sz, es, false⟩⟩) (fun m a w h => by
    obtain ⟨i, hu, hi, hs, hby⟩ := elemOf?.spec hT
    obtain ⟨i', z, hi', hzz, hr⟩ := zerosOf.spec hz
    rw [hi] at hi'
    cases hi'
    have hzv := hr (okA C.av s.st m) s.st m w
    have hzs : z.cells.size = sz := by have := hzv.length; rw [hzl] at this; simpa using this.symm
    have hzero : RVL (okA C.av s.st m) s.st m w (List.replicate len zs).flatten ((List.range (len * sz)).map (fun q => z.cells[q % z.cells.size]!)) := by
      have hrl : ∀ e ∈ List.replicate len zs, e.length = sz := fun e he => by rw [(List.mem_replicate.1 he).2]; exact hzl
      refine RVL.of_get (by rw [flatten_len hrl]; simp) fun j p hj => ?_
      have hjl : j < len * sz := by have := get_lt hj; rw [flatten_len hrl] at this; simpa using this
      have hj1 : j / sz < len := by rw [Nat.div_lt_iff_lt_mul hsz]; exact hjl
      have hj2 : j % sz < zs.length := by rw [hzl]; exact Nat.mod_lt _ hsz
      have hpj := flatten_get (i := j / sz) (j := j % sz) (e := zs) (d := zs[j % sz]) hrl (by rw [List.getElem?_replicate, if_pos hj1]) (List.getElem?_eq_getElem hj2)
      rw [show j / sz * sz + j % sz = j by rw [Nat.mul_comm]; exact Nat.div_add_mod j sz, hj] at hpj
      cases hpj
      obtain ⟨v, hv, hrv⟩ := hzv.get (List.getElem?_eq_getElem hj2)
      refine ⟨v, ?_, hrv⟩
      rw [List.getElem?_map, List.getElem?_range hjl]
      simp only [Option.map_some, hzs]
      rw [Array.getElem?_toList] at hv
      obtain ⟨hlt, hve⟩ := Array.getElem?_eq_some_iff.1 hv
      rw [getElem!_pos z.cells _ hlt, hve]
    obtain ⟨us, h1, h2⟩ := fillP_ok (partsP_ok h hp) hzero hc
    have h3 := LeL.rv hle h2
    have hul : us.length = len * sz := by have := h3.length; rw [List.length_map, flatten_len hes, hel] at this; exact this.symm
    have hrun : (Instr.buildSlice T len (parts.map fun (i, x) => (i, a.eval x))).run P w = .ok (.slice (some ⟨w.heap.size, 0, none⟩) len len) (w.alloc (.cells ⟨us⟩ E)) := by
      have hfill : Instr.fill (fun i => some (i * sz, sz)) ((Array.range (len * sz)).map (z.cells[· % z.cells.size]!)) (parts.map fun (i, x) => (i, a.eval x)).toList = some ⟨us⟩ := by
        rw [Array.toList_map, ← h1]
        congr 1
        apply Array.ext'
        simp
      by_cases h0 : len * sz = 0
      · have hl0 : len = 0 := by
          rcases Nat.mul_eq_zero.1 h0 with h | h
          · exact h
          · omega
        subst hl0
        rw [Nat.zero_mul] at hfill
        simp [Instr.buildSlice, run_underlying hu, Go.sizeOf, typeInfo, hi, hs, newRow]
        have e0 : (Array.range 0).map (fun q => z.cells[q % z.cells.size]!) = #[] := by simp
        rw [e0] at hfill
        simp at hfill
        have e1 : (Array.range 0).map (fun _ => (default : Value)) = #[] := by simp
        rw [e1, hfill]
        simp
      · exact run_buildSlice w T E len _ ⟨us⟩ i z hu hi hzz (by rw [hs]; omega) (by rw [hs]; exact h0) (by rw [hs]; exact hfill)
    have hm : len ≤ maxLen := by have := Nat.le_mul_of_pos_right len hsz; unfold maxLen; omega
    have hst0 := sto_newRow (row := ⟨E, sz, [], false⟩) (c := len) (cur := ⟨us⟩) h.sto hsz rfl (by simpa using hul) hm
    have hev0 := ev_newRow (row := ⟨E, sz, [], false⟩) (c := len) (cur := (⟨us⟩ : Array Value)) h.sto
    have hG : Grow C.av (s.st.addRow ⟨E, sz, [], false⟩) ⟨m.ρ, upd m.γ s.st.rows.length (some (w.heap.size, len))⟩ (w.alloc (.cells ⟨us⟩ E)) s.st.rows.length ⟨E, sz, [], false⟩ es w.heap.size len ⟨us⟩ (w.alloc (.cells ⟨us⟩ E)) := by
      refine ⟨by show (s.st.rows ++ [_])[s.st.rows.length]? = _; simp, rfl, rfl, rfl, Nat.le_refl _, fun _ _ _ => rfl, OB.new w _ _, by simpa using hul, by simp [hel], hm, hes, fun q e hq => by simp at hq, fun q e hq j d hj => ?_, .inl ⟨len, ⟨us⟩, upd_same _ _ _, OB.new w _ _, fun _ _ => rfl⟩, fun _ => upd_same _ _ _⟩
      have hf := flatten_get (sz := sz) hes hq hj
      obtain ⟨v, hv, hrv⟩ := h3.get (j := q * sz + j) (p := .t d) (by rw [List.getElem?_map, hf]; rfl)
      exact ⟨v, by simpa using hv, RV.mono hev0 (.t d) _ hrv⟩
    have hst1 : (s.st.addRow ⟨E, sz, [], false⟩).setRow s.st.rows.length { (⟨E, sz, [], false⟩ : PRow) with es := ([] : List (List Tr)) ++ es } = s.st.addRow ⟨E, sz, es, false⟩ := by
      simp [Sto.setRow, Sto.addRow, List.set_append_right]
    have hE1 := hev0.trans (hG.ev hst0)
    have hS1 := hG.sto hst0
    have hA1 := hG.acc hst0
    rw [hst1] at hE1 hS1 hA1
    refine ⟨.slice (some ⟨w.heap.size, 0, none⟩) len len, _, _, ?_, hE1, hS1, ?_⟩
    · unfold execOp
      simp [ho, hrun]
    · simpa [hel] using hA1) rfl

end
end Go.Proofs.Ytmpepccpnnldoaa

namespace Go.Proofs.Ytmpepccpnnldoaa
set_option linter.unusedSimpArgs false
set_option linter.unusedVariables false
open Go.RowKit Go.WalkArith Go.IntWalk Go.WideShapes

/-- What an operation is: it leaves the store alone (and may run while between lo and hi of the effects have been); it makes the region's one box; it is effect number j. -/
inductive DK where
  | q (lo hi : Nat)
  | al
  | ef (j : Nat)

structure Draw where
  ops : Array Oper
  env0 : List (Nat × PV)
  F : Nat → Bool → Sto
  out : Nat → Option PV
  kind : Nat → DK
  effs : List Nat
  alloc : Option Nat
  ins : Nat → List (Nat × Option Nat)

/-- i must have come before j. -/
def ancOf (ops : Array Oper) : Nat → Nat → Nat → Bool
  | 0, _, _ => false
  | fuel + 1, i, j => match ops[j]? with
    | some o => o.after.toList.any fun e => Region.binds .any e && (e.on == i || ancOf ops fuel i e.on)
    | none => false
def writerOf (ops : Array Oper) (t : Nat) : Option Nat := (List.range ops.size).find? fun i => match ops[i]? with | some o => o.dst == some t | none => false

def Draw.anc (D : Draw) (i j : Nat) : Bool := ancOf D.ops D.ops.size i j
def Draw.okIns (D : Draw) (i : Nat) (x : Nat × Option Nat) : Bool := match x.2 with
  | some j => writerOf D.ops x.1 == some j && D.anc j i
  | none => match writerOf D.ops x.1 with
    | none => true
    | some j => j == i || D.anc i j
def Draw.okKind (D : Draw) (i : Nat) : Bool := match D.kind i with
  | .q lo hi => decide (lo ≤ hi) && decide (hi ≤ D.effs.length) && ((D.effs.take lo).all fun e => D.anc e i) && ((D.effs.drop hi).all fun e => D.anc i e) && !(D.effs.contains i) && D.alloc != some i
  | .al => D.alloc == some i && !(D.effs.contains i)
  | .ef j => D.effs[j]? == some i && ((D.effs.take j).all fun e => D.anc e i) && ((D.effs.drop (j + 1)).all fun e => D.anc i e && e != i) && D.alloc != some i
def nodupDst (ops : Array Oper) : Bool := ops.toList.zipIdx.all fun (o, i) => match o.dst with
  | some d => writerOf ops d == some i
  | none => true
/-- The whole check, on numbers alone. -/
def Draw.okOp (D : Draw) (i : Nat) : Bool := match D.ops[i]? with
  | some o => (o.after.all fun e => !Region.binds .any e || decide (e.on < i)) && (match o.guard with | some (j, _) => D.anc j i && (match D.ops[j]? with | some oj => oj.dst.isSome | none => false) | none => true)
  | none => true
def Draw.ok (D : Draw) : Bool := (List.range D.ops.size).all D.okOp && nodupDst D.ops && (List.range D.ops.size).all (fun i => D.okKind i && (D.ins i).all (D.okIns i)) && (D.effs.all fun e => decide (e < D.ops.size)) && (match D.alloc with | some i => decide (i < D.ops.size) | none => true)
def Draw.pv (D : Draw) (x : Nat × Option Nat) : Option PV := match x.2 with
  | some j => D.out j
  | none => D.env0.lookup x.1

section
variable (D : Draw)
def Draw.envX (X : Array Bool) : List (Nat × PV) := ((List.range D.ops.size).filterMap fun i => if X.getD i false then (match D.ops[i]? with | some o => (match o.dst, D.out i with | some d, some p => some (d, p) | _, _ => none) | none => none) else none) ++ D.env0
def Draw.cnt (X : Array Bool) : Nat := (D.effs.takeWhile fun e => X.getD e false).length
def Draw.alX (X : Array Bool) : Bool := match D.alloc with | some i => X.getD i false | none => false
def Draw.sX (X : Array Bool) : AS := ⟨D.envX X, D.F (D.cnt X) (D.alX X)⟩
def Draw.closed (X : Array Bool) : Prop := ∀ j o, X.getD j false = true → D.ops[j]? = some o → ∀ e ∈ o.after, Region.binds .any e = true → X.getD e.on false = true
end

theorem anc_mem {D : Draw} {X : Array Bool} (hc : D.closed X) : ∀ (fuel i j : Nat), ancOf D.ops fuel i j = true → (∀ o, D.ops[j]? = some o → ∀ e ∈ o.after, Region.binds .any e = true → X.getD e.on false = true) → X.getD i false = true
  | 0, i, j, h, _ => by simp [ancOf] at h
  | fuel + 1, i, j, h, hd => by
    simp only [ancOf] at h
    split at h
    · rename_i o ho
      rw [List.any_eq_true] at h
      obtain ⟨e, he, h⟩ := h
      simp only [Bool.and_eq_true, Bool.or_eq_true, beq_iff_eq] at h
      have hx := hd o ho e (by simpa using he) h.1
      rcases h.2 with h2 | h2
      · rw [← h2]; exact hx
      · exact anc_mem hc fuel i e.on h2 fun o' ho' => hc e.on o' hx ho'
    · cases h

theorem lookup_filterMap {n t : Nat} {g : Nat → Option (Nat × PV)} {rest : List (Nat × PV)} : ∀ (l : List Nat), (∀ i ∈ l, ∀ p, g i = some (t, p) → ∀ i' ∈ l, ∀ p', g i' = some (t, p') → i = i') →
    (∀ i ∈ l, ∀ p, g i = some (t, p) → (l.filterMap g ++ rest).lookup t = some p) ∧ ((∀ i ∈ l, ∀ p, g i ≠ some (t, p)) → (l.filterMap g ++ rest).lookup t = rest.lookup t)
  | [], _ => ⟨by simp, by simp⟩
  | x :: l, h => by
    obtain ⟨h1, h2⟩ := lookup_filterMap (n := n) l fun i hi p hp i' hi' p' hp' => h i (by simp [hi]) p hp i' (by simp [hi']) p' hp'
    cases hg : g x with
    | none =>
      rw [List.filterMap_cons_none hg]
      refine ⟨fun i hi p hp => ?_, fun hn => h2 fun i hi p => hn i (by simp [hi]) p⟩
      rcases List.mem_cons.1 hi with rfl | hi
      · rw [hg] at hp; cases hp
      · exact h1 i hi p hp
    | some y =>
      obtain ⟨d, q⟩ := y
      rw [List.filterMap_cons_some hg]
      simp only [List.cons_append, List.lookup_cons]
      by_cases htd : t = d
      · subst htd
        simp only [BEq.rfl]
        refine ⟨fun i hi p hp => ?_, fun hn => absurd hg (hn x (by simp) q)⟩
        have := h x (by simp) q hg i hi p hp
        subst this
        rw [hg] at hp
        cases hp
        rfl
      · rw [show (t == d) = false by simp [htd]]
        refine ⟨fun i hi p hp => ?_, fun hn => h2 fun i hi p => hn i (by simp [hi]) p⟩
        rcases List.mem_cons.1 hi with rfl | hi
        · rw [hg] at hp
          cases hp
          exact absurd rfl htd
        · exact h1 i hi p hp

theorem writerOf_spec {ops : Array Oper} {t i : Nat} (h : writerOf ops t = some i) : i < ops.size ∧ ∃ o, ops[i]? = some o ∧ o.dst = some t := by
  unfold writerOf at h
  have h1 := List.find?_some h
  have h2 := List.mem_of_find?_eq_some h
  refine ⟨by simpa using h2, ?_⟩
  cases ho : ops[i]? with
  | none => simp [ho] at h1
  | some o => exact ⟨o, rfl, by simpa [ho] using h1⟩
theorem nodup_writer {ops : Array Oper} (h : nodupDst ops = true) {i t : Nat} {o : Oper} (ho : ops[i]? = some o) (hd : o.dst = some t) : writerOf ops t = some i := by
  unfold nodupDst at h
  rw [List.all_eq_true] at h
  have := h (o, i) (by rw [List.mem_zipIdx_iff_getElem?]; simpa using ho)
  simpa [hd] using this

section
variable {D : Draw} {X : Array Bool}
def Draw.gX (D : Draw) (X : Array Bool) (i : Nat) : Option (Nat × PV) := if X.getD i false then (match D.ops[i]? with | some o => (match o.dst, D.out i with | some d, some p => some (d, p) | _, _ => none) | none => none) else none
theorem gX_some {i t : Nat} {p : PV} (h : D.gX X i = some (t, p)) : X.getD i false = true ∧ ∃ o, D.ops[i]? = some o ∧ o.dst = some t ∧ D.out i = some p := by
  unfold Draw.gX at h
  split at h
  · rename_i hx
    split at h
    · rename_i o ho
      split at h
      · rename_i d q hd hq
        cases h
        exact ⟨hx, o, ho, hd, hq⟩
      · cases h
    · cases h
  · cases h
theorem lkX_in (hn : nodupDst D.ops = true) {i t : Nat} {o : Oper} {p : PV} (hX : X.getD i false = true) (ho : D.ops[i]? = some o) (hd : o.dst = some t) (hp : D.out i = some p) : (D.sX X).lk t = some p := by
  refine (lookup_filterMap (n := 0) (g := D.gX X) (rest := D.env0) (List.range D.ops.size) fun i _ p hp i' _ p' hp' => ?_).1 i (by simp; exact (Array.getElem?_eq_some_iff.1 ho).1) p ?_
  · obtain ⟨-, o, h1, h2, -⟩ := gX_some hp
    obtain ⟨-, o', h1', h2', -⟩ := gX_some hp'
    have := (nodup_writer hn h1 h2).symm.trans (nodup_writer hn h1' h2')
    exact Option.some.inj this
  · unfold Draw.gX
    simp [hX, ho, hd, hp]
theorem lkX_out (hn : nodupDst D.ops = true) {t : Nat} (h : ∀ i, writerOf D.ops t = some i → X.getD i false = false) : (D.sX X).lk t = D.env0.lookup t := by
  refine (lookup_filterMap (n := 0) (g := D.gX X) (rest := D.env0) (List.range D.ops.size) fun i _ p hp i' _ p' hp' => ?_).2 fun i _ p hp => ?_
  · obtain ⟨-, o, h1, h2, -⟩ := gX_some hp
    obtain ⟨-, o', h1', h2', -⟩ := gX_some hp'
    exact Option.some.inj ((nodup_writer hn h1 h2).symm.trans (nodup_writer hn h1' h2'))
  · obtain ⟨h0, o, h1, h2, -⟩ := gX_some hp
    rw [h i (nodup_writer hn h1 h2)] at h0
    cases h0
end

theorem filterMap_congr' {α β : Type} {f g : α → Option β} : ∀ {l : List α}, (∀ x ∈ l, f x = g x) → l.filterMap f = l.filterMap g
  | [], _ => rfl
  | x :: l, h => by
    have h1 := h x (by simp)
    have h2 := filterMap_congr' (l := l) fun y hy => h y (by simp [hy])
    simp only [List.filterMap_cons, h1, h2]
theorem RA.congr {C : Ctx} {n : Nat} {s s' : AS} {m : Lay} {a : Act} {w : World} (h : RA C n s m a w) (hst : s.st = s'.st) (hl : ∀ i p, s'.lk i = some p → s.lk i = some p) : RA C n s' m a w := by
  obtain ⟨env, st⟩ := s
  obtain ⟨env', st'⟩ := s'
  cases hst
  exact ⟨h.dfr, h.tsz, h.sto, fun i p hp => h.env i p (hl i p hp), h.ev⟩

theorem drawnW {C : Ctx} {n : Nat} {s : AS} {m : Lay} {a : Act} {w : World} (h : RA C n s m a w) : RA C n s m a { w with drawn := w.drawn + 1 } := by
  have hx : Ext w w.drew := .drew (.refl w)
  obtain ⟨env, st⟩ := s
  exact h.step (Ev.later hx) (h.sto.later hx)

theorem getD_upd {X : Array Bool} {i j : Nat} : (X.setIfInBounds i true).getD j false = if j = i ∧ i < X.size then true else X.getD j false := by
  simp only [Array.getD_eq_getD_getElem?, Array.getElem?_setIfInBounds]
  by_cases hij : i = j
  · subst hij
    by_cases hlt : i < X.size
    · simp [hlt]
    · simp [hlt]
  · have : ¬ (j = i ∧ i < X.size) := fun h => hij h.1.symm
    simp [hij, this]

/-- The heads that are met, as a list's beginning. -/
theorem takeWhile_len {l : List Nat} {f : Nat → Bool} : ∀ {k : Nat}, (∀ e ∈ l.take k, f e = true) → (∀ e, l[k]? = some e → f e = false) → k ≤ l.length → (l.takeWhile f).length = k := by
  induction l with
  | nil => intro k _ _ hk; simp at hk ⊢; omega
  | cons x l ih =>
    intro k h1 h2 hk
    cases k with
    | zero => simp [List.takeWhile_cons, h2 x rfl]
    | succ k =>
      rw [List.takeWhile_cons, if_pos (h1 x (by simp)), List.length_cons, ih (k := k) (fun e he => h1 e (by simp [he])) (fun e he => h2 e (by simpa using he)) (by simpa using hk)]

theorem takeWhile_ge {l : List Nat} {f : Nat → Bool} : ∀ {k : Nat}, (∀ e ∈ l.take k, f e = true) → k ≤ l.length → k ≤ (l.takeWhile f).length := by
  induction l with
  | nil => intro k _ hk; simpa using hk
  | cons x l ih =>
    intro k h1 hk
    cases k with
    | zero => omega
    | succ k =>
      rw [List.takeWhile_cons, if_pos (h1 x (by simp)), List.length_cons]
      have := ih (k := k) (fun e he => h1 e (by simp [he])) (by simpa using hk)
      omega
theorem takeWhile_le {l : List Nat} {f : Nat → Bool} : ∀ {k : Nat}, (∀ e, l[k]? = some e → f e = false) → (l.takeWhile f).length ≤ k := by
  induction l with
  | nil => intro k _; simp
  | cons x l ih =>
    intro k h1
    cases k with
    | zero => simp [List.takeWhile_cons, h1 x rfl]
    | succ k =>
      rw [List.takeWhile_cons]
      split
      · have := ih (k := k) (fun e he => h1 e (by simpa using he))
        simpa using this
      · simp

section
variable {P : Program} {C : Ctx} {n : Nat} {s : AS} {Q : Exit → AS → Prop}

/-- Is it carried out? Its guard's value is known. -/
def Draw.want (D : Draw) (o : Oper) : Option Bool := match o.guard with
  | none => some true
  | some (j, b) => match D.out j with
    | some (.t (.leaf (.bool v))) => some (v == b)
    | some (.tup []) => some false
    | _ => none
/-- What each operation does, in whatever state its turn comes. -/
def Draw.does (P : Program) (C : Ctx) (n : Nat) (D : Draw) (i : Nat) (o : Oper) : Prop := match D.kind i with
  | .q lo hi => ∀ (s' : AS) (j : Nat) (b : Bool), lo ≤ j → j ≤ hi → s'.st = D.F j b → (∀ t src p, (t, src) ∈ D.ins i → D.pv (t, src) = some p → s'.lk t = some p) → ∃ p, D.out i = some p ∧ AOp P C n o s' (s'.putO o.dst p)
  | .al => ∀ (s' : AS) (j : Nat), s'.st = D.F j false → ∃ p, D.out i = some p ∧ AOp P C n o s' ((⟨s'.env, D.F j true⟩ : AS).putO o.dst p)
  | .ef j => ∀ (s' : AS) (b : Bool), s'.st = D.F j b → (∀ t src p, (t, src) ∈ D.ins i → D.pv (t, src) = some p → s'.lk t = some p) →
      (∃ p, D.out i = some p ∧ AOp P C n o s' ((⟨s'.env, D.F (j + 1) b⟩ : AS).putO o.dst p)) ∨ (o.dst = none ∧ AOp P C n o s' ⟨s'.env, D.F (j + 1) b⟩)

def lkPut (dst : Option Nat) (p : Option PV) (old : Nat → Option PV) (t : Nat) : Option PV := match dst with | none => old t | some d => if t = d then p else old t
def Draw.step (P : Program) (C : Ctx) (n : Nat) (D : Draw) (i : Nat) (o : Oper) : Prop :=
  (D.want o = some true ∧ D.does P C n i o) ∨ (D.want o = some false ∧ (∃ lo hi, D.kind i = .q lo hi) ∧ ((D.out i = none ∧ ∀ d, o.dst = some d → D.env0.lookup d = none) ∨ (D.out i = some (.tup []) ∧ dstOk o.dst n = true)))

theorem AWP.drawn {id : Nat} (D : Draw) (hm : P.follows .mixedOrders = true) (hok : D.ok = true) (henv : s.env = D.env0) (hst : s.st = D.F 0 false)
    (hstep : ∀ i o, D.ops[i]? = some o → D.step P C n i o) (h : Q .normal ⟨((List.range D.ops.size).filterMap (D.gX (Array.replicate D.ops.size true))) ++ D.env0, D.F D.effs.length D.alloc.isSome⟩) : AWP P C n (.region id D.ops true) Q s := fun m a w hr => by
  simp only [Draw.ok, Bool.and_eq_true, List.all_eq_true] at hok
  obtain ⟨⟨⟨⟨hops, hnd⟩, hall⟩, heff⟩, hal⟩ := hok
  refine wp_region_any hm ?_
  -- all have come up
  have fin : ∀ (X : Array Bool) (m : Lay) (a : Act) (w : World), (∀ i, i < D.ops.size → X.getD i false = true) → RA C n (D.sX X) m a w → ∃ s' m', Q .normal s' ∧ RA C n s' m' a w := fun X m a w hX hr => by
    refine ⟨_, m, h, ?_⟩
    have e1 : D.envX X = ((List.range D.ops.size).filterMap (D.gX (Array.replicate D.ops.size true))) ++ D.env0 := by
      unfold Draw.envX
      congr 1
      refine filterMap_congr' fun i hi => ?_
      have hi : i < D.ops.size := by simpa using hi
      unfold Draw.gX
      rw [hX i hi]
      simp [hi]
    have e2 : D.cnt X = D.effs.length := takeWhile_len (fun e he => hX e (by simpa using heff e (List.mem_of_mem_take he))) (fun e he => by simp at he) (Nat.le_refl _)
    have e3 : D.alX X = D.alloc.isSome := by
      unfold Draw.alX
      cases hq : D.alloc with
      | none => rfl
      | some i => rw [hq] at hal; exact hX i (by simpa using hal)
    have e4 : D.sX X = ⟨((List.range D.ops.size).filterMap (D.gX (Array.replicate D.ops.size true))) ++ D.env0, D.F D.effs.length D.alloc.isSome⟩ := by
      unfold Draw.sX
      rw [e1, e2, e3]
    rw [← e4]
    exact hr
  have rdy : ∀ (X : Array Bool), X.size = D.ops.size → Region.ready .any D.ops X = [] → ∀ i, i < D.ops.size → X.getD i false = true := fun X hs hn i => by
    induction i using Nat.strongRecOn with
    | _ i ih =>
      intro hi
      cases hx : X.getD i false with
      | true => rfl
      | false =>
        have : i ∈ Region.ready .any D.ops X := by
          rw [mem_ready]
          have ho := Array.getElem?_eq_getElem hi
          refine ⟨?_, D.ops[i], ho, fun e he hb => ih e.on ?_ ?_⟩
          · simpa [Array.getD_eq_getD_getElem?, hs, hi] using hx
          all_goals
            have := hops i (by simpa using hi)
            simp only [Draw.okOp, ho, Bool.and_eq_true, Array.all_eq_true'] at this
            have h3 := this.1 e he
            simp only [hb, Bool.not_true, Bool.false_or, decide_eq_true_eq] at h3
            omega
        rw [hn] at this
        cases this
  have key : ∀ (fuel : Nat) (X : Array Bool) (m : Lay) (a : Act) (w : World), X.size = D.ops.size → D.ops.size ≤ fuel + X.toList.countP (· = true) → D.closed X → RA C n (D.sX X) m a w → wpAny P .any D.ops (fun e a' w' => ∃ s' m', Q e s' ∧ RA C n s' m' a' w') fuel X a w := by
    intro fuel
    induction fuel with
    | zero =>
      intro X m a w hs hc hcl hr
      have hX : ∀ i, i < D.ops.size → X.getD i false = true := fun i hi => by
        have h9 : X.toList.length = D.ops.size := by simp [hs]
        have h1 : X.toList.countP (· = true) = X.toList.length := Nat.le_antisymm List.countP_le_length (by omega)
        have h2 := List.countP_eq_length.1 h1 X[i] (by simp)
        simpa [Array.getD_eq_getD_getElem?, hs, hi] using h2
      refine ⟨?_, fin X m a w hX hr⟩
      rw [List.eq_nil_iff_forall_not_mem]
      intro i hi
      rw [mem_ready] at hi
      obtain ⟨h1, o, ho, -⟩ := hi
      have hi := (Array.getElem?_eq_some_iff.1 ho).1
      have h2 := hX i hi
      simp [Array.getD_eq_getD_getElem?, hs, hi] at h1 h2
      rw [h1] at h2
      cases h2
    | succ fuel ih =>
      intro X m a w hs hc hcl hr
      refine ⟨fun hn => fin X m a w (rdy X hs hn) hr, fun i hi => ?_⟩
      rw [mem_ready] at hi
      obtain ⟨h1, o, ho, hdep⟩ := hi
      have hi := (Array.getElem?_eq_some_iff.1 ho).1
      have hXi : X.getD i false = false := by
        simp [Array.getD_eq_getD_getElem?, hs, hi] at h1 ⊢
        exact h1
      have hdeps : ∀ o', D.ops[i]? = some o' → ∀ e ∈ o'.after, Region.binds .any e = true → X.getD e.on false = true := fun o' ho' e he hb => by
        rw [ho] at ho'
        cases ho'
        exact hdep e he hb
      have hanc : ∀ j, D.anc j i = true → X.getD j false = true := fun j hj => anc_mem hcl _ j i hj hdeps
      have hnanc : ∀ j, D.anc i j = true → X.getD j false = false := fun j hj => by
        cases hx : X.getD j false with
        | false => rfl
        | true =>
          have := anc_mem hcl _ i j hj (fun o' ho' => hcl j o' hx ho')
          rw [hXi] at this
          cases this
      -- the state behind it
      let X' := X.setIfInBounds i true
      have hX' : ∀ j, X'.getD j false = if j = i then true else X.getD j false := fun j => by
        show (X.setIfInBounds i true).getD j false = _
        rw [getD_upd]
        by_cases hji : j = i <;> simp [hji, hs, hi]
      have hcl' : D.closed X' := fun j o' hj ho' e he hb => by
        rw [hX'] at hj ⊢
        split
        · rfl
        · split at hj
          · rename_i hji
            subst hji
            exact hdeps o' ho' e he hb
          · exact hcl j o' hj ho' e he hb
      have hcnt : D.ops.size ≤ fuel + X'.toList.countP (· = true) := by
        have hlt : i < X.toList.length := by simp [hs, hi]
        have h3 : X'.toList.countP (· = true) = X.toList.countP (· = true) + 1 := by
          show (X.setIfInBounds i true).toList.countP _ = _
          rw [Array.toList_setIfInBounds, List.countP_set hlt]
          have hx : X.toList[i] = false := by
            simp [Array.getD_eq_getD_getElem?, hs, hi] at hXi
            simpa using hXi
          simp [hx]
        omega
      have hs' : X'.size = D.ops.size := by show (X.setIfInBounds i true).size = _; simp [hs]
      have hir := hall i (by simpa using hi)
      obtain ⟨hkind, hins⟩ := hir
      -- what is looked at
      have hlk : ∀ t src p, (t, src) ∈ D.ins i → D.pv (t, src) = some p → (D.sX X).lk t = some p := fun t src p hm hp => by
        have h3 := hins (t, src) hm
        simp only [Draw.okIns] at h3
        cases src with
        | some j =>
          simp only [Bool.and_eq_true, beq_iff_eq] at h3
          obtain ⟨-, oj, h4, h5⟩ := writerOf_spec h3.1
          exact lkX_in hnd (hanc j h3.2) h4 h5 hp
        | none =>
          rw [show p = p from rfl]
          refine (lkX_out hnd fun j hj => ?_).trans hp
          have h3 : (match writerOf D.ops t with | none => true | some j => j == i || D.anc j j && false || D.anc i j) = true := by
            have h4 : (match writerOf D.ops t with | none => true | some j => j == i || D.anc i j) = true := h3
            rw [hj] at h4 ⊢
            simpa using h4
          rw [hj] at h3
          simp only [Bool.or_eq_true, beq_iff_eq, Bool.and_false, Bool.or_false] at h3
          rcases h3 with rfl | h3
          · exact hXi
          · exact hnanc j h3
      -- behind it, by what it has put
      have done : ∀ (s1 : AS) (m1 : Lay) (a1 : Act) (w1 : World) (p : Option PV), RA C n s1 m1 a1 w1 → D.out i = p → s1.st = D.F (D.cnt X') (D.alX X') → (∀ t q, lkPut o.dst p (D.sX X).lk t = some q → s1.lk t = some q) → (p = none → ∀ d, o.dst = some d → D.env0.lookup d = none) → RA C n (D.sX X') m1 a1 w1 := fun s1 m1 a1 w1 p hr1 hp hst1 hl1 hpn => by
        refine RA.congr hr1 hst1 fun t q hq => hl1 t q ?_
        have hother : (∀ d, o.dst = some d → t ≠ d) → (D.sX X).lk t = some q := fun hne => by
          rcases hw : writerOf D.ops t with _ | j
          · rw [lkX_out hnd (fun j hj => by rw [hw] at hj; cases hj)] at hq ⊢
            exact hq
          · obtain ⟨-, oj, h4, h5⟩ := writerOf_spec hw
            have hji : j ≠ i := by
              rintro rfl
              rw [ho] at h4
              cases h4
              exact hne t h5 rfl
            cases hxj : X.getD j false with
            | false =>
              rw [lkX_out hnd (fun j' hj' => by rw [hw] at hj'; cases hj'; rw [hX', if_neg hji]; exact hxj)] at hq
              rw [lkX_out hnd (fun j' hj' => by rw [hw] at hj'; cases hj'; exact hxj)]
              exact hq
            | true =>
              cases hoj : D.out j with
              | none =>
                have hg1 : ∀ Y : Array Bool, ∀ p, D.gX Y j ≠ some (t, p) := fun Y p hg => by
                  obtain ⟨-, o2, -, -, h6⟩ := gX_some hg
                  rw [hoj] at h6
                  cases h6
                have hnone : ∀ Y : Array Bool, (D.sX Y).lk t = D.env0.lookup t := fun Y => by
                  refine (lookup_filterMap (n := 0) (g := D.gX Y) (rest := D.env0) (List.range D.ops.size) fun i _ p hp i' _ p' hp' => ?_).2 fun i' _ p hp => ?_
                  · obtain ⟨-, o2, h6, h7, -⟩ := gX_some hp
                    obtain ⟨-, o2', h6', h7', -⟩ := gX_some hp'
                    exact Option.some.inj ((nodup_writer hnd h6 h7).symm.trans (nodup_writer hnd h6' h7'))
                  · obtain ⟨-, o2, h6, h7, -⟩ := gX_some hp
                    have := nodup_writer hnd h6 h7
                    rw [hw] at this
                    cases this
                    exact hg1 Y p hp
                rw [hnone] at hq ⊢
                exact hq
              | some pj =>
                rw [lkX_in hnd (by rw [hX', if_neg hji]; exact hxj) h4 h5 hoj] at hq
                rw [lkX_in hnd hxj h4 h5 hoj]
                exact hq
        cases hd : o.dst with
        | none => exact hother (fun d hd' => by rw [hd] at hd'; cases hd')
        | some d =>
          by_cases htd : t = d
          · subst htd
            cases p with
            | some p =>
              rw [lkX_in hnd (by rw [hX', if_pos rfl]) ho hd hp] at hq
              simpa [lkPut] using hq
            | none =>
              exfalso
              have hnone : (D.sX X').lk t = D.env0.lookup t := by
                refine (lookup_filterMap (n := 0) (g := D.gX X') (rest := D.env0) (List.range D.ops.size) fun i _ p hp i' _ p' hp' => ?_).2 fun i' _ p hp' => ?_
                · obtain ⟨-, o2, h6, h7, -⟩ := gX_some hp
                  obtain ⟨-, o2', h6', h7', -⟩ := gX_some hp'
                  exact Option.some.inj ((nodup_writer hnd h6 h7).symm.trans (nodup_writer hnd h6' h7'))
                · obtain ⟨-, o2, h6, h7, h8⟩ := gX_some hp'
                  have h9 := (nodup_writer hnd h6 h7).symm.trans (nodup_writer hnd ho hd)
                  cases h9
                  rw [hp] at h8
                  cases h8
              rw [hnone, hpn rfl t hd] at hq
              cases hq
          · have := hother (fun d' hd' => by rw [hd] at hd'; cases hd'; exact htd)
            simp [lkPut, htd, this]
      have cont : ∀ m1 a1 w1, RA C n (D.sX X') m1 a1 w1 → wpAny P .any D.ops (fun e a' w' => ∃ s' m', Q e s' ∧ RA C n s' m' a' w') fuel X' a1 w1 := fun m1 a1 w1 hr1 => ih X' m1 a1 w1 hs' hcnt hcl' hr1
      have hwant : (D.want o = some true → Region.wanted o (yielded D.ops a.tmps) = true) ∧ (D.want o = some false → Region.wanted o (yielded D.ops a.tmps) = false) := by
        unfold Draw.want Region.wanted
        cases hgd : o.guard with
        | none => simp
        | some x =>
          obtain ⟨j, b⟩ := x
          have h3 := hops i (by simpa using hi)
          unfold Draw.okOp at h3
          rw [ho] at h3
          simp only [hgd, Bool.and_eq_true] at h3
          obtain ⟨h4, h5⟩ := h3.2
          cases hoj : D.ops[j]? with
          | none => simp [hoj] at h5
          | some oj =>
            simp only [hoj] at h5
            obtain ⟨d, hd⟩ := Option.isSome_iff_exists.1 h5
            simp only
            split
            · rename_i v hv
              have hlkj := lkX_in hnd (hanc j h4) hoj hd hv
              rw [hr.yielded (ops := D.ops) (j := j) (d := d) (b := v) (by simp [hoj, hd]) hlkj]
              constructor <;> intro h6 <;> simpa using h6
            · rename_i hv
              have hlkj := lkX_in hnd (hanc j h4) hoj hd hv
              have hy : yielded D.ops a.tmps j = none := by
                obtain ⟨v, hv, vs, rfl, hl⟩ := hr.env d _ hlkj
                simp [Go.yielded, hoj, hd, hv]
              rw [hy]
              simp
            · simp
      unfold wpOp
      simp only [ho]
      have hsame : ∀ (hne : i ∉ D.effs), D.cnt X' = D.cnt X := fun hne => by
        unfold Draw.cnt
        have : ∀ l : List Nat, i ∉ l → (l.takeWhile fun e => X'.getD e false) = l.takeWhile fun e => X.getD e false := by
          intro l
          induction l with
          | nil => intro _; rfl
          | cons x l ihl =>
            intro hl
            have hx : x ≠ i := fun e => hl (by simp [e])
            rw [List.takeWhile_cons, List.takeWhile_cons, hX', if_neg hx, ihl (fun hm => hl (by simp [hm]))]
        rw [this _ hne]
      have hals : (D.alloc ≠ some i) → D.alX X' = D.alX X := fun hne => by
        unfold Draw.alX
        cases hq : D.alloc with
        | none => rfl
        | some j => simp only; rw [hX', if_neg (fun e => hne (by rw [hq, e]))]
      have hput : ∀ (st : Sto) (p : PV) t q, lkPut o.dst (some p) (D.sX X).lk t = some q → ((⟨(D.sX X).env, st⟩ : AS).putO o.dst p).lk t = some q := fun st p t q hq => by
        cases hd : o.dst with
        | none => rw [hd] at hq; exact hq
        | some d =>
          rw [hd] at hq
          show ((⟨(D.sX X).env, st⟩ : AS).put d p).lk t = some q
          rw [AS.lk_put]
          exact hq
      have hpst : ∀ (st : Sto) (p : PV), ((⟨(D.sX X).env, st⟩ : AS).putO o.dst p).st = st := fun st p => by cases o.dst <;> rfl
      unfold Draw.okKind at hkind
      rcases hstep i o ho with ⟨hw, hdo⟩ | ⟨hw, ⟨lo, hi', hk⟩, hsk⟩
      · rw [if_pos (hwant.1 hw)]
        refine .inl ?_
        unfold Draw.does at hdo
        cases hk : D.kind i with
        | q lo hi' =>
          simp only [hk, Bool.and_eq_true, decide_eq_true_eq, List.all_eq_true, Bool.not_eq_true', bne_iff_ne, ne_eq] at hkind hdo
          obtain ⟨⟨⟨⟨⟨k1, k2⟩, k3⟩, k4⟩, k5⟩, k6⟩ := hkind
          have hlo : lo ≤ D.cnt X := takeWhile_ge (fun e he => hanc e (k3 e he)) (by omega)
          have hhi : D.cnt X ≤ hi' := takeWhile_le fun e he => hnanc e (k4 e (by
            obtain ⟨hlt, rfl⟩ := List.getElem?_eq_some_iff.1 he
            exact List.mem_drop_iff_getElem.2 ⟨0, by simpa using hlt, by simp⟩))
          obtain ⟨p, hp, hop⟩ := hdo (D.sX X) (D.cnt X) (D.alX X) hlo hhi rfl hlk
          refine hop m a w hr _ _ fun m' a' w' h9 => cont m' a' w' (done _ m' a' w' (some p) h9 hp ?_ (hput _ p) (fun e => by cases e))
          rw [hsame (by simpa using k5), hals k6]
          exact hpst _ p
        | al =>
          simp only [hk, Bool.and_eq_true, beq_iff_eq, Bool.not_eq_true'] at hkind hdo
          obtain ⟨k1, k2⟩ := hkind
          have ha : D.alX X = false := by unfold Draw.alX; rw [k1]; exact hXi
          obtain ⟨p, hp, hop⟩ := hdo (D.sX X) (D.cnt X) (by show D.F _ _ = _; rw [ha])
          refine hop m a w hr _ _ fun m' a' w' h9 => cont m' a' w' (done _ m' a' w' (some p) h9 hp ?_ (hput _ p) (fun e => by cases e))
          have ha' : D.alX X' = true := by unfold Draw.alX; rw [k1]; simp only; rw [hX', if_pos rfl]
          rw [hsame (by simpa using k2), ha']
          exact hpst _ p
        | ef j =>
          simp only [hk, Bool.and_eq_true, beq_iff_eq, List.all_eq_true, bne_iff_ne, ne_eq] at hkind hdo
          obtain ⟨⟨⟨k1, k2⟩, k3⟩, k4⟩ := hkind
          have hjl := get_lt k1
          have hc1 : D.cnt X = j := takeWhile_len (fun e he => hanc e (k2 e he)) (fun e he => by rw [k1] at he; cases he; exact hXi) (by omega)
          have hc2 : D.cnt X' = j + 1 := takeWhile_len (fun e he => by
              rw [hX']
              split
              · rfl
              · rename_i hne
                rw [List.take_add_one, k1] at he
                simp only [Option.toList_some, List.mem_append, List.mem_singleton] at he
                rcases he with he | he
                · exact hanc e (k2 e he)
                · exact absurd he hne) (fun e he => by
              have hm : e ∈ D.effs.drop (j + 1) := by
                obtain ⟨hlt, rfl⟩ := List.getElem?_eq_some_iff.1 he
                exact List.mem_drop_iff_getElem.2 ⟨0, by simpa using hlt, by simp⟩
              obtain ⟨h3, h4⟩ := k3 e hm
              rw [hX', if_neg h4]
              exact hnanc e h3) (by omega)
          have ha := hals k4
          rcases hdo (D.sX X) (D.alX X) (by show D.F _ _ = _; rw [hc1]) hlk with ⟨p, hp, hop⟩ | ⟨hd, hop⟩
          · refine hop m a w hr _ _ fun m' a' w' h9 => cont m' a' w' (done _ m' a' w' (some p) h9 hp ?_ (hput _ p) (fun e => by cases e))
            rw [hc2, ha]
            exact hpst _ p
          · refine hop m a w hr _ _ fun m' a' w' h9 => cont m' a' w' (done _ m' a' w' (D.out i) h9 rfl ?_ (fun t q hq => ?_) (fun _ d hd' => by rw [hd] at hd'; cases hd'))
            · rw [hc2, ha]
            · rw [hd] at hq; exact hq
      · rw [if_neg (by rw [hwant.2 hw]; simp)]
        simp only [hk, Bool.and_eq_true, decide_eq_true_eq, List.all_eq_true, Bool.not_eq_true', bne_iff_ne, ne_eq] at hkind
        obtain ⟨⟨⟨⟨⟨k1, k2⟩, k3⟩, k4⟩, k5⟩, k6⟩ := hkind
        rcases hsk.symm with ⟨hout, hdl⟩ | ⟨hout, hdn⟩
        · refine cont m _ w (done ((D.sX X).putO o.dst (.tup [])) m _ w (some (.tup [])) (hr.put (v := undef) (dstOk_lt hdl) ⟨[], rfl, trivial⟩) hout ?_ (hput _ _) (fun e => by cases e))
          rw [hsame (by simpa using k5), hals k6]
          exact hpst _ _
        refine cont m _ w (done ((D.sX X).delO o.dst) m _ w none (hr.del o.dst undef) hout ?_ (fun t q hq => ?_) (fun _ => hdn))
        · rw [hsame (by simpa using k5), hals k6]
          cases o.dst <;> rfl
        · cases hd : o.dst with
          | none => rw [hd] at hq; exact hq
          | some d =>
            rw [hd] at hq
            simp only [lkPut] at hq
            split at hq
            · cases hq
            · rename_i htd
              show ((D.sX X).env.filter (fun x => x.1 != d)).lookup t = some q
              have hq : (D.sX X).env.lookup t = some q := hq
              revert hq
              generalize (D.sX X).env = l
              induction l with
              | nil => simp
              | cons y l ihl =>
                obtain ⟨k, v⟩ := y
                intro hq
                rw [List.lookup_cons] at hq
                by_cases hkd : k = d
                · subst hkd
                  rw [show (t == k) = false by simp [htd]] at hq
                  rw [List.filter_cons, if_neg (by simp)]
                  exact ihl hq
                · rw [List.filter_cons, if_pos (by simp [hkd]), List.lookup_cons]
                  by_cases htk : t = k
                  · subst htk
                    simpa using hq
                  · rw [show (t == k) = false by simp [htk]] at hq ⊢
                    exact ihl hq
  have h0 : RA C n (D.sX (Array.replicate D.ops.size false)) m a { w with drawn := w.drawn + 1 } := by
    refine RA.congr (drawnW hr) ?_ fun t p hp => ?_
    · show s.st = D.F (D.cnt _) (D.alX _)
      have e1 : D.cnt (Array.replicate D.ops.size false) = 0 := takeWhile_len (by simp) (fun e _ => by simp [Array.getD_eq_getD_getElem?, Array.getElem?_replicate]; split <;> rfl) (Nat.zero_le _)
      have e2 : D.alX (Array.replicate D.ops.size false) = false := by
        unfold Draw.alX
        cases D.alloc with
        | none => rfl
        | some i => simp [Array.getD_eq_getD_getElem?, Array.getElem?_replicate]; split <;> rfl
      rw [e1, e2]
      exact hst
    · rw [lkX_out hnd (fun i _ => by simp [Array.getD_eq_getD_getElem?, Array.getElem?_replicate]; split <;> rfl)] at hp
      unfold AS.lk
      rw [henv]
      exact hp
  exact key D.ops.size (Array.replicate D.ops.size false) m a _ (by simp) (by omega) (fun j o hj => by
    exfalso
    revert hj
    simp [Array.getD_eq_getD_getElem?, Array.getElem?_replicate]
    split <;> simp) h0
end
end Go.Proofs.Ytmpepccpnnldoaa

namespace Go.Proofs.Ytmpepccpnnldoaa
set_option linter.unusedSimpArgs false
set_option linter.unusedVariables false
open Go.RowKit Go.WalkArith Go.IntWalk Go.WideShapes

mutual
/-- The callee's numbers, told in the caller's. -/
def PV.ren (fb fr : List Nat) : PV → PV
  | .t t => .t t
  | .agg cs => .agg (renL fb fr cs)
  | .tup cs => .tup (renL fb fr cs)
  | .nil => .nil
  | .acc sz es r => .acc sz es (fr.getD r 0)
  | .ptr k d => .ptr (fb.getD k 0) d
  | .eptr cs => .eptr cs
  | .fn f cs => .fn f (renL fb fr cs)
  | .full sz n r => .full sz n (fr.getD r 0)
  | .rptr r i => .rptr (fr.getD r 0) i
  | .lit sz es => .lit sz es
  | .bsl k n => .bsl (fb.getD k 0) n
  | .gsl k n => .gsl (fb.getD k 0) n
def renL (fb fr : List Nat) : List PV → List PV
  | [] => []
  | p :: ps => PV.ren fb fr p :: renL fb fr ps
end
def PBox.ren (fb fr : List Nat) (x : PBox) : PBox := ⟨x.ty, renL fb fr x.cells⟩
def Lay.via (m : Lay) (fb fr : List Nat) : Lay := ⟨fun k => m.ρ (fb.getD k 0), fun r => m.γ (fr.getD r 0)⟩

/-- The store 'pre', as a part of ours. -/
structure Part0 (s pre : Sto) (fb fr : List Nat) : Prop where
  fbl : fb.length = pre.boxes.length
  frl : fr.length = pre.rows.length
  fbn : fb.Nodup
  frn : fr.Nodup
  all : ∀ k, k < pre.boxes.length → ∃ x, pre.boxes[k]? = some (some x)
  box : ∀ k x, pre.boxes[k]? = some (some x) → ∃ y, s.boxes[fb.getD k 0]? = some (some y) ∧ y.ty = x.ty ∧ LeL y.cells (renL fb fr x.cells) ∧ okInL pre x.cells = true
  row : ∀ r row, pre.rows[r]? = some row → s.rows[fr.getD r 0]? = some row
def idx? (l : List Nat) (i : Nat) : Option Nat := l.findIdx? (· == i)
def Sto.over (s st' : Sto) (fb fr : List Nat) : Sto :=
  ⟨s.boxes.zipIdx.map fun (b, i) => match idx? fb i with | some j => (st'.boxes.getD j none).map (PBox.ren fb fr) | none => b,
   s.rows.zipIdx.map fun (row, i) => match idx? fr i with | some j => st'.rows.getD j row | none => row⟩

theorem idx?_some {l : List Nat} {i j : Nat} (h : idx? l i = some j) : l[j]? = some i := by
  unfold idx? at h
  obtain ⟨h1, h2, -⟩ := List.findIdx?_eq_some_iff_getElem.1 h
  rw [List.getElem?_eq_getElem h1]
  simpa using h2
theorem idx?_none {l : List Nat} {i : Nat} (h : idx? l i = none) : ∀ (j : Nat), l[j]? ≠ some i := fun j hj => by
  unfold idx? at h
  rw [List.findIdx?_eq_none_iff] at h
  have := h i (List.mem_of_getElem? hj)
  simp at this
theorem idx?_of {l : List Nat} (hn : l.Nodup) {i j : Nat} (h : l[j]? = some i) : idx? l i = some j := by
  cases hq : idx? l i with
  | none => exact absurd h (idx?_none hq j)
  | some j' =>
    have h2 := idx?_some hq
    obtain ⟨hl, he⟩ := List.getElem?_eq_some_iff.1 h
    obtain ⟨hl', he'⟩ := List.getElem?_eq_some_iff.1 h2
    have hp := List.pairwise_iff_getElem.1 hn
    rcases Nat.lt_trichotomy j' j with hlt | heq | hgt
    · exact absurd (he'.trans he.symm) (hp j' j hl' hl hlt)
    · rw [heq]
    · exact absurd (he.trans he'.symm) (hp j j' hl hl' hgt)
theorem getD_get {l : List Nat} {k : Nat} (h : k < l.length) : l[k]? = some (l.getD k 0) := by
  simp [List.getD_eq_getElem?_getD, List.getElem?_eq_getElem h]

mutual
theorem RV.unren {ok ok' : Nat → Nat → Prop} {s pre : Sto} {m : Lay} {w : World} {fb fr : List Nat} (h : Part0 s pre fb fr) (hk : ∀ b o, b < w.heap.size → ok b o → ok' b o) : ∀ (p : PV) (v : Value), PV.okIn pre p = true → RV ok s m w (PV.ren fb fr p) v → RV ok' pre (m.via fb fr) w p v
  | .t t, v, _, hr => RepM.mono hr (Nat.le_refl _) hk (fun _ _ _ _ => rfl)
  | .agg cs, v, hi, hr => by
    obtain ⟨vs, hv, hl⟩ := hr
    exact ⟨vs, hv, RVL.unren h hk cs vs hi hl⟩
  | .tup cs, v, hi, hr => by
    obtain ⟨vs, hv, hl⟩ := hr
    exact ⟨vs, hv, RVL.unren h hk cs vs hi hl⟩
  | .nil, v, _, hr => hr
  | .acc sz es r, v, hi, hr => by
    obtain ⟨row, h1, h2, h3, h4, h5⟩ := hr
    obtain ⟨row', hr'⟩ := get_of_lt (of_decide_eq_true hi)
    have := h.row r row' hr'
    rw [h1] at this
    cases this
    exact ⟨row, hr', h2, h3, RepM.mono h4 (Nat.le_refl _) hk (fun _ _ _ _ => rfl), h5⟩
  | .ptr k d, v, hi, hr => by
    obtain ⟨-, hv⟩ := hr
    refine ⟨?_, hv⟩
    simp only [PV.okIn] at hi
    split at hi
    · rename_i x hx
      exact ⟨x, hx⟩
    · cases hi
  | .eptr cs, v, _, hr => by
    obtain ⟨b, off, h1, hb, c, h2⟩ := hr
    refine ⟨b, off, h1, hb, c, fun j d hd => ?_⟩
    obtain ⟨k1, k2, k3⟩ := h2 j d hd
    exact ⟨hk _ _ hb k1, k2, RepM.mono k3 (Nat.le_refl _) hk (fun _ _ _ _ => rfl)⟩
  | .fn f cs, v, hi, hr => by
    obtain ⟨vs, hv, hl⟩ := hr
    exact ⟨vs, hv, RVL.unren h hk cs vs hi hl⟩
  | .full sz n r, v, hi, hr => by
    obtain ⟨row, g, h1, h2, h3, h4, h5⟩ := hr
    obtain ⟨row', hr'⟩ := get_of_lt (of_decide_eq_true hi)
    have := h.row r row' hr'
    rw [h1] at this
    cases this
    exact ⟨row, g, hr', h2, h3, h4, h5⟩
  | .rptr r i, v, hi, hr => by
    obtain ⟨row, g, n, h1, h3, h4, h5⟩ := hr
    obtain ⟨row', hr'⟩ := get_of_lt (of_decide_eq_true hi)
    have := h.row r row' hr'
    rw [h1] at this
    cases this
    exact ⟨row, g, n, hr', h3, h4, h5⟩
  | .lit sz es, v, _, hr => ⟨RepM.mono hr.1 (Nat.le_refl _) hk (fun _ _ _ _ => rfl), hr.2⟩
  | .bsl k n, v, hi, hr => by
    obtain ⟨-, hv⟩ := hr
    refine ⟨?_, hv⟩
    simp only [PV.okIn] at hi
    split at hi
    · rename_i x hx
      exact ⟨x, hx⟩
    · cases hi
  | .gsl k n, v, hi, hr => by
    obtain ⟨-, hv⟩ := hr
    refine ⟨?_, hv⟩
    simp only [PV.okIn] at hi
    split at hi
    · rename_i x hx
      exact ⟨x, hx⟩
    · cases hi
theorem RVL.unren {ok ok' : Nat → Nat → Prop} {s pre : Sto} {m : Lay} {w : World} {fb fr : List Nat} (h : Part0 s pre fb fr) (hk : ∀ b o, b < w.heap.size → ok b o → ok' b o) : ∀ (ps : List PV) (vs : List Value), okInL pre ps = true → RVL ok s m w (renL fb fr ps) vs → RVL ok' pre (m.via fb fr) w ps vs
  | [], [], _, hr => hr
  | p :: ps, v :: vs, hi, hr => by
    simp only [okInL, Bool.and_eq_true] at hi
    exact ⟨RV.unren h hk p v hi.1 hr.1, RVL.unren h hk ps vs hi.2 hr.2⟩
  | [], _ :: _, _, hr => hr.elim
  | _ :: _, [], _, hr => hr.elim
end

/-- What the callee tells of its numbers holds of ours. -/
structure Back (st' s1 : Sto) (m' m1 : Lay) (fb fr : List Nat) : Prop where
  box : ∀ k x, st'.boxes[k]? = some (some x) → (∃ y, s1.boxes[fb.getD k 0]? = some (some y)) ∧ m1.ρ (fb.getD k 0) = m'.ρ k
  row : ∀ r row, st'.rows[r]? = some row → s1.rows[fr.getD r 0]? = some row ∧ m1.γ (fr.getD r 0) = m'.γ r
mutual
theorem RV.ren {ok ok' : Nat → Nat → Prop} {st' s1 : Sto} {m' m1 : Lay} {w : World} {fb fr : List Nat} (h : Back st' s1 m' m1 fb fr) (hk : ∀ b o, b < w.heap.size → ok b o → ok' b o) : ∀ (p : PV) (v : Value), RV ok st' m' w p v → RV ok' s1 m1 w (PV.ren fb fr p) v
  | .t t, v, hr => RepM.mono hr (Nat.le_refl _) hk (fun _ _ _ _ => rfl)
  | .agg cs, v, hr => by
    obtain ⟨vs, hv, hl⟩ := hr
    exact ⟨vs, hv, RVL.ren h hk cs vs hl⟩
  | .tup cs, v, hr => by
    obtain ⟨vs, hv, hl⟩ := hr
    exact ⟨vs, hv, RVL.ren h hk cs vs hl⟩
  | .nil, v, hr => hr
  | .acc sz es r, v, hr => by
    obtain ⟨row, h1, h2, h3, h4, h5⟩ := hr
    obtain ⟨k1, k2⟩ := h.row r row h1
    exact ⟨row, k1, h2, h3, RepM.mono h4 (Nat.le_refl _) hk (fun _ _ _ _ => rfl), fun e => by rw [k2]; exact h5 e⟩
  | .ptr k d, v, hr => by
    obtain ⟨⟨x, hx⟩, hv⟩ := hr
    obtain ⟨k1, k2⟩ := h.box k x hx
    exact ⟨k1, by rw [k2]; exact hv⟩
  | .eptr cs, v, hr => by
    obtain ⟨b, off, h1, hb, c, h2⟩ := hr
    refine ⟨b, off, h1, hb, c, fun j d hd => ?_⟩
    obtain ⟨k1, k2, k3⟩ := h2 j d hd
    exact ⟨hk _ _ hb k1, k2, RepM.mono k3 (Nat.le_refl _) hk (fun _ _ _ _ => rfl)⟩
  | .fn f cs, v, hr => by
    obtain ⟨vs, hv, hl⟩ := hr
    exact ⟨vs, hv, RVL.ren h hk cs vs hl⟩
  | .full sz n r, v, hr => by
    obtain ⟨row, g, h1, h2, h3, h4, h5⟩ := hr
    obtain ⟨k1, k2⟩ := h.row r row h1
    exact ⟨row, g, k1, h2, h3, by rw [k2]; exact h4, h5⟩
  | .rptr r i, v, hr => by
    obtain ⟨row, g, n, h1, h3, h4, h5⟩ := hr
    obtain ⟨k1, k2⟩ := h.row r row h1
    exact ⟨row, g, n, k1, h3, by rw [k2]; exact h4, h5⟩
  | .lit sz es, v, hr => ⟨RepM.mono hr.1 (Nat.le_refl _) hk (fun _ _ _ _ => rfl), hr.2⟩
  | .bsl k n, v, hr => by
    obtain ⟨⟨x, hx⟩, hv⟩ := hr
    obtain ⟨k1, k2⟩ := h.box k x hx
    exact ⟨k1, by rw [k2]; exact hv⟩
  | .gsl k n, v, hr => by
    obtain ⟨⟨x, hx⟩, hv⟩ := hr
    obtain ⟨k1, k2⟩ := h.box k x hx
    exact ⟨k1, by rw [k2]; exact hv⟩
theorem RVL.ren {ok ok' : Nat → Nat → Prop} {st' s1 : Sto} {m' m1 : Lay} {w : World} {fb fr : List Nat} (h : Back st' s1 m' m1 fb fr) (hk : ∀ b o, b < w.heap.size → ok b o → ok' b o) : ∀ (ps : List PV) (vs : List Value), RVL ok st' m' w ps vs → RVL ok' s1 m1 w (renL fb fr ps) vs
  | [], [], hr => hr
  | p :: ps, v :: vs, hr => ⟨RV.ren h hk p v hr.1, RVL.ren h hk ps vs hr.2⟩
  | [], _ :: _, hr => hr.elim
  | _ :: _, [], hr => hr.elim
end

/-- The callee's view: what it is not handed is shut. -/
def shutP (av : Nat → Nat → Prop) (s pre : Sto) (m : Lay) (fb fr : List Nat) (w : World) (b o : Nat) : Prop :=
  b < w.heap.size ∧ ¬ okA av s m b o ∧ (∀ k x, pre.boxes[k]? = some (some x) → m.ρ (fb.getD k 0) ≠ b) ∧ (∀ r row g c, pre.rows[r]? = some row → m.γ (fr.getD r 0) = some (g, c) → g ≠ b)

section
variable {av : Nat → Nat → Prop} {s pre : Sto} {m : Lay} {fb fr : List Nat} {w : World}

theorem Part0.ok (h : Part0 s pre fb fr) {b o : Nat} (k : okA av s m b o) : okA (shutP av s pre m fb fr w) pre (m.via fb fr) b o :=
  ⟨fun hs => hs.2.1 k, fun i x hi => by obtain ⟨y, hy, -⟩ := h.box i x hi; exact k.2.1 _ y hy, fun r row g c hr hg e => k.2.2 _ row g c (h.row r row hr) hg e⟩

theorem Part0.sto (h : Part0 s pre fb fr) (hs : StoOk av s m w) : StoOk (shutP av s pre m fb fr w) pre (m.via fb fr) w where
  box := fun k x hk => by
    obtain ⟨y, hy, ht, hl, ho⟩ := h.box k x hk
    obtain ⟨vs, h1, h2⟩ := hs.box _ y hy
    exact ⟨vs, by rw [← ht]; exact h1, RVL.unren h (fun b o _ k => h.ok k) _ _ ho (LeL.rv hl h2)⟩
  binj := fun k k' x x' hk hk' hne => by
    obtain ⟨y, hy, -⟩ := h.box k x hk
    obtain ⟨y', hy', -⟩ := h.box k' x' hk'
    refine hs.binj _ _ y y' hy hy' fun e => hne ?_
    have h1 := getD_get (l := fb) (k := k) (by rw [h.fbl]; exact get_lt hk)
    have h2 := getD_get (l := fb) (k := k') (by rw [h.fbl]; exact get_lt hk')
    rw [e] at h1
    exact Option.some.inj ((idx?_of h.fbn h1).symm.trans (idx?_of h.fbn h2))
  row := fun r row hr => by
    obtain ⟨h1, h2, h3⟩ := hs.row _ row (h.row r row hr)
    refine ⟨h1, h2, ?_⟩
    rcases h3 with h3 | ⟨g, c, cur, q1, q2, q3, q4, q5, q6⟩
    · exact .inl h3
    · exact .inr ⟨g, c, cur, q1, q2, q3, q4, q5, RepM.mono q6 (Nat.le_refl _) (fun b o _ k => h.ok k) (fun _ _ _ _ => rfl)⟩
  rinj := fun r r' row row' g c c' hr hr' hg hg' => by
    have e := hs.rinj _ _ row row' g c c' (h.row r row hr) (h.row r' row' hr') hg hg'
    have h1 := getD_get (l := fr) (k := r) (by rw [h.frl]; exact get_lt hr)
    have h2 := getD_get (l := fr) (k := r') (by rw [h.frl]; exact get_lt hr')
    rw [e] at h1
    exact Option.some.inj ((idx?_of h.frn h1).symm.trans (idx?_of h.frn h2))
  br := fun k x r row g c hk hr hg => by
    obtain ⟨y, hy, -⟩ := h.box k x hk
    exact hs.br _ y _ row g c hy (h.row r row hr) hg
  avlt := fun b o hb => hb.1
  avr := fun r row g c hr hg o ho => ho.2.2.2 r row g c hr hg rfl
  avb := fun k x hk o ho => ho.2.2.1 k x hk rfl

variable {st' : Sto} {m' : Lay} {w' : World}
def Lay.over (m m' : Lay) (fr : List Nat) : Lay := ⟨m.ρ, fun i => match idx? fr i with | some j => m'.γ j | none => m.γ i⟩

theorem over_box {i : Nat} {z : PBox} (h : (s.over st' fb fr).boxes[i]? = some (some z)) : (∃ (j : Nat) (x : PBox), fb[j]? = some i ∧ st'.boxes[j]? = some (some x) ∧ z = x.ren fb fr ∧ i < s.boxes.length) ∨ (idx? fb i = none ∧ s.boxes[i]? = some (some z)) := by
  unfold Sto.over at h
  simp only [List.getElem?_map, List.getElem?_zipIdx] at h
  cases hs : s.boxes[i]? with
  | none => simp [hs] at h
  | some b =>
    simp only [hs, Option.map_some, Nat.zero_add, Option.some.injEq] at h
    split at h
    · rename_i j hj
      left
      cases hx : st'.boxes[j]? with
      | none => simp [List.getD_eq_getElem?_getD, hx] at h
      | some ox =>
        cases ox with
        | none => simp [List.getD_eq_getElem?_getD, hx] at h
        | some x =>
          simp [List.getD_eq_getElem?_getD, hx] at h
          exact ⟨j, x, idx?_some hj, hx, h.symm, get_lt hs⟩
    · rename_i hj
      exact .inr ⟨hj, by rw [h]⟩
theorem over_row {i : Nat} {z : PRow} (h : (s.over st' fb fr).rows[i]? = some z) (hl : fr.length ≤ st'.rows.length) : (∃ (j : Nat), fr[j]? = some i ∧ st'.rows[j]? = some z ∧ i < s.rows.length) ∨ (idx? fr i = none ∧ s.rows[i]? = some z) := by
  unfold Sto.over at h
  simp only [List.getElem?_map, List.getElem?_zipIdx] at h
  cases hs : s.rows[i]? with
  | none => simp [hs] at h
  | some b =>
    simp only [hs, Option.map_some, Nat.zero_add, Option.some.injEq] at h
    split at h
    · rename_i j hj
      left
      have hj' := idx?_some hj
      have hlt : j < st'.rows.length := Nat.lt_of_lt_of_le (get_lt hj') hl
      refine ⟨j, hj', ?_, get_lt hs⟩
      rw [List.getElem?_eq_getElem hlt, ← h]
      simp [List.getD_eq_getElem?_getD, hlt]
    · rename_i hj
      exact .inr ⟨hj, by rw [h]⟩

/-- All of it, behind the call. -/
theorem over_all (h : Part0 s pre fb fr) (hs : StoOk av s m w) (hst : StoOk (shutP av s pre m fb fr w) st' m' w') (he : Ev pre (m.via fb fr) w st' m' w') (hbl : st'.boxes.length = pre.boxes.length) (hrl : st'.rows.length = pre.rows.length) :
    Ev s m w (s.over st' fb fr) (m.over m' fr) w' ∧ StoOk av (s.over st' fb fr) (m.over m' fr) w' ∧ Back st' (s.over st' fb fr) m' (m.over m' fr) fb fr ∧ (∀ b o, b < w'.heap.size → okA (shutP av s pre m fb fr w) st' m' b o → okA av (s.over st' fb fr) (m.over m' fr) b o) := by
  have hfrl : fr.length ≤ st'.rows.length := by rw [hrl, h.frl]; exact Nat.le_refl _
  -- boxes that were handed over
  have pb : ∀ (i j : Nat), fb[j]? = some i → ∃ (x y : PBox), pre.boxes[j]? = some (some x) ∧ s.boxes[i]? = some (some y) ∧ fb.getD j 0 = i ∧ m'.ρ j = m.ρ i ∧ ∃ x' : PBox, st'.boxes[j]? = some (some x') := fun i j hj => by
    obtain ⟨x, hx⟩ := h.all j (by rw [← h.fbl]; exact get_lt hj)
    obtain ⟨y, hy, -⟩ := h.box j x hx
    have e : fb.getD j 0 = i := by simp [List.getD_eq_getElem?_getD, hj]
    rw [e] at hy
    obtain ⟨h1, h2⟩ := he.live j x hx
    exact ⟨x, y, hx, hy, e, by rw [h2]; show m.ρ (fb.getD j 0) = _; rw [e], h1⟩
  have pr : ∀ (i j : Nat), fr[j]? = some i → ∃ row : PRow, pre.rows[j]? = some row ∧ s.rows[i]? = some row ∧ fr.getD j 0 = i := fun i j hj => by
    obtain ⟨row, hrow⟩ := get_of_lt (l := pre.rows) (i := j) (by rw [← h.frl]; exact get_lt hj)
    have e : fr.getD j 0 = i := by simp [List.getD_eq_getElem?_getD, hj]
    have := h.row j row hrow
    rw [e] at this
    exact ⟨row, hrow, this, e⟩
  have hγ : ∀ (i j : Nat), fr[j]? = some i → (m.over m' fr).γ i = m'.γ j := fun i j hj => by
    unfold Lay.over
    simp only [idx?_of h.frn hj]
  have hγn : ∀ i, idx? fr i = none → (m.over m' fr).γ i = m.γ i := fun i hi => by
    unfold Lay.over
    simp only [hi]
  have lv : ∀ i z, (s.over st' fb fr).boxes[i]? = some (some z) → ∃ y, s.boxes[i]? = some (some y) := fun i z hi => by
    rcases over_box hi with ⟨j, x, h1, -⟩ | ⟨-, h2⟩
    · obtain ⟨-, y, -, hy, -⟩ := pb i j h1
      exact ⟨y, hy⟩
    · exact ⟨z, h2⟩
  -- where a row lies
  have rp : ∀ i z g c, (s.over st' fb fr).rows[i]? = some z → (m.over m' fr).γ i = some (g, c) → (∃ row c0, s.rows[i]? = some row ∧ m.γ i = some (g, c0)) ∨ w.heap.size ≤ g := fun i z g c hi hg => by
    rcases over_row hi hfrl with ⟨j, h1, h2, -⟩ | ⟨h1, h2⟩
    · rw [hγ i j h1] at hg
      obtain ⟨row, hr1, hr2, e⟩ := pr i j h1
      rcases he.rfresh j z g c h2 hg with ⟨row0, c0, k1, k2⟩ | k
      · refine .inl ⟨row, c0, hr2, ?_⟩
        have k2 : m.γ (fr.getD j 0) = some (g, c0) := k2
        rw [e] at k2
        exact k2
      · exact .inr k
    · rw [hγn i h1] at hg
      exact .inl ⟨z, c, h2, hg⟩
  have okk : ∀ b o, b < w.heap.size → s.ok m b o → (s.over st' fb fr).ok (m.over m' fr) b o := fun b o hb hk => by
    have hp : pre.ok (m.via fb fr) b o := (h.ok (av := fun _ _ => False) (w := w) ⟨id, hk⟩).2
    have hp' := he.okk b o hb hp
    refine ⟨fun i z hi => ?_, fun i z g c hi hg e => ?_⟩
    · obtain ⟨y, hy⟩ := lv i z hi
      exact hk.1 i y hy
    · rcases over_row hi hfrl with ⟨j, h1, h2, -⟩ | ⟨h1, h2⟩
      · rw [hγ i j h1] at hg
        exact hp'.2 j z g c h2 hg e
      · rw [hγn i h1] at hg
        exact hk.2 i z g c h2 hg e
  have ev : Ev s m w (s.over st' fb fr) (m.over m' fr) w' := by
    refine ⟨he.os, he.tape, he.output, he.size, fun b hb h1 h2 => he.blk b hb (fun k x hk => ?_) (fun r row g c hr hg => ?_), fun b o hb hk => he.cell b o hb (h.ok (av := fun _ _ => False) (w := w) ⟨id, hk⟩).2, okk, fun i y hi => ⟨?_, rfl⟩, fun i z hi => .inl (lv i z hi), fun i row hi => ?_, rp⟩
    · obtain ⟨y, hy, -⟩ := h.box k x hk
      exact h1 _ y hy
    · exact h2 _ row g c (h.row r row hr) hg
    · cases hq : idx? fb i with
      | none => exact ⟨y, by unfold Sto.over; simp [List.getElem?_zipIdx, hi, hq]⟩
      | some j =>
        obtain ⟨-, -, -, -, -, -, x', hx'⟩ := pb i j (idx?_some hq)
        exact ⟨x'.ren fb fr, by unfold Sto.over; simp [List.getElem?_zipIdx, hi, hq, List.getD_eq_getElem?_getD, hx']⟩
    · cases hq : idx? fr i with
      | none => exact ⟨row, by unfold Sto.over; simp [List.getElem?_zipIdx, hi, hq], rfl, Nat.le_refl _, fun _ => hγn i hq, fun hw => ⟨hw, hγn i hq⟩⟩
      | some j =>
        have hj := idx?_some hq
        obtain ⟨row0, h1, h2, e⟩ := pr i j hj
        rw [hi] at h2
        cases h2
        obtain ⟨row', k1, k2, k3, k4, k5⟩ := he.rowl j row h1
        have e' : (m.via fb fr).γ j = m.γ i := by show m.γ (fr.getD j 0) = _; rw [e]
        refine ⟨row', by unfold Sto.over; simp [List.getElem?_zipIdx, hi, hq, List.getD_eq_getElem?_getD, k1], k2, k3, fun hl => ?_, fun hw => ⟨(k5 hw).1, ?_⟩⟩
        · rw [hγ i j hj, k4 hl, e']
        · rw [hγ i j hj, (k5 hw).2, e']
  have bk : Back st' (s.over st' fb fr) m' (m.over m' fr) fb fr := by
    refine ⟨fun k x hk => ?_, fun r row hr => ?_⟩
    · have hj := getD_get (l := fb) (k := k) (by rw [h.fbl, ← hbl]; exact get_lt hk)
      obtain ⟨x0, y, h1, h2, h3, h4, -⟩ := pb _ k hj
      clear h3
      generalize fb.getD k 0 = i at *
      exact ⟨⟨x.ren fb fr, by unfold Sto.over; simp [List.getElem?_zipIdx, h2, idx?_of h.fbn hj, List.getD_eq_getElem?_getD, hk]⟩, h4.symm⟩
    · have hj := getD_get (l := fr) (k := r) (by rw [h.frl, ← hrl]; exact get_lt hr)
      obtain ⟨row0, h1, h2, -⟩ := pr _ r hj
      generalize fr.getD r 0 = i at *
      exact ⟨by unfold Sto.over; simp [List.getElem?_zipIdx, h2, idx?_of h.frn hj, List.getD_eq_getElem?_getD, hr], hγ _ r hj⟩
  have hav : ∀ i z g c, (s.over st' fb fr).rows[i]? = some z → (m.over m' fr).γ i = some (g, c) → ∀ o, ¬ av g o := fun i z g c hi hg o ho => by
    rcases rp i z g c hi hg with ⟨row, c0, k1, k2⟩ | k
    · exact hs.avr i row g c0 k1 k2 o ho
    · have := hs.avlt _ _ ho; omega
  have back : ∀ b o, b < w'.heap.size → okA (shutP av s pre m fb fr w) st' m' b o → okA av (s.over st' fb fr) (m.over m' fr) b o := fun b o _ hk => by
    have hrow : ∀ i z g c, (s.over st' fb fr).rows[i]? = some z → (m.over m' fr).γ i = some (g, c) → g = b → idx? fr i ≠ none → o < z.es.length * z.sz := fun i z g c hi hg e hq => by
      rcases over_row hi hfrl with ⟨j, h1, h2, -⟩ | ⟨h1, -⟩
      · rw [hγ i j h1] at hg
        exact hk.2.2 j z g c h2 hg e
      · exact absurd h1 hq
    rcases Nat.lt_or_ge b w.heap.size with hlt | hge
    · by_cases hA : okA av s m b o
      · exact ⟨hA.1, okk b o hlt hA.2⟩
      · by_cases hB : ∃ k x, pre.boxes[k]? = some (some x) ∧ m.ρ (fb.getD k 0) = b
        · obtain ⟨k, x, h1, h2⟩ := hB
          obtain ⟨⟨x', h3⟩, h4⟩ := he.live k x h1
          exact absurd (h4.trans h2) (hk.2.1 k x' h3)
        · by_cases hR : ∃ r row g c, pre.rows[r]? = some row ∧ m.γ (fr.getD r 0) = some (g, c) ∧ g = b
          · obtain ⟨r, row, g, c, h1, h2, rfl⟩ := hR
            have hsr := h.row r row h1
            refine ⟨hs.avr _ row g c hsr h2 o, fun i z hi => ?_, fun i z g' c' hi hg e => ?_⟩
            · obtain ⟨y, hy⟩ := lv i z hi
              exact hs.br i y _ row g c hy hsr h2
            · refine hrow i z g' c' hi hg e fun hq => ?_
              rcases over_row hi hfrl with ⟨j, k1, -⟩ | ⟨k1, k2⟩
              · exact absurd k1 (idx?_none hq j)
              · rw [hγn i hq] at hg
                have := hs.rinj i _ z row g c' c k2 hsr (by rw [hg, e]) h2
                have hj := getD_get (l := fr) (k := r) (by rw [h.frl]; exact get_lt h1)
                rw [← this] at hj
                exact idx?_none hq r hj
          · exact absurd ⟨hlt, hA, fun k x h1 h2 => hB ⟨k, x, h1, h2⟩, fun r row g c h1 h2 h3 => hR ⟨r, row, g, c, h1, h2, h3⟩⟩ hk.1
    · refine ⟨fun ho => by have := hs.avlt _ _ ho; omega, fun i z hi => ?_, fun i z g c hi hg e => ?_⟩
      · obtain ⟨y, hy⟩ := lv i z hi
        have := hs.box_lt hy
        show m.ρ i ≠ b
        omega
      · refine hrow i z g c hi hg e fun hq => ?_
        rcases over_row hi hfrl with ⟨j, k1, -⟩ | ⟨k1, k2⟩
        · exact absurd k1 (idx?_none hq j)
        · rw [hγn i hq] at hg
          have := hs.row_lt k2 hg
          omega
  refine ⟨ev, ⟨fun i z hi => ?_, fun i i' z z' hi hi' hne => ?_, fun i z hi => ?_, fun i i' z z' g c c' hi hi' hg hg' => ?_, fun i z r row g c hi hr hg => ?_, fun b o hb => Nat.lt_of_lt_of_le (hs.avlt b o hb) he.size, hav, fun i z hi => by obtain ⟨y, hy⟩ := lv i z hi; exact hs.avb i y hy⟩, bk, back⟩
  · rcases over_box hi with ⟨j, x, h1, h2, rfl, -⟩ | ⟨h1, h2⟩
    · obtain ⟨-, -, -, -, -, h4, -⟩ := pb i j h1
      obtain ⟨vs, k1, k2⟩ := hst.box j x h2
      refine ⟨vs, ?_, RVL.ren bk back _ _ k2⟩
      show OBp w' (m.ρ i) _ _
      rw [← h4]
      exact k1
    · obtain ⟨vs, k1, k2⟩ := hs.box i z h2
      refine ⟨vs, k1.keep (he.blk _ k1.lt (fun k x hk => ?_) (fun r row g c hr hg e => ?_)), RVL.mono ev _ _ k2⟩
      · obtain ⟨y, hy, -⟩ := h.box k x hk
        have hj := getD_get (l := fb) (k := k) (by rw [h.fbl]; exact get_lt hk)
        exact hs.binj _ _ y z hy h2 (fun e => idx?_none h1 k (by rw [hj, e]))
      · exact hs.br i z _ row g c h2 (h.row r row hr) hg e.symm
  · obtain ⟨y, hy⟩ := lv i z hi
    obtain ⟨y', hy'⟩ := lv i' z' hi'
    exact hs.binj i i' y y' hy hy' hne
  · rcases over_row hi hfrl with ⟨j, h1, h2, -⟩ | ⟨h1, h2⟩
    · obtain ⟨k1, k2, k3⟩ := hst.row j z h2
      refine ⟨k1, k2, ?_⟩
      rw [hγ i j h1]
      rcases k3 with k3 | ⟨g, c, cur, q1, q2, q3, q4, q5, q6⟩
      · exact .inl k3
      · exact .inr ⟨g, c, cur, q1, q2, q3, q4, q5, RepM.mono q6 (Nat.le_refl _) back (fun _ _ _ _ => rfl)⟩
    · obtain ⟨k1, k2, k3⟩ := hs.row i z h2
      refine ⟨k1, k2, ?_⟩
      rw [hγn i h1]
      rcases k3 with k3 | ⟨g, c, cur, q1, q2, q3, q4, q5, q6⟩
      · exact .inl k3
      · refine .inr ⟨g, c, cur, q1, (he.blk g q2.lt (fun k x hk e => ?_) (fun r row g' c' hr hg e => ?_)).trans q2, q3, q4, q5, RV.mono ev (.t _) _ q6⟩
        · obtain ⟨y, hy, -⟩ := h.box k x hk
          exact hs.br _ y i z g c hy h2 q1 e
        · subst e
          have := hs.rinj i _ z row g' c c' h2 (h.row r row hr) q1 hg
          have hj := getD_get (l := fr) (k := r) (by rw [h.frl]; exact get_lt hr)
          rw [← this] at hj
          exact idx?_none h1 r hj
  · rcases over_row hi hfrl with ⟨j, h1, h2, -⟩ | ⟨h1, h2⟩ <;> rcases over_row hi' hfrl with ⟨j', h1', h2', -⟩ | ⟨h1', h2'⟩
    · rw [hγ i j h1] at hg
      rw [hγ i' j' h1'] at hg'
      have := hst.rinj j j' z z' g c c' h2 h2' hg hg'
      subst this
      rw [h1] at h1'
      exact Option.some.inj h1'
    · rcases rp i z g c hi hg with ⟨row, c0, k1, k2⟩ | k
      · rw [hγn i' h1'] at hg'
        exact hs.rinj i i' row z' g c0 c' k1 h2' k2 hg'
      · rw [hγn i' h1'] at hg'
        have := hs.row_lt h2' hg'
        omega
    · rcases rp i' z' g c' hi' hg' with ⟨row, c0, k1, k2⟩ | k
      · rw [hγn i h1] at hg
        exact hs.rinj i i' z row g c c0 h2 k1 hg k2
      · rw [hγn i h1] at hg
        have := hs.row_lt h2 hg
        omega
    · rw [hγn i h1] at hg
      rw [hγn i' h1'] at hg'
      exact hs.rinj i i' z z' g c c' h2 h2' hg hg'
  · obtain ⟨y, hy⟩ := lv i z hi
    rcases rp r row g c hr hg with ⟨row0, c0, k1, k2⟩ | k
    · exact hs.br i y r row0 g c0 hy k1 k2
    · have := hs.box_lt hy
      show m.ρ i ≠ g
      omega
end

section
variable {P : Program} {C : Ctx} {n : Nat} {s : AS} {o : Oper}
theorem AOp.enterP {f : FuncId} {ps qs : List PV} {res : PV} {pre st' : Sto} (fb fr : List Nat) (hd : dstOk o.dst n = true)
    (hrun : ∀ m a w, RA C n s m a w → ∃ vals, (execOp a.eval o).run P w = .ok (.enter f ⟨vals⟩) w ∧ RVL (okA C.av s.st m) s.st m w ps vals) (hp : Part0 s.st pre fb fr) (hle : LeL ps (renL fb fr qs)) (hok : okInL pre qs = true)
    (hbl : st'.boxes.length = pre.boxes.length) (hrl : st'.rows.length = pre.rows.length) (hc : ACalls P f qs pre (fun r t => r = res ∧ t = st')) :
    AOp P C n o s ((⟨s.env, s.st.over st' fb fr⟩ : AS).putO o.dst (PV.ren fb fr res)) := fun m a w h K Q hK => by
  obtain ⟨vals, h1, h2⟩ := hrun m a w h
  unfold Oper.wp
  rw [h1]
  have h3 := hc (shutP C.av s.st pre m fb fr w) (m.via fb fr) w vals (hp.sto h.sto) (RVL.unren hp (fun b o _ k => hp.ok k) _ _ hok (LeL.rv hle h2))
  refine Calls.mono h3 fun e w' => ?_; rintro ⟨r, t, m', v, rfl, ⟨rfl, rfl⟩, h4, h5, h6⟩
  obtain ⟨k1, k2, k3, k4⟩ := over_all hp h.sto h4 h5 hbl hrl
  have hr := h.step k1 k2
  exact hK _ _ w' (hr.put (dstOk_lt hd) (RV.ren k3 k4 _ _ h6))
theorem AOp.callP {f : FuncId} {fn : Func} {xs : List Operand} {ts : Array TypeId} {ps qs : List PV} {res : PV} {pre st' : Sto} (fb fr : List Nat) (ho : o.op = .call { callee := .value (.func f), args := ⟨xs⟩, argTypes := ts }) (hd : dstOk o.dst n = true) (hf : P.funcs[f]? = some fn) (hnm : (fn.name == "runtime.NumGoroutine") = false) (hb : fn.body.isNone = false)
    (hx : xs.map s.ev = ps.map some) (hp : Part0 s.st pre fb fr) (hle : LeL ps (renL fb fr qs)) (hok : okInL pre qs = true) (hbl : st'.boxes.length = pre.boxes.length) (hrl : st'.rows.length = pre.rows.length) (hc : ACalls P f qs pre (fun r t => r = res ∧ t = st')) :
    AOp P C n o s ((⟨s.env, s.st.over st' fb fr⟩ : AS).putO o.dst (PV.ren fb fr res)) :=
  AOp.enterP fb fr hd (fun m a w h => ⟨xs.map a.eval, by
    have hcf := run_callFunc_body (P := P) hf hnm hb
    unfold execOp
    simp only [ho]
    simp [resolve, invoke, Deferred.ofValue, Act.eval, hcf], evL h hx⟩) hp hle hok hbl hrl hc
end
end Go.Proofs.Ytmpepccpnnldoaa

namespace Go.Proofs.Ytmpepccpnnldoaa
open Go.RowKit

theorem LeL.refl : ∀ ps : List PV, LeL ps ps
  | [] => .nil
  | p :: ps => .cons (.refl p) (LeL.refl ps)
theorem strTrs_cs {l : List ByteArray} {k : Nat} (h : k < l.length) : (strTrs l)[k]? = some [.leaf (.string l[k])] := strTrs_get h
theorem intTrs_cs {l : List Int} {k : Nat} (h : k < l.length) : (intTrs l)[k]? = some [.leaf (.int .i64 l[k])] := intTrs_get h
def GInstanceRef.cs (x : GInstanceRef) : List Tr := [.leaf (.int .i64 x.gPackage), .leaf (.int .i64 x.gAt)]
def GInstanceRef.pv (x : GInstanceRef) : PV := .agg [.t (.leaf (.int .i64 x.gPackage)), .t (.leaf (.int .i64 x.gAt))]
def GSExpr.cs (x : GSExpr) : List Tr := [.leaf (.string x.gAtom), .row 2 (GSExpr.trs (x.gList))]
def GSExpr.pv (x : GSExpr) : PV := .agg [.t (.leaf (.string x.gAtom)), .t (.row 2 (GSExpr.trs (x.gList)))]
theorem GSExpr.tr_cs (x : GSExpr) : x.tr = x.cs := by
  obtain ⟨v0, v1⟩ := x
  simp [GSExpr.tr, GSExpr.cs]
theorem GSExpr.trs_cs {l : List GSExpr} {k : Nat} (h : k < l.length) : (GSExpr.trs l)[k]? = some (l[k]).cs := by rw [← GSExpr.tr_cs]; exact GSExpr.trs_get h
def GType.cs (x : GType) : List Tr := [.leaf (.int .i64 x.gKind), .leaf (.string x.gName), .row 3 (GType.trs (x.gArgs))]
def GType.pv (x : GType) : PV := .agg [.t (.leaf (.int .i64 x.gKind)), .t (.leaf (.string x.gName)), .t (.row 3 (GType.trs (x.gArgs)))]
theorem GType.tr_cs (x : GType) : x.tr = x.cs := by
  obtain ⟨v0, v1, v2⟩ := x
  simp [GType.tr, GType.cs]
theorem GType.trs_cs {l : List GType} {k : Nat} (h : k < l.length) : (GType.trs l)[k]? = some (l[k]).cs := by rw [← GType.tr_cs]; exact GType.trs_get h
def GBinding.cs (x : GBinding) : List Tr := [.leaf (.string x.gVar), .leaf (.int .i64 x.gType.gKind), .leaf (.string x.gType.gName), .row 3 (GType.trs (x.gType.gArgs))]
def GBinding.pv (x : GBinding) : PV := .agg [.t (.leaf (.string x.gVar)), .t (.leaf (.int .i64 x.gType.gKind)), .t (.leaf (.string x.gType.gName)), .t (.row 3 (GType.trs (x.gType.gArgs)))]
theorem GBinding.tr_cs (x : GBinding) : x.tr = x.cs := by
  obtain ⟨v0, v1⟩ := x
  simp [GBinding.tr, GBinding.cs, GType.tr_cs, GType.cs]
theorem GBinding.trs_cs {l : List GBinding} {k : Nat} (h : k < l.length) : (GBinding.trs l)[k]? = some (l[k]).cs := by rw [← GBinding.tr_cs]; exact GBinding.trs_get h
def GExpr.cs (x : GExpr) : List Tr := [.leaf (.int .i64 x.gKind), .leaf (.string x.gTrait), .leaf (.string x.gName), .leaf (.int .i64 x.gN), .leaf (.int .i64 x.gType.gKind), .leaf (.string x.gType.gName), .row 3 (GType.trs (x.gType.gArgs)), .row 9 (GExpr.trs (x.gArgs)), .row 11 (GArm.trs (x.gArms))]
def GExpr.pv (x : GExpr) : PV := .agg [.t (.leaf (.int .i64 x.gKind)), .t (.leaf (.string x.gTrait)), .t (.leaf (.string x.gName)), .t (.leaf (.int .i64 x.gN)), .t (.leaf (.int .i64 x.gType.gKind)), .t (.leaf (.string x.gType.gName)), .t (.row 3 (GType.trs (x.gType.gArgs))), .t (.row 9 (GExpr.trs (x.gArgs))), .t (.row 11 (GArm.trs (x.gArms)))]
theorem GExpr.tr_cs (x : GExpr) : x.tr = x.cs := by
  obtain ⟨v0, v1, v2, v3, v4, v5, v6⟩ := x
  simp [GExpr.tr, GExpr.cs, GType.tr_cs, GType.cs]
theorem GExpr.trs_cs {l : List GExpr} {k : Nat} (h : k < l.length) : (GExpr.trs l)[k]? = some (l[k]).cs := by rw [← GExpr.tr_cs]; exact GExpr.trs_get h
def GArm.cs (x : GArm) : List Tr := [.leaf (.string x.gConstructor), .row 1 (strTrs (x.gVars)), .leaf (.int .i64 x.gBody.gKind), .leaf (.string x.gBody.gTrait), .leaf (.string x.gBody.gName), .leaf (.int .i64 x.gBody.gN), .leaf (.int .i64 x.gBody.gType.gKind), .leaf (.string x.gBody.gType.gName), .row 3 (GType.trs (x.gBody.gType.gArgs)), .row 9 (GExpr.trs (x.gBody.gArgs)), .row 11 (GArm.trs (x.gBody.gArms))]
def GArm.pv (x : GArm) : PV := .agg [.t (.leaf (.string x.gConstructor)), .t (.row 1 (strTrs (x.gVars))), .t (.leaf (.int .i64 x.gBody.gKind)), .t (.leaf (.string x.gBody.gTrait)), .t (.leaf (.string x.gBody.gName)), .t (.leaf (.int .i64 x.gBody.gN)), .t (.leaf (.int .i64 x.gBody.gType.gKind)), .t (.leaf (.string x.gBody.gType.gName)), .t (.row 3 (GType.trs (x.gBody.gType.gArgs))), .t (.row 9 (GExpr.trs (x.gBody.gArgs))), .t (.row 11 (GArm.trs (x.gBody.gArms)))]
theorem GArm.tr_cs (x : GArm) : x.tr = x.cs := by
  obtain ⟨v0, v1, v2⟩ := x
  simp [GArm.tr, GArm.cs, GExpr.tr_cs, GExpr.cs]
theorem GArm.trs_cs {l : List GArm} {k : Nat} (h : k < l.length) : (GArm.trs l)[k]? = some (l[k]).cs := by rw [← GArm.tr_cs]; exact GArm.trs_get h
def GSignature.cs (x : GSignature) : List Tr := [.leaf (.string x.gName), .row 3 (GType.trs (x.gParams)), .leaf (.int .i64 x.gResult.gKind), .leaf (.string x.gResult.gName), .row 3 (GType.trs (x.gResult.gArgs)), .leaf (.bool x.gHasDefault), .row 1 (strTrs (x.gVars)), .leaf (.int .i64 x.gBody.gKind), .leaf (.string x.gBody.gTrait), .leaf (.string x.gBody.gName), .leaf (.int .i64 x.gBody.gN), .leaf (.int .i64 x.gBody.gType.gKind), .leaf (.string x.gBody.gType.gName), .row 3 (GType.trs (x.gBody.gType.gArgs)), .row 9 (GExpr.trs (x.gBody.gArgs)), .row 11 (GArm.trs (x.gBody.gArms))]
def GSignature.pv (x : GSignature) : PV := .agg [.t (.leaf (.string x.gName)), .t (.row 3 (GType.trs (x.gParams))), .t (.leaf (.int .i64 x.gResult.gKind)), .t (.leaf (.string x.gResult.gName)), .t (.row 3 (GType.trs (x.gResult.gArgs))), .t (.leaf (.bool x.gHasDefault)), .t (.row 1 (strTrs (x.gVars))), .t (.leaf (.int .i64 x.gBody.gKind)), .t (.leaf (.string x.gBody.gTrait)), .t (.leaf (.string x.gBody.gName)), .t (.leaf (.int .i64 x.gBody.gN)), .t (.leaf (.int .i64 x.gBody.gType.gKind)), .t (.leaf (.string x.gBody.gType.gName)), .t (.row 3 (GType.trs (x.gBody.gType.gArgs))), .t (.row 9 (GExpr.trs (x.gBody.gArgs))), .t (.row 11 (GArm.trs (x.gBody.gArms)))]
def GTrait.cs (x : GTrait) : List Tr := [.leaf (.string x.gName), .row 1 (strTrs (x.gSupertraits)), .leaf (.bool x.gAuto), .leaf (.bool x.gAssoc), .row 16 (GSignature.trs (x.gSignatures))]
def GTrait.pv (x : GTrait) : PV := .agg [.t (.leaf (.string x.gName)), .t (.row 1 (strTrs (x.gSupertraits))), .t (.leaf (.bool x.gAuto)), .t (.leaf (.bool x.gAssoc)), .t (.row 16 (GSignature.trs (x.gSignatures)))]
def GConstructor.cs (x : GConstructor) : List Tr := [.leaf (.string x.gName), .row 3 (GType.trs (x.gFields))]
def GConstructor.pv (x : GConstructor) : PV := .agg [.t (.leaf (.string x.gName)), .t (.row 3 (GType.trs (x.gFields)))]
def GDataType.cs (x : GDataType) : List Tr := [.leaf (.string x.gName), .row 1 (strTrs (x.gVars)), .row 2 (GConstructor.trs (x.gConstructors))]
def GDataType.pv (x : GDataType) : PV := .agg [.t (.leaf (.string x.gName)), .t (.row 1 (strTrs (x.gVars))), .t (.row 2 (GConstructor.trs (x.gConstructors)))]
def GBound.cs (x : GBound) : List Tr := [.leaf (.string x.gTrait), .leaf (.int .i64 x.gType.gKind), .leaf (.string x.gType.gName), .row 3 (GType.trs (x.gType.gArgs))]
def GBound.pv (x : GBound) : PV := .agg [.t (.leaf (.string x.gTrait)), .t (.leaf (.int .i64 x.gType.gKind)), .t (.leaf (.string x.gType.gName)), .t (.row 3 (GType.trs (x.gType.gArgs)))]
theorem GBound.tr_cs (x : GBound) : x.tr = x.cs := by
  obtain ⟨v0, v1⟩ := x
  simp [GBound.tr, GBound.cs, GType.tr_cs, GType.cs]
theorem GBound.trs_cs {l : List GBound} {k : Nat} (h : k < l.length) : (GBound.trs l)[k]? = some (l[k]).cs := by rw [← GBound.tr_cs]; exact GBound.trs_get h
def GMethod.cs (x : GMethod) : List Tr := [.leaf (.string x.gName), .row 1 (strTrs (x.gVars)), .leaf (.int .i64 x.gBody.gKind), .leaf (.string x.gBody.gTrait), .leaf (.string x.gBody.gName), .leaf (.int .i64 x.gBody.gN), .leaf (.int .i64 x.gBody.gType.gKind), .leaf (.string x.gBody.gType.gName), .row 3 (GType.trs (x.gBody.gType.gArgs)), .row 9 (GExpr.trs (x.gBody.gArgs)), .row 11 (GArm.trs (x.gBody.gArms))]
def GMethod.pv (x : GMethod) : PV := .agg [.t (.leaf (.string x.gName)), .t (.row 1 (strTrs (x.gVars))), .t (.leaf (.int .i64 x.gBody.gKind)), .t (.leaf (.string x.gBody.gTrait)), .t (.leaf (.string x.gBody.gName)), .t (.leaf (.int .i64 x.gBody.gN)), .t (.leaf (.int .i64 x.gBody.gType.gKind)), .t (.leaf (.string x.gBody.gType.gName)), .t (.row 3 (GType.trs (x.gBody.gType.gArgs))), .t (.row 9 (GExpr.trs (x.gBody.gArgs))), .t (.row 11 (GArm.trs (x.gBody.gArms)))]
theorem GMethod.tr_cs (x : GMethod) : x.tr = x.cs := by
  obtain ⟨v0, v1, v2⟩ := x
  simp [GMethod.tr, GMethod.cs, GExpr.tr_cs, GExpr.cs]
theorem GMethod.trs_cs {l : List GMethod} {k : Nat} (h : k < l.length) : (GMethod.trs l)[k]? = some (l[k]).cs := by rw [← GMethod.tr_cs]; exact GMethod.trs_get h
def GInstance.cs (x : GInstance) : List Tr := [.leaf (.string x.gTrait), .row 1 (strTrs (x.gVars)), .leaf (.int .i64 x.gHead.gKind), .leaf (.string x.gHead.gName), .row 3 (GType.trs (x.gHead.gArgs)), .row 4 (GBound.trs (x.gWhere)), .leaf (.bool x.gDefault), .leaf (.bool x.gHasAssoc), .leaf (.int .i64 x.gAssoc.gKind), .leaf (.string x.gAssoc.gName), .row 3 (GType.trs (x.gAssoc.gArgs)), .row 11 (GMethod.trs (x.gMethods))]
def GInstance.pv (x : GInstance) : PV := .agg [.t (.leaf (.string x.gTrait)), .t (.row 1 (strTrs (x.gVars))), .t (.leaf (.int .i64 x.gHead.gKind)), .t (.leaf (.string x.gHead.gName)), .t (.row 3 (GType.trs (x.gHead.gArgs))), .t (.row 4 (GBound.trs (x.gWhere))), .t (.leaf (.bool x.gDefault)), .t (.leaf (.bool x.gHasAssoc)), .t (.leaf (.int .i64 x.gAssoc.gKind)), .t (.leaf (.string x.gAssoc.gName)), .t (.row 3 (GType.trs (x.gAssoc.gArgs))), .t (.row 11 (GMethod.trs (x.gMethods)))]
theorem GInstance.tr_cs (x : GInstance) : x.tr = x.cs := by
  obtain ⟨v0, v1, v2, v3, v4, v5, v6, v7⟩ := x
  simp [GInstance.tr, GInstance.cs, GType.tr_cs, GType.cs]
theorem GInstance.trs_cs {l : List GInstance} {k : Nat} (h : k < l.length) : (GInstance.trs l)[k]? = some (l[k]).cs := by rw [← GInstance.tr_cs]; exact GInstance.trs_get h
def GParam.cs (x : GParam) : List Tr := [.leaf (.string x.gName), .leaf (.int .i64 x.gType.gKind), .leaf (.string x.gType.gName), .row 3 (GType.trs (x.gType.gArgs))]
def GParam.pv (x : GParam) : PV := .agg [.t (.leaf (.string x.gName)), .t (.leaf (.int .i64 x.gType.gKind)), .t (.leaf (.string x.gType.gName)), .t (.row 3 (GType.trs (x.gType.gArgs)))]
def GFunction.cs (x : GFunction) : List Tr := [.leaf (.string x.gName), .row 1 (strTrs (x.gVars)), .row 4 (GBound.trs (x.gWhere)), .row 4 (GParam.trs (x.gParams)), .leaf (.int .i64 x.gResult.gKind), .leaf (.string x.gResult.gName), .row 3 (GType.trs (x.gResult.gArgs)), .leaf (.int .i64 x.gBody.gKind), .leaf (.string x.gBody.gTrait), .leaf (.string x.gBody.gName), .leaf (.int .i64 x.gBody.gN), .leaf (.int .i64 x.gBody.gType.gKind), .leaf (.string x.gBody.gType.gName), .row 3 (GType.trs (x.gBody.gType.gArgs)), .row 9 (GExpr.trs (x.gBody.gArgs)), .row 11 (GArm.trs (x.gBody.gArms))]
def GFunction.pv (x : GFunction) : PV := .agg [.t (.leaf (.string x.gName)), .t (.row 1 (strTrs (x.gVars))), .t (.row 4 (GBound.trs (x.gWhere))), .t (.row 4 (GParam.trs (x.gParams))), .t (.leaf (.int .i64 x.gResult.gKind)), .t (.leaf (.string x.gResult.gName)), .t (.row 3 (GType.trs (x.gResult.gArgs))), .t (.leaf (.int .i64 x.gBody.gKind)), .t (.leaf (.string x.gBody.gTrait)), .t (.leaf (.string x.gBody.gName)), .t (.leaf (.int .i64 x.gBody.gN)), .t (.leaf (.int .i64 x.gBody.gType.gKind)), .t (.leaf (.string x.gBody.gType.gName)), .t (.row 3 (GType.trs (x.gBody.gType.gArgs))), .t (.row 9 (GExpr.trs (x.gBody.gArgs))), .t (.row 11 (GArm.trs (x.gBody.gArms)))]
def GPackage.cs (x : GPackage) : List Tr := [.leaf (.string x.gName), .row 1 (strTrs (x.gDeps)), .row 5 (GTrait.trs (x.gTraits)), .row 3 (GDataType.trs (x.gDataTypes)), .row 12 (GInstance.trs (x.gInstances)), .row 16 (GFunction.trs (x.gFunctions))]
def GPackage.pv (x : GPackage) : PV := .agg [.t (.leaf (.string x.gName)), .t (.row 1 (strTrs (x.gDeps))), .t (.row 5 (GTrait.trs (x.gTraits))), .t (.row 3 (GDataType.trs (x.gDataTypes))), .t (.row 12 (GInstance.trs (x.gInstances))), .t (.row 16 (GFunction.trs (x.gFunctions)))]
def GProgram.cs (x : GProgram) : List Tr := [.row 6 (GPackage.trs (x.gPackages))]
def GProgram.pv (x : GProgram) : PV := .agg [.t (.row 6 (GPackage.trs (x.gPackages)))]
def Gview.cs (x : Gview) : List Tr := [.row 6 (GPackage.trs (x.gw.gPackages)), .row 1 (intTrs (x.gvisible))]
def Gview.pv (x : Gview) : PV := .agg [.t (.row 6 (GPackage.trs (x.gw.gPackages))), .t (.row 1 (intTrs (x.gvisible)))]
def GEvidence.cs (x : GEvidence) : List Tr := [.leaf (.int .i64 x.gKind), .leaf (.int .i64 x.gN), .leaf (.int .i64 x.gAt.gPackage), .leaf (.int .i64 x.gAt.gAt), .row 5 (GEvidence.trs (x.gArgs))]
def GEvidence.pv (x : GEvidence) : PV := .agg [.t (.leaf (.int .i64 x.gKind)), .t (.leaf (.int .i64 x.gN)), .t (.leaf (.int .i64 x.gAt.gPackage)), .t (.leaf (.int .i64 x.gAt.gAt)), .t (.row 5 (GEvidence.trs (x.gArgs)))]
def GAssumption.cs (x : GAssumption) : List Tr := [.leaf (.string x.gGoal.gTrait), .leaf (.int .i64 x.gGoal.gType.gKind), .leaf (.string x.gGoal.gType.gName), .row 3 (GType.trs (x.gGoal.gType.gArgs)), .leaf (.int .i64 x.gFrom), .row 1 (intTrs (x.gSteps))]
def GAssumption.pv (x : GAssumption) : PV := .agg [.t (.leaf (.string x.gGoal.gTrait)), .t (.leaf (.int .i64 x.gGoal.gType.gKind)), .t (.leaf (.string x.gGoal.gType.gName)), .t (.row 3 (GType.trs (x.gGoal.gType.gArgs))), .t (.leaf (.int .i64 x.gFrom)), .t (.row 1 (intTrs (x.gSteps)))]
def Gl2In.cs (x : Gl2In) : List Tr := [.leaf (.string x.gs), .leaf (.int .i64 x.gat), .leaf (.int .i64 x.gdeep), .leaf (.int .i64 x.gsize), .leaf (.bool x.gbad)]
def Gl2In.pv (x : Gl2In) : PV := .agg [.t (.leaf (.string x.gs)), .t (.leaf (.int .i64 x.gat)), .t (.leaf (.int .i64 x.gdeep)), .t (.leaf (.int .i64 x.gsize)), .t (.leaf (.bool x.gbad))]
def GCache.cs (x : GCache) : List Tr := [.row 4 (GBound.trs (x.gGoals)), .row 1 (intTrs (x.gCodes)), .row 5 (GEvidence.trs (x.gEvidence))]
def GCache.pv (x : GCache) : PV := .agg [.t (.row 4 (GBound.trs (x.gGoals))), .t (.row 1 (intTrs (x.gCodes))), .t (.row 5 (GEvidence.trs (x.gEvidence)))]
end Go.Proofs.Ytmpepccpnnldoaa

namespace Go.Proofs.Ytmpepccpnnldoaa
set_option linter.unusedSimpArgs false
set_option linter.unusedVariables false
open Go.RowKit Go.WalkArith Go.IntWalk Go.WideShapes

section
variable {P : Program} {C : Ctx} {n : Nat} {s : AS} {Q : Exit → AS → Prop} {o : Oper} {ops : Array Oper} {rest : List Oper}
theorem AL.splitB (d : Nat) {b : Bool} {l : List Oper} (_hb : s.lk d = some (.t (.leaf (.bool b)))) (h1 : b = true → AL P C n ops l Q s) (h2 : b = false → AL P C n ops l Q s) : AL P C n ops l Q s := by
  cases b
  · exact h2 rfl
  · exact h1 rfl
theorem AL.cons_gv {s1 : AS} {j d : Nat} {b c : Bool} (hg : o.guard = some (j, c)) (hj : (ops[j]?).bind (·.dst) = some d) (hb : s.lk d = some (.t (.leaf (.bool b)))) (hv : b = c) (ho : AOp P C n o s s1) (h : AL P C n ops rest Q s1) : AL P C n ops (o :: rest) Q s := by
  subst hv
  exact AL.cons_g hg hj hb ho h
theorem AOp.pickT {x y z : Operand} {b : Bool} {p : PV} (ho : o.op = .pick x y z) (hd : dstOk o.dst n = true) (hx : s.ev x = some (.t (.leaf (.bool b)))) (hb : b = true) (hy : s.ev y = some p) : AOp P C n o s (s.putO o.dst p) :=
  AOp.pick ho hd hx (fun _ => hy) (q := p) (fun h => by rw [hb] at h; cases h)
theorem AOp.pickF {x y z : Operand} {b : Bool} {p : PV} (ho : o.op = .pick x y z) (hd : dstOk o.dst n = true) (hx : s.ev x = some (.t (.leaf (.bool b)))) (hb : b = false) (hz : s.ev z = some p) : AOp P C n o s (s.putO o.dst p) :=
  AOp.pick ho hd hx (fun h => by rw [hb] at h; cases h) (q := p) (fun _ => hz)
theorem AOp.lenN {T : TypeId} {x : Operand} {p : PV} {sz N : Nat} {es : List (List Tr)} {E : Nat × Nat × Nat} (ho : o.op = .call { callee := .builtin .len, args := #[x], argTypes := #[T] }) (hd : dstOk o.dst n = true) (hx : s.ev x = some p) (hp : rowOf p = some (sz, es)) (hT : elemOf? P T = some E) (hl : es.length = N) :
    AOp P C n o s (s.putO o.dst (.t (.leaf (.int .i64 (N : Int))))) := by
  subst hl
  exact AOp.len (ty := 0) ho hd hx hp hT
theorem lk_lenN (i : Nat) {p : PV} {sz N : Nat} {es : List (List Tr)} (hx : s.lk i = some p) (hp : rowOf p = some (sz, es)) (hl : es.length = N) : ∀ m a w, RA C n s m a w → N ≤ 9223372036854775807 := by
  subst hl
  exact lk_len i hx hp
theorem keeps_nil {st' : Sto} (h : C.st = ⟨[], []⟩) : Keeps0 C.st st' := by rw [h]; exact Keeps0.nil
end
theorem nat_lt_of {a b : Nat} (h : decide ((a : Int) < (b : Int)) = true) : a < b := by
  have := of_decide_eq_true h
  omega
theorem nat_ge_of {a b : Nat} (h : decide ((a : Int) < (b : Int)) = false) : b ≤ a := by
  have := of_decide_eq_false h
  omega
end Go.Proofs.Ytmpepccpnnldoaa

namespace Go.Proofs.Ytmpepccpnnldoaa
set_option linter.unusedSimpArgs false
set_option linter.unusedVariables false
open Go.RowKit Go.WalkArith Go.IntWalk Go.WideShapes

section
variable {P : Program} {C : Ctx} {n : Nat} {s : AS} {Q : Exit → AS → Prop} {o : Oper}
theorem AOp.quietX {p : PV} (hd : dstOk o.dst n = true) (h : ∀ m a w, RA C n s m a w → ∃ v w1, (execOp a.eval o).run P w = .ok (.value v) w1 ∧ Ext w w1 ∧ RV (okA C.av s.st m) s.st m w1 p v) : AOp P C n o s (s.putO o.dst p) :=
  AOp.run hd (s1 := s) (fun m a w hr => by
    obtain ⟨v, w1, h1, h2, h3⟩ := h m a w hr
    exact ⟨v, m, w1, h1, Ev.later h2, hr.sto.later h2, h3⟩) rfl
theorem AOp.buildSlice_run {T E sz by_ len : Nat} {parts : Array (Nat × Operand)} {ps : List (Nat × List PV)} {zs cs : List PV} (ho : o.op = .buildSlice T len parts) (hT : elemOf? P T = some (E, sz, by_)) (hz : zerosOf P E = some zs) (hp : partsP s parts.toList = some ps)
    (hc : fillP (fun i => some (i * sz, sz)) (List.replicate len zs).flatten ps = some cs) (hcl : cs.length = len * sz) (hsz : 0 < sz) (hzl : zs.length = sz) (hsm : len * sz ≤ 16777216) {m : Lay} {a : Act} {w : World} (h : RA C n s m a w) :
    ∃ us, (execOp a.eval o).run P w = .ok (.value (.slice (some ⟨w.heap.size, 0, none⟩) len len)) (w.alloc (.cells ⟨us⟩ E)) ∧ RVL (okA C.av s.st m) s.st m w cs us ∧ len ≤ maxLen := by
  obtain ⟨i, hu, hi, hs, hby⟩ := elemOf?.spec hT
  obtain ⟨i', z, hi', hzz, hr⟩ := zerosOf.spec hz
  rw [hi] at hi'
  cases hi'
  have hzv := hr (okA C.av s.st m) s.st m w
  have hzs : z.cells.size = sz := by have := hzv.length; rw [hzl] at this; simpa using this.symm
  have hrl : ∀ e ∈ List.replicate len zs, e.length = sz := fun e he => by rw [(List.mem_replicate.1 he).2]; exact hzl
  have hzero : RVL (okA C.av s.st m) s.st m w (List.replicate len zs).flatten ((List.range (len * sz)).map (fun q => z.cells[q % z.cells.size]!)) := by
    refine RVL.of_get (by rw [flatten_len hrl]; simp) fun j p hj => ?_
    have hjl : j < len * sz := by have := get_lt hj; rw [flatten_len hrl] at this; simpa using this
    have hj1 : j / sz < len := by rw [Nat.div_lt_iff_lt_mul hsz]; exact hjl
    have hj2 : j % sz < zs.length := by rw [hzl]; exact Nat.mod_lt _ hsz
    have hpj := flatten_get (i := j / sz) (j := j % sz) (e := zs) (d := zs[j % sz]) hrl (by rw [List.getElem?_replicate, if_pos hj1]) (List.getElem?_eq_getElem hj2)
    rw [show j / sz * sz + j % sz = j by rw [Nat.mul_comm]; exact Nat.div_add_mod j sz, hj] at hpj
    cases hpj
    obtain ⟨v, hv, hrv⟩ := hzv.get (List.getElem?_eq_getElem hj2)
    refine ⟨v, ?_, hrv⟩
    rw [List.getElem?_map, List.getElem?_range hjl]
    simp only [Option.map_some, hzs]
    rw [Array.getElem?_toList] at hv
    obtain ⟨hlt, hve⟩ := Array.getElem?_eq_some_iff.1 hv
    rw [getElem!_pos z.cells _ hlt, hve]
  obtain ⟨us, h2, h3⟩ := fillP_ok (partsP_ok h hp) hzero hc
  have hul : us.length = len * sz := by have := h3.length; rw [hcl] at this; exact this.symm
  have hrun : (Instr.buildSlice T len (parts.map fun (i, x) => (i, a.eval x))).run P w = .ok (.slice (some ⟨w.heap.size, 0, none⟩) len len) (w.alloc (.cells ⟨us⟩ E)) := by
    have hfill : Instr.fill (fun i => some (i * sz, sz)) ((Array.range (len * sz)).map (z.cells[· % z.cells.size]!)) (parts.map fun (i, x) => (i, a.eval x)).toList = some ⟨us⟩ := by
      rw [Array.toList_map, ← h2]
      congr 1
      apply Array.ext'
      simp
    by_cases h0 : len * sz = 0
    · have hl0 : len = 0 := by
        rcases Nat.mul_eq_zero.1 h0 with h | h
        · exact h
        · omega
      subst hl0
      rw [Nat.zero_mul] at hfill
      simp [Instr.buildSlice, run_underlying hu, Go.sizeOf, typeInfo, hi, hs, newRow]
      have e0 : (Array.range 0).map (fun q => z.cells[q % z.cells.size]!) = #[] := by simp
      rw [e0] at hfill
      simp at hfill
      have e1 : (Array.range 0).map (fun _ => (default : Value)) = #[] := by simp
      rw [e1, hfill]
      simp
    · exact run_buildSlice w T E len _ ⟨us⟩ i z hu hi hzz (by rw [hs]; omega) (by rw [hs]; exact h0) (by rw [hs]; exact hfill)
  refine ⟨us, ?_, h3, by have := Nat.le_mul_of_pos_right len hsz; unfold maxLen; omega⟩
  unfold execOp
  simp [ho, hrun]
theorem LeL.length {ps qs : List PV} (h : LeL ps qs) : ps.length = qs.length := by
  induction ps generalizing qs with
  | nil => cases h; rfl
  | cons p ps ih => cases h with | cons _ k => rw [List.length_cons, List.length_cons, ih k]
theorem AOp.buildSlice_lit {T E sz by_ len : Nat} {parts : Array (Nat × Operand)} {ps : List (Nat × List PV)} {zs cs : List PV} {es : List (List Tr)} (ho : o.op = .buildSlice T len parts) (hT : elemOf? P T = some (E, sz, by_)) (hz : zerosOf P E = some zs) (hp : partsP s parts.toList = some ps)
    (hc : fillP (fun i => some (i * sz, sz)) (List.replicate len zs).flatten ps = some cs) (hle : LeL cs (es.flatten.map PV.t)) (hel : es.length = len) (hes : ∀ e ∈ es, e.length = sz) (hsz : 0 < sz) (hzl : zs.length = sz) (hsm : len * sz ≤ 16777216) :
    ∀ m a w, RA C n s m a w → ∃ v w1, (execOp a.eval o).run P w = .ok (.value v) w1 ∧ Ext w w1 ∧ RV (okA C.av s.st m) s.st m w1 (.lit sz es) v := by
  intro m a w h
  obtain ⟨us, h1, h3, hm⟩ := AOp.buildSlice_run ho hT hz hp hc (by rw [hle.length, List.length_map, flatten_len hes, hel]) hsz hzl hsm h
  have h4 := LeL.rv hle h3
  have hx : Ext w (w.alloc (.cells ⟨us⟩ E)) := .alloc (.refl _) _
  refine ⟨.slice (some ⟨w.heap.size, 0, none⟩) len len, w.alloc (.cells ⟨us⟩ E), h1, hx, ?_⟩
  have hget : ∀ q e, es[q]? = some e → ∀ j d, e[j]? = some d → ∃ v, us[q * sz + j]? = some v ∧ RepM (okA C.av s.st m) (w.alloc (.cells ⟨us⟩ E)) d v := fun q e hq j d hj => by
    have hf := flatten_get (sz := sz) hes hq hj
    obtain ⟨v, hv, hrv⟩ := h4.get (j := q * sz + j) (p := .t d) (by rw [List.getElem?_map, hf]; rfl)
    exact ⟨v, hv, RepM.ext hrv hx⟩
  have := RepM.row (ok := okA C.av s.st m) (w := w.alloc (.cells ⟨us⟩ E)) (es := es) (sz := sz) (a := some ⟨w.heap.size, 0, none⟩) (cap := len) (fun q j => (us[q * sz + j]?).getD undef) (by omega) hm (fun _ => ⟨w.heap.size, 0, rfl, by simp, fun q e hq j d hd => ⟨okA_new h.sto (Nat.le_refl _) _, ?_⟩⟩) (fun q e hq j d hd => ?_)
  · subst hel
    exact ⟨this, _, rfl⟩
  · obtain ⟨v, hv, -⟩ := hget q e hq j d hd
    rw [Nat.zero_add, (OB.new w E ⟨us⟩).cell, hv]
    simpa using hv
  · obtain ⟨v, hv, hr⟩ := hget q e hq j d hd
    rw [hv]
    exact hr
/-- The operation's outcome, told by less. -/
theorem AOp.less {p q : PV} (hle : PV.Le p q) (hdl : dstOk o.dst n = true) (h : ∀ m a w, RA C n s m a w → ∃ v w1, (execOp a.eval o).run P w = .ok (.value v) w1 ∧ Ext w w1 ∧ RV (okA C.av s.st m) s.st m w1 p v) : AOp P C n o s (s.putO o.dst q) :=
  AOp.quietX hdl fun m a w hr => by
    obtain ⟨v, w1, h1, h2, h3⟩ := h m a w hr
    exact ⟨v, w1, h1, h2, hle.rv h3⟩
/-- A literal of data, its row forgotten. -/
theorem AOp.buildSliceQ {T E sz by_ len : Nat} {parts : Array (Nat × Operand)} {ps : List (Nat × List PV)} {zs cs : List PV} {es : List (List Tr)} (ho : o.op = .buildSlice T len parts) (hd : dstOk o.dst n = true) (hT : elemOf? P T = some (E, sz, by_)) (hz : zerosOf P E = some zs) (hp : partsP s parts.toList = some ps)
    (hc : fillP (fun i => some (i * sz, sz)) (List.replicate len zs).flatten ps = some cs) (hle : LeL cs (es.flatten.map PV.t)) (hel : es.length = len) (hes : ∀ e ∈ es, e.length = sz) (hsz : 0 < sz) (hzl : zs.length = sz) (hsm : len * sz ≤ 16777216) :
    AOp P C n o s (s.putO o.dst (.t (.row sz es))) :=
  AOp.less (.lit sz es) hd (AOp.buildSlice_lit ho hT hz hp hc hle hel hes hsz hzl hsm)

end
end Go.Proofs.Ytmpepccpnnldoaa

namespace Go.Proofs.Ytmpepccpnnldoaa
set_option linter.unusedSimpArgs false
set_option linter.unusedVariables false
open Go.RowKit

def lay0 : Lay := ⟨fun _ => 0, fun _ => none⟩
def av0 : Nat → Nat → Prop := fun _ _ => False
theorem ok0 (b o : Nat) : okA av0 ⟨[], []⟩ lay0 b o := ⟨fun h => h, fun k x h => by simp at h, fun r row g c h => by simp at h⟩
theorem sto0 (w : World) : StoOk av0 ⟨[], []⟩ lay0 w where
  box := fun k x h => by simp at h
  binj := fun k k' x x' h => by simp at h
  row := fun r row h => by simp at h
  rinj := fun r r' row row' g c c' h => by simp at h
  br := fun k x r row g c h => by simp at h
  avlt := fun b o h => h.elim
  avr := fun r row g c h => by simp at h
  avb := fun k x h => by simp at h
theorem Ev.ext {m m' : Lay} {w w' : World} {st' : Sto} (h : Ev ⟨[], []⟩ m w st' m' w') : Ext w w' where
  os := h.os
  tape := h.tape
  output := h.output
  size := h.size
  block := fun b hb => h.blk b hb (fun k x h => by simp at h) (fun r row g c h => by simp at h)
/-- The values stand for plain data. -/
abbrev RVL0 (w : World) (ps : List PV) (vs : List Value) : Prop := RVL (okA av0 ⟨[], []⟩ lay0) ⟨[], []⟩ lay0 w ps vs
abbrev RV0 (w : World) (p : PV) (v : Value) : Prop := RV (okA av0 ⟨[], []⟩ lay0) ⟨[], []⟩ lay0 w p v
theorem RV0.agg {w : World} {ts : List Tr} {cs : List Value} (h : RepL w ts cs) : RV0 w (.agg (ts.map PV.t)) (.agg ⟨cs⟩) := ⟨cs, rfl, h.toRVL fun b o _ => ok0 b o⟩
theorem RV0.t {w : World} {t : Tr} {v : Value} (h : Rep w t v) : RV0 w (.t t) v := h.repM fun b o _ => ok0 b o
theorem AFun.plain {P : Program} {f : FuncId} {args : List PV} {d : Value} (h : AFun P f args (.t (.leaf d))) {w : World} {vals : List Value} (hv : RVL0 w args vals) : Calls P f ⟨vals⟩ w fun e w' => e = .returned d ∧ Ext w w' :=
  (h av0 lay0 w vals (sto0 w) hv).mono fun e w' => by
    rintro ⟨res, st', m', v, rfl, ⟨rfl, rfl⟩, -, he, hr⟩
    exact ⟨by rw [(RepM.leaf_eq hr).1], he.ext⟩

end Go.Proofs.Ytmpepccpnnldoaa

namespace Go.Proofs.Ytmpepccpnnldoaa
set_option linter.unusedSimpArgs false
set_option linter.unusedVariables false
open Go.RowKit Go.WalkArith Go.IntWalk Go.WideShapes

section
variable {P : Program} {C : Ctx} {n : Nat} {s : AS} {Q : Exit → AS → Prop} {o : Oper}
theorem AWP.wk {s' : AS} {c : Code} (hw : Wk C n s s') (h : AWP P C n c Q s') : AWP P C n c Q s := fun m a w hr => by
  obtain ⟨m', h'⟩ := hw m a w hr
  exact h m' a w h'
theorem AOp.appendE {T E sz by_ : Nat} {x y : Operand} {es es2 es3 : List (List Tr)} {r : Nat} {row : PRow} {p : PV} (ho : o.op = .call { callee := .builtin .append, args := #[x, y], argTypes := #[T, T] }) (hd : dstOk o.dst n = true)
    (hx : s.ev x = some (.acc sz es r)) (hrow : s.st.rows[r]? = some row) (hes : row.es = es) (hE : row.E = E) (hw : row.whole = false) (hy : s.ev y = some p) (hp : rowOf p = some (sz, es2)) (h2 : ∀ e ∈ es2, e.length = sz)
    (hT : elemOf? P T = some (E, sz, by_)) (hz : (P.info? E).bind (fun i => i.zero.map (fun z => z.cells.size)) = some sz) (hb : 0 < by_) (hlen : (es.length + es2.length) * by_ ≤ 140737488355328) (h3 : es ++ es2 = es3) :
    AOp P C n o s ((⟨s.env, s.st.setRow r { row with es := es3 }⟩ : AS).putO o.dst (.acc sz es3 r)) := by
  subst h3
  exact AOp.append ho hd hx hrow hes hE hw hy hp h2 hT hz hb hlen
theorem AOp.callPE {f : FuncId} {fn : Func} {xs : List Operand} {ts : Array TypeId} {ps qs : List PV} {res : PV} {pre st' S : Sto} (fb fr : List Nat) (ho : o.op = .call { callee := .value (.func f), args := ⟨xs⟩, argTypes := ts }) (hd : dstOk o.dst n = true) (hf : P.funcs[f]? = some fn) (hnm : (fn.name == "runtime.NumGoroutine") = false) (hb : fn.body.isNone = false)
    (hx : xs.map s.ev = ps.map some) (hS : s.st = S) (hp : Part0 S pre fb fr) (hle : LeL ps (renL fb fr qs)) (hok : okInL pre qs = true) (hbl : st'.boxes.length = pre.boxes.length) (hrl : st'.rows.length = pre.rows.length) (hc : ACalls P f qs pre (fun r t => r = res ∧ t = st')) :
    AOp P C n o s ((⟨s.env, S.over st' fb fr⟩ : AS).putO o.dst (PV.ren fb fr res)) := by
  subst hS
  exact AOp.callP fb fr ho hd hf hnm hb hx hp hle hok hbl hrl hc
end

end Go.Proofs.Ytmpepccpnnldoaa

namespace Go.Proofs.Ytmpepccpnnldoaa
set_option linter.unusedSimpArgs false
set_option linter.unusedVariables false
open Go.RowKit Go.WalkArith Go.IntWalk Go.WideShapes

theorem bool2 (b : Bool) : b = true ∨ b = false := by cases b <;> simp
section
variable {P : Program} {C : Ctx} {n : Nat} {s : AS} {o : Oper}
theorem box_lenN (k j : Nat) {bx : PBox} {p : PV} {sz N : Nat} {es : List (List Tr)} (hb : s.st.boxes[k]? = some (some bx)) (hx : bx.cells[j]? = some p) (hp : rowOf p = some (sz, es)) (hl : es.length = N) : ∀ m a w, RA C n s m a w → N ≤ 9223372036854775807 := by
  subst hl
  exact box_len k j hb hx hp
end
end Go.Proofs.Ytmpepccpnnldoaa

namespace Go.Proofs.Ytmpepccpnnldoaa
set_option linter.unusedSimpArgs false
set_option linter.unusedVariables false
open Go.RowKit Go.WalkArith Go.IntWalk Go.WideShapes

section
variable {P : Program} {C : Ctx} {n : Nat} {s : AS} {o : Oper}
end
end Go.Proofs.Ytmpepccpnnldoaa

namespace Go.Proofs.Ytmpepccpnnldoaa
set_option linter.unusedSimpArgs false
set_option linter.unusedVariables false
open Go.RowKit Go.WalkArith Go.IntWalk Go.WideShapes

def rowRes (sz : Nat) (es : List (List Tr)) : Option (List PV) → Nat → PV
  | none, k => .acc sz es k
  | some ps, k => .tup (.acc sz es k :: ps)
/-- The function is handed data, and returns a slice of its own making (and data beside it). -/
def ARow (P : Program) (f : FuncId) (args : List PV) (E : TypeId) (sz : Nat) (es : List (List Tr)) (ps : Option (List PV)) : Prop :=
  ACalls P f args ⟨[], []⟩ (fun r st' => ∃ k, r = rowRes sz es ps k ∧ st'.rows[k]? = some ⟨E, sz, es, false⟩)

section
variable {P : Program} {C : Ctx} {n : Nat} {s : AS} {o : Oper}
end

theorem Own.ofAcc {av : Nat → Nat → Prop} {st : Sto} {m : Lay} {w : World} {k E sz : Nat} {es : List (List Tr)} {v : Value} {S : Nat → Prop} (hst : StoOk av st m w) (hrow : st.rows[k]? = some ⟨E, sz, es, false⟩) (hv : RV (okA av st m) st m w (.acc sz es k) v)
    (hS : ∀ g c, m.γ k = some (g, c) → g < w.heap.size → S g) (hfl : ∀ e ∈ es, ∀ d ∈ e, ∃ u, d = .leaf u) : Own w (.row sz es) v S := by
  obtain ⟨q1, q2, q3⟩ := hst.row k _ hrow
  obtain ⟨row, hr, -, hle, hrep, heq⟩ := hv
  rw [hrow] at hr
  obtain rfl := Option.some.inj hr
  have hv := heq rfl
  rcases q3 with ⟨a, b⟩ | ⟨g, c, cur, r1, r2, r3, r4, r5, r6⟩
  · rw [a] at hv
    have b : es = [] := b
    subst b
    subst hv
    exact Own.row (es := []) (fun _ _ => undef) (fun _ _ _ => False) (by simp) (by unfold maxLen; omega) (by simp) (by simp) (by simp) (by simp)
  · rw [r1] at hv
    subst hv
    have r6 : RepM (okA av st m) w (.row sz es) (.slice (some ⟨g, 0, none⟩) es.length c) := r6
    show Own w (.row sz es) (.slice (some ⟨g, 0, none⟩) es.length c) S
    cases r6 with
    | row cc h1 h2 h3 h4 =>
      refine .row cc (fun _ _ _ => False) h1 h2 (fun hne => ?_) (fun i e he j d hd => ?_) (fun _ _ _ _ _ _ x hx => hx.elim) (fun _ _ _ _ _ _ _ _ _ _ _ _ _ x hx => hx.elim)
      · obtain ⟨b, off, ha, hb, hc⟩ := h3 hne
        obtain ⟨rfl, rfl⟩ : g = b ∧ 0 = off := by simpa using ha
        exact ⟨g, 0, E, cur, rfl, r2, hS g c r1 hb, fun i e he j d hd => ⟨by rw [← r2.cell]; exact (hc i e he j d hd).2, fun x hx => hx.elim⟩⟩
      · obtain ⟨u, rfl⟩ := hfl e (List.mem_of_getElem? he) d (List.mem_of_getElem? hd)
        have h7 := (h4 i e he j _ hd).rep.leaf_eq
        rw [h7.1]
        exact .leaf h7.2
theorem ARow.own {P : Program} {f : FuncId} {args : List PV} {E sz : Nat} {es : List (List Tr)} (h : ARow P f args E sz es none) (hfl : ∀ e ∈ es, ∀ d ∈ e, ∃ u, d = .leaf u) {w : World} {vals : List Value} (hv : RVL0 w args vals) :
    Calls P f ⟨vals⟩ w fun e w' => ∃ v, e = .returned v ∧ Ext w w' ∧ Own w' (.row sz es) v (Between w w') :=
  (h av0 lay0 w vals (sto0 w) hv).mono fun e w' => by
    rintro ⟨res, st', m', v, rfl, ⟨k, rfl, hrow⟩, hst, he, hr⟩
    exact ⟨v, rfl, he.ext, Own.ofAcc hst hrow hr (fun g c hg hlt => by
      rcases he.rfresh k _ g c hrow hg with ⟨row, c0, h0, _⟩ | hf
      · simp at h0
      · exact ⟨hf, hlt⟩) hfl⟩
end Go.Proofs.Ytmpepccpnnldoaa

namespace Go.Proofs.Ytmpepccpnnldoaa
set_option linter.unusedSimpArgs false
set_option linter.unusedVariables false
open Go.RowKit

theorem Own.repM {ok : Nat → Nat → Prop} {w : World} {t : Tr} {v : Value} {S : Nat → Prop} (h : Own w t v S) (hk : ∀ b o, S b → b < w.heap.size → ok b o) : RepM ok w t v := by
  induction h with
  | leaf h => exact .leaf h
  | row c T h1 h2 h3 _ h5 h6 ih =>
    refine .row c h1 h2 (fun hne => ?_) (fun i e he j d hd => ih i e he j d hd fun b o hb hl => hk b o (h5 i e he j d hd b hb) hl)
    obtain ⟨b, off, E, arr, ha, hb, hs, hc⟩ := h3 hne
    exact ⟨b, off, ha, hb.lt, fun i e he j d hd => ⟨hk _ _ hs hb.lt, by rw [hb.cell]; exact (hc i e he j d hd).1⟩⟩
/-- A function that is handed data and returns memory of its own computes. -/
theorem AFun.ofFresh {P : Program} {f : FuncId} {args : List PV} {t : Tr} (hfr : freeL args = true) (h : ∀ w vals, RVL0 w args vals → Calls P f ⟨vals⟩ w fun e w' => ∃ v, e = .returned v ∧ Ext w w' ∧ Own w' t v (Between w w')) : AFun P f args (.t t) := fun av m w vals hst hv => by
  refine (h w vals (freeL.rv (fun b o _ _ => ok0 b o) args vals hfr hv)).mono fun e w' => ?_; rintro ⟨v, rfl, hx, ho⟩
  refine ⟨.t t, ⟨[], []⟩, m, v, rfl, ⟨rfl, rfl⟩, StoOk.nil fun b o hb => Nat.lt_of_lt_of_le (hst.avlt b o hb) hx.size, ?_, ?_⟩
  · exact ⟨hx.os, hx.tape, hx.output, hx.size, fun b hb _ _ => hx.block b hb, fun b o hb _ => heap_other_cell (hx.block b hb), fun _ _ _ h => h, fun _ _ h => by simp at h, fun _ _ h => by simp at h, fun _ _ h => by simp at h, fun _ _ _ _ h => by simp at h⟩
  · exact ho.repM fun b o hb _ => ⟨fun ha => by have := hst.avlt b o ha; have := hb.1; omega, fun _ _ h => by simp at h, fun _ _ _ _ h => by simp at h⟩
end Go.Proofs.Ytmpepccpnnldoaa

namespace Go.Proofs.Ytmpepccpnnldoaa
set_option linter.unusedSimpArgs false
set_option linter.unusedVariables false
open Go.RowKit Go.Proofs

theorem AFun.ofLeaf {P : Program} {f : FuncId} {args : List PV} {d : Value} (hfr : freeL args = true) (hd : LeafOk d) (h : ∀ w vals, RVL0 w args vals → Calls P f ⟨vals⟩ w fun e w' => e = .returned d ∧ Ext w w') : AFun P f args (.t (.leaf d)) :=
  AFun.ofFresh hfr fun w vals hv => (h w vals hv).mono fun e w' ⟨he, hx⟩ => ⟨d, he, hx, .leaf hd⟩
end Go.Proofs.Ytmpepccpnnldoaa

namespace Go.Proofs.Ytmpepccpnnldoaa
set_option linter.unusedSimpArgs false
set_option linter.unusedVariables false
open Go.RowKit Go.WalkArith Go.IntWalk Go.WideShapes

mutual
/-- The value, the one slice of ours in it told by another number. -/
inductive Mv (sz : Nat) (es : List (List Tr)) (k k' : Nat) : PV → PV → Prop
  | acc : Mv sz es k k' (.acc sz es k) (.acc sz es k')
  | free (p : PV) : PV.free p = true → Mv sz es k k' p p
  | agg {ps qs : List PV} : MvL sz es k k' ps qs → Mv sz es k k' (.agg ps) (.agg qs)
  | tup {ps qs : List PV} : MvL sz es k k' ps qs → Mv sz es k k' (.tup ps) (.tup qs)
inductive MvL (sz : Nat) (es : List (List Tr)) (k k' : Nat) : List PV → List PV → Prop
  | nil : MvL sz es k k' [] []
  | cons {p q : PV} {ps qs : List PV} : Mv sz es k k' p q → MvL sz es k k' ps qs → MvL sz es k k' (p :: ps) (q :: qs)
end
section
variable {ok ok' : Nat → Nat → Prop} {st st' : Sto} {m m' : Lay} {w : World} {sz k k' : Nat} {es : List (List Tr)}
mutual
theorem Mv.rv (hk : ∀ b o, b < w.heap.size → ok b o → ok' b o) (hrow : ∀ row, st.rows[k]? = some row → st'.rows[k']? = some row ∧ m'.γ k' = m.γ k) : ∀ {p q : PV} {v : Value}, Mv sz es k k' p q → RV ok st m w p v → RV ok' st' m' w q v
  | _, _, _, .acc, h => by
    obtain ⟨row, h1, h2, h3, h4, h5⟩ := h
    obtain ⟨k1, k2⟩ := hrow row h1
    exact ⟨row, k1, h2, h3, RepM.mono h4 (Nat.le_refl _) hk (fun _ _ _ _ => rfl), fun e => by rw [k2]; exact h5 e⟩
  | _, _, _, .free p hf, h => PV.free.rv hk p _ hf h
  | _, _, _, .agg hl, h => by
    obtain ⟨vs, hv, h1⟩ := h
    exact ⟨vs, hv, MvL.rv hk hrow hl h1⟩
  | _, _, _, .tup hl, h => by
    obtain ⟨vs, hv, h1⟩ := h
    exact ⟨vs, hv, MvL.rv hk hrow hl h1⟩
theorem MvL.rv (hk : ∀ b o, b < w.heap.size → ok b o → ok' b o) (hrow : ∀ row, st.rows[k]? = some row → st'.rows[k']? = some row ∧ m'.γ k' = m.γ k) : ∀ {ps qs : List PV} {vs : List Value}, MvL sz es k k' ps qs → RVL ok st m w ps vs → RVL ok' st' m' w qs vs
  | _, _, [], .nil, h => h
  | _, _, _ :: _, .nil, h => h.elim
  | _, _, [], .cons _ _, h => h.elim
  | _, _, _ :: _, .cons h1 h2, h => ⟨Mv.rv hk hrow h1 h.1, MvL.rv hk hrow h2 h.2⟩
end
end
mutual
theorem PV.free.ren {fb fr : List Nat} : ∀ (p : PV), PV.free p = true → PV.ren fb fr p = p
  | .t _, _ => rfl
  | .agg cs, h => by rw [PV.ren, freeL.ren cs h]
  | .tup cs, h => by rw [PV.ren, freeL.ren cs h]
  | .nil, _ => rfl
  | .eptr _, _ => rfl
  | .fn f cs, h => by rw [PV.ren, freeL.ren cs h]
  | .acc _ _ _, h => by cases h
  | .ptr _ _, h => by cases h
  | .full _ _ _, h => by cases h
  | .rptr _ _, h => by cases h
  | .lit _ _, h => by cases h
  | .bsl _ _, h => by cases h
  | .gsl _ _, h => by cases h
theorem freeL.ren {fb fr : List Nat} : ∀ (ps : List PV), freeL ps = true → renL fb fr ps = ps
  | [], _ => rfl
  | p :: ps, h => by
    simp only [freeL, Bool.and_eq_true] at h
    rw [renL, PV.free.ren p h.1, freeL.ren ps h.2]
end

section
variable {av : Nat → Nat → Prop} {s pre st' : Sto} {m m' : Lay} {fb : List Nat} {w w' : World} {k : Nat} {row : PRow}
end

def freeBoxes : List (Option PBox) → Bool
  | [] => true
  | none :: l => freeBoxes l
  | some x :: l => freeL x.cells && freeBoxes l
theorem freeBoxes.get : ∀ {l : List (Option PBox)} {j : Nat} {x : PBox}, freeBoxes l = true → l[j]? = some (some x) → freeL x.cells = true
  | [], _, _, _, h => by simp at h
  | none :: l, 0, _, _, h => by simp at h
  | none :: l, j + 1, x, hf, h => freeBoxes.get (l := l) (j := j) hf (by simpa using h)
  | some y :: l, 0, x, hf, h => by
    simp at h
    subst h
    simp only [freeBoxes, Bool.and_eq_true] at hf
    exact hf.1
  | some y :: l, j + 1, x, hf, h => by
    simp only [freeBoxes, Bool.and_eq_true] at hf
    exact freeBoxes.get (l := l) (j := j) hf.2 (by simpa using h)
/-- The function is handed data and boxes, and returns what holds one slice of its own making. -/
def AOwn (P : Program) (f : FuncId) (args : List PV) (pre : Sto) (B : List (Option PBox)) (E : TypeId) (sz : Nat) (es : List (List Tr)) (R : Nat → PV) : Prop :=
  ACalls P f args pre (fun r t => ∃ k, r = R k ∧ t.boxes = B ∧ t.rows[k]? = some ⟨E, sz, es, false⟩)
/-- The same, the slice told as data. -/
theorem BoxLe.refl {st : Sto} : ∀ {B : List (Option PBox)}, (∀ x, some x ∈ B → okInL st x.cells = true) → BoxLe st B B
  | [], _ => trivial
  | none :: B, h => BoxLe.refl (B := B) fun x hx => h x (List.mem_cons_of_mem _ hx)
  | some x :: B, h => ⟨⟨rfl, LeL.refl _, h x (by simp)⟩, BoxLe.refl (B := B) fun y hy => h y (List.mem_cons_of_mem _ hy)⟩
def okBoxes (st : Sto) (B : List (Option PBox)) : Bool := B.all fun x => match x with
  | none => true
  | some x => okInL st x.cells
theorem okBoxes.mem {st : Sto} {B : List (Option PBox)} (h : okBoxes st B = true) (x : PBox) (hx : some x ∈ B) : okInL st x.cells = true := by
  have := List.all_eq_true.1 h _ hx
  exact this
theorem AOwn.plain {P : Program} {f : FuncId} {args : List PV} {pre : Sto} {B : List (Option PBox)} {E : TypeId} {sz : Nat} {es : List (List Tr)} {R : Nat → PV} {D : PV} (h : AOwn P f args pre B E sz es R) (hle : ∀ k, PV.Le (R k) D) (hk : PV.okIn ⟨B, []⟩ D = true := by exact rfl) (hb : okBoxes ⟨B, []⟩ B = true := by exact rfl) (hp : Keeps0 pre ⟨B, []⟩) : ACalls P f args pre (fun q t => q = D ∧ t = ⟨B, []⟩) := fun av m w vals hst hv => by
  refine (h av m w vals hst hv).mono fun e w' => ?_; rintro ⟨r, st', m', v, k1, ⟨k, rfl, rfl, -⟩, k3, k4, k5⟩
  have hl : StLe st' ⟨st'.boxes, []⟩ := StLe.mk' (BoxLe.refl (okBoxes.mem hb)) rfl
  exact ⟨D, ⟨st'.boxes, []⟩, m', v, k1, ⟨rfl, rfl⟩, hl.sto k3, hl.ev k4 hp, hl.rv D _ hk ((hle k).rv k5)⟩
theorem keep0n {st : Sto} : Keeps0 ⟨[], []⟩ st := Keeps0.nil
section
variable {P : Program} {C : Ctx} {n : Nat} {s : AS} {o : Oper}
end
end Go.Proofs.Ytmpepccpnnldoaa

namespace Go.Proofs.Ytmpepccpnnldoaa
set_option linter.unusedSimpArgs false
set_option linter.unusedVariables false
open Go.RowKit Go.WalkArith Go.IntWalk Go.WideShapes

section
variable {P : Program} {C : Ctx} {n : Nat} {s : AS} {o : Oper}
end
end Go.Proofs.Ytmpepccpnnldoaa

namespace Go.Proofs.Ytmpepccpnnldoaa
open Go.RowKit Go.Proofs

theorem sh3 : shapeOf Try.prog 3 = some (false, 1) := by kernel_rfl
theorem sz3 : (Try.prog.info? 3).map (·.size) = some 1 := by kernel_rfl
theorem sh4 : shapeOf Try.prog 4 = some (false, 1) := by kernel_rfl
theorem sz4 : (Try.prog.info? 4).map (·.size) = some 1 := by kernel_rfl
theorem zr5 : zerosOf Try.prog 5 = some [.t (.leaf (.int .u8 0))] := by kernel_rfl
theorem sh9 : shapeOf Try.prog 9 = some (false, 1) := by kernel_rfl
theorem zr9 : zerosOf Try.prog 9 = some [.t (.leaf (.string ⟨#[]⟩))] := by kernel_rfl
theorem el22 : elemOf? Try.prog 22 = some (5, 1, 1) := by kernel_rfl
theorem ze22 : (Try.prog.info? 5).bind (fun i => i.zero.map (fun z => z.cells.size)) = some 1 := by kernel_rfl
theorem el24 : elemOf? Try.prog 24 = some (9, 1, 16) := by kernel_rfl
theorem ze24 : (Try.prog.info? 9).bind (fun i => i.zero.map (fun z => z.cells.size)) = some 1 := by kernel_rfl
theorem sh25 : shapeOf Try.prog 25 = some (false, 1) := by kernel_rfl
theorem el25 : elemOf? Try.prog 25 = some (27, 3, 48) := by kernel_rfl
theorem ze25 : (Try.prog.info? 27).bind (fun i => i.zero.map (fun z => z.cells.size)) = some 3 := by kernel_rfl
theorem sh27 : shapeOf Try.prog 27 = some (true, 3) := by kernel_rfl
theorem sz27 : (Try.prog.info? 27).map (·.size) = some 3 := by kernel_rfl
theorem zr27 : zerosOf Try.prog 27 = some [.t (.leaf (.int .i64 0)), .t (.leaf (.string ⟨#[]⟩)), .nil] := by kernel_rfl
theorem pl27 : placesOf Try.prog 27 = some [(0, 1), (1, 1), (2, 1)] := by kernel_rfl
theorem sh41 : shapeOf Try.prog 41 = some (true, 4) := by kernel_rfl
theorem sz41 : (Try.prog.info? 41).map (·.size) = some 4 := by kernel_rfl
theorem zr41 : zerosOf Try.prog 41 = some [.t (.leaf (.string ⟨#[]⟩)), .t (.leaf (.int .i64 0)), .t (.leaf (.string ⟨#[]⟩)), .nil] := by kernel_rfl
theorem pl41 : placesOf Try.prog 41 = some [(0, 1), (1, 3)] := by kernel_rfl
theorem sh71 : shapeOf Try.prog 71 = some (false, 1) := by kernel_rfl
theorem sz71 : (Try.prog.info? 71).map (·.size) = some 1 := by kernel_rfl
theorem el71 : elemOf? Try.prog 71 = some (73, 2, 40) := by kernel_rfl
theorem ze71 : (Try.prog.info? 73).bind (fun i => i.zero.map (fun z => z.cells.size)) = some 2 := by kernel_rfl
theorem sh73 : shapeOf Try.prog 73 = some (true, 2) := by kernel_rfl
theorem sz73 : (Try.prog.info? 73).map (·.size) = some 2 := by kernel_rfl
theorem zr73 : zerosOf Try.prog 73 = some [.t (.leaf (.string ⟨#[]⟩)), .nil] := by kernel_rfl
theorem pl73 : placesOf Try.prog 73 = some [(0, 1), (1, 1)] := by kernel_rfl
theorem zr119 : zerosOf Try.prog 119 = some [.t (.leaf (.string ⟨#[]⟩)), .t (.leaf (.int .i64 0)), .t (.leaf (.int .i64 0)), .t (.leaf (.int .i64 0)), .t (.leaf (.bool false))] := by kernel_rfl
theorem pl119 : placesOf Try.prog 119 = some [(0, 1), (1, 1), (2, 1), (3, 1), (4, 1)] := by kernel_rfl
theorem fo27_0 : fieldOff Try.prog 27 0 = some 0 := by kernel_rfl
theorem fo27_1 : fieldOff Try.prog 27 1 = some 1 := by kernel_rfl
theorem fo27_2 : fieldOff Try.prog 27 2 = some 2 := by kernel_rfl
theorem fo41_0 : fieldOff Try.prog 41 0 = some 0 := by kernel_rfl
theorem fo41_1 : fieldOff Try.prog 41 1 = some 1 := by kernel_rfl
theorem fo73_0 : fieldOff Try.prog 73 0 = some 0 := by kernel_rfl
theorem fo73_1 : fieldOff Try.prog 73 1 = some 1 := by kernel_rfl
theorem fo119_0 : fieldOff Try.prog 119 0 = some 0 := by kernel_rfl
theorem fo119_1 : fieldOff Try.prog 119 1 = some 1 := by kernel_rfl
theorem fo119_2 : fieldOff Try.prog 119 2 = some 2 := by kernel_rfl
theorem fo119_3 : fieldOff Try.prog 119 3 = some 3 := by kernel_rfl
theorem fo119_4 : fieldOff Try.prog 119 4 = some 4 := by kernel_rfl
theorem mixed : Try.prog.follows .mixedOrders = true := by kernel_rfl
end Go.Proofs.Ytmpepccpnnldoaa

namespace Go.Proofs.Ytmpepccpnnldoaa
set_option linter.unusedSimpArgs false
set_option linter.unusedVariables false
open Go.RowKit Go.WalkArith Go.IntWalk Go.WideShapes

def iAnd (x y : Int) : Int := IntKind.wrap .i64 ((BitVec.ofInt 64 x &&& BitVec.ofInt 64 y).toNat : Int)
def iXor (x y : Int) : Int := IntKind.wrap .i64 ((BitVec.ofInt 64 x ^^^ BitVec.ofInt 64 y).toNat : Int)
def iShr (x y : Int) : Int := x.fdiv (2 ^ (min y.toNat 64))
def wrap64 (x : Int) : Int := IntKind.wrap .i64 x

section
variable {P : Program} {C : Ctx} {n : Nat} {s : AS} {o : Oper}
end
end Go.Proofs.Ytmpepccpnnldoaa

namespace Go.Proofs.Ytmpepccpnnldoaa
set_option linter.unusedSimpArgs false
set_option linter.unusedVariables false
open Go.RowKit Go.WalkArith Go.IntWalk Go.WideShapes

theorem RVL.set {ok : Nat → Nat → Prop} {st : Sto} {m : Lay} {w : World} {q : PV} : ∀ {ps : List PV} {vs : List Value} {j : Nat}, RVL ok st m w ps vs → (∀ v, vs[j]? = some v → RV ok st m w q v) → RVL ok st m w (ps.set j q) vs
  | [], [], j, _, _ => by simp [RVL]
  | p :: ps, v :: vs, 0, h, k => ⟨k v rfl, h.2⟩
  | p :: ps, v :: vs, j + 1, h, k => ⟨h.1, RVL.set h.2 fun u hu => k u (by simpa using hu)⟩
  | [], _ :: _, _, h, _ => h.elim
  | _ :: _, [], _, h, _ => h.elim
section
variable {P : Program} {C : Ctx} {n : Nat} {s : AS}
theorem Wk.regBox {k j : Nat} {bx : PBox} (E sz : Nat) (hsz : 0 < sz) (hb : s.st.boxes[k]? = some (some bx)) (hj : bx.cells[j]? = some .nil) :
    Wk C n s ⟨s.env, (s.st.addRow ⟨E, sz, [], false⟩).setBox k ⟨bx.ty, bx.cells.set j (.acc sz [] s.st.rows.length)⟩⟩ := fun m a w h => by
  have hE := ev_addRow (row := ⟨E, sz, [], false⟩) h.sto
  have hS := sto_addRow (row := ⟨E, sz, [], false⟩) h.sto hsz rfl
  have h1 := h.step hE hS
  have hb1 : (s.st.addRow ⟨E, sz, [], false⟩).boxes[k]? = some (some bx) := hb
  obtain ⟨vs, hob, hcs⟩ := hS.box k bx hb1
  have hc : RVL (okA C.av (s.st.addRow ⟨E, sz, [], false⟩) ⟨m.ρ, upd m.γ s.st.rows.length none⟩) (s.st.addRow ⟨E, sz, [], false⟩) ⟨m.ρ, upd m.γ s.st.rows.length none⟩ w (bx.cells.set j (.acc sz [] s.st.rows.length)) vs := by
    refine RVL.set hcs fun v hv => ?_
    obtain ⟨u, hu, hr⟩ := hcs.get hj
    rw [hv] at hu
    cases hu
    obtain rfl := (show v = _ from hr)
    exact ⟨⟨E, sz, [], false⟩, by show (s.st.rows ++ [_])[s.st.rows.length]? = _; simp, rfl, Nat.le_refl _, RepM.nilRow _ _ _ _ (by unfold maxLen; omega), fun _ => by simp [upd_same, rowVal]⟩
  exact ⟨_, h1.step (ev_setBox hS hb1 rfl rfl rfl rfl fun _ _ => rfl) (sto_setBox hS hb1 rfl rfl rfl rfl (fun _ _ => rfl) hob hc)⟩
end
end Go.Proofs.Ytmpepccpnnldoaa

namespace Go.Proofs.Ytmpepccpnnldoaa
open Go.RowKit Go.WalkArith Go.IntWalk Go.WideShapes
section
variable {P : Program} {C : Ctx} {n : Nat} {s : AS} {o : Oper}
end
end Go.Proofs.Ytmpepccpnnldoaa

namespace Go.Proofs.Ytmpepccpnnldoaa
set_option linter.unusedSimpArgs false
set_option linter.unusedVariables false
open Go.RowKit Go.WalkArith Go.IntWalk Go.WideShapes

/-- What a round of a loop says: on with s, out with s, or out of more than the loop. -/
inductive LR (σ β : Type) where
  | next (s : σ)
  | brk (s : σ)
  | ret (x : β)

def sw {α : Type} (b : Bool) (x y : α) : α := match b with
  | true => x
  | false => y
theorem swT {α : Type} {b : Bool} {x y z : α} (h : b = true) (k : x = z) : sw b x y = z := by rw [h]; exact k
theorem swF {α : Type} {b : Bool} {x y z : α} (h : b = false) (k : y = z) : sw b x y = z := by rw [h]; exact k
def lt {α β : Type} (x : α) (f : α → β) : β := f x
noncomputable def gd {α : Type} (p : Prop) (x : Option α) : Option α := @ite _ p (Classical.propDecidable p) x none
theorem gdT {α : Type} {p : Prop} {x z : Option α} (h : p) (k : x = z) : gd p x = z := by unfold gd; rw [if_pos h]; exact k
theorem gdF {α : Type} {p : Prop} {x : Option α} (h : ¬ p) : gd p x = none := by unfold gd; rw [if_neg h]
def bd {α β : Type} (m : Option α) (f : α → Option β) : Option β := match m with
  | none => none
  | some a => f a
theorem bdS {α β : Type} {m : Option α} {f : α → Option β} {a : α} {z : Option β} (h : m = some a) (k : f a = z) : bd m f = z := by rw [h]; exact k
def so {σ β : Type} (m : Option (β ⊕ σ)) (f : σ → Option β) : Option β := match m with
  | none => none
  | some (.inl x) => some x
  | some (.inr s) => f s
theorem soR {σ β : Type} {m : Option (β ⊕ σ)} {f : σ → Option β} {s : σ} {z : Option β} (h : m = some (.inr s)) (k : f s = z) : so m f = z := by rw [h]; exact k
theorem soL {σ β : Type} {m : Option (β ⊕ σ)} {f : σ → Option β} {x : β} (h : m = some (.inl x)) : so m f = some x := by rw [h]; rfl
def loopN {σ β : Type} (f : Nat → σ → Option (LR σ β)) : Nat → Nat → σ → Option (β ⊕ σ)
  | 0, _, s => some (.inr s)
  | k + 1, i, s => match f i s with
    | none => none
    | some (.next s') => loopN f k (i + 1) s'
    | some (.brk s') => some (.inr s')
    | some (.ret x) => some (.inl x)
def loopW {σ β : Type} (f : σ → Option (LR σ β)) : Nat → σ → Option (β ⊕ σ)
  | 0, _ => none
  | k + 1, s => match f s with
    | none => none
    | some (.next s') => loopW f k s'
    | some (.brk s') => some (.inr s')
    | some (.ret x) => some (.inl x)
section
variable {σ β : Type} {f : Nat → σ → Option (LR σ β)} {n i : Nat} {s s' : σ} {x : β} {R : Option (β ⊕ σ)}
theorem loopN_next (h : i < n) (hJ : R = loopN f (n - i) i s) (e : f i s = some (.next s')) : R = loopN f (n - (i + 1)) (i + 1) s' := by
  rw [hJ, show n - i = (n - (i + 1)) + 1 by omega, loopN, e]
theorem loopN_brk (h : i < n) (hJ : R = loopN f (n - i) i s) (e : f i s = some (.brk s')) : R = some (.inr s') := by
  rw [hJ, show n - i = (n - (i + 1)) + 1 by omega, loopN, e]
theorem loopN_ret (h : i < n) (hJ : R = loopN f (n - i) i s) (e : f i s = some (.ret x)) : R = some (.inl x) := by
  rw [hJ, show n - i = (n - (i + 1)) + 1 by omega, loopN, e]
theorem loopN_end (h : n ≤ i) (hJ : R = loopN f (n - i) i s) : R = some (.inr s) := by
  rw [hJ, show n - i = 0 by omega, loopN]
end
section
variable {σ β : Type} {f : σ → Option (LR σ β)} {k : Nat} {s s' : σ} {x : β} {R : Option (β ⊕ σ)}
end
/-! ### Ways that meet again -/
section
variable {P : Program} {C : Ctx} {n : Nat} {s : AS} {Q : Exit → AS → Prop}
def QC (C : Ctx) (n : Nat) (Q : Exit → AS → Prop) : Prop := ∀ e s s', Wk C n s s' → Q e s' → Q e s
def NC (C : Ctx) (n : Nat) (N : AS → Prop) : Prop := ∀ s s', Wk C n s s' → N s' → N s
theorem ncAWP {c : Code} : NC C n (AWP P C n c Q) := fun _ _ h k => AWP.weak h k
theorem qcThen {N : AS → Prop} (hn : NC C n N) (hq : QC C n Q) : QC C n (thenA N Q) := fun e s s' h k => by
  cases e with
  | normal => exact hn s s' h k
  | _ => exact hq _ s s' h k
theorem qcBlock {id : Nat} (hq : QC C n Q) : QC C n (inBlockA id Q) := fun e s s' h k => by
  cases e with
  | exit i =>
    simp only [inBlockA] at k ⊢
    split
    · rename_i hi; rw [if_pos hi] at k; exact hq _ s s' h k
    · rename_i hi; rw [if_neg hi] at k; exact hq _ s s' h k
  | _ => exact hq _ s s' h k
theorem qcEnds {fn : Func} {R : PV → Sto → Prop} : QC C n (Ends P C n fn R) := fun e s s' h k => ⟨k.1, fun m a w hr => by
  obtain ⟨m', h'⟩ := h m a w hr
  exact k.2 m' a w h'⟩
end
end Go.Proofs.Ytmpepccpnnldoaa

namespace Go.Proofs.Ytmpepccpnnldoaa
open Go.RowKit Go.Proofs
set_option linter.unusedSimpArgs false
set_option linter.unusedVariables false


def byteTrs (l : List UInt8) : List (List Tr) := l.map fun b => [.leaf (.int .u8 (b.toNat : Int))]
theorem byteTrs_len (l : List UInt8) : (byteTrs l).length = l.length := by simp [byteTrs]
theorem byteTrs_cs {l : List UInt8} {k : Nat} (h : k < l.length) : (byteTrs l)[k]? = some [.leaf (.int .u8 ((l[k]).toNat : Int))] := by simp [byteTrs, h]
/-- The state of the source: the bytes, the place, the number. -/
structure DS where
  code : List UInt8
  p : Nat
  h : Int
def DS.cells (d : DS) : List PV := [.t (.row 1 (byteTrs d.code)), .t (.leaf (.int .i64 (d.p : Int))), .t (.leaf (.int .i64 d.h))]
abbrev DS.box (T : TypeId) (d : DS) : Sto := ⟨[some ⟨T, d.cells⟩], []⟩
def nextH (h : Int) : Int := wrap64 (wrap64 (h * 6364136223846793005) + 1442695040888963407)
def DS.byte (d : DS) : Int := let x := iAnd (iXor (iShr (nextH d.h) 33) (iShr (nextH d.h) 45)) 255; if h : d.p < d.code.length then iAnd (wrap64 (x + (d.code[d.p].toNat : Int))) 255 else x
def DS.next (d : DS) : DS := ⟨d.code, if d.p < d.code.length then d.p + 1 else d.p, nextH d.h⟩
def DS.byteN (d : DS) : Nat := d.byte.toNat
def DS.below (d : DS) (n : Nat) : Nat := if n = 0 then 0 else if n ≤ 256 then d.byteN % n else (d.byteN * 16777216 + d.next.byteN * 65536 + d.next.next.byteN * 256 + d.next.next.next.byteN) % n
def DS.after (d : DS) (n : Nat) : DS := if n = 0 then d else if n ≤ 256 then d.next else d.next.next.next.next
def DS.pick (d : DS) (l : List ByteArray) : ByteArray := (l[d.below l.length]?).getD ⟨#[]⟩
end Go.Proofs.Ytmpepccpnnldoaa

namespace Go.Proofs.Ytmpepccpnnldoaa
set_option linter.unusedSimpArgs false
set_option linter.unusedVariables false
open Go.RowKit Go.WalkArith Go.IntWalk Go.WideShapes

section
variable {P : Program} {C : Ctx} {n : Nat} {s : AS} {o : Oper}
/-- What has been filled to its end is plain data. -/
theorem Wk.full {i E sz N r : Nat} {es : List (List Tr)} {b : Bool} (hx : s.lk i = some (.full sz N r)) (hrow : s.st.rows[r]? = some ⟨E, sz, es, b⟩) (hl : es.length = N) : Wk C n s (s.put i (.t (.row sz es))) := fun m a w h => by
  refine ⟨m, h.dfr, h.tsz, h.sto, fun j q hq => ?_, h.ev⟩
  rw [AS.lk_put] at hq
  split at hq
  · rename_i e
    subst e
    cases hq
    obtain ⟨v, hv, row, g, q1, q2, q3, q4, q5⟩ := h.env j _ hx
    refine ⟨v, hv, ?_⟩
    rw [hrow] at q1
    cases q1
    obtain ⟨-, -, hplace⟩ := h.sto.row r _ hrow
    rcases hplace with ⟨z1, -⟩ | ⟨g', c', cur, z1, hob, hcs, hfit, hmax, hrep⟩
    · rw [q4] at z1; cases z1
    rw [q4] at z1
    injection z1 with z1
    injection z1 with e1 e2
    subst e1 e2
    subst q5
    show RepM _ _ (.row sz es) _
    have : RepM (okA C.av s.st m) w (.row sz es) (.slice (some ⟨g, 0, none⟩) es.length N) := hrep
    rw [hl] at this
    exact this
  · exact h.env j q hq
end
end Go.Proofs.Ytmpepccpnnldoaa

namespace Go.Proofs.Ytmpepccpnnldoaa
set_option linter.unusedSimpArgs false
set_option linter.unusedVariables false
open Go.RowKit Go.WalkArith Go.IntWalk Go.WideShapes

/-- Byte k of a string. -/
def bAt (v : ByteArray) (k : Nat) : UInt8 := (v[k]?).getD 0
section
variable {P : Program} {C : Ctx} {n : Nat} {s : AS} {o : Oper}
theorem wf_u8 (b : UInt8) : LeafOk (.int .u8 (b.toNat : Int)) := by
  have := b.toNat_lt
  simp [LeafOk, Lit.wf, IntKind.min, IntKind.max, IntKind.bits, IntKind.signed]
  omega
theorem AOp.indexS {T : TypeId} {x i : Operand} {v : ByteArray} {k : Nat} (ho : o.op = .index T x i) (hd : dstOk o.dst n = true) (hx : s.ev x = some (.t (.leaf (.string v)))) (hi : s.ev i = some (.t (.leaf (.int .i64 (k : Int))))) (hk : k < v.size) (hT : P.underlying T = some .string) :
    AOp P C n o s (s.putO o.dst (.t (.leaf (.int .u8 ((bAt v k).toNat : Int))))) :=
  AOp.quiet (dstOk_lt hd) fun m a w h => by
    have h1 := (RepM.leaf_eq (h.eval hx)).1
    have h2 := (RepM.leaf_eq (h.eval hi)).1
    refine ⟨.int .u8 ((bAt v k).toNat : Int), ?_, RepM.leaf (wf_u8 _)⟩
    have h3 : v[k]? = some v[k] := by simp [hk]
    unfold execOp
    simp [ho, h1, h2, Instr.index, asIntOf, run_underlying hT, h3, bAt]
theorem AOp.indexSI {T : TypeId} {x i : Operand} {v : ByteArray} {y : Int} (ho : o.op = .index T x i) (hd : dstOk o.dst n = true) (hx : s.ev x = some (.t (.leaf (.string v)))) (hi : s.ev i = some (.t (.leaf (.int .i64 y)))) (h0 : 0 ≤ y) (hk : y.toNat < v.size) (hT : P.underlying T = some .string) :
    AOp P C n o s (s.putO o.dst (.t (.leaf (.int .u8 ((bAt v y.toNat).toNat : Int))))) :=
  AOp.indexS (k := y.toNat) ho hd hx (by rw [hi, Int.toNat_of_nonneg h0]) hk hT
/-- The places that a slicing names. -/
def lowOf (s : AS) : Option Operand → Option Int
  | none => some 0
  | some x => match s.ev x with
    | some (.t (.leaf (.int .i64 y))) => some y
    | _ => none
def highOf (s : AS) (len : Nat) : Option Operand → Option Int
  | none => some (len : Int)
  | some x => match s.ev x with
    | some (.t (.leaf (.int .i64 y))) => some y
    | _ => none
theorem ev_int {m : Lay} {a : Act} {w : World} (h : RA C n s m a w) {x : Operand} {y : Int} (hx : s.ev x = some (.t (.leaf (.int .i64 y)))) : a.eval x = .int .i64 y := (RepM.leaf_eq (h.eval hx)).1
theorem lowOf.some' {x : Operand} {y : Int} (h : lowOf s (some x) = some y) : s.ev x = some (.t (.leaf (.int .i64 y))) := by
  unfold lowOf at h
  simp only at h
  split at h
  · rename_i z hz
    simp only [Option.some.injEq] at h
    rw [hz, h]
  · cases h
theorem highOf.some' {x : Operand} {y : Int} {len : Nat} (h : highOf s len (some x) = some y) : s.ev x = some (.t (.leaf (.int .i64 y))) := by
  unfold highOf at h
  simp only at h
  split at h
  · rename_i z hz
    simp only [Option.some.injEq] at h
    rw [hz, h]
  · cases h
theorem run_bounds {m : Lay} {a : Act} {w : World} (h : RA C n s m a w) {isS : Bool} {len cap : Nat} {lo hi : Option Operand} {l k : Int} (hlen : len ≤ cap) (h1 : lowOf s lo = some l) (h2 : highOf s len hi = some k) (h3 : 0 ≤ l) (h4 : l ≤ k) (h5 : k ≤ (len : Int)) :
    (Instr.sliceBounds isS len cap (lo.map a.eval) (hi.map a.eval) none).run P w = .ok (l.toNat, k.toNat, cap) w := by
  have hk : 0 ≤ k := by omega
  have hkc : k ≤ (cap : Int) := by omega
  have hlk : l ≤ (k.toNat : Int) := by omega
  cases lo with
  | none =>
    simp only [lowOf, Option.some.injEq] at h1
    subst h1
    cases hi with
    | none =>
      simp only [highOf, Option.some.injEq] at h2
      subst h2
      simp [Instr.sliceBounds]
    | some y =>
      have e := ev_int h (highOf.some' h2)
      simp [Instr.sliceBounds, Instr.sliceBound, e, asIntOf, hk, hkc]
  | some x =>
    have e := ev_int h (lowOf.some' h1)
    cases hi with
    | none =>
      simp only [highOf, Option.some.injEq] at h2
      subst h2
      simp [Instr.sliceBounds, Instr.sliceBound, e, asIntOf, h3, h4]
    | some y =>
      have e2 := ev_int h (highOf.some' h2)
      have hm : max k 0 = k := Int.max_eq_left hk
      simp [Instr.sliceBounds, Instr.sliceBound, e, e2, asIntOf, hk, hkc, h3, hlk, hm, h4]
      try omega
theorem AOp.sliceS {T : TypeId} {x : Operand} {lo hi : Option Operand} {v : ByteArray} {l k : Int} (ho : o.op = .slice T x lo hi none) (hd : dstOk o.dst n = true) (hx : s.ev x = some (.t (.leaf (.string v)))) (h1 : lowOf s lo = some l) (h2 : highOf s v.size hi = some k) (h3 : 0 ≤ l ∧ l ≤ k ∧ k ≤ (v.size : Int)) (hT : P.underlying T = some .string) :
    AOp P C n o s (s.putO o.dst (.t (.leaf (.string (v.extract l.toNat k.toNat))))) :=
  AOp.quiet (dstOk_lt hd) fun m a w h => by
    obtain ⟨e, h6⟩ := RepM.leaf_eq (h.eval hx)
    have h6 : v.size ≤ maxLen := h6
    refine ⟨.string (v.extract l.toNat k.toNat), ?_, RepM.leaf ?_⟩
    · have hb := run_bounds (P := P) h (isS := false) (Nat.le_refl v.size) h1 h2 h3.1 h3.2.1 h3.2.2
      unfold execOp
      simp [ho, e, Instr.sliceAt, Instr.slice, run_underlying hT, hb]
    · show (v.extract l.toNat k.toNat).size ≤ maxLen
      rw [ByteArray.size_extract]
      omega
theorem RepM.part {ok : Nat → Nat → Prop} {w : World} {sz : Nat} {es : List (List Tr)} {a : Option Addr} {cap l k : Nat} (h : RepM ok w (.row sz es) (.slice a es.length cap)) (h1 : l ≤ k) (h2 : k ≤ es.length) : RepM ok w (.row sz ((es.take k).drop l)) (.slice (if cap = l then a else a.map (·.add (l * sz))) (k - l) (cap - l)) := by
  cases h with
  | row c q1 q2 q3 q4 =>
    have hlen : ((es.take k).drop l).length = k - l := by simp; omega
    have hget : ∀ (i : Nat) e, ((es.take k).drop l)[i]? = some e → es[l + i]? = some e := fun i e he => by
      rw [List.getElem?_drop, List.getElem?_take] at he
      split at he
      · exact he
      · cases he
    have := RepM.row (ok := ok) (w := w) (sz := sz) (es := (es.take k).drop l) (a := if cap = l then a else a.map (·.add (l * sz))) (cap := cap - l) (fun i j => c (l + i) j) (by rw [hlen]; omega) (by omega) (fun hne => ?_) (fun i e he j d hd => q4 _ e (hget i e he) j d hd)
    · rwa [hlen] at this
    · have hkl : l < k := by
        rcases Nat.lt_or_ge l k with h | h
        · exact h
        · exact absurd (List.length_eq_zero_iff.1 (by rw [hlen]; omega)) hne
      obtain ⟨b, off, rfl, hb, q5⟩ := q3 (by rintro rfl; simp at h2; omega)
      refine ⟨b, off + l * sz, ?_, hb, fun i e he j d hd => ?_⟩
      · rw [if_neg (by omega)]
        have hadd : (⟨b, off, none⟩ : Addr).add (l * sz) = ⟨b, off + l * sz, none⟩ := by unfold Addr.add; split <;> simp_all
        simp [hadd]
      · have := q5 (l + i) e (hget i e he) j d hd
        rw [show off + l * sz + i * sz + j = off + (l + i) * sz + j by rw [Nat.add_mul]; omega]
        exact this
theorem AOp.sliceR {T E sz by_ : Nat} {x : Operand} {lo hi : Option Operand} {p : PV} {es : List (List Tr)} {l k : Int} (ho : o.op = .slice T x lo hi none) (hd : dstOk o.dst n = true) (hx : s.ev x = some p) (hp : rowOf p = some (sz, es)) (h1 : lowOf s lo = some l) (h2 : highOf s es.length hi = some k) (h3 : 0 ≤ l ∧ l ≤ k ∧ k ≤ (es.length : Int)) (hT : elemOf? P T = some (E, sz, by_)) :
    AOp P C n o s (s.putO o.dst (.t (.row sz ((es.take k.toNat).drop l.toNat)))) :=
  AOp.quiet (dstOk_lt hd) fun m a w h => by
    have hr := rowOf_rv hp (h.eval hx)
    obtain ⟨i, hu, hi', hs, -⟩ := elemOf?.spec hT
    obtain ⟨ad, cap, hv, hlc, hcm⟩ := hr.shape
    rw [hv] at hr
    refine ⟨_, ?_, hr.part (l := l.toNat) (k := k.toNat) (by omega) (by omega)⟩
    have hb := run_bounds (P := P) h (isS := true) hlc h1 h2 h3.1 h3.2.1 h3.2.2
    unfold execOp
    simp [ho, hv, Instr.sliceAt, Instr.slice, run_underlying hu, hb, Go.sizeOf, typeInfo, hi', hs]
theorem AOp.maxI {x y : Operand} {ts : Array TypeId} {a b : Int} (ho : o.op = .call { callee := .builtin .max, args := #[x, y], argTypes := ts }) (hd : dstOk o.dst n = true) (hx : s.ev x = some (.t (.leaf (.int .i64 a)))) (hy : s.ev y = some (.t (.leaf (.int .i64 b)))) :
    AOp P C n o s (s.putO o.dst (.t (.leaf (.int .i64 (max a b))))) :=
  AOp.quiet (dstOk_lt hd) fun m ac w h => by
    obtain ⟨h1, k1⟩ := RepM.leaf_eq (h.eval hx)
    obtain ⟨h2, k2⟩ := RepM.leaf_eq (h.eval hy)
    refine ⟨.int .i64 (max a b), ?_, RepM.leaf ?_⟩
    · unfold execOp
      have hmx : (if b > a then b else a) = max a b := by
        by_cases hba : b > a
        · rw [if_pos hba, Int.max_eq_right (by omega)]
        · rw [if_neg hba, Int.max_eq_left (by omega)]
      have hrun : (Builtin.max2 (.int .i64 a) (.int .i64 b)).run P w = .ok (.int .i64 (max a b)) w := by
        have e : Builtin.max2 (.int .i64 a) (.int .i64 b) = pure (.int .i64 (if b > a then b else a)) := rfl
        rw [e, hmx]
        rfl
      simp [ho, resolve, invoke, builtin, h1, h2, Builtin.max_, hrun]
    · rcases Int.le_total a b with h | h
      · rw [Int.max_eq_right h]; exact k2
      · rw [Int.max_eq_left h]; exact k1
end
end Go.Proofs.Ytmpepccpnnldoaa

namespace Go.Proofs.Ytmpepccpnnldoaa
open Go.RowKit Go.Proofs
end Go.Proofs.Ytmpepccpnnldoaa

namespace Go.Proofs.Ytmpepccpnnldoaa
set_option linter.unusedSimpArgs false
set_option linter.unusedVariables false
open Go.RowKit Go.WalkArith Go.IntWalk Go.WideShapes

instance : Inhabited ByteArray := ⟨⟨#[]⟩⟩
def atD {α : Type} [Inhabited α] (l : List α) (k : Nat) : α := (l[k]?).getD default
theorem atD_eq {α : Type} [Inhabited α] {l : List α} {k : Nat} (h : k < l.length) : atD l k = l[k] := by simp [atD, h]
theorem strTrs_at {l : List ByteArray} {k : Nat} (h : k < l.length) : (strTrs l)[k]? = some [.leaf (.string (atD l k))] := by rw [atD_eq h]; exact strTrs_cs h
theorem intTrs_at {l : List Int} {k : Nat} (h : k < l.length) : (intTrs l)[k]? = some [.leaf (.int .i64 (atD l k))] := by rw [atD_eq h]; exact intTrs_cs h
theorem byteTrs_at {l : List UInt8} {k : Nat} (h : k < l.length) : (byteTrs l)[k]? = some [.leaf (.int .u8 ((atD l k).toNat : Int))] := by rw [atD_eq h]; exact byteTrs_cs h
theorem room_le {a b c : Nat} (h : a + b ≤ 68719476736) (hc : c ≤ 2048) : (a + b) * c ≤ 140737488355328 := by
  have := Nat.mul_le_mul h hc
  omega
theorem AOp.congrP {P : Program} {C : Ctx} {n : Nat} {s : AS} {o : Oper} {sz : Nat} {es es' : List (List Tr)} (h : AOp P C n o s (s.putO o.dst (.t (.row sz es)))) (e : es = es') : AOp P C n o s (s.putO o.dst (.t (.row sz es'))) := e ▸ h
theorem nat_lt_of2 {a b : Nat} (h : decide ((a : Int) < (b : Int)) = true) : a < b := nat_lt_of h
theorem nat_ge_of2 {a b : Nat} (h : decide ((a : Int) < (b : Int)) = false) : b ≤ a := nat_ge_of h
theorem nat_lt_of3 {a : Nat} {b : Int} (h : decide ((a : Int) < b) = true) : a < b.toNat := by have := of_decide_eq_true h; omega
theorem nat_ge_of3 {a : Nat} {b : Int} (h : decide ((a : Int) < b) = false) : b.toNat ≤ a := by have := of_decide_eq_false h; omega
/-- Box by box, row by row: what is handed over. -/
def PartBoxes (s : Sto) (fb0 fr0 : List Nat) (pre : Sto) : List Nat → List (Option PBox) → Prop
  | [], [] => True
  | k :: fb, some x :: bs => (∃ y, s.boxes[k]? = some (some y) ∧ y.ty = x.ty ∧ LeL y.cells (renL fb0 fr0 x.cells) ∧ okInL pre x.cells = true) ∧ PartBoxes s fb0 fr0 pre fb bs
  | _, _ => False
def PartRows (s : Sto) : List Nat → List PRow → Prop
  | [], [] => True
  | r :: fr, row :: rs => s.rows[r]? = some row ∧ PartRows s fr rs
  | _, _ => False
theorem PartBoxes.len {s pre : Sto} {fb0 fr0 : List Nat} : ∀ {fb : List Nat} {bs : List (Option PBox)}, PartBoxes s fb0 fr0 pre fb bs → fb.length = bs.length
  | [], [], _ => rfl
  | _ :: _, some _ :: _, h => by simp [PartBoxes.len h.2]
  | _ :: _, none :: _, h => h.elim
  | [], _ :: _, h => h.elim
  | _ :: _, [], h => h.elim
theorem PartBoxes.get {s pre : Sto} {fb0 fr0 : List Nat} : ∀ {fb : List Nat} {bs : List (Option PBox)}, PartBoxes s fb0 fr0 pre fb bs → ∀ k, k < bs.length → ∃ x, bs[k]? = some (some x) ∧ ∃ y, s.boxes[fb.getD k 0]? = some (some y) ∧ y.ty = x.ty ∧ LeL y.cells (renL fb0 fr0 x.cells) ∧ okInL pre x.cells = true
  | [], [], _, k, h => by simp at h
  | _ :: _, some x :: _, h, 0, _ => ⟨x, rfl, h.1⟩
  | _ :: _, some _ :: _, h, k + 1, hk => by simpa using PartBoxes.get h.2 k (by simpa using hk)
  | _ :: _, none :: _, h, _, _ => h.elim
  | [], _ :: _, h, _, _ => h.elim
  | _ :: _, [], h, _, _ => h.elim
theorem PartRows.len {s : Sto} : ∀ {fr : List Nat} {rs : List PRow}, PartRows s fr rs → fr.length = rs.length
  | [], [], _ => rfl
  | _ :: _, _ :: _, h => by simp [PartRows.len h.2]
  | [], _ :: _, h => h.elim
  | _ :: _, [], h => h.elim
theorem PartRows.get {s : Sto} : ∀ {fr : List Nat} {rs : List PRow}, PartRows s fr rs → ∀ k row, rs[k]? = some row → s.rows[fr.getD k 0]? = some row
  | [], [], _, k, _, h => by simp at h
  | _ :: _, _ :: _, h, 0, row, hr => by simp at hr; subst hr; exact h.1
  | _ :: _, _ :: _, h, k + 1, row, hr => by simpa using PartRows.get h.2 k row (by simpa using hr)
  | [], _ :: _, h, _, _, _ => h.elim
  | _ :: _, [], h, _, _, _ => h.elim
theorem Part0.of {s pre : Sto} {fb fr : List Nat} (hb : PartBoxes s fb fr pre fb pre.boxes) (hr : PartRows s fr pre.rows) (n1 : fb.Nodup) (n2 : fr.Nodup) : Part0 s pre fb fr where
  fbl := hb.len
  frl := hr.len
  fbn := n1
  frn := n2
  all := fun k hk => by
    obtain ⟨x, hx, -⟩ := hb.get k hk
    exact ⟨x, hx⟩
  box := fun k x hx => by
    obtain ⟨x', hx', h⟩ := hb.get k (List.getElem?_eq_some_iff.1 hx).1
    rw [hx] at hx'
    cases hx'
    exact h
  row := hr.get
section
variable {P : Program} {C : Ctx} {n : Nat} {s : AS} {o : Oper}
theorem AL.skipP {ops : Array Oper} {rest : List Oper} {Q : Exit → AS → Prop} {j d : Nat} {b c e : Bool} (hg : o.guard = some (j, c)) (hj : (ops[j]?).bind (·.dst) = some d) (hb : s.lk d = some (.t (.leaf (.bool b)))) (hv : b = e) (hne : (e == c) = false) (hd : dstOk o.dst n = true) (h : AL P C n ops rest Q (s.putO o.dst (.tup []))) : AL P C n ops (o :: rest) Q s := fun m a w hr =>
  wpList_step fun K hK => by
    subst hv
    rw [if_neg (by simpa [Region.wanted, hg, hr.yielded hj hb] using hne)]
    exact hK _ _ (h m _ w (hr.put (dstOk_lt hd) ⟨[], rfl, trivial⟩))
theorem AL.skipU {ops : Array Oper} {rest : List Oper} {Q : Exit → AS → Prop} {j d : Nat} {c : Bool} (hg : o.guard = some (j, c)) (hj : (ops[j]?).bind (·.dst) = some d) (hb : s.lk d = some (.tup [])) (hd : dstOk o.dst n = true) (h : AL P C n ops rest Q (s.putO o.dst (.tup []))) : AL P C n ops (o :: rest) Q s := fun m a w hr =>
  wpList_step fun K hK => by
    have hy : yielded ops a.tmps j = none := by
      obtain ⟨v, hv, vs, rfl, hl⟩ := hr.env d _ hb
      simp [Go.yielded, hj, hv]
    rw [if_neg (by simp [Region.wanted, hg, hy])]
    exact hK _ _ (h m _ w (hr.put (dstOk_lt hd) ⟨[], rfl, trivial⟩))
theorem AOp.buildSliceE {T E sz by_ len : Nat} {parts : Array (Nat × Operand)} {ps : List (Nat × List PV)} {zs cs : List PV} {es es' : List (List Tr)} (ho : o.op = .buildSlice T len parts) (hd : dstOk o.dst n = true) (hT : elemOf? P T = some (E, sz, by_)) (hz : zerosOf P E = some zs) (hp : partsP s parts.toList = some ps)
    (hc : fillP (fun i => some (i * sz, sz)) (List.replicate len zs).flatten ps = some cs) (hle : LeL cs (es.flatten.map PV.t)) (hel : es.length = len) (hes : ∀ e ∈ es, e.length = sz) (hsz : 0 < sz) (hzl : zs.length = sz) (hsm : len * sz ≤ 16777216) (he : es = es') :
    AOp P C n o s (s.putO o.dst (.t (.row sz es'))) := he ▸ AOp.buildSliceQ ho hd hT hz hp hc hle hel hes hsz hzl hsm
theorem AOp.buildSliceA {T E sz by_ len : Nat} {parts : Array (Nat × Operand)} {ps : List (Nat × List PV)} {zs cs : List PV} {es es' : List (List Tr)} (ho : o.op = .buildSlice T len parts) (hd : dstOk o.dst n = true) (hT : elemOf? P T = some (E, sz, by_)) (hz : zerosOf P E = some zs) (hp : partsP s parts.toList = some ps)
    (hc : fillP (fun i => some (i * sz, sz)) (List.replicate len zs).flatten ps = some cs) (hle : LeL cs (es.flatten.map PV.t)) (hel : es.length = len) (hes : ∀ e ∈ es, e.length = sz) (hsz : 0 < sz) (hzl : zs.length = sz) (hsm : len * sz ≤ 16777216) (he : es = es') :
    AOp P C n o s ((⟨s.env, s.st.addRow ⟨E, sz, es', false⟩⟩ : AS).putO o.dst (.acc sz es' s.st.rows.length)) := he ▸ AOp.buildSlice ho hd hT hz hp hc hle hel hes hsz hzl hsm
end
theorem keeps_all {C : Ctx} {bs : List (Option PBox)} {rs : List PRow} {S : Sto} (h : C.st = ⟨bs, rs⟩) (hb : ∀ k, k < bs.length → ∃ y, S.boxes[k]? = some (some y)) (hl : rs.length ≤ S.rows.length) : Keeps0 C.st S := by
  rw [h]
  exact ⟨fun k x hx => hb k (List.getElem?_eq_some_iff.1 hx).1, fun k row hk => ⟨S.rows[k]'(Nat.lt_of_lt_of_le (List.getElem?_eq_some_iff.1 hk).1 hl), List.getElem?_eq_getElem _⟩⟩
theorem boxes1 {S : Sto} {x : PBox} {bs : List (Option PBox)} (h : S.boxes = some x :: bs) : ∀ k, k < 1 → ∃ y, S.boxes[k]? = some (some y) := fun k hk => by
  obtain rfl : k = 0 := by omega
  exact ⟨x, by rw [h]; rfl⟩
theorem boxes2 {S : Sto} {x y : PBox} {bs : List (Option PBox)} (h : S.boxes = some x :: some y :: bs) : ∀ k, k < 2 → ∃ y, S.boxes[k]? = some (some y) := fun k hk => by
  rcases (by omega : k = 0 ∨ k = 1) with rfl | rfl
  · exact ⟨x, by rw [h]; rfl⟩
  · exact ⟨y, by rw [h]; rfl⟩
theorem boxes3 {S : Sto} {x y z : PBox} {bs : List (Option PBox)} (h : S.boxes = some x :: some y :: some z :: bs) : ∀ k, k < 3 → ∃ y, S.boxes[k]? = some (some y) := fun k hk => by
  rcases (by omega : k = 0 ∨ k = 1 ∨ k = 2) with rfl | rfl | rfl
  · exact ⟨x, by rw [h]; rfl⟩
  · exact ⟨y, by rw [h]; rfl⟩
  · exact ⟨z, by rw [h]; rfl⟩
theorem boxes0 {S : Sto} : ∀ k, k < 0 → ∃ y, S.boxes[k]? = some (some y) := fun k hk => absurd hk (Nat.not_lt_zero _)
instance : Inhabited GInstanceRef := ⟨.mk 0 0⟩
instance : Inhabited GSExpr := ⟨.mk ⟨#[]⟩ []⟩
theorem GSExpr.trs_at {l : List GSExpr} {k : Nat} (h : k < l.length) : (GSExpr.trs l)[k]? = some (atD l k).cs := by rw [atD_eq h]; exact GSExpr.trs_cs h
instance : Inhabited GType := ⟨.mk 0 ⟨#[]⟩ []⟩
theorem GType.trs_part (l : List GType) (a b : Nat) : ((GType.trs l).take b).drop a = GType.trs ((l.take b).drop a) := by rw [GType.trs_map, GType.trs_map, List.map_drop, List.map_take]
theorem GType.trs_at {l : List GType} {k : Nat} (h : k < l.length) : (GType.trs l)[k]? = some (atD l k).cs := by rw [atD_eq h]; exact GType.trs_cs h
instance : Inhabited GBinding := ⟨.mk ⟨#[]⟩ default⟩
theorem GBinding.trs_at {l : List GBinding} {k : Nat} (h : k < l.length) : (GBinding.trs l)[k]? = some (atD l k).cs := by rw [atD_eq h]; exact GBinding.trs_cs h
instance : Inhabited GExpr := ⟨.mk 0 ⟨#[]⟩ ⟨#[]⟩ 0 default [] []⟩
theorem GExpr.trs_at {l : List GExpr} {k : Nat} (h : k < l.length) : (GExpr.trs l)[k]? = some (atD l k).cs := by rw [atD_eq h]; exact GExpr.trs_cs h
instance : Inhabited GArm := ⟨.mk ⟨#[]⟩ [] default⟩
theorem GArm.trs_at {l : List GArm} {k : Nat} (h : k < l.length) : (GArm.trs l)[k]? = some (atD l k).cs := by rw [atD_eq h]; exact GArm.trs_cs h
instance : Inhabited GSignature := ⟨.mk ⟨#[]⟩ [] default false [] default⟩
instance : Inhabited GTrait := ⟨.mk ⟨#[]⟩ [] false false []⟩
instance : Inhabited GConstructor := ⟨.mk ⟨#[]⟩ []⟩
instance : Inhabited GDataType := ⟨.mk ⟨#[]⟩ [] []⟩
instance : Inhabited GBound := ⟨.mk ⟨#[]⟩ default⟩
theorem GBound.trs_at {l : List GBound} {k : Nat} (h : k < l.length) : (GBound.trs l)[k]? = some (atD l k).cs := by rw [atD_eq h]; exact GBound.trs_cs h
instance : Inhabited GMethod := ⟨.mk ⟨#[]⟩ [] default⟩
theorem GMethod.trs_at {l : List GMethod} {k : Nat} (h : k < l.length) : (GMethod.trs l)[k]? = some (atD l k).cs := by rw [atD_eq h]; exact GMethod.trs_cs h
instance : Inhabited GInstance := ⟨.mk ⟨#[]⟩ [] default [] false false default []⟩
theorem GInstance.trs_at {l : List GInstance} {k : Nat} (h : k < l.length) : (GInstance.trs l)[k]? = some (atD l k).cs := by rw [atD_eq h]; exact GInstance.trs_cs h
instance : Inhabited GParam := ⟨.mk ⟨#[]⟩ default⟩
instance : Inhabited GFunction := ⟨.mk ⟨#[]⟩ [] [] [] default default⟩
instance : Inhabited GPackage := ⟨.mk ⟨#[]⟩ [] [] [] [] []⟩
instance : Inhabited GProgram := ⟨.mk []⟩
instance : Inhabited Gview := ⟨.mk default []⟩
instance : Inhabited GEvidence := ⟨.mk 0 0 default []⟩
instance : Inhabited GAssumption := ⟨.mk default 0 []⟩
instance : Inhabited Gl2In := ⟨.mk ⟨#[]⟩ 0 0 0 false⟩
instance : Inhabited GCache := ⟨.mk [] [] []⟩
end Go.Proofs.Ytmpepccpnnldoaa
