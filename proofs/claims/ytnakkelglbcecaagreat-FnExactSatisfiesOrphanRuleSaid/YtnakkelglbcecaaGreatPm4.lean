/- How stores change: a new box, a box written, a row that grows. No conditions. -/
import Derived.Test.YtnakkelglbcecaaGreatPm3
import Derived.Deep.AppendSrc
namespace Go.Proofs.YtnakkelglbcecaaGreat
set_option linter.unusedSimpArgs false
set_option linter.unusedVariables false
open Go.RowKit Go.WalkArith Go.IntWalk Go.WideShapes

def upd {α : Type} (f : Nat → α) (k : Nat) (v : α) : Nat → α := fun i => if i = k then v else f i
theorem upd_same {α : Type} (f : Nat → α) (k : Nat) (v : α) : upd f k v k = v := by simp [upd]
theorem upd_ne {α : Type} {f : Nat → α} {k i : Nat} {v : α} (h : i ≠ k) : upd f k v i = f i := by simp [upd, h]

theorem getElem?_snoc {α : Type} {l : List α} {x y : α} {i : Nat} (h : (l ++ [x])[i]? = some y) : (i < l.length ∧ l[i]? = some y) ∨ (i = l.length ∧ y = x) := by
  rcases Nat.lt_or_ge i l.length with hi | hi
  · rw [List.getElem?_append_left hi] at h
    exact .inl ⟨hi, h⟩
  · rw [List.getElem?_append_right hi] at h
    rcases hk : i - l.length with _ | k
    · rw [hk] at h
      simp at h
      exact .inr ⟨by omega, h.symm⟩
    · rw [hk] at h
      simp at h
theorem get_lt {α : Type} {l : List α} {y : α} {i : Nat} (h : l[i]? = some y) : i < l.length := (List.getElem?_eq_some_iff.1 h).1

theorem heap_other_cell {w w' : World} {b o : Nat} (h : w'.heap[b]? = w.heap[b]?) : w'.cell? ⟨b, o, none⟩ = w.cell? ⟨b, o, none⟩ := World.cell?_of_block (a := ⟨b, o, none⟩) h

theorem StoOk.box_lt {av : Nat → Nat → Prop} {st : Sto} {m : Lay} {w : World} (h : StoOk av st m w) {k : Nat} {x : PBox} (hx : st.boxes[k]? = some (some x)) : m.ρ k < w.heap.size := by
  obtain ⟨vs, h1, -⟩ := h.box k x hx
  exact h1.lt
theorem StoOk.row_lt {av : Nat → Nat → Prop} {st : Sto} {m : Lay} {w : World} (h : StoOk av st m w) {r : Nat} {row : PRow} {g c : Nat} (hr : st.rows[r]? = some row) (hg : m.γ r = some (g, c)) : g < w.heap.size := by
  obtain ⟨-, -, h1⟩ := h.row r row hr
  rcases h1 with ⟨h1, -⟩ | ⟨g', c', cur, h1, h2, -⟩
  · rw [hg] at h1; cases h1
  · rw [hg] at h1
    injection h1 with h1
    injection h1 with h1 h3
    subst h1
    exact h2.lt

/-- The world may be later: what is known of stores stays. -/
theorem Ev.later {st : Sto} {m : Lay} {w w' : World} (h : Ext w w') : Ev st m w st m w' :=
  ⟨h.os, h.tape, h.output, h.size, fun b hb _ _ => h.block b hb, fun b o hb _ => heap_other_cell (h.block b hb), fun _ _ _ h => h, fun _ x h => ⟨⟨x, h⟩, rfl⟩, fun _ x h => .inl ⟨x, h⟩, fun _ row h => ⟨row, h, rfl, Nat.le_refl _, fun _ => rfl, fun h => ⟨h, rfl⟩⟩, fun _ row _ c h h' => .inl ⟨row, c, h, h'⟩⟩
theorem RepM.ext {ok : Nat → Nat → Prop} {w w' : World} {t : Tr} {v : Value} (h : RepM ok w t v) (hx : Ext w w') : RepM ok w' t v := h.mono hx.size (fun _ _ _ h => h) (fun _ _ hb _ => heap_other_cell (hx.block _ hb))
theorem StoOk.later {av : Nat → Nat → Prop} {st : Sto} {m : Lay} {w w' : World} (h : StoOk av st m w) (hx : Ext w w') : StoOk av st m w' where
  box := fun k x hk => by
    obtain ⟨vs, h1, h2⟩ := h.box k x hk
    exact ⟨vs, h1.ext hx, RVL.mono (Ev.later hx) _ _ h2⟩
  binj := h.binj
  row := fun r row hr => by
    obtain ⟨h1, h2, h3⟩ := h.row r row hr
    refine ⟨h1, h2, ?_⟩
    rcases h3 with h3 | ⟨g, c, cur, k1, k2, k3, k4, k5, k6⟩
    · exact .inl h3
    · exact .inr ⟨g, c, cur, k1, k2.ext hx, k3, k4, k5, k6.ext hx⟩
  rinj := h.rinj
  br := h.br
  avlt := fun b o hb => Nat.lt_of_lt_of_le (h.avlt b o hb) hx.size
  avr := h.avr

/-! ### A new box -/
def Sto.addBox (st : Sto) (x : PBox) : Sto := ⟨st.boxes ++ [some x], st.rows⟩
theorem addBox_live {st : Sto} {x y : PBox} {k : Nat} (h : (st.addBox x).boxes[k]? = some (some y)) : (k < st.boxes.length ∧ st.boxes[k]? = some (some y)) ∨ (k = st.boxes.length ∧ y = x) := by
  rcases getElem?_snoc h with h | ⟨h1, h2⟩
  · exact .inl h
  · exact .inr ⟨h1, Option.some.inj h2⟩
theorem ev_addBox {st : Sto} {m : Lay} {w : World} {x : PBox} {vs : Array Value} : Ev st m w (st.addBox x) ⟨upd m.ρ st.boxes.length w.heap.size, m.γ⟩ (w.alloc (.cells vs x.ty)) := by
  have hx : Ext w (w.alloc (.cells vs x.ty)) := .alloc (.refl _) _
  refine ⟨hx.os, hx.tape, hx.output, hx.size, fun b hb _ _ => hx.block b hb, fun b o hb _ => heap_other_cell (hx.block b hb), fun b o hb h => ⟨fun k y hk => ?_, h.2⟩, fun k y hk => ⟨⟨y, ?_⟩, ?_⟩, fun k y hk => ?_, fun _ row h => ⟨row, h, rfl, Nat.le_refl _, fun _ => rfl, fun h => ⟨h, rfl⟩⟩, fun _ row _ c h h' => .inl ⟨row, c, h, h'⟩⟩
  · rcases addBox_live hk with ⟨h1, h2⟩ | ⟨rfl, rfl⟩
    · simp only [upd_ne (show k ≠ st.boxes.length by omega)]
      exact h.1 k y h2
    · simp only [upd_same]
      omega
  · show (st.boxes ++ [some x])[k]? = _
    rw [List.getElem?_append_left (get_lt hk)]; exact hk
  · exact upd_ne (by have := get_lt hk; omega)
  · rcases addBox_live hk with ⟨h1, h2⟩ | ⟨rfl, rfl⟩
    · exact .inl ⟨y, h2⟩
    · exact .inr (by simp [upd_same])
theorem sto_addBox {av : Nat → Nat → Prop} {st : Sto} {m : Lay} {w : World} {x : PBox} {vs : List Value} (h : StoOk av st m w) (hc : RVL (okA av st m) st m w x.cells vs) :
    StoOk av (st.addBox x) ⟨upd m.ρ st.boxes.length w.heap.size, m.γ⟩ (w.alloc (.cells ⟨vs⟩ x.ty)) := by
  have hx : Ext w (w.alloc (.cells ⟨vs⟩ x.ty)) := .alloc (.refl _) _
  have he : Ev st m w (st.addBox x) ⟨upd m.ρ st.boxes.length w.heap.size, m.γ⟩ (w.alloc (.cells ⟨vs⟩ x.ty)) := ev_addBox
  have hw := fun k y (hk : st.boxes[k]? = some (some y)) => h.box_lt hk
  refine ⟨fun k y hk => ?_, fun k k' y y' hk hk' hne => ?_, fun r row hr => ?_, h.rinj, fun k y r row g c hk hr hg => ?_, fun b o hb => Nat.lt_of_lt_of_le (h.avlt b o hb) hx.size, h.avr⟩
  · rcases addBox_live hk with ⟨h1, h2⟩ | ⟨rfl, rfl⟩
    · obtain ⟨us, k1, k2⟩ := h.box k y h2
      simp only [upd_ne (show k ≠ st.boxes.length by omega)]
      exact ⟨us, k1.ext hx, RVL.mono he _ _ k2⟩
    · simp only [upd_same]
      exact ⟨vs, OB.new w _ _, RVL.mono he _ _ hc⟩
  · rcases addBox_live hk with ⟨h1, h2⟩ | ⟨rfl, rfl⟩ <;> rcases addBox_live hk' with ⟨h1', h2'⟩ | ⟨rfl, rfl⟩
    · simp only [upd_ne (show k ≠ st.boxes.length by omega), upd_ne (show k' ≠ st.boxes.length by omega)]
      exact h.binj k k' y y' h2 h2' hne
    · simp only [upd_ne (show k ≠ st.boxes.length by omega), upd_same]
      have := hw k y h2
      omega
    · simp only [upd_ne (show k' ≠ st.boxes.length by omega), upd_same]
      have := hw k' y' h2'
      omega
    · exact absurd rfl hne
  · obtain ⟨k1, k2, k3⟩ := h.row r row hr
    refine ⟨k1, k2, ?_⟩
    rcases k3 with k3 | ⟨g, c, cur, q1, q2, q3, q4, q5, q6⟩
    · exact .inl k3
    · exact .inr ⟨g, c, cur, q1, q2.ext hx, q3, q4, q5, RV.mono he (.t _) _ q6⟩
  · rcases addBox_live hk with ⟨h1, h2⟩ | ⟨rfl, rfl⟩
    · simp only [upd_ne (show k ≠ st.boxes.length by omega)]
      exact h.br k y r row g c h2 hr hg
    · simp only [upd_same]
      have := h.row_lt hr hg
      omega

/-! ### A box is written -/
def Sto.setBox (st : Sto) (k : Nat) (x : PBox) : Sto := ⟨st.boxes.set k (some x), st.rows⟩
theorem setBox_live {st : Sto} {x y : PBox} {k i : Nat} (h : (st.setBox k x).boxes[i]? = some (some y)) : (i ≠ k ∧ st.boxes[i]? = some (some y)) ∨ (i = k ∧ y = x) := by
  have h : (st.boxes.set k (some x))[i]? = some (some y) := h
  rw [List.getElem?_set] at h
  split at h
  · rename_i hik
    split at h
    · exact .inr ⟨hik.symm, by simpa using h.symm⟩
    · cases h
  · rename_i hik
    exact .inl ⟨fun e => hik e.symm, h⟩
theorem ev_setBox {av : Nat → Nat → Prop} {st : Sto} {m : Lay} {w w1 : World} {k : Nat} {x y : PBox} (hst : StoOk av st m w) (hk : st.boxes[k]? = some (some x)) (hos : w1.os = w.os) (ht : w1.tape = w.tape) (hout : w1.output = w.output) (hz : w1.heap.size = w.heap.size)
    (hb : ∀ b, b ≠ m.ρ k → w1.heap[b]? = w.heap[b]?) : Ev st m w (st.setBox k y) m w1 := by
  refine ⟨hos, ht, hout, by omega, fun b _ h1 _ => hb b (fun e => h1 k x hk e.symm), fun b o _ h => heap_other_cell (hb b (fun e => h.1 k x hk e.symm)), fun b o _ h => ⟨fun i z hi => ?_, h.2⟩, fun i z hi => ⟨?_, rfl⟩, fun i z hi => ?_, fun _ row h => ⟨row, h, rfl, Nat.le_refl _, fun _ => rfl, fun h => ⟨h, rfl⟩⟩, fun _ row _ c h h' => .inl ⟨row, c, h, h'⟩⟩
  · rcases setBox_live hi with ⟨h1, h2⟩ | ⟨rfl, rfl⟩
    · exact h.1 i z h2
    · exact h.1 _ x hk
  · show ∃ x', (st.boxes.set k (some y))[i]? = some (some x')
    rw [List.getElem?_set]
    by_cases hik : k = i
    · subst hik
      exact ⟨y, by simp [get_lt hi]⟩
    · exact ⟨z, by rw [if_neg hik]; exact hi⟩
  · rcases setBox_live hi with ⟨h1, h2⟩ | ⟨rfl, rfl⟩
    · exact .inl ⟨z, h2⟩
    · exact .inl ⟨x, hk⟩
theorem sto_setBox {av : Nat → Nat → Prop} {st : Sto} {m : Lay} {w w1 : World} {k : Nat} {x y : PBox} {vs : List Value} (hst : StoOk av st m w) (hk : st.boxes[k]? = some (some x)) (hos : w1.os = w.os) (ht : w1.tape = w.tape) (hout : w1.output = w.output) (hz : w1.heap.size = w.heap.size)
    (hb : ∀ b, b ≠ m.ρ k → w1.heap[b]? = w.heap[b]?) (hob : OB w1 (m.ρ k) y.ty ⟨vs⟩) (hc : RVL (okA av st m) st m w y.cells vs) : StoOk av (st.setBox k y) m w1 := by
  have he : Ev st m w (st.setBox k y) m w1 := ev_setBox hst hk hos ht hout hz hb
  refine ⟨fun i z hi => ?_, fun i i' z z' hi hi' hne => ?_, fun r row hr => ?_, hst.rinj, fun i z r row g c hi hr hg => ?_, fun b o h => by rw [hz]; exact hst.avlt b o h, hst.avr⟩
  · rcases setBox_live hi with ⟨h1, h2⟩ | ⟨rfl, rfl⟩
    · obtain ⟨us, k1, k2⟩ := hst.box i z h2
      exact ⟨us, (hb _ (hst.binj i k z x h2 hk h1)).trans k1, RVL.mono he _ _ k2⟩
    · exact ⟨vs, hob, RVL.mono he _ _ hc⟩
  · have key : ∀ i z, (st.setBox k y).boxes[i]? = some (some z) → ∃ z', st.boxes[i]? = some (some z') := fun i z hi => by
      rcases setBox_live hi with ⟨h1, h2⟩ | ⟨rfl, rfl⟩
      · exact ⟨z, h2⟩
      · exact ⟨x, hk⟩
    obtain ⟨u, hu⟩ := key i z hi
    obtain ⟨u', hu'⟩ := key i' z' hi'
    exact hst.binj i i' u u' hu hu' hne
  · obtain ⟨k1, k2, k3⟩ := hst.row r row hr
    refine ⟨k1, k2, ?_⟩
    rcases k3 with k3 | ⟨g, c, cur, q1, q2, q3, q4, q5, q6⟩
    · exact .inl k3
    · exact .inr ⟨g, c, cur, q1, (hb g (fun e => hst.br k x r row g c hk hr q1 e.symm)).trans q2, q3, q4, q5, RV.mono he (.t _) _ q6⟩
  · rcases setBox_live hi with ⟨h1, h2⟩ | ⟨rfl, rfl⟩
    · exact hst.br i z r row g c h2 hr hg
    · exact hst.br _ x r row g c hk hr hg

/-! ### A row grows -/
def Sto.setRow (st : Sto) (r : Nat) (row : PRow) : Sto := ⟨st.boxes, st.rows.set r row⟩
theorem setRow_live {st : Sto} {x y : PRow} {k i : Nat} (h : (st.setRow k x).rows[i]? = some y) : (i ≠ k ∧ st.rows[i]? = some y) ∨ (i = k ∧ y = x) := by
  have h : (st.rows.set k x)[i]? = some y := h
  rw [List.getElem?_set] at h
  split at h
  · rename_i hik
    split at h
    · exact .inr ⟨hik.symm, by simpa using h.symm⟩
    · cases h
  · rename_i hik
    exact .inl ⟨fun e => hik e.symm, h⟩

/-- A row has come to hold more: at the place (g, c); the row's old place, if it had one, is the same or is left alone. -/
structure Grow (av : Nat → Nat → Prop) (st : Sto) (m : Lay) (w : World) (r : Nat) (row : PRow) (es2 : List (List Tr)) (g c : Nat) (cur : Array Value) (w1 : World) : Prop where
  live : st.rows[r]? = some row
  os : w1.os = w.os
  tape : w1.tape = w.tape
  output : w1.output = w.output
  size : w.heap.size ≤ w1.heap.size
  blk : ∀ b, b < w.heap.size → b ≠ g → w1.heap[b]? = w.heap[b]?
  ob : OB w1 g row.E cur
  csz : cur.size = c * row.sz
  fit : row.es.length + es2.length ≤ c
  max : c ≤ maxLen
  lens : ∀ e ∈ es2, e.length = row.sz
  old : ∀ i e, row.es[i]? = some e → ∀ j d, e[j]? = some d → ∃ v, cur[i * row.sz + j]? = some v ∧ RepM (okA av st m) w d v
  new : ∀ i e, es2[i]? = some e → ∀ j d, e[j]? = some d → ∃ v, cur[(row.es.length + i) * row.sz + j]? = some v ∧ RepM (okA av st m) w d v
  place : (∃ c0 cur0, m.γ r = some (g, c0) ∧ OB w g row.E cur0 ∧ ∀ o, o < row.es.length * row.sz → cur[o]? = cur0[o]?) ∨ w.heap.size ≤ g
  cap : row.whole = true ∨ es2 = [] → m.γ r = some (g, c)

theorem Grow.ev {av : Nat → Nat → Prop} {st : Sto} {m : Lay} {w : World} {r : Nat} {row : PRow} {es2 : List (List Tr)} {g c : Nat} {cur : Array Value} {w1 : World} (h : Grow av st m w r row es2 g c cur w1) (hst : StoOk av st m w) :
    Ev st m w (st.setRow r { row with es := row.es ++ es2 }) ⟨m.ρ, upd m.γ r (some (g, c))⟩ w1 := by
  have hg : ∀ b, b < w.heap.size → b = g → ∃ c0, m.γ r = some (g, c0) := fun b hb e => by
    rcases h.place with ⟨c0, cur0, h1, -⟩ | h1
    · exact ⟨c0, h1⟩
    · omega
  refine ⟨h.os, h.tape, h.output, h.size, fun b hb _ h2 => h.blk b hb fun e => ?_, fun b o hb hk => ?_, fun b o hb hk => ⟨hk.1, fun i row' g' c' hi hg' e => ?_⟩, fun k x hk => ⟨⟨x, hk⟩, rfl⟩, fun k x hk => .inl ⟨x, hk⟩, fun i row' hi => ?_, fun i row' g' c' hi hg' => ?_⟩
  · obtain ⟨c0, h1⟩ := hg b hb e
    exact h2 r row g c0 h.live h1 e.symm
  · by_cases e : b = g
    · subst e
      rcases h.place with ⟨c0, cur0, h1, h2, h3⟩ | h1
      · have ho := hk.2 r row b c0 h.live h1 rfl
        rw [h.ob.cell, h2.cell, h3 o ho]
      · omega
    · exact heap_other_cell (h.blk b hb e)
  · rcases setRow_live hi with ⟨h1, h2⟩ | ⟨rfl, rfl⟩
    · simp only [upd_ne h1] at hg'
      exact hk.2 i row' g' c' h2 hg' e
    · simp only [upd_same, Option.some.injEq, Prod.mk.injEq] at hg'
      obtain ⟨rfl, rfl⟩ := hg'
      subst e
      obtain ⟨c0, h1⟩ := hg _ hb rfl
      have := hk.2 _ row _ c0 h.live h1 rfl
      simp only [List.length_append]
      exact Nat.lt_of_lt_of_le this (Nat.mul_le_mul_right _ (by omega))
  · by_cases e : i = r
    · subst e
      rw [h.live] at hi
      cases hi
      refine ⟨{ row with es := row.es ++ es2 }, by show (st.rows.set i _)[i]? = _; simp [List.getElem?_set, get_lt h.live], rfl, by simp, fun he => ?_, fun hw => ⟨hw, ?_⟩⟩
      · simp only [upd_same]
        exact (h.cap (.inr (by simpa using he))).symm
      · simp only [upd_same]
        exact (h.cap (.inl hw)).symm
    · refine ⟨row', by show (st.rows.set r _)[i]? = _; rw [List.getElem?_set, if_neg (fun e' => e e'.symm)]; exact hi, rfl, Nat.le_refl _, fun _ => upd_ne e, fun hw => ⟨hw, upd_ne e⟩⟩
  · rcases setRow_live hi with ⟨h1, h2⟩ | ⟨rfl, rfl⟩
    · simp only [upd_ne h1] at hg'
      exact .inl ⟨row', c', h2, hg'⟩
    · simp only [upd_same, Option.some.injEq, Prod.mk.injEq] at hg'
      obtain ⟨rfl, rfl⟩ := hg'
      rcases h.place with ⟨c0, cur0, h1, -⟩ | h1
      · exact .inl ⟨row, c0, h.live, h1⟩
      · exact .inr h1

theorem Grow.sto {av : Nat → Nat → Prop} {st : Sto} {m : Lay} {w : World} {r : Nat} {row : PRow} {es2 : List (List Tr)} {g c : Nat} {cur : Array Value} {w1 : World} (h : Grow av st m w r row es2 g c cur w1) (hst : StoOk av st m w) :
    StoOk av (st.setRow r { row with es := row.es ++ es2 }) ⟨m.ρ, upd m.γ r (some (g, c))⟩ w1 := by
  have he := h.ev hst
  have hgn : ∀ i row' c', i ≠ r → st.rows[i]? = some row' → m.γ i = some (g, c') → False := fun i row' c' hne hi hg => by
    rcases h.place with ⟨c0, cur0, h1, -⟩ | h1
    · exact hne (hst.rinj i r row' row g c' c0 hi h.live hg h1)
    · have := hst.row_lt hi hg; omega
  have hbn : ∀ k x, st.boxes[k]? = some (some x) → m.ρ k ≠ g := fun k x hk e => by
    rcases h.place with ⟨c0, cur0, h1, -⟩ | h1
    · exact hst.br k x r row g c0 hk h.live h1 e
    · have := hst.box_lt hk; omega
  have hav : ∀ o, ¬ av g o := fun o ha => by
    rcases h.place with ⟨c0, cur0, h1, -⟩ | h1
    · exact hst.avr r row g c0 h.live h1 o ha
    · have := hst.avlt _ _ ha; omega
  obtain ⟨hpos, hlens, -⟩ := hst.row r row h.live
  refine ⟨fun k x hk => ?_, hst.binj, fun i row' hi => ?_, fun i i' row' row'' g' c' c'' hi hi' hg hg' => ?_, fun k x i row' g' c' hk hi hg => ?_, fun b o hb => Nat.lt_of_lt_of_le (hst.avlt b o hb) h.size, fun i row' g' c' hi hg o => ?_⟩
  · obtain ⟨vs, k1, k2⟩ := hst.box k x hk
    exact ⟨vs, (h.blk _ k1.lt (hbn k x hk)).trans k1, RVL.mono he _ _ k2⟩
  · rcases setRow_live hi with ⟨h1, h2⟩ | ⟨rfl, rfl⟩
    · obtain ⟨k1, k2, k3⟩ := hst.row i row' h2
      refine ⟨k1, k2, ?_⟩
      simp only [upd_ne h1]
      rcases k3 with k3 | ⟨g', c', cur', q1, q2, q3, q4, q5, q6⟩
      · exact .inl k3
      · refine .inr ⟨g', c', cur', q1, (h.blk g' q2.lt (fun e => ?_)).trans q2, q3, q4, q5, RV.mono he (.t _) _ q6⟩
        subst e
        exact hgn i row' c' h1 h2 q1
    · refine ⟨hpos, fun e he' => ?_, .inr ⟨g, c, cur, upd_same _ _ _, h.ob, h.csz, by simpa using h.fit, h.max, ?_⟩⟩
      · rcases List.mem_append.1 he' with h1 | h1
        · exact hlens e h1
        · exact h.lens e h1
      · have hget : ∀ q e, (row.es ++ es2)[q]? = some e → ∀ j d, e[j]? = some d → ∃ v, cur[q * row.sz + j]? = some v ∧ RepM (okA av st m) w d v := fun q e hq j d hd => by
          rcases Nat.lt_or_ge q row.es.length with hlt | hge
          · rw [List.getElem?_append_left hlt] at hq
            exact h.old q e hq j d hd
          · rw [List.getElem?_append_right hge] at hq
            have := h.new _ e hq j d hd
            rwa [show row.es.length + (q - row.es.length) = q by omega] at this
        have hlen2 : ∀ q e, (row.es ++ es2)[q]? = some e → q < (row.es ++ es2).length ∧ e.length = row.sz := fun q e hq => by
          refine ⟨get_lt hq, ?_⟩
          rcases List.mem_append.1 (List.mem_of_getElem? hq) with h1 | h1
          · exact hlens e h1
          · exact h.lens e h1
        refine RepM.row (es := row.es ++ es2) (fun q j => (cur[q * row.sz + j]?).getD undef) (by simpa using h.fit) h.max (fun _ => ⟨g, 0, rfl, h.ob.lt, fun q e hq j d hd => ⟨?_, ?_⟩⟩) (fun q e hq j d hd => ?_)
        · rw [Nat.zero_add]
          refine ⟨hav _, fun k x hk => hbn k x hk, fun i' row' g' c' hi' hg' e' => ?_⟩
          rcases setRow_live hi' with ⟨h1, h2⟩ | ⟨rfl, rfl⟩
          · simp only [upd_ne h1] at hg'
            subst e'
            exact (hgn i' row' c' h1 h2 hg').elim
          · obtain ⟨h1, h2⟩ := hlen2 q e hq
            have hj := get_lt hd
            show q * row.sz + j < (row.es ++ es2).length * row.sz
            have : (q + 1) * row.sz ≤ (row.es ++ es2).length * row.sz := Nat.mul_le_mul_right _ h1
            rw [Nat.succ_mul] at this
            omega
        · obtain ⟨v, hv, -⟩ := hget q e hq j d hd
          rw [Nat.zero_add, h.ob.cell, hv]
          rfl
        · obtain ⟨v, hv, hr⟩ := hget q e hq j d hd
          rw [hv]
          exact RV.mono he (.t d) _ hr
  · rcases setRow_live hi with ⟨h1, h2⟩ | ⟨rfl, rfl⟩ <;> rcases setRow_live hi' with ⟨h1', h2'⟩ | ⟨rfl, rfl⟩
    · simp only [upd_ne h1] at hg
      simp only [upd_ne h1'] at hg'
      exact hst.rinj i i' row' row'' g' c' c'' h2 h2' hg hg'
    · simp only [upd_ne h1] at hg
      simp only [upd_same, Option.some.injEq, Prod.mk.injEq] at hg'
      obtain ⟨rfl, rfl⟩ := hg'
      exact (hgn i row' c' h1 h2 hg).elim
    · simp only [upd_ne h1'] at hg'
      simp only [upd_same, Option.some.injEq, Prod.mk.injEq] at hg
      obtain ⟨rfl, rfl⟩ := hg
      exact (hgn i' row'' c'' h1' h2' hg').elim
    · rfl
  · rcases setRow_live hi with ⟨h1, h2⟩ | ⟨rfl, rfl⟩
    · simp only [upd_ne h1] at hg
      exact hst.br k x i row' g' c' hk h2 hg
    · simp only [upd_same, Option.some.injEq, Prod.mk.injEq] at hg
      obtain ⟨rfl, rfl⟩ := hg
      exact hbn k x hk
  · rcases setRow_live hi with ⟨h1, h2⟩ | ⟨rfl, rfl⟩
    · simp only [upd_ne h1] at hg
      exact hst.avr i row' g' c' h2 hg o
    · simp only [upd_same, Option.some.injEq, Prod.mk.injEq] at hg
      obtain ⟨rfl, rfl⟩ := hg
      exact hav o

/-! ### A row comes to be -/
def Sto.addRow (st : Sto) (row : PRow) : Sto := ⟨st.boxes, st.rows ++ [row]⟩
theorem ev_addRow {av : Nat → Nat → Prop} {st : Sto} {m : Lay} {w : World} {row : PRow} (_hst : StoOk av st m w) : Ev st m w (st.addRow row) ⟨m.ρ, upd m.γ st.rows.length none⟩ w := by
  refine ⟨rfl, rfl, rfl, Nat.le_refl _, fun _ _ _ _ => rfl, fun _ _ _ _ => rfl, fun b o _ h => ⟨h.1, fun i row' g c hi hg e => ?_⟩, fun _ x h => ⟨⟨x, h⟩, rfl⟩, fun _ x h => .inl ⟨x, h⟩, fun i row' hi => ⟨row', ?_, rfl, Nat.le_refl _, fun _ => ?_, fun hw => ⟨hw, ?_⟩⟩, fun i row' g c hi hg => ?_⟩
  · rcases getElem?_snoc hi with ⟨h1, h2⟩ | ⟨rfl, rfl⟩
    · simp only [upd_ne (show i ≠ st.rows.length by omega)] at hg
      exact h.2 i row' g c h2 hg e
    · simp [upd_same] at hg
  · show (st.rows ++ [row])[i]? = _
    rw [List.getElem?_append_left (get_lt hi)]; exact hi
  · exact upd_ne (by have := get_lt hi; omega)
  · exact upd_ne (by have := get_lt hi; omega)
  · rcases getElem?_snoc hi with ⟨h1, h2⟩ | ⟨rfl, rfl⟩
    · simp only [upd_ne (show i ≠ st.rows.length by omega)] at hg
      exact .inl ⟨row', c, h2, hg⟩
    · simp [upd_same] at hg
theorem sto_addRow {av : Nat → Nat → Prop} {st : Sto} {m : Lay} {w : World} {row : PRow} (h : StoOk av st m w) (hp : 0 < row.sz) (he : row.es = []) : StoOk av (st.addRow row) ⟨m.ρ, upd m.γ st.rows.length none⟩ w := by
  have ev := ev_addRow (row := row) h
  have key : ∀ i row' g c, (st.addRow row).rows[i]? = some row' → upd m.γ st.rows.length none i = some (g, c) → st.rows[i]? = some row' ∧ m.γ i = some (g, c) := fun i row' g c hi hg => by
    rcases getElem?_snoc hi with ⟨h1, h2⟩ | ⟨rfl, rfl⟩
    · rw [upd_ne (show i ≠ st.rows.length by omega)] at hg
      exact ⟨h2, hg⟩
    · simp [upd_same] at hg
  refine ⟨fun k x hk => ?_, h.binj, fun i row' hi => ?_, fun i i' row' row'' g c c' hi hi' hg hg' => ?_, fun k x i row' g c hk hi hg => ?_, h.avlt, fun i row' g c hi hg => ?_⟩
  · obtain ⟨vs, k1, k2⟩ := h.box k x hk
    exact ⟨vs, k1, RVL.mono ev _ _ k2⟩
  · rcases getElem?_snoc hi with ⟨h1, h2⟩ | ⟨rfl, rfl⟩
    · obtain ⟨k1, k2, k3⟩ := h.row i row' h2
      refine ⟨k1, k2, ?_⟩
      simp only [upd_ne (show i ≠ st.rows.length by omega)]
      rcases k3 with k3 | ⟨g, c, cur, q1, q2, q3, q4, q5, q6⟩
      · exact .inl k3
      · exact .inr ⟨g, c, cur, q1, q2, q3, q4, q5, RV.mono ev (.t _) _ q6⟩
    · exact ⟨hp, by rw [he]; simp, .inl ⟨upd_same _ _ _, he⟩⟩
  · obtain ⟨h1, h2⟩ := key i row' g c hi hg
    obtain ⟨h1', h2'⟩ := key i' row'' g c' hi' hg'
    exact h.rinj i i' row' row'' g c c' h1 h1' h2 h2'
  · obtain ⟨h1, h2⟩ := key i row' g c hi hg
    exact h.br k x i row' g c hk h1 h2
  · obtain ⟨h1, h2⟩ := key i row' g c hi hg
    exact h.avr i row' g c h1 h2
end Go.Proofs.YtnakkelglbcecaaGreat
