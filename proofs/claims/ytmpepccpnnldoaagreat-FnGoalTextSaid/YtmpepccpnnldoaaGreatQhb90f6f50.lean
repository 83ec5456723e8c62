/- Words, rules and walks of several kinds, laid together: Pm10, Data, PmD, PmX, PmY, PmZ, PmW, PmV, PmN, PmO, PmDS, PmK, PmM, PmU, PmT, PmDraw, PmB, PlZ, PmR, PmBool, Pma, PmF, PmS, PmEq, PmaB, PmG. No conditions but those that each theorem states. -/
import Derived.Test.YtmpepccpnnldoaaGreatQhc4eb6a9a
import Derived.Test.YtmpepccpnnldoaaGreatProg
import Derived.Laws.MakeOwn
set_option linter.unusedSimpArgs false
set_option linter.unusedVariables false
namespace Go.Proofs.YtmpepccpnnldoaaGreat
set_option linter.unusedSimpArgs false
set_option linter.unusedVariables false
open Go.RowKit Go.WalkArith Go.IntWalk Go.WideShapes

mutual
/-- The callee's numbers, told in the caller's. -/
def PV.ren (fb fr : List Nat) : PV → PV
  | .t t => .t t
  | .agg cs => .agg (renL fb fr cs)
  | .tup cs => .tup (renL fb fr cs)
  | .nil => .nil
  | .acc sz es r => .acc sz es (fr.getD r 0)
  | .ptr k d => .ptr (fb.getD k 0) d
  | .eptr cs => .eptr cs
  | .fn f cs => .fn f (renL fb fr cs)
  | .full sz n r => .full sz n (fr.getD r 0)
  | .rptr r i => .rptr (fr.getD r 0) i
  | .lit sz es => .lit sz es
  | .bsl k n => .bsl (fb.getD k 0) n
  | .gsl k n => .gsl (fb.getD k 0) n
def renL (fb fr : List Nat) : List PV → List PV
  | [] => []
  | p :: ps => PV.ren fb fr p :: renL fb fr ps
end
def PBox.ren (fb fr : List Nat) (x : PBox) : PBox := ⟨x.ty, renL fb fr x.cells⟩
def Lay.via (m : Lay) (fb fr : List Nat) : Lay := ⟨fun k => m.ρ (fb.getD k 0), fun r => m.γ (fr.getD r 0)⟩

/-- The store 'pre', as a part of ours. -/
structure Part0 (s pre : Sto) (fb fr : List Nat) : Prop where
  fbl : fb.length = pre.boxes.length
  frl : fr.length = pre.rows.length
  fbn : fb.Nodup
  frn : fr.Nodup
  all : ∀ k, k < pre.boxes.length → ∃ x, pre.boxes[k]? = some (some x)
  box : ∀ k x, pre.boxes[k]? = some (some x) → ∃ y, s.boxes[fb.getD k 0]? = some (some y) ∧ y.ty = x.ty ∧ LeL y.cells (renL fb fr x.cells) ∧ okInL pre x.cells = true
  row : ∀ r row, pre.rows[r]? = some row → s.rows[fr.getD r 0]? = some row
def idx? (l : List Nat) (i : Nat) : Option Nat := l.findIdx? (· == i)
def Sto.over (s st' : Sto) (fb fr : List Nat) : Sto :=
  ⟨s.boxes.zipIdx.map fun (b, i) => match idx? fb i with | some j => (st'.boxes.getD j none).map (PBox.ren fb fr) | none => b,
   s.rows.zipIdx.map fun (row, i) => match idx? fr i with | some j => st'.rows.getD j row | none => row⟩

theorem idx?_some {l : List Nat} {i j : Nat} (h : idx? l i = some j) : l[j]? = some i := by
  unfold idx? at h
  obtain ⟨h1, h2, -⟩ := List.findIdx?_eq_some_iff_getElem.1 h
  rw [List.getElem?_eq_getElem h1]
  simpa using h2
theorem idx?_none {l : List Nat} {i : Nat} (h : idx? l i = none) : ∀ (j : Nat), l[j]? ≠ some i := fun j hj => by
  unfold idx? at h
  rw [List.findIdx?_eq_none_iff] at h
  have := h i (List.mem_of_getElem? hj)
  simp at this
theorem idx?_of {l : List Nat} (hn : l.Nodup) {i j : Nat} (h : l[j]? = some i) : idx? l i = some j := by
  cases hq : idx? l i with
  | none => exact absurd h (idx?_none hq j)
  | some j' =>
    have h2 := idx?_some hq
    obtain ⟨hl, he⟩ := List.getElem?_eq_some_iff.1 h
    obtain ⟨hl', he'⟩ := List.getElem?_eq_some_iff.1 h2
    have hp := List.pairwise_iff_getElem.1 hn
    rcases Nat.lt_trichotomy j' j with hlt | heq | hgt
    · exact absurd (he'.trans he.symm) (hp j' j hl' hl hlt)
    · rw [heq]
    · exact absurd (he.trans he'.symm) (hp j j' hl hl' hgt)
theorem getD_get {l : List Nat} {k : Nat} (h : k < l.length) : l[k]? = some (l.getD k 0) := by
  simp [List.getD_eq_getElem?_getD, List.getElem?_eq_getElem h]

mutual
theorem RV.unren {ok ok' : Nat → Nat → Prop} {s pre : Sto} {m : Lay} {w : World} {fb fr : List Nat} (h : Part0 s pre fb fr) (hk : ∀ b o, b < w.heap.size → ok b o → ok' b o) : ∀ (p : PV) (v : Value), PV.okIn pre p = true → RV ok s m w (PV.ren fb fr p) v → RV ok' pre (m.via fb fr) w p v
  | .t t, v, _, hr => RepM.mono hr (Nat.le_refl _) hk (fun _ _ _ _ => rfl)
  | .agg cs, v, hi, hr => by
    obtain ⟨vs, hv, hl⟩ := hr
    exact ⟨vs, hv, RVL.unren h hk cs vs hi hl⟩
  | .tup cs, v, hi, hr => by
    obtain ⟨vs, hv, hl⟩ := hr
    exact ⟨vs, hv, RVL.unren h hk cs vs hi hl⟩
  | .nil, v, _, hr => hr
  | .acc sz es r, v, hi, hr => by
    obtain ⟨row, h1, h2, h3, h4, h5⟩ := hr
    obtain ⟨row', hr'⟩ := get_of_lt (of_decide_eq_true hi)
    have := h.row r row' hr'
    rw [h1] at this
    cases this
    exact ⟨row, hr', h2, h3, RepM.mono h4 (Nat.le_refl _) hk (fun _ _ _ _ => rfl), h5⟩
  | .ptr k d, v, hi, hr => by
    obtain ⟨-, hv⟩ := hr
    refine ⟨?_, hv⟩
    simp only [PV.okIn] at hi
    split at hi
    · rename_i x hx
      exact ⟨x, hx⟩
    · cases hi
  | .eptr cs, v, _, hr => by
    obtain ⟨b, off, h1, hb, c, h2⟩ := hr
    refine ⟨b, off, h1, hb, c, fun j d hd => ?_⟩
    obtain ⟨k1, k2, k3⟩ := h2 j d hd
    exact ⟨hk _ _ hb k1, k2, RepM.mono k3 (Nat.le_refl _) hk (fun _ _ _ _ => rfl)⟩
  | .fn f cs, v, hi, hr => by
    obtain ⟨vs, hv, hl⟩ := hr
    exact ⟨vs, hv, RVL.unren h hk cs vs hi hl⟩
  | .full sz n r, v, hi, hr => by
    obtain ⟨row, g, h1, h2, h3, h4, h5⟩ := hr
    obtain ⟨row', hr'⟩ := get_of_lt (of_decide_eq_true hi)
    have := h.row r row' hr'
    rw [h1] at this
    cases this
    exact ⟨row, g, hr', h2, h3, h4, h5⟩
  | .rptr r i, v, hi, hr => by
    obtain ⟨row, g, n, h1, h3, h4, h5⟩ := hr
    obtain ⟨row', hr'⟩ := get_of_lt (of_decide_eq_true hi)
    have := h.row r row' hr'
    rw [h1] at this
    cases this
    exact ⟨row, g, n, hr', h3, h4, h5⟩
  | .lit sz es, v, _, hr => ⟨RepM.mono hr.1 (Nat.le_refl _) hk (fun _ _ _ _ => rfl), hr.2⟩
  | .bsl k n, v, hi, hr => by
    obtain ⟨-, hv⟩ := hr
    refine ⟨?_, hv⟩
    simp only [PV.okIn] at hi
    split at hi
    · rename_i x hx
      exact ⟨x, hx⟩
    · cases hi
  | .gsl k n, v, hi, hr => by
    obtain ⟨-, hv⟩ := hr
    refine ⟨?_, hv⟩
    simp only [PV.okIn] at hi
    split at hi
    · rename_i x hx
      exact ⟨x, hx⟩
    · cases hi
theorem RVL.unren {ok ok' : Nat → Nat → Prop} {s pre : Sto} {m : Lay} {w : World} {fb fr : List Nat} (h : Part0 s pre fb fr) (hk : ∀ b o, b < w.heap.size → ok b o → ok' b o) : ∀ (ps : List PV) (vs : List Value), okInL pre ps = true → RVL ok s m w (renL fb fr ps) vs → RVL ok' pre (m.via fb fr) w ps vs
  | [], [], _, hr => hr
  | p :: ps, v :: vs, hi, hr => by
    simp only [okInL, Bool.and_eq_true] at hi
    exact ⟨RV.unren h hk p v hi.1 hr.1, RVL.unren h hk ps vs hi.2 hr.2⟩
  | [], _ :: _, _, hr => hr.elim
  | _ :: _, [], _, hr => hr.elim
end

/-- What the callee tells of its numbers holds of ours. -/
structure Back (st' s1 : Sto) (m' m1 : Lay) (fb fr : List Nat) : Prop where
  box : ∀ k x, st'.boxes[k]? = some (some x) → (∃ y, s1.boxes[fb.getD k 0]? = some (some y)) ∧ m1.ρ (fb.getD k 0) = m'.ρ k
  row : ∀ r row, st'.rows[r]? = some row → s1.rows[fr.getD r 0]? = some row ∧ m1.γ (fr.getD r 0) = m'.γ r
mutual
theorem RV.ren {ok ok' : Nat → Nat → Prop} {st' s1 : Sto} {m' m1 : Lay} {w : World} {fb fr : List Nat} (h : Back st' s1 m' m1 fb fr) (hk : ∀ b o, b < w.heap.size → ok b o → ok' b o) : ∀ (p : PV) (v : Value), RV ok st' m' w p v → RV ok' s1 m1 w (PV.ren fb fr p) v
  | .t t, v, hr => RepM.mono hr (Nat.le_refl _) hk (fun _ _ _ _ => rfl)
  | .agg cs, v, hr => by
    obtain ⟨vs, hv, hl⟩ := hr
    exact ⟨vs, hv, RVL.ren h hk cs vs hl⟩
  | .tup cs, v, hr => by
    obtain ⟨vs, hv, hl⟩ := hr
    exact ⟨vs, hv, RVL.ren h hk cs vs hl⟩
  | .nil, v, hr => hr
  | .acc sz es r, v, hr => by
    obtain ⟨row, h1, h2, h3, h4, h5⟩ := hr
    obtain ⟨k1, k2⟩ := h.row r row h1
    exact ⟨row, k1, h2, h3, RepM.mono h4 (Nat.le_refl _) hk (fun _ _ _ _ => rfl), fun e => by rw [k2]; exact h5 e⟩
  | .ptr k d, v, hr => by
    obtain ⟨⟨x, hx⟩, hv⟩ := hr
    obtain ⟨k1, k2⟩ := h.box k x hx
    exact ⟨k1, by rw [k2]; exact hv⟩
  | .eptr cs, v, hr => by
    obtain ⟨b, off, h1, hb, c, h2⟩ := hr
    refine ⟨b, off, h1, hb, c, fun j d hd => ?_⟩
    obtain ⟨k1, k2, k3⟩ := h2 j d hd
    exact ⟨hk _ _ hb k1, k2, RepM.mono k3 (Nat.le_refl _) hk (fun _ _ _ _ => rfl)⟩
  | .fn f cs, v, hr => by
    obtain ⟨vs, hv, hl⟩ := hr
    exact ⟨vs, hv, RVL.ren h hk cs vs hl⟩
  | .full sz n r, v, hr => by
    obtain ⟨row, g, h1, h2, h3, h4, h5⟩ := hr
    obtain ⟨k1, k2⟩ := h.row r row h1
    exact ⟨row, g, k1, h2, h3, by rw [k2]; exact h4, h5⟩
  | .rptr r i, v, hr => by
    obtain ⟨row, g, n, h1, h3, h4, h5⟩ := hr
    obtain ⟨k1, k2⟩ := h.row r row h1
    exact ⟨row, g, n, k1, h3, by rw [k2]; exact h4, h5⟩
  | .lit sz es, v, hr => ⟨RepM.mono hr.1 (Nat.le_refl _) hk (fun _ _ _ _ => rfl), hr.2⟩
  | .bsl k n, v, hr => by
    obtain ⟨⟨x, hx⟩, hv⟩ := hr
    obtain ⟨k1, k2⟩ := h.box k x hx
    exact ⟨k1, by rw [k2]; exact hv⟩
  | .gsl k n, v, hr => by
    obtain ⟨⟨x, hx⟩, hv⟩ := hr
    obtain ⟨k1, k2⟩ := h.box k x hx
    exact ⟨k1, by rw [k2]; exact hv⟩
theorem RVL.ren {ok ok' : Nat → Nat → Prop} {st' s1 : Sto} {m' m1 : Lay} {w : World} {fb fr : List Nat} (h : Back st' s1 m' m1 fb fr) (hk : ∀ b o, b < w.heap.size → ok b o → ok' b o) : ∀ (ps : List PV) (vs : List Value), RVL ok st' m' w ps vs → RVL ok' s1 m1 w (renL fb fr ps) vs
  | [], [], hr => hr
  | p :: ps, v :: vs, hr => ⟨RV.ren h hk p v hr.1, RVL.ren h hk ps vs hr.2⟩
  | [], _ :: _, hr => hr.elim
  | _ :: _, [], hr => hr.elim
end

/-- The callee's view: what it is not handed is shut. -/
def shutP (av : Nat → Nat → Prop) (s pre : Sto) (m : Lay) (fb fr : List Nat) (w : World) (b o : Nat) : Prop :=
  b < w.heap.size ∧ ¬ okA av s m b o ∧ (∀ k x, pre.boxes[k]? = some (some x) → m.ρ (fb.getD k 0) ≠ b) ∧ (∀ r row g c, pre.rows[r]? = some row → m.γ (fr.getD r 0) = some (g, c) → g ≠ b)

section
variable {av : Nat → Nat → Prop} {s pre : Sto} {m : Lay} {fb fr : List Nat} {w : World}

theorem Part0.ok (h : Part0 s pre fb fr) {b o : Nat} (k : okA av s m b o) : okA (shutP av s pre m fb fr w) pre (m.via fb fr) b o :=
  ⟨fun hs => hs.2.1 k, fun i x hi => by obtain ⟨y, hy, -⟩ := h.box i x hi; exact k.2.1 _ y hy, fun r row g c hr hg e => k.2.2 _ row g c (h.row r row hr) hg e⟩

theorem Part0.sto (h : Part0 s pre fb fr) (hs : StoOk av s m w) : StoOk (shutP av s pre m fb fr w) pre (m.via fb fr) w where
  box := fun k x hk => by
    obtain ⟨y, hy, ht, hl, ho⟩ := h.box k x hk
    obtain ⟨vs, h1, h2⟩ := hs.box _ y hy
    exact ⟨vs, by rw [← ht]; exact h1, RVL.unren h (fun b o _ k => h.ok k) _ _ ho (LeL.rv hl h2)⟩
  binj := fun k k' x x' hk hk' hne => by
    obtain ⟨y, hy, -⟩ := h.box k x hk
    obtain ⟨y', hy', -⟩ := h.box k' x' hk'
    refine hs.binj _ _ y y' hy hy' fun e => hne ?_
    have h1 := getD_get (l := fb) (k := k) (by rw [h.fbl]; exact get_lt hk)
    have h2 := getD_get (l := fb) (k := k') (by rw [h.fbl]; exact get_lt hk')
    rw [e] at h1
    exact Option.some.inj ((idx?_of h.fbn h1).symm.trans (idx?_of h.fbn h2))
  row := fun r row hr => by
    obtain ⟨h1, h2, h3⟩ := hs.row _ row (h.row r row hr)
    refine ⟨h1, h2, ?_⟩
    rcases h3 with h3 | ⟨g, c, cur, q1, q2, q3, q4, q5, q6⟩
    · exact .inl h3
    · exact .inr ⟨g, c, cur, q1, q2, q3, q4, q5, RepM.mono q6 (Nat.le_refl _) (fun b o _ k => h.ok k) (fun _ _ _ _ => rfl)⟩
  rinj := fun r r' row row' g c c' hr hr' hg hg' => by
    have e := hs.rinj _ _ row row' g c c' (h.row r row hr) (h.row r' row' hr') hg hg'
    have h1 := getD_get (l := fr) (k := r) (by rw [h.frl]; exact get_lt hr)
    have h2 := getD_get (l := fr) (k := r') (by rw [h.frl]; exact get_lt hr')
    rw [e] at h1
    exact Option.some.inj ((idx?_of h.frn h1).symm.trans (idx?_of h.frn h2))
  br := fun k x r row g c hk hr hg => by
    obtain ⟨y, hy, -⟩ := h.box k x hk
    exact hs.br _ y _ row g c hy (h.row r row hr) hg
  avlt := fun b o hb => hb.1
  avr := fun r row g c hr hg o ho => ho.2.2.2 r row g c hr hg rfl
  avb := fun k x hk o ho => ho.2.2.1 k x hk rfl

variable {st' : Sto} {m' : Lay} {w' : World}
def Lay.over (m m' : Lay) (fr : List Nat) : Lay := ⟨m.ρ, fun i => match idx? fr i with | some j => m'.γ j | none => m.γ i⟩

theorem over_box {i : Nat} {z : PBox} (h : (s.over st' fb fr).boxes[i]? = some (some z)) : (∃ (j : Nat) (x : PBox), fb[j]? = some i ∧ st'.boxes[j]? = some (some x) ∧ z = x.ren fb fr ∧ i < s.boxes.length) ∨ (idx? fb i = none ∧ s.boxes[i]? = some (some z)) := by
  unfold Sto.over at h
  simp only [List.getElem?_map, List.getElem?_zipIdx] at h
  cases hs : s.boxes[i]? with
  | none => simp [hs] at h
  | some b =>
    simp only [hs, Option.map_some, Nat.zero_add, Option.some.injEq] at h
    split at h
    · rename_i j hj
      left
      cases hx : st'.boxes[j]? with
      | none => simp [List.getD_eq_getElem?_getD, hx] at h
      | some ox =>
        cases ox with
        | none => simp [List.getD_eq_getElem?_getD, hx] at h
        | some x =>
          simp [List.getD_eq_getElem?_getD, hx] at h
          exact ⟨j, x, idx?_some hj, hx, h.symm, get_lt hs⟩
    · rename_i hj
      exact .inr ⟨hj, by rw [h]⟩
theorem over_row {i : Nat} {z : PRow} (h : (s.over st' fb fr).rows[i]? = some z) (hl : fr.length ≤ st'.rows.length) : (∃ (j : Nat), fr[j]? = some i ∧ st'.rows[j]? = some z ∧ i < s.rows.length) ∨ (idx? fr i = none ∧ s.rows[i]? = some z) := by
  unfold Sto.over at h
  simp only [List.getElem?_map, List.getElem?_zipIdx] at h
  cases hs : s.rows[i]? with
  | none => simp [hs] at h
  | some b =>
    simp only [hs, Option.map_some, Nat.zero_add, Option.some.injEq] at h
    split at h
    · rename_i j hj
      left
      have hj' := idx?_some hj
      have hlt : j < st'.rows.length := Nat.lt_of_lt_of_le (get_lt hj') hl
      refine ⟨j, hj', ?_, get_lt hs⟩
      rw [List.getElem?_eq_getElem hlt, ← h]
      simp [List.getD_eq_getElem?_getD, hlt]
    · rename_i hj
      exact .inr ⟨hj, by rw [h]⟩

/-- All of it, behind the call. -/
theorem over_all (h : Part0 s pre fb fr) (hs : StoOk av s m w) (hst : StoOk (shutP av s pre m fb fr w) st' m' w') (he : Ev pre (m.via fb fr) w st' m' w') (hbl : st'.boxes.length = pre.boxes.length) (hrl : st'.rows.length = pre.rows.length) :
    Ev s m w (s.over st' fb fr) (m.over m' fr) w' ∧ StoOk av (s.over st' fb fr) (m.over m' fr) w' ∧ Back st' (s.over st' fb fr) m' (m.over m' fr) fb fr ∧ (∀ b o, b < w'.heap.size → okA (shutP av s pre m fb fr w) st' m' b o → okA av (s.over st' fb fr) (m.over m' fr) b o) := by
  have hfrl : fr.length ≤ st'.rows.length := by rw [hrl, h.frl]; exact Nat.le_refl _
  -- boxes that were handed over
  have pb : ∀ (i j : Nat), fb[j]? = some i → ∃ (x y : PBox), pre.boxes[j]? = some (some x) ∧ s.boxes[i]? = some (some y) ∧ fb.getD j 0 = i ∧ m'.ρ j = m.ρ i ∧ ∃ x' : PBox, st'.boxes[j]? = some (some x') := fun i j hj => by
    obtain ⟨x, hx⟩ := h.all j (by rw [← h.fbl]; exact get_lt hj)
    obtain ⟨y, hy, -⟩ := h.box j x hx
    have e : fb.getD j 0 = i := by simp [List.getD_eq_getElem?_getD, hj]
    rw [e] at hy
    obtain ⟨h1, h2⟩ := he.live j x hx
    exact ⟨x, y, hx, hy, e, by rw [h2]; show m.ρ (fb.getD j 0) = _; rw [e], h1⟩
  have pr : ∀ (i j : Nat), fr[j]? = some i → ∃ row : PRow, pre.rows[j]? = some row ∧ s.rows[i]? = some row ∧ fr.getD j 0 = i := fun i j hj => by
    obtain ⟨row, hrow⟩ := get_of_lt (l := pre.rows) (i := j) (by rw [← h.frl]; exact get_lt hj)
    have e : fr.getD j 0 = i := by simp [List.getD_eq_getElem?_getD, hj]
    have := h.row j row hrow
    rw [e] at this
    exact ⟨row, hrow, this, e⟩
  have hγ : ∀ (i j : Nat), fr[j]? = some i → (m.over m' fr).γ i = m'.γ j := fun i j hj => by
    unfold Lay.over
    simp only [idx?_of h.frn hj]
  have hγn : ∀ i, idx? fr i = none → (m.over m' fr).γ i = m.γ i := fun i hi => by
    unfold Lay.over
    simp only [hi]
  have lv : ∀ i z, (s.over st' fb fr).boxes[i]? = some (some z) → ∃ y, s.boxes[i]? = some (some y) := fun i z hi => by
    rcases over_box hi with ⟨j, x, h1, -⟩ | ⟨-, h2⟩
    · obtain ⟨-, y, -, hy, -⟩ := pb i j h1
      exact ⟨y, hy⟩
    · exact ⟨z, h2⟩
  -- where a row lies
  have rp : ∀ i z g c, (s.over st' fb fr).rows[i]? = some z → (m.over m' fr).γ i = some (g, c) → (∃ row c0, s.rows[i]? = some row ∧ m.γ i = some (g, c0)) ∨ w.heap.size ≤ g := fun i z g c hi hg => by
    rcases over_row hi hfrl with ⟨j, h1, h2, -⟩ | ⟨h1, h2⟩
    · rw [hγ i j h1] at hg
      obtain ⟨row, hr1, hr2, e⟩ := pr i j h1
      rcases he.rfresh j z g c h2 hg with ⟨row0, c0, k1, k2⟩ | k
      · refine .inl ⟨row, c0, hr2, ?_⟩
        have k2 : m.γ (fr.getD j 0) = some (g, c0) := k2
        rw [e] at k2
        exact k2
      · exact .inr k
    · rw [hγn i h1] at hg
      exact .inl ⟨z, c, h2, hg⟩
  have okk : ∀ b o, b < w.heap.size → s.ok m b o → (s.over st' fb fr).ok (m.over m' fr) b o := fun b o hb hk => by
    have hp : pre.ok (m.via fb fr) b o := (h.ok (av := fun _ _ => False) (w := w) ⟨id, hk⟩).2
    have hp' := he.okk b o hb hp
    refine ⟨fun i z hi => ?_, fun i z g c hi hg e => ?_⟩
    · obtain ⟨y, hy⟩ := lv i z hi
      exact hk.1 i y hy
    · rcases over_row hi hfrl with ⟨j, h1, h2, -⟩ | ⟨h1, h2⟩
      · rw [hγ i j h1] at hg
        exact hp'.2 j z g c h2 hg e
      · rw [hγn i h1] at hg
        exact hk.2 i z g c h2 hg e
  have ev : Ev s m w (s.over st' fb fr) (m.over m' fr) w' := by
    refine ⟨he.os, he.tape, he.output, he.size, fun b hb h1 h2 => he.blk b hb (fun k x hk => ?_) (fun r row g c hr hg => ?_), fun b o hb hk => he.cell b o hb (h.ok (av := fun _ _ => False) (w := w) ⟨id, hk⟩).2, okk, fun i y hi => ⟨?_, rfl⟩, fun i z hi => .inl (lv i z hi), fun i row hi => ?_, rp⟩
    · obtain ⟨y, hy, -⟩ := h.box k x hk
      exact h1 _ y hy
    · exact h2 _ row g c (h.row r row hr) hg
    · cases hq : idx? fb i with
      | none => exact ⟨y, by unfold Sto.over; simp [List.getElem?_zipIdx, hi, hq]⟩
      | some j =>
        obtain ⟨-, -, -, -, -, -, x', hx'⟩ := pb i j (idx?_some hq)
        exact ⟨x'.ren fb fr, by unfold Sto.over; simp [List.getElem?_zipIdx, hi, hq, List.getD_eq_getElem?_getD, hx']⟩
    · cases hq : idx? fr i with
      | none => exact ⟨row, by unfold Sto.over; simp [List.getElem?_zipIdx, hi, hq], rfl, Nat.le_refl _, fun _ => hγn i hq, fun hw => ⟨hw, hγn i hq⟩⟩
      | some j =>
        have hj := idx?_some hq
        obtain ⟨row0, h1, h2, e⟩ := pr i j hj
        rw [hi] at h2
        cases h2
        obtain ⟨row', k1, k2, k3, k4, k5⟩ := he.rowl j row h1
        have e' : (m.via fb fr).γ j = m.γ i := by show m.γ (fr.getD j 0) = _; rw [e]
        refine ⟨row', by unfold Sto.over; simp [List.getElem?_zipIdx, hi, hq, List.getD_eq_getElem?_getD, k1], k2, k3, fun hl => ?_, fun hw => ⟨(k5 hw).1, ?_⟩⟩
        · rw [hγ i j hj, k4 hl, e']
        · rw [hγ i j hj, (k5 hw).2, e']
  have bk : Back st' (s.over st' fb fr) m' (m.over m' fr) fb fr := by
    refine ⟨fun k x hk => ?_, fun r row hr => ?_⟩
    · have hj := getD_get (l := fb) (k := k) (by rw [h.fbl, ← hbl]; exact get_lt hk)
      obtain ⟨x0, y, h1, h2, h3, h4, -⟩ := pb _ k hj
      clear h3
      generalize fb.getD k 0 = i at *
      exact ⟨⟨x.ren fb fr, by unfold Sto.over; simp [List.getElem?_zipIdx, h2, idx?_of h.fbn hj, List.getD_eq_getElem?_getD, hk]⟩, h4.symm⟩
    · have hj := getD_get (l := fr) (k := r) (by rw [h.frl, ← hrl]; exact get_lt hr)
      obtain ⟨row0, h1, h2, -⟩ := pr _ r hj
      generalize fr.getD r 0 = i at *
      exact ⟨by unfold Sto.over; simp [List.getElem?_zipIdx, h2, idx?_of h.frn hj, List.getD_eq_getElem?_getD, hr], hγ _ r hj⟩
  have hav : ∀ i z g c, (s.over st' fb fr).rows[i]? = some z → (m.over m' fr).γ i = some (g, c) → ∀ o, ¬ av g o := fun i z g c hi hg o ho => by
    rcases rp i z g c hi hg with ⟨row, c0, k1, k2⟩ | k
    · exact hs.avr i row g c0 k1 k2 o ho
    · have := hs.avlt _ _ ho; omega
  have back : ∀ b o, b < w'.heap.size → okA (shutP av s pre m fb fr w) st' m' b o → okA av (s.over st' fb fr) (m.over m' fr) b o := fun b o _ hk => by
    have hrow : ∀ i z g c, (s.over st' fb fr).rows[i]? = some z → (m.over m' fr).γ i = some (g, c) → g = b → idx? fr i ≠ none → o < z.es.length * z.sz := fun i z g c hi hg e hq => by
      rcases over_row hi hfrl with ⟨j, h1, h2, -⟩ | ⟨h1, -⟩
      · rw [hγ i j h1] at hg
        exact hk.2.2 j z g c h2 hg e
      · exact absurd h1 hq
    rcases Nat.lt_or_ge b w.heap.size with hlt | hge
    · by_cases hA : okA av s m b o
      · exact ⟨hA.1, okk b o hlt hA.2⟩
      · by_cases hB : ∃ k x, pre.boxes[k]? = some (some x) ∧ m.ρ (fb.getD k 0) = b
        · obtain ⟨k, x, h1, h2⟩ := hB
          obtain ⟨⟨x', h3⟩, h4⟩ := he.live k x h1
          exact absurd (h4.trans h2) (hk.2.1 k x' h3)
        · by_cases hR : ∃ r row g c, pre.rows[r]? = some row ∧ m.γ (fr.getD r 0) = some (g, c) ∧ g = b
          · obtain ⟨r, row, g, c, h1, h2, rfl⟩ := hR
            have hsr := h.row r row h1
            refine ⟨hs.avr _ row g c hsr h2 o, fun i z hi => ?_, fun i z g' c' hi hg e => ?_⟩
            · obtain ⟨y, hy⟩ := lv i z hi
              exact hs.br i y _ row g c hy hsr h2
            · refine hrow i z g' c' hi hg e fun hq => ?_
              rcases over_row hi hfrl with ⟨j, k1, -⟩ | ⟨k1, k2⟩
              · exact absurd k1 (idx?_none hq j)
              · rw [hγn i hq] at hg
                have := hs.rinj i _ z row g c' c k2 hsr (by rw [hg, e]) h2
                have hj := getD_get (l := fr) (k := r) (by rw [h.frl]; exact get_lt h1)
                rw [← this] at hj
                exact idx?_none hq r hj
          · exact absurd ⟨hlt, hA, fun k x h1 h2 => hB ⟨k, x, h1, h2⟩, fun r row g c h1 h2 h3 => hR ⟨r, row, g, c, h1, h2, h3⟩⟩ hk.1
    · refine ⟨fun ho => by have := hs.avlt _ _ ho; omega, fun i z hi => ?_, fun i z g c hi hg e => ?_⟩
      · obtain ⟨y, hy⟩ := lv i z hi
        have := hs.box_lt hy
        show m.ρ i ≠ b
        omega
      · refine hrow i z g c hi hg e fun hq => ?_
        rcases over_row hi hfrl with ⟨j, k1, -⟩ | ⟨k1, k2⟩
        · exact absurd k1 (idx?_none hq j)
        · rw [hγn i hq] at hg
          have := hs.row_lt k2 hg
          omega
  refine ⟨ev, ⟨fun i z hi => ?_, fun i i' z z' hi hi' hne => ?_, fun i z hi => ?_, fun i i' z z' g c c' hi hi' hg hg' => ?_, fun i z r row g c hi hr hg => ?_, fun b o hb => Nat.lt_of_lt_of_le (hs.avlt b o hb) he.size, hav, fun i z hi => by obtain ⟨y, hy⟩ := lv i z hi; exact hs.avb i y hy⟩, bk, back⟩
  · rcases over_box hi with ⟨j, x, h1, h2, rfl, -⟩ | ⟨h1, h2⟩
    · obtain ⟨-, -, -, -, -, h4, -⟩ := pb i j h1
      obtain ⟨vs, k1, k2⟩ := hst.box j x h2
      refine ⟨vs, ?_, RVL.ren bk back _ _ k2⟩
      show OBp w' (m.ρ i) _ _
      rw [← h4]
      exact k1
    · obtain ⟨vs, k1, k2⟩ := hs.box i z h2
      refine ⟨vs, k1.keep (he.blk _ k1.lt (fun k x hk => ?_) (fun r row g c hr hg e => ?_)), RVL.mono ev _ _ k2⟩
      · obtain ⟨y, hy, -⟩ := h.box k x hk
        have hj := getD_get (l := fb) (k := k) (by rw [h.fbl]; exact get_lt hk)
        exact hs.binj _ _ y z hy h2 (fun e => idx?_none h1 k (by rw [hj, e]))
      · exact hs.br i z _ row g c h2 (h.row r row hr) hg e.symm
  · obtain ⟨y, hy⟩ := lv i z hi
    obtain ⟨y', hy'⟩ := lv i' z' hi'
    exact hs.binj i i' y y' hy hy' hne
  · rcases over_row hi hfrl with ⟨j, h1, h2, -⟩ | ⟨h1, h2⟩
    · obtain ⟨k1, k2, k3⟩ := hst.row j z h2
      refine ⟨k1, k2, ?_⟩
      rw [hγ i j h1]
      rcases k3 with k3 | ⟨g, c, cur, q1, q2, q3, q4, q5, q6⟩
      · exact .inl k3
      · exact .inr ⟨g, c, cur, q1, q2, q3, q4, q5, RepM.mono q6 (Nat.le_refl _) back (fun _ _ _ _ => rfl)⟩
    · obtain ⟨k1, k2, k3⟩ := hs.row i z h2
      refine ⟨k1, k2, ?_⟩
      rw [hγn i h1]
      rcases k3 with k3 | ⟨g, c, cur, q1, q2, q3, q4, q5, q6⟩
      · exact .inl k3
      · refine .inr ⟨g, c, cur, q1, (he.blk g q2.lt (fun k x hk e => ?_) (fun r row g' c' hr hg e => ?_)).trans q2, q3, q4, q5, RV.mono ev (.t _) _ q6⟩
        · obtain ⟨y, hy, -⟩ := h.box k x hk
          exact hs.br _ y i z g c hy h2 q1 e
        · subst e
          have := hs.rinj i _ z row g' c c' h2 (h.row r row hr) q1 hg
          have hj := getD_get (l := fr) (k := r) (by rw [h.frl]; exact get_lt hr)
          rw [← this] at hj
          exact idx?_none h1 r hj
  · rcases over_row hi hfrl with ⟨j, h1, h2, -⟩ | ⟨h1, h2⟩ <;> rcases over_row hi' hfrl with ⟨j', h1', h2', -⟩ | ⟨h1', h2'⟩
    · rw [hγ i j h1] at hg
      rw [hγ i' j' h1'] at hg'
      have := hst.rinj j j' z z' g c c' h2 h2' hg hg'
      subst this
      rw [h1] at h1'
      exact Option.some.inj h1'
    · rcases rp i z g c hi hg with ⟨row, c0, k1, k2⟩ | k
      · rw [hγn i' h1'] at hg'
        exact hs.rinj i i' row z' g c0 c' k1 h2' k2 hg'
      · rw [hγn i' h1'] at hg'
        have := hs.row_lt h2' hg'
        omega
    · rcases rp i' z' g c' hi' hg' with ⟨row, c0, k1, k2⟩ | k
      · rw [hγn i h1] at hg
        exact hs.rinj i i' z row g c c0 h2 k1 hg k2
      · rw [hγn i h1] at hg
        have := hs.row_lt h2 hg
        omega
    · rw [hγn i h1] at hg
      rw [hγn i' h1'] at hg'
      exact hs.rinj i i' z z' g c c' h2 h2' hg hg'
  · obtain ⟨y, hy⟩ := lv i z hi
    rcases rp r row g c hr hg with ⟨row0, c0, k1, k2⟩ | k
    · exact hs.br i y r row0 g c0 hy k1 k2
    · have := hs.box_lt hy
      show m.ρ i ≠ g
      omega
end

section
variable {P : Program} {C : Ctx} {n : Nat} {s : AS} {o : Oper}
theorem AOp.enterP {f : FuncId} {ps qs : List PV} {res : PV} {pre st' : Sto} (fb fr : List Nat) (hd : dstOk o.dst n = true)
    (hrun : ∀ m a w, RA C n s m a w → ∃ vals, (execOp a.eval o).run P w = .ok (.enter f ⟨vals⟩) w ∧ RVL (okA C.av s.st m) s.st m w ps vals) (hp : Part0 s.st pre fb fr) (hle : LeL ps (renL fb fr qs)) (hok : okInL pre qs = true)
    (hbl : st'.boxes.length = pre.boxes.length) (hrl : st'.rows.length = pre.rows.length) (hc : ACalls P f qs pre (fun r t => r = res ∧ t = st')) :
    AOp P C n o s ((⟨s.env, s.st.over st' fb fr⟩ : AS).putO o.dst (PV.ren fb fr res)) := fun m a w h K Q hK => by
  obtain ⟨vals, h1, h2⟩ := hrun m a w h
  unfold Oper.wp
  rw [h1]
  have h3 := hc (shutP C.av s.st pre m fb fr w) (m.via fb fr) w vals (hp.sto h.sto) (RVL.unren hp (fun b o _ k => hp.ok k) _ _ hok (LeL.rv hle h2))
  refine Calls.mono h3 fun e w' => ?_; rintro ⟨r, t, m', v, rfl, ⟨rfl, rfl⟩, h4, h5, h6⟩
  obtain ⟨k1, k2, k3, k4⟩ := over_all hp h.sto h4 h5 hbl hrl
  have hr := h.step k1 k2
  exact hK _ _ w' (hr.put (dstOk_lt hd) (RV.ren k3 k4 _ _ h6))
theorem AOp.callP {f : FuncId} {fn : Func} {xs : List Operand} {ts : Array TypeId} {ps qs : List PV} {res : PV} {pre st' : Sto} (fb fr : List Nat) (ho : o.op = .call { callee := .value (.func f), args := ⟨xs⟩, argTypes := ts }) (hd : dstOk o.dst n = true) (hf : P.funcs[f]? = some fn) (hnm : (fn.name == "runtime.NumGoroutine") = false) (hb : fn.body.isNone = false)
    (hx : xs.map s.ev = ps.map some) (hp : Part0 s.st pre fb fr) (hle : LeL ps (renL fb fr qs)) (hok : okInL pre qs = true) (hbl : st'.boxes.length = pre.boxes.length) (hrl : st'.rows.length = pre.rows.length) (hc : ACalls P f qs pre (fun r t => r = res ∧ t = st')) :
    AOp P C n o s ((⟨s.env, s.st.over st' fb fr⟩ : AS).putO o.dst (PV.ren fb fr res)) :=
  AOp.enterP fb fr hd (fun m a w h => ⟨xs.map a.eval, by
    have hcf := run_callFunc_body (P := P) hf hnm hb
    unfold execOp
    simp only [ho]
    simp [resolve, invoke, Deferred.ofValue, Act.eval, hcf], evL h hx⟩) hp hle hok hbl hrl hc
end
end Go.Proofs.YtmpepccpnnldoaaGreat

namespace Go.Proofs.YtmpepccpnnldoaaGreat
open Go.RowKit

def strTrs (l : List ByteArray) : List (List Tr) := l.map fun s => [.leaf (.string s)]
def intTrs (l : List Int) : List (List Tr) := l.map fun n => [.leaf (.int .i64 n)]
theorem strTrs_len (l : List ByteArray) : (strTrs l).length = l.length := by simp [strTrs]
theorem intTrs_len (l : List Int) : (intTrs l).length = l.length := by simp [intTrs]
theorem strTrs_get {l : List ByteArray} {k : Nat} (h : k < l.length) : (strTrs l)[k]? = some [.leaf (.string l[k])] := by
  unfold strTrs
  rw [List.getElem?_map, List.getElem?_eq_getElem h]; rfl
theorem intTrs_get {l : List Int} {k : Nat} (h : k < l.length) : (intTrs l)[k]? = some [.leaf (.int .i64 l[k])] := by
  unfold intTrs
  rw [List.getElem?_map, List.getElem?_eq_getElem h]; rfl
theorem intTrs_bulk : ∀ l : List Int, Tr.bulkAll (intTrs l) = 0
  | [] => rfl
  | a :: l => by
    have := intTrs_bulk l
    simp only [intTrs] at this
    simp [intTrs, Tr.bulkAll, Tr.bulkL, Tr.bulk, this]
/-- Element k of a slice of strings, of integers. -/
theorem Rep.str {w : World} {l : List ByteArray} {a : Option Addr} {len cap k : Nat} (h : Rep w (.row 1 (strTrs l)) (.slice a len cap)) (hk : k < l.length) :
    ∃ b off, a = some ⟨b, off, none⟩ ∧ b < w.heap.size ∧ l[k].size ≤ maxLen ∧ w.cell? ⟨b, off + k, none⟩ = some (.string l[k]) := by
  obtain ⟨b, off, cs, rfl, hb, hcs, hc⟩ := h.at2 (strTrs_get hk)
  obtain ⟨v, rfl⟩ := list1 hcs.length.symm
  obtain ⟨rfl, hl⟩ := hcs.1.leaf_eq
  have := hc 0 _ rfl
  rw [Nat.mul_one, Nat.add_zero] at this
  exact ⟨b, off, rfl, hb, hl, this⟩
theorem Rep.int {w : World} {l : List Int} {a : Option Addr} {len cap k : Nat} (h : Rep w (.row 1 (intTrs l)) (.slice a len cap)) (hk : k < l.length) :
    ∃ b off, a = some ⟨b, off, none⟩ ∧ b < w.heap.size ∧ (Lit.int .i64 l[k]).wf = true ∧ w.cell? ⟨b, off + k, none⟩ = some (.int .i64 l[k]) := by
  obtain ⟨b, off, cs, rfl, hb, hcs, hc⟩ := h.at2 (intTrs_get hk)
  obtain ⟨v, rfl⟩ := list1 hcs.length.symm
  obtain ⟨rfl, hl⟩ := hcs.1.leaf_eq
  have := hc 0 _ rfl
  rw [Nat.mul_one, Nat.add_zero] at this
  exact ⟨b, off, rfl, hb, hl, this⟩

inductive GInstanceRef where
  | mk (package_ : Int) (at_ : Int)
def GInstanceRef.tr : GInstanceRef → List Tr
  | .mk v0 v1 => [.leaf (.int .i64 v0)] ++ ([.leaf (.int .i64 v1)] ++ ([]))
def GInstanceRef.trs (l : List GInstanceRef) : List (List Tr) := l.map GInstanceRef.tr
theorem GInstanceRef.trs_map (l : List GInstanceRef) : GInstanceRef.trs l = l.map GInstanceRef.tr := rfl
def GInstanceRef.gPackage : GInstanceRef → Int
  | .mk v _ => v
@[simp] theorem GInstanceRef.gPackage_mk (v0 : Int) (v1 : Int) : GInstanceRef.gPackage (.mk v0 v1) = v0 := rfl
def GInstanceRef.gAt : GInstanceRef → Int
  | .mk _ v => v
@[simp] theorem GInstanceRef.gAt_mk (v0 : Int) (v1 : Int) : GInstanceRef.gAt (.mk v0 v1) = v1 := rfl
theorem GInstanceRef.tr_len (x : GInstanceRef) : x.tr.length = 2 := by
  obtain ⟨v0, v1⟩ := x
  simp [GInstanceRef.tr]
theorem GInstanceRef.sz (l : List GInstanceRef) : ∀ e ∈ GInstanceRef.trs l, e.length = 2 := by
  intro e he
  rw [GInstanceRef.trs_map] at he
  obtain ⟨x, -, rfl⟩ := List.mem_map.1 he
  exact GInstanceRef.tr_len x
theorem GInstanceRef.all {l : List GInstanceRef} {Q : List Tr → Prop} (h : ∀ x ∈ l, Q x.tr) : ∀ e ∈ GInstanceRef.trs l, Q e := by
  intro e he
  rw [GInstanceRef.trs_map] at he
  obtain ⟨x, hx, rfl⟩ := List.mem_map.1 he
  exact h x hx
inductive GSExpr where
  | mk (atom_ : ByteArray) (list_ : List GSExpr)
mutual
def GSExpr.tr : GSExpr → List Tr
  | .mk v0 v1 => [.leaf (.string v0)] ++ ([.row 2 (GSExpr.trs v1)] ++ ([]))
def GSExpr.trs : List GSExpr → List (List Tr)
  | [] => []
  | e :: r => GSExpr.tr e :: GSExpr.trs r
end
theorem GSExpr.trs_map (l : List GSExpr) : GSExpr.trs l = l.map GSExpr.tr := by induction l <;> simp_all [GSExpr.trs]
theorem GSExpr.trs_len (l : List GSExpr) : (GSExpr.trs l).length = l.length := by rw [GSExpr.trs_map, List.length_map]
def GSExpr.gAtom : GSExpr → ByteArray
  | .mk v _ => v
@[simp] theorem GSExpr.gAtom_mk (v0 : ByteArray) (v1 : List GSExpr) : GSExpr.gAtom (.mk v0 v1) = v0 := rfl
def GSExpr.gList : GSExpr → List GSExpr
  | .mk _ v => v
@[simp] theorem GSExpr.gList_mk (v0 : ByteArray) (v1 : List GSExpr) : GSExpr.gList (.mk v0 v1) = v1 := rfl
theorem GSExpr.tr_len (x : GSExpr) : x.tr.length = 2 := by
  obtain ⟨v0, v1⟩ := x
  simp [GSExpr.tr]
theorem GSExpr.opened {w : World} {cs : List Value} {v0 : ByteArray} {v1 : List GSExpr} (h : RepL w (GSExpr.tr (.mk v0 v1)) cs) :
    ∃ (a1 : Option Addr) (c1 : Nat), cs = [.string v0] ++ ([.slice a1 v1.length c1] ++ ([])) ∧ LeafOk (.string v0) ∧ Rep w (.row 2 (GSExpr.trs v1)) (.slice a1 v1.length c1) := by
  obtain ⟨b0, r0, rfl, g0, n0⟩ := RepL.split h
  obtain ⟨y0, rfl⟩ := list1 g0.length.symm
  obtain ⟨rfl, k0⟩ := g0.1.leaf_eq
  obtain ⟨b1, r1, rfl, g1, n1⟩ := RepL.split n0
  obtain ⟨y1, rfl⟩ := list1 g1.length.symm
  obtain ⟨a1, c1, e1, -, -⟩ := g1.1.shape
  rw [GSExpr.trs_len] at e1
  subst e1
  obtain rfl := RepL.nil_eq n1
  exact ⟨a1, c1, rfl, k0, g1.1⟩

theorem GSExpr.sz (l : List GSExpr) : ∀ e ∈ GSExpr.trs l, e.length = 2 := by
  intro e he
  rw [GSExpr.trs_map] at he
  obtain ⟨x, -, rfl⟩ := List.mem_map.1 he
  exact GSExpr.tr_len x
theorem GSExpr.all {l : List GSExpr} {Q : List Tr → Prop} (h : ∀ x ∈ l, Q x.tr) : ∀ e ∈ GSExpr.trs l, Q e := by
  intro e he
  rw [GSExpr.trs_map] at he
  obtain ⟨x, hx, rfl⟩ := List.mem_map.1 he
  exact h x hx
theorem GSExpr.trs_get {l : List GSExpr} {k : Nat} (h : k < l.length) : (GSExpr.trs l)[k]? = some (l[k]).tr := by
  rw [GSExpr.trs_map, List.getElem?_map, List.getElem?_eq_getElem h]; rfl
theorem GSExpr.ind {A : GSExpr → Prop} (h : ∀ v0 v1, (∀ x ∈ v1, A x) → A (.mk v0 v1)) : ∀ e, A e := by
  have key : ∀ (N : Nat) (e : GSExpr), SizeOf.sizeOf e < N → A e := by
    intro N
    induction N with
    | zero => intro e he; omega
    | succ N ih =>
      intro e he
      obtain ⟨v0, v1⟩ := e
      refine h v0 v1 fun x hx => ih x ?_
      have := List.sizeOf_lt_of_mem hx
      simp at he
      omega
  exact fun e => key _ e (Nat.lt_succ_self _)

inductive GType where
  | mk (kind_ : Int) (name_ : ByteArray) (args_ : List GType)
mutual
def GType.tr : GType → List Tr
  | .mk v0 v1 v2 => [.leaf (.int .i64 v0)] ++ ([.leaf (.string v1)] ++ ([.row 3 (GType.trs v2)] ++ ([])))
def GType.trs : List GType → List (List Tr)
  | [] => []
  | e :: r => GType.tr e :: GType.trs r
end
theorem GType.trs_map (l : List GType) : GType.trs l = l.map GType.tr := by induction l <;> simp_all [GType.trs]
theorem GType.trs_len (l : List GType) : (GType.trs l).length = l.length := by rw [GType.trs_map, List.length_map]
def GType.gKind : GType → Int
  | .mk v _ _ => v
@[simp] theorem GType.gKind_mk (v0 : Int) (v1 : ByteArray) (v2 : List GType) : GType.gKind (.mk v0 v1 v2) = v0 := rfl
def GType.gName : GType → ByteArray
  | .mk _ v _ => v
@[simp] theorem GType.gName_mk (v0 : Int) (v1 : ByteArray) (v2 : List GType) : GType.gName (.mk v0 v1 v2) = v1 := rfl
def GType.gArgs : GType → List GType
  | .mk _ _ v => v
@[simp] theorem GType.gArgs_mk (v0 : Int) (v1 : ByteArray) (v2 : List GType) : GType.gArgs (.mk v0 v1 v2) = v2 := rfl
theorem GType.tr_len (x : GType) : x.tr.length = 3 := by
  obtain ⟨v0, v1, v2⟩ := x
  simp [GType.tr]
theorem GType.sz (l : List GType) : ∀ e ∈ GType.trs l, e.length = 3 := by
  intro e he
  rw [GType.trs_map] at he
  obtain ⟨x, -, rfl⟩ := List.mem_map.1 he
  exact GType.tr_len x
theorem GType.all {l : List GType} {Q : List Tr → Prop} (h : ∀ x ∈ l, Q x.tr) : ∀ e ∈ GType.trs l, Q e := by
  intro e he
  rw [GType.trs_map] at he
  obtain ⟨x, hx, rfl⟩ := List.mem_map.1 he
  exact h x hx
theorem GType.trs_get {l : List GType} {k : Nat} (h : k < l.length) : (GType.trs l)[k]? = some (l[k]).tr := by
  rw [GType.trs_map, List.getElem?_map, List.getElem?_eq_getElem h]; rfl
theorem GType.ind {A : GType → Prop} (h : ∀ v0 v1 v2, (∀ x ∈ v2, A x) → A (.mk v0 v1 v2)) : ∀ e, A e := by
  have key : ∀ (N : Nat) (e : GType), SizeOf.sizeOf e < N → A e := by
    intro N
    induction N with
    | zero => intro e he; omega
    | succ N ih =>
      intro e he
      obtain ⟨v0, v1, v2⟩ := e
      refine h v0 v1 v2 fun x hx => ih x ?_
      have := List.sizeOf_lt_of_mem hx
      simp at he
      omega
  exact fun e => key _ e (Nat.lt_succ_self _)

inductive GBinding where
  | mk (var_ : ByteArray) (type_ : GType)
def GBinding.tr : GBinding → List Tr
  | .mk v0 v1 => [.leaf (.string v0)] ++ (GType.tr v1 ++ ([]))
def GBinding.trs (l : List GBinding) : List (List Tr) := l.map GBinding.tr
theorem GBinding.trs_map (l : List GBinding) : GBinding.trs l = l.map GBinding.tr := rfl
def GBinding.gVar : GBinding → ByteArray
  | .mk v _ => v
@[simp] theorem GBinding.gVar_mk (v0 : ByteArray) (v1 : GType) : GBinding.gVar (.mk v0 v1) = v0 := rfl
def GBinding.gType : GBinding → GType
  | .mk _ v => v
@[simp] theorem GBinding.gType_mk (v0 : ByteArray) (v1 : GType) : GBinding.gType (.mk v0 v1) = v1 := rfl
theorem GBinding.tr_len (x : GBinding) : x.tr.length = 4 := by
  obtain ⟨v0, v1⟩ := x
  simp [GBinding.tr, GType.tr_len]
theorem GBinding.sz (l : List GBinding) : ∀ e ∈ GBinding.trs l, e.length = 4 := by
  intro e he
  rw [GBinding.trs_map] at he
  obtain ⟨x, -, rfl⟩ := List.mem_map.1 he
  exact GBinding.tr_len x
theorem GBinding.all {l : List GBinding} {Q : List Tr → Prop} (h : ∀ x ∈ l, Q x.tr) : ∀ e ∈ GBinding.trs l, Q e := by
  intro e he
  rw [GBinding.trs_map] at he
  obtain ⟨x, hx, rfl⟩ := List.mem_map.1 he
  exact h x hx
mutual
inductive GArm where
  | mk (constructor_ : ByteArray) (vars_ : List ByteArray) (body_ : GExpr)
inductive GExpr where
  | mk (kind_ : Int) (trait_ : ByteArray) (name_ : ByteArray) (n_ : Int) (type_ : GType) (args_ : List GExpr) (arms_ : List GArm)
end
mutual
def GArm.tr : GArm → List Tr
  | .mk v0 v1 v2 => [.leaf (.string v0)] ++ ([.row 1 (strTrs v1)] ++ (GExpr.tr v2 ++ ([])))
def GArm.trs : List GArm → List (List Tr)
  | [] => []
  | e :: r => GArm.tr e :: GArm.trs r
def GExpr.tr : GExpr → List Tr
  | .mk v0 v1 v2 v3 v4 v5 v6 => [.leaf (.int .i64 v0)] ++ ([.leaf (.string v1)] ++ ([.leaf (.string v2)] ++ ([.leaf (.int .i64 v3)] ++ (GType.tr v4 ++ ([.row 9 (GExpr.trs v5)] ++ ([.row 11 (GArm.trs v6)] ++ ([])))))))
def GExpr.trs : List GExpr → List (List Tr)
  | [] => []
  | e :: r => GExpr.tr e :: GExpr.trs r
end
theorem GArm.trs_map (l : List GArm) : GArm.trs l = l.map GArm.tr := by induction l <;> simp_all [GArm.trs]
theorem GExpr.trs_map (l : List GExpr) : GExpr.trs l = l.map GExpr.tr := by induction l <;> simp_all [GExpr.trs]
def GArm.gConstructor : GArm → ByteArray
  | .mk v _ _ => v
@[simp] theorem GArm.gConstructor_mk (v0 : ByteArray) (v1 : List ByteArray) (v2 : GExpr) : GArm.gConstructor (.mk v0 v1 v2) = v0 := rfl
def GArm.gVars : GArm → List ByteArray
  | .mk _ v _ => v
@[simp] theorem GArm.gVars_mk (v0 : ByteArray) (v1 : List ByteArray) (v2 : GExpr) : GArm.gVars (.mk v0 v1 v2) = v1 := rfl
def GArm.gBody : GArm → GExpr
  | .mk _ _ v => v
@[simp] theorem GArm.gBody_mk (v0 : ByteArray) (v1 : List ByteArray) (v2 : GExpr) : GArm.gBody (.mk v0 v1 v2) = v2 := rfl

def GExpr.gKind : GExpr → Int
  | .mk v _ _ _ _ _ _ => v
@[simp] theorem GExpr.gKind_mk (v0 : Int) (v1 : ByteArray) (v2 : ByteArray) (v3 : Int) (v4 : GType) (v5 : List GExpr) (v6 : List GArm) : GExpr.gKind (.mk v0 v1 v2 v3 v4 v5 v6) = v0 := rfl
def GExpr.gTrait : GExpr → ByteArray
  | .mk _ v _ _ _ _ _ => v
@[simp] theorem GExpr.gTrait_mk (v0 : Int) (v1 : ByteArray) (v2 : ByteArray) (v3 : Int) (v4 : GType) (v5 : List GExpr) (v6 : List GArm) : GExpr.gTrait (.mk v0 v1 v2 v3 v4 v5 v6) = v1 := rfl
def GExpr.gName : GExpr → ByteArray
  | .mk _ _ v _ _ _ _ => v
@[simp] theorem GExpr.gName_mk (v0 : Int) (v1 : ByteArray) (v2 : ByteArray) (v3 : Int) (v4 : GType) (v5 : List GExpr) (v6 : List GArm) : GExpr.gName (.mk v0 v1 v2 v3 v4 v5 v6) = v2 := rfl
def GExpr.gN : GExpr → Int
  | .mk _ _ _ v _ _ _ => v
@[simp] theorem GExpr.gN_mk (v0 : Int) (v1 : ByteArray) (v2 : ByteArray) (v3 : Int) (v4 : GType) (v5 : List GExpr) (v6 : List GArm) : GExpr.gN (.mk v0 v1 v2 v3 v4 v5 v6) = v3 := rfl
def GExpr.gType : GExpr → GType
  | .mk _ _ _ _ v _ _ => v
@[simp] theorem GExpr.gType_mk (v0 : Int) (v1 : ByteArray) (v2 : ByteArray) (v3 : Int) (v4 : GType) (v5 : List GExpr) (v6 : List GArm) : GExpr.gType (.mk v0 v1 v2 v3 v4 v5 v6) = v4 := rfl
def GExpr.gArgs : GExpr → List GExpr
  | .mk _ _ _ _ _ v _ => v
@[simp] theorem GExpr.gArgs_mk (v0 : Int) (v1 : ByteArray) (v2 : ByteArray) (v3 : Int) (v4 : GType) (v5 : List GExpr) (v6 : List GArm) : GExpr.gArgs (.mk v0 v1 v2 v3 v4 v5 v6) = v5 := rfl
def GExpr.gArms : GExpr → List GArm
  | .mk _ _ _ _ _ _ v => v
@[simp] theorem GExpr.gArms_mk (v0 : Int) (v1 : ByteArray) (v2 : ByteArray) (v3 : Int) (v4 : GType) (v5 : List GExpr) (v6 : List GArm) : GExpr.gArms (.mk v0 v1 v2 v3 v4 v5 v6) = v6 := rfl
theorem GExpr.tr_len (x : GExpr) : x.tr.length = 9 := by
  obtain ⟨v0, v1, v2, v3, v4, v5, v6⟩ := x
  simp [GExpr.tr, GType.tr_len]
theorem GArm.tr_len (x : GArm) : x.tr.length = 11 := by
  obtain ⟨v0, v1, v2⟩ := x
  simp [GArm.tr, GExpr.tr_len]
theorem GArm.sz (l : List GArm) : ∀ e ∈ GArm.trs l, e.length = 11 := by
  intro e he
  rw [GArm.trs_map] at he
  obtain ⟨x, -, rfl⟩ := List.mem_map.1 he
  exact GArm.tr_len x
theorem GArm.all {l : List GArm} {Q : List Tr → Prop} (h : ∀ x ∈ l, Q x.tr) : ∀ e ∈ GArm.trs l, Q e := by
  intro e he
  rw [GArm.trs_map] at he
  obtain ⟨x, hx, rfl⟩ := List.mem_map.1 he
  exact h x hx
theorem GExpr.sz (l : List GExpr) : ∀ e ∈ GExpr.trs l, e.length = 9 := by
  intro e he
  rw [GExpr.trs_map] at he
  obtain ⟨x, -, rfl⟩ := List.mem_map.1 he
  exact GExpr.tr_len x
theorem GExpr.all {l : List GExpr} {Q : List Tr → Prop} (h : ∀ x ∈ l, Q x.tr) : ∀ e ∈ GExpr.trs l, Q e := by
  intro e he
  rw [GExpr.trs_map] at he
  obtain ⟨x, hx, rfl⟩ := List.mem_map.1 he
  exact h x hx
inductive GSignature where
  | mk (name_ : ByteArray) (params_ : List GType) (result_ : GType) (hasdefault_ : Bool) (vars_ : List ByteArray) (body_ : GExpr)
def GSignature.tr : GSignature → List Tr
  | .mk v0 v1 v2 v3 v4 v5 => [.leaf (.string v0)] ++ ([.row 3 (GType.trs v1)] ++ (GType.tr v2 ++ ([.leaf (.bool v3)] ++ ([.row 1 (strTrs v4)] ++ (GExpr.tr v5 ++ ([]))))))
def GSignature.trs (l : List GSignature) : List (List Tr) := l.map GSignature.tr
theorem GSignature.trs_map (l : List GSignature) : GSignature.trs l = l.map GSignature.tr := rfl
def GSignature.gName : GSignature → ByteArray
  | .mk v _ _ _ _ _ => v
@[simp] theorem GSignature.gName_mk (v0 : ByteArray) (v1 : List GType) (v2 : GType) (v3 : Bool) (v4 : List ByteArray) (v5 : GExpr) : GSignature.gName (.mk v0 v1 v2 v3 v4 v5) = v0 := rfl
def GSignature.gParams : GSignature → List GType
  | .mk _ v _ _ _ _ => v
@[simp] theorem GSignature.gParams_mk (v0 : ByteArray) (v1 : List GType) (v2 : GType) (v3 : Bool) (v4 : List ByteArray) (v5 : GExpr) : GSignature.gParams (.mk v0 v1 v2 v3 v4 v5) = v1 := rfl
def GSignature.gResult : GSignature → GType
  | .mk _ _ v _ _ _ => v
@[simp] theorem GSignature.gResult_mk (v0 : ByteArray) (v1 : List GType) (v2 : GType) (v3 : Bool) (v4 : List ByteArray) (v5 : GExpr) : GSignature.gResult (.mk v0 v1 v2 v3 v4 v5) = v2 := rfl
def GSignature.gHasDefault : GSignature → Bool
  | .mk _ _ _ v _ _ => v
@[simp] theorem GSignature.gHasDefault_mk (v0 : ByteArray) (v1 : List GType) (v2 : GType) (v3 : Bool) (v4 : List ByteArray) (v5 : GExpr) : GSignature.gHasDefault (.mk v0 v1 v2 v3 v4 v5) = v3 := rfl
def GSignature.gVars : GSignature → List ByteArray
  | .mk _ _ _ _ v _ => v
@[simp] theorem GSignature.gVars_mk (v0 : ByteArray) (v1 : List GType) (v2 : GType) (v3 : Bool) (v4 : List ByteArray) (v5 : GExpr) : GSignature.gVars (.mk v0 v1 v2 v3 v4 v5) = v4 := rfl
def GSignature.gBody : GSignature → GExpr
  | .mk _ _ _ _ _ v => v
@[simp] theorem GSignature.gBody_mk (v0 : ByteArray) (v1 : List GType) (v2 : GType) (v3 : Bool) (v4 : List ByteArray) (v5 : GExpr) : GSignature.gBody (.mk v0 v1 v2 v3 v4 v5) = v5 := rfl
theorem GSignature.tr_len (x : GSignature) : x.tr.length = 16 := by
  obtain ⟨v0, v1, v2, v3, v4, v5⟩ := x
  simp [GSignature.tr, GType.tr_len, GExpr.tr_len]
theorem GSignature.sz (l : List GSignature) : ∀ e ∈ GSignature.trs l, e.length = 16 := by
  intro e he
  rw [GSignature.trs_map] at he
  obtain ⟨x, -, rfl⟩ := List.mem_map.1 he
  exact GSignature.tr_len x
theorem GSignature.all {l : List GSignature} {Q : List Tr → Prop} (h : ∀ x ∈ l, Q x.tr) : ∀ e ∈ GSignature.trs l, Q e := by
  intro e he
  rw [GSignature.trs_map] at he
  obtain ⟨x, hx, rfl⟩ := List.mem_map.1 he
  exact h x hx
inductive GTrait where
  | mk (name_ : ByteArray) (supertraits_ : List ByteArray) (auto_ : Bool) (assoc_ : Bool) (signatures_ : List GSignature)
def GTrait.tr : GTrait → List Tr
  | .mk v0 v1 v2 v3 v4 => [.leaf (.string v0)] ++ ([.row 1 (strTrs v1)] ++ ([.leaf (.bool v2)] ++ ([.leaf (.bool v3)] ++ ([.row 16 (GSignature.trs v4)] ++ ([])))))
def GTrait.trs (l : List GTrait) : List (List Tr) := l.map GTrait.tr
theorem GTrait.trs_map (l : List GTrait) : GTrait.trs l = l.map GTrait.tr := rfl
def GTrait.gName : GTrait → ByteArray
  | .mk v _ _ _ _ => v
@[simp] theorem GTrait.gName_mk (v0 : ByteArray) (v1 : List ByteArray) (v2 : Bool) (v3 : Bool) (v4 : List GSignature) : GTrait.gName (.mk v0 v1 v2 v3 v4) = v0 := rfl
def GTrait.gSupertraits : GTrait → List ByteArray
  | .mk _ v _ _ _ => v
@[simp] theorem GTrait.gSupertraits_mk (v0 : ByteArray) (v1 : List ByteArray) (v2 : Bool) (v3 : Bool) (v4 : List GSignature) : GTrait.gSupertraits (.mk v0 v1 v2 v3 v4) = v1 := rfl
def GTrait.gAuto : GTrait → Bool
  | .mk _ _ v _ _ => v
@[simp] theorem GTrait.gAuto_mk (v0 : ByteArray) (v1 : List ByteArray) (v2 : Bool) (v3 : Bool) (v4 : List GSignature) : GTrait.gAuto (.mk v0 v1 v2 v3 v4) = v2 := rfl
def GTrait.gAssoc : GTrait → Bool
  | .mk _ _ _ v _ => v
@[simp] theorem GTrait.gAssoc_mk (v0 : ByteArray) (v1 : List ByteArray) (v2 : Bool) (v3 : Bool) (v4 : List GSignature) : GTrait.gAssoc (.mk v0 v1 v2 v3 v4) = v3 := rfl
def GTrait.gSignatures : GTrait → List GSignature
  | .mk _ _ _ _ v => v
@[simp] theorem GTrait.gSignatures_mk (v0 : ByteArray) (v1 : List ByteArray) (v2 : Bool) (v3 : Bool) (v4 : List GSignature) : GTrait.gSignatures (.mk v0 v1 v2 v3 v4) = v4 := rfl
theorem GTrait.tr_len (x : GTrait) : x.tr.length = 5 := by
  obtain ⟨v0, v1, v2, v3, v4⟩ := x
  simp [GTrait.tr]
theorem GTrait.sz (l : List GTrait) : ∀ e ∈ GTrait.trs l, e.length = 5 := by
  intro e he
  rw [GTrait.trs_map] at he
  obtain ⟨x, -, rfl⟩ := List.mem_map.1 he
  exact GTrait.tr_len x
theorem GTrait.all {l : List GTrait} {Q : List Tr → Prop} (h : ∀ x ∈ l, Q x.tr) : ∀ e ∈ GTrait.trs l, Q e := by
  intro e he
  rw [GTrait.trs_map] at he
  obtain ⟨x, hx, rfl⟩ := List.mem_map.1 he
  exact h x hx
inductive GConstructor where
  | mk (name_ : ByteArray) (fields_ : List GType)
def GConstructor.tr : GConstructor → List Tr
  | .mk v0 v1 => [.leaf (.string v0)] ++ ([.row 3 (GType.trs v1)] ++ ([]))
def GConstructor.trs (l : List GConstructor) : List (List Tr) := l.map GConstructor.tr
theorem GConstructor.trs_map (l : List GConstructor) : GConstructor.trs l = l.map GConstructor.tr := rfl
def GConstructor.gName : GConstructor → ByteArray
  | .mk v _ => v
@[simp] theorem GConstructor.gName_mk (v0 : ByteArray) (v1 : List GType) : GConstructor.gName (.mk v0 v1) = v0 := rfl
def GConstructor.gFields : GConstructor → List GType
  | .mk _ v => v
@[simp] theorem GConstructor.gFields_mk (v0 : ByteArray) (v1 : List GType) : GConstructor.gFields (.mk v0 v1) = v1 := rfl
theorem GConstructor.tr_len (x : GConstructor) : x.tr.length = 2 := by
  obtain ⟨v0, v1⟩ := x
  simp [GConstructor.tr]
theorem GConstructor.sz (l : List GConstructor) : ∀ e ∈ GConstructor.trs l, e.length = 2 := by
  intro e he
  rw [GConstructor.trs_map] at he
  obtain ⟨x, -, rfl⟩ := List.mem_map.1 he
  exact GConstructor.tr_len x
theorem GConstructor.all {l : List GConstructor} {Q : List Tr → Prop} (h : ∀ x ∈ l, Q x.tr) : ∀ e ∈ GConstructor.trs l, Q e := by
  intro e he
  rw [GConstructor.trs_map] at he
  obtain ⟨x, hx, rfl⟩ := List.mem_map.1 he
  exact h x hx
inductive GDataType where
  | mk (name_ : ByteArray) (vars_ : List ByteArray) (constructors_ : List GConstructor)
def GDataType.tr : GDataType → List Tr
  | .mk v0 v1 v2 => [.leaf (.string v0)] ++ ([.row 1 (strTrs v1)] ++ ([.row 2 (GConstructor.trs v2)] ++ ([])))
def GDataType.trs (l : List GDataType) : List (List Tr) := l.map GDataType.tr
theorem GDataType.trs_map (l : List GDataType) : GDataType.trs l = l.map GDataType.tr := rfl
def GDataType.gName : GDataType → ByteArray
  | .mk v _ _ => v
@[simp] theorem GDataType.gName_mk (v0 : ByteArray) (v1 : List ByteArray) (v2 : List GConstructor) : GDataType.gName (.mk v0 v1 v2) = v0 := rfl
def GDataType.gVars : GDataType → List ByteArray
  | .mk _ v _ => v
@[simp] theorem GDataType.gVars_mk (v0 : ByteArray) (v1 : List ByteArray) (v2 : List GConstructor) : GDataType.gVars (.mk v0 v1 v2) = v1 := rfl
def GDataType.gConstructors : GDataType → List GConstructor
  | .mk _ _ v => v
@[simp] theorem GDataType.gConstructors_mk (v0 : ByteArray) (v1 : List ByteArray) (v2 : List GConstructor) : GDataType.gConstructors (.mk v0 v1 v2) = v2 := rfl
theorem GDataType.tr_len (x : GDataType) : x.tr.length = 3 := by
  obtain ⟨v0, v1, v2⟩ := x
  simp [GDataType.tr]
theorem GDataType.sz (l : List GDataType) : ∀ e ∈ GDataType.trs l, e.length = 3 := by
  intro e he
  rw [GDataType.trs_map] at he
  obtain ⟨x, -, rfl⟩ := List.mem_map.1 he
  exact GDataType.tr_len x
theorem GDataType.all {l : List GDataType} {Q : List Tr → Prop} (h : ∀ x ∈ l, Q x.tr) : ∀ e ∈ GDataType.trs l, Q e := by
  intro e he
  rw [GDataType.trs_map] at he
  obtain ⟨x, hx, rfl⟩ := List.mem_map.1 he
  exact h x hx
inductive GBound where
  | mk (trait_ : ByteArray) (type_ : GType)
def GBound.tr : GBound → List Tr
  | .mk v0 v1 => [.leaf (.string v0)] ++ (GType.tr v1 ++ ([]))
def GBound.trs (l : List GBound) : List (List Tr) := l.map GBound.tr
theorem GBound.trs_map (l : List GBound) : GBound.trs l = l.map GBound.tr := rfl
theorem GBound.trs_len (l : List GBound) : (GBound.trs l).length = l.length := by rw [GBound.trs_map, List.length_map]
def GBound.gTrait : GBound → ByteArray
  | .mk v _ => v
@[simp] theorem GBound.gTrait_mk (v0 : ByteArray) (v1 : GType) : GBound.gTrait (.mk v0 v1) = v0 := rfl
def GBound.gType : GBound → GType
  | .mk _ v => v
@[simp] theorem GBound.gType_mk (v0 : ByteArray) (v1 : GType) : GBound.gType (.mk v0 v1) = v1 := rfl
theorem GBound.tr_len (x : GBound) : x.tr.length = 4 := by
  obtain ⟨v0, v1⟩ := x
  simp [GBound.tr, GType.tr_len]
theorem GBound.sz (l : List GBound) : ∀ e ∈ GBound.trs l, e.length = 4 := by
  intro e he
  rw [GBound.trs_map] at he
  obtain ⟨x, -, rfl⟩ := List.mem_map.1 he
  exact GBound.tr_len x
theorem GBound.all {l : List GBound} {Q : List Tr → Prop} (h : ∀ x ∈ l, Q x.tr) : ∀ e ∈ GBound.trs l, Q e := by
  intro e he
  rw [GBound.trs_map] at he
  obtain ⟨x, hx, rfl⟩ := List.mem_map.1 he
  exact h x hx
theorem GBound.trs_get {l : List GBound} {k : Nat} (h : k < l.length) : (GBound.trs l)[k]? = some (l[k]).tr := by
  rw [GBound.trs_map, List.getElem?_map, List.getElem?_eq_getElem h]; rfl
inductive GMethod where
  | mk (name_ : ByteArray) (vars_ : List ByteArray) (body_ : GExpr)
def GMethod.tr : GMethod → List Tr
  | .mk v0 v1 v2 => [.leaf (.string v0)] ++ ([.row 1 (strTrs v1)] ++ (GExpr.tr v2 ++ ([])))
def GMethod.trs (l : List GMethod) : List (List Tr) := l.map GMethod.tr
theorem GMethod.trs_map (l : List GMethod) : GMethod.trs l = l.map GMethod.tr := rfl
def GMethod.gName : GMethod → ByteArray
  | .mk v _ _ => v
@[simp] theorem GMethod.gName_mk (v0 : ByteArray) (v1 : List ByteArray) (v2 : GExpr) : GMethod.gName (.mk v0 v1 v2) = v0 := rfl
def GMethod.gVars : GMethod → List ByteArray
  | .mk _ v _ => v
@[simp] theorem GMethod.gVars_mk (v0 : ByteArray) (v1 : List ByteArray) (v2 : GExpr) : GMethod.gVars (.mk v0 v1 v2) = v1 := rfl
def GMethod.gBody : GMethod → GExpr
  | .mk _ _ v => v
@[simp] theorem GMethod.gBody_mk (v0 : ByteArray) (v1 : List ByteArray) (v2 : GExpr) : GMethod.gBody (.mk v0 v1 v2) = v2 := rfl
theorem GMethod.tr_len (x : GMethod) : x.tr.length = 11 := by
  obtain ⟨v0, v1, v2⟩ := x
  simp [GMethod.tr, GExpr.tr_len]
theorem GMethod.sz (l : List GMethod) : ∀ e ∈ GMethod.trs l, e.length = 11 := by
  intro e he
  rw [GMethod.trs_map] at he
  obtain ⟨x, -, rfl⟩ := List.mem_map.1 he
  exact GMethod.tr_len x
theorem GMethod.all {l : List GMethod} {Q : List Tr → Prop} (h : ∀ x ∈ l, Q x.tr) : ∀ e ∈ GMethod.trs l, Q e := by
  intro e he
  rw [GMethod.trs_map] at he
  obtain ⟨x, hx, rfl⟩ := List.mem_map.1 he
  exact h x hx
inductive GInstance where
  | mk (trait_ : ByteArray) (vars_ : List ByteArray) (head_ : GType) (where_ : List GBound) (default_ : Bool) (hasassoc_ : Bool) (assoc_ : GType) (methods_ : List GMethod)
def GInstance.tr : GInstance → List Tr
  | .mk v0 v1 v2 v3 v4 v5 v6 v7 => [.leaf (.string v0)] ++ ([.row 1 (strTrs v1)] ++ (GType.tr v2 ++ ([.row 4 (GBound.trs v3)] ++ ([.leaf (.bool v4)] ++ ([.leaf (.bool v5)] ++ (GType.tr v6 ++ ([.row 11 (GMethod.trs v7)] ++ ([]))))))))
def GInstance.trs (l : List GInstance) : List (List Tr) := l.map GInstance.tr
theorem GInstance.trs_map (l : List GInstance) : GInstance.trs l = l.map GInstance.tr := rfl
def GInstance.gTrait : GInstance → ByteArray
  | .mk v _ _ _ _ _ _ _ => v
@[simp] theorem GInstance.gTrait_mk (v0 : ByteArray) (v1 : List ByteArray) (v2 : GType) (v3 : List GBound) (v4 : Bool) (v5 : Bool) (v6 : GType) (v7 : List GMethod) : GInstance.gTrait (.mk v0 v1 v2 v3 v4 v5 v6 v7) = v0 := rfl
def GInstance.gVars : GInstance → List ByteArray
  | .mk _ v _ _ _ _ _ _ => v
@[simp] theorem GInstance.gVars_mk (v0 : ByteArray) (v1 : List ByteArray) (v2 : GType) (v3 : List GBound) (v4 : Bool) (v5 : Bool) (v6 : GType) (v7 : List GMethod) : GInstance.gVars (.mk v0 v1 v2 v3 v4 v5 v6 v7) = v1 := rfl
def GInstance.gHead : GInstance → GType
  | .mk _ _ v _ _ _ _ _ => v
@[simp] theorem GInstance.gHead_mk (v0 : ByteArray) (v1 : List ByteArray) (v2 : GType) (v3 : List GBound) (v4 : Bool) (v5 : Bool) (v6 : GType) (v7 : List GMethod) : GInstance.gHead (.mk v0 v1 v2 v3 v4 v5 v6 v7) = v2 := rfl
def GInstance.gWhere : GInstance → List GBound
  | .mk _ _ _ v _ _ _ _ => v
@[simp] theorem GInstance.gWhere_mk (v0 : ByteArray) (v1 : List ByteArray) (v2 : GType) (v3 : List GBound) (v4 : Bool) (v5 : Bool) (v6 : GType) (v7 : List GMethod) : GInstance.gWhere (.mk v0 v1 v2 v3 v4 v5 v6 v7) = v3 := rfl
def GInstance.gDefault : GInstance → Bool
  | .mk _ _ _ _ v _ _ _ => v
@[simp] theorem GInstance.gDefault_mk (v0 : ByteArray) (v1 : List ByteArray) (v2 : GType) (v3 : List GBound) (v4 : Bool) (v5 : Bool) (v6 : GType) (v7 : List GMethod) : GInstance.gDefault (.mk v0 v1 v2 v3 v4 v5 v6 v7) = v4 := rfl
def GInstance.gHasAssoc : GInstance → Bool
  | .mk _ _ _ _ _ v _ _ => v
@[simp] theorem GInstance.gHasAssoc_mk (v0 : ByteArray) (v1 : List ByteArray) (v2 : GType) (v3 : List GBound) (v4 : Bool) (v5 : Bool) (v6 : GType) (v7 : List GMethod) : GInstance.gHasAssoc (.mk v0 v1 v2 v3 v4 v5 v6 v7) = v5 := rfl
def GInstance.gAssoc : GInstance → GType
  | .mk _ _ _ _ _ _ v _ => v
@[simp] theorem GInstance.gAssoc_mk (v0 : ByteArray) (v1 : List ByteArray) (v2 : GType) (v3 : List GBound) (v4 : Bool) (v5 : Bool) (v6 : GType) (v7 : List GMethod) : GInstance.gAssoc (.mk v0 v1 v2 v3 v4 v5 v6 v7) = v6 := rfl
def GInstance.gMethods : GInstance → List GMethod
  | .mk _ _ _ _ _ _ _ v => v
@[simp] theorem GInstance.gMethods_mk (v0 : ByteArray) (v1 : List ByteArray) (v2 : GType) (v3 : List GBound) (v4 : Bool) (v5 : Bool) (v6 : GType) (v7 : List GMethod) : GInstance.gMethods (.mk v0 v1 v2 v3 v4 v5 v6 v7) = v7 := rfl
theorem GInstance.tr_len (x : GInstance) : x.tr.length = 12 := by
  obtain ⟨v0, v1, v2, v3, v4, v5, v6, v7⟩ := x
  simp [GInstance.tr, GType.tr_len, GType.tr_len]
theorem GInstance.sz (l : List GInstance) : ∀ e ∈ GInstance.trs l, e.length = 12 := by
  intro e he
  rw [GInstance.trs_map] at he
  obtain ⟨x, -, rfl⟩ := List.mem_map.1 he
  exact GInstance.tr_len x
theorem GInstance.all {l : List GInstance} {Q : List Tr → Prop} (h : ∀ x ∈ l, Q x.tr) : ∀ e ∈ GInstance.trs l, Q e := by
  intro e he
  rw [GInstance.trs_map] at he
  obtain ⟨x, hx, rfl⟩ := List.mem_map.1 he
  exact h x hx
inductive GParam where
  | mk (name_ : ByteArray) (type_ : GType)
def GParam.tr : GParam → List Tr
  | .mk v0 v1 => [.leaf (.string v0)] ++ (GType.tr v1 ++ ([]))
def GParam.trs (l : List GParam) : List (List Tr) := l.map GParam.tr
theorem GParam.trs_map (l : List GParam) : GParam.trs l = l.map GParam.tr := rfl
def GParam.gName : GParam → ByteArray
  | .mk v _ => v
@[simp] theorem GParam.gName_mk (v0 : ByteArray) (v1 : GType) : GParam.gName (.mk v0 v1) = v0 := rfl
def GParam.gType : GParam → GType
  | .mk _ v => v
@[simp] theorem GParam.gType_mk (v0 : ByteArray) (v1 : GType) : GParam.gType (.mk v0 v1) = v1 := rfl
theorem GParam.tr_len (x : GParam) : x.tr.length = 4 := by
  obtain ⟨v0, v1⟩ := x
  simp [GParam.tr, GType.tr_len]
theorem GParam.sz (l : List GParam) : ∀ e ∈ GParam.trs l, e.length = 4 := by
  intro e he
  rw [GParam.trs_map] at he
  obtain ⟨x, -, rfl⟩ := List.mem_map.1 he
  exact GParam.tr_len x
theorem GParam.all {l : List GParam} {Q : List Tr → Prop} (h : ∀ x ∈ l, Q x.tr) : ∀ e ∈ GParam.trs l, Q e := by
  intro e he
  rw [GParam.trs_map] at he
  obtain ⟨x, hx, rfl⟩ := List.mem_map.1 he
  exact h x hx
inductive GFunction where
  | mk (name_ : ByteArray) (vars_ : List ByteArray) (where_ : List GBound) (params_ : List GParam) (result_ : GType) (body_ : GExpr)
def GFunction.tr : GFunction → List Tr
  | .mk v0 v1 v2 v3 v4 v5 => [.leaf (.string v0)] ++ ([.row 1 (strTrs v1)] ++ ([.row 4 (GBound.trs v2)] ++ ([.row 4 (GParam.trs v3)] ++ (GType.tr v4 ++ (GExpr.tr v5 ++ ([]))))))
def GFunction.trs (l : List GFunction) : List (List Tr) := l.map GFunction.tr
theorem GFunction.trs_map (l : List GFunction) : GFunction.trs l = l.map GFunction.tr := rfl
def GFunction.gName : GFunction → ByteArray
  | .mk v _ _ _ _ _ => v
@[simp] theorem GFunction.gName_mk (v0 : ByteArray) (v1 : List ByteArray) (v2 : List GBound) (v3 : List GParam) (v4 : GType) (v5 : GExpr) : GFunction.gName (.mk v0 v1 v2 v3 v4 v5) = v0 := rfl
def GFunction.gVars : GFunction → List ByteArray
  | .mk _ v _ _ _ _ => v
@[simp] theorem GFunction.gVars_mk (v0 : ByteArray) (v1 : List ByteArray) (v2 : List GBound) (v3 : List GParam) (v4 : GType) (v5 : GExpr) : GFunction.gVars (.mk v0 v1 v2 v3 v4 v5) = v1 := rfl
def GFunction.gWhere : GFunction → List GBound
  | .mk _ _ v _ _ _ => v
@[simp] theorem GFunction.gWhere_mk (v0 : ByteArray) (v1 : List ByteArray) (v2 : List GBound) (v3 : List GParam) (v4 : GType) (v5 : GExpr) : GFunction.gWhere (.mk v0 v1 v2 v3 v4 v5) = v2 := rfl
def GFunction.gParams : GFunction → List GParam
  | .mk _ _ _ v _ _ => v
@[simp] theorem GFunction.gParams_mk (v0 : ByteArray) (v1 : List ByteArray) (v2 : List GBound) (v3 : List GParam) (v4 : GType) (v5 : GExpr) : GFunction.gParams (.mk v0 v1 v2 v3 v4 v5) = v3 := rfl
def GFunction.gResult : GFunction → GType
  | .mk _ _ _ _ v _ => v
@[simp] theorem GFunction.gResult_mk (v0 : ByteArray) (v1 : List ByteArray) (v2 : List GBound) (v3 : List GParam) (v4 : GType) (v5 : GExpr) : GFunction.gResult (.mk v0 v1 v2 v3 v4 v5) = v4 := rfl
def GFunction.gBody : GFunction → GExpr
  | .mk _ _ _ _ _ v => v
@[simp] theorem GFunction.gBody_mk (v0 : ByteArray) (v1 : List ByteArray) (v2 : List GBound) (v3 : List GParam) (v4 : GType) (v5 : GExpr) : GFunction.gBody (.mk v0 v1 v2 v3 v4 v5) = v5 := rfl
theorem GFunction.tr_len (x : GFunction) : x.tr.length = 16 := by
  obtain ⟨v0, v1, v2, v3, v4, v5⟩ := x
  simp [GFunction.tr, GType.tr_len, GExpr.tr_len]
theorem GFunction.sz (l : List GFunction) : ∀ e ∈ GFunction.trs l, e.length = 16 := by
  intro e he
  rw [GFunction.trs_map] at he
  obtain ⟨x, -, rfl⟩ := List.mem_map.1 he
  exact GFunction.tr_len x
theorem GFunction.all {l : List GFunction} {Q : List Tr → Prop} (h : ∀ x ∈ l, Q x.tr) : ∀ e ∈ GFunction.trs l, Q e := by
  intro e he
  rw [GFunction.trs_map] at he
  obtain ⟨x, hx, rfl⟩ := List.mem_map.1 he
  exact h x hx
inductive GPackage where
  | mk (name_ : ByteArray) (deps_ : List ByteArray) (traits_ : List GTrait) (datatypes_ : List GDataType) (instances_ : List GInstance) (functions_ : List GFunction)
def GPackage.tr : GPackage → List Tr
  | .mk v0 v1 v2 v3 v4 v5 => [.leaf (.string v0)] ++ ([.row 1 (strTrs v1)] ++ ([.row 5 (GTrait.trs v2)] ++ ([.row 3 (GDataType.trs v3)] ++ ([.row 12 (GInstance.trs v4)] ++ ([.row 16 (GFunction.trs v5)] ++ ([]))))))
def GPackage.trs (l : List GPackage) : List (List Tr) := l.map GPackage.tr
theorem GPackage.trs_map (l : List GPackage) : GPackage.trs l = l.map GPackage.tr := rfl
def GPackage.gName : GPackage → ByteArray
  | .mk v _ _ _ _ _ => v
@[simp] theorem GPackage.gName_mk (v0 : ByteArray) (v1 : List ByteArray) (v2 : List GTrait) (v3 : List GDataType) (v4 : List GInstance) (v5 : List GFunction) : GPackage.gName (.mk v0 v1 v2 v3 v4 v5) = v0 := rfl
def GPackage.gDeps : GPackage → List ByteArray
  | .mk _ v _ _ _ _ => v
@[simp] theorem GPackage.gDeps_mk (v0 : ByteArray) (v1 : List ByteArray) (v2 : List GTrait) (v3 : List GDataType) (v4 : List GInstance) (v5 : List GFunction) : GPackage.gDeps (.mk v0 v1 v2 v3 v4 v5) = v1 := rfl
def GPackage.gTraits : GPackage → List GTrait
  | .mk _ _ v _ _ _ => v
@[simp] theorem GPackage.gTraits_mk (v0 : ByteArray) (v1 : List ByteArray) (v2 : List GTrait) (v3 : List GDataType) (v4 : List GInstance) (v5 : List GFunction) : GPackage.gTraits (.mk v0 v1 v2 v3 v4 v5) = v2 := rfl
def GPackage.gDataTypes : GPackage → List GDataType
  | .mk _ _ _ v _ _ => v
@[simp] theorem GPackage.gDataTypes_mk (v0 : ByteArray) (v1 : List ByteArray) (v2 : List GTrait) (v3 : List GDataType) (v4 : List GInstance) (v5 : List GFunction) : GPackage.gDataTypes (.mk v0 v1 v2 v3 v4 v5) = v3 := rfl
def GPackage.gInstances : GPackage → List GInstance
  | .mk _ _ _ _ v _ => v
@[simp] theorem GPackage.gInstances_mk (v0 : ByteArray) (v1 : List ByteArray) (v2 : List GTrait) (v3 : List GDataType) (v4 : List GInstance) (v5 : List GFunction) : GPackage.gInstances (.mk v0 v1 v2 v3 v4 v5) = v4 := rfl
def GPackage.gFunctions : GPackage → List GFunction
  | .mk _ _ _ _ _ v => v
@[simp] theorem GPackage.gFunctions_mk (v0 : ByteArray) (v1 : List ByteArray) (v2 : List GTrait) (v3 : List GDataType) (v4 : List GInstance) (v5 : List GFunction) : GPackage.gFunctions (.mk v0 v1 v2 v3 v4 v5) = v5 := rfl
theorem GPackage.tr_len (x : GPackage) : x.tr.length = 6 := by
  obtain ⟨v0, v1, v2, v3, v4, v5⟩ := x
  simp [GPackage.tr]
theorem GPackage.sz (l : List GPackage) : ∀ e ∈ GPackage.trs l, e.length = 6 := by
  intro e he
  rw [GPackage.trs_map] at he
  obtain ⟨x, -, rfl⟩ := List.mem_map.1 he
  exact GPackage.tr_len x
theorem GPackage.all {l : List GPackage} {Q : List Tr → Prop} (h : ∀ x ∈ l, Q x.tr) : ∀ e ∈ GPackage.trs l, Q e := by
  intro e he
  rw [GPackage.trs_map] at he
  obtain ⟨x, hx, rfl⟩ := List.mem_map.1 he
  exact h x hx
inductive GProgram where
  | mk (packages_ : List GPackage)
def GProgram.tr : GProgram → List Tr
  | .mk v0 => [.row 6 (GPackage.trs v0)] ++ ([])
def GProgram.trs (l : List GProgram) : List (List Tr) := l.map GProgram.tr
theorem GProgram.trs_map (l : List GProgram) : GProgram.trs l = l.map GProgram.tr := rfl
def GProgram.gPackages : GProgram → List GPackage
  | .mk v => v
@[simp] theorem GProgram.gPackages_mk (v0 : List GPackage) : GProgram.gPackages (.mk v0) = v0 := rfl
theorem GProgram.tr_len (x : GProgram) : x.tr.length = 1 := by
  obtain ⟨v0⟩ := x
  simp [GProgram.tr]
theorem GProgram.sz (l : List GProgram) : ∀ e ∈ GProgram.trs l, e.length = 1 := by
  intro e he
  rw [GProgram.trs_map] at he
  obtain ⟨x, -, rfl⟩ := List.mem_map.1 he
  exact GProgram.tr_len x
theorem GProgram.all {l : List GProgram} {Q : List Tr → Prop} (h : ∀ x ∈ l, Q x.tr) : ∀ e ∈ GProgram.trs l, Q e := by
  intro e he
  rw [GProgram.trs_map] at he
  obtain ⟨x, hx, rfl⟩ := List.mem_map.1 he
  exact h x hx
inductive Gview where
  | mk (w_ : GProgram) (visible_ : List Int)
def Gview.tr : Gview → List Tr
  | .mk v0 v1 => GProgram.tr v0 ++ ([.row 1 (intTrs v1)] ++ ([]))
def Gview.trs (l : List Gview) : List (List Tr) := l.map Gview.tr
theorem Gview.trs_map (l : List Gview) : Gview.trs l = l.map Gview.tr := rfl
def Gview.gw : Gview → GProgram
  | .mk v _ => v
@[simp] theorem Gview.gw_mk (v0 : GProgram) (v1 : List Int) : Gview.gw (.mk v0 v1) = v0 := rfl
def Gview.gvisible : Gview → List Int
  | .mk _ v => v
@[simp] theorem Gview.gvisible_mk (v0 : GProgram) (v1 : List Int) : Gview.gvisible (.mk v0 v1) = v1 := rfl
theorem Gview.tr_len (x : Gview) : x.tr.length = 2 := by
  obtain ⟨v0, v1⟩ := x
  simp [Gview.tr, GProgram.tr_len]
theorem Gview.sz (l : List Gview) : ∀ e ∈ Gview.trs l, e.length = 2 := by
  intro e he
  rw [Gview.trs_map] at he
  obtain ⟨x, -, rfl⟩ := List.mem_map.1 he
  exact Gview.tr_len x
theorem Gview.all {l : List Gview} {Q : List Tr → Prop} (h : ∀ x ∈ l, Q x.tr) : ∀ e ∈ Gview.trs l, Q e := by
  intro e he
  rw [Gview.trs_map] at he
  obtain ⟨x, hx, rfl⟩ := List.mem_map.1 he
  exact h x hx
inductive GEvidence where
  | mk (kind_ : Int) (n_ : Int) (at_ : GInstanceRef) (args_ : List GEvidence)
mutual
def GEvidence.tr : GEvidence → List Tr
  | .mk v0 v1 v2 v3 => [.leaf (.int .i64 v0)] ++ ([.leaf (.int .i64 v1)] ++ (GInstanceRef.tr v2 ++ ([.row 5 (GEvidence.trs v3)] ++ ([]))))
def GEvidence.trs : List GEvidence → List (List Tr)
  | [] => []
  | e :: r => GEvidence.tr e :: GEvidence.trs r
end
theorem GEvidence.trs_map (l : List GEvidence) : GEvidence.trs l = l.map GEvidence.tr := by induction l <;> simp_all [GEvidence.trs]
def GEvidence.gKind : GEvidence → Int
  | .mk v _ _ _ => v
@[simp] theorem GEvidence.gKind_mk (v0 : Int) (v1 : Int) (v2 : GInstanceRef) (v3 : List GEvidence) : GEvidence.gKind (.mk v0 v1 v2 v3) = v0 := rfl
def GEvidence.gN : GEvidence → Int
  | .mk _ v _ _ => v
@[simp] theorem GEvidence.gN_mk (v0 : Int) (v1 : Int) (v2 : GInstanceRef) (v3 : List GEvidence) : GEvidence.gN (.mk v0 v1 v2 v3) = v1 := rfl
def GEvidence.gAt : GEvidence → GInstanceRef
  | .mk _ _ v _ => v
@[simp] theorem GEvidence.gAt_mk (v0 : Int) (v1 : Int) (v2 : GInstanceRef) (v3 : List GEvidence) : GEvidence.gAt (.mk v0 v1 v2 v3) = v2 := rfl
def GEvidence.gArgs : GEvidence → List GEvidence
  | .mk _ _ _ v => v
@[simp] theorem GEvidence.gArgs_mk (v0 : Int) (v1 : Int) (v2 : GInstanceRef) (v3 : List GEvidence) : GEvidence.gArgs (.mk v0 v1 v2 v3) = v3 := rfl
theorem GEvidence.tr_len (x : GEvidence) : x.tr.length = 5 := by
  obtain ⟨v0, v1, v2, v3⟩ := x
  simp [GEvidence.tr, GInstanceRef.tr_len]
theorem GEvidence.sz (l : List GEvidence) : ∀ e ∈ GEvidence.trs l, e.length = 5 := by
  intro e he
  rw [GEvidence.trs_map] at he
  obtain ⟨x, -, rfl⟩ := List.mem_map.1 he
  exact GEvidence.tr_len x
theorem GEvidence.all {l : List GEvidence} {Q : List Tr → Prop} (h : ∀ x ∈ l, Q x.tr) : ∀ e ∈ GEvidence.trs l, Q e := by
  intro e he
  rw [GEvidence.trs_map] at he
  obtain ⟨x, hx, rfl⟩ := List.mem_map.1 he
  exact h x hx
inductive GAssumption where
  | mk (goal_ : GBound) (from_ : Int) (steps_ : List Int)
def GAssumption.tr : GAssumption → List Tr
  | .mk v0 v1 v2 => GBound.tr v0 ++ ([.leaf (.int .i64 v1)] ++ ([.row 1 (intTrs v2)] ++ ([])))
def GAssumption.trs (l : List GAssumption) : List (List Tr) := l.map GAssumption.tr
theorem GAssumption.trs_map (l : List GAssumption) : GAssumption.trs l = l.map GAssumption.tr := rfl
def GAssumption.gGoal : GAssumption → GBound
  | .mk v _ _ => v
@[simp] theorem GAssumption.gGoal_mk (v0 : GBound) (v1 : Int) (v2 : List Int) : GAssumption.gGoal (.mk v0 v1 v2) = v0 := rfl
def GAssumption.gFrom : GAssumption → Int
  | .mk _ v _ => v
@[simp] theorem GAssumption.gFrom_mk (v0 : GBound) (v1 : Int) (v2 : List Int) : GAssumption.gFrom (.mk v0 v1 v2) = v1 := rfl
def GAssumption.gSteps : GAssumption → List Int
  | .mk _ _ v => v
@[simp] theorem GAssumption.gSteps_mk (v0 : GBound) (v1 : Int) (v2 : List Int) : GAssumption.gSteps (.mk v0 v1 v2) = v2 := rfl
theorem GAssumption.tr_len (x : GAssumption) : x.tr.length = 6 := by
  obtain ⟨v0, v1, v2⟩ := x
  simp [GAssumption.tr, GBound.tr_len]
theorem GAssumption.sz (l : List GAssumption) : ∀ e ∈ GAssumption.trs l, e.length = 6 := by
  intro e he
  rw [GAssumption.trs_map] at he
  obtain ⟨x, -, rfl⟩ := List.mem_map.1 he
  exact GAssumption.tr_len x
theorem GAssumption.all {l : List GAssumption} {Q : List Tr → Prop} (h : ∀ x ∈ l, Q x.tr) : ∀ e ∈ GAssumption.trs l, Q e := by
  intro e he
  rw [GAssumption.trs_map] at he
  obtain ⟨x, hx, rfl⟩ := List.mem_map.1 he
  exact h x hx
inductive Gl2In where
  | mk (s_ : ByteArray) (at_ : Int) (deep_ : Int) (size_ : Int) (bad_ : Bool)
def Gl2In.tr : Gl2In → List Tr
  | .mk v0 v1 v2 v3 v4 => [.leaf (.string v0)] ++ ([.leaf (.int .i64 v1)] ++ ([.leaf (.int .i64 v2)] ++ ([.leaf (.int .i64 v3)] ++ ([.leaf (.bool v4)] ++ ([])))))
def Gl2In.trs (l : List Gl2In) : List (List Tr) := l.map Gl2In.tr
theorem Gl2In.trs_map (l : List Gl2In) : Gl2In.trs l = l.map Gl2In.tr := rfl
def Gl2In.gs : Gl2In → ByteArray
  | .mk v _ _ _ _ => v
@[simp] theorem Gl2In.gs_mk (v0 : ByteArray) (v1 : Int) (v2 : Int) (v3 : Int) (v4 : Bool) : Gl2In.gs (.mk v0 v1 v2 v3 v4) = v0 := rfl
def Gl2In.gat : Gl2In → Int
  | .mk _ v _ _ _ => v
@[simp] theorem Gl2In.gat_mk (v0 : ByteArray) (v1 : Int) (v2 : Int) (v3 : Int) (v4 : Bool) : Gl2In.gat (.mk v0 v1 v2 v3 v4) = v1 := rfl
def Gl2In.gdeep : Gl2In → Int
  | .mk _ _ v _ _ => v
@[simp] theorem Gl2In.gdeep_mk (v0 : ByteArray) (v1 : Int) (v2 : Int) (v3 : Int) (v4 : Bool) : Gl2In.gdeep (.mk v0 v1 v2 v3 v4) = v2 := rfl
def Gl2In.gsize : Gl2In → Int
  | .mk _ _ _ v _ => v
@[simp] theorem Gl2In.gsize_mk (v0 : ByteArray) (v1 : Int) (v2 : Int) (v3 : Int) (v4 : Bool) : Gl2In.gsize (.mk v0 v1 v2 v3 v4) = v3 := rfl
def Gl2In.gbad : Gl2In → Bool
  | .mk _ _ _ _ v => v
@[simp] theorem Gl2In.gbad_mk (v0 : ByteArray) (v1 : Int) (v2 : Int) (v3 : Int) (v4 : Bool) : Gl2In.gbad (.mk v0 v1 v2 v3 v4) = v4 := rfl
theorem Gl2In.tr_len (x : Gl2In) : x.tr.length = 5 := by
  obtain ⟨v0, v1, v2, v3, v4⟩ := x
  simp [Gl2In.tr]
theorem Gl2In.sz (l : List Gl2In) : ∀ e ∈ Gl2In.trs l, e.length = 5 := by
  intro e he
  rw [Gl2In.trs_map] at he
  obtain ⟨x, -, rfl⟩ := List.mem_map.1 he
  exact Gl2In.tr_len x
theorem Gl2In.all {l : List Gl2In} {Q : List Tr → Prop} (h : ∀ x ∈ l, Q x.tr) : ∀ e ∈ Gl2In.trs l, Q e := by
  intro e he
  rw [Gl2In.trs_map] at he
  obtain ⟨x, hx, rfl⟩ := List.mem_map.1 he
  exact h x hx
inductive GCache where
  | mk (goals_ : List GBound) (codes_ : List Int) (evidence_ : List GEvidence)
def GCache.tr : GCache → List Tr
  | .mk v0 v1 v2 => [.row 4 (GBound.trs v0)] ++ ([.row 1 (intTrs v1)] ++ ([.row 5 (GEvidence.trs v2)] ++ ([])))
def GCache.trs (l : List GCache) : List (List Tr) := l.map GCache.tr
theorem GCache.trs_map (l : List GCache) : GCache.trs l = l.map GCache.tr := rfl
def GCache.gGoals : GCache → List GBound
  | .mk v _ _ => v
@[simp] theorem GCache.gGoals_mk (v0 : List GBound) (v1 : List Int) (v2 : List GEvidence) : GCache.gGoals (.mk v0 v1 v2) = v0 := rfl
def GCache.gCodes : GCache → List Int
  | .mk _ v _ => v
@[simp] theorem GCache.gCodes_mk (v0 : List GBound) (v1 : List Int) (v2 : List GEvidence) : GCache.gCodes (.mk v0 v1 v2) = v1 := rfl
def GCache.gEvidence : GCache → List GEvidence
  | .mk _ _ v => v
@[simp] theorem GCache.gEvidence_mk (v0 : List GBound) (v1 : List Int) (v2 : List GEvidence) : GCache.gEvidence (.mk v0 v1 v2) = v2 := rfl
theorem GCache.tr_len (x : GCache) : x.tr.length = 3 := by
  obtain ⟨v0, v1, v2⟩ := x
  simp [GCache.tr]
theorem GCache.sz (l : List GCache) : ∀ e ∈ GCache.trs l, e.length = 3 := by
  intro e he
  rw [GCache.trs_map] at he
  obtain ⟨x, -, rfl⟩ := List.mem_map.1 he
  exact GCache.tr_len x
theorem GCache.all {l : List GCache} {Q : List Tr → Prop} (h : ∀ x ∈ l, Q x.tr) : ∀ e ∈ GCache.trs l, Q e := by
  intro e he
  rw [GCache.trs_map] at he
  obtain ⟨x, hx, rfl⟩ := List.mem_map.1 he
  exact h x hx
end Go.Proofs.YtmpepccpnnldoaaGreat

namespace Go.Proofs.YtmpepccpnnldoaaGreat
open Go.RowKit

theorem LeL.refl : ∀ ps : List PV, LeL ps ps
  | [] => .nil
  | p :: ps => .cons (.refl p) (LeL.refl ps)
theorem strTrs_cs {l : List ByteArray} {k : Nat} (h : k < l.length) : (strTrs l)[k]? = some [.leaf (.string l[k])] := strTrs_get h
theorem intTrs_cs {l : List Int} {k : Nat} (h : k < l.length) : (intTrs l)[k]? = some [.leaf (.int .i64 l[k])] := intTrs_get h
def GInstanceRef.cs (x : GInstanceRef) : List Tr := [.leaf (.int .i64 x.gPackage), .leaf (.int .i64 x.gAt)]
def GInstanceRef.pv (x : GInstanceRef) : PV := .agg [.t (.leaf (.int .i64 x.gPackage)), .t (.leaf (.int .i64 x.gAt))]
def GSExpr.cs (x : GSExpr) : List Tr := [.leaf (.string x.gAtom), .row 2 (GSExpr.trs (x.gList))]
def GSExpr.pv (x : GSExpr) : PV := .agg [.t (.leaf (.string x.gAtom)), .t (.row 2 (GSExpr.trs (x.gList)))]
theorem GSExpr.tr_cs (x : GSExpr) : x.tr = x.cs := by
  obtain ⟨v0, v1⟩ := x
  simp [GSExpr.tr, GSExpr.cs]
theorem GSExpr.trs_cs {l : List GSExpr} {k : Nat} (h : k < l.length) : (GSExpr.trs l)[k]? = some (l[k]).cs := by rw [← GSExpr.tr_cs]; exact GSExpr.trs_get h
def GType.cs (x : GType) : List Tr := [.leaf (.int .i64 x.gKind), .leaf (.string x.gName), .row 3 (GType.trs (x.gArgs))]
def GType.pv (x : GType) : PV := .agg [.t (.leaf (.int .i64 x.gKind)), .t (.leaf (.string x.gName)), .t (.row 3 (GType.trs (x.gArgs)))]
theorem GType.tr_cs (x : GType) : x.tr = x.cs := by
  obtain ⟨v0, v1, v2⟩ := x
  simp [GType.tr, GType.cs]
theorem GType.trs_cs {l : List GType} {k : Nat} (h : k < l.length) : (GType.trs l)[k]? = some (l[k]).cs := by rw [← GType.tr_cs]; exact GType.trs_get h
def GBinding.cs (x : GBinding) : List Tr := [.leaf (.string x.gVar), .leaf (.int .i64 x.gType.gKind), .leaf (.string x.gType.gName), .row 3 (GType.trs (x.gType.gArgs))]
def GBinding.pv (x : GBinding) : PV := .agg [.t (.leaf (.string x.gVar)), .t (.leaf (.int .i64 x.gType.gKind)), .t (.leaf (.string x.gType.gName)), .t (.row 3 (GType.trs (x.gType.gArgs)))]
def GExpr.cs (x : GExpr) : List Tr := [.leaf (.int .i64 x.gKind), .leaf (.string x.gTrait), .leaf (.string x.gName), .leaf (.int .i64 x.gN), .leaf (.int .i64 x.gType.gKind), .leaf (.string x.gType.gName), .row 3 (GType.trs (x.gType.gArgs)), .row 9 (GExpr.trs (x.gArgs)), .row 11 (GArm.trs (x.gArms))]
def GExpr.pv (x : GExpr) : PV := .agg [.t (.leaf (.int .i64 x.gKind)), .t (.leaf (.string x.gTrait)), .t (.leaf (.string x.gName)), .t (.leaf (.int .i64 x.gN)), .t (.leaf (.int .i64 x.gType.gKind)), .t (.leaf (.string x.gType.gName)), .t (.row 3 (GType.trs (x.gType.gArgs))), .t (.row 9 (GExpr.trs (x.gArgs))), .t (.row 11 (GArm.trs (x.gArms)))]
def GArm.cs (x : GArm) : List Tr := [.leaf (.string x.gConstructor), .row 1 (strTrs (x.gVars)), .leaf (.int .i64 x.gBody.gKind), .leaf (.string x.gBody.gTrait), .leaf (.string x.gBody.gName), .leaf (.int .i64 x.gBody.gN), .leaf (.int .i64 x.gBody.gType.gKind), .leaf (.string x.gBody.gType.gName), .row 3 (GType.trs (x.gBody.gType.gArgs)), .row 9 (GExpr.trs (x.gBody.gArgs)), .row 11 (GArm.trs (x.gBody.gArms))]
def GArm.pv (x : GArm) : PV := .agg [.t (.leaf (.string x.gConstructor)), .t (.row 1 (strTrs (x.gVars))), .t (.leaf (.int .i64 x.gBody.gKind)), .t (.leaf (.string x.gBody.gTrait)), .t (.leaf (.string x.gBody.gName)), .t (.leaf (.int .i64 x.gBody.gN)), .t (.leaf (.int .i64 x.gBody.gType.gKind)), .t (.leaf (.string x.gBody.gType.gName)), .t (.row 3 (GType.trs (x.gBody.gType.gArgs))), .t (.row 9 (GExpr.trs (x.gBody.gArgs))), .t (.row 11 (GArm.trs (x.gBody.gArms)))]
def GSignature.cs (x : GSignature) : List Tr := [.leaf (.string x.gName), .row 3 (GType.trs (x.gParams)), .leaf (.int .i64 x.gResult.gKind), .leaf (.string x.gResult.gName), .row 3 (GType.trs (x.gResult.gArgs)), .leaf (.bool x.gHasDefault), .row 1 (strTrs (x.gVars)), .leaf (.int .i64 x.gBody.gKind), .leaf (.string x.gBody.gTrait), .leaf (.string x.gBody.gName), .leaf (.int .i64 x.gBody.gN), .leaf (.int .i64 x.gBody.gType.gKind), .leaf (.string x.gBody.gType.gName), .row 3 (GType.trs (x.gBody.gType.gArgs)), .row 9 (GExpr.trs (x.gBody.gArgs)), .row 11 (GArm.trs (x.gBody.gArms))]
def GSignature.pv (x : GSignature) : PV := .agg [.t (.leaf (.string x.gName)), .t (.row 3 (GType.trs (x.gParams))), .t (.leaf (.int .i64 x.gResult.gKind)), .t (.leaf (.string x.gResult.gName)), .t (.row 3 (GType.trs (x.gResult.gArgs))), .t (.leaf (.bool x.gHasDefault)), .t (.row 1 (strTrs (x.gVars))), .t (.leaf (.int .i64 x.gBody.gKind)), .t (.leaf (.string x.gBody.gTrait)), .t (.leaf (.string x.gBody.gName)), .t (.leaf (.int .i64 x.gBody.gN)), .t (.leaf (.int .i64 x.gBody.gType.gKind)), .t (.leaf (.string x.gBody.gType.gName)), .t (.row 3 (GType.trs (x.gBody.gType.gArgs))), .t (.row 9 (GExpr.trs (x.gBody.gArgs))), .t (.row 11 (GArm.trs (x.gBody.gArms)))]
def GTrait.cs (x : GTrait) : List Tr := [.leaf (.string x.gName), .row 1 (strTrs (x.gSupertraits)), .leaf (.bool x.gAuto), .leaf (.bool x.gAssoc), .row 16 (GSignature.trs (x.gSignatures))]
def GTrait.pv (x : GTrait) : PV := .agg [.t (.leaf (.string x.gName)), .t (.row 1 (strTrs (x.gSupertraits))), .t (.leaf (.bool x.gAuto)), .t (.leaf (.bool x.gAssoc)), .t (.row 16 (GSignature.trs (x.gSignatures)))]
def GConstructor.cs (x : GConstructor) : List Tr := [.leaf (.string x.gName), .row 3 (GType.trs (x.gFields))]
def GConstructor.pv (x : GConstructor) : PV := .agg [.t (.leaf (.string x.gName)), .t (.row 3 (GType.trs (x.gFields)))]
def GDataType.cs (x : GDataType) : List Tr := [.leaf (.string x.gName), .row 1 (strTrs (x.gVars)), .row 2 (GConstructor.trs (x.gConstructors))]
def GDataType.pv (x : GDataType) : PV := .agg [.t (.leaf (.string x.gName)), .t (.row 1 (strTrs (x.gVars))), .t (.row 2 (GConstructor.trs (x.gConstructors)))]
def GBound.cs (x : GBound) : List Tr := [.leaf (.string x.gTrait), .leaf (.int .i64 x.gType.gKind), .leaf (.string x.gType.gName), .row 3 (GType.trs (x.gType.gArgs))]
def GBound.pv (x : GBound) : PV := .agg [.t (.leaf (.string x.gTrait)), .t (.leaf (.int .i64 x.gType.gKind)), .t (.leaf (.string x.gType.gName)), .t (.row 3 (GType.trs (x.gType.gArgs)))]
theorem GBound.tr_cs (x : GBound) : x.tr = x.cs := by
  obtain ⟨v0, v1⟩ := x
  simp [GBound.tr, GBound.cs, GType.tr_cs, GType.cs]
theorem GBound.trs_cs {l : List GBound} {k : Nat} (h : k < l.length) : (GBound.trs l)[k]? = some (l[k]).cs := by rw [← GBound.tr_cs]; exact GBound.trs_get h
def GMethod.cs (x : GMethod) : List Tr := [.leaf (.string x.gName), .row 1 (strTrs (x.gVars)), .leaf (.int .i64 x.gBody.gKind), .leaf (.string x.gBody.gTrait), .leaf (.string x.gBody.gName), .leaf (.int .i64 x.gBody.gN), .leaf (.int .i64 x.gBody.gType.gKind), .leaf (.string x.gBody.gType.gName), .row 3 (GType.trs (x.gBody.gType.gArgs)), .row 9 (GExpr.trs (x.gBody.gArgs)), .row 11 (GArm.trs (x.gBody.gArms))]
def GMethod.pv (x : GMethod) : PV := .agg [.t (.leaf (.string x.gName)), .t (.row 1 (strTrs (x.gVars))), .t (.leaf (.int .i64 x.gBody.gKind)), .t (.leaf (.string x.gBody.gTrait)), .t (.leaf (.string x.gBody.gName)), .t (.leaf (.int .i64 x.gBody.gN)), .t (.leaf (.int .i64 x.gBody.gType.gKind)), .t (.leaf (.string x.gBody.gType.gName)), .t (.row 3 (GType.trs (x.gBody.gType.gArgs))), .t (.row 9 (GExpr.trs (x.gBody.gArgs))), .t (.row 11 (GArm.trs (x.gBody.gArms)))]
def GInstance.cs (x : GInstance) : List Tr := [.leaf (.string x.gTrait), .row 1 (strTrs (x.gVars)), .leaf (.int .i64 x.gHead.gKind), .leaf (.string x.gHead.gName), .row 3 (GType.trs (x.gHead.gArgs)), .row 4 (GBound.trs (x.gWhere)), .leaf (.bool x.gDefault), .leaf (.bool x.gHasAssoc), .leaf (.int .i64 x.gAssoc.gKind), .leaf (.string x.gAssoc.gName), .row 3 (GType.trs (x.gAssoc.gArgs)), .row 11 (GMethod.trs (x.gMethods))]
def GInstance.pv (x : GInstance) : PV := .agg [.t (.leaf (.string x.gTrait)), .t (.row 1 (strTrs (x.gVars))), .t (.leaf (.int .i64 x.gHead.gKind)), .t (.leaf (.string x.gHead.gName)), .t (.row 3 (GType.trs (x.gHead.gArgs))), .t (.row 4 (GBound.trs (x.gWhere))), .t (.leaf (.bool x.gDefault)), .t (.leaf (.bool x.gHasAssoc)), .t (.leaf (.int .i64 x.gAssoc.gKind)), .t (.leaf (.string x.gAssoc.gName)), .t (.row 3 (GType.trs (x.gAssoc.gArgs))), .t (.row 11 (GMethod.trs (x.gMethods)))]
def GParam.cs (x : GParam) : List Tr := [.leaf (.string x.gName), .leaf (.int .i64 x.gType.gKind), .leaf (.string x.gType.gName), .row 3 (GType.trs (x.gType.gArgs))]
def GParam.pv (x : GParam) : PV := .agg [.t (.leaf (.string x.gName)), .t (.leaf (.int .i64 x.gType.gKind)), .t (.leaf (.string x.gType.gName)), .t (.row 3 (GType.trs (x.gType.gArgs)))]
def GFunction.cs (x : GFunction) : List Tr := [.leaf (.string x.gName), .row 1 (strTrs (x.gVars)), .row 4 (GBound.trs (x.gWhere)), .row 4 (GParam.trs (x.gParams)), .leaf (.int .i64 x.gResult.gKind), .leaf (.string x.gResult.gName), .row 3 (GType.trs (x.gResult.gArgs)), .leaf (.int .i64 x.gBody.gKind), .leaf (.string x.gBody.gTrait), .leaf (.string x.gBody.gName), .leaf (.int .i64 x.gBody.gN), .leaf (.int .i64 x.gBody.gType.gKind), .leaf (.string x.gBody.gType.gName), .row 3 (GType.trs (x.gBody.gType.gArgs)), .row 9 (GExpr.trs (x.gBody.gArgs)), .row 11 (GArm.trs (x.gBody.gArms))]
def GFunction.pv (x : GFunction) : PV := .agg [.t (.leaf (.string x.gName)), .t (.row 1 (strTrs (x.gVars))), .t (.row 4 (GBound.trs (x.gWhere))), .t (.row 4 (GParam.trs (x.gParams))), .t (.leaf (.int .i64 x.gResult.gKind)), .t (.leaf (.string x.gResult.gName)), .t (.row 3 (GType.trs (x.gResult.gArgs))), .t (.leaf (.int .i64 x.gBody.gKind)), .t (.leaf (.string x.gBody.gTrait)), .t (.leaf (.string x.gBody.gName)), .t (.leaf (.int .i64 x.gBody.gN)), .t (.leaf (.int .i64 x.gBody.gType.gKind)), .t (.leaf (.string x.gBody.gType.gName)), .t (.row 3 (GType.trs (x.gBody.gType.gArgs))), .t (.row 9 (GExpr.trs (x.gBody.gArgs))), .t (.row 11 (GArm.trs (x.gBody.gArms)))]
def GPackage.cs (x : GPackage) : List Tr := [.leaf (.string x.gName), .row 1 (strTrs (x.gDeps)), .row 5 (GTrait.trs (x.gTraits)), .row 3 (GDataType.trs (x.gDataTypes)), .row 12 (GInstance.trs (x.gInstances)), .row 16 (GFunction.trs (x.gFunctions))]
def GPackage.pv (x : GPackage) : PV := .agg [.t (.leaf (.string x.gName)), .t (.row 1 (strTrs (x.gDeps))), .t (.row 5 (GTrait.trs (x.gTraits))), .t (.row 3 (GDataType.trs (x.gDataTypes))), .t (.row 12 (GInstance.trs (x.gInstances))), .t (.row 16 (GFunction.trs (x.gFunctions)))]
def GProgram.cs (x : GProgram) : List Tr := [.row 6 (GPackage.trs (x.gPackages))]
def GProgram.pv (x : GProgram) : PV := .agg [.t (.row 6 (GPackage.trs (x.gPackages)))]
def Gview.cs (x : Gview) : List Tr := [.row 6 (GPackage.trs (x.gw.gPackages)), .row 1 (intTrs (x.gvisible))]
def Gview.pv (x : Gview) : PV := .agg [.t (.row 6 (GPackage.trs (x.gw.gPackages))), .t (.row 1 (intTrs (x.gvisible)))]
def GEvidence.cs (x : GEvidence) : List Tr := [.leaf (.int .i64 x.gKind), .leaf (.int .i64 x.gN), .leaf (.int .i64 x.gAt.gPackage), .leaf (.int .i64 x.gAt.gAt), .row 5 (GEvidence.trs (x.gArgs))]
def GEvidence.pv (x : GEvidence) : PV := .agg [.t (.leaf (.int .i64 x.gKind)), .t (.leaf (.int .i64 x.gN)), .t (.leaf (.int .i64 x.gAt.gPackage)), .t (.leaf (.int .i64 x.gAt.gAt)), .t (.row 5 (GEvidence.trs (x.gArgs)))]
def GAssumption.cs (x : GAssumption) : List Tr := [.leaf (.string x.gGoal.gTrait), .leaf (.int .i64 x.gGoal.gType.gKind), .leaf (.string x.gGoal.gType.gName), .row 3 (GType.trs (x.gGoal.gType.gArgs)), .leaf (.int .i64 x.gFrom), .row 1 (intTrs (x.gSteps))]
def GAssumption.pv (x : GAssumption) : PV := .agg [.t (.leaf (.string x.gGoal.gTrait)), .t (.leaf (.int .i64 x.gGoal.gType.gKind)), .t (.leaf (.string x.gGoal.gType.gName)), .t (.row 3 (GType.trs (x.gGoal.gType.gArgs))), .t (.leaf (.int .i64 x.gFrom)), .t (.row 1 (intTrs (x.gSteps)))]
def Gl2In.cs (x : Gl2In) : List Tr := [.leaf (.string x.gs), .leaf (.int .i64 x.gat), .leaf (.int .i64 x.gdeep), .leaf (.int .i64 x.gsize), .leaf (.bool x.gbad)]
def Gl2In.pv (x : Gl2In) : PV := .agg [.t (.leaf (.string x.gs)), .t (.leaf (.int .i64 x.gat)), .t (.leaf (.int .i64 x.gdeep)), .t (.leaf (.int .i64 x.gsize)), .t (.leaf (.bool x.gbad))]
def GCache.cs (x : GCache) : List Tr := [.row 4 (GBound.trs (x.gGoals)), .row 1 (intTrs (x.gCodes)), .row 5 (GEvidence.trs (x.gEvidence))]
def GCache.pv (x : GCache) : PV := .agg [.t (.row 4 (GBound.trs (x.gGoals))), .t (.row 1 (intTrs (x.gCodes))), .t (.row 5 (GEvidence.trs (x.gEvidence)))]
end Go.Proofs.YtmpepccpnnldoaaGreat

namespace Go.Proofs.YtmpepccpnnldoaaGreat
set_option linter.unusedSimpArgs false
set_option linter.unusedVariables false
open Go.RowKit Go.WalkArith Go.IntWalk Go.WideShapes

section
variable {P : Program} {C : Ctx} {n : Nat} {s : AS} {Q : Exit → AS → Prop} {o : Oper} {ops : Array Oper} {rest : List Oper}
theorem AL.splitB (d : Nat) {b : Bool} {l : List Oper} (_hb : s.lk d = some (.t (.leaf (.bool b)))) (h1 : b = true → AL P C n ops l Q s) (h2 : b = false → AL P C n ops l Q s) : AL P C n ops l Q s := by
  cases b
  · exact h2 rfl
  · exact h1 rfl
theorem AL.cons_gv {s1 : AS} {j d : Nat} {b c : Bool} (hg : o.guard = some (j, c)) (hj : (ops[j]?).bind (·.dst) = some d) (hb : s.lk d = some (.t (.leaf (.bool b)))) (hv : b = c) (ho : AOp P C n o s s1) (h : AL P C n ops rest Q s1) : AL P C n ops (o :: rest) Q s := by
  subst hv
  exact AL.cons_g hg hj hb ho h
theorem AL.skip_v {j d : Nat} {b c e : Bool} (hg : o.guard = some (j, c)) (hj : (ops[j]?).bind (·.dst) = some d) (hb : s.lk d = some (.t (.leaf (.bool b)))) (hv : b = e) (hne : (e == c) = false) (h : AL P C n ops rest Q (s.delO o.dst)) : AL P C n ops (o :: rest) Q s := by
  subst hv
  exact AL.skip hg hj hb hne h
theorem AOp.pickT {x y z : Operand} {b : Bool} {p : PV} (ho : o.op = .pick x y z) (hd : dstOk o.dst n = true) (hx : s.ev x = some (.t (.leaf (.bool b)))) (hb : b = true) (hy : s.ev y = some p) : AOp P C n o s (s.putO o.dst p) :=
  AOp.pick ho hd hx (fun _ => hy) (q := p) (fun h => by rw [hb] at h; cases h)
theorem AOp.pickF {x y z : Operand} {b : Bool} {p : PV} (ho : o.op = .pick x y z) (hd : dstOk o.dst n = true) (hx : s.ev x = some (.t (.leaf (.bool b)))) (hb : b = false) (hz : s.ev z = some p) : AOp P C n o s (s.putO o.dst p) :=
  AOp.pick ho hd hx (fun h => by rw [hb] at h; cases h) (q := p) (fun _ => hz)
theorem AOp.lenN {T : TypeId} {x : Operand} {p : PV} {sz N : Nat} {es : List (List Tr)} {E : Nat × Nat × Nat} (ho : o.op = .call { callee := .builtin .len, args := #[x], argTypes := #[T] }) (hd : dstOk o.dst n = true) (hx : s.ev x = some p) (hp : rowOf p = some (sz, es)) (hT : elemOf? P T = some E) (hl : es.length = N) :
    AOp P C n o s (s.putO o.dst (.t (.leaf (.int .i64 (N : Int))))) := by
  subst hl
  exact AOp.len (ty := 0) ho hd hx hp hT
theorem lk_lenN (i : Nat) {p : PV} {sz N : Nat} {es : List (List Tr)} (hx : s.lk i = some p) (hp : rowOf p = some (sz, es)) (hl : es.length = N) : ∀ m a w, RA C n s m a w → N ≤ 9223372036854775807 := by
  subst hl
  exact lk_len i hx hp
theorem keeps_nil {st' : Sto} (h : C.st = ⟨[], []⟩) : Keeps0 C.st st' := by rw [h]; exact Keeps0.nil
end
theorem nat_lt_of {a b : Nat} (h : decide ((a : Int) < (b : Int)) = true) : a < b := by
  have := of_decide_eq_true h
  omega
theorem nat_ge_of {a b : Nat} (h : decide ((a : Int) < (b : Int)) = false) : b ≤ a := by
  have := of_decide_eq_false h
  omega
end Go.Proofs.YtmpepccpnnldoaaGreat

namespace Go.Proofs.YtmpepccpnnldoaaGreat
set_option linter.unusedSimpArgs false
set_option linter.unusedVariables false
open Go.RowKit Go.WalkArith Go.IntWalk Go.WideShapes

section
variable {P : Program} {C : Ctx} {n : Nat} {s : AS} {Q : Exit → AS → Prop} {o : Oper}
theorem AOp.quietX {p : PV} (hd : dstOk o.dst n = true) (h : ∀ m a w, RA C n s m a w → ∃ v w1, (execOp a.eval o).run P w = .ok (.value v) w1 ∧ Ext w w1 ∧ RV (okA C.av s.st m) s.st m w1 p v) : AOp P C n o s (s.putO o.dst p) :=
  AOp.run hd (s1 := s) (fun m a w hr => by
    obtain ⟨v, w1, h1, h2, h3⟩ := h m a w hr
    exact ⟨v, m, w1, h1, Ev.later h2, hr.sto.later h2, h3⟩) rfl
theorem AOp.buildSlice_run {T E sz by_ len : Nat} {parts : Array (Nat × Operand)} {ps : List (Nat × List PV)} {zs cs : List PV} (ho : o.op = .buildSlice T len parts) (hT : elemOf? P T = some (E, sz, by_)) (hz : zerosOf P E = some zs) (hp : partsP s parts.toList = some ps)
    (hc : fillP (fun i => some (i * sz, sz)) (List.replicate len zs).flatten ps = some cs) (hcl : cs.length = len * sz) (hsz : 0 < sz) (hzl : zs.length = sz) (hsm : len * sz ≤ 16777216) {m : Lay} {a : Act} {w : World} (h : RA C n s m a w) :
    ∃ us, (execOp a.eval o).run P w = .ok (.value (.slice (some ⟨w.heap.size, 0, none⟩) len len)) (w.alloc (.cells ⟨us⟩ E)) ∧ RVL (okA C.av s.st m) s.st m w cs us ∧ len ≤ maxLen := by
  obtain ⟨i, hu, hi, hs, hby⟩ := elemOf?.spec hT
  obtain ⟨i', z, hi', hzz, hr⟩ := zerosOf.spec hz
  rw [hi] at hi'
  cases hi'
  have hzv := hr (okA C.av s.st m) s.st m w
  have hzs : z.cells.size = sz := by have := hzv.length; rw [hzl] at this; simpa using this.symm
  have hrl : ∀ e ∈ List.replicate len zs, e.length = sz := fun e he => by rw [(List.mem_replicate.1 he).2]; exact hzl
  have hzero : RVL (okA C.av s.st m) s.st m w (List.replicate len zs).flatten ((List.range (len * sz)).map (fun q => z.cells[q % z.cells.size]!)) := by
    refine RVL.of_get (by rw [flatten_len hrl]; simp) fun j p hj => ?_
    have hjl : j < len * sz := by have := get_lt hj; rw [flatten_len hrl] at this; simpa using this
    have hj1 : j / sz < len := by rw [Nat.div_lt_iff_lt_mul hsz]; exact hjl
    have hj2 : j % sz < zs.length := by rw [hzl]; exact Nat.mod_lt _ hsz
    have hpj := flatten_get (i := j / sz) (j := j % sz) (e := zs) (d := zs[j % sz]) hrl (by rw [List.getElem?_replicate, if_pos hj1]) (List.getElem?_eq_getElem hj2)
    rw [show j / sz * sz + j % sz = j by rw [Nat.mul_comm]; exact Nat.div_add_mod j sz, hj] at hpj
    cases hpj
    obtain ⟨v, hv, hrv⟩ := hzv.get (List.getElem?_eq_getElem hj2)
    refine ⟨v, ?_, hrv⟩
    rw [List.getElem?_map, List.getElem?_range hjl]
    simp only [Option.map_some, hzs]
    rw [Array.getElem?_toList] at hv
    obtain ⟨hlt, hve⟩ := Array.getElem?_eq_some_iff.1 hv
    rw [getElem!_pos z.cells _ hlt, hve]
  obtain ⟨us, h2, h3⟩ := fillP_ok (partsP_ok h hp) hzero hc
  have hul : us.length = len * sz := by have := h3.length; rw [hcl] at this; exact this.symm
  have hrun : (Instr.buildSlice T len (parts.map fun (i, x) => (i, a.eval x))).run P w = .ok (.slice (some ⟨w.heap.size, 0, none⟩) len len) (w.alloc (.cells ⟨us⟩ E)) := by
    have hfill : Instr.fill (fun i => some (i * sz, sz)) ((Array.range (len * sz)).map (z.cells[· % z.cells.size]!)) (parts.map fun (i, x) => (i, a.eval x)).toList = some ⟨us⟩ := by
      rw [Array.toList_map, ← h2]
      congr 1
      apply Array.ext'
      simp
    by_cases h0 : len * sz = 0
    · have hl0 : len = 0 := by
        rcases Nat.mul_eq_zero.1 h0 with h | h
        · exact h
        · omega
      subst hl0
      rw [Nat.zero_mul] at hfill
      simp [Instr.buildSlice, run_underlying hu, Go.sizeOf, typeInfo, hi, hs, newRow]
      have e0 : (Array.range 0).map (fun q => z.cells[q % z.cells.size]!) = #[] := by simp
      rw [e0] at hfill
      simp at hfill
      have e1 : (Array.range 0).map (fun _ => (default : Value)) = #[] := by simp
      rw [e1, hfill]
      simp
    · exact run_buildSlice w T E len _ ⟨us⟩ i z hu hi hzz (by rw [hs]; omega) (by rw [hs]; exact h0) (by rw [hs]; exact hfill)
  refine ⟨us, ?_, h3, by have := Nat.le_mul_of_pos_right len hsz; unfold maxLen; omega⟩
  unfold execOp
  simp [ho, hrun]
theorem LeL.length {ps qs : List PV} (h : LeL ps qs) : ps.length = qs.length := by
  induction ps generalizing qs with
  | nil => cases h; rfl
  | cons p ps ih => cases h with | cons _ k => rw [List.length_cons, List.length_cons, ih k]
theorem AOp.buildSlice_lit {T E sz by_ len : Nat} {parts : Array (Nat × Operand)} {ps : List (Nat × List PV)} {zs cs : List PV} {es : List (List Tr)} (ho : o.op = .buildSlice T len parts) (hT : elemOf? P T = some (E, sz, by_)) (hz : zerosOf P E = some zs) (hp : partsP s parts.toList = some ps)
    (hc : fillP (fun i => some (i * sz, sz)) (List.replicate len zs).flatten ps = some cs) (hle : LeL cs (es.flatten.map PV.t)) (hel : es.length = len) (hes : ∀ e ∈ es, e.length = sz) (hsz : 0 < sz) (hzl : zs.length = sz) (hsm : len * sz ≤ 16777216) :
    ∀ m a w, RA C n s m a w → ∃ v w1, (execOp a.eval o).run P w = .ok (.value v) w1 ∧ Ext w w1 ∧ RV (okA C.av s.st m) s.st m w1 (.lit sz es) v := by
  intro m a w h
  obtain ⟨us, h1, h3, hm⟩ := AOp.buildSlice_run ho hT hz hp hc (by rw [hle.length, List.length_map, flatten_len hes, hel]) hsz hzl hsm h
  have h4 := LeL.rv hle h3
  have hx : Ext w (w.alloc (.cells ⟨us⟩ E)) := .alloc (.refl _) _
  refine ⟨.slice (some ⟨w.heap.size, 0, none⟩) len len, w.alloc (.cells ⟨us⟩ E), h1, hx, ?_⟩
  have hget : ∀ q e, es[q]? = some e → ∀ j d, e[j]? = some d → ∃ v, us[q * sz + j]? = some v ∧ RepM (okA C.av s.st m) (w.alloc (.cells ⟨us⟩ E)) d v := fun q e hq j d hj => by
    have hf := flatten_get (sz := sz) hes hq hj
    obtain ⟨v, hv, hrv⟩ := h4.get (j := q * sz + j) (p := .t d) (by rw [List.getElem?_map, hf]; rfl)
    exact ⟨v, hv, RepM.ext hrv hx⟩
  have := RepM.row (ok := okA C.av s.st m) (w := w.alloc (.cells ⟨us⟩ E)) (es := es) (sz := sz) (a := some ⟨w.heap.size, 0, none⟩) (cap := len) (fun q j => (us[q * sz + j]?).getD undef) (by omega) hm (fun _ => ⟨w.heap.size, 0, rfl, by simp, fun q e hq j d hd => ⟨okA_new h.sto (Nat.le_refl _) _, ?_⟩⟩) (fun q e hq j d hd => ?_)
  · subst hel
    exact ⟨this, _, rfl⟩
  · obtain ⟨v, hv, -⟩ := hget q e hq j d hd
    rw [Nat.zero_add, (OB.new w E ⟨us⟩).cell, hv]
    simpa using hv
  · obtain ⟨v, hv, hr⟩ := hget q e hq j d hd
    rw [hv]
    exact hr
/-- The operation's outcome, told by less. -/
theorem AOp.less {p q : PV} (hle : PV.Le p q) (hdl : dstOk o.dst n = true) (h : ∀ m a w, RA C n s m a w → ∃ v w1, (execOp a.eval o).run P w = .ok (.value v) w1 ∧ Ext w w1 ∧ RV (okA C.av s.st m) s.st m w1 p v) : AOp P C n o s (s.putO o.dst q) :=
  AOp.quietX hdl fun m a w hr => by
    obtain ⟨v, w1, h1, h2, h3⟩ := h m a w hr
    exact ⟨v, w1, h1, h2, hle.rv h3⟩
/-- A literal of data, its row forgotten. -/
theorem AOp.buildSliceQ {T E sz by_ len : Nat} {parts : Array (Nat × Operand)} {ps : List (Nat × List PV)} {zs cs : List PV} {es : List (List Tr)} (ho : o.op = .buildSlice T len parts) (hd : dstOk o.dst n = true) (hT : elemOf? P T = some (E, sz, by_)) (hz : zerosOf P E = some zs) (hp : partsP s parts.toList = some ps)
    (hc : fillP (fun i => some (i * sz, sz)) (List.replicate len zs).flatten ps = some cs) (hle : LeL cs (es.flatten.map PV.t)) (hel : es.length = len) (hes : ∀ e ∈ es, e.length = sz) (hsz : 0 < sz) (hzl : zs.length = sz) (hsm : len * sz ≤ 16777216) :
    AOp P C n o s (s.putO o.dst (.t (.row sz es))) :=
  AOp.less (.lit sz es) hd (AOp.buildSlice_lit ho hT hz hp hc hle hel hes hsz hzl hsm)

def Draw.steps (P : Program) (C : Ctx) (n : Nat) (D : Draw) : Nat → List Oper → Prop
  | _, [] => True
  | i, o :: l => D.step P C n i o ∧ Draw.steps P C n D (i + 1) l
theorem Draw.steps_get {D : Draw} : ∀ {l : List Oper} {k : Nat}, D.steps P C n k l → ∀ (i : Nat) (o : Oper), l[i]? = some o → D.step P C n (k + i) o
  | [], _, _, i, o, h => by simp at h
  | x :: l, k, hs, 0, o, h => by simp at h; subst h; exact hs.1
  | x :: l, k, hs, i + 1, o, h => by
    have := Draw.steps_get (l := l) (k := k + 1) hs.2 i o (by simpa using h)
    rwa [show k + 1 + i = k + (i + 1) by omega] at this
/-- The region as a list; the state behind it told by the caller. -/
theorem AWP.drawnL {id : Nat} {l : List Oper} {s1 : AS} (D : Draw) (hD : D.ops = l.toArray) (hm : P.follows .mixedOrders = true) (hok : D.ok = true) (henv : s.env = D.env0) (hst : s.st = D.F 0 false) (hsteps : D.steps P C n 0 l)
    (h1 : (⟨((List.range D.ops.size).filterMap (D.gX (Array.replicate D.ops.size true))) ++ D.env0, D.F D.effs.length D.alloc.isSome⟩ : AS) = s1) (h : Q .normal s1) : AWP P C n (.region id l.toArray true) Q s := by
  subst h1
  rw [← hD]
  refine AWP.drawn D hm hok henv hst (fun i o ho => ?_) h
  have := Draw.steps_get hsteps i o (by rw [hD] at ho; simpa using ho)
  rwa [Nat.zero_add] at this
theorem Draw.step.q1 {D : Draw} {i : Nat} {o : Oper} (lo : Nat) (wt : D.want o = some true) (hk : D.kind i = .q lo lo)
    (h : ∀ (s' : AS) (b : Bool), s'.st = D.F lo b → (∀ t src p, (t, src) ∈ D.ins i → D.pv (t, src) = some p → s'.lk t = some p) → ∃ p, D.out i = some p ∧ AOp P C n o s' (s'.putO o.dst p)) : D.step P C n i o :=
  .inl ⟨wt, by
    unfold Draw.does
    rw [hk]
    exact fun s' j b h1 h2 hs hl => by
      obtain rfl : j = lo := by omega
      exact h s' b hs hl⟩
end
end Go.Proofs.YtmpepccpnnldoaaGreat

namespace Go.Proofs.YtmpepccpnnldoaaGreat
set_option linter.unusedSimpArgs false
set_option linter.unusedVariables false
open Go.RowKit

def lay0 : Lay := ⟨fun _ => 0, fun _ => none⟩
def av0 : Nat → Nat → Prop := fun _ _ => False
theorem ok0 (b o : Nat) : okA av0 ⟨[], []⟩ lay0 b o := ⟨fun h => h, fun k x h => by simp at h, fun r row g c h => by simp at h⟩
theorem sto0 (w : World) : StoOk av0 ⟨[], []⟩ lay0 w where
  box := fun k x h => by simp at h
  binj := fun k k' x x' h => by simp at h
  row := fun r row h => by simp at h
  rinj := fun r r' row row' g c c' h => by simp at h
  br := fun k x r row g c h => by simp at h
  avlt := fun b o h => h.elim
  avr := fun r row g c h => by simp at h
  avb := fun k x h => by simp at h
theorem Ev.ext {m m' : Lay} {w w' : World} {st' : Sto} (h : Ev ⟨[], []⟩ m w st' m' w') : Ext w w' where
  os := h.os
  tape := h.tape
  output := h.output
  size := h.size
  block := fun b hb => h.blk b hb (fun k x h => by simp at h) (fun r row g c h => by simp at h)
/-- The values stand for plain data. -/
abbrev RVL0 (w : World) (ps : List PV) (vs : List Value) : Prop := RVL (okA av0 ⟨[], []⟩ lay0) ⟨[], []⟩ lay0 w ps vs
abbrev RV0 (w : World) (p : PV) (v : Value) : Prop := RV (okA av0 ⟨[], []⟩ lay0) ⟨[], []⟩ lay0 w p v
theorem RV0.agg {w : World} {ts : List Tr} {cs : List Value} (h : RepL w ts cs) : RV0 w (.agg (ts.map PV.t)) (.agg ⟨cs⟩) := ⟨cs, rfl, h.toRVL fun b o _ => ok0 b o⟩
theorem RV0.t {w : World} {t : Tr} {v : Value} (h : Rep w t v) : RV0 w (.t t) v := h.repM fun b o _ => ok0 b o
theorem AFun.plain {P : Program} {f : FuncId} {args : List PV} {d : Value} (h : AFun P f args (.t (.leaf d))) {w : World} {vals : List Value} (hv : RVL0 w args vals) : Calls P f ⟨vals⟩ w fun e w' => e = .returned d ∧ Ext w w' :=
  (h av0 lay0 w vals (sto0 w) hv).mono fun e w' => by
    rintro ⟨res, st', m', v, rfl, ⟨rfl, rfl⟩, -, he, hr⟩
    exact ⟨by rw [(RepM.leaf_eq hr).1], he.ext⟩

end Go.Proofs.YtmpepccpnnldoaaGreat

namespace Go.Proofs.YtmpepccpnnldoaaGreat
set_option linter.unusedSimpArgs false
set_option linter.unusedVariables false
open Go.RowKit Go.WalkArith Go.IntWalk Go.WideShapes

section
variable {P : Program} {C : Ctx} {n : Nat} {s : AS} {Q : Exit → AS → Prop} {o : Oper}
theorem AWP.wk {s' : AS} {c : Code} (hw : Wk C n s s') (h : AWP P C n c Q s') : AWP P C n c Q s := fun m a w hr => by
  obtain ⟨m', h'⟩ := hw m a w hr
  exact h m' a w h'
theorem AOp.appendE {T E sz by_ : Nat} {x y : Operand} {es es2 es3 : List (List Tr)} {r : Nat} {row : PRow} {p : PV} (ho : o.op = .call { callee := .builtin .append, args := #[x, y], argTypes := #[T, T] }) (hd : dstOk o.dst n = true)
    (hx : s.ev x = some (.acc sz es r)) (hrow : s.st.rows[r]? = some row) (hes : row.es = es) (hE : row.E = E) (hw : row.whole = false) (hy : s.ev y = some p) (hp : rowOf p = some (sz, es2)) (h2 : ∀ e ∈ es2, e.length = sz)
    (hT : elemOf? P T = some (E, sz, by_)) (hz : (P.info? E).bind (fun i => i.zero.map (fun z => z.cells.size)) = some sz) (hb : 0 < by_) (hlen : (es.length + es2.length) * by_ ≤ 140737488355328) (h3 : es ++ es2 = es3) :
    AOp P C n o s ((⟨s.env, s.st.setRow r { row with es := es3 }⟩ : AS).putO o.dst (.acc sz es3 r)) := by
  subst h3
  exact AOp.append ho hd hx hrow hes hE hw hy hp h2 hT hz hb hlen
theorem AOp.callPE {f : FuncId} {fn : Func} {xs : List Operand} {ts : Array TypeId} {ps qs : List PV} {res : PV} {pre st' S : Sto} (fb fr : List Nat) (ho : o.op = .call { callee := .value (.func f), args := ⟨xs⟩, argTypes := ts }) (hd : dstOk o.dst n = true) (hf : P.funcs[f]? = some fn) (hnm : (fn.name == "runtime.NumGoroutine") = false) (hb : fn.body.isNone = false)
    (hx : xs.map s.ev = ps.map some) (hS : s.st = S) (hp : Part0 S pre fb fr) (hle : LeL ps (renL fb fr qs)) (hok : okInL pre qs = true) (hbl : st'.boxes.length = pre.boxes.length) (hrl : st'.rows.length = pre.rows.length) (hc : ACalls P f qs pre (fun r t => r = res ∧ t = st')) :
    AOp P C n o s ((⟨s.env, S.over st' fb fr⟩ : AS).putO o.dst (PV.ren fb fr res)) := by
  subst hS
  exact AOp.callP fb fr ho hd hf hnm hb hx hp hle hok hbl hrl hc
end

end Go.Proofs.YtmpepccpnnldoaaGreat

namespace Go.Proofs.YtmpepccpnnldoaaGreat
set_option linter.unusedSimpArgs false
set_option linter.unusedVariables false
open Go.RowKit Go.WalkArith Go.IntWalk Go.WideShapes

theorem bool2 (b : Bool) : b = true ∨ b = false := by cases b <;> simp
section
variable {P : Program} {C : Ctx} {n : Nat} {s : AS} {o : Oper}
theorem box_lenN (k j : Nat) {bx : PBox} {p : PV} {sz N : Nat} {es : List (List Tr)} (hb : s.st.boxes[k]? = some (some bx)) (hx : bx.cells[j]? = some p) (hp : rowOf p = some (sz, es)) (hl : es.length = N) : ∀ m a w, RA C n s m a w → N ≤ 9223372036854775807 := by
  subst hl
  exact box_len k j hb hx hp
end
end Go.Proofs.YtmpepccpnnldoaaGreat

namespace Go.Proofs.YtmpepccpnnldoaaGreat
set_option linter.unusedSimpArgs false
set_option linter.unusedVariables false
open Go.RowKit Go.WalkArith Go.IntWalk Go.WideShapes

theorem ev_newBox {st : Sto} {m : Lay} {w w' : World} {x : PBox} {b : Nat} (hx : Ext w w') (hb : w.heap.size ≤ b) : Ev st m w (st.addBox x) ⟨upd m.ρ st.boxes.length b, m.γ⟩ w' := by
  refine ⟨hx.os, hx.tape, hx.output, hx.size, fun b hb _ _ => hx.block b hb, fun b o hb _ => heap_other_cell (hx.block b hb), fun c o hc h => ⟨fun k y hk => ?_, h.2⟩, fun k y hk => ⟨⟨y, ?_⟩, ?_⟩, fun k y hk => ?_, fun _ row h => ⟨row, h, rfl, Nat.le_refl _, fun _ => rfl, fun h => ⟨h, rfl⟩⟩, fun _ row _ c h h' => .inl ⟨row, c, h, h'⟩⟩
  · rcases addBox_live hk with ⟨h1, h2⟩ | ⟨rfl, rfl⟩
    · simp only [upd_ne (show k ≠ st.boxes.length by omega)]
      exact h.1 k y h2
    · simp only [upd_same]
      omega
  · show (st.boxes ++ [some x])[k]? = _
    rw [List.getElem?_append_left (get_lt hk)]; exact hk
  · exact upd_ne (by have := get_lt hk; omega)
  · rcases addBox_live hk with ⟨h1, h2⟩ | ⟨rfl, rfl⟩
    · exact .inl ⟨y, h2⟩
    · exact .inr (by simpa [upd_same] using hb)
theorem sto_newBox {av : Nat → Nat → Prop} {st : Sto} {m : Lay} {w w' : World} {x : PBox} {b : Nat} {vs : List Value} (h : StoOk av st m w) (hx : Ext w w') (hb : w.heap.size ≤ b) (ho : OBp w' b x.ty vs)
    (hc : RVL (okA av (st.addBox x) ⟨upd m.ρ st.boxes.length b, m.γ⟩) (st.addBox x) ⟨upd m.ρ st.boxes.length b, m.γ⟩ w' x.cells vs) : StoOk av (st.addBox x) ⟨upd m.ρ st.boxes.length b, m.γ⟩ w' := by
  have he : Ev st m w (st.addBox x) ⟨upd m.ρ st.boxes.length b, m.γ⟩ w' := ev_newBox hx hb
  have hw := fun k y (hk : st.boxes[k]? = some (some y)) => h.box_lt hk
  refine ⟨fun k y hk => ?_, fun k k' y y' hk hk' hne => ?_, fun r row hr => ?_, h.rinj, fun k y r row g c hk hr hg => ?_, fun b o hb => Nat.lt_of_lt_of_le (h.avlt b o hb) hx.size, h.avr, fun k y hk o ha => ?_⟩
  · rcases addBox_live hk with ⟨h1, h2⟩ | ⟨rfl, rfl⟩
    · obtain ⟨us, k1, k2⟩ := h.box k y h2
      simp only [upd_ne (show k ≠ st.boxes.length by omega)]
      exact ⟨us, k1.ext hx, RVL.mono he _ _ k2⟩
    · simp only [upd_same]
      exact ⟨vs, ho, hc⟩
  · rcases addBox_live hk with ⟨h1, h2⟩ | ⟨rfl, rfl⟩ <;> rcases addBox_live hk' with ⟨h1', h2'⟩ | ⟨rfl, rfl⟩
    · simp only [upd_ne (show k ≠ st.boxes.length by omega), upd_ne (show k' ≠ st.boxes.length by omega)]
      exact h.binj k k' y y' h2 h2' hne
    · simp only [upd_ne (show k ≠ st.boxes.length by omega), upd_same]
      have := hw k y h2
      omega
    · simp only [upd_ne (show k' ≠ st.boxes.length by omega), upd_same]
      have := hw k' y' h2'
      omega
    · exact absurd rfl hne
  · obtain ⟨k1, k2, k3⟩ := h.row r row hr
    refine ⟨k1, k2, ?_⟩
    rcases k3 with k3 | ⟨g, c, cur, q1, q2, q3, q4, q5, q6⟩
    · exact .inl k3
    · exact .inr ⟨g, c, cur, q1, q2.ext hx, q3, q4, q5, RV.mono he (.t _) _ q6⟩
  · rcases addBox_live hk with ⟨h1, h2⟩ | ⟨rfl, rfl⟩
    · simp only [upd_ne (show k ≠ st.boxes.length by omega)]
      exact h.br k y r row g c h2 hr hg
    · simp only [upd_same]
      have := h.row_lt hr hg
      omega
  · rcases addBox_live hk with ⟨h1, h2⟩ | ⟨rfl, rfl⟩
    · simp only [upd_ne (show k ≠ st.boxes.length by omega)] at ha
      exact h.avb k y h2 o ha
    · simp only [upd_same] at ha
      have := h.avlt _ _ ha
      omega

/-- The function is handed data, and returns a pointer to a box of its own making, of type T, that holds cs. -/
def ANew (P : Program) (f : FuncId) (args : List PV) (T : TypeId) (cs : List PV) : Prop := ACalls P f args ⟨[], []⟩ (fun r st' => ∃ k, r = .ptr k 0 ∧ st'.rows = [] ∧ (∀ i x, st'.boxes[i]? = some (some x) → i = k) ∧ st'.boxes[k]? = some (some ⟨T, cs⟩))

section
variable {P : Program} {C : Ctx} {n : Nat} {s : AS} {o : Oper}
theorem AOp.callNew {f : FuncId} {fn : Func} {xs : List Operand} {ts : Array TypeId} {ps qs cs : List PV} {T : TypeId} (ho : o.op = .call { callee := .value (.func f), args := ⟨xs⟩, argTypes := ts }) (hd : dstOk o.dst n = true) (hf : P.funcs[f]? = some fn) (hnm : (fn.name == "runtime.NumGoroutine") = false) (hb : fn.body.isNone = false)
    (hx : xs.map s.ev = ps.map some) (hle : LeL ps qs) (hfr : freeL qs = true) (hfr' : freeL cs = true) (hc : ANew P f qs T cs) : AOp P C n o s ((⟨s.env, s.st.addBox ⟨T, cs⟩⟩ : AS).putO o.dst (.ptr s.st.boxes.length 0)) := fun m a w h K Q hK => by
  have h2 := evL h hx
  have h1 : (execOp a.eval o).run P w = .ok (.enter f ⟨xs.map a.eval⟩) w := by
    have hcf := run_callFunc_body (P := P) hf hnm hb
    unfold execOp
    simp only [ho]
    simp [resolve, invoke, Deferred.ofValue, Act.eval, hcf]
  unfold Oper.wp
  rw [h1]
  have h3 := hc (shut C s m w) m w _ (StoOk.nil fun b o hb => hb.1) (freeL.rv (fun b o hb hk => ⟨fun hs => hs.2 hk, fun _ _ h => by simp at h, fun _ _ _ _ h => by simp at h⟩) _ _ hfr (LeL.rv hle h2))
  refine Calls.mono h3 fun e w' => ?_; rintro ⟨r, st', m', v, rfl, ⟨k, rfl, hrows, honly, hbox⟩, h4, h5, h6⟩
  have hx : Ext w w' := ⟨h5.os, h5.tape, h5.output, h5.size, fun b hb => h5.blk b hb (fun _ _ h => by simp at h) (fun _ _ _ _ h => by simp at h)⟩
  have hfresh : w.heap.size ≤ m'.ρ k := by
    rcases h5.fresh k _ hbox with ⟨x, hx0⟩ | hf
    · simp at hx0
    · exact hf
  obtain ⟨vs, hob, hcs⟩ := h4.box k _ hbox
  have hk : ∀ b o, b < w'.heap.size → okA (shut C s m w) st' m' b o → okA C.av (s.st.addBox ⟨T, cs⟩) ⟨upd m.ρ s.st.boxes.length (m'.ρ k), m.γ⟩ b o := fun b o hb hk => by
    have hnew : m'.ρ k ≠ b := hk.2.1 k _ hbox
    have h0 : okA C.av s.st m b o := by
      rcases Nat.lt_or_ge b w.heap.size with hlt | hge
      · exact Classical.byContradiction fun hn => hk.1 ⟨hlt, hn⟩
      · exact okA_new h.sto hge o
    refine ⟨h0.1, fun i y hi => ?_, h0.2.2⟩
    rcases addBox_live hi with ⟨q1, q2⟩ | ⟨rfl, rfl⟩
    · simp only [upd_ne (show i ≠ s.st.boxes.length by omega)]
      exact h0.2.1 i y q2
    · simp only [upd_same]
      exact hnew
  have hE : Ev s.st m w (s.st.addBox ⟨T, cs⟩) ⟨upd m.ρ s.st.boxes.length (m'.ρ k), m.γ⟩ w' := ev_newBox hx hfresh
  have hS : StoOk C.av (s.st.addBox ⟨T, cs⟩) ⟨upd m.ρ s.st.boxes.length (m'.ρ k), m.γ⟩ w' := sto_newBox h.sto hx hfresh hob (freeL.rv hk _ _ hfr' hcs)
  have hv : v = .pointer (some ⟨m'.ρ k, 0, none⟩) := h6.2
  exact hK _ _ w' ((h.step hE hS).put (dstOk_lt hd) ⟨⟨⟨T, cs⟩, by simp [Sto.addBox]⟩, by simp [upd_same, hv]⟩)
end
end Go.Proofs.YtmpepccpnnldoaaGreat

namespace Go.Proofs.YtmpepccpnnldoaaGreat
set_option linter.unusedSimpArgs false
set_option linter.unusedVariables false
open Go.RowKit Go.WalkArith Go.IntWalk Go.WideShapes

def iAnd (x y : Int) : Int := IntKind.wrap .i64 ((BitVec.ofInt 64 x &&& BitVec.ofInt 64 y).toNat : Int)
def iXor (x y : Int) : Int := IntKind.wrap .i64 ((BitVec.ofInt 64 x ^^^ BitVec.ofInt 64 y).toNat : Int)
def iShr (x y : Int) : Int := x.fdiv (2 ^ (min y.toNat 64))
def wrap64 (x : Int) : Int := IntKind.wrap .i64 x

section
variable {P : Program} {C : Ctx} {n : Nat} {s : AS} {o : Oper}
/-- A constant of which nothing is said. -/
theorem AOp.moveAny {v : Value} (ho : o.op = .assign (.const v) ∨ o.op = .move (.const v)) : AOp P C n o s (s.delO o.dst) := fun m a w h K Q hK => by
  have h1 : (execOp a.eval o).run P w = .ok (.value v) w := by
    unfold execOp
    rcases ho with ho | ho <;> simp [ho, Act.eval]
  unfold Oper.wp
  rw [h1]
  exact hK m _ w (h.del o.dst v)
theorem AOp.andI {T yT : TypeId} {x y : Operand} {a b : Int} (ho : o.op = .binOp .and T x y yT) (hd : dstOk o.dst n = true) (hx : s.ev x = some (.t (.leaf (.int .i64 a)))) (hy : s.ev y = some (.t (.leaf (.int .i64 b)))) :
    AOp P C n o s (s.putO o.dst (.t (.leaf (.int .i64 (iAnd a b))))) := AOp.bin ho hd hx hy (fun w => by rfl) (wf_wrap .i64 _)
theorem AOp.xorI {T yT : TypeId} {x y : Operand} {a b : Int} (ho : o.op = .binOp .xor T x y yT) (hd : dstOk o.dst n = true) (hx : s.ev x = some (.t (.leaf (.int .i64 a)))) (hy : s.ev y = some (.t (.leaf (.int .i64 b)))) :
    AOp P C n o s (s.putO o.dst (.t (.leaf (.int .i64 (iXor a b))))) := AOp.bin ho hd hx hy (fun w => by rfl) (wf_wrap .i64 _)
theorem AOp.shrI {T yT : TypeId} {x y : Operand} {a b : Int} {k : IntKind} (ho : o.op = .binOp .shr T x y yT) (hd : dstOk o.dst n = true) (hx : s.ev x = some (.t (.leaf (.int .i64 a)))) (hy : s.ev y = some (.t (.leaf (.int k b)))) (hb : 0 ≤ b) (h1 : -9223372036854775808 ≤ iShr a b) (h2 : iShr a b ≤ 9223372036854775807) :
    AOp P C n o s (s.putO o.dst (.t (.leaf (.int .i64 (iShr a b))))) := AOp.bin ho hd hx hy (fun w => by
      have : ¬ b < 0 := by omega
      simp [eqGuard, binOp, Op.shift, iShr, IntKind.bits, this]) (wf_i64 (by omega))
theorem AOp.remN {T yT : TypeId} {x y : Operand} {a b : Nat} (ho : o.op = .binOp .rem T x y yT) (hd : dstOk o.dst n = true) (hx : s.ev x = some (.t (.leaf (.int .i64 (a : Int))))) (hy : s.ev y = some (.t (.leaf (.int .i64 (b : Int))))) (hb : 0 < b) (ha : a ≤ 9223372036854775807) :
    AOp P C n o s (s.putO o.dst (.t (.leaf (.int .i64 ((a % b : Nat) : Int))))) := AOp.bin ho hd hx hy (fun w => by
      have : ¬ (b : Int) = 0 := by omega
      have : ¬ b = 0 := by omega
      simp [eqGuard, binOp, Op.intDiv, this, Int.tmod_eq_emod_of_nonneg]) (wf_i64 (by have := Nat.mod_le a b; omega))
theorem AOp.convI {S T : TypeId} {x : Operand} {k : IntKind} {a : Int} (ho : o.op = .convert S T x) (hd : dstOk o.dst n = true) (hx : s.ev x = some (.t (.leaf (.int k a)))) (hS : ∃ k', P.underlying S = some (.int k')) (hT : P.underlying T = some (.int .i64)) (h1 : -9223372036854775808 ≤ a) (h2 : a ≤ 9223372036854775807) :
    AOp P C n o s (s.putO o.dst (.t (.leaf (.int .i64 a)))) :=
  AOp.quiet (dstOk_lt hd) fun m ac w h => ⟨.int .i64 a, by
    have h3 := (RepM.leaf_eq (h.eval hx)).1
    obtain ⟨k', hS⟩ := hS
    have hw : IntKind.wrap .i64 a = a := by unfold IntKind.wrap; simp [IntKind.bits, IntKind.signed]; omega
    unfold execOp
    simp [ho, h3, convert, run_underlying hS, run_underlying hT, Conv.intToInt, hw], RepM.leaf (wf_i64 (by omega))⟩
end
end Go.Proofs.YtmpepccpnnldoaaGreat

namespace Go.Proofs.YtmpepccpnnldoaaGreat
open Go.RowKit Go.Proofs
set_option linter.unusedSimpArgs false
set_option linter.unusedVariables false


def byteTrs (l : List UInt8) : List (List Tr) := l.map fun b => [.leaf (.int .u8 (b.toNat : Int))]
theorem byteTrs_len (l : List UInt8) : (byteTrs l).length = l.length := by simp [byteTrs]
theorem byteTrs_cs {l : List UInt8} {k : Nat} (h : k < l.length) : (byteTrs l)[k]? = some [.leaf (.int .u8 ((l[k]).toNat : Int))] := by simp [byteTrs, h]
/-- The state of the source: the bytes, the place, the number. -/
structure DS where
  code : List UInt8
  p : Nat
  h : Int
def DS.cells (d : DS) : List PV := [.t (.row 1 (byteTrs d.code)), .t (.leaf (.int .i64 (d.p : Int))), .t (.leaf (.int .i64 d.h))]
abbrev DS.box (T : TypeId) (d : DS) : Sto := ⟨[some ⟨T, d.cells⟩], []⟩
def nextH (h : Int) : Int := wrap64 (wrap64 (h * 6364136223846793005) + 1442695040888963407)
theorem wrap64_in (x : Int) : -9223372036854775808 ≤ wrap64 x ∧ wrap64 x ≤ 9223372036854775807 := by
  unfold wrap64 IntKind.wrap
  simp [IntKind.bits, IntKind.signed]
  omega
theorem iShr_in {x y : Int} (h : -9223372036854775808 ≤ x ∧ x ≤ 9223372036854775807) : -9223372036854775808 ≤ iShr x y ∧ iShr x y ≤ 9223372036854775807 := by
  unfold iShr
  generalize min y.toNat 64 = k
  have hp : (1 : Int) ≤ 2 ^ k := by
    have := Nat.one_le_two_pow (n := k)
    exact_mod_cast this
  generalize (2 : Int) ^ k = d at hp
  rw [Int.fdiv_eq_ediv_of_nonneg _ (by omega)]
  have h1 : x / d ≤ 9223372036854775807 := by
    have : x / d ≤ 9223372036854775807 / d := Int.ediv_le_ediv (by omega) h.2
    have : (9223372036854775807 : Int) / d ≤ 9223372036854775807 := Int.ediv_le_self _ (by omega)
    omega
  have h2 : -9223372036854775808 ≤ x / d := by
    rw [Int.le_ediv_iff_mul_le (by omega)]
    omega
  exact ⟨h2, h1⟩
def DS.byte (d : DS) : Int := let x := iAnd (iXor (iShr (nextH d.h) 33) (iShr (nextH d.h) 45)) 255; if h : d.p < d.code.length then iAnd (wrap64 (x + (d.code[d.p].toNat : Int))) 255 else x
def DS.next (d : DS) : DS := ⟨d.code, if d.p < d.code.length then d.p + 1 else d.p, nextH d.h⟩
theorem iAnd_255 (x : Int) : 0 ≤ iAnd x 255 ∧ iAnd x 255 ≤ 255 := by
  unfold iAnd
  have h : (BitVec.ofInt 64 x &&& BitVec.ofInt 64 255).toNat ≤ 255 := by
    rw [BitVec.toNat_and]
    exact Nat.le_trans Nat.and_le_right (by decide)
  generalize (BitVec.ofInt 64 x &&& BitVec.ofInt 64 255).toNat = k at h
  unfold IntKind.wrap
  simp [IntKind.bits, IntKind.signed]
  omega
theorem DS.byte_in (d : DS) : 0 ≤ d.byte ∧ d.byte ≤ 255 := by
  unfold DS.byte
  split
  · exact iAnd_255 _
  · exact iAnd_255 _
def DS.byteN (d : DS) : Nat := d.byte.toNat
theorem DS.byteN_le (d : DS) : d.byteN ≤ 255 := by have := d.byte_in; unfold DS.byteN; omega
theorem DS.byteN_eq (d : DS) : ((d.byteN : Nat) : Int) = d.byte := by have := d.byte_in; unfold DS.byteN; omega
def DS.below (d : DS) (n : Nat) : Nat := if n = 0 then 0 else if n ≤ 256 then d.byteN % n else (d.byteN * 16777216 + d.next.byteN * 65536 + d.next.next.byteN * 256 + d.next.next.next.byteN) % n
def DS.after (d : DS) (n : Nat) : DS := if n = 0 then d else if n ≤ 256 then d.next else d.next.next.next.next
theorem DS.below_lt (d : DS) {n : Nat} (h : 0 < n) : d.below n < n := by
  unfold DS.below
  rw [if_neg (by omega)]
  split
  · exact Nat.mod_lt _ h
  · exact Nat.mod_lt _ h
def DS.pick (d : DS) (l : List ByteArray) : ByteArray := (l[d.below l.length]?).getD ⟨#[]⟩
theorem DS.pick_eq {d : DS} {l : List ByteArray} (h : d.below l.length < l.length) : d.pick l = l[d.below l.length] := by simp [DS.pick, h]
def newStep (h : Int) (b : UInt8) : Int := iAnd (wrap64 (wrap64 (wrap64 (h * 131) + (b.toNat : Int)) + 7)) 1073741823
def newH (code : List UInt8) : Int := (code.take 4000).foldl newStep (28803 + (code.length : Int))
def DS.start (code : List UInt8) : DS := ⟨code, 0, newH code⟩
theorem newH_next {code : List UInt8} {i : Nat} {h h' r : Int} (h1 : i < code.length) (h2 : i < 4000) (hr : r = ((code.take 4000).drop i).foldl newStep h) (hs : newStep h code[i] = h') : r = ((code.take 4000).drop (i + 1)).foldl newStep h' := by
  have hl : i < (code.take 4000).length := by simp; omega
  rw [hr, List.drop_eq_getElem_cons hl, List.foldl_cons, List.getElem_take, hs]
theorem newH_end {code : List UInt8} {i : Nat} {h r : Int} (h1 : code.length ≤ i ∨ 4000 ≤ i) (hr : r = ((code.take 4000).drop i).foldl newStep h) : r = h := by
  rw [hr, List.drop_of_length_le (by simp; omega), List.foldl_nil]
theorem keeps_box {C : Ctx} {x : PBox} {S : Sto} (h : C.st = ⟨[some x], []⟩) (hs : ∃ y, S.boxes[0]? = some (some y)) : Keeps0 C.st S := by
  rw [h]
  exact ⟨fun k z hz => by
    rcases k with _ | k
    · exact hs
    · simp at hz, fun r row hr => by simp at hr⟩

end Go.Proofs.YtmpepccpnnldoaaGreat

namespace Go.Proofs.YtmpepccpnnldoaaGreat
set_option linter.unusedSimpArgs false
set_option linter.unusedVariables false
open Go.RowKit Go.WalkArith Go.IntWalk Go.WideShapes

def rowRes (sz : Nat) (es : List (List Tr)) : Option (List PV) → Nat → PV
  | none, k => .acc sz es k
  | some ps, k => .tup (.acc sz es k :: ps)
/-- The function is handed data, and returns a slice of its own making (and data beside it). -/
def ARow (P : Program) (f : FuncId) (args : List PV) (E : TypeId) (sz : Nat) (es : List (List Tr)) (ps : Option (List PV)) : Prop :=
  ACalls P f args ⟨[], []⟩ (fun r st' => ∃ k, r = rowRes sz es ps k ∧ st'.rows[k]? = some ⟨E, sz, es, false⟩)

section
variable {P : Program} {C : Ctx} {n : Nat} {s : AS} {o : Oper}
end

theorem Own.ofAcc {av : Nat → Nat → Prop} {st : Sto} {m : Lay} {w : World} {k E sz : Nat} {es : List (List Tr)} {v : Value} {S : Nat → Prop} (hst : StoOk av st m w) (hrow : st.rows[k]? = some ⟨E, sz, es, false⟩) (hv : RV (okA av st m) st m w (.acc sz es k) v)
    (hS : ∀ g c, m.γ k = some (g, c) → g < w.heap.size → S g) (hfl : ∀ e ∈ es, ∀ d ∈ e, ∃ u, d = .leaf u) : Own w (.row sz es) v S := by
  obtain ⟨q1, q2, q3⟩ := hst.row k _ hrow
  obtain ⟨row, hr, -, hle, hrep, heq⟩ := hv
  rw [hrow] at hr
  obtain rfl := Option.some.inj hr
  have hv := heq rfl
  rcases q3 with ⟨a, b⟩ | ⟨g, c, cur, r1, r2, r3, r4, r5, r6⟩
  · rw [a] at hv
    have b : es = [] := b
    subst b
    subst hv
    exact Own.row (es := []) (fun _ _ => undef) (fun _ _ _ => False) (by simp) (by unfold maxLen; omega) (by simp) (by simp) (by simp) (by simp)
  · rw [r1] at hv
    subst hv
    have r6 : RepM (okA av st m) w (.row sz es) (.slice (some ⟨g, 0, none⟩) es.length c) := r6
    show Own w (.row sz es) (.slice (some ⟨g, 0, none⟩) es.length c) S
    cases r6 with
    | row cc h1 h2 h3 h4 =>
      refine .row cc (fun _ _ _ => False) h1 h2 (fun hne => ?_) (fun i e he j d hd => ?_) (fun _ _ _ _ _ _ x hx => hx.elim) (fun _ _ _ _ _ _ _ _ _ _ _ _ _ x hx => hx.elim)
      · obtain ⟨b, off, ha, hb, hc⟩ := h3 hne
        obtain ⟨rfl, rfl⟩ : g = b ∧ 0 = off := by simpa using ha
        exact ⟨g, 0, E, cur, rfl, r2, hS g c r1 hb, fun i e he j d hd => ⟨by rw [← r2.cell]; exact (hc i e he j d hd).2, fun x hx => hx.elim⟩⟩
      · obtain ⟨u, rfl⟩ := hfl e (List.mem_of_getElem? he) d (List.mem_of_getElem? hd)
        have h7 := (h4 i e he j _ hd).rep.leaf_eq
        rw [h7.1]
        exact .leaf h7.2
theorem ARow.own {P : Program} {f : FuncId} {args : List PV} {E sz : Nat} {es : List (List Tr)} (h : ARow P f args E sz es none) (hfl : ∀ e ∈ es, ∀ d ∈ e, ∃ u, d = .leaf u) {w : World} {vals : List Value} (hv : RVL0 w args vals) :
    Calls P f ⟨vals⟩ w fun e w' => ∃ v, e = .returned v ∧ Ext w w' ∧ Own w' (.row sz es) v (Between w w') :=
  (h av0 lay0 w vals (sto0 w) hv).mono fun e w' => by
    rintro ⟨res, st', m', v, rfl, ⟨k, rfl, hrow⟩, hst, he, hr⟩
    exact ⟨v, rfl, he.ext, Own.ofAcc hst hrow hr (fun g c hg hlt => by
      rcases he.rfresh k _ g c hrow hg with ⟨row, c0, h0, _⟩ | hf
      · simp at h0
      · exact ⟨hf, hlt⟩) hfl⟩
end Go.Proofs.YtmpepccpnnldoaaGreat

namespace Go.Proofs.YtmpepccpnnldoaaGreat
set_option linter.unusedSimpArgs false
set_option linter.unusedVariables false
open Go.RowKit Go.WalkArith Go.IntWalk Go.WideShapes

mutual
/-- The value, the one slice of ours in it told by another number. -/
inductive Mv (sz : Nat) (es : List (List Tr)) (k k' : Nat) : PV → PV → Prop
  | acc : Mv sz es k k' (.acc sz es k) (.acc sz es k')
  | free (p : PV) : PV.free p = true → Mv sz es k k' p p
  | agg {ps qs : List PV} : MvL sz es k k' ps qs → Mv sz es k k' (.agg ps) (.agg qs)
  | tup {ps qs : List PV} : MvL sz es k k' ps qs → Mv sz es k k' (.tup ps) (.tup qs)
inductive MvL (sz : Nat) (es : List (List Tr)) (k k' : Nat) : List PV → List PV → Prop
  | nil : MvL sz es k k' [] []
  | cons {p q : PV} {ps qs : List PV} : Mv sz es k k' p q → MvL sz es k k' ps qs → MvL sz es k k' (p :: ps) (q :: qs)
end
section
variable {ok ok' : Nat → Nat → Prop} {st st' : Sto} {m m' : Lay} {w : World} {sz k k' : Nat} {es : List (List Tr)}
mutual
theorem Mv.rv (hk : ∀ b o, b < w.heap.size → ok b o → ok' b o) (hrow : ∀ row, st.rows[k]? = some row → st'.rows[k']? = some row ∧ m'.γ k' = m.γ k) : ∀ {p q : PV} {v : Value}, Mv sz es k k' p q → RV ok st m w p v → RV ok' st' m' w q v
  | _, _, _, .acc, h => by
    obtain ⟨row, h1, h2, h3, h4, h5⟩ := h
    obtain ⟨k1, k2⟩ := hrow row h1
    exact ⟨row, k1, h2, h3, RepM.mono h4 (Nat.le_refl _) hk (fun _ _ _ _ => rfl), fun e => by rw [k2]; exact h5 e⟩
  | _, _, _, .free p hf, h => PV.free.rv hk p _ hf h
  | _, _, _, .agg hl, h => by
    obtain ⟨vs, hv, h1⟩ := h
    exact ⟨vs, hv, MvL.rv hk hrow hl h1⟩
  | _, _, _, .tup hl, h => by
    obtain ⟨vs, hv, h1⟩ := h
    exact ⟨vs, hv, MvL.rv hk hrow hl h1⟩
theorem MvL.rv (hk : ∀ b o, b < w.heap.size → ok b o → ok' b o) (hrow : ∀ row, st.rows[k]? = some row → st'.rows[k']? = some row ∧ m'.γ k' = m.γ k) : ∀ {ps qs : List PV} {vs : List Value}, MvL sz es k k' ps qs → RVL ok st m w ps vs → RVL ok' st' m' w qs vs
  | _, _, [], .nil, h => h
  | _, _, _ :: _, .nil, h => h.elim
  | _, _, [], .cons _ _, h => h.elim
  | _, _, _ :: _, .cons h1 h2, h => ⟨Mv.rv hk hrow h1 h.1, MvL.rv hk hrow h2 h.2⟩
end
end
mutual
theorem PV.free.ren {fb fr : List Nat} : ∀ (p : PV), PV.free p = true → PV.ren fb fr p = p
  | .t _, _ => rfl
  | .agg cs, h => by rw [PV.ren, freeL.ren cs h]
  | .tup cs, h => by rw [PV.ren, freeL.ren cs h]
  | .nil, _ => rfl
  | .eptr _, _ => rfl
  | .fn f cs, h => by rw [PV.ren, freeL.ren cs h]
  | .acc _ _ _, h => by cases h
  | .ptr _ _, h => by cases h
  | .full _ _ _, h => by cases h
  | .rptr _ _, h => by cases h
  | .lit _ _, h => by cases h
  | .bsl _ _, h => by cases h
  | .gsl _ _, h => by cases h
theorem freeL.ren {fb fr : List Nat} : ∀ (ps : List PV), freeL ps = true → renL fb fr ps = ps
  | [], _ => rfl
  | p :: ps, h => by
    simp only [freeL, Bool.and_eq_true] at h
    rw [renL, PV.free.ren p h.1, freeL.ren ps h.2]
end

section
variable {av : Nat → Nat → Prop} {s pre st' : Sto} {m m' : Lay} {fb : List Nat} {w w' : World} {k : Nat} {row : PRow}
theorem over_own (h : Part0 s pre fb []) (hpr : pre.rows = []) (hs : StoOk av s m w) (hst : StoOk (shutP av s pre m fb [] w) st' m' w') (he : Ev pre (m.via fb []) w st' m' w') (hbl : st'.boxes.length = pre.boxes.length)
    (hfree : ∀ (j : Nat) (x : PBox), st'.boxes[j]? = some (some x) → freeL x.cells = true) (hrow : st'.rows[k]? = some row) :
    Ev s m w ⟨(s.over ⟨st'.boxes, []⟩ fb []).boxes, s.rows ++ [row]⟩ ⟨m.ρ, upd m.γ s.rows.length (m'.γ k)⟩ w' ∧ StoOk av ⟨(s.over ⟨st'.boxes, []⟩ fb []).boxes, s.rows ++ [row]⟩ ⟨m.ρ, upd m.γ s.rows.length (m'.γ k)⟩ w' ∧
    (∀ b o, b < w'.heap.size → okA (shutP av s pre m fb [] w) st' m' b o → okA av ⟨(s.over ⟨st'.boxes, []⟩ fb []).boxes, s.rows ++ [row]⟩ ⟨m.ρ, upd m.γ s.rows.length (m'.γ k)⟩ b o) := by
  have pb : ∀ (i j : Nat), fb[j]? = some i → ∃ (x y : PBox), pre.boxes[j]? = some (some x) ∧ s.boxes[i]? = some (some y) ∧ fb.getD j 0 = i ∧ m'.ρ j = m.ρ i ∧ ∃ x' : PBox, st'.boxes[j]? = some (some x') := fun i j hj => by
    obtain ⟨x, hx⟩ := h.all j (by rw [← h.fbl]; exact get_lt hj)
    obtain ⟨y, hy, -⟩ := h.box j x hx
    have e : fb.getD j 0 = i := by simp [List.getD_eq_getElem?_getD, hj]
    rw [e] at hy
    obtain ⟨h1, h2⟩ := he.live j x hx
    exact ⟨x, y, hx, hy, e, by rw [h2]; show m.ρ (fb.getD j 0) = _; rw [e], h1⟩
  have ob : ∀ (i : Nat) (z : PBox), (s.over ⟨st'.boxes, []⟩ fb []).boxes[i]? = some (some z) → (∃ (j : Nat) (x : PBox), fb[j]? = some i ∧ st'.boxes[j]? = some (some x) ∧ z = x.ren fb [] ∧ i < s.boxes.length) ∨ (idx? fb i = none ∧ s.boxes[i]? = some (some z)) := fun i z hi => over_box (st' := ⟨st'.boxes, []⟩) hi
  have lv : ∀ (i : Nat) (z : PBox), (s.over ⟨st'.boxes, []⟩ fb []).boxes[i]? = some (some z) → ∃ y : PBox, s.boxes[i]? = some (some y) := fun i z hi => by
    rcases ob i z hi with ⟨j, x, h1, -⟩ | ⟨-, h2⟩
    · obtain ⟨-, y, -, hy, -⟩ := pb i j h1
      exact ⟨y, hy⟩
    · exact ⟨z, h2⟩
  have hfresh : ∀ g c, m'.γ k = some (g, c) → w.heap.size ≤ g := fun g c hg => by
    rcases he.rfresh k row g c hrow hg with ⟨row0, c0, hr, -⟩ | hf
    · rw [hpr] at hr; simp at hr
    · exact hf
  have rk : ∀ (i : Nat) (z : PRow) (g c : Nat), (s.rows ++ [row])[i]? = some z → upd m.γ s.rows.length (m'.γ k) i = some (g, c) → (s.rows[i]? = some z ∧ m.γ i = some (g, c)) ∨ (i = s.rows.length ∧ z = row ∧ m'.γ k = some (g, c)) := fun i z g c hi hg => by
    rcases getElem?_snoc hi with ⟨h1, h2⟩ | ⟨rfl, rfl⟩
    · rw [upd_ne (show i ≠ s.rows.length by omega)] at hg
      exact .inl ⟨h2, hg⟩
    · simp only [upd_same] at hg
      exact .inr ⟨rfl, rfl, hg⟩
  have okk : ∀ b o, b < w.heap.size → s.ok m b o → Sto.ok ⟨(s.over ⟨st'.boxes, []⟩ fb []).boxes, s.rows ++ [row]⟩ ⟨m.ρ, upd m.γ s.rows.length (m'.γ k)⟩ b o := fun b o hb hk => by
    refine ⟨fun i z hi => ?_, fun i z g c hi hg e => ?_⟩
    · obtain ⟨y, hy⟩ := lv i z hi
      exact hk.1 i y hy
    · rcases rk i z g c hi hg with ⟨h1, h2⟩ | ⟨-, -, h3⟩
      · exact hk.2 i z g c h1 h2 e
      · have := hfresh g c h3; omega
  have ev : Ev s m w ⟨(s.over ⟨st'.boxes, []⟩ fb []).boxes, s.rows ++ [row]⟩ ⟨m.ρ, upd m.γ s.rows.length (m'.γ k)⟩ w' := by
    refine ⟨he.os, he.tape, he.output, he.size, fun b hb h1 h2 => he.blk b hb (fun i x hi => ?_) (fun r row0 g c hr _ => ?_), fun b o hb hk => he.cell b o hb (h.ok (av := fun _ _ => False) (w := w) ⟨id, hk⟩).2, okk, fun i y hi => ⟨?_, rfl⟩, fun i z hi => .inl (lv i z hi), fun i row0 hi => ⟨row0, ?_, rfl, Nat.le_refl _, fun _ => ?_, fun hw => ⟨hw, ?_⟩⟩, fun i z g c hi hg => ?_⟩
    · obtain ⟨y, hy, -⟩ := h.box i x hi
      exact h1 _ y hy
    · rw [hpr] at hr; simp at hr
    · cases hq : idx? fb i with
      | none => exact ⟨y, by unfold Sto.over; simp [List.getElem?_zipIdx, hi, hq]⟩
      | some j =>
        obtain ⟨-, -, -, -, -, -, x', hx'⟩ := pb i j (idx?_some hq)
        exact ⟨x'.ren fb [], by unfold Sto.over; simp [List.getElem?_zipIdx, hi, hq, List.getD_eq_getElem?_getD, hx']⟩
    · show (s.rows ++ [row])[i]? = _
      rw [List.getElem?_append_left (get_lt hi)]; exact hi
    · exact upd_ne (by have := get_lt hi; omega)
    · exact upd_ne (by have := get_lt hi; omega)
    · rcases rk i z g c hi hg with ⟨h1, h2⟩ | ⟨-, -, h3⟩
      · exact .inl ⟨z, c, h1, h2⟩
      · exact .inr (hfresh g c h3)
  have back : ∀ b o, b < w'.heap.size → okA (shutP av s pre m fb [] w) st' m' b o → okA av ⟨(s.over ⟨st'.boxes, []⟩ fb []).boxes, s.rows ++ [row]⟩ ⟨m.ρ, upd m.γ s.rows.length (m'.γ k)⟩ b o := fun b o _ hk => by
    rcases Nat.lt_or_ge b w.heap.size with hlt | hge
    · by_cases hA : okA av s m b o
      · exact ⟨hA.1, okk b o hlt hA.2⟩
      · by_cases hB : ∃ i x, pre.boxes[i]? = some (some x) ∧ m.ρ (fb.getD i 0) = b
        · obtain ⟨i, x, h1, h2⟩ := hB
          obtain ⟨⟨x', h3⟩, h4⟩ := he.live i x h1
          exact absurd (h4.trans h2) (hk.2.1 i x' h3)
        · exact absurd ⟨hlt, hA, fun i x h1 h2 => hB ⟨i, x, h1, h2⟩, fun r row0 g c h1 h2 h3 => by rw [hpr] at h1; simp at h1⟩ hk.1
    · refine ⟨fun ho => by have := hs.avlt _ _ ho; omega, fun i z hi => ?_, fun i z g c hi hg e => ?_⟩
      · obtain ⟨y, hy⟩ := lv i z hi
        have := hs.box_lt hy
        show m.ρ i ≠ b
        omega
      · rcases rk i z g c hi hg with ⟨h1, h2⟩ | ⟨-, rfl, h3⟩
        · have := hs.row_lt h1 h2
          omega
        · exact hk.2.2 k _ g c hrow h3 e
  refine ⟨ev, ⟨fun i z hi => ?_, fun i i' z z' hi hi' hne => ?_, fun i z hi => ?_, fun i i' z z' g c c' hi hi' hg hg' => ?_, fun i z r row0 g c hi hr hg => ?_, fun b o hb => Nat.lt_of_lt_of_le (hs.avlt b o hb) he.size, fun i z g c hi hg o ho => ?_, fun i z hi => by obtain ⟨y, hy⟩ := lv i z hi; exact hs.avb i y hy⟩, back⟩
  · rcases ob i z hi with ⟨j, x, h1, h2, rfl, -⟩ | ⟨h1, h2⟩
    · obtain ⟨-, -, -, -, -, h4, -⟩ := pb i j h1
      obtain ⟨vs, k1, k2⟩ := hst.box j x h2
      refine ⟨vs, ?_, ?_⟩
      · show OBp w' (m.ρ i) _ _
        rw [← h4]
        exact k1
      · show RVL _ _ _ _ (renL fb [] x.cells) vs
        rw [freeL.ren _ (hfree j x h2)]
        exact freeL.rv back _ _ (hfree j x h2) k2
    · obtain ⟨vs, k1, k2⟩ := hs.box i z h2
      refine ⟨vs, k1.keep (he.blk _ k1.lt (fun j x hj => ?_) (fun r row0 g c hr _ => ?_)), RVL.mono ev _ _ k2⟩
      · obtain ⟨y, hy, -⟩ := h.box j x hj
        have hj' := getD_get (l := fb) (k := j) (by rw [h.fbl]; exact get_lt hj)
        exact hs.binj _ _ y z hy h2 (fun e => idx?_none h1 j (by rw [hj', e]))
      · rw [hpr] at hr; simp at hr
  · obtain ⟨y, hy⟩ := lv i z hi
    obtain ⟨y', hy'⟩ := lv i' z' hi'
    exact hs.binj i i' y y' hy hy' hne
  · rcases getElem?_snoc hi with ⟨h1, h2⟩ | ⟨rfl, rfl⟩
    · obtain ⟨k1, k2, k3⟩ := hs.row i z h2
      refine ⟨k1, k2, ?_⟩
      simp only [upd_ne (show i ≠ s.rows.length by omega)]
      rcases k3 with k3 | ⟨g, c, cur, q1, q2, q3, q4, q5, q6⟩
      · exact .inl k3
      · refine .inr ⟨g, c, cur, q1, (he.blk g q2.lt (fun j x hj e => ?_) (fun r row0 g' c' hr _ => ?_)).trans q2, q3, q4, q5, RV.mono ev (.t _) _ q6⟩
        · obtain ⟨y, hy, -⟩ := h.box j x hj
          exact hs.br _ y i z g c hy h2 q1 e
        · rw [hpr] at hr; simp at hr
    · obtain ⟨k1, k2, k3⟩ := hst.row k _ hrow
      refine ⟨k1, k2, ?_⟩
      simp only [upd_same]
      rcases k3 with k3 | ⟨g, c, cur, q1, q2, q3, q4, q5, q6⟩
      · exact .inl k3
      · exact .inr ⟨g, c, cur, q1, q2, q3, q4, q5, RepM.mono q6 (Nat.le_refl _) back (fun _ _ _ _ => rfl)⟩
  · rcases rk i z g c hi hg with ⟨h1, h2⟩ | ⟨h1, -, h3⟩ <;> rcases rk i' z' g c' hi' hg' with ⟨h1', h2'⟩ | ⟨h1', -, h3'⟩
    · exact hs.rinj i i' z z' g c c' h1 h1' h2 h2'
    · have := hs.row_lt h1 h2
      have := hfresh g c' h3'
      omega
    · have := hs.row_lt h1' h2'
      have := hfresh g c h3
      omega
    · omega
  · obtain ⟨y, hy⟩ := lv i z hi
    rcases rk r row0 g c hr hg with ⟨h1, h2⟩ | ⟨-, -, h3⟩
    · exact hs.br i y r row0 g c hy h1 h2
    · have := hs.box_lt hy
      have := hfresh g c h3
      show m.ρ i ≠ g
      omega
  · rcases rk i z g c hi hg with ⟨h1, h2⟩ | ⟨-, -, h3⟩
    · exact hs.avr i z g c h1 h2 o ho
    · have := hs.avlt _ _ ho
      have := hfresh g c h3
      omega
end

def freeBoxes : List (Option PBox) → Bool
  | [] => true
  | none :: l => freeBoxes l
  | some x :: l => freeL x.cells && freeBoxes l
theorem freeBoxes.get : ∀ {l : List (Option PBox)} {j : Nat} {x : PBox}, freeBoxes l = true → l[j]? = some (some x) → freeL x.cells = true
  | [], _, _, _, h => by simp at h
  | none :: l, 0, _, _, h => by simp at h
  | none :: l, j + 1, x, hf, h => freeBoxes.get (l := l) (j := j) hf (by simpa using h)
  | some y :: l, 0, x, hf, h => by
    simp at h
    subst h
    simp only [freeBoxes, Bool.and_eq_true] at hf
    exact hf.1
  | some y :: l, j + 1, x, hf, h => by
    simp only [freeBoxes, Bool.and_eq_true] at hf
    exact freeBoxes.get (l := l) (j := j) hf.2 (by simpa using h)
/-- The function is handed data and boxes, and returns what holds one slice of its own making. -/
def AOwn (P : Program) (f : FuncId) (args : List PV) (pre : Sto) (B : List (Option PBox)) (E : TypeId) (sz : Nat) (es : List (List Tr)) (R : Nat → PV) : Prop :=
  ACalls P f args pre (fun r t => ∃ k, r = R k ∧ t.boxes = B ∧ t.rows[k]? = some ⟨E, sz, es, false⟩)
/-- The same, the slice told as data. -/
theorem BoxLe.refl {st : Sto} : ∀ {B : List (Option PBox)}, (∀ x, some x ∈ B → okInL st x.cells = true) → BoxLe st B B
  | [], _ => trivial
  | none :: B, h => BoxLe.refl (B := B) fun x hx => h x (List.mem_cons_of_mem _ hx)
  | some x :: B, h => ⟨⟨rfl, LeL.refl _, h x (by simp)⟩, BoxLe.refl (B := B) fun y hy => h y (List.mem_cons_of_mem _ hy)⟩
def okBoxes (st : Sto) (B : List (Option PBox)) : Bool := B.all fun x => match x with
  | none => true
  | some x => okInL st x.cells
theorem okBoxes.mem {st : Sto} {B : List (Option PBox)} (h : okBoxes st B = true) (x : PBox) (hx : some x ∈ B) : okInL st x.cells = true := by
  have := List.all_eq_true.1 h _ hx
  exact this
theorem AOwn.plain {P : Program} {f : FuncId} {args : List PV} {pre : Sto} {B : List (Option PBox)} {E : TypeId} {sz : Nat} {es : List (List Tr)} {R : Nat → PV} {D : PV} (h : AOwn P f args pre B E sz es R) (hle : ∀ k, PV.Le (R k) D) (hk : PV.okIn ⟨B, []⟩ D = true := by exact rfl) (hb : okBoxes ⟨B, []⟩ B = true := by exact rfl) (hp : Keeps0 pre ⟨B, []⟩) : ACalls P f args pre (fun q t => q = D ∧ t = ⟨B, []⟩) := fun av m w vals hst hv => by
  refine (h av m w vals hst hv).mono fun e w' => ?_; rintro ⟨r, st', m', v, k1, ⟨k, rfl, rfl, -⟩, k3, k4, k5⟩
  have hl : StLe st' ⟨st'.boxes, []⟩ := StLe.mk' (BoxLe.refl (okBoxes.mem hb)) rfl
  exact ⟨D, ⟨st'.boxes, []⟩, m', v, k1, ⟨rfl, rfl⟩, hl.sto k3, hl.ev k4 hp, hl.rv D _ hk ((hle k).rv k5)⟩
theorem keep0n {st : Sto} : Keeps0 ⟨[], []⟩ st := Keeps0.nil
theorem keep0a {bs bs' : List (Option PBox)} (h : ∀ (k : Nat) (x : PBox), bs[k]? = some (some x) → ∃ x' : PBox, bs'[k]? = some (some x')) : Keeps0 ⟨bs, []⟩ ⟨bs', []⟩ := ⟨h, fun r row hr => by simp at hr⟩
theorem keep0b {x x' : PBox} : Keeps0 ⟨[some x], []⟩ ⟨[some x'], []⟩ := keep0a fun k y hk => by
  rcases k with _ | k
  · exact ⟨x', rfl⟩
  · simp at hk
section
variable {P : Program} {C : Ctx} {n : Nat} {s : AS} {o : Oper}
theorem AOp.callOwn {f : FuncId} {fn : Func} {xs : List Operand} {ts : Array TypeId} {ps qs : List PV} {pre S : Sto} {B : List (Option PBox)} {E : TypeId} {sz : Nat} {es : List (List Tr)} {R : Nat → PV} (fb : List Nat) (ho : o.op = .call { callee := .value (.func f), args := ⟨xs⟩, argTypes := ts }) (hd : dstOk o.dst n = true) (hf : P.funcs[f]? = some fn) (hnm : (fn.name == "runtime.NumGoroutine") = false) (hb : fn.body.isNone = false)
    (hx : xs.map s.ev = ps.map some) (hS : s.st = S) (hp : Part0 S pre fb []) (hpr : pre.rows = []) (hle : LeL ps (renL fb [] qs)) (hok : okInL pre qs = true) (hbl : B.length = pre.boxes.length) (hfree : freeBoxes B = true) (hR : ∀ k k', Mv sz es k k' (R k) (R k')) (hc : AOwn P f qs pre B E sz es R) :
    AOp P C n o s ((⟨s.env, ⟨(S.over ⟨B, []⟩ fb []).boxes, S.rows ++ [⟨E, sz, es, false⟩]⟩⟩ : AS).putO o.dst (R S.rows.length)) := fun m a w h K Q hK => by
  subst hS
  have h2 := evL h hx
  have h1 : (execOp a.eval o).run P w = .ok (.enter f ⟨xs.map a.eval⟩) w := by
    have hcf := run_callFunc_body (P := P) hf hnm hb
    unfold execOp
    simp only [ho]
    simp [resolve, invoke, Deferred.ofValue, Act.eval, hcf]
  unfold Oper.wp
  rw [h1]
  have h3 := hc (shutP C.av s.st pre m fb [] w) (m.via fb []) w _ (hp.sto h.sto) (RVL.unren hp (fun b o _ k => hp.ok k) _ _ hok (LeL.rv hle h2))
  refine Calls.mono h3 fun e w' => ?_; rintro ⟨r, st', m', v, rfl, ⟨k, rfl, rfl, hrow⟩, h4, h5, h6⟩
  obtain ⟨k1, k2, k3⟩ := over_own hp hpr h.sto h4 h5 hbl (fun j x hj => freeBoxes.get hfree hj) hrow
  refine hK _ _ w' ((h.step k1 k2).put (dstOk_lt hd) (Mv.rv k3 (fun row hr => ?_) (hR k s.st.rows.length) h6))
  rw [hrow] at hr
  obtain rfl := Option.some.inj hr
  exact ⟨by simp, by simp only [upd_same]⟩
end
end Go.Proofs.YtmpepccpnnldoaaGreat

namespace Go.Proofs.YtmpepccpnnldoaaGreat
set_option linter.unusedSimpArgs false
set_option linter.unusedVariables false
open Go.RowKit Go.WalkArith Go.IntWalk Go.WideShapes

section
variable {P : Program} {C : Ctx} {n : Nat} {s : AS} {o : Oper}
end
end Go.Proofs.YtmpepccpnnldoaaGreat

namespace Go.Proofs.YtmpepccpnnldoaaGreat
open Go.RowKit Go.Proofs

theorem sh3 : shapeOf Tryz.prog 3 = some (false, 1) := by kernel_rfl
theorem sz3 : (Tryz.prog.info? 3).map (·.size) = some 1 := by kernel_rfl
theorem sh4 : shapeOf Tryz.prog 4 = some (false, 1) := by kernel_rfl
theorem sz4 : (Tryz.prog.info? 4).map (·.size) = some 1 := by kernel_rfl
theorem sh5 : shapeOf Tryz.prog 5 = some (false, 1) := by kernel_rfl
theorem zr5 : zerosOf Tryz.prog 5 = some [.t (.leaf (.int .u8 0))] := by kernel_rfl
theorem sh9 : shapeOf Tryz.prog 9 = some (false, 1) := by kernel_rfl
theorem sz9 : (Tryz.prog.info? 9).map (·.size) = some 1 := by kernel_rfl
theorem zr9 : zerosOf Tryz.prog 9 = some [.t (.leaf (.string ⟨#[]⟩))] := by kernel_rfl
theorem sh22 : shapeOf Tryz.prog 22 = some (false, 1) := by kernel_rfl
theorem el22 : elemOf? Tryz.prog 22 = some (5, 1, 1) := by kernel_rfl
theorem ze22 : (Tryz.prog.info? 5).bind (fun i => i.zero.map (fun z => z.cells.size)) = some 1 := by kernel_rfl
theorem sh24 : shapeOf Tryz.prog 24 = some (false, 1) := by kernel_rfl
theorem sz24 : (Tryz.prog.info? 24).map (·.size) = some 1 := by kernel_rfl
theorem el24 : elemOf? Tryz.prog 24 = some (26, 3, 48) := by kernel_rfl
theorem ze24 : (Tryz.prog.info? 26).bind (fun i => i.zero.map (fun z => z.cells.size)) = some 3 := by kernel_rfl
theorem sh26 : shapeOf Tryz.prog 26 = some (true, 3) := by kernel_rfl
theorem sz26 : (Tryz.prog.info? 26).map (·.size) = some 3 := by kernel_rfl
theorem zr26 : zerosOf Tryz.prog 26 = some [.t (.leaf (.int .i64 0)), .t (.leaf (.string ⟨#[]⟩)), .nil] := by kernel_rfl
theorem pl26 : placesOf Tryz.prog 26 = some [(0, 1), (1, 1), (2, 1)] := by kernel_rfl
theorem sh28 : shapeOf Tryz.prog 28 = some (true, 4) := by kernel_rfl
theorem sz28 : (Tryz.prog.info? 28).map (·.size) = some 4 := by kernel_rfl
theorem zr28 : zerosOf Tryz.prog 28 = some [.t (.leaf (.string ⟨#[]⟩)), .t (.leaf (.int .i64 0)), .t (.leaf (.string ⟨#[]⟩)), .nil] := by kernel_rfl
theorem pl28 : placesOf Tryz.prog 28 = some [(0, 1), (1, 3)] := by kernel_rfl
theorem el39 : elemOf? Tryz.prog 39 = some (9, 1, 16) := by kernel_rfl
theorem ze39 : (Tryz.prog.info? 9).bind (fun i => i.zero.map (fun z => z.cells.size)) = some 1 := by kernel_rfl
theorem sh42 : shapeOf Tryz.prog 42 = some (false, 1) := by kernel_rfl
theorem sz42 : (Tryz.prog.info? 42).map (·.size) = some 1 := by kernel_rfl
theorem el42 : elemOf? Tryz.prog 42 = some (44, 2, 40) := by kernel_rfl
theorem ze42 : (Tryz.prog.info? 44).bind (fun i => i.zero.map (fun z => z.cells.size)) = some 2 := by kernel_rfl
theorem sh44 : shapeOf Tryz.prog 44 = some (true, 2) := by kernel_rfl
theorem sz44 : (Tryz.prog.info? 44).map (·.size) = some 2 := by kernel_rfl
theorem zr44 : zerosOf Tryz.prog 44 = some [.t (.leaf (.string ⟨#[]⟩)), .nil] := by kernel_rfl
theorem pl44 : placesOf Tryz.prog 44 = some [(0, 1), (1, 1)] := by kernel_rfl
theorem zr58 : zerosOf Tryz.prog 58 = some [.nil, .t (.leaf (.int .i64 0)), .t (.leaf (.int .i64 0))] := by kernel_rfl
theorem pl58 : placesOf Tryz.prog 58 = some [(0, 1), (1, 1), (2, 1)] := by kernel_rfl
theorem zr78 : zerosOf Tryz.prog 78 = some [.t (.leaf (.string ⟨#[]⟩)), .t (.leaf (.int .i64 0)), .t (.leaf (.int .i64 0)), .t (.leaf (.int .i64 0)), .t (.leaf (.bool false))] := by kernel_rfl
theorem pl78 : placesOf Tryz.prog 78 = some [(0, 1), (1, 1), (2, 1), (3, 1), (4, 1)] := by kernel_rfl
theorem fo26_0 : fieldOff Tryz.prog 26 0 = some 0 := by kernel_rfl
theorem fo26_1 : fieldOff Tryz.prog 26 1 = some 1 := by kernel_rfl
theorem fo26_2 : fieldOff Tryz.prog 26 2 = some 2 := by kernel_rfl
theorem fo28_0 : fieldOff Tryz.prog 28 0 = some 0 := by kernel_rfl
theorem fo28_1 : fieldOff Tryz.prog 28 1 = some 1 := by kernel_rfl
theorem fo44_0 : fieldOff Tryz.prog 44 0 = some 0 := by kernel_rfl
theorem fo44_1 : fieldOff Tryz.prog 44 1 = some 1 := by kernel_rfl
theorem fo58_0 : fieldOff Tryz.prog 58 0 = some 0 := by kernel_rfl
theorem fo58_1 : fieldOff Tryz.prog 58 1 = some 1 := by kernel_rfl
theorem fo58_2 : fieldOff Tryz.prog 58 2 = some 2 := by kernel_rfl
theorem fo78_0 : fieldOff Tryz.prog 78 0 = some 0 := by kernel_rfl
theorem fo78_1 : fieldOff Tryz.prog 78 1 = some 1 := by kernel_rfl
theorem fo78_2 : fieldOff Tryz.prog 78 2 = some 2 := by kernel_rfl
theorem fo78_3 : fieldOff Tryz.prog 78 3 = some 3 := by kernel_rfl
theorem fo78_4 : fieldOff Tryz.prog 78 4 = some 4 := by kernel_rfl
theorem mixed : Tryz.prog.follows .mixedOrders = true := by kernel_rfl
end Go.Proofs.YtmpepccpnnldoaaGreat

namespace Go.Proofs.YtmpepccpnnldoaaGreat
open Go.RowKit Go.Proofs
set_option linter.unusedSimpArgs false
set_option linter.unusedVariables false

set_option maxRecDepth 100000 in
set_option maxHeartbeats 4000000 in
theorem byte_ok (d : DS) : ACalls Tryz.prog 65 [.ptr 0 0] (d.box 58) (fun r t => r = .t (.leaf (.int .i64 d.byte)) ∧ t = d.next.box 58) := by
  refine ACalls.intro Tryz.func65 rfl (by first | decide | (simp; done) | (simp; decide)) ?_; intro C hC
  refine AWP.fact (box_lenN 0 0 rfl rfl rfl (byteTrs_len d.code)) (fun hl0 => ?_)
  refine AWP.seq ?_; refine AWP.region_lit ?_; refine AL.cons rfl (AOp.move (.inr rfl) rfl rfl) ?_; refine AL.nil ?_; refine AWP.seq ?_; refine AWP.region_lit ?_; refine AL.cons rfl (AOp.move (.inl rfl) rfl rfl) ?_; refine AL.cons rfl (AOp.move (.inl rfl) rfl rfl) ?_; refine AL.cons rfl (AOp.nilPtr rfl rfl rfl) ?_; refine AL.cons rfl (AOp.fieldPtr (k := 0) (d := 0) (e := 2) rfl rfl rfl fo58_2) ?_; refine AL.cons rfl (AOp.loadPtr1 rfl rfl rfl rfl sh3 rfl) ?_; refine AL.cons rfl (AOp.mulW rfl rfl rfl rfl) ?_; refine AL.cons rfl (AOp.addW rfl rfl rfl rfl) ?_; refine AL.cons rfl (AOp.nilPtr rfl rfl rfl) ?_; refine AL.cons rfl (AOp.fieldPtr (k := 0) (d := 0) (e := 2) rfl rfl rfl fo58_2) ?_; refine AL.cons rfl (AOp.storePtr (cs := [.t (.leaf (.int .i64 (wrap64 ((wrap64 (d.h * 6364136223846793005)) + 1442695040888963407))))]) (ds := [.t (.row 1 (byteTrs (d.code))), .t (.leaf (.int .i64 (((d.p : Nat) : Int)))), .t (.leaf (.int .i64 (wrap64 ((wrap64 (d.h * 6364136223846793005)) + 1442695040888963407))))]) rfl rfl rfl rfl rfl rfl rfl sz3 (Nat.le_of_ble_eq_true rfl) rfl) ?_; refine AL.nil ?_; refine AWP.seq ?_; refine AWP.drawnL ⟨_, _, fun _ _ => (⟨[some ⟨58, [.t (.row 1 (byteTrs (d.code))), .t (.leaf (.int .i64 (((d.p : Nat) : Int)))), .t (.leaf (.int .i64 (wrap64 ((wrap64 (d.h * 6364136223846793005)) + 1442695040888963407))))]⟩], []⟩ : Sto), fun q' => ([some (.ptr 0 0), some (.ptr 0 0), some (.ptr 0 2), some (.t (.leaf (.int .i64 (wrap64 ((wrap64 (d.h * 6364136223846793005)) + 1442695040888963407))))), some (.t (.leaf (.int .i64 (iShr (wrap64 ((wrap64 (d.h * 6364136223846793005)) + 1442695040888963407)) 33)))), some (.ptr 0 0), some (.ptr 0 0), some (.ptr 0 2), some (.t (.leaf (.int .i64 (wrap64 ((wrap64 (d.h * 6364136223846793005)) + 1442695040888963407))))), some (.t (.leaf (.int .i64 (iShr (wrap64 ((wrap64 (d.h * 6364136223846793005)) + 1442695040888963407)) 45)))), some (.t (.leaf (.int .i64 (iXor (iShr (wrap64 ((wrap64 (d.h * 6364136223846793005)) + 1442695040888963407)) 33) (iShr (wrap64 ((wrap64 (d.h * 6364136223846793005)) + 1442695040888963407)) 45))))), some (.t (.leaf (.int .i64 (iAnd (iXor (iShr (wrap64 ((wrap64 (d.h * 6364136223846793005)) + 1442695040888963407)) 33) (iShr (wrap64 ((wrap64 (d.h * 6364136223846793005)) + 1442695040888963407)) 45)) 255)))), some (.t (.leaf (.int .i64 (iAnd (iXor (iShr (wrap64 ((wrap64 (d.h * 6364136223846793005)) + 1442695040888963407)) 33) (iShr (wrap64 ((wrap64 (d.h * 6364136223846793005)) + 1442695040888963407)) 45)) 255))))] : List (Option PV)).getD q' none, fun q' => ([.q 0 0, .q 0 0, .q 0 0, .q 0 0, .q 0 0, .q 0 0, .q 0 0, .q 0 0, .q 0 0, .q 0 0, .q 0 0, .q 0 0, .q 0 0] : List DK).getD q' (.q 0 0), [], none, fun q' => ([[(0, none)], [(13, some 0)], [(14, some 1)], [(15, some 2)], [(16, some 3)], [(0, none)], [(18, some 5)], [(19, some 6)], [(20, some 7)], [(21, some 8)], [(17, some 4), (22, some 9)], [(23, some 10)], [(24, some 11)]] : List (List (Nat × Option Nat))).getD q' []⟩ rfl mixed (by kernel_rfl) rfl rfl ⟨?_, ?_, ?_, ?_, ?_, ?_, ?_, ?_, ?_, ?_, ?_, ?_, ?_, trivial⟩ rfl ?_
  · exact Draw.step.q1 0 rfl rfl fun s' bb hs hl => ⟨_, rfl, AOp.move (.inl rfl) rfl (hl 0 none _ (.head _) rfl)⟩
  · exact Draw.step.q1 0 rfl rfl fun s' bb hs hl => ⟨_, rfl, AOp.nilPtr rfl rfl (hl 13 (some 0) _ (.head _) rfl)⟩
  · exact Draw.step.q1 0 rfl rfl fun s' bb hs hl => ⟨_, rfl, AOp.fieldPtr (k := 0) (d := 0) (e := 2) rfl rfl (hl 14 (some 1) _ (.head _) rfl) fo58_2⟩
  · exact Draw.step.q1 0 rfl rfl fun s' bb hs hl => ⟨_, rfl, AOp.loadPtr1 rfl rfl (hl 15 (some 2) _ (.head _) rfl) (by rw [hs]; rfl) sh3 rfl⟩
  · exact Draw.step.q1 0 rfl rfl fun s' bb hs hl => ⟨_, rfl, AOp.shrI (a := wrap64 ((wrap64 (d.h * 6364136223846793005)) + 1442695040888963407)) (b := 33) rfl rfl (hl 16 (some 3) _ (.head _) rfl) rfl (by decide) (iShr_in (wrap64_in _)).1 (iShr_in (wrap64_in _)).2⟩
  · exact Draw.step.q1 0 rfl rfl fun s' bb hs hl => ⟨_, rfl, AOp.move (.inl rfl) rfl (hl 0 none _ (.head _) rfl)⟩
  · exact Draw.step.q1 0 rfl rfl fun s' bb hs hl => ⟨_, rfl, AOp.nilPtr rfl rfl (hl 18 (some 5) _ (.head _) rfl)⟩
  · exact Draw.step.q1 0 rfl rfl fun s' bb hs hl => ⟨_, rfl, AOp.fieldPtr (k := 0) (d := 0) (e := 2) rfl rfl (hl 19 (some 6) _ (.head _) rfl) fo58_2⟩
  · exact Draw.step.q1 0 rfl rfl fun s' bb hs hl => ⟨_, rfl, AOp.loadPtr1 rfl rfl (hl 20 (some 7) _ (.head _) rfl) (by rw [hs]; rfl) sh3 rfl⟩
  · exact Draw.step.q1 0 rfl rfl fun s' bb hs hl => ⟨_, rfl, AOp.shrI (a := wrap64 ((wrap64 (d.h * 6364136223846793005)) + 1442695040888963407)) (b := 45) rfl rfl (hl 21 (some 8) _ (.head _) rfl) rfl (by decide) (iShr_in (wrap64_in _)).1 (iShr_in (wrap64_in _)).2⟩
  · exact Draw.step.q1 0 rfl rfl fun s' bb hs hl => ⟨_, rfl, AOp.xorI rfl rfl (hl 17 (some 4) _ (.head _) rfl) (hl 22 (some 9) _ (.tail _ (.head _)) rfl)⟩
  · exact Draw.step.q1 0 rfl rfl fun s' bb hs hl => ⟨_, rfl, AOp.andI rfl rfl (hl 23 (some 10) _ (.head _) rfl) rfl⟩
  · exact Draw.step.q1 0 rfl rfl fun s' bb hs hl => ⟨_, rfl, AOp.move (.inr rfl) rfl (hl 24 (some 11) _ (.head _) rfl)⟩
  refine AWP.seq ?_; refine AWP.seq ?_; refine AWP.drawnL ⟨_, _, fun _ _ => (⟨[some ⟨58, [.t (.row 1 (byteTrs (d.code))), .t (.leaf (.int .i64 (((d.p : Nat) : Int)))), .t (.leaf (.int .i64 (wrap64 ((wrap64 (d.h * 6364136223846793005)) + 1442695040888963407))))]⟩], []⟩ : Sto), fun q' => ([some (.ptr 0 0), some (.ptr 0 0), some (.ptr 0 1), some (.t (.leaf (.int .i64 (((d.p : Nat) : Int))))), some (.ptr 0 0), some (.ptr 0 0), some (.ptr 0 0), some (.t (.row 1 (byteTrs (d.code)))), some (.t (.leaf (.int .i64 (((d.code.length : Nat) : Int))))), some (.t (.leaf (.bool (decide ((((d.p : Nat) : Int) : Int) < ((d.code.length : Nat) : Int))))))] : List (Option PV)).getD q' none, fun q' => ([.q 0 0, .q 0 0, .q 0 0, .q 0 0, .q 0 0, .q 0 0, .q 0 0, .q 0 0, .q 0 0, .q 0 0] : List DK).getD q' (.q 0 0), [], none, fun q' => ([[(0, none)], [(25, some 0)], [(26, some 1)], [(27, some 2)], [(0, none)], [(29, some 4)], [(30, some 5)], [(31, some 6)], [(32, some 7)], [(28, some 3), (33, some 8)]] : List (List (Nat × Option Nat))).getD q' []⟩ rfl mixed (by kernel_rfl) rfl rfl ⟨?_, ?_, ?_, ?_, ?_, ?_, ?_, ?_, ?_, ?_, trivial⟩ rfl ?_
  · exact Draw.step.q1 0 rfl rfl fun s' bb hs hl => ⟨_, rfl, AOp.move (.inl rfl) rfl (hl 0 none _ (.head _) rfl)⟩
  · exact Draw.step.q1 0 rfl rfl fun s' bb hs hl => ⟨_, rfl, AOp.nilPtr rfl rfl (hl 25 (some 0) _ (.head _) rfl)⟩
  · exact Draw.step.q1 0 rfl rfl fun s' bb hs hl => ⟨_, rfl, AOp.fieldPtr (k := 0) (d := 0) (e := 1) rfl rfl (hl 26 (some 1) _ (.head _) rfl) fo58_1⟩
  · exact Draw.step.q1 0 rfl rfl fun s' bb hs hl => ⟨_, rfl, AOp.loadPtr1 rfl rfl (hl 27 (some 2) _ (.head _) rfl) (by rw [hs]; rfl) sh3 rfl⟩
  · exact Draw.step.q1 0 rfl rfl fun s' bb hs hl => ⟨_, rfl, AOp.move (.inl rfl) rfl (hl 0 none _ (.head _) rfl)⟩
  · exact Draw.step.q1 0 rfl rfl fun s' bb hs hl => ⟨_, rfl, AOp.nilPtr rfl rfl (hl 29 (some 4) _ (.head _) rfl)⟩
  · exact Draw.step.q1 0 rfl rfl fun s' bb hs hl => ⟨_, rfl, AOp.fieldPtr (k := 0) (d := 0) (e := 0) rfl rfl (hl 30 (some 5) _ (.head _) rfl) fo58_0⟩
  · exact Draw.step.q1 0 rfl rfl fun s' bb hs hl => ⟨_, rfl, AOp.loadPtr1 rfl rfl (hl 31 (some 6) _ (.head _) rfl) (by rw [hs]; rfl) sh22 rfl⟩
  · exact Draw.step.q1 0 rfl rfl fun s' bb hs hl => ⟨_, rfl, AOp.lenN rfl rfl (hl 32 (some 7) _ (.head _) rfl) rfl el22 (byteTrs_len _)⟩
  · exact Draw.step.q1 0 rfl rfl fun s' bb hs hl => ⟨_, rfl, AOp.lss rfl rfl (hl 28 (some 3) _ (.head _) rfl) (hl 33 (some 8) _ (.tail _ (.head _)) rfl)⟩
  refine AWP.cond rfl (fun h1 => ?_) (fun h1 => ?_)
  · have h1b := h1
    try simp only [Bool.and_eq_true, Bool.or_eq_true, Bool.and_eq_false_iff, Bool.or_eq_false_iff, decide_eq_true_eq, decide_eq_false_iff_not, Bool.not_eq_true', Bool.not_eq_false', Bool.not_eq_eq_eq_not, Bool.not_true, Bool.not_false, ge_iff_le, gt_iff_lt, Int.not_lt, Int.not_le] at h1b
    have h1n : d.p < d.code.length := by omega
    refine AWP.seq ?_; refine AWP.drawnL ⟨_, _, fun _ _ => (⟨[some ⟨58, [.t (.row 1 (byteTrs (d.code))), .t (.leaf (.int .i64 (((d.p : Nat) : Int)))), .t (.leaf (.int .i64 (wrap64 ((wrap64 (d.h * 6364136223846793005)) + 1442695040888963407))))]⟩], []⟩ : Sto), fun q' => ([some (.t (.leaf (.int .i64 (iAnd (iXor (iShr (wrap64 ((wrap64 (d.h * 6364136223846793005)) + 1442695040888963407)) 33) (iShr (wrap64 ((wrap64 (d.h * 6364136223846793005)) + 1442695040888963407)) 45)) 255)))), some (.ptr 0 0), some (.ptr 0 0), some (.ptr 0 0), some (.t (.row 1 (byteTrs (d.code)))), some (.ptr 0 0), some (.ptr 0 0), some (.ptr 0 1), some (.t (.leaf (.int .i64 (((d.p : Nat) : Int))))), some (.eptr ([.leaf (.int .u8 ((d.code[d.p]).toNat : Int))])), some (.t (.leaf (.int .u8 (((d.code[d.p]).toNat : Int))))), some (.t (.leaf (.int .i64 (((d.code[d.p]).toNat : Int))))), some (.t (.leaf (.int .i64 (wrap64 ((iAnd (iXor (iShr (wrap64 ((wrap64 (d.h * 6364136223846793005)) + 1442695040888963407)) 33) (iShr (wrap64 ((wrap64 (d.h * 6364136223846793005)) + 1442695040888963407)) 45)) 255) + ((d.code[d.p]).toNat : Int)))))), some (.t (.leaf (.int .i64 (iAnd (wrap64 ((iAnd (iXor (iShr (wrap64 ((wrap64 (d.h * 6364136223846793005)) + 1442695040888963407)) 33) (iShr (wrap64 ((wrap64 (d.h * 6364136223846793005)) + 1442695040888963407)) 45)) 255) + ((d.code[d.p]).toNat : Int))) 255)))), some (.t (.leaf (.int .i64 (iAnd (wrap64 ((iAnd (iXor (iShr (wrap64 ((wrap64 (d.h * 6364136223846793005)) + 1442695040888963407)) 33) (iShr (wrap64 ((wrap64 (d.h * 6364136223846793005)) + 1442695040888963407)) 45)) 255) + ((d.code[d.p]).toNat : Int))) 255))))] : List (Option PV)).getD q' none, fun q' => ([.q 0 0, .q 0 0, .q 0 0, .q 0 0, .q 0 0, .q 0 0, .q 0 0, .q 0 0, .q 0 0, .q 0 0, .q 0 0, .q 0 0, .q 0 0, .q 0 0, .q 0 0] : List DK).getD q' (.q 0 0), [], none, fun q' => ([[(3, none)], [(0, none)], [(36, some 1)], [(37, some 2)], [(38, some 3)], [(0, none)], [(40, some 5)], [(41, some 6)], [(42, some 7)], [(39, some 4), (43, some 8)], [(44, some 9)], [(45, some 10)], [(35, some 0), (46, some 11)], [(47, some 12)], [(48, some 13)]] : List (List (Nat × Option Nat))).getD q' []⟩ rfl mixed (by kernel_rfl) rfl rfl ⟨?_, ?_, ?_, ?_, ?_, ?_, ?_, ?_, ?_, ?_, ?_, ?_, ?_, ?_, ?_, trivial⟩ rfl ?_
    · exact Draw.step.q1 0 rfl rfl fun s' bb hs hl => ⟨_, rfl, AOp.move (.inl rfl) rfl (hl 3 none _ (.head _) rfl)⟩
    · exact Draw.step.q1 0 rfl rfl fun s' bb hs hl => ⟨_, rfl, AOp.move (.inl rfl) rfl (hl 0 none _ (.head _) rfl)⟩
    · exact Draw.step.q1 0 rfl rfl fun s' bb hs hl => ⟨_, rfl, AOp.nilPtr rfl rfl (hl 36 (some 1) _ (.head _) rfl)⟩
    · exact Draw.step.q1 0 rfl rfl fun s' bb hs hl => ⟨_, rfl, AOp.fieldPtr (k := 0) (d := 0) (e := 0) rfl rfl (hl 37 (some 2) _ (.head _) rfl) fo58_0⟩
    · exact Draw.step.q1 0 rfl rfl fun s' bb hs hl => ⟨_, rfl, AOp.loadPtr1 rfl rfl (hl 38 (some 3) _ (.head _) rfl) (by rw [hs]; rfl) sh22 rfl⟩
    · exact Draw.step.q1 0 rfl rfl fun s' bb hs hl => ⟨_, rfl, AOp.move (.inl rfl) rfl (hl 0 none _ (.head _) rfl)⟩
    · exact Draw.step.q1 0 rfl rfl fun s' bb hs hl => ⟨_, rfl, AOp.nilPtr rfl rfl (hl 40 (some 5) _ (.head _) rfl)⟩
    · exact Draw.step.q1 0 rfl rfl fun s' bb hs hl => ⟨_, rfl, AOp.fieldPtr (k := 0) (d := 0) (e := 1) rfl rfl (hl 41 (some 6) _ (.head _) rfl) fo58_1⟩
    · exact Draw.step.q1 0 rfl rfl fun s' bb hs hl => ⟨_, rfl, AOp.loadPtr1 rfl rfl (hl 42 (some 7) _ (.head _) rfl) (by rw [hs]; rfl) sh3 rfl⟩
    · exact Draw.step.q1 0 rfl rfl fun s' bb hs hl => ⟨_, rfl, AOp.index (k := d.p) rfl rfl (hl 39 (some 4) _ (.head _) rfl) rfl (hl 43 (some 8) _ (.tail _ (.head _)) rfl) (byteTrs_cs h1n) el22⟩
    · exact Draw.step.q1 0 rfl rfl fun s' bb hs hl => ⟨_, rfl, AOp.loadEptr1 (d := .leaf (.int .u8 (((d.code[d.p]).toNat : Int)))) rfl rfl (hl 44 (some 9) _ (.head _) rfl) sh5 rfl⟩
    · exact Draw.step.q1 0 rfl rfl fun s' bb hs hl => ⟨_, rfl, AOp.convI rfl rfl (hl 45 (some 10) _ (.head _) rfl) ⟨_, Tryz.underlying5⟩ Tryz.underlying3 (by first | omega | (have := UInt8.toNat_lt (d.code[d.p]); omega)) (by first | omega | (have := UInt8.toNat_lt (d.code[d.p]); omega))⟩
    · exact Draw.step.q1 0 rfl rfl fun s' bb hs hl => ⟨_, rfl, AOp.addW rfl rfl (hl 35 (some 0) _ (.head _) rfl) (hl 46 (some 11) _ (.tail _ (.head _)) rfl)⟩
    · exact Draw.step.q1 0 rfl rfl fun s' bb hs hl => ⟨_, rfl, AOp.andI rfl rfl (hl 47 (some 12) _ (.head _) rfl) rfl⟩
    · exact Draw.step.q1 0 rfl rfl fun s' bb hs hl => ⟨_, rfl, AOp.move (.inr rfl) rfl (hl 48 (some 13) _ (.head _) rfl)⟩
    refine AWP.region_lit ?_; refine AL.cons rfl (AOp.move (.inl rfl) rfl rfl) ?_; refine AL.cons rfl (AOp.move (.inl rfl) rfl rfl) ?_; refine AL.cons rfl (AOp.nilPtr rfl rfl rfl) ?_; refine AL.cons rfl (AOp.fieldPtr (k := 0) (d := 0) (e := 1) rfl rfl rfl fo58_1) ?_; refine AL.cons rfl (AOp.loadPtr1 rfl rfl rfl rfl sh3 rfl) ?_; refine AL.cons rfl (AOp.addI rfl rfl rfl rfl (c := ((d.p + 1 : Nat) : Int)) (by omega) (by omega)) ?_; refine AL.cons rfl (AOp.nilPtr rfl rfl rfl) ?_; refine AL.cons rfl (AOp.fieldPtr (k := 0) (d := 0) (e := 1) rfl rfl rfl fo58_1) ?_; refine AL.cons rfl (AOp.storePtr (cs := [.t (.leaf (.int .i64 (((d.p + 1 : Nat) : Int))))]) (ds := [.t (.row 1 (byteTrs (d.code))), .t (.leaf (.int .i64 (((d.p + 1 : Nat) : Int)))), .t (.leaf (.int .i64 (wrap64 ((wrap64 (d.h * 6364136223846793005)) + 1442695040888963407))))]) rfl rfl rfl rfl rfl rfl rfl sz3 (Nat.le_of_ble_eq_true rfl) rfl) ?_; refine AL.nil ?_; refine AWP.seq ?_; refine AWP.region_lit ?_; refine AL.cons rfl (AOp.move (.inl rfl) rfl rfl) ?_; refine AL.cons rfl (AOp.move (.inr rfl) rfl rfl) ?_; refine AL.nil ?_; refine AWP.ret ?_; exact Ends.mk (ps := [_]) (.inr rfl) ⟨rfl, trivial⟩ rfl (StLe.mk' (st' := ⟨[some ⟨58, [.t (.row 1 (byteTrs (d.code))), .t (.leaf (.int .i64 (((d.p + 1 : Nat) : Int)))), .t (.leaf (.int .i64 (wrap64 ((wrap64 (d.h * 6364136223846793005)) + 1442695040888963407))))]⟩], []⟩) ⟨⟨rfl, leA, rfl⟩, trivial⟩ rfl) (keeps_box hC ⟨_, rfl⟩) (q := .t (.leaf (.int .i64 (iAnd (wrap64 ((iAnd (iXor (iShr (wrap64 ((wrap64 (d.h * 6364136223846793005)) + 1442695040888963407)) 33) (iShr (wrap64 ((wrap64 (d.h * 6364136223846793005)) + 1442695040888963407)) 45)) 255) + ((d.code[d.p]).toNat : Int))) 255)))) (.refl _) rfl ⟨by first | (simp_all [DS.byte, nextH]; done) | (have hq : ¬ d.p < d.code.length := (by omega); simp [DS.byte, nextH, hq]), by first | (simp_all [DS.box, DS.cells, DS.next, nextH]; done) | (have hq : ¬ d.p < d.code.length := (by omega); simp [DS.box, DS.cells, DS.next, nextH, hq])⟩
  · have h1b := h1
    try simp only [Bool.and_eq_true, Bool.or_eq_true, Bool.and_eq_false_iff, Bool.or_eq_false_iff, decide_eq_true_eq, decide_eq_false_iff_not, Bool.not_eq_true', Bool.not_eq_false', Bool.not_eq_eq_eq_not, Bool.not_true, Bool.not_false, ge_iff_le, gt_iff_lt, Int.not_lt, Int.not_le] at h1b
    have h1n : d.p ≥ d.code.length := by omega
    refine AWP.skip ?_; refine AWP.seq ?_; refine AWP.region_lit ?_; refine AL.cons rfl (AOp.move (.inl rfl) rfl rfl) ?_; refine AL.cons rfl (AOp.move (.inr rfl) rfl rfl) ?_; refine AL.nil ?_; refine AWP.ret ?_; exact Ends.mk (ps := [_]) (.inr rfl) ⟨rfl, trivial⟩ rfl (StLe.mk' (st' := ⟨[some ⟨58, [.t (.row 1 (byteTrs (d.code))), .t (.leaf (.int .i64 (((d.p : Nat) : Int)))), .t (.leaf (.int .i64 (wrap64 ((wrap64 (d.h * 6364136223846793005)) + 1442695040888963407))))]⟩], []⟩) ⟨⟨rfl, leA, rfl⟩, trivial⟩ rfl) (keeps_box hC ⟨_, rfl⟩) (q := .t (.leaf (.int .i64 (iAnd (iXor (iShr (wrap64 ((wrap64 (d.h * 6364136223846793005)) + 1442695040888963407)) 33) (iShr (wrap64 ((wrap64 (d.h * 6364136223846793005)) + 1442695040888963407)) 45)) 255)))) (.refl _) rfl ⟨by first | (simp_all [DS.byte, nextH]; done) | (have hq : ¬ d.p < d.code.length := (by omega); simp [DS.byte, nextH, hq]), by first | (simp_all [DS.box, DS.cells, DS.next, nextH]; done) | (have hq : ¬ d.p < d.code.length := (by omega); simp [DS.box, DS.cells, DS.next, nextH, hq])⟩

theorem byteN_ok (d : DS) : ACalls Tryz.prog 65 [.ptr 0 0] (d.box 58) (fun r t => r = .t (.leaf (.int .i64 ((d.byteN : Nat) : Int))) ∧ t = d.next.box 58) := by rw [d.byteN_eq]; exact byte_ok d
set_option maxRecDepth 100000 in
set_option maxHeartbeats 4000000 in
theorem below_ok (d : DS) (n : Nat)  : ACalls Tryz.prog 33 [.ptr 0 0, .t (.leaf (.int .i64 (((n : Nat) : Int))))] (d.box 58) (fun r t => r = .t (.leaf (.int .i64 (((d.below n : Nat) : Int)))) ∧ t = (d.after n).box 58) := by
  refine ACalls.intro Tryz.func33 rfl (by first | decide | (simp; done) | (simp; decide)) ?_; intro C hC
  refine AWP.fact (box_lenN 0 0 rfl rfl rfl (byteTrs_len d.code)) (fun hl0 => ?_)
  have hb0 := d.byteN_le
  have hb1 := d.next.byteN_le
  have hb2 := d.next.next.byteN_le
  have hb3 := d.next.next.next.byteN_le
  refine AWP.seq ?_; refine AWP.region_lit ?_; refine AL.cons rfl (AOp.move (.inr rfl) rfl rfl) ?_; refine AL.nil ?_; refine AWP.seq ?_; refine AWP.seq ?_; refine AWP.region_lit ?_; refine AL.cons rfl (AOp.move (.inl rfl) rfl rfl) ?_; refine AL.cons rfl (AOp.leq rfl rfl rfl rfl) ?_; refine AL.nil ?_; refine AWP.cond rfl (fun h1 => ?_) (fun h1 => ?_)
  · have h1b := h1
    try simp only [Bool.and_eq_true, Bool.or_eq_true, Bool.and_eq_false_iff, Bool.or_eq_false_iff, decide_eq_true_eq, decide_eq_false_iff_not, Bool.not_eq_true', Bool.not_eq_false', Bool.not_eq_eq_eq_not, Bool.not_true, Bool.not_false, ge_iff_le, gt_iff_lt, Int.not_lt, Int.not_le] at h1b
    refine AWP.seq ?_; refine AWP.region_lit ?_; refine AL.cons rfl (AOp.move (.inr rfl) rfl rfl) ?_; refine AL.nil ?_; refine AWP.ret ?_; exact Ends.mk (ps := [_]) (.inr rfl) ⟨rfl, trivial⟩ rfl (StLe.mk' (st' := ⟨[some ⟨58, [.t (.row 1 (byteTrs (d.code))), .t (.leaf (.int .i64 (((d.p : Nat) : Int)))), .t (.leaf (.int .i64 (d.h)))]⟩], []⟩) ⟨⟨rfl, leA, rfl⟩, trivial⟩ rfl) (keeps_box hC ⟨_, rfl⟩) (q := .t (.leaf (.int .i64 (0)))) leA rfl ⟨by first | (have hq : n = 0 := (by omega); simp [DS.below, hq]; done) | (have hq : ¬ n = 0 := (by omega); have hr : n ≤ 256 := (by omega); simp [DS.below, hq, hr]; done) | (have hq : ¬ n = 0 := (by omega); have hr : ¬ n ≤ 256 := (by omega); simp [DS.below, hq, hr]), by first | (have hq : n = 0 := (by omega); simp [DS.after, DS.box, DS.cells, hq]; done) | (have hq : ¬ n = 0 := (by omega); have hr : n ≤ 256 := (by omega); simp [DS.after, DS.box, DS.cells, hq, hr]; done) | (have hq : ¬ n = 0 := (by omega); have hr : ¬ n ≤ 256 := (by omega); simp [DS.after, DS.box, DS.cells, hq, hr])⟩
  · have h1b := h1
    try simp only [Bool.and_eq_true, Bool.or_eq_true, Bool.and_eq_false_iff, Bool.or_eq_false_iff, decide_eq_true_eq, decide_eq_false_iff_not, Bool.not_eq_true', Bool.not_eq_false', Bool.not_eq_eq_eq_not, Bool.not_true, Bool.not_false, ge_iff_le, gt_iff_lt, Int.not_lt, Int.not_le] at h1b
    refine AWP.skip ?_; refine AWP.seq ?_; refine AWP.seq ?_; refine AWP.region_lit ?_; refine AL.cons rfl (AOp.move (.inl rfl) rfl rfl) ?_; refine AL.cons rfl (AOp.leq rfl rfl rfl rfl) ?_; refine AL.nil ?_; refine AWP.cond rfl (fun h2 => ?_) (fun h2 => ?_)
    · have h2b := h2
      try simp only [Bool.and_eq_true, Bool.or_eq_true, Bool.and_eq_false_iff, Bool.or_eq_false_iff, decide_eq_true_eq, decide_eq_false_iff_not, Bool.not_eq_true', Bool.not_eq_false', Bool.not_eq_eq_eq_not, Bool.not_true, Bool.not_false, ge_iff_le, gt_iff_lt, Int.not_lt, Int.not_le] at h2b
      refine AWP.seq ?_; refine AWP.region_lit ?_; refine AL.cons rfl (AOp.move (.inl rfl) rfl rfl) ?_; refine AL.cons rfl (AOp.callPE (pre := ⟨[some ⟨58, [.t (.row 1 (byteTrs (d.code))), .t (.leaf (.int .i64 (((d.p : Nat) : Int)))), .t (.leaf (.int .i64 (d.h)))]⟩], []⟩) (st' := ⟨[some ⟨58, [.t (.row 1 (byteTrs (d.next.code))), .t (.leaf (.int .i64 (((d.next.p : Nat) : Int)))), .t (.leaf (.int .i64 (d.next.h)))]⟩], []⟩) (ps := [_]) (qs := [.ptr 0 0]) [0] [] rfl rfl Tryz.func65 (by kernel_rfl) rfl rfl rfl (by (try rw [hs]); exact ⟨rfl, rfl, by decide, by decide, fun k h => by rcases k with _ | k <;> simp at h; exact ⟨_, rfl⟩, fun k x h => by rcases k with _ | k <;> simp at h; subst h; exact ⟨_, rfl, rfl, leA, rfl⟩, fun r row h => by simp at h⟩) leA rfl rfl rfl (byteN_ok d )) ?_; refine AL.cons rfl (AOp.move (.inl rfl) rfl rfl) ?_; refine AL.cons rfl (AOp.remN (a := d.byteN) (b := n) rfl rfl rfl rfl (by omega) (by omega)) ?_; refine AL.cons rfl (AOp.move (.inr rfl) rfl rfl) ?_; refine AL.nil ?_; refine AWP.ret ?_; exact Ends.mk (ps := [_]) (.inr rfl) ⟨rfl, trivial⟩ rfl (StLe.mk' (st' := ⟨[some ⟨58, [.t (.row 1 (byteTrs (d.next.code))), .t (.leaf (.int .i64 (((d.next.p : Nat) : Int)))), .t (.leaf (.int .i64 (d.next.h)))]⟩], []⟩) ⟨⟨rfl, leA, rfl⟩, trivial⟩ rfl) (keeps_box hC ⟨_, rfl⟩) (q := .t (.leaf (.int .i64 (((d.byteN % n : Nat) : Int))))) leA rfl ⟨by first | (have hq : n = 0 := (by omega); simp [DS.below, hq]; done) | (have hq : ¬ n = 0 := (by omega); have hr : n ≤ 256 := (by omega); simp [DS.below, hq, hr]; done) | (have hq : ¬ n = 0 := (by omega); have hr : ¬ n ≤ 256 := (by omega); simp [DS.below, hq, hr]), by first | (have hq : n = 0 := (by omega); simp [DS.after, DS.box, DS.cells, hq]; done) | (have hq : ¬ n = 0 := (by omega); have hr : n ≤ 256 := (by omega); simp [DS.after, DS.box, DS.cells, hq, hr]; done) | (have hq : ¬ n = 0 := (by omega); have hr : ¬ n ≤ 256 := (by omega); simp [DS.after, DS.box, DS.cells, hq, hr])⟩
    · have h2b := h2
      try simp only [Bool.and_eq_true, Bool.or_eq_true, Bool.and_eq_false_iff, Bool.or_eq_false_iff, decide_eq_true_eq, decide_eq_false_iff_not, Bool.not_eq_true', Bool.not_eq_false', Bool.not_eq_eq_eq_not, Bool.not_true, Bool.not_false, ge_iff_le, gt_iff_lt, Int.not_lt, Int.not_le] at h2b
      refine AWP.skip ?_; refine AWP.seq ?_; refine AWP.region_lit ?_; refine AL.cons rfl (AOp.move (.inl rfl) rfl rfl) ?_; refine AL.cons rfl (AOp.callPE (pre := ⟨[some ⟨58, [.t (.row 1 (byteTrs (d.code))), .t (.leaf (.int .i64 (((d.p : Nat) : Int)))), .t (.leaf (.int .i64 (d.h)))]⟩], []⟩) (st' := ⟨[some ⟨58, [.t (.row 1 (byteTrs (d.next.code))), .t (.leaf (.int .i64 (((d.next.p : Nat) : Int)))), .t (.leaf (.int .i64 (d.next.h)))]⟩], []⟩) (ps := [_]) (qs := [.ptr 0 0]) [0] [] rfl rfl Tryz.func65 (by kernel_rfl) rfl rfl rfl (by (try rw [hs]); exact ⟨rfl, rfl, by decide, by decide, fun k h => by rcases k with _ | k <;> simp at h; exact ⟨_, rfl⟩, fun k x h => by rcases k with _ | k <;> simp at h; subst h; exact ⟨_, rfl, rfl, leA, rfl⟩, fun r row h => by simp at h⟩) leA rfl rfl rfl (byteN_ok d )) ?_; refine AL.cons rfl (AOp.move (.inr rfl) rfl rfl) ?_; refine AL.nil ?_; refine AWP.seq ?_; refine AWP.region_lit ?_; refine AL.cons rfl (AOp.move (.inl rfl) rfl rfl) ?_; refine AL.cons rfl (AOp.callPE (pre := ⟨[some ⟨58, [.t (.row 1 (byteTrs (d.next.code))), .t (.leaf (.int .i64 (((d.next.p : Nat) : Int)))), .t (.leaf (.int .i64 (d.next.h)))]⟩], []⟩) (st' := ⟨[some ⟨58, [.t (.row 1 (byteTrs (d.next.next.code))), .t (.leaf (.int .i64 (((d.next.next.p : Nat) : Int)))), .t (.leaf (.int .i64 (d.next.next.h)))]⟩], []⟩) (ps := [_]) (qs := [.ptr 0 0]) [0] [] rfl rfl Tryz.func65 (by kernel_rfl) rfl rfl rfl (by (try rw [hs]); exact ⟨rfl, rfl, by decide, by decide, fun k h => by rcases k with _ | k <;> simp at h; exact ⟨_, rfl⟩, fun k x h => by rcases k with _ | k <;> simp at h; subst h; exact ⟨_, rfl, rfl, leA, rfl⟩, fun r row h => by simp at h⟩) leA rfl rfl rfl (byteN_ok d.next )) ?_; refine AL.cons rfl (AOp.move (.inr rfl) rfl rfl) ?_; refine AL.nil ?_; refine AWP.seq ?_; refine AWP.region_lit ?_; refine AL.cons rfl (AOp.move (.inl rfl) rfl rfl) ?_; refine AL.cons rfl (AOp.callPE (pre := ⟨[some ⟨58, [.t (.row 1 (byteTrs (d.next.next.code))), .t (.leaf (.int .i64 (((d.next.next.p : Nat) : Int)))), .t (.leaf (.int .i64 (d.next.next.h)))]⟩], []⟩) (st' := ⟨[some ⟨58, [.t (.row 1 (byteTrs (d.next.next.next.code))), .t (.leaf (.int .i64 (((d.next.next.next.p : Nat) : Int)))), .t (.leaf (.int .i64 (d.next.next.next.h)))]⟩], []⟩) (ps := [_]) (qs := [.ptr 0 0]) [0] [] rfl rfl Tryz.func65 (by kernel_rfl) rfl rfl rfl (by (try rw [hs]); exact ⟨rfl, rfl, by decide, by decide, fun k h => by rcases k with _ | k <;> simp at h; exact ⟨_, rfl⟩, fun k x h => by rcases k with _ | k <;> simp at h; subst h; exact ⟨_, rfl, rfl, leA, rfl⟩, fun r row h => by simp at h⟩) leA rfl rfl rfl (byteN_ok d.next.next )) ?_; refine AL.cons rfl (AOp.move (.inr rfl) rfl rfl) ?_; refine AL.nil ?_; refine AWP.seq ?_; refine AWP.region_lit ?_; refine AL.cons rfl (AOp.move (.inl rfl) rfl rfl) ?_; refine AL.cons rfl (AOp.callPE (pre := ⟨[some ⟨58, [.t (.row 1 (byteTrs (d.next.next.next.code))), .t (.leaf (.int .i64 (((d.next.next.next.p : Nat) : Int)))), .t (.leaf (.int .i64 (d.next.next.next.h)))]⟩], []⟩) (st' := ⟨[some ⟨58, [.t (.row 1 (byteTrs (d.next.next.next.next.code))), .t (.leaf (.int .i64 (((d.next.next.next.next.p : Nat) : Int)))), .t (.leaf (.int .i64 (d.next.next.next.next.h)))]⟩], []⟩) (ps := [_]) (qs := [.ptr 0 0]) [0] [] rfl rfl Tryz.func65 (by kernel_rfl) rfl rfl rfl (by (try rw [hs]); exact ⟨rfl, rfl, by decide, by decide, fun k h => by rcases k with _ | k <;> simp at h; exact ⟨_, rfl⟩, fun k x h => by rcases k with _ | k <;> simp at h; subst h; exact ⟨_, rfl, rfl, leA, rfl⟩, fun r row h => by simp at h⟩) leA rfl rfl rfl (byteN_ok d.next.next.next )) ?_; refine AL.cons rfl (AOp.move (.inr rfl) rfl rfl) ?_; refine AL.nil ?_; refine AWP.seq ?_; refine AWP.region_lit ?_; refine AL.cons rfl (AOp.move (.inl rfl) rfl rfl) ?_; refine AL.cons rfl (AOp.mulI rfl rfl rfl rfl (c := ((d.byteN * 16777216 : Nat) : Int)) (by omega) (by omega)) ?_; refine AL.cons rfl (AOp.move (.inl rfl) rfl rfl) ?_; refine AL.cons rfl (AOp.mulI rfl rfl rfl rfl (c := ((d.next.byteN * 65536 : Nat) : Int)) (by omega) (by omega)) ?_; refine AL.cons rfl (AOp.addI rfl rfl rfl rfl (c := (((d.byteN * 16777216) + (d.next.byteN * 65536) : Nat) : Int)) (by omega) (by omega)) ?_; refine AL.cons rfl (AOp.move (.inl rfl) rfl rfl) ?_; refine AL.cons rfl (AOp.mulI rfl rfl rfl rfl (c := ((d.next.next.byteN * 256 : Nat) : Int)) (by omega) (by omega)) ?_; refine AL.cons rfl (AOp.addI rfl rfl rfl rfl (c := ((((d.byteN * 16777216) + (d.next.byteN * 65536)) + (d.next.next.byteN * 256) : Nat) : Int)) (by omega) (by omega)) ?_; refine AL.cons rfl (AOp.move (.inl rfl) rfl rfl) ?_; refine AL.cons rfl (AOp.addI rfl rfl rfl rfl (c := (((((d.byteN * 16777216) + (d.next.byteN * 65536)) + (d.next.next.byteN * 256)) + d.next.next.next.byteN : Nat) : Int)) (by omega) (by omega)) ?_; refine AL.cons rfl (AOp.move (.inl rfl) rfl rfl) ?_; refine AL.cons rfl (AOp.remN (a := (((d.byteN * 16777216) + (d.next.byteN * 65536)) + (d.next.next.byteN * 256)) + d.next.next.next.byteN) (b := n) rfl rfl rfl rfl (by omega) (by omega)) ?_; refine AL.cons rfl (AOp.move (.inr rfl) rfl rfl) ?_; refine AL.nil ?_; refine AWP.ret ?_; exact Ends.mk (ps := [_]) (.inr rfl) ⟨rfl, trivial⟩ rfl (StLe.mk' (st' := ⟨[some ⟨58, [.t (.row 1 (byteTrs (d.next.next.next.next.code))), .t (.leaf (.int .i64 (((d.next.next.next.next.p : Nat) : Int)))), .t (.leaf (.int .i64 (d.next.next.next.next.h)))]⟩], []⟩) ⟨⟨rfl, leA, rfl⟩, trivial⟩ rfl) (keeps_box hC ⟨_, rfl⟩) (q := .t (.leaf (.int .i64 (((((((d.byteN * 16777216) + (d.next.byteN * 65536)) + (d.next.next.byteN * 256)) + d.next.next.next.byteN) % n : Nat) : Int))))) leA rfl ⟨by first | (have hq : n = 0 := (by omega); simp [DS.below, hq]; done) | (have hq : ¬ n = 0 := (by omega); have hr : n ≤ 256 := (by omega); simp [DS.below, hq, hr]; done) | (have hq : ¬ n = 0 := (by omega); have hr : ¬ n ≤ 256 := (by omega); simp [DS.below, hq, hr]), by first | (have hq : n = 0 := (by omega); simp [DS.after, DS.box, DS.cells, hq]; done) | (have hq : ¬ n = 0 := (by omega); have hr : n ≤ 256 := (by omega); simp [DS.after, DS.box, DS.cells, hq, hr]; done) | (have hq : ¬ n = 0 := (by omega); have hr : ¬ n ≤ 256 := (by omega); simp [DS.after, DS.box, DS.cells, hq, hr])⟩

set_option maxRecDepth 100000 in
set_option maxHeartbeats 4000000 in
theorem pick_ok (d : DS) (l : List ByteArray) (hl : 0 < l.length) : ACalls Tryz.prog 15 [.ptr 0 0, .t (.row 1 (strTrs (l)))] (d.box 58) (fun r t => r = .t (.leaf (.string (d.pick l))) ∧ t = (d.after l.length).box 58) := by
  refine ACalls.intro Tryz.func15 rfl (by first | decide | (simp; done) | (simp; decide)) ?_; intro C hC
  refine AWP.fact (box_lenN 0 0 rfl rfl rfl (byteTrs_len d.code)) (fun hl0 => ?_)
  refine AWP.fact (lk_lenN 1 rfl rfl (strTrs_len _)) (fun hl1 => ?_)
  have hx : d.below l.length < l.length := d.below_lt hl
  refine AWP.seq ?_; refine AWP.region_lit ?_; refine AL.cons rfl (AOp.move (.inr rfl) rfl rfl) ?_; refine AL.nil ?_; refine AWP.seq ?_; refine AWP.region_lit ?_; refine AL.cons rfl (AOp.move (.inl rfl) rfl rfl) ?_; refine AL.cons rfl (AOp.move (.inl rfl) rfl rfl) ?_; refine AL.cons rfl (AOp.move (.inl rfl) rfl rfl) ?_; refine AL.cons rfl (AOp.lenN rfl rfl rfl rfl el39 (strTrs_len _)) ?_; refine AL.cons rfl (AOp.callPE (pre := ⟨[some ⟨58, [.t (.row 1 (byteTrs (d.code))), .t (.leaf (.int .i64 (((d.p : Nat) : Int)))), .t (.leaf (.int .i64 (d.h)))]⟩], []⟩) (st' := ⟨[some ⟨58, [.t (.row 1 (byteTrs ((d.after l.length).code))), .t (.leaf (.int .i64 ((((d.after l.length).p : Nat) : Int)))), .t (.leaf (.int .i64 ((d.after l.length).h)))]⟩], []⟩) (ps := [_, _]) (qs := [.ptr 0 0, .t (.leaf (.int .i64 (((l.length : Nat) : Int))))]) [0] [] rfl rfl Tryz.func33 (by kernel_rfl) rfl rfl rfl (by (try rw [hs]); exact ⟨rfl, rfl, by decide, by decide, fun k h => by rcases k with _ | k <;> simp at h; exact ⟨_, rfl⟩, fun k x h => by rcases k with _ | k <;> simp at h; subst h; exact ⟨_, rfl, rfl, leA, rfl⟩, fun r row h => by simp at h⟩) leA rfl rfl rfl (below_ok d l.length)) ?_; refine AL.cons rfl (AOp.index (k := d.below l.length) rfl rfl rfl rfl rfl (strTrs_cs hx) el39) ?_; refine AL.cons rfl (AOp.loadEptr1 (d := .leaf (.string (l[d.below l.length]))) rfl rfl rfl sh9 rfl) ?_; refine AL.cons rfl (AOp.move (.inr rfl) rfl rfl) ?_; refine AL.nil ?_; refine AWP.ret ?_; exact Ends.mk (ps := [_]) (.inr rfl) ⟨rfl, trivial⟩ rfl (StLe.mk' (st' := ⟨[some ⟨58, [.t (.row 1 (byteTrs ((d.after l.length).code))), .t (.leaf (.int .i64 ((((d.after l.length).p : Nat) : Int)))), .t (.leaf (.int .i64 ((d.after l.length).h)))]⟩], []⟩) ⟨⟨rfl, leA, rfl⟩, trivial⟩ rfl) (keeps_box hC ⟨_, rfl⟩) (q := .t (.leaf (.string (l[d.below l.length])))) leA rfl ⟨by rw [DS.pick_eq hx], by rfl⟩

set_option maxRecDepth 100000 in
set_option maxHeartbeats 4000000 in
theorem new_ok (code : List UInt8) (hb : code.length ≤ 1048576) : ANew Tryz.prog 14 [.t (.row 1 (byteTrs code))] 58 (DS.start code).cells := by
  refine ACalls.intro Tryz.func14 rfl (by first | decide | (simp; done) | (simp; decide)) ?_; intro C hC
  refine AWP.fact (lk_lenN 0 rfl rfl (byteTrs_len _)) (fun hl1 => ?_)
  refine AWP.seq ?_; refine AWP.region_lit ?_; refine AL.cons rfl (AOp.moveAny (.inl rfl)) ?_; refine AL.nil ?_; refine AWP.seq ?_; refine AWP.region_lit ?_; refine AL.cons rfl (AOp.move (.inl rfl) rfl rfl) ?_; refine AL.cons rfl (AOp.lenN rfl rfl rfl rfl el22 (byteTrs_len _)) ?_; refine AL.cons rfl (AOp.addI rfl rfl rfl rfl (c := ((28803 + code.length : Nat) : Int)) (by omega) (by omega)) ?_; refine AL.cons rfl (AOp.move (.inr rfl) rfl rfl) ?_; refine AL.nil ?_; refine AWP.seq ?_; refine AWP.seq ?_; refine AWP.region_lit ?_; refine AL.cons rfl (AOp.move (.inr rfl) rfl rfl) ?_; refine AL.nil ?_; refine AWP.block ?_; refine AWP.loopJ (ι := Nat × Int) (fun ⟨i, h⟩ => i ≤ code.length ∧ i ≤ 4000 ∧ newH code = ((code.take 4000).drop i).foldl newStep h) (fun ⟨i, h⟩ => ⟨[(0, .t (.row 1 (byteTrs (code)))), (3, .t (.leaf (.int .i64 (h)))), (4, .t (.leaf (.int .i64 (((i : Nat) : Int)))))], ⟨[], []⟩⟩) (fun ⟨i, h⟩ => code.length - i) (0, (28803 + (code.length : Int))) ?_ ?_ ?_
  · exact ⟨Nat.zero_le _, Nat.zero_le _, rfl⟩
  · exact Wk.mk (StLe.mk' trivial rfl) (keeps_nil hC) ⟨⟨_, rfl, .refl _, rfl⟩, ⟨⟨_, rfl, leA, rfl⟩, ⟨⟨_, rfl, leA, rfl⟩, trivial⟩⟩⟩
  rintro ⟨i, h⟩ hJ2
  obtain ⟨hi1, hi2, hi3⟩ := hJ2
  refine AWP.seq ?_; refine AWP.seq ?_; refine AWP.region_lit ?_; refine AL.cons rfl (AOp.move (.inl rfl) rfl rfl) ?_; refine AL.cons rfl (AOp.move (.inl rfl) rfl rfl) ?_; refine AL.cons rfl (AOp.lenN rfl rfl rfl rfl el22 (byteTrs_len _)) ?_; refine AL.cons rfl (AOp.lss rfl rfl rfl rfl) ?_; refine AL.cons rfl (AOp.move (.inl rfl) rfl rfl) ?_; refine AL.splitB 12 rfl (fun g3 => ?_) (fun g3 => ?_)
  · have g3b := g3
    try simp only [Bool.and_eq_true, Bool.or_eq_true, Bool.and_eq_false_iff, Bool.or_eq_false_iff, decide_eq_true_eq, decide_eq_false_iff_not, Bool.not_eq_true', Bool.not_eq_false', Bool.not_eq_eq_eq_not, Bool.not_true, Bool.not_false, ge_iff_le, gt_iff_lt, Int.not_lt, Int.not_le] at g3b
    have g3n : i < code.length := by omega
    refine AL.cons_gv rfl rfl rfl g3 (AOp.move (.inl rfl) rfl rfl) ?_; refine AL.cons_gv rfl rfl rfl g3 (AOp.lss rfl rfl rfl rfl) ?_; refine AL.cons rfl (AOp.pickT rfl rfl rfl g3 rfl) ?_; refine AL.nil ?_; refine AWP.cond rfl (fun h4 => ?_) (fun h4 => ?_)
    · have h4b := h4
      try simp only [Bool.and_eq_true, Bool.or_eq_true, Bool.and_eq_false_iff, Bool.or_eq_false_iff, decide_eq_true_eq, decide_eq_false_iff_not, Bool.not_eq_true', Bool.not_eq_false', Bool.not_eq_eq_eq_not, Bool.not_true, Bool.not_false, ge_iff_le, gt_iff_lt, Int.not_lt, Int.not_le] at h4b
      refine AWP.skip ?_; refine AWP.seq ?_; refine AWP.block ?_; refine AWP.region_lit ?_; refine AL.cons rfl (AOp.move (.inl rfl) rfl rfl) ?_; refine AL.cons rfl (AOp.mulW rfl rfl rfl rfl) ?_; refine AL.cons rfl (AOp.move (.inl rfl) rfl rfl) ?_; refine AL.cons rfl (AOp.move (.inl rfl) rfl rfl) ?_; refine AL.cons rfl (AOp.index (k := i) rfl rfl rfl rfl rfl (byteTrs_cs g3n) el22) ?_; refine AL.cons rfl (AOp.loadEptr1 (d := .leaf (.int .u8 (((code[i]).toNat : Int)))) rfl rfl rfl sh5 rfl) ?_; refine AL.cons rfl (AOp.convI rfl rfl rfl ⟨_, Tryz.underlying5⟩ Tryz.underlying3 (by first | omega | (have := UInt8.toNat_lt (code[i]); omega)) (by first | omega | (have := UInt8.toNat_lt (code[i]); omega))) ?_; refine AL.cons rfl (AOp.addW rfl rfl rfl rfl) ?_; refine AL.cons rfl (AOp.addW rfl rfl rfl rfl) ?_; refine AL.cons rfl (AOp.andI rfl rfl rfl rfl) ?_; refine AL.cons rfl (AOp.move (.inr rfl) rfl rfl) ?_; refine AL.nil ?_; refine AWP.region_lit ?_; refine AL.cons rfl (AOp.move (.inl rfl) rfl rfl) ?_; refine AL.cons rfl (AOp.addI rfl rfl rfl rfl (c := ((i + 1 : Nat) : Int)) (by omega) (by omega)) ?_; refine AL.cons rfl (AOp.move (.inr rfl) rfl rfl) ?_; refine AL.nil ?_; refine ⟨(i + 1, iAnd (wrap64 ((wrap64 ((wrap64 (h * 131)) + ((code[i]).toNat : Int))) + 7)) 1073741823), ?_, ?_, ?_⟩
      · exact ⟨by omega, by omega, newH_next (by omega) (by omega) hi3 rfl⟩
      · exact Wk.mk (StLe.mk' trivial rfl) (keeps_nil hC) ⟨⟨_, rfl, .refl _, rfl⟩, ⟨⟨_, rfl, leA, rfl⟩, ⟨⟨_, rfl, leA, rfl⟩, trivial⟩⟩⟩
      · dsimp only; omega
    · have h4b := h4
      try simp only [Bool.and_eq_true, Bool.or_eq_true, Bool.and_eq_false_iff, Bool.or_eq_false_iff, decide_eq_true_eq, decide_eq_false_iff_not, Bool.not_eq_true', Bool.not_eq_false', Bool.not_eq_eq_eq_not, Bool.not_true, Bool.not_false, ge_iff_le, gt_iff_lt, Int.not_lt, Int.not_le] at h4b
      refine AWP.exit ?_; refine AWP.seq ?_; refine AWP.region_lit ?_; refine AL.cons rfl (AOp.move (.inl rfl) rfl rfl) ?_; refine AL.cons rfl (AOp.move (.inl rfl) rfl rfl) ?_; refine AL.cons rfl (AOp.build rfl rfl zr58 pl58 rfl rfl) ?_; refine AL.cons rfl (AOp.box (cs := [.t (.row 1 (byteTrs (code))), .t (.leaf (.int .i64 (0))), .t (.leaf (.int .i64 (h)))]) rfl rfl rfl rfl rfl) ?_; refine AL.cons rfl (AOp.move (.inr rfl) rfl rfl) ?_; refine AL.nil ?_; refine AWP.ret ?_
      obtain rfl := newH_end (by omega) hi3
      exact Ends.mk (ps := [_]) (.inr rfl) ⟨rfl, trivial⟩ rfl (StLe.mk' (st' := ⟨[some ⟨58, (DS.start code).cells⟩], []⟩) ⟨⟨rfl, leA, rfl⟩, trivial⟩ rfl) (keeps_nil hC) (q := .ptr 0 0) (.refl _) rfl ⟨0, rfl, rfl, fun i x hx => by rcases i with _ | i <;> simp at hx <;> simp, rfl⟩
  · have g3b := g3
    try simp only [Bool.and_eq_true, Bool.or_eq_true, Bool.and_eq_false_iff, Bool.or_eq_false_iff, decide_eq_true_eq, decide_eq_false_iff_not, Bool.not_eq_true', Bool.not_eq_false', Bool.not_eq_eq_eq_not, Bool.not_true, Bool.not_false, ge_iff_le, gt_iff_lt, Int.not_lt, Int.not_le] at g3b
    have g3n : i ≥ code.length := by omega
    refine AL.skip_v rfl rfl rfl g3 rfl ?_; refine AL.skip_v rfl rfl rfl g3 rfl ?_; refine AL.cons rfl (AOp.pickF rfl rfl rfl g3 rfl) ?_; refine AL.nil ?_; refine AWP.cond rfl (fun h5 => ?_) (fun h5 => ?_)
    · exact absurd (h5.symm.trans rfl) (by decide)
    · have h5b := h5
      try simp only [Bool.and_eq_true, Bool.or_eq_true, Bool.and_eq_false_iff, Bool.or_eq_false_iff, decide_eq_true_eq, decide_eq_false_iff_not, Bool.not_eq_true', Bool.not_eq_false', Bool.not_eq_eq_eq_not, Bool.not_true, Bool.not_false, ge_iff_le, gt_iff_lt, Int.not_lt, Int.not_le] at h5b
      refine AWP.exit ?_; refine AWP.seq ?_; refine AWP.region_lit ?_; refine AL.cons rfl (AOp.move (.inl rfl) rfl rfl) ?_; refine AL.cons rfl (AOp.move (.inl rfl) rfl rfl) ?_; refine AL.cons rfl (AOp.build rfl rfl zr58 pl58 rfl rfl) ?_; refine AL.cons rfl (AOp.box (cs := [.t (.row 1 (byteTrs (code))), .t (.leaf (.int .i64 (0))), .t (.leaf (.int .i64 (h)))]) rfl rfl rfl rfl rfl) ?_; refine AL.cons rfl (AOp.move (.inr rfl) rfl rfl) ?_; refine AL.nil ?_; refine AWP.ret ?_
      obtain rfl := newH_end (by omega) hi3
      exact Ends.mk (ps := [_]) (.inr rfl) ⟨rfl, trivial⟩ rfl (StLe.mk' (st' := ⟨[some ⟨58, (DS.start code).cells⟩], []⟩) ⟨⟨rfl, leA, rfl⟩, trivial⟩ rfl) (keeps_nil hC) (q := .ptr 0 0) (.refl _) rfl ⟨0, rfl, rfl, fun i x hx => by rcases i with _ | i <;> simp at hx <;> simp, rfl⟩

end Go.Proofs.YtmpepccpnnldoaaGreat

namespace Go.Proofs.YtmpepccpnnldoaaGreat
open Go.RowKit

theorem bytes_of {w : World} {xs : List Int} {v : Value} (h : Rep w (.row 1 (xs.map fun n => [Tr.leaf (.int .u8 n)])) v) : ∃ code : List UInt8, (xs.map fun n => [Tr.leaf (.int .u8 n)]) = byteTrs code := by
  have hr : ∀ x ∈ xs, 0 ≤ x ∧ x ≤ 255 := by
    intro x hx
    obtain ⟨i, hi, rfl⟩ := List.mem_iff_getElem.1 hx
    cases h with
    | row c h1 h2 h3 h4 =>
      have := h4 i [Tr.leaf (.int .u8 xs[i])] (by simp [hi]) 0 _ rfl
      have := (this.leaf_eq).2
      simpa [LeafOk, Lit.wf, IntKind.min, IntKind.max, IntKind.bits, IntKind.signed] using this
  refine ⟨xs.map fun n => UInt8.ofNat n.toNat, ?_⟩
  unfold byteTrs
  rw [List.map_map]
  refine List.map_congr_left fun x hx => ?_
  have := hr x hx
  have h2 : (UInt8.ofNat x.toNat).toNat = x.toNat := by
    rw [UInt8.toNat_ofNat']
    omega
  simp only [Function.comp, h2]
  rw [Int.toNat_of_nonneg this.1]
end Go.Proofs.YtmpepccpnnldoaaGreat

namespace Go.Proofs.YtmpepccpnnldoaaGreat
open Go.RowKit
theorem RVL0.nil {w : World} : RVL0 w [] [] := trivial
theorem RVL0.cons {w : World} {p : PV} {ps : List PV} {v : Value} {vs : List Value} (h : RV0 w p v) (k : RVL0 w ps vs) : RVL0 w (p :: ps) (v :: vs) := ⟨h, k⟩
end Go.Proofs.YtmpepccpnnldoaaGreat

namespace Go.Proofs.YtmpepccpnnldoaaGreat
set_option linter.unusedSimpArgs false
set_option linter.unusedVariables false
open Go.RowKit Go.WalkArith Go.IntWalk Go.WideShapes

theorem RVL.set {ok : Nat → Nat → Prop} {st : Sto} {m : Lay} {w : World} {q : PV} : ∀ {ps : List PV} {vs : List Value} {j : Nat}, RVL ok st m w ps vs → (∀ v, vs[j]? = some v → RV ok st m w q v) → RVL ok st m w (ps.set j q) vs
  | [], [], j, _, _ => by simp [RVL]
  | p :: ps, v :: vs, 0, h, k => ⟨k v rfl, h.2⟩
  | p :: ps, v :: vs, j + 1, h, k => ⟨h.1, RVL.set h.2 fun u hu => k u (by simpa using hu)⟩
  | [], _ :: _, _, h, _ => h.elim
  | _ :: _, [], _, h, _ => h.elim
section
variable {P : Program} {C : Ctx} {n : Nat} {s : AS}
theorem Wk.regBox {k j : Nat} {bx : PBox} (E sz : Nat) (hsz : 0 < sz) (hb : s.st.boxes[k]? = some (some bx)) (hj : bx.cells[j]? = some .nil) :
    Wk C n s ⟨s.env, (s.st.addRow ⟨E, sz, [], false⟩).setBox k ⟨bx.ty, bx.cells.set j (.acc sz [] s.st.rows.length)⟩⟩ := fun m a w h => by
  have hE := ev_addRow (row := ⟨E, sz, [], false⟩) h.sto
  have hS := sto_addRow (row := ⟨E, sz, [], false⟩) h.sto hsz rfl
  have h1 := h.step hE hS
  have hb1 : (s.st.addRow ⟨E, sz, [], false⟩).boxes[k]? = some (some bx) := hb
  obtain ⟨vs, hob, hcs⟩ := hS.box k bx hb1
  have hc : RVL (okA C.av (s.st.addRow ⟨E, sz, [], false⟩) ⟨m.ρ, upd m.γ s.st.rows.length none⟩) (s.st.addRow ⟨E, sz, [], false⟩) ⟨m.ρ, upd m.γ s.st.rows.length none⟩ w (bx.cells.set j (.acc sz [] s.st.rows.length)) vs := by
    refine RVL.set hcs fun v hv => ?_
    obtain ⟨u, hu, hr⟩ := hcs.get hj
    rw [hv] at hu
    cases hu
    obtain rfl := (show v = _ from hr)
    exact ⟨⟨E, sz, [], false⟩, by show (s.st.rows ++ [_])[s.st.rows.length]? = _; simp, rfl, Nat.le_refl _, RepM.nilRow _ _ _ _ (by unfold maxLen; omega), fun _ => by simp [upd_same, rowVal]⟩
  exact ⟨_, h1.step (ev_setBox hS hb1 rfl rfl rfl rfl fun _ _ => rfl) (sto_setBox hS hb1 rfl rfl rfl rfl (fun _ _ => rfl) hob hc)⟩
end
end Go.Proofs.YtmpepccpnnldoaaGreat

namespace Go.Proofs.YtmpepccpnnldoaaGreat
open Go.RowKit Go.WalkArith Go.IntWalk Go.WideShapes
section
variable {P : Program} {C : Ctx} {n : Nat} {s : AS} {o : Oper}
theorem run_eqB {T : TypeId} (hT : P.underlying T = some .bool) (a b : Bool) (w : World) : (Op.equalIn Op.maxDepth T (.bool a) (.bool b)).run P w = .ok (a == b) w := by
  unfold Op.maxDepth Op.equalIn
  simp [run_underlying hT]
theorem AOp.eqlB {T yT : TypeId} {x y : Operand} {a b : Bool} (ho : o.op = .binOp .eql T x y yT) (hd : dstOk o.dst n = true) (hx : s.ev x = some (.t (.leaf (.bool a)))) (hy : s.ev y = some (.t (.leaf (.bool b)))) (hT : P.underlying T = some .bool) :
    AOp P C n o s (s.putO o.dst (.t (.leaf (.bool (decide (a = b)))))) := AOp.bin ho hd hx hy (fun w => by
      simp [eqGuard, binOp, Op.equal, run_eqB hT]
      cases a <;> cases b <;> rfl) trivial
end
end Go.Proofs.YtmpepccpnnldoaaGreat

namespace Go.Proofs.YtmpepccpnnldoaaGreat
set_option linter.unusedSimpArgs false
set_option linter.unusedVariables false
open Go.RowKit Go.WalkArith Go.IntWalk Go.WideShapes

/-- What a round of a loop says: on with s, out with s, or out of more than the loop. -/
inductive LR (σ β : Type) where
  | next (s : σ)
  | brk (s : σ)
  | ret (x : β)

def sw {α : Type} (b : Bool) (x y : α) : α := match b with
  | true => x
  | false => y
theorem swT {α : Type} {b : Bool} {x y z : α} (h : b = true) (k : x = z) : sw b x y = z := by rw [h]; exact k
theorem swF {α : Type} {b : Bool} {x y z : α} (h : b = false) (k : y = z) : sw b x y = z := by rw [h]; exact k
def lt {α β : Type} (x : α) (f : α → β) : β := f x
noncomputable def gd {α : Type} (p : Prop) (x : Option α) : Option α := @ite _ p (Classical.propDecidable p) x none
theorem gdT {α : Type} {p : Prop} {x z : Option α} (h : p) (k : x = z) : gd p x = z := by unfold gd; rw [if_pos h]; exact k
theorem gdF {α : Type} {p : Prop} {x : Option α} (h : ¬ p) : gd p x = none := by unfold gd; rw [if_neg h]
def bd {α β : Type} (m : Option α) (f : α → Option β) : Option β := match m with
  | none => none
  | some a => f a
theorem bdS {α β : Type} {m : Option α} {f : α → Option β} {a : α} {z : Option β} (h : m = some a) (k : f a = z) : bd m f = z := by rw [h]; exact k
def so {σ β : Type} (m : Option (β ⊕ σ)) (f : σ → Option β) : Option β := match m with
  | none => none
  | some (.inl x) => some x
  | some (.inr s) => f s
theorem soR {σ β : Type} {m : Option (β ⊕ σ)} {f : σ → Option β} {s : σ} {z : Option β} (h : m = some (.inr s)) (k : f s = z) : so m f = z := by rw [h]; exact k
theorem soL {σ β : Type} {m : Option (β ⊕ σ)} {f : σ → Option β} {x : β} (h : m = some (.inl x)) : so m f = some x := by rw [h]; rfl
def loopN {σ β : Type} (f : Nat → σ → Option (LR σ β)) : Nat → Nat → σ → Option (β ⊕ σ)
  | 0, _, s => some (.inr s)
  | k + 1, i, s => match f i s with
    | none => none
    | some (.next s') => loopN f k (i + 1) s'
    | some (.brk s') => some (.inr s')
    | some (.ret x) => some (.inl x)
def loopW {σ β : Type} (f : σ → Option (LR σ β)) : Nat → σ → Option (β ⊕ σ)
  | 0, _ => none
  | k + 1, s => match f s with
    | none => none
    | some (.next s') => loopW f k s'
    | some (.brk s') => some (.inr s')
    | some (.ret x) => some (.inl x)
section
variable {σ β : Type} {f : Nat → σ → Option (LR σ β)} {n i : Nat} {s s' : σ} {x : β} {R : Option (β ⊕ σ)}
theorem loopN_next (h : i < n) (hJ : R = loopN f (n - i) i s) (e : f i s = some (.next s')) : R = loopN f (n - (i + 1)) (i + 1) s' := by
  rw [hJ, show n - i = (n - (i + 1)) + 1 by omega, loopN, e]
theorem loopN_brk (h : i < n) (hJ : R = loopN f (n - i) i s) (e : f i s = some (.brk s')) : R = some (.inr s') := by
  rw [hJ, show n - i = (n - (i + 1)) + 1 by omega, loopN, e]
theorem loopN_ret (h : i < n) (hJ : R = loopN f (n - i) i s) (e : f i s = some (.ret x)) : R = some (.inl x) := by
  rw [hJ, show n - i = (n - (i + 1)) + 1 by omega, loopN, e]
theorem loopN_end (h : n ≤ i) (hJ : R = loopN f (n - i) i s) : R = some (.inr s) := by
  rw [hJ, show n - i = 0 by omega, loopN]
end
section
variable {σ β : Type} {f : σ → Option (LR σ β)} {k : Nat} {s s' : σ} {x : β} {R : Option (β ⊕ σ)}
end
/-! ### Ways that meet again -/
section
variable {P : Program} {C : Ctx} {n : Nat} {s : AS} {Q : Exit → AS → Prop}
def QC (C : Ctx) (n : Nat) (Q : Exit → AS → Prop) : Prop := ∀ e s s', Wk C n s s' → Q e s' → Q e s
def NC (C : Ctx) (n : Nat) (N : AS → Prop) : Prop := ∀ s s', Wk C n s s' → N s' → N s
theorem ncAWP {c : Code} : NC C n (AWP P C n c Q) := fun _ _ h k => AWP.weak h k
theorem qcThen {N : AS → Prop} (hn : NC C n N) (hq : QC C n Q) : QC C n (thenA N Q) := fun e s s' h k => by
  cases e with
  | normal => exact hn s s' h k
  | _ => exact hq _ s s' h k
theorem qcBlock {id : Nat} (hq : QC C n Q) : QC C n (inBlockA id Q) := fun e s s' h k => by
  cases e with
  | exit i =>
    simp only [inBlockA] at k ⊢
    split
    · rename_i hi; rw [if_pos hi] at k; exact hq _ s s' h k
    · rename_i hi; rw [if_neg hi] at k; exact hq _ s s' h k
  | _ => exact hq _ s s' h k
theorem qcEnds {fn : Func} {R : PV → Sto → Prop} : QC C n (Ends P C n fn R) := fun e s s' h k => ⟨k.1, fun m a w hr => by
  obtain ⟨m', h'⟩ := h m a w hr
  exact k.2 m' a w h'⟩
end
end Go.Proofs.YtmpepccpnnldoaaGreat

namespace Go.Proofs.YtmpepccpnnldoaaGreat
set_option linter.unusedSimpArgs false
set_option linter.unusedVariables false
open Go.RowKit Go.WalkArith Go.IntWalk Go.WideShapes

section
variable {P : Program} {C : Ctx} {n : Nat} {s : AS} {o : Oper}
/-- What has been filled to its end is plain data. -/
theorem Wk.full {i E sz N r : Nat} {es : List (List Tr)} {b : Bool} (hx : s.lk i = some (.full sz N r)) (hrow : s.st.rows[r]? = some ⟨E, sz, es, b⟩) (hl : es.length = N) : Wk C n s (s.put i (.t (.row sz es))) := fun m a w h => by
  refine ⟨m, h.dfr, h.tsz, h.sto, fun j q hq => ?_, h.ev⟩
  rw [AS.lk_put] at hq
  split at hq
  · rename_i e
    subst e
    cases hq
    obtain ⟨v, hv, row, g, q1, q2, q3, q4, q5⟩ := h.env j _ hx
    refine ⟨v, hv, ?_⟩
    rw [hrow] at q1
    cases q1
    obtain ⟨-, -, hplace⟩ := h.sto.row r _ hrow
    rcases hplace with ⟨z1, -⟩ | ⟨g', c', cur, z1, hob, hcs, hfit, hmax, hrep⟩
    · rw [q4] at z1; cases z1
    rw [q4] at z1
    injection z1 with z1
    injection z1 with e1 e2
    subst e1 e2
    subst q5
    show RepM _ _ (.row sz es) _
    have : RepM (okA C.av s.st m) w (.row sz es) (.slice (some ⟨g, 0, none⟩) es.length N) := hrep
    rw [hl] at this
    exact this
  · exact h.env j q hq
end
end Go.Proofs.YtmpepccpnnldoaaGreat

namespace Go.Proofs.YtmpepccpnnldoaaGreat
set_option linter.unusedSimpArgs false
set_option linter.unusedVariables false
open Go.RowKit Go.WalkArith Go.IntWalk Go.WideShapes

/-- Byte k of a string. -/
def bAt (v : ByteArray) (k : Nat) : UInt8 := (v[k]?).getD 0
section
variable {P : Program} {C : Ctx} {n : Nat} {s : AS} {o : Oper}
theorem wf_u8 (b : UInt8) : LeafOk (.int .u8 (b.toNat : Int)) := by
  have := b.toNat_lt
  simp [LeafOk, Lit.wf, IntKind.min, IntKind.max, IntKind.bits, IntKind.signed]
  omega
theorem AOp.indexS {T : TypeId} {x i : Operand} {v : ByteArray} {k : Nat} (ho : o.op = .index T x i) (hd : dstOk o.dst n = true) (hx : s.ev x = some (.t (.leaf (.string v)))) (hi : s.ev i = some (.t (.leaf (.int .i64 (k : Int))))) (hk : k < v.size) (hT : P.underlying T = some .string) :
    AOp P C n o s (s.putO o.dst (.t (.leaf (.int .u8 ((bAt v k).toNat : Int))))) :=
  AOp.quiet (dstOk_lt hd) fun m a w h => by
    have h1 := (RepM.leaf_eq (h.eval hx)).1
    have h2 := (RepM.leaf_eq (h.eval hi)).1
    refine ⟨.int .u8 ((bAt v k).toNat : Int), ?_, RepM.leaf (wf_u8 _)⟩
    have h3 : v[k]? = some v[k] := by simp [hk]
    unfold execOp
    simp [ho, h1, h2, Instr.index, asIntOf, run_underlying hT, h3, bAt]
theorem AOp.indexSI {T : TypeId} {x i : Operand} {v : ByteArray} {y : Int} (ho : o.op = .index T x i) (hd : dstOk o.dst n = true) (hx : s.ev x = some (.t (.leaf (.string v)))) (hi : s.ev i = some (.t (.leaf (.int .i64 y)))) (h0 : 0 ≤ y) (hk : y.toNat < v.size) (hT : P.underlying T = some .string) :
    AOp P C n o s (s.putO o.dst (.t (.leaf (.int .u8 ((bAt v y.toNat).toNat : Int))))) :=
  AOp.indexS (k := y.toNat) ho hd hx (by rw [hi, Int.toNat_of_nonneg h0]) hk hT
/-- The places that a slicing names. -/
def lowOf (s : AS) : Option Operand → Option Int
  | none => some 0
  | some x => match s.ev x with
    | some (.t (.leaf (.int .i64 y))) => some y
    | _ => none
def highOf (s : AS) (len : Nat) : Option Operand → Option Int
  | none => some (len : Int)
  | some x => match s.ev x with
    | some (.t (.leaf (.int .i64 y))) => some y
    | _ => none
theorem ev_int {m : Lay} {a : Act} {w : World} (h : RA C n s m a w) {x : Operand} {y : Int} (hx : s.ev x = some (.t (.leaf (.int .i64 y)))) : a.eval x = .int .i64 y := (RepM.leaf_eq (h.eval hx)).1
theorem lowOf.some' {x : Operand} {y : Int} (h : lowOf s (some x) = some y) : s.ev x = some (.t (.leaf (.int .i64 y))) := by
  unfold lowOf at h
  simp only at h
  split at h
  · rename_i z hz
    simp only [Option.some.injEq] at h
    rw [hz, h]
  · cases h
theorem highOf.some' {x : Operand} {y : Int} {len : Nat} (h : highOf s len (some x) = some y) : s.ev x = some (.t (.leaf (.int .i64 y))) := by
  unfold highOf at h
  simp only at h
  split at h
  · rename_i z hz
    simp only [Option.some.injEq] at h
    rw [hz, h]
  · cases h
theorem run_bounds {m : Lay} {a : Act} {w : World} (h : RA C n s m a w) {isS : Bool} {len cap : Nat} {lo hi : Option Operand} {l k : Int} (hlen : len ≤ cap) (h1 : lowOf s lo = some l) (h2 : highOf s len hi = some k) (h3 : 0 ≤ l) (h4 : l ≤ k) (h5 : k ≤ (len : Int)) :
    (Instr.sliceBounds isS len cap (lo.map a.eval) (hi.map a.eval) none).run P w = .ok (l.toNat, k.toNat, cap) w := by
  have hk : 0 ≤ k := by omega
  have hkc : k ≤ (cap : Int) := by omega
  have hlk : l ≤ (k.toNat : Int) := by omega
  cases lo with
  | none =>
    simp only [lowOf, Option.some.injEq] at h1
    subst h1
    cases hi with
    | none =>
      simp only [highOf, Option.some.injEq] at h2
      subst h2
      simp [Instr.sliceBounds]
    | some y =>
      have e := ev_int h (highOf.some' h2)
      simp [Instr.sliceBounds, Instr.sliceBound, e, asIntOf, hk, hkc]
  | some x =>
    have e := ev_int h (lowOf.some' h1)
    cases hi with
    | none =>
      simp only [highOf, Option.some.injEq] at h2
      subst h2
      simp [Instr.sliceBounds, Instr.sliceBound, e, asIntOf, h3, h4]
    | some y =>
      have e2 := ev_int h (highOf.some' h2)
      have hm : max k 0 = k := Int.max_eq_left hk
      simp [Instr.sliceBounds, Instr.sliceBound, e, e2, asIntOf, hk, hkc, h3, hlk, hm, h4]
      try omega
theorem AOp.sliceS {T : TypeId} {x : Operand} {lo hi : Option Operand} {v : ByteArray} {l k : Int} (ho : o.op = .slice T x lo hi none) (hd : dstOk o.dst n = true) (hx : s.ev x = some (.t (.leaf (.string v)))) (h1 : lowOf s lo = some l) (h2 : highOf s v.size hi = some k) (h3 : 0 ≤ l ∧ l ≤ k ∧ k ≤ (v.size : Int)) (hT : P.underlying T = some .string) :
    AOp P C n o s (s.putO o.dst (.t (.leaf (.string (v.extract l.toNat k.toNat))))) :=
  AOp.quiet (dstOk_lt hd) fun m a w h => by
    obtain ⟨e, h6⟩ := RepM.leaf_eq (h.eval hx)
    have h6 : v.size ≤ maxLen := h6
    refine ⟨.string (v.extract l.toNat k.toNat), ?_, RepM.leaf ?_⟩
    · have hb := run_bounds (P := P) h (isS := false) (Nat.le_refl v.size) h1 h2 h3.1 h3.2.1 h3.2.2
      unfold execOp
      simp [ho, e, Instr.sliceAt, Instr.slice, run_underlying hT, hb]
    · show (v.extract l.toNat k.toNat).size ≤ maxLen
      rw [ByteArray.size_extract]
      omega
theorem RepM.part {ok : Nat → Nat → Prop} {w : World} {sz : Nat} {es : List (List Tr)} {a : Option Addr} {cap l k : Nat} (h : RepM ok w (.row sz es) (.slice a es.length cap)) (h1 : l ≤ k) (h2 : k ≤ es.length) : RepM ok w (.row sz ((es.take k).drop l)) (.slice (if cap = l then a else a.map (·.add (l * sz))) (k - l) (cap - l)) := by
  cases h with
  | row c q1 q2 q3 q4 =>
    have hlen : ((es.take k).drop l).length = k - l := by simp; omega
    have hget : ∀ (i : Nat) e, ((es.take k).drop l)[i]? = some e → es[l + i]? = some e := fun i e he => by
      rw [List.getElem?_drop, List.getElem?_take] at he
      split at he
      · exact he
      · cases he
    have := RepM.row (ok := ok) (w := w) (sz := sz) (es := (es.take k).drop l) (a := if cap = l then a else a.map (·.add (l * sz))) (cap := cap - l) (fun i j => c (l + i) j) (by rw [hlen]; omega) (by omega) (fun hne => ?_) (fun i e he j d hd => q4 _ e (hget i e he) j d hd)
    · rwa [hlen] at this
    · have hkl : l < k := by
        rcases Nat.lt_or_ge l k with h | h
        · exact h
        · exact absurd (List.length_eq_zero_iff.1 (by rw [hlen]; omega)) hne
      obtain ⟨b, off, rfl, hb, q5⟩ := q3 (by rintro rfl; simp at h2; omega)
      refine ⟨b, off + l * sz, ?_, hb, fun i e he j d hd => ?_⟩
      · rw [if_neg (by omega)]
        have hadd : (⟨b, off, none⟩ : Addr).add (l * sz) = ⟨b, off + l * sz, none⟩ := by unfold Addr.add; split <;> simp_all
        simp [hadd]
      · have := q5 (l + i) e (hget i e he) j d hd
        rw [show off + l * sz + i * sz + j = off + (l + i) * sz + j by rw [Nat.add_mul]; omega]
        exact this
theorem AOp.sliceR {T E sz by_ : Nat} {x : Operand} {lo hi : Option Operand} {p : PV} {es : List (List Tr)} {l k : Int} (ho : o.op = .slice T x lo hi none) (hd : dstOk o.dst n = true) (hx : s.ev x = some p) (hp : rowOf p = some (sz, es)) (h1 : lowOf s lo = some l) (h2 : highOf s es.length hi = some k) (h3 : 0 ≤ l ∧ l ≤ k ∧ k ≤ (es.length : Int)) (hT : elemOf? P T = some (E, sz, by_)) :
    AOp P C n o s (s.putO o.dst (.t (.row sz ((es.take k.toNat).drop l.toNat)))) :=
  AOp.quiet (dstOk_lt hd) fun m a w h => by
    have hr := rowOf_rv hp (h.eval hx)
    obtain ⟨i, hu, hi', hs, -⟩ := elemOf?.spec hT
    obtain ⟨ad, cap, hv, hlc, hcm⟩ := hr.shape
    rw [hv] at hr
    refine ⟨_, ?_, hr.part (l := l.toNat) (k := k.toNat) (by omega) (by omega)⟩
    have hb := run_bounds (P := P) h (isS := true) hlc h1 h2 h3.1 h3.2.1 h3.2.2
    unfold execOp
    simp [ho, hv, Instr.sliceAt, Instr.slice, run_underlying hu, hb, Go.sizeOf, typeInfo, hi', hs]
theorem AOp.maxI {x y : Operand} {ts : Array TypeId} {a b : Int} (ho : o.op = .call { callee := .builtin .max, args := #[x, y], argTypes := ts }) (hd : dstOk o.dst n = true) (hx : s.ev x = some (.t (.leaf (.int .i64 a)))) (hy : s.ev y = some (.t (.leaf (.int .i64 b)))) :
    AOp P C n o s (s.putO o.dst (.t (.leaf (.int .i64 (max a b))))) :=
  AOp.quiet (dstOk_lt hd) fun m ac w h => by
    obtain ⟨h1, k1⟩ := RepM.leaf_eq (h.eval hx)
    obtain ⟨h2, k2⟩ := RepM.leaf_eq (h.eval hy)
    refine ⟨.int .i64 (max a b), ?_, RepM.leaf ?_⟩
    · unfold execOp
      have hmx : (if b > a then b else a) = max a b := by
        by_cases hba : b > a
        · rw [if_pos hba, Int.max_eq_right (by omega)]
        · rw [if_neg hba, Int.max_eq_left (by omega)]
      have hrun : (Builtin.max2 (.int .i64 a) (.int .i64 b)).run P w = .ok (.int .i64 (max a b)) w := by
        have e : Builtin.max2 (.int .i64 a) (.int .i64 b) = pure (.int .i64 (if b > a then b else a)) := rfl
        rw [e, hmx]
        rfl
      simp [ho, resolve, invoke, builtin, h1, h2, Builtin.max_, hrun]
    · rcases Int.le_total a b with h | h
      · rw [Int.max_eq_right h]; exact k2
      · rw [Int.max_eq_left h]; exact k1
end
end Go.Proofs.YtmpepccpnnldoaaGreat

namespace Go.Proofs.YtmpepccpnnldoaaGreat
open Go.RowKit Go.Proofs
end Go.Proofs.YtmpepccpnnldoaaGreat

namespace Go.Proofs.YtmpepccpnnldoaaGreat
set_option linter.unusedSimpArgs false
set_option linter.unusedVariables false
open Go.RowKit Go.WalkArith Go.IntWalk Go.WideShapes

instance : Inhabited ByteArray := ⟨⟨#[]⟩⟩
def atD {α : Type} [Inhabited α] (l : List α) (k : Nat) : α := (l[k]?).getD default
theorem atD_eq {α : Type} [Inhabited α] {l : List α} {k : Nat} (h : k < l.length) : atD l k = l[k] := by simp [atD, h]
theorem strTrs_at {l : List ByteArray} {k : Nat} (h : k < l.length) : (strTrs l)[k]? = some [.leaf (.string (atD l k))] := by rw [atD_eq h]; exact strTrs_cs h
theorem intTrs_at {l : List Int} {k : Nat} (h : k < l.length) : (intTrs l)[k]? = some [.leaf (.int .i64 (atD l k))] := by rw [atD_eq h]; exact intTrs_cs h
theorem byteTrs_at {l : List UInt8} {k : Nat} (h : k < l.length) : (byteTrs l)[k]? = some [.leaf (.int .u8 ((atD l k).toNat : Int))] := by rw [atD_eq h]; exact byteTrs_cs h
theorem room_le {a b c : Nat} (h : a + b ≤ 68719476736) (hc : c ≤ 2048) : (a + b) * c ≤ 140737488355328 := by
  have := Nat.mul_le_mul h hc
  omega
theorem AOp.congrP {P : Program} {C : Ctx} {n : Nat} {s : AS} {o : Oper} {sz : Nat} {es es' : List (List Tr)} (h : AOp P C n o s (s.putO o.dst (.t (.row sz es)))) (e : es = es') : AOp P C n o s (s.putO o.dst (.t (.row sz es'))) := e ▸ h
theorem nat_lt_of2 {a b : Nat} (h : decide ((a : Int) < (b : Int)) = true) : a < b := nat_lt_of h
theorem nat_ge_of2 {a b : Nat} (h : decide ((a : Int) < (b : Int)) = false) : b ≤ a := nat_ge_of h
theorem nat_lt_of3 {a : Nat} {b : Int} (h : decide ((a : Int) < b) = true) : a < b.toNat := by have := of_decide_eq_true h; omega
theorem nat_ge_of3 {a : Nat} {b : Int} (h : decide ((a : Int) < b) = false) : b.toNat ≤ a := by have := of_decide_eq_false h; omega
/-- Box by box, row by row: what is handed over. -/
def PartBoxes (s : Sto) (fb0 fr0 : List Nat) (pre : Sto) : List Nat → List (Option PBox) → Prop
  | [], [] => True
  | k :: fb, some x :: bs => (∃ y, s.boxes[k]? = some (some y) ∧ y.ty = x.ty ∧ LeL y.cells (renL fb0 fr0 x.cells) ∧ okInL pre x.cells = true) ∧ PartBoxes s fb0 fr0 pre fb bs
  | _, _ => False
def PartRows (s : Sto) : List Nat → List PRow → Prop
  | [], [] => True
  | r :: fr, row :: rs => s.rows[r]? = some row ∧ PartRows s fr rs
  | _, _ => False
theorem PartBoxes.len {s pre : Sto} {fb0 fr0 : List Nat} : ∀ {fb : List Nat} {bs : List (Option PBox)}, PartBoxes s fb0 fr0 pre fb bs → fb.length = bs.length
  | [], [], _ => rfl
  | _ :: _, some _ :: _, h => by simp [PartBoxes.len h.2]
  | _ :: _, none :: _, h => h.elim
  | [], _ :: _, h => h.elim
  | _ :: _, [], h => h.elim
theorem PartBoxes.get {s pre : Sto} {fb0 fr0 : List Nat} : ∀ {fb : List Nat} {bs : List (Option PBox)}, PartBoxes s fb0 fr0 pre fb bs → ∀ k, k < bs.length → ∃ x, bs[k]? = some (some x) ∧ ∃ y, s.boxes[fb.getD k 0]? = some (some y) ∧ y.ty = x.ty ∧ LeL y.cells (renL fb0 fr0 x.cells) ∧ okInL pre x.cells = true
  | [], [], _, k, h => by simp at h
  | _ :: _, some x :: _, h, 0, _ => ⟨x, rfl, h.1⟩
  | _ :: _, some _ :: _, h, k + 1, hk => by simpa using PartBoxes.get h.2 k (by simpa using hk)
  | _ :: _, none :: _, h, _, _ => h.elim
  | [], _ :: _, h, _, _ => h.elim
  | _ :: _, [], h, _, _ => h.elim
theorem PartRows.len {s : Sto} : ∀ {fr : List Nat} {rs : List PRow}, PartRows s fr rs → fr.length = rs.length
  | [], [], _ => rfl
  | _ :: _, _ :: _, h => by simp [PartRows.len h.2]
  | [], _ :: _, h => h.elim
  | _ :: _, [], h => h.elim
theorem PartRows.get {s : Sto} : ∀ {fr : List Nat} {rs : List PRow}, PartRows s fr rs → ∀ k row, rs[k]? = some row → s.rows[fr.getD k 0]? = some row
  | [], [], _, k, _, h => by simp at h
  | _ :: _, _ :: _, h, 0, row, hr => by simp at hr; subst hr; exact h.1
  | _ :: _, _ :: _, h, k + 1, row, hr => by simpa using PartRows.get h.2 k row (by simpa using hr)
  | [], _ :: _, h, _, _, _ => h.elim
  | _ :: _, [], h, _, _, _ => h.elim
theorem Part0.of {s pre : Sto} {fb fr : List Nat} (hb : PartBoxes s fb fr pre fb pre.boxes) (hr : PartRows s fr pre.rows) (n1 : fb.Nodup) (n2 : fr.Nodup) : Part0 s pre fb fr where
  fbl := hb.len
  frl := hr.len
  fbn := n1
  frn := n2
  all := fun k hk => by
    obtain ⟨x, hx, -⟩ := hb.get k hk
    exact ⟨x, hx⟩
  box := fun k x hx => by
    obtain ⟨x', hx', h⟩ := hb.get k (List.getElem?_eq_some_iff.1 hx).1
    rw [hx] at hx'
    cases hx'
    exact h
  row := hr.get
section
variable {P : Program} {C : Ctx} {n : Nat} {s : AS} {o : Oper}
theorem AL.skipP {ops : Array Oper} {rest : List Oper} {Q : Exit → AS → Prop} {j d : Nat} {b c e : Bool} (hg : o.guard = some (j, c)) (hj : (ops[j]?).bind (·.dst) = some d) (hb : s.lk d = some (.t (.leaf (.bool b)))) (hv : b = e) (hne : (e == c) = false) (hd : dstOk o.dst n = true) (h : AL P C n ops rest Q (s.putO o.dst (.tup []))) : AL P C n ops (o :: rest) Q s := fun m a w hr =>
  wpList_step fun K hK => by
    subst hv
    rw [if_neg (by simpa [Region.wanted, hg, hr.yielded hj hb] using hne)]
    exact hK _ _ (h m _ w (hr.put (dstOk_lt hd) ⟨[], rfl, trivial⟩))
theorem AL.skipU {ops : Array Oper} {rest : List Oper} {Q : Exit → AS → Prop} {j d : Nat} {c : Bool} (hg : o.guard = some (j, c)) (hj : (ops[j]?).bind (·.dst) = some d) (hb : s.lk d = some (.tup [])) (hd : dstOk o.dst n = true) (h : AL P C n ops rest Q (s.putO o.dst (.tup []))) : AL P C n ops (o :: rest) Q s := fun m a w hr =>
  wpList_step fun K hK => by
    have hy : yielded ops a.tmps j = none := by
      obtain ⟨v, hv, vs, rfl, hl⟩ := hr.env d _ hb
      simp [Go.yielded, hj, hv]
    rw [if_neg (by simp [Region.wanted, hg, hy])]
    exact hK _ _ (h m _ w (hr.put (dstOk_lt hd) ⟨[], rfl, trivial⟩))
theorem AOp.buildSliceE {T E sz by_ len : Nat} {parts : Array (Nat × Operand)} {ps : List (Nat × List PV)} {zs cs : List PV} {es es' : List (List Tr)} (ho : o.op = .buildSlice T len parts) (hd : dstOk o.dst n = true) (hT : elemOf? P T = some (E, sz, by_)) (hz : zerosOf P E = some zs) (hp : partsP s parts.toList = some ps)
    (hc : fillP (fun i => some (i * sz, sz)) (List.replicate len zs).flatten ps = some cs) (hle : LeL cs (es.flatten.map PV.t)) (hel : es.length = len) (hes : ∀ e ∈ es, e.length = sz) (hsz : 0 < sz) (hzl : zs.length = sz) (hsm : len * sz ≤ 16777216) (he : es = es') :
    AOp P C n o s (s.putO o.dst (.t (.row sz es'))) := he ▸ AOp.buildSliceQ ho hd hT hz hp hc hle hel hes hsz hzl hsm
theorem AOp.buildSliceA {T E sz by_ len : Nat} {parts : Array (Nat × Operand)} {ps : List (Nat × List PV)} {zs cs : List PV} {es es' : List (List Tr)} (ho : o.op = .buildSlice T len parts) (hd : dstOk o.dst n = true) (hT : elemOf? P T = some (E, sz, by_)) (hz : zerosOf P E = some zs) (hp : partsP s parts.toList = some ps)
    (hc : fillP (fun i => some (i * sz, sz)) (List.replicate len zs).flatten ps = some cs) (hle : LeL cs (es.flatten.map PV.t)) (hel : es.length = len) (hes : ∀ e ∈ es, e.length = sz) (hsz : 0 < sz) (hzl : zs.length = sz) (hsm : len * sz ≤ 16777216) (he : es = es') :
    AOp P C n o s ((⟨s.env, s.st.addRow ⟨E, sz, es', false⟩⟩ : AS).putO o.dst (.acc sz es' s.st.rows.length)) := he ▸ AOp.buildSlice ho hd hT hz hp hc hle hel hes hsz hzl hsm
end
theorem keeps_all {C : Ctx} {bs : List (Option PBox)} {rs : List PRow} {S : Sto} (h : C.st = ⟨bs, rs⟩) (hb : ∀ k, k < bs.length → ∃ y, S.boxes[k]? = some (some y)) (hl : rs.length ≤ S.rows.length) : Keeps0 C.st S := by
  rw [h]
  exact ⟨fun k x hx => hb k (List.getElem?_eq_some_iff.1 hx).1, fun k row hk => ⟨S.rows[k]'(Nat.lt_of_lt_of_le (List.getElem?_eq_some_iff.1 hk).1 hl), List.getElem?_eq_getElem _⟩⟩
theorem boxes1 {S : Sto} {x : PBox} {bs : List (Option PBox)} (h : S.boxes = some x :: bs) : ∀ k, k < 1 → ∃ y, S.boxes[k]? = some (some y) := fun k hk => by
  obtain rfl : k = 0 := by omega
  exact ⟨x, by rw [h]; rfl⟩
theorem boxes2 {S : Sto} {x y : PBox} {bs : List (Option PBox)} (h : S.boxes = some x :: some y :: bs) : ∀ k, k < 2 → ∃ y, S.boxes[k]? = some (some y) := fun k hk => by
  rcases (by omega : k = 0 ∨ k = 1) with rfl | rfl
  · exact ⟨x, by rw [h]; rfl⟩
  · exact ⟨y, by rw [h]; rfl⟩
theorem boxes3 {S : Sto} {x y z : PBox} {bs : List (Option PBox)} (h : S.boxes = some x :: some y :: some z :: bs) : ∀ k, k < 3 → ∃ y, S.boxes[k]? = some (some y) := fun k hk => by
  rcases (by omega : k = 0 ∨ k = 1 ∨ k = 2) with rfl | rfl | rfl
  · exact ⟨x, by rw [h]; rfl⟩
  · exact ⟨y, by rw [h]; rfl⟩
  · exact ⟨z, by rw [h]; rfl⟩
theorem boxes0 {S : Sto} : ∀ k, k < 0 → ∃ y, S.boxes[k]? = some (some y) := fun k hk => absurd hk (Nat.not_lt_zero _)
instance : Inhabited GInstanceRef := ⟨.mk 0 0⟩
instance : Inhabited GSExpr := ⟨.mk ⟨#[]⟩ []⟩
theorem GSExpr.trs_part (l : List GSExpr) (a b : Nat) : ((GSExpr.trs l).take b).drop a = GSExpr.trs ((l.take b).drop a) := by rw [GSExpr.trs_map, GSExpr.trs_map, List.map_drop, List.map_take]
theorem GSExpr.trs_at {l : List GSExpr} {k : Nat} (h : k < l.length) : (GSExpr.trs l)[k]? = some (atD l k).cs := by rw [atD_eq h]; exact GSExpr.trs_cs h
instance : Inhabited GType := ⟨.mk 0 ⟨#[]⟩ []⟩
theorem GType.trs_part (l : List GType) (a b : Nat) : ((GType.trs l).take b).drop a = GType.trs ((l.take b).drop a) := by rw [GType.trs_map, GType.trs_map, List.map_drop, List.map_take]
theorem GType.trs_at {l : List GType} {k : Nat} (h : k < l.length) : (GType.trs l)[k]? = some (atD l k).cs := by rw [atD_eq h]; exact GType.trs_cs h
instance : Inhabited GBinding := ⟨.mk ⟨#[]⟩ default⟩
instance : Inhabited GExpr := ⟨.mk 0 ⟨#[]⟩ ⟨#[]⟩ 0 default [] []⟩
instance : Inhabited GArm := ⟨.mk ⟨#[]⟩ [] default⟩
instance : Inhabited GSignature := ⟨.mk ⟨#[]⟩ [] default false [] default⟩
instance : Inhabited GTrait := ⟨.mk ⟨#[]⟩ [] false false []⟩
instance : Inhabited GConstructor := ⟨.mk ⟨#[]⟩ []⟩
instance : Inhabited GDataType := ⟨.mk ⟨#[]⟩ [] []⟩
instance : Inhabited GBound := ⟨.mk ⟨#[]⟩ default⟩
theorem GBound.trs_at {l : List GBound} {k : Nat} (h : k < l.length) : (GBound.trs l)[k]? = some (atD l k).cs := by rw [atD_eq h]; exact GBound.trs_cs h
instance : Inhabited GMethod := ⟨.mk ⟨#[]⟩ [] default⟩
instance : Inhabited GInstance := ⟨.mk ⟨#[]⟩ [] default [] false false default []⟩
instance : Inhabited GParam := ⟨.mk ⟨#[]⟩ default⟩
instance : Inhabited GFunction := ⟨.mk ⟨#[]⟩ [] [] [] default default⟩
instance : Inhabited GPackage := ⟨.mk ⟨#[]⟩ [] [] [] [] []⟩
instance : Inhabited GProgram := ⟨.mk []⟩
instance : Inhabited Gview := ⟨.mk default []⟩
instance : Inhabited GEvidence := ⟨.mk 0 0 default []⟩
instance : Inhabited GAssumption := ⟨.mk default 0 []⟩
instance : Inhabited Gl2In := ⟨.mk ⟨#[]⟩ 0 0 0 false⟩
instance : Inhabited GCache := ⟨.mk [] [] []⟩
end Go.Proofs.YtmpepccpnnldoaaGreat

namespace Go.Proofs.YtmpepccpnnldoaaGreat
set_option linter.unusedSimpArgs false
set_option linter.unusedVariables false
open Go.RowKit Go.WalkArith Go.IntWalk Go.WideShapes

section
variable {P : Program} {C : Ctx} {n : Nat} {s : AS} {o : Oper}
/-! ### A box that is written no more -/
mutual
inductive FLe (k sz : Nat) (es : List (List Tr)) : PV → PV → Prop
  | le {p q : PV} : PV.Le p q → FLe k sz es p q
  | bsl {n : Nat} : es.length = n → FLe k sz es (.bsl k n) (.t (.row sz es))
  | bslL {n : Nat} : es.length = n → FLe k sz es (.bsl k n) (.lit sz es)
  | gsl {n : Nat} : es.length = n → FLe k sz es (.gsl k n) (.t (.row sz es))
  | agg {ps qs : List PV} : FLeL k sz es ps qs → FLe k sz es (.agg ps) (.agg qs)
inductive FLeL (k sz : Nat) (es : List (List Tr)) : List PV → List PV → Prop
  | nil : FLeL k sz es [] []
  | cons {p q : PV} {ps qs : List PV} : FLe k sz es p q → FLeL k sz es ps qs → FLeL k sz es (p :: ps) (q :: qs)
end
def FBox (k sz : Nat) (es : List (List Tr)) (st' : Sto) : List (Option PBox) → List (Option PBox) → Prop
  | _, [] => True
  | _ :: xs, none :: ys => FBox k sz es st' xs ys
  | some x :: xs, some y :: ys => (x.ty = y.ty ∧ FLeL k sz es x.cells y.cells ∧ okInL st' y.cells = true) ∧ FBox k sz es st' xs ys
  | _, _ => False
theorem FBox.get {k sz : Nat} {es : List (List Tr)} {st' : Sto} : ∀ {xs ys : List (Option PBox)}, FBox k sz es st' xs ys → ∀ (i : Nat) (y : PBox), ys[i]? = some (some y) → ∃ x : PBox, xs[i]? = some (some x) ∧ x.ty = y.ty ∧ FLeL k sz es x.cells y.cells ∧ okInL st' y.cells = true
  | _, [], _, i, y, h => by simp at h
  | [], none :: ys, hl, i, y, h => hl.elim
  | x :: xs, none :: ys, hl, 0, y, h => by simp at h
  | none :: xs, none :: ys, hl, i + 1, y, h => by simpa using FBox.get (xs := xs) hl i y (by simpa using h)
  | some _ :: xs, none :: ys, hl, i + 1, y, h => by simpa using FBox.get (xs := xs) hl i y (by simpa using h)
  | some x :: xs, some z :: ys, hl, 0, y, h => by
    simp at h
    subst h
    exact ⟨x, rfl, hl.1⟩
  | some x :: xs, some z :: ys, hl, i + 1, y, h => by simpa using FBox.get (xs := xs) hl.2 i y (by simpa using h)
  | [], some _ :: _, hl, _, _, _ => hl.elim
  | none :: _, some _ :: _, hl, _, _, _ => hl.elim
def FEnv (k sz : Nat) (es : List (List Tr)) (s : AS) (st' : Sto) : List (Nat × PV) → Prop
  | [] => True
  | (i, q) :: l => (∃ p, s.lk i = some p ∧ FLe k sz es p q ∧ PV.okIn st' q = true) ∧ FEnv k sz es s st' l
theorem FEnv.get {k sz : Nat} {es : List (List Tr)} {s : AS} {st' : Sto} : ∀ {l : List (Nat × PV)} {i : Nat} {q : PV}, FEnv k sz es s st' l → l.lookup i = some q → ∃ p, s.lk i = some p ∧ FLe k sz es p q ∧ PV.okIn st' q = true
  | [], _, _, _, h => by simp at h
  | (j, p) :: l, i, q, hl, h => by
    rw [List.lookup_cons] at h
    by_cases hik : i = j
    · subst hik
      simp at h
      subst h
      exact hl.1
    · rw [show (i == j) = false by simp [hik]] at h
      exact FEnv.get hl.2 h
mutual
theorem FLe.rv {k sz : Nat} {es : List (List Tr)} {ok ok' : Nat → Nat → Prop} {st st' : Sto} {m : Lay} {w : World} (hle : ∀ p v, PV.okIn st' p = true → RV ok st m w p v → RV ok' st' m w p v) (hb : ∀ v c, es.length ≤ c → c ≤ maxLen → v = .slice (some ⟨m.ρ k, 0, none⟩) es.length c → RepM ok' w (.row sz es) v) (hm : es.length ≤ maxLen) :
    ∀ {p q : PV} {v : Value}, FLe k sz es p q → PV.okIn st' q = true → RV ok st m w p v → RV ok' st' m w q v
  | _, _, _, .le h, hk, hr => hle _ _ hk (h.rv hr)
  | _, _, _, .bsl h, _, hr => hb _ _ (Nat.le_refl _) hm (h ▸ hr.2)
  | _, _, _, .bslL h, _, hr => ⟨hb _ _ (Nat.le_refl _) hm (h ▸ hr.2), _, h ▸ hr.2⟩
  | _, _, _, .gsl h, _, hr => by
    obtain ⟨-, c, hc, hcm, hv⟩ := hr
    subst h
    exact hb _ c hc hcm hv
  | _, _, _, .agg h, hk, hr => by
    obtain ⟨vs, hv, h1⟩ := hr
    exact ⟨vs, hv, FLeL.rv hle hb hm h hk h1⟩
theorem FLeL.rv {k sz : Nat} {es : List (List Tr)} {ok ok' : Nat → Nat → Prop} {st st' : Sto} {m : Lay} {w : World} (hle : ∀ p v, PV.okIn st' p = true → RV ok st m w p v → RV ok' st' m w p v) (hb : ∀ v c, es.length ≤ c → c ≤ maxLen → v = .slice (some ⟨m.ρ k, 0, none⟩) es.length c → RepM ok' w (.row sz es) v) (hm : es.length ≤ maxLen) :
    ∀ {ps qs : List PV} {vs : List Value}, FLeL k sz es ps qs → okInL st' qs = true → RVL ok st m w ps vs → RVL ok' st' m w qs vs
  | _, _, [], .nil, _, h => trivial
  | _, _, _ :: _, .nil, _, h => h.elim
  | _, _, [], .cons _ _, _, h => h.elim
  | _, _, _ :: _, .cons k1 k2, hk, h => by
    simp only [okInL, Bool.and_eq_true] at hk
    exact ⟨FLe.rv hle hb hm k1 hk.1 h.1, FLeL.rv hle hb hm k2 hk.2 h.2⟩
end
end
end Go.Proofs.YtmpepccpnnldoaaGreat
