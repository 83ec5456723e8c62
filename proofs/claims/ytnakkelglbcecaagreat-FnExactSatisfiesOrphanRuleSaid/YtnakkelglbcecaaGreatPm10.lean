/- Calls that are handed boxes and rows of ours. No conditions. -/
import Derived.Test.YtnakkelglbcecaaGreatPm9
namespace Go.Proofs.YtnakkelglbcecaaGreat
set_option linter.unusedSimpArgs false
set_option linter.unusedVariables false
open Go.RowKit Go.WalkArith Go.IntWalk Go.WideShapes

mutual
/-- The callee's numbers, told in the caller's. -/
def PV.ren (fb fr : List Nat) : PV → PV
  | .t t => .t t
  | .agg cs => .agg (renL fb fr cs)
  | .tup cs => .tup (renL fb fr cs)
  | .nil => .nil
  | .acc sz es r => .acc sz es (fr.getD r 0)
  | .ptr k d => .ptr (fb.getD k 0) d
  | .eptr cs => .eptr cs
  | .fn f cs => .fn f (renL fb fr cs)
  | .full sz n r => .full sz n (fr.getD r 0)
  | .rptr r i => .rptr (fr.getD r 0) i
def renL (fb fr : List Nat) : List PV → List PV
  | [] => []
  | p :: ps => PV.ren fb fr p :: renL fb fr ps
end
def PBox.ren (fb fr : List Nat) (x : PBox) : PBox := ⟨x.ty, renL fb fr x.cells⟩
def Lay.via (m : Lay) (fb fr : List Nat) : Lay := ⟨fun k => m.ρ (fb.getD k 0), fun r => m.γ (fr.getD r 0)⟩

/-- The store 'pre', as a part of ours. -/
structure Part0 (s pre : Sto) (fb fr : List Nat) : Prop where
  fbl : fb.length = pre.boxes.length
  frl : fr.length = pre.rows.length
  fbn : fb.Nodup
  frn : fr.Nodup
  all : ∀ k, k < pre.boxes.length → ∃ x, pre.boxes[k]? = some (some x)
  box : ∀ k x, pre.boxes[k]? = some (some x) → ∃ y, s.boxes[fb.getD k 0]? = some (some y) ∧ y.ty = x.ty ∧ LeL y.cells (renL fb fr x.cells) ∧ okInL pre x.cells = true
  row : ∀ r row, pre.rows[r]? = some row → s.rows[fr.getD r 0]? = some row
def idx? (l : List Nat) (i : Nat) : Option Nat := l.findIdx? (· == i)
def Sto.over (s st' : Sto) (fb fr : List Nat) : Sto :=
  ⟨s.boxes.zipIdx.map fun (b, i) => match idx? fb i with | some j => (st'.boxes.getD j none).map (PBox.ren fb fr) | none => b,
   s.rows.zipIdx.map fun (row, i) => match idx? fr i with | some j => st'.rows.getD j row | none => row⟩

theorem idx?_some {l : List Nat} {i j : Nat} (h : idx? l i = some j) : l[j]? = some i := by
  unfold idx? at h
  obtain ⟨h1, h2, -⟩ := List.findIdx?_eq_some_iff_getElem.1 h
  rw [List.getElem?_eq_getElem h1]
  simpa using h2
theorem idx?_none {l : List Nat} {i : Nat} (h : idx? l i = none) : ∀ (j : Nat), l[j]? ≠ some i := fun j hj => by
  unfold idx? at h
  rw [List.findIdx?_eq_none_iff] at h
  have := h i (List.mem_of_getElem? hj)
  simp at this
theorem idx?_of {l : List Nat} (hn : l.Nodup) {i j : Nat} (h : l[j]? = some i) : idx? l i = some j := by
  cases hq : idx? l i with
  | none => exact absurd h (idx?_none hq j)
  | some j' =>
    have h2 := idx?_some hq
    obtain ⟨hl, he⟩ := List.getElem?_eq_some_iff.1 h
    obtain ⟨hl', he'⟩ := List.getElem?_eq_some_iff.1 h2
    have hp := List.pairwise_iff_getElem.1 hn
    rcases Nat.lt_trichotomy j' j with hlt | heq | hgt
    · exact absurd (he'.trans he.symm) (hp j' j hl' hl hlt)
    · rw [heq]
    · exact absurd (he.trans he'.symm) (hp j j' hl hl' hgt)
theorem getD_get {l : List Nat} {k : Nat} (h : k < l.length) : l[k]? = some (l.getD k 0) := by
  simp [List.getD_eq_getElem?_getD, List.getElem?_eq_getElem h]

mutual
theorem RV.unren {ok ok' : Nat → Nat → Prop} {s pre : Sto} {m : Lay} {w : World} {fb fr : List Nat} (h : Part0 s pre fb fr) (hk : ∀ b o, b < w.heap.size → ok b o → ok' b o) : ∀ (p : PV) (v : Value), PV.okIn pre p = true → RV ok s m w (PV.ren fb fr p) v → RV ok' pre (m.via fb fr) w p v
  | .t t, v, _, hr => RepM.mono hr (Nat.le_refl _) hk (fun _ _ _ _ => rfl)
  | .agg cs, v, hi, hr => by
    obtain ⟨vs, hv, hl⟩ := hr
    exact ⟨vs, hv, RVL.unren h hk cs vs hi hl⟩
  | .tup cs, v, hi, hr => by
    obtain ⟨vs, hv, hl⟩ := hr
    exact ⟨vs, hv, RVL.unren h hk cs vs hi hl⟩
  | .nil, v, _, hr => hr
  | .acc sz es r, v, hi, hr => by
    obtain ⟨row, h1, h2, h3, h4, h5⟩ := hr
    obtain ⟨row', hr'⟩ := get_of_lt (of_decide_eq_true hi)
    have := h.row r row' hr'
    rw [h1] at this
    cases this
    exact ⟨row, hr', h2, h3, RepM.mono h4 (Nat.le_refl _) hk (fun _ _ _ _ => rfl), h5⟩
  | .ptr k d, v, hi, hr => by
    obtain ⟨-, hv⟩ := hr
    refine ⟨?_, hv⟩
    simp only [PV.okIn] at hi
    split at hi
    · rename_i x hx
      exact ⟨x, hx⟩
    · cases hi
  | .eptr cs, v, _, hr => by
    obtain ⟨b, off, h1, hb, c, h2⟩ := hr
    refine ⟨b, off, h1, hb, c, fun j d hd => ?_⟩
    obtain ⟨k1, k2, k3⟩ := h2 j d hd
    exact ⟨hk _ _ hb k1, k2, RepM.mono k3 (Nat.le_refl _) hk (fun _ _ _ _ => rfl)⟩
  | .fn f cs, v, hi, hr => by
    obtain ⟨vs, hv, hl⟩ := hr
    exact ⟨vs, hv, RVL.unren h hk cs vs hi hl⟩
  | .full sz n r, v, hi, hr => by
    obtain ⟨row, g, h1, h2, h3, h4, h5⟩ := hr
    obtain ⟨row', hr'⟩ := get_of_lt (of_decide_eq_true hi)
    have := h.row r row' hr'
    rw [h1] at this
    cases this
    exact ⟨row, g, hr', h2, h3, h4, h5⟩
  | .rptr r i, v, hi, hr => by
    obtain ⟨row, g, n, h1, h3, h4, h5⟩ := hr
    obtain ⟨row', hr'⟩ := get_of_lt (of_decide_eq_true hi)
    have := h.row r row' hr'
    rw [h1] at this
    cases this
    exact ⟨row, g, n, hr', h3, h4, h5⟩
theorem RVL.unren {ok ok' : Nat → Nat → Prop} {s pre : Sto} {m : Lay} {w : World} {fb fr : List Nat} (h : Part0 s pre fb fr) (hk : ∀ b o, b < w.heap.size → ok b o → ok' b o) : ∀ (ps : List PV) (vs : List Value), okInL pre ps = true → RVL ok s m w (renL fb fr ps) vs → RVL ok' pre (m.via fb fr) w ps vs
  | [], [], _, hr => hr
  | p :: ps, v :: vs, hi, hr => by
    simp only [okInL, Bool.and_eq_true] at hi
    exact ⟨RV.unren h hk p v hi.1 hr.1, RVL.unren h hk ps vs hi.2 hr.2⟩
  | [], _ :: _, _, hr => hr.elim
  | _ :: _, [], _, hr => hr.elim
end

/-- What the callee tells of its numbers holds of ours. -/
structure Back (st' s1 : Sto) (m' m1 : Lay) (fb fr : List Nat) : Prop where
  box : ∀ k x, st'.boxes[k]? = some (some x) → (∃ y, s1.boxes[fb.getD k 0]? = some (some y)) ∧ m1.ρ (fb.getD k 0) = m'.ρ k
  row : ∀ r row, st'.rows[r]? = some row → s1.rows[fr.getD r 0]? = some row ∧ m1.γ (fr.getD r 0) = m'.γ r
mutual
theorem RV.ren {ok ok' : Nat → Nat → Prop} {st' s1 : Sto} {m' m1 : Lay} {w : World} {fb fr : List Nat} (h : Back st' s1 m' m1 fb fr) (hk : ∀ b o, b < w.heap.size → ok b o → ok' b o) : ∀ (p : PV) (v : Value), RV ok st' m' w p v → RV ok' s1 m1 w (PV.ren fb fr p) v
  | .t t, v, hr => RepM.mono hr (Nat.le_refl _) hk (fun _ _ _ _ => rfl)
  | .agg cs, v, hr => by
    obtain ⟨vs, hv, hl⟩ := hr
    exact ⟨vs, hv, RVL.ren h hk cs vs hl⟩
  | .tup cs, v, hr => by
    obtain ⟨vs, hv, hl⟩ := hr
    exact ⟨vs, hv, RVL.ren h hk cs vs hl⟩
  | .nil, v, hr => hr
  | .acc sz es r, v, hr => by
    obtain ⟨row, h1, h2, h3, h4, h5⟩ := hr
    obtain ⟨k1, k2⟩ := h.row r row h1
    exact ⟨row, k1, h2, h3, RepM.mono h4 (Nat.le_refl _) hk (fun _ _ _ _ => rfl), fun e => by rw [k2]; exact h5 e⟩
  | .ptr k d, v, hr => by
    obtain ⟨⟨x, hx⟩, hv⟩ := hr
    obtain ⟨k1, k2⟩ := h.box k x hx
    exact ⟨k1, by rw [k2]; exact hv⟩
  | .eptr cs, v, hr => by
    obtain ⟨b, off, h1, hb, c, h2⟩ := hr
    refine ⟨b, off, h1, hb, c, fun j d hd => ?_⟩
    obtain ⟨k1, k2, k3⟩ := h2 j d hd
    exact ⟨hk _ _ hb k1, k2, RepM.mono k3 (Nat.le_refl _) hk (fun _ _ _ _ => rfl)⟩
  | .fn f cs, v, hr => by
    obtain ⟨vs, hv, hl⟩ := hr
    exact ⟨vs, hv, RVL.ren h hk cs vs hl⟩
  | .full sz n r, v, hr => by
    obtain ⟨row, g, h1, h2, h3, h4, h5⟩ := hr
    obtain ⟨k1, k2⟩ := h.row r row h1
    exact ⟨row, g, k1, h2, h3, by rw [k2]; exact h4, h5⟩
  | .rptr r i, v, hr => by
    obtain ⟨row, g, n, h1, h3, h4, h5⟩ := hr
    obtain ⟨k1, k2⟩ := h.row r row h1
    exact ⟨row, g, n, k1, h3, by rw [k2]; exact h4, h5⟩
theorem RVL.ren {ok ok' : Nat → Nat → Prop} {st' s1 : Sto} {m' m1 : Lay} {w : World} {fb fr : List Nat} (h : Back st' s1 m' m1 fb fr) (hk : ∀ b o, b < w.heap.size → ok b o → ok' b o) : ∀ (ps : List PV) (vs : List Value), RVL ok st' m' w ps vs → RVL ok' s1 m1 w (renL fb fr ps) vs
  | [], [], hr => hr
  | p :: ps, v :: vs, hr => ⟨RV.ren h hk p v hr.1, RVL.ren h hk ps vs hr.2⟩
  | [], _ :: _, hr => hr.elim
  | _ :: _, [], hr => hr.elim
end

/-- The callee's view: what it is not handed is shut. -/
def shutP (av : Nat → Nat → Prop) (s pre : Sto) (m : Lay) (fb fr : List Nat) (w : World) (b o : Nat) : Prop :=
  b < w.heap.size ∧ ¬ okA av s m b o ∧ (∀ k x, pre.boxes[k]? = some (some x) → m.ρ (fb.getD k 0) ≠ b) ∧ (∀ r row g c, pre.rows[r]? = some row → m.γ (fr.getD r 0) = some (g, c) → g ≠ b)

section
variable {av : Nat → Nat → Prop} {s pre : Sto} {m : Lay} {fb fr : List Nat} {w : World}

theorem Part0.ok (h : Part0 s pre fb fr) {b o : Nat} (k : okA av s m b o) : okA (shutP av s pre m fb fr w) pre (m.via fb fr) b o :=
  ⟨fun hs => hs.2.1 k, fun i x hi => by obtain ⟨y, hy, -⟩ := h.box i x hi; exact k.2.1 _ y hy, fun r row g c hr hg e => k.2.2 _ row g c (h.row r row hr) hg e⟩

theorem Part0.sto (h : Part0 s pre fb fr) (hs : StoOk av s m w) : StoOk (shutP av s pre m fb fr w) pre (m.via fb fr) w where
  box := fun k x hk => by
    obtain ⟨y, hy, ht, hl, ho⟩ := h.box k x hk
    obtain ⟨vs, h1, h2⟩ := hs.box _ y hy
    exact ⟨vs, by rw [← ht]; exact h1, RVL.unren h (fun b o _ k => h.ok k) _ _ ho (LeL.rv hl h2)⟩
  binj := fun k k' x x' hk hk' hne => by
    obtain ⟨y, hy, -⟩ := h.box k x hk
    obtain ⟨y', hy', -⟩ := h.box k' x' hk'
    refine hs.binj _ _ y y' hy hy' fun e => hne ?_
    have h1 := getD_get (l := fb) (k := k) (by rw [h.fbl]; exact get_lt hk)
    have h2 := getD_get (l := fb) (k := k') (by rw [h.fbl]; exact get_lt hk')
    rw [e] at h1
    exact Option.some.inj ((idx?_of h.fbn h1).symm.trans (idx?_of h.fbn h2))
  row := fun r row hr => by
    obtain ⟨h1, h2, h3⟩ := hs.row _ row (h.row r row hr)
    refine ⟨h1, h2, ?_⟩
    rcases h3 with h3 | ⟨g, c, cur, q1, q2, q3, q4, q5, q6⟩
    · exact .inl h3
    · exact .inr ⟨g, c, cur, q1, q2, q3, q4, q5, RepM.mono q6 (Nat.le_refl _) (fun b o _ k => h.ok k) (fun _ _ _ _ => rfl)⟩
  rinj := fun r r' row row' g c c' hr hr' hg hg' => by
    have e := hs.rinj _ _ row row' g c c' (h.row r row hr) (h.row r' row' hr') hg hg'
    have h1 := getD_get (l := fr) (k := r) (by rw [h.frl]; exact get_lt hr)
    have h2 := getD_get (l := fr) (k := r') (by rw [h.frl]; exact get_lt hr')
    rw [e] at h1
    exact Option.some.inj ((idx?_of h.frn h1).symm.trans (idx?_of h.frn h2))
  br := fun k x r row g c hk hr hg => by
    obtain ⟨y, hy, -⟩ := h.box k x hk
    exact hs.br _ y _ row g c hy (h.row r row hr) hg
  avlt := fun b o hb => hb.1
  avr := fun r row g c hr hg o ho => ho.2.2.2 r row g c hr hg rfl

variable {st' : Sto} {m' : Lay} {w' : World}
def Lay.over (m m' : Lay) (fr : List Nat) : Lay := ⟨m.ρ, fun i => match idx? fr i with | some j => m'.γ j | none => m.γ i⟩

theorem over_box {i : Nat} {z : PBox} (h : (s.over st' fb fr).boxes[i]? = some (some z)) : (∃ (j : Nat) (x : PBox), fb[j]? = some i ∧ st'.boxes[j]? = some (some x) ∧ z = x.ren fb fr ∧ i < s.boxes.length) ∨ (idx? fb i = none ∧ s.boxes[i]? = some (some z)) := by
  unfold Sto.over at h
  simp only [List.getElem?_map, List.getElem?_zipIdx] at h
  cases hs : s.boxes[i]? with
  | none => simp [hs] at h
  | some b =>
    simp only [hs, Option.map_some, Nat.zero_add, Option.some.injEq] at h
    split at h
    · rename_i j hj
      left
      cases hx : st'.boxes[j]? with
      | none => simp [List.getD_eq_getElem?_getD, hx] at h
      | some ox =>
        cases ox with
        | none => simp [List.getD_eq_getElem?_getD, hx] at h
        | some x =>
          simp [List.getD_eq_getElem?_getD, hx] at h
          exact ⟨j, x, idx?_some hj, hx, h.symm, get_lt hs⟩
    · rename_i hj
      exact .inr ⟨hj, by rw [h]⟩
theorem over_row {i : Nat} {z : PRow} (h : (s.over st' fb fr).rows[i]? = some z) (hl : fr.length ≤ st'.rows.length) : (∃ (j : Nat), fr[j]? = some i ∧ st'.rows[j]? = some z ∧ i < s.rows.length) ∨ (idx? fr i = none ∧ s.rows[i]? = some z) := by
  unfold Sto.over at h
  simp only [List.getElem?_map, List.getElem?_zipIdx] at h
  cases hs : s.rows[i]? with
  | none => simp [hs] at h
  | some b =>
    simp only [hs, Option.map_some, Nat.zero_add, Option.some.injEq] at h
    split at h
    · rename_i j hj
      left
      have hj' := idx?_some hj
      have hlt : j < st'.rows.length := Nat.lt_of_lt_of_le (get_lt hj') hl
      refine ⟨j, hj', ?_, get_lt hs⟩
      rw [List.getElem?_eq_getElem hlt, ← h]
      simp [List.getD_eq_getElem?_getD, hlt]
    · rename_i hj
      exact .inr ⟨hj, by rw [h]⟩

/-- All of it, behind the call. -/
theorem over_all (h : Part0 s pre fb fr) (hs : StoOk av s m w) (hst : StoOk (shutP av s pre m fb fr w) st' m' w') (he : Ev pre (m.via fb fr) w st' m' w') (hbl : st'.boxes.length = pre.boxes.length) (hrl : st'.rows.length = pre.rows.length) :
    Ev s m w (s.over st' fb fr) (m.over m' fr) w' ∧ StoOk av (s.over st' fb fr) (m.over m' fr) w' ∧ Back st' (s.over st' fb fr) m' (m.over m' fr) fb fr ∧ (∀ b o, b < w'.heap.size → okA (shutP av s pre m fb fr w) st' m' b o → okA av (s.over st' fb fr) (m.over m' fr) b o) := by
  have hfrl : fr.length ≤ st'.rows.length := by rw [hrl, h.frl]; exact Nat.le_refl _
  -- boxes that were handed over
  have pb : ∀ (i j : Nat), fb[j]? = some i → ∃ (x y : PBox), pre.boxes[j]? = some (some x) ∧ s.boxes[i]? = some (some y) ∧ fb.getD j 0 = i ∧ m'.ρ j = m.ρ i ∧ ∃ x' : PBox, st'.boxes[j]? = some (some x') := fun i j hj => by
    obtain ⟨x, hx⟩ := h.all j (by rw [← h.fbl]; exact get_lt hj)
    obtain ⟨y, hy, -⟩ := h.box j x hx
    have e : fb.getD j 0 = i := by simp [List.getD_eq_getElem?_getD, hj]
    rw [e] at hy
    obtain ⟨h1, h2⟩ := he.live j x hx
    exact ⟨x, y, hx, hy, e, by rw [h2]; show m.ρ (fb.getD j 0) = _; rw [e], h1⟩
  have pr : ∀ (i j : Nat), fr[j]? = some i → ∃ row : PRow, pre.rows[j]? = some row ∧ s.rows[i]? = some row ∧ fr.getD j 0 = i := fun i j hj => by
    obtain ⟨row, hrow⟩ := get_of_lt (l := pre.rows) (i := j) (by rw [← h.frl]; exact get_lt hj)
    have e : fr.getD j 0 = i := by simp [List.getD_eq_getElem?_getD, hj]
    have := h.row j row hrow
    rw [e] at this
    exact ⟨row, hrow, this, e⟩
  have hγ : ∀ (i j : Nat), fr[j]? = some i → (m.over m' fr).γ i = m'.γ j := fun i j hj => by
    unfold Lay.over
    simp only [idx?_of h.frn hj]
  have hγn : ∀ i, idx? fr i = none → (m.over m' fr).γ i = m.γ i := fun i hi => by
    unfold Lay.over
    simp only [hi]
  have lv : ∀ i z, (s.over st' fb fr).boxes[i]? = some (some z) → ∃ y, s.boxes[i]? = some (some y) := fun i z hi => by
    rcases over_box hi with ⟨j, x, h1, -⟩ | ⟨-, h2⟩
    · obtain ⟨-, y, -, hy, -⟩ := pb i j h1
      exact ⟨y, hy⟩
    · exact ⟨z, h2⟩
  -- where a row lies
  have rp : ∀ i z g c, (s.over st' fb fr).rows[i]? = some z → (m.over m' fr).γ i = some (g, c) → (∃ row c0, s.rows[i]? = some row ∧ m.γ i = some (g, c0)) ∨ w.heap.size ≤ g := fun i z g c hi hg => by
    rcases over_row hi hfrl with ⟨j, h1, h2, -⟩ | ⟨h1, h2⟩
    · rw [hγ i j h1] at hg
      obtain ⟨row, hr1, hr2, e⟩ := pr i j h1
      rcases he.rfresh j z g c h2 hg with ⟨row0, c0, k1, k2⟩ | k
      · refine .inl ⟨row, c0, hr2, ?_⟩
        have k2 : m.γ (fr.getD j 0) = some (g, c0) := k2
        rw [e] at k2
        exact k2
      · exact .inr k
    · rw [hγn i h1] at hg
      exact .inl ⟨z, c, h2, hg⟩
  have okk : ∀ b o, b < w.heap.size → s.ok m b o → (s.over st' fb fr).ok (m.over m' fr) b o := fun b o hb hk => by
    have hp : pre.ok (m.via fb fr) b o := (h.ok (av := fun _ _ => False) (w := w) ⟨id, hk⟩).2
    have hp' := he.okk b o hb hp
    refine ⟨fun i z hi => ?_, fun i z g c hi hg e => ?_⟩
    · obtain ⟨y, hy⟩ := lv i z hi
      exact hk.1 i y hy
    · rcases over_row hi hfrl with ⟨j, h1, h2, -⟩ | ⟨h1, h2⟩
      · rw [hγ i j h1] at hg
        exact hp'.2 j z g c h2 hg e
      · rw [hγn i h1] at hg
        exact hk.2 i z g c h2 hg e
  have ev : Ev s m w (s.over st' fb fr) (m.over m' fr) w' := by
    refine ⟨he.os, he.tape, he.output, he.size, fun b hb h1 h2 => he.blk b hb (fun k x hk => ?_) (fun r row g c hr hg => ?_), fun b o hb hk => he.cell b o hb (h.ok (av := fun _ _ => False) (w := w) ⟨id, hk⟩).2, okk, fun i y hi => ⟨?_, rfl⟩, fun i z hi => .inl (lv i z hi), fun i row hi => ?_, rp⟩
    · obtain ⟨y, hy, -⟩ := h.box k x hk
      exact h1 _ y hy
    · exact h2 _ row g c (h.row r row hr) hg
    · cases hq : idx? fb i with
      | none => exact ⟨y, by unfold Sto.over; simp [List.getElem?_zipIdx, hi, hq]⟩
      | some j =>
        obtain ⟨-, -, -, -, -, -, x', hx'⟩ := pb i j (idx?_some hq)
        exact ⟨x'.ren fb fr, by unfold Sto.over; simp [List.getElem?_zipIdx, hi, hq, List.getD_eq_getElem?_getD, hx']⟩
    · cases hq : idx? fr i with
      | none => exact ⟨row, by unfold Sto.over; simp [List.getElem?_zipIdx, hi, hq], rfl, Nat.le_refl _, fun _ => hγn i hq, fun hw => ⟨hw, hγn i hq⟩⟩
      | some j =>
        have hj := idx?_some hq
        obtain ⟨row0, h1, h2, e⟩ := pr i j hj
        rw [hi] at h2
        cases h2
        obtain ⟨row', k1, k2, k3, k4, k5⟩ := he.rowl j row h1
        have e' : (m.via fb fr).γ j = m.γ i := by show m.γ (fr.getD j 0) = _; rw [e]
        refine ⟨row', by unfold Sto.over; simp [List.getElem?_zipIdx, hi, hq, List.getD_eq_getElem?_getD, k1], k2, k3, fun hl => ?_, fun hw => ⟨(k5 hw).1, ?_⟩⟩
        · rw [hγ i j hj, k4 hl, e']
        · rw [hγ i j hj, (k5 hw).2, e']
  have bk : Back st' (s.over st' fb fr) m' (m.over m' fr) fb fr := by
    refine ⟨fun k x hk => ?_, fun r row hr => ?_⟩
    · have hj := getD_get (l := fb) (k := k) (by rw [h.fbl, ← hbl]; exact get_lt hk)
      obtain ⟨x0, y, h1, h2, h3, h4, -⟩ := pb _ k hj
      clear h3
      generalize fb.getD k 0 = i at *
      exact ⟨⟨x.ren fb fr, by unfold Sto.over; simp [List.getElem?_zipIdx, h2, idx?_of h.fbn hj, List.getD_eq_getElem?_getD, hk]⟩, h4.symm⟩
    · have hj := getD_get (l := fr) (k := r) (by rw [h.frl, ← hrl]; exact get_lt hr)
      obtain ⟨row0, h1, h2, -⟩ := pr _ r hj
      generalize fr.getD r 0 = i at *
      exact ⟨by unfold Sto.over; simp [List.getElem?_zipIdx, h2, idx?_of h.frn hj, List.getD_eq_getElem?_getD, hr], hγ _ r hj⟩
  have hav : ∀ i z g c, (s.over st' fb fr).rows[i]? = some z → (m.over m' fr).γ i = some (g, c) → ∀ o, ¬ av g o := fun i z g c hi hg o ho => by
    rcases rp i z g c hi hg with ⟨row, c0, k1, k2⟩ | k
    · exact hs.avr i row g c0 k1 k2 o ho
    · have := hs.avlt _ _ ho; omega
  have back : ∀ b o, b < w'.heap.size → okA (shutP av s pre m fb fr w) st' m' b o → okA av (s.over st' fb fr) (m.over m' fr) b o := fun b o _ hk => by
    have hrow : ∀ i z g c, (s.over st' fb fr).rows[i]? = some z → (m.over m' fr).γ i = some (g, c) → g = b → idx? fr i ≠ none → o < z.es.length * z.sz := fun i z g c hi hg e hq => by
      rcases over_row hi hfrl with ⟨j, h1, h2, -⟩ | ⟨h1, -⟩
      · rw [hγ i j h1] at hg
        exact hk.2.2 j z g c h2 hg e
      · exact absurd h1 hq
    rcases Nat.lt_or_ge b w.heap.size with hlt | hge
    · by_cases hA : okA av s m b o
      · exact ⟨hA.1, okk b o hlt hA.2⟩
      · by_cases hB : ∃ k x, pre.boxes[k]? = some (some x) ∧ m.ρ (fb.getD k 0) = b
        · obtain ⟨k, x, h1, h2⟩ := hB
          obtain ⟨⟨x', h3⟩, h4⟩ := he.live k x h1
          exact absurd (h4.trans h2) (hk.2.1 k x' h3)
        · by_cases hR : ∃ r row g c, pre.rows[r]? = some row ∧ m.γ (fr.getD r 0) = some (g, c) ∧ g = b
          · obtain ⟨r, row, g, c, h1, h2, rfl⟩ := hR
            have hsr := h.row r row h1
            refine ⟨hs.avr _ row g c hsr h2 o, fun i z hi => ?_, fun i z g' c' hi hg e => ?_⟩
            · obtain ⟨y, hy⟩ := lv i z hi
              exact hs.br i y _ row g c hy hsr h2
            · refine hrow i z g' c' hi hg e fun hq => ?_
              rcases over_row hi hfrl with ⟨j, k1, -⟩ | ⟨k1, k2⟩
              · exact absurd k1 (idx?_none hq j)
              · rw [hγn i hq] at hg
                have := hs.rinj i _ z row g c' c k2 hsr (by rw [hg, e]) h2
                have hj := getD_get (l := fr) (k := r) (by rw [h.frl]; exact get_lt h1)
                rw [← this] at hj
                exact idx?_none hq r hj
          · exact absurd ⟨hlt, hA, fun k x h1 h2 => hB ⟨k, x, h1, h2⟩, fun r row g c h1 h2 h3 => hR ⟨r, row, g, c, h1, h2, h3⟩⟩ hk.1
    · refine ⟨fun ho => by have := hs.avlt _ _ ho; omega, fun i z hi => ?_, fun i z g c hi hg e => ?_⟩
      · obtain ⟨y, hy⟩ := lv i z hi
        have := hs.box_lt hy
        show m.ρ i ≠ b
        omega
      · refine hrow i z g c hi hg e fun hq => ?_
        rcases over_row hi hfrl with ⟨j, k1, -⟩ | ⟨k1, k2⟩
        · exact absurd k1 (idx?_none hq j)
        · rw [hγn i hq] at hg
          have := hs.row_lt k2 hg
          omega
  refine ⟨ev, ⟨fun i z hi => ?_, fun i i' z z' hi hi' hne => ?_, fun i z hi => ?_, fun i i' z z' g c c' hi hi' hg hg' => ?_, fun i z r row g c hi hr hg => ?_, fun b o hb => Nat.lt_of_lt_of_le (hs.avlt b o hb) he.size, hav⟩, bk, back⟩
  · rcases over_box hi with ⟨j, x, h1, h2, rfl, -⟩ | ⟨h1, h2⟩
    · obtain ⟨-, -, -, -, -, h4, -⟩ := pb i j h1
      obtain ⟨vs, k1, k2⟩ := hst.box j x h2
      refine ⟨vs, ?_, RVL.ren bk back _ _ k2⟩
      show OB w' (m.ρ i) _ _
      rw [← h4]
      exact k1
    · obtain ⟨vs, k1, k2⟩ := hs.box i z h2
      refine ⟨vs, (he.blk _ k1.lt (fun k x hk => ?_) (fun r row g c hr hg e => ?_)).trans k1, RVL.mono ev _ _ k2⟩
      · obtain ⟨y, hy, -⟩ := h.box k x hk
        have hj := getD_get (l := fb) (k := k) (by rw [h.fbl]; exact get_lt hk)
        exact hs.binj _ _ y z hy h2 (fun e => idx?_none h1 k (by rw [hj, e]))
      · exact hs.br i z _ row g c h2 (h.row r row hr) hg e.symm
  · obtain ⟨y, hy⟩ := lv i z hi
    obtain ⟨y', hy'⟩ := lv i' z' hi'
    exact hs.binj i i' y y' hy hy' hne
  · rcases over_row hi hfrl with ⟨j, h1, h2, -⟩ | ⟨h1, h2⟩
    · obtain ⟨k1, k2, k3⟩ := hst.row j z h2
      refine ⟨k1, k2, ?_⟩
      rw [hγ i j h1]
      rcases k3 with k3 | ⟨g, c, cur, q1, q2, q3, q4, q5, q6⟩
      · exact .inl k3
      · exact .inr ⟨g, c, cur, q1, q2, q3, q4, q5, RepM.mono q6 (Nat.le_refl _) back (fun _ _ _ _ => rfl)⟩
    · obtain ⟨k1, k2, k3⟩ := hs.row i z h2
      refine ⟨k1, k2, ?_⟩
      rw [hγn i h1]
      rcases k3 with k3 | ⟨g, c, cur, q1, q2, q3, q4, q5, q6⟩
      · exact .inl k3
      · refine .inr ⟨g, c, cur, q1, (he.blk g q2.lt (fun k x hk e => ?_) (fun r row g' c' hr hg e => ?_)).trans q2, q3, q4, q5, RV.mono ev (.t _) _ q6⟩
        · obtain ⟨y, hy, -⟩ := h.box k x hk
          exact hs.br _ y i z g c hy h2 q1 e
        · subst e
          have := hs.rinj i _ z row g' c c' h2 (h.row r row hr) q1 hg
          have hj := getD_get (l := fr) (k := r) (by rw [h.frl]; exact get_lt hr)
          rw [← this] at hj
          exact idx?_none h1 r hj
  · rcases over_row hi hfrl with ⟨j, h1, h2, -⟩ | ⟨h1, h2⟩ <;> rcases over_row hi' hfrl with ⟨j', h1', h2', -⟩ | ⟨h1', h2'⟩
    · rw [hγ i j h1] at hg
      rw [hγ i' j' h1'] at hg'
      have := hst.rinj j j' z z' g c c' h2 h2' hg hg'
      subst this
      rw [h1] at h1'
      exact Option.some.inj h1'
    · rcases rp i z g c hi hg with ⟨row, c0, k1, k2⟩ | k
      · rw [hγn i' h1'] at hg'
        exact hs.rinj i i' row z' g c0 c' k1 h2' k2 hg'
      · rw [hγn i' h1'] at hg'
        have := hs.row_lt h2' hg'
        omega
    · rcases rp i' z' g c' hi' hg' with ⟨row, c0, k1, k2⟩ | k
      · rw [hγn i h1] at hg
        exact hs.rinj i i' z row g c c0 h2 k1 hg k2
      · rw [hγn i h1] at hg
        have := hs.row_lt h2 hg
        omega
    · rw [hγn i h1] at hg
      rw [hγn i' h1'] at hg'
      exact hs.rinj i i' z z' g c c' h2 h2' hg hg'
  · obtain ⟨y, hy⟩ := lv i z hi
    rcases rp r row g c hr hg with ⟨row0, c0, k1, k2⟩ | k
    · exact hs.br i y r row0 g c0 hy k1 k2
    · have := hs.box_lt hy
      show m.ρ i ≠ g
      omega
end

section
variable {P : Program} {C : Ctx} {n : Nat} {s : AS} {o : Oper}
theorem AOp.enterP {f : FuncId} {ps qs : List PV} {res : PV} {pre st' : Sto} (fb fr : List Nat) (hd : dstOk o.dst n = true)
    (hrun : ∀ m a w, RA C n s m a w → ∃ vals, (execOp a.eval o).run P w = .ok (.enter f ⟨vals⟩) w ∧ RVL (okA C.av s.st m) s.st m w ps vals) (hp : Part0 s.st pre fb fr) (hle : LeL ps (renL fb fr qs)) (hok : okInL pre qs = true)
    (hbl : st'.boxes.length = pre.boxes.length) (hrl : st'.rows.length = pre.rows.length) (hc : ACalls P f qs pre (fun r t => r = res ∧ t = st')) :
    AOp P C n o s ((⟨s.env, s.st.over st' fb fr⟩ : AS).putO o.dst (PV.ren fb fr res)) := fun m a w h K Q hK => by
  obtain ⟨vals, h1, h2⟩ := hrun m a w h
  unfold Oper.wp
  rw [h1]
  have h3 := hc (shutP C.av s.st pre m fb fr w) (m.via fb fr) w vals (hp.sto h.sto) (RVL.unren hp (fun b o _ k => hp.ok k) _ _ hok (LeL.rv hle h2))
  refine Calls.mono h3 fun e w' => ?_
  rintro ⟨r, t, m', v, rfl, ⟨rfl, rfl⟩, h4, h5, h6⟩
  obtain ⟨k1, k2, k3, k4⟩ := over_all hp h.sto h4 h5 hbl hrl
  have hr := h.step k1 k2
  exact hK _ _ w' (hr.put (dstOk_lt hd) (RV.ren k3 k4 _ _ h6))
theorem AOp.callP {f : FuncId} {fn : Func} {xs : List Operand} {ts : Array TypeId} {ps qs : List PV} {res : PV} {pre st' : Sto} (fb fr : List Nat) (ho : o.op = .call { callee := .value (.func f), args := ⟨xs⟩, argTypes := ts }) (hd : dstOk o.dst n = true) (hf : P.funcs[f]? = some fn) (hnm : (fn.name == "runtime.NumGoroutine") = false) (hb : fn.body.isNone = false)
    (hx : xs.map s.ev = ps.map some) (hp : Part0 s.st pre fb fr) (hle : LeL ps (renL fb fr qs)) (hok : okInL pre qs = true) (hbl : st'.boxes.length = pre.boxes.length) (hrl : st'.rows.length = pre.rows.length) (hc : ACalls P f qs pre (fun r t => r = res ∧ t = st')) :
    AOp P C n o s ((⟨s.env, s.st.over st' fb fr⟩ : AS).putO o.dst (PV.ren fb fr res)) :=
  AOp.enterP fb fr hd (fun m a w h => ⟨xs.map a.eval, by
    have hcf := run_callFunc_body (P := P) hf hnm hb
    unfold execOp
    simp only [ho]
    simp [resolve, invoke, Deferred.ofValue, Act.eval, hcf], evL h hx⟩) hp hle hok hbl hrl hc
end
end Go.Proofs.YtnakkelglbcecaaGreat
