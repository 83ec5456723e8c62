/- Abstract values and stores: what a function of the program computes, told without addresses; and what that says of the heap. No conditions. -/
import Derived.Test.YtnakkelglbcecaaGreatOwn
namespace Go.Proofs.YtnakkelglbcecaaGreat
set_option linter.unusedSimpArgs false
set_option linter.unusedVariables false
open Go.RowKit

/-- Abstract values. -/
inductive PV where
  | t (t : Tr)
  | agg (cs : List PV)
  | tup (vs : List PV)
  | nil
  | acc (sz : Nat) (es : List (List Tr)) (r : Nat)
  | ptr (k off : Nat)
  | eptr (cs : List Tr)
  | fn (f : FuncId) (caps : List PV)
  | full (sz n r : Nat)
  | rptr (r i : Nat)

structure PBox where
  ty : TypeId
  cells : List PV
structure PRow where
  E : TypeId
  sz : Nat
  es : List (List Tr)
  whole : Bool
structure Sto where
  boxes : List (Option PBox)
  rows : List PRow
structure Lay where
  ρ : Nat → Nat
  γ : Nat → Option (Nat × Nat)

/-- No box lies at this place, and no row may still grow there. -/
def Sto.ok (st : Sto) (m : Lay) (b o : Nat) : Prop :=
  (∀ k x, st.boxes[k]? = some (some x) → m.ρ k ≠ b) ∧ (∀ r row g c, st.rows[r]? = some row → m.γ r = some (g, c) → g = b → o < row.es.length * row.sz)
def okA (av : Nat → Nat → Prop) (st : Sto) (m : Lay) (b o : Nat) : Prop := ¬ av b o ∧ st.ok m b o

inductive RepM (ok : Nat → Nat → Prop) (w : World) : Tr → Value → Prop
  | leaf {v : Value} : LeafOk v → RepM ok w (.leaf v) v
  | row {sz : Nat} {es : List (List Tr)} {a : Option Addr} {cap : Nat} (c : Nat → Nat → Value) : es.length ≤ cap → cap ≤ maxLen →
      (es ≠ [] → ∃ b off, a = some ⟨b, off, none⟩ ∧ b < w.heap.size ∧ ∀ i e, es[i]? = some e → ∀ j d, e[j]? = some d → ok b (off + i * sz + j) ∧ w.cell? ⟨b, off + i * sz + j, none⟩ = some (c i j)) →
      (∀ i e, es[i]? = some e → ∀ j d, e[j]? = some d → RepM ok w d (c i j)) → RepM ok w (.row sz es) (.slice a es.length cap)

theorem RepM.mono {ok ok' : Nat → Nat → Prop} {w w' : World} {t : Tr} {v : Value} (h : RepM ok w t v) (hz : w.heap.size ≤ w'.heap.size) (hk : ∀ b o, b < w.heap.size → ok b o → ok' b o)
    (hc : ∀ b o, b < w.heap.size → ok b o → w'.cell? ⟨b, o, none⟩ = w.cell? ⟨b, o, none⟩) : RepM ok' w' t v := by
  induction h with
  | leaf h => exact .leaf h
  | row c h1 h2 h3 _ ih =>
    refine .row c h1 h2 (fun hne => ?_) ih
    obtain ⟨b, off, ha, hb, h4⟩ := h3 hne
    exact ⟨b, off, ha, Nat.lt_of_lt_of_le hb hz, fun i e he j d hd => ⟨hk _ _ hb (h4 i e he j d hd).1, (hc _ _ hb (h4 i e he j d hd).1).trans (h4 i e he j d hd).2⟩⟩
theorem RepM.rep {ok : Nat → Nat → Prop} {w : World} {t : Tr} {v : Value} (h : RepM ok w t v) : Rep w t v := by
  induction h with
  | leaf h => exact .leaf h
  | row c h1 h2 h3 _ ih =>
    refine .row c h1 h2 (fun hne => ?_) ih
    obtain ⟨b, off, ha, hb, h4⟩ := h3 hne
    exact ⟨b, off, ha, hb, fun i e he j d hd => (h4 i e he j d hd).2⟩
theorem Rep.repM {ok : Nat → Nat → Prop} {w : World} {t : Tr} {v : Value} (h : Rep w t v) (hk : ∀ b o, b < w.heap.size → ok b o) : RepM ok w t v := by
  induction h with
  | leaf h => exact .leaf h
  | row c h1 h2 h3 _ ih =>
    refine .row c h1 h2 (fun hne => ?_) ih
    obtain ⟨b, off, ha, hb, h4⟩ := h3 hne
    exact ⟨b, off, ha, hb, fun i e he j d hd => ⟨hk _ _ hb, h4 i e he j d hd⟩⟩
theorem RepM.shape {ok : Nat → Nat → Prop} {w : World} {sz : Nat} {es : List (List Tr)} {v : Value} (h : RepM ok w (.row sz es) v) : ∃ a cap, v = .slice a es.length cap ∧ es.length ≤ cap ∧ cap ≤ maxLen := h.rep.shape
theorem RepM.leaf_eq {ok : Nat → Nat → Prop} {w : World} {v u : Value} (h : RepM ok w (.leaf v) u) : u = v ∧ LeafOk v := h.rep.leaf_eq

def rowVal : Option (Nat × Nat) → Nat → Value
  | none, _ => .slice none 0 0
  | some (g, c), n => .slice (some ⟨g, 0, none⟩) n c

mutual
/-- The value stands for the abstract value. -/
def RV (ok : Nat → Nat → Prop) (st : Sto) (m : Lay) (w : World) : PV → Value → Prop
  | .t t, v => RepM ok w t v
  | .agg cs, v => ∃ vs, v = .agg ⟨vs⟩ ∧ RVL ok st m w cs vs
  | .tup cs, v => ∃ vs, v = .tuple ⟨vs⟩ ∧ RVL ok st m w cs vs
  | .nil, v => v = .slice none 0 0
  | .acc sz es r, v => ∃ row, st.rows[r]? = some row ∧ row.sz = sz ∧ es.length ≤ row.es.length ∧ RepM ok w (.row sz es) v ∧ (es.length = row.es.length → v = rowVal (m.γ r) es.length)
  | .ptr k off, v => (∃ x, st.boxes[k]? = some (some x)) ∧ v = .pointer (some ⟨m.ρ k, off, none⟩)
  | .eptr cs, v => ∃ b off, v = .pointer (some ⟨b, off, none⟩) ∧ b < w.heap.size ∧ ∃ c : Nat → Value, ∀ j d, cs[j]? = some d → ok b (off + j) ∧ w.cell? ⟨b, off + j, none⟩ = some (c j) ∧ RepM ok w d (c j)
  | .fn f caps, v => ∃ vs, v = .func (.func f) #[] ⟨vs⟩ ∧ RVL ok st m w caps vs
  | .full sz n r, v => ∃ row g, st.rows[r]? = some row ∧ row.sz = sz ∧ row.whole = true ∧ m.γ r = some (g, n) ∧ v = .slice (some ⟨g, 0, none⟩) n n
  | .rptr r i, v => ∃ row g n, st.rows[r]? = some row ∧ row.whole = true ∧ m.γ r = some (g, n) ∧ v = .pointer (some ⟨g, i * row.sz, none⟩)
def RVL (ok : Nat → Nat → Prop) (st : Sto) (m : Lay) (w : World) : List PV → List Value → Prop
  | [], [] => True
  | p :: ps, v :: vs => RV ok st m w p v ∧ RVL ok st m w ps vs
  | _, _ => False
end

def RowOk (ok : Nat → Nat → Prop) (m : Lay) (w : World) (r : Nat) (row : PRow) : Prop :=
  0 < row.sz ∧ (∀ e ∈ row.es, e.length = row.sz) ∧ ((m.γ r = none ∧ row.es = []) ∨ ∃ g c cur, m.γ r = some (g, c) ∧ OB w g row.E cur ∧ cur.size = c * row.sz ∧ row.es.length ≤ c ∧ c ≤ maxLen ∧ RepM ok w (.row row.sz row.es) (.slice (some ⟨g, 0, none⟩) row.es.length c))

structure StoOk (av : Nat → Nat → Prop) (st : Sto) (m : Lay) (w : World) : Prop where
  box : ∀ k x, st.boxes[k]? = some (some x) → ∃ vs, OB w (m.ρ k) x.ty ⟨vs⟩ ∧ RVL (okA av st m) st m w x.cells vs
  binj : ∀ k k' x x', st.boxes[k]? = some (some x) → st.boxes[k']? = some (some x') → k ≠ k' → m.ρ k ≠ m.ρ k'
  row : ∀ r row, st.rows[r]? = some row → RowOk (okA av st m) m w r row
  rinj : ∀ r r' row row' g c c', st.rows[r]? = some row → st.rows[r']? = some row' → m.γ r = some (g, c) → m.γ r' = some (g, c') → r = r'
  br : ∀ k x r row g c, st.boxes[k]? = some (some x) → st.rows[r]? = some row → m.γ r = some (g, c) → m.ρ k ≠ g
  avlt : ∀ b o, av b o → b < w.heap.size
  avr : ∀ r row g c, st.rows[r]? = some row → m.γ r = some (g, c) → ∀ o, ¬ av g o

/-- What a run may have changed. -/
structure Ev (st : Sto) (m : Lay) (w : World) (st' : Sto) (m' : Lay) (w' : World) : Prop where
  os : w'.os = w.os
  tape : w'.tape = w.tape
  output : w'.output = w.output
  size : w.heap.size ≤ w'.heap.size
  blk : ∀ b, b < w.heap.size → (∀ k x, st.boxes[k]? = some (some x) → m.ρ k ≠ b) → (∀ r row g c, st.rows[r]? = some row → m.γ r = some (g, c) → g ≠ b) → w'.heap[b]? = w.heap[b]?
  cell : ∀ b o, b < w.heap.size → st.ok m b o → w'.cell? ⟨b, o, none⟩ = w.cell? ⟨b, o, none⟩
  okk : ∀ b o, b < w.heap.size → st.ok m b o → st'.ok m' b o
  live : ∀ k x, st.boxes[k]? = some (some x) → (∃ x', st'.boxes[k]? = some (some x')) ∧ m'.ρ k = m.ρ k
  fresh : ∀ k x', st'.boxes[k]? = some (some x') → (∃ x, st.boxes[k]? = some (some x)) ∨ w.heap.size ≤ m'.ρ k
  rowl : ∀ r row, st.rows[r]? = some row → ∃ row', st'.rows[r]? = some row' ∧ row'.sz = row.sz ∧ row.es.length ≤ row'.es.length ∧ (row.es.length = row'.es.length → m'.γ r = m.γ r) ∧ (row.whole = true → row'.whole = true ∧ m'.γ r = m.γ r)
  rfresh : ∀ r row' g c, st'.rows[r]? = some row' → m'.γ r = some (g, c) → (∃ row c0, st.rows[r]? = some row ∧ m.γ r = some (g, c0)) ∨ w.heap.size ≤ g

theorem Ev.refl (st : Sto) (m : Lay) (w : World) : Ev st m w st m w :=
  ⟨rfl, rfl, rfl, Nat.le_refl _, fun _ _ _ _ => rfl, fun _ _ _ _ => rfl, fun _ _ _ h => h, fun _ x h => ⟨⟨x, h⟩, rfl⟩, fun _ x h => .inl ⟨x, h⟩, fun _ row h => ⟨row, h, rfl, Nat.le_refl _, fun _ => rfl, fun h => ⟨h, rfl⟩⟩, fun _ row _ c h h' => .inl ⟨row, c, h, h'⟩⟩

theorem Ev.trans {st st1 st2 : Sto} {m m1 m2 : Lay} {w w1 w2 : World} (h : Ev st m w st1 m1 w1) (k : Ev st1 m1 w1 st2 m2 w2) : Ev st m w st2 m2 w2 where
  os := k.os.trans h.os
  tape := k.tape.trans h.tape
  output := k.output.trans h.output
  size := Nat.le_trans h.size k.size
  blk := fun b hb h1 h2 => (k.blk b (Nat.lt_of_lt_of_le hb h.size) (fun i x' hx' => by
      rcases h.fresh i x' hx' with ⟨x, hx⟩ | hf
      · rw [(h.live i x hx).2]; exact h1 i x hx
      · omega) (fun r row' g c hr hg => by
      rcases h.rfresh r row' g c hr hg with ⟨row, c0, hr0, hg0⟩ | hf
      · exact h2 r row g c0 hr0 hg0
      · omega)).trans (h.blk b hb h1 h2)
  cell := fun b o hb hk => (k.cell b o (Nat.lt_of_lt_of_le hb h.size) (h.okk b o hb hk)).trans (h.cell b o hb hk)
  okk := fun b o hb hk => k.okk b o (Nat.lt_of_lt_of_le hb h.size) (h.okk b o hb hk)
  live := fun i x hx => by
    obtain ⟨⟨x1, hx1⟩, e1⟩ := h.live i x hx
    obtain ⟨hx2, e2⟩ := k.live i x1 hx1
    exact ⟨hx2, e2.trans e1⟩
  fresh := fun i x' hx' => by
    rcases k.fresh i x' hx' with ⟨x1, hx1⟩ | hf
    · rcases h.fresh i x1 hx1 with hx | hf
      · exact .inl hx
      · exact .inr (by rw [(k.live i x1 hx1).2]; exact hf)
    · exact .inr (Nat.le_trans h.size hf)
  rowl := fun r row hr => by
    obtain ⟨row1, hr1, s1, l1, g1, f1⟩ := h.rowl r row hr
    obtain ⟨row2, hr2, s2, l2, g2, f2⟩ := k.rowl r row1 hr1
    refine ⟨row2, hr2, s2.trans s1, Nat.le_trans l1 l2, fun he => ?_, fun hf => ?_⟩
    · rw [g2 (by omega), g1 (by omega)]
    · obtain ⟨a1, a2⟩ := f1 hf
      obtain ⟨b1, b2⟩ := f2 a1
      exact ⟨b1, b2.trans a2⟩
  rfresh := fun r row' g c hr hg => by
    rcases k.rfresh r row' g c hr hg with ⟨row1, c1, hr1, hg1⟩ | hf
    · exact h.rfresh r row1 g c1 hr1 hg1
    · exact .inr (Nat.le_trans h.size hf)

mutual
theorem RV.mono {av : Nat → Nat → Prop} {st st' : Sto} {m m' : Lay} {w w' : World} (h : Ev st m w st' m' w') : ∀ (p : PV) (v : Value), RV (okA av st m) st m w p v → RV (okA av st' m') st' m' w' p v
  | .t t, v, hr => RepM.mono hr h.size (fun b o hb hk => ⟨hk.1, h.okk b o hb hk.2⟩) (fun b o hb hk => h.cell b o hb hk.2)
  | .agg cs, v, hr => by
    obtain ⟨vs, rfl, hl⟩ := hr
    exact ⟨vs, rfl, RVL.mono h cs vs hl⟩
  | .tup cs, v, hr => by
    obtain ⟨vs, rfl, hl⟩ := hr
    exact ⟨vs, rfl, RVL.mono h cs vs hl⟩
  | .nil, v, hr => hr
  | .acc sz es r, v, hr => by
    obtain ⟨row, h1, h2, h3, h4, h5⟩ := hr
    obtain ⟨row', k1, k2, k3, k4, -⟩ := h.rowl r row h1
    exact ⟨row', k1, k2.trans h2, Nat.le_trans h3 k3, RepM.mono h4 h.size (fun b o hb hk => ⟨hk.1, h.okk b o hb hk.2⟩) (fun b o hb hk => h.cell b o hb hk.2), fun he => by rw [k4 (by omega)]; exact h5 (by omega)⟩
  | .ptr k off, v, hr => by
    obtain ⟨⟨x, hx⟩, hv⟩ := hr
    obtain ⟨h1, h2⟩ := h.live k x hx
    exact ⟨h1, by rw [h2]; exact hv⟩
  | .eptr cs, v, hr => by
    obtain ⟨b, off, h1, hb, c, h2⟩ := hr
    refine ⟨b, off, h1, Nat.lt_of_lt_of_le hb h.size, c, fun j d hd => ?_⟩
    obtain ⟨k1, k2, k3⟩ := h2 j d hd
    exact ⟨⟨k1.1, h.okk _ _ hb k1.2⟩, (h.cell _ _ hb k1.2).trans k2, RepM.mono k3 h.size (fun b o hb hk => ⟨hk.1, h.okk b o hb hk.2⟩) (fun b o hb hk => h.cell b o hb hk.2)⟩
  | .fn f caps, v, hr => by
    obtain ⟨vs, rfl, hl⟩ := hr
    exact ⟨vs, rfl, RVL.mono h caps vs hl⟩
  | .full sz n r, v, hr => by
    obtain ⟨row, g, h1, h2, h3, h4, h5⟩ := hr
    obtain ⟨row', k1, k2, -, -, k5⟩ := h.rowl r row h1
    exact ⟨row', g, k1, k2.trans h2, (k5 h3).1, by rw [(k5 h3).2]; exact h4, h5⟩
  | .rptr r i, v, hr => by
    obtain ⟨row, g, n, h1, h3, h4, h5⟩ := hr
    obtain ⟨row', k1, k2, -, -, k5⟩ := h.rowl r row h1
    exact ⟨row', g, n, k1, (k5 h3).1, by rw [(k5 h3).2]; exact h4, by rw [k2]; exact h5⟩
theorem RVL.mono {av : Nat → Nat → Prop} {st st' : Sto} {m m' : Lay} {w w' : World} (h : Ev st m w st' m' w') : ∀ (ps : List PV) (vs : List Value), RVL (okA av st m) st m w ps vs → RVL (okA av st' m') st' m' w' ps vs
  | [], [], hr => hr
  | p :: ps, v :: vs, hr => ⟨RV.mono h p v hr.1, RVL.mono h ps vs hr.2⟩
  | [], _ :: _, hr => hr.elim
  | _ :: _, [], hr => hr.elim
end

theorem RVL.length {ok : Nat → Nat → Prop} {st : Sto} {m : Lay} {w : World} : ∀ {ps : List PV} {vs : List Value}, RVL ok st m w ps vs → ps.length = vs.length
  | [], [], _ => rfl
  | _ :: _, _ :: _, h => by simp [RVL.length h.2]
  | [], _ :: _, h => h.elim
  | _ :: _, [], h => h.elim
theorem RVL.get {ok : Nat → Nat → Prop} {st : Sto} {m : Lay} {w : World} : ∀ {ps : List PV} {vs : List Value} {j : Nat} {p : PV}, RVL ok st m w ps vs → ps[j]? = some p → ∃ v, vs[j]? = some v ∧ RV ok st m w p v
  | [], [], _, _, _, hp => by simp at hp
  | p :: ps, v :: vs, 0, q, h, hp => by simp at hp; subst hp; exact ⟨v, rfl, h.1⟩
  | p :: ps, v :: vs, j + 1, q, h, hp => by simpa using RVL.get (j := j) h.2 (by simpa using hp)
  | [], _ :: _, _, _, h, _ => h.elim
  | _ :: _, [], _, _, h, _ => h.elim
theorem RVL.take {ok : Nat → Nat → Prop} {st : Sto} {m : Lay} {w : World} : ∀ {ps : List PV} {vs : List Value} (n : Nat), RVL ok st m w ps vs → RVL ok st m w (ps.take n) (vs.take n)
  | [], [], n, _ => by simp [RVL]
  | p :: ps, v :: vs, 0, _ => by simp [RVL]
  | p :: ps, v :: vs, n + 1, h => ⟨h.1, RVL.take n h.2⟩
  | [], _ :: _, _, h => h.elim
  | _ :: _, [], _, h => h.elim
theorem RVL.drop {ok : Nat → Nat → Prop} {st : Sto} {m : Lay} {w : World} : ∀ {ps : List PV} {vs : List Value} (n : Nat), RVL ok st m w ps vs → RVL ok st m w (ps.drop n) (vs.drop n)
  | [], [], n, _ => by simp [RVL]
  | p :: ps, v :: vs, 0, h => h
  | p :: ps, v :: vs, n + 1, h => RVL.drop (ps := ps) (vs := vs) n h.2
  | [], _ :: _, _, h => h.elim
  | _ :: _, [], _, h => h.elim
theorem RVL.append {ok : Nat → Nat → Prop} {st : Sto} {m : Lay} {w : World} : ∀ {ps qs : List PV} {vs us : List Value}, RVL ok st m w ps vs → RVL ok st m w qs us → RVL ok st m w (ps ++ qs) (vs ++ us)
  | [], _, [], _, _, k => k
  | p :: ps, _, v :: vs, _, h, k => ⟨h.1, RVL.append h.2 k⟩
  | [], _, _ :: _, _, h, _ => h.elim
  | _ :: _, _, [], _, h, _ => h.elim

theorem RVL.ofTr {ok : Nat → Nat → Prop} {st : Sto} {m : Lay} {w : World} : ∀ {ts : List Tr} {vs : List Value}, RVL ok st m w (ts.map PV.t) vs → RepL w ts vs
  | [], [], _ => trivial
  | _ :: _, _ :: _, h => ⟨RepM.rep h.1, RVL.ofTr h.2⟩
  | [], _ :: _, h => h.elim
  | _ :: _, [], h => h.elim
theorem RepL.toRVL {ok : Nat → Nat → Prop} {st : Sto} {m : Lay} {w : World} (hk : ∀ b o, b < w.heap.size → ok b o) : ∀ {ts : List Tr} {vs : List Value}, RepL w ts vs → RVL ok st m w (ts.map PV.t) vs
  | [], [], _ => trivial
  | _ :: _, _ :: _, h => ⟨h.1.repM hk, RepL.toRVL hk h.2⟩
  | [], _ :: _, h => h.elim
  | _ :: _, [], h => h.elim

end Go.Proofs.YtnakkelglbcecaaGreat
