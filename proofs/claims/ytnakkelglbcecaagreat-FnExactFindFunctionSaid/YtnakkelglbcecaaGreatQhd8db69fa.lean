/- Words, rules and walks of several kinds, laid together: Core, Own, Data, Open, Typed, Ctr, BInstanceRef, BType, BExpr, BArm, BMethod, BBound. No conditions but those that each theorem states. -/
import Derived.WalkKit
import Derived.WalkSpells
import Derived.WalkLawsBesides
import Derived.Lib.Hide
import Derived.Deep.Slices
import Derived.StillTailTactics
import Derived.ProofKit
import Derived.Test.YtnakkelglbcecaaGreatProg
set_option linter.unusedSimpArgs false
set_option linter.unusedVariables false
namespace Go.Proofs.YtnakkelglbcecaaGreat
open Go.RowKit

/-- What a datum looks like in cells: a plain cell, or a slice whose elements have 'sz' cells each. -/
inductive Tr where
  | leaf (v : Value)
  | row (sz : Nat) (es : List (List Tr))

def LeafOk : Value → Prop
  | .int k n => (Lit.int k n).wf = true
  | .string s => s.size ≤ maxLen
  | .bool _ => True
  | _ => False

inductive Rep (w : World) : Tr → Value → Prop
  | leaf {v : Value} : LeafOk v → Rep w (.leaf v) v
  | row {sz : Nat} {es : List (List Tr)} {a : Option Addr} {cap : Nat} (c : Nat → Nat → Value) : es.length ≤ cap → cap ≤ maxLen →
      (es ≠ [] → ∃ b off, a = some ⟨b, off, none⟩ ∧ b < w.heap.size ∧ ∀ i e, es[i]? = some e → ∀ j d, e[j]? = some d → w.cell? ⟨b, off + i * sz + j, none⟩ = some (c i j)) →
      (∀ i e, es[i]? = some e → ∀ j d, e[j]? = some d → Rep w d (c i j)) → Rep w (.row sz es) (.slice a es.length cap)

def RepL (w : World) : List Tr → List Value → Prop
  | [], [] => True
  | t :: ts, v :: vs => Rep w t v ∧ RepL w ts vs
  | _, _ => False

/-- A later world: whatever was there is there still. -/
abbrev Ext (w w' : World) : Prop := Below w.heap.size w w'

theorem Ext.refl (w : World) : Ext w w := Below.refl _ _
theorem Ext.trans {a b c : World} (h : Ext a b) (k : Ext b c) : Ext a c := Below.trans h (k.mono h.size)
theorem Ext.alloc {a w : World} (h : Ext a w) (o : Obj) : Ext a (w.alloc o) := Below.alloc h h.size o
theorem Ext.drew {a w : World} (h : Ext a w) : Ext a w.drew := Below.drew h
theorem Ext.drewN {a w : World} (h : Ext a w) (n : Nat) : Ext a (w.drewN n) := ⟨h.os, h.tape, h.output, h.size, h.block⟩
theorem Ext.set {a w : World} (h : Ext a w) {p : Addr} (hp : a.heap.size ≤ p.block) (u : Value) : Ext a (w.setCell p u) := Below.setCell h hp u

theorem Rep.ext {w w' : World} {t : Tr} {v : Value} (h : Rep w t v) (hx : Ext w w') : Rep w' t v := by
  induction h with
  | leaf h => exact .leaf h
  | row c h1 h2 h3 _ ih =>
    refine .row c h1 h2 (fun hne => ?_) ih
    obtain ⟨b, off, ha, hb, hc⟩ := h3 hne
    exact ⟨b, off, ha, Nat.lt_of_lt_of_le hb hx.size, fun i e he j d hd => (hx.cell (p := ⟨b, _, none⟩) hb).trans (hc i e he j d hd)⟩

theorem RepL.ext {w w' : World} {ts : List Tr} {vs : List Value} (h : RepL w ts vs) (hx : Ext w w') : RepL w' ts vs := by
  induction ts generalizing vs with
  | nil => cases vs <;> simp_all [RepL]
  | cons t ts ih =>
    cases vs with
    | nil => simp [RepL] at h
    | cons v vs => exact ⟨h.1.ext hx, ih h.2⟩

theorem RepL.of_fn {w : World} {c : Nat → Value} : ∀ {ts : List Tr} (k : Nat), (∀ (j : Nat) d, ts[j]? = some d → Rep w d (c (k + j))) → RepL w ts ((List.range' k ts.length).map c) := by
  intro ts
  induction ts with
  | nil => intro k _; simp [RepL]
  | cons t ts ih =>
    intro k h
    refine ⟨h 0 t rfl, ?_⟩
    exact ih (k + 1) (fun j d hd => by have := h (j + 1) d (by simpa using hd); rwa [show k + 1 + j = k + (j + 1) by omega])

/-- Element k of a slice: its address, its cells, and that these are its datum's. -/
theorem Rep.at {w : World} {sz : Nat} {es : List (List Tr)} {s : Value} {k : Nat} {e : List Tr} (h : Rep w (.row sz es) s) (hk : es[k]? = some e) :
    ∃ b off cap cs, s = .slice (some ⟨b, off, none⟩) es.length cap ∧ b < w.heap.size ∧ RepL w e cs ∧ ∀ j v, cs[j]? = some v → w.cell? ⟨b, off + k * sz + j, none⟩ = some v := by
  cases h with
  | row c h1 h2 h3 h4 =>
    obtain ⟨b, off, rfl, hb, hc⟩ := h3 (by rintro rfl; simp at hk)
    refine ⟨b, off, _, (List.range' 0 e.length).map (c k), rfl, hb, RepL.of_fn 0 (fun j d hd => by simpa using h4 k e hk j d hd), fun j v hv => ?_⟩
    rw [List.getElem?_map] at hv
    rcases hj : e[j]? with _ | d
    · rw [List.getElem?_eq_none_iff] at hj
      rw [List.getElem?_eq_none (by simpa using hj)] at hv
      simp at hv
    · have hl : j < e.length := (List.getElem?_eq_some_iff.1 hj).1
      rw [List.getElem?_range' hl] at hv
      simp at hv
      rw [hc k e hk j d hj, hv]

theorem Rep.shape {w : World} {sz : Nat} {es : List (List Tr)} {s : Value} (h : Rep w (.row sz es) s) : ∃ a cap, s = .slice a es.length cap ∧ es.length ≤ cap ∧ cap ≤ maxLen := by
  cases h with
  | row c h1 h2 h3 h4 => exact ⟨_, _, rfl, h1, h2⟩

theorem Rep.leaf_eq {w : World} {v u : Value} (h : Rep w (.leaf v) u) : u = v ∧ LeafOk v := by
  cases h with
  | leaf h => exact ⟨rfl, h⟩

theorem RepL.append {w : World} {ts us : List Tr} {vs xs : List Value} (h : RepL w ts vs) (k : RepL w us xs) : RepL w (ts ++ us) (vs ++ xs) := by
  induction ts generalizing vs with
  | nil => cases vs <;> simp_all [RepL]
  | cons t ts ih =>
    cases vs with
    | nil => simp [RepL] at h
    | cons v vs => exact ⟨h.1, ih h.2⟩

theorem RepL.length {w : World} {ts : List Tr} {vs : List Value} (h : RepL w ts vs) : ts.length = vs.length := by
  induction ts generalizing vs with
  | nil => cases vs <;> simp_all [RepL]
  | cons t ts ih =>
    cases vs with
    | nil => simp [RepL] at h
    | cons v vs => simp [ih h.2]

theorem RepL.get {w : World} {ts : List Tr} {vs : List Value} (h : RepL w ts vs) {j : Nat} {d : Tr} (hd : ts[j]? = some d) : ∃ v, vs[j]? = some v ∧ Rep w d v := by
  induction ts generalizing vs j with
  | nil => simp at hd
  | cons t ts ih =>
    cases vs with
    | nil => simp [RepL] at h
    | cons v vs =>
      cases j with
      | zero => simp at hd; exact ⟨v, rfl, hd ▸ h.1⟩
      | succ j => exact ih h.2 (by simpa using hd)

/-- A block of the call's own, known whole. -/
def OB (w : World) (g : Nat) (t : TypeId) (cs : Array Value) : Prop := w.heap[g]? = some (.cells cs t (0, 0))
theorem OB.lt {w : World} {g : Nat} {t : TypeId} {cs : Array Value} (h : OB w g t cs) : g < w.heap.size := by
  rcases Nat.lt_or_ge g w.heap.size with hlt | hge
  · exact hlt
  · unfold OB at h; rw [Array.getElem?_eq_none hge] at h; cases h
theorem OB.new (w : World) (t : TypeId) (cs : Array Value) : OB (w.alloc (.cells cs t)) w.heap.size t cs := heap_alloc_new w _
theorem OB.ext {w w' : World} {g : Nat} {t : TypeId} {cs : Array Value} (h : OB w g t cs) (hx : Ext w w') : OB w' g t cs := (hx.block g h.lt).trans h
theorem OB.cell {w : World} {g : Nat} {t : TypeId} {cs : Array Value} (h : OB w g t cs) : ∀ i, w.cell? ⟨g, i, none⟩ = cs[i]? := fun i => cell_of_row w g i cs t (0, 0) h
mutual
def Tr.bulk : Tr → Nat
  | .leaf (.string s) => s.size
  | .leaf _ => 0
  | .row _ es => es.length + Tr.bulkAll es
def Tr.bulkL : List Tr → Nat
  | [] => 0
  | t :: r => Tr.bulk t + Tr.bulkL r
def Tr.bulkAll : List (List Tr) → Nat
  | [] => 0
  | e :: r => Tr.bulkL e + Tr.bulkAll r
end
theorem Tr.bulkAll_take (l : List (List Tr)) : ∀ k (h : k < l.length), Tr.bulkAll (l.take (k + 1)) = Tr.bulkAll (l.take k) + Tr.bulkL l[k] := by
  induction l with
  | nil => intro k h; simp at h
  | cons a l ih =>
    intro k h
    cases k with
    | zero => simp [Tr.bulkAll]
    | succ k =>
      have := ih k (by simpa using h)
      simp [Tr.bulkAll, this]; omega

theorem Rep.at2 {w : World} {sz : Nat} {es : List (List Tr)} {a : Option Addr} {len cap : Nat} {k : Nat} {e : List Tr} (h : Rep w (.row sz es) (.slice a len cap)) (hk : es[k]? = some e) :
    ∃ b off cs, a = some ⟨b, off, none⟩ ∧ b < w.heap.size ∧ RepL w e cs ∧ ∀ j v, cs[j]? = some v → w.cell? ⟨b, off + k * sz + j, none⟩ = some v := by
  obtain ⟨b, off, cap', cs, hs, h1, h2, h3⟩ := h.at hk
  injection hs with hs
  exact ⟨b, off, cs, hs, h1, h2, h3⟩

/-- A struct of whatever number of cells, read at its address. -/
theorem run_loadVar_rep {P : Program} (w : World) (b off : Nat) (ty : TypeId) (cs : List Value) (fs : Array Field) (hu : P.underlying ty = some (.struct fs)) (hi : (P.info? ty).map (·.size) = some cs.length)
    (hc : ∀ j v, cs[j]? = some v → w.cell? ⟨b, off + j, none⟩ = some v) : (loadVar ty ⟨b, off, none⟩).run P w = .ok (.agg ⟨cs⟩) w := by
  have hl : (loadCells ⟨b, off, none⟩ cs.length).run P w = .ok cs.toArray w :=
    run_loadCells_list (P := P) w ⟨b, off, none⟩ cs (fun j v hv => by
      have hadd : (⟨b, off, none⟩ : Addr).add j = ⟨b, off + j, none⟩ := by unfold Addr.add; split <;> simp_all
      rw [hadd]; exact hc j v hv)
  cases hq : P.info? ty with
  | none => simp [hq] at hi
  | some i =>
    have hs : i.size = cs.length := by simpa [hq] using hi
    have hagg : (isAgg ty).run P w = .ok true w := by
      unfold isAgg
      rw [Sem.run_bind, run_underlying hu w]
      simp
    simp [loadVar, Sem.run_bind, hagg, Go.sizeOf, typeInfo, hq, hs, hl]

theorem wpList_load_rep {P : Program} {ops : Array Oper} {rest : List Oper} {o : Oper} {a : Act} {w : World} {Q : Exit → Act → World → Prop} (hgd : o.guard = none) (ty : TypeId) (x : Operand) (ho : o.op = .load ty x)
    (b off : Nat) (hx : a.eval x = .pointer (some ⟨b, off, none⟩)) (cs : List Value) (fs : Array Field) (hu : P.underlying ty = some (.struct fs)) (hi : (P.info? ty).map (·.size) = some cs.length)
    (hc : ∀ j v, cs[j]? = some v → w.cell? ⟨b, off + j, none⟩ = some v) (h : wpList P ops Q rest (a.put o.dst (.agg ⟨cs⟩)) w) : wpList P ops Q (o :: rest) a w :=
  wpList_plain hgd fun _ hK => by
    unfold Oper.wp execOp
    simp only [ho, hx, Instr.loadAt, Instr.sureAddr, Sem.run_bind, Sem.run_pure, Result.andThen_ok, run_loadVar_rep w b off ty cs fs hu hi hc]
    exact hK _ _ h

theorem wpStill_load_rep {P : Program} {ops : Array Oper} {rest : List Oper} {o : Oper} {a : Act} {w : World} {Q : Act → Prop} (hgd : o.guard = none) (ty : TypeId) (x : Operand) (ho : o.op = .load ty x)
    (b off : Nat) (hx : a.eval x = .pointer (some ⟨b, off, none⟩)) (cs : List Value) (fs : Array Field) (hu : P.underlying ty = some (.struct fs)) (hi : (P.info? ty).map (·.size) = some cs.length)
    (hc : ∀ j v, cs[j]? = some v → w.cell? ⟨b, off + j, none⟩ = some v) (h : wpStill P ops w Q rest (a.put o.dst (.agg ⟨cs⟩))) : wpStill P ops w Q (o :: rest) a := by
  refine wpStill_step fun K hK => ?_
  have hw : Region.wanted o (yielded ops a.tmps) = true := by simp [Region.wanted, hgd]
  rw [if_pos hw]
  unfold Oper.still execOp
  simp only [ho, hx, Instr.loadAt, Instr.sureAddr, Sem.run_bind, Sem.run_pure, Result.andThen_ok, run_loadVar_rep w b off ty cs fs hu hi hc]
  exact ⟨rfl, hK _ h⟩

end Go.Proofs.YtnakkelglbcecaaGreat

namespace Go.Proofs.YtnakkelglbcecaaGreat
open Go.RowKit

/-- The tree's blocks lie in S, none is met twice, and none is frozen. -/
inductive Own (w : World) : Tr → Value → (Nat → Prop) → Prop
  | leaf {v : Value} {S : Nat → Prop} : LeafOk v → Own w (.leaf v) v S
  | row {sz : Nat} {es : List (List Tr)} {a : Option Addr} {cap : Nat} {S : Nat → Prop} (c : Nat → Nat → Value) (T : Nat → Nat → Nat → Prop) : es.length ≤ cap → cap ≤ maxLen →
      (es ≠ [] → ∃ b off E arr, a = some ⟨b, off, none⟩ ∧ OB w b E arr ∧ S b ∧ (∀ i e, es[i]? = some e → ∀ j d, e[j]? = some d → arr[off + i * sz + j]? = some (c i j) ∧ ∀ x, T i j x → x ≠ b)) →
      (∀ i e, es[i]? = some e → ∀ j d, e[j]? = some d → Own w d (c i j) (T i j)) →
      (∀ i e, es[i]? = some e → ∀ j d, e[j]? = some d → ∀ x, T i j x → S x) →
      (∀ i e, es[i]? = some e → ∀ j d, e[j]? = some d → ∀ i' e', es[i']? = some e' → ∀ j' d', e'[j']? = some d' → (i = i' → j ≠ j') → ∀ x, T i j x → T i' j' x → False) →
      Own w (.row sz es) (.slice a es.length cap) S

def OwnL (w : World) (ts : List Tr) (vs : List Value) (S : Nat → Prop) : Prop :=
  vs.length = ts.length ∧ ∃ T : Nat → Nat → Prop, (∀ j d, ts[j]? = some d → ∃ v, vs[j]? = some v ∧ Own w d v (T j)) ∧ (∀ j d, ts[j]? = some d → ∀ x, T j x → S x) ∧
    (∀ j d, ts[j]? = some d → ∀ j' d', ts[j']? = some d' → j ≠ j' → ∀ x, T j x → T j' x → False)

theorem Own.rep {w : World} {t : Tr} {v : Value} {S : Nat → Prop} (h : Own w t v S) : Rep w t v := by
  induction h with
  | leaf h => exact .leaf h
  | row c T h1 h2 h3 _ _ _ ih =>
    refine .row c h1 h2 (fun hne => ?_) ih
    obtain ⟨b, off, E, arr, ha, hb, _, hc⟩ := h3 hne
    exact ⟨b, off, ha, hb.lt, fun i e he j d hd => by rw [hb.cell]; exact (hc i e he j d hd).1⟩

theorem Own.keep {w w' : World} {t : Tr} {v : Value} {S : Nat → Prop} (h : Own w t v S) (hx : ∀ b, S b → b < w.heap.size → w'.heap[b]? = w.heap[b]?) : Own w' t v S := by
  induction h with
  | leaf h => exact .leaf h
  | row c T h1 h2 h3 _ h5 h6 ih =>
    refine .row c T h1 h2 (fun hne => ?_) (fun i e he j d hd => ih i e he j d hd fun b hb => hx b (h5 i e he j d hd b hb)) h5 h6
    obtain ⟨b, off, E, arr, ha, hb, hs, hc⟩ := h3 hne
    exact ⟨b, off, E, arr, ha, (hx b hs hb.lt).trans hb, hs, hc⟩

theorem Own.ext {w w' : World} {t : Tr} {v : Value} {S : Nat → Prop} (h : Own w t v S) (hx : Ext w w') : Own w' t v S := h.keep fun b _ hb => hx.block b hb

theorem Own.mono {w : World} {t : Tr} {v : Value} {S S' : Nat → Prop} (h : Own w t v S) (hS : ∀ x, S x → S' x) : Own w t v S' := by
  cases h with
  | leaf h => exact .leaf h
  | row c T h1 h2 h3 h4 h5 h6 =>
    refine .row c T h1 h2 (fun hne => ?_) h4 (fun i e he j d hd x hx => hS x (h5 i e he j d hd x hx)) h6
    obtain ⟨b, off, E, arr, ha, hb, hs, hc⟩ := h3 hne
    exact ⟨b, off, E, arr, ha, hb, hS b hs, hc⟩

theorem RepL.of_get {w : World} : ∀ {ts : List Tr} {vs : List Value}, vs.length = ts.length → (∀ (j : Nat) (d : Tr), ts[j]? = some d → ∃ v, vs[j]? = some v ∧ Rep w d v) → RepL w ts vs
  | [], [], _, _ => trivial
  | [], _ :: _, h, _ => by simp at h
  | _ :: _, [], h, _ => by simp at h
  | t :: ts, v :: vs, h, k => by
    obtain ⟨u, hu, hr⟩ := k 0 t rfl
    simp at hu
    subst hu
    exact ⟨hr, RepL.of_get (by simpa using h) fun j d hd => by have := k (j + 1) d (by simpa using hd); simpa using this⟩

theorem OwnL.rep {w : World} {ts : List Tr} {vs : List Value} {S : Nat → Prop} (h : OwnL w ts vs S) : RepL w ts vs := by
  obtain ⟨hl, T, h1, _, _⟩ := h
  exact RepL.of_get hl fun j d hd => by obtain ⟨v, hv, ho⟩ := h1 j d hd; exact ⟨v, hv, ho.rep⟩

theorem OwnL.keep {w w' : World} {ts : List Tr} {vs : List Value} {S : Nat → Prop} (h : OwnL w ts vs S) (hx : ∀ b, S b → b < w.heap.size → w'.heap[b]? = w.heap[b]?) : OwnL w' ts vs S := by
  obtain ⟨hl, T, h1, h2, h3⟩ := h
  exact ⟨hl, T, fun j d hd => by obtain ⟨v, hv, ho⟩ := h1 j d hd; exact ⟨v, hv, ho.keep fun b hb => hx b (h2 j d hd b hb)⟩, h2, h3⟩
theorem OwnL.ext {w w' : World} {ts : List Tr} {vs : List Value} {S : Nat → Prop} (h : OwnL w ts vs S) (hx : Ext w w') : OwnL w' ts vs S := h.keep fun b _ hb => hx.block b hb
theorem OwnL.mono {w : World} {ts : List Tr} {vs : List Value} {S S' : Nat → Prop} (h : OwnL w ts vs S) (hS : ∀ x, S x → S' x) : OwnL w ts vs S' := by
  obtain ⟨hl, T, h1, h2, h3⟩ := h
  exact ⟨hl, T, h1, fun j d hd x hx => hS x (h2 j d hd x hx), h3⟩

/-- What has been made between two worlds. -/
def Between (w w' : World) (x : Nat) : Prop := w.heap.size ≤ x ∧ x < w'.heap.size

/-- The first k elements of a slice that is being filled. -/
def Part (w : World) (B : Nat) (arr : Array Value) (sz : Nat) (es : List (List Tr)) (k : Nat) : Prop :=
  ∃ U : Nat → Nat → Prop, (∀ i, i < k → ∀ e, es[i]? = some e → OwnL w e ((arr.toList.drop (i * sz)).take sz) (U i)) ∧ (∀ i, i < k → ∀ x, U i x → B < x ∧ x < w.heap.size) ∧
    (∀ i, i < k → ∀ i', i' < k → i ≠ i' → ∀ x, U i x → U i' x → False)

theorem Part.zero (w : World) (B : Nat) (arr : Array Value) (sz : Nat) (es : List (List Tr)) : Part w B arr sz es 0 := ⟨fun _ _ => False, by simp, by simp, by simp⟩

def splice (arr : Array Value) (o : Nat) (vs : List Value) : Array Value := (arr.toList.take o ++ vs ++ arr.toList.drop (o + vs.length)).toArray

theorem splice_size {arr : Array Value} {o : Nat} {vs : List Value} (h : o + vs.length ≤ arr.size) : (splice arr o vs).size = arr.size := by
  simp [splice]; omega

theorem splice_other {arr : Array Value} {o : Nat} {vs : List Value} {i sz : Nat} (h : o + vs.length ≤ arr.size) (hi : i + sz ≤ o) :
    ((splice arr o vs).toList.drop i).take sz = (arr.toList.drop i).take sz := by
  apply List.ext_getElem?
  intro j
  simp only [splice, List.getElem?_take, List.getElem?_drop]
  split
  · rw [List.append_assoc, List.getElem?_append_left (by simp; omega), List.getElem?_take, if_pos (by omega)]
  · rfl
theorem splice_same {arr : Array Value} {o : Nat} {vs : List Value} (h : o + vs.length ≤ arr.size) : ((splice arr o vs).toList.drop o).take vs.length = vs := by
  have h1 : o ≤ arr.size := by omega
  simp [splice, List.length_take, Nat.min_eq_left h1]

theorem Part.step {w w1 w2 : World} {B T : Nat} {arr : Array Value} {sz k : Nat} {es : List (List Tr)} {e : List Tr} {cs : List Value} (h : Part w B arr sz es k) (hB : B < w.heap.size) (hx : Ext w w1)
    (he : es[k]? = some e) (ho : OwnL w1 e cs (Between w w1)) (hl : cs.length = sz) (hsz : arr.size = es.length * sz)
    (hg : w1.grownBy w2 (some B)) (_hob : OB w2 B T (splice arr (k * sz) cs)) : Part w2 B (splice arr (k * sz) cs) sz es (k + 1) := by
  obtain ⟨U, h1, h2, h3⟩ := h
  have hk : k < es.length := (List.getElem?_eq_some_iff.1 he).1
  have hfit : k * sz + cs.length ≤ arr.size := by rw [hl, hsz, ← Nat.succ_mul]; exact Nat.mul_le_mul_right _ hk
  have hwx : ∀ x, x ≠ B → x < w.heap.size → w2.heap[x]? = w.heap[x]? := fun x hne hlt =>
    (hg.block x (Nat.lt_of_lt_of_le hlt hx.size) (by simpa using hne)).trans (hx.block x hlt)
  refine ⟨fun i => if i = k then Between w w1 else U i, ?_, ?_, ?_⟩
  · intro i hi e' he'
    by_cases hik : i = k
    · subst hik
      have : e' = e := by rw [he] at he'; exact (Option.some.inj he').symm
      subst this
      simp only [if_true]
      have hs := splice_same hfit
      rw [hl] at hs
      rw [hs]
      exact ho.keep fun b hb hlt => hg.block b hlt (by have := hb.1; simp; omega)
    · simp only [if_neg hik]
      have hlt : i < k := by omega
      rw [splice_other hfit (by rw [← Nat.succ_mul]; exact Nat.mul_le_mul_right _ hlt)]
      exact (h1 i hlt e' he').keep fun b hb hlt' => hwx b (by have := (h2 i hlt b hb).1; omega) hlt'
  · intro i hi x hxU
    by_cases hik : i = k
    · simp only [if_pos hik] at hxU
      exact ⟨by have := hxU.1; omega, Nat.lt_of_lt_of_le hxU.2 hg.size⟩
    · simp only [if_neg hik] at hxU
      obtain ⟨p, q⟩ := h2 i (by omega) x hxU
      exact ⟨p, by have := hx.size; have := hg.size; omega⟩
  · intro i hi i' hi' hne x hxU hxU'
    by_cases hik : i = k
    · by_cases hik' : i' = k
      · omega
      · simp only [if_pos hik] at hxU
        simp only [if_neg hik'] at hxU'
        have := (h2 i' (by omega) x hxU').2
        have := hxU.1
        omega
    · by_cases hik' : i' = k
      · simp only [if_neg hik] at hxU
        simp only [if_pos hik'] at hxU'
        have := (h2 i (by omega) x hxU).2
        have := hxU'.1
        omega
      · simp only [if_neg hik] at hxU
        simp only [if_neg hik'] at hxU'
        exact h3 i (by omega) i' (by omega) hne x hxU hxU'

theorem Part.keep {w w' : World} {B : Nat} {arr : Array Value} {sz k : Nat} {es : List (List Tr)} (h : Part w B arr sz es k) (hx : Ext w w') : Part w' B arr sz es k := by
  obtain ⟨U, h1, h2, h3⟩ := h
  exact ⟨U, fun i hi e he => (h1 i hi e he).ext hx, fun i hi x hxU => ⟨(h2 i hi x hxU).1, Nat.lt_of_lt_of_le (h2 i hi x hxU).2 hx.size⟩, h3⟩

theorem Part.done {w : World} {B T : Nat} {arr : Array Value} {sz : Nat} {es : List (List Tr)} {cap lo : Nat} (h : Part w B arr sz es es.length) (hob : OB w B T arr) (hsz : ∀ e ∈ es, e.length = sz)
    (hcap : es.length ≤ cap) (hm : cap ≤ maxLen) (hlo : lo ≤ B) : Own w (.row sz es) (.slice (some ⟨B, 0, none⟩) es.length cap) (fun x => lo ≤ x ∧ x < w.heap.size) := by
  obtain ⟨U, h1, h2, h3⟩ := h
  have hlt : ∀ i e, es[i]? = some e → i < es.length := fun i e he => (List.getElem?_eq_some_iff.1 he).1
  have key : ∀ i, ∃ T : Nat → Nat → Prop, ∀ e, es[i]? = some e → (∀ j d, e[j]? = some d → ∃ v, ((arr.toList.drop (i * sz)).take sz)[j]? = some v ∧ Own w d v (T j)) ∧ (∀ j d, e[j]? = some d → ∀ x, T j x → U i x) ∧
      (∀ j d, e[j]? = some d → ∀ j' d', e[j']? = some d' → j ≠ j' → ∀ x, T j x → T j' x → False) := by
    intro i
    rcases he : es[i]? with _ | e
    · exact ⟨fun _ _ => False, by simp⟩
    · obtain ⟨_, T, a1, a2, a3⟩ := h1 i (hlt i e he) e he
      exact ⟨T, fun e' he' => by cases he'; exact ⟨a1, a2, a3⟩⟩
  have key2 := fun i => Classical.choose_spec (key i)
  refine .row (fun i j => (arr[i * sz + j]?).getD undef) (fun i => Classical.choose (key i)) hcap hm ?_ ?_ ?_ ?_
  · intro _
    refine ⟨B, 0, T, arr, rfl, hob, ⟨hlo, hob.lt⟩, ?_⟩
    intro i e he j d hd
    obtain ⟨a1, a2, _⟩ := key2 i e he
    obtain ⟨v, hv, _⟩ := a1 j d hd
    have hj : j < sz := by rw [← hsz e (List.mem_of_getElem? he)]; exact (List.getElem?_eq_some_iff.1 hd).1
    rw [List.getElem?_take, if_pos hj, List.getElem?_drop] at hv
    refine ⟨by rw [Nat.zero_add]; have : arr[i * sz + j]? = some v := by simpa using hv
               simp [this], fun x hx => ?_⟩
    have := (h2 i (hlt i e he) x (a2 j d hd x hx)).1
    omega
  · intro i e he j d hd
    obtain ⟨a1, _, _⟩ := key2 i e he
    obtain ⟨v, hv, ho⟩ := a1 j d hd
    have hj : j < sz := by rw [← hsz e (List.mem_of_getElem? he)]; exact (List.getElem?_eq_some_iff.1 hd).1
    rw [List.getElem?_take, if_pos hj, List.getElem?_drop] at hv
    have : arr[i * sz + j]? = some v := by simpa using hv
    simpa [this] using ho
  · intro i e he j d hd x hx
    obtain ⟨_, a2, _⟩ := key2 i e he
    have := h2 i (hlt i e he) x (a2 j d hd x hx)
    exact ⟨by omega, this.2⟩
  · intro i e he j d hd i' e' he' j' d' hd' hne x hx hx'
    obtain ⟨_, a2, a3⟩ := key2 i e he
    by_cases hii : i = i'
    · subst hii
      have : e = e' := by rw [he] at he'; exact Option.some.inj he'
      subst this
      exact a3 j d hd j' d' hd' (hne rfl) x hx hx'
    · obtain ⟨_, b2, _⟩ := key2 i' e' he'
      exact h3 i (hlt i e he) i' (hlt i' e' he') hii x (a2 j d hd x hx) (b2 j' d' hd' x hx')

theorem LeafOk.one {v : Value} (h : LeafOk v) : v.oneCell' = true := by cases v <;> simp_all [LeafOk, Value.oneCell']
theorem Rep.one {w : World} {t : Tr} {v : Value} (h : Rep w t v) : v.oneCell' = true := by
  cases h with
  | leaf h => exact h.one
  | row => rfl
theorem RepL.one {w : World} : ∀ {ts : List Tr} {vs : List Value}, RepL w ts vs → ∀ v ∈ vs, v.oneCell' = true
  | [], [], _, v, hv => by simp at hv
  | _ :: _, _ :: _, h, v, hv => by
    rcases List.mem_cons.1 hv with rfl | hv
    · exact h.1.one
    · exact RepL.one h.2 v hv

/-- A struct of whatever number of cells, stored into a block of the call's own. -/
theorem wpList_store_rep {P : Program} {ops : Array Oper} {rest : List Oper} {o : Oper} {a : Act} {w : World} {Q : Exit → Act → World → Prop} (hgd : o.guard = none) (ty : TypeId) (x y : Operand) (ho : o.op = .store ty x y)
    (B off : Nat) (hx : a.eval x = .pointer (some ⟨B, off, none⟩)) (cs : List Value) (hy : a.eval y = .agg ⟨cs⟩) (T : TypeId) (arr : Array Value) (hob : OB w B T arr) (hi : (P.info? ty).map (·.size) = some cs.length)
    (hfit : off + cs.length ≤ arr.size) (h1 : ∀ v ∈ cs, v.oneCell' = true)
    (h : ∀ w', OB w' B T (splice arr off cs) → w.grownBy w' (some B) → w'.heap.size = w.heap.size → wpList P ops Q rest (a.put o.dst undef) w') : wpList P ops Q (o :: rest) a w :=
  wpList_plain hgd fun _ hK => by
    have hst := run_storeCells_at P B off T cs 0 arr w hob (by simpa using hfit) h1
    cases hq : P.info? ty with
    | none => simp [hq] at hi
    | some i =>
      have hs : i.size = cs.length := by simpa [hq] using hi
      have hrun : (storeVar ty ⟨B, off, none⟩ (.agg ⟨cs⟩)).run P w = .ok () (w.setRow B (splice arr off cs)) := by
        simp [storeVar, Go.sizeOf, typeInfo, hq, Value.cells, hs, hst, splice]
      unfold Oper.wp execOp
      simp only [ho, hx, hy, Instr.storeAt, Instr.sureAddr, Sem.run_bind, Sem.run_pure, Result.andThen_ok, hrun]
      exact hK _ _ (h _ (setRow_heap w B arr _ T _ hob) ⟨rfl, rfl, rfl, by simp, fun k _ hk => setRow_other w B k _ (fun e => hk (by rw [e]))⟩ (by simp))

theorem info_parts2 {P : Program} {e : TypeId} {s b : Nat} (h : (P.info? e).map (fun i => (i.zero.isSome, i.size, i.bytes)) = some (true, s, b)) : ∃ i z, P.info? e = some i ∧ i.zero = some z ∧ i.size = s ∧ i.bytes = b := by
  cases hq : P.info? e with
  | none => simp [hq] at h
  | some i =>
    simp [hq] at h
    obtain ⟨z, hz⟩ := Option.isSome_iff_exists.1 h.1
    exact ⟨i, z, rfl, hz, h.2.1, h.2.2⟩

/-- 'make([]T, n)'. -/
theorem wpList_make_rep {P : Program} {ops : Array Oper} {rest : List Oper} {o : Oper} {a : Act} {w : World} {Q : Exit → Act → World → Prop} (hgd : o.guard = none) (ty : TypeId) (x : Operand) (ho : o.op = .makeSlice ty x x)
    (n : Nat) (hx : a.eval x = .int .i64 n) (e : TypeId) (hu : P.underlying ty = some (.slice e)) (s b : Nat) (hi : (P.info? e).map (fun i => (i.zero.isSome, i.size, i.bytes)) = some (true, s, b))
    (hb : n * b ≤ 140737488355328) (hn : n ≤ 9223372036854775807)
    (h : ∀ w' arr, arr.size = n * s → OB w' w.heap.size e arr → Ext w w' → w'.heap.size = w.heap.size + 1 → wpList P ops Q rest (a.put o.dst (.slice (some ⟨w.heap.size, 0, none⟩) n n)) w') : wpList P ops Q (o :: rest) a w :=
  wpList_plain hgd fun _ hK => by
    obtain ⟨i, z, hq, hz, hs, hby⟩ := info_parts2 hi
    have hbb : (i.bytes : Int) * (n : Int) ≤ 281474976710656 := by
      have h2 : ((n * b : Nat) : Int) ≤ 281474976710656 := by omega
      rw [Int.natCast_mul, Int.mul_comm] at h2
      rwa [hby]
    have hr := run_make (P := P) w ty e i z hu hq hz .i64 .i64 n n (by omega) (by omega) hbb (by omega)
    simp only [Int.toNat_natCast] at hr
    unfold Oper.wp execOp
    simp only [ho, hx, Sem.run_bind, Sem.run_pure, Result.andThen_ok, hr]
    exact hK _ _ (h _ _ (by rw [size_madeCells, hs]) (OB.new w e _) (Ext.alloc (Ext.refl w) _) (by simp))

/-- Three blocks of the call's own: the parameter's box, the result's slot, the variable. -/
structure Three (w : World) (B0 : Nat) (T0 : TypeId) (a0 : Array Value) (B1 : Nat) (T1 : TypeId) (a1 : Array Value) (B2 : Nat) (T2 : TypeId) (a2 : Array Value) : Prop where
  o0 : OB w B0 T0 a0
  o1 : OB w B1 T1 a1
  o2 : OB w B2 T2 a2
theorem Three.ext {w w' : World} {B0 B1 B2 : Nat} {T0 T1 T2 : TypeId} {a0 a1 a2 : Array Value} (h : Three w B0 T0 a0 B1 T1 a1 B2 T2 a2) (hx : Ext w w') : Three w' B0 T0 a0 B1 T1 a1 B2 T2 a2 :=
  ⟨h.o0.ext hx, h.o1.ext hx, h.o2.ext hx⟩
theorem OB.grown {w w' : World} {g B : Nat} {t : TypeId} {cs : Array Value} (h : OB w g t cs) (hg : w.grownBy w' (some B)) (hne : g ≠ B) : OB w' g t cs := (hg.block g h.lt (by simpa using hne)).trans h
theorem Three.grown {w w' : World} {B0 B1 B2 : Nat} {T0 T1 T2 : TypeId} {a0 a1 a2 a2' : Array Value} (h : Three w B0 T0 a0 B1 T1 a1 B2 T2 a2) (hg : w.grownBy w' (some B2)) (ho : OB w' B2 T2 a2') (h0 : B0 ≠ B2) (h1 : B1 ≠ B2) :
    Three w' B0 T0 a0 B1 T1 a1 B2 T2 a2' := ⟨h.o0.grown hg h0, h.o1.grown hg h1, ho⟩
theorem Three.new (w : World) (T0 T1 T2 : TypeId) (a0 a1 a2 : Array Value) : Three (((w.alloc (.cells a0 T0)).alloc (.cells a1 T1)).alloc (.cells a2 T2)) w.heap.size T0 a0 (w.heap.size + 1) T1 a1 (w.heap.size + 1 + 1) T2 a2 := by
  refine ⟨((OB.new w T0 a0).ext (.alloc (.refl _) _)).ext (.alloc (.refl _) _), ?_, ?_⟩
  · have := (OB.new (w.alloc (.cells a0 T0)) T1 a1).ext (.alloc (.refl _) (.cells a2 T2))
    simpa using this
  · have := OB.new ((w.alloc (.cells a0 T0)).alloc (.cells a1 T1)) T2 a2
    simpa using this
theorem grown_ext {a w w' : World} {B : Nat} (h : Ext a w) (hg : w.grownBy w' (some B)) (hB : a.heap.size ≤ B) : Ext a w' := Below.grown h hg h.size (by intro k hk; cases hk; exact hB)

/-- A single cell stored into a block of the call's own. -/
theorem wpList_store_cell {P : Program} {ops : Array Oper} {rest : List Oper} {o : Oper} {a : Act} {w : World} {Q : Exit → Act → World → Prop} (hgd : o.guard = none) (ty : TypeId) (x y : Operand) (ho : o.op = .store ty x y)
    (B off : Nat) (hx : a.eval x = .pointer (some ⟨B, off, none⟩)) (v : Value) (hy : a.eval y = v) (hv : v.cells = #[v]) (T : TypeId) (arr : Array Value) (hob : OB w B T arr) (hi : (P.info? ty).map (·.size) = some 1)
    (hfit : off < arr.size) (h1 : v.oneCell' = true)
    (h : ∀ w', OB w' B T (splice arr off [v]) → w.grownBy w' (some B) → w'.heap.size = w.heap.size → wpList P ops Q rest (a.put o.dst undef) w') : wpList P ops Q (o :: rest) a w :=
  wpList_plain hgd fun _ hK => by
    have hst := run_storeCells_at P B off T [v] 0 arr w hob (by simp; omega) (by simpa using h1)
    cases hq : P.info? ty with
    | none => simp [hq] at hi
    | some i =>
      have hs : i.size = 1 := by simpa [hq] using hi
      have hrun : (storeVar ty ⟨B, off, none⟩ v).run P w = .ok () (w.setRow B (splice arr off [v])) := by
        simp only [storeVar, hv]
        simp [Go.sizeOf, typeInfo, hq, hs, hst, splice]
      unfold Oper.wp execOp
      simp only [ho, hx, hy, Instr.storeAt, Instr.sureAddr, Sem.run_bind, Sem.run_pure, Result.andThen_ok, hrun]
      exact hK _ _ (h _ (setRow_heap w B arr _ T _ hob) ⟨rfl, rfl, rfl, by simp, fun k _ hk => setRow_other w B k _ (fun e => hk (by rw [e]))⟩ (by simp))

theorem splice_whole {arr : Array Value} {vs : List Value} (h : vs.length = arr.size) : splice arr 0 vs = ⟨vs⟩ := by
  simp [splice, h]

theorem OwnL.nil (w : World) (S : Nat → Prop) : OwnL w [] [] S := ⟨rfl, fun _ _ => False, by simp, by simp, by simp⟩
theorem OwnL.cons_leaf {w : World} {ts : List Tr} {vs : List Value} {S : Nat → Prop} {v : Value} (hv : LeafOk v) (h : OwnL w ts vs S) : OwnL w (.leaf v :: ts) (v :: vs) S := by
  obtain ⟨hl, T, h1, h2, h3⟩ := h
  refine ⟨by simp [hl], fun j => match j with | 0 => fun _ => False | j + 1 => T j, ?_, ?_, ?_⟩
  · intro j d hd
    cases j with
    | zero => simp at hd; subst hd; exact ⟨v, rfl, .leaf hv⟩
    | succ j => exact h1 j d (by simpa using hd)
  · intro j d hd x hx
    cases j with
    | zero => exact hx.elim
    | succ j => exact h2 j d (by simpa using hd) x hx
  · intro j d hd j' d' hd' hne x hx hx'
    cases j with
    | zero => exact hx.elim
    | succ j =>
      cases j' with
      | zero => exact hx'.elim
      | succ j' => exact h3 j d (by simpa using hd) j' d' (by simpa using hd') (by omega) x hx hx'

theorem OwnL.append {w : World} {ts us : List Tr} {vs xs : List Value} {S S' : Nat → Prop} (h : OwnL w ts vs S) (k : OwnL w us xs S') (hd : ∀ x, S x → S' x → False) : OwnL w (ts ++ us) (vs ++ xs) (fun x => S x ∨ S' x) := by
  obtain ⟨hl, T, h1, h2, h3⟩ := h
  obtain ⟨kl, U, k1, k2, k3⟩ := k
  have left : ∀ j d, (ts ++ us)[j]? = some d → j < ts.length → ts[j]? = some d := fun j d hj hlt => by rwa [List.getElem?_append_left hlt] at hj
  have right : ∀ j d, (ts ++ us)[j]? = some d → ¬ j < ts.length → us[j - ts.length]? = some d := fun j d hj hlt => by rwa [List.getElem?_append_right (by omega)] at hj
  refine ⟨by simp [hl, kl], fun j => if j < ts.length then T j else U (j - ts.length), ?_, ?_, ?_⟩
  · intro j d hj
    by_cases hlt : j < ts.length
    · simp only [if_pos hlt]
      obtain ⟨v, hv, ho⟩ := h1 j d (left j d hj hlt)
      exact ⟨v, by rw [List.getElem?_append_left (by omega)]; exact hv, ho⟩
    · simp only [if_neg hlt]
      obtain ⟨v, hv, ho⟩ := k1 _ d (right j d hj hlt)
      exact ⟨v, by rw [List.getElem?_append_right (by omega), hl]; exact hv, ho⟩
  · intro j d hj x hx
    by_cases hlt : j < ts.length
    · simp only [if_pos hlt] at hx
      exact .inl (h2 j d (left j d hj hlt) x hx)
    · simp only [if_neg hlt] at hx
      exact .inr (k2 _ d (right j d hj hlt) x hx)
  · intro j d hj j' d' hj' hne x hx hx'
    by_cases hlt : j < ts.length <;> by_cases hlt' : j' < ts.length
    · simp only [if_pos hlt] at hx; simp only [if_pos hlt'] at hx'
      exact h3 j d (left j d hj hlt) j' d' (left j' d' hj' hlt') hne x hx hx'
    · simp only [if_pos hlt] at hx; simp only [if_neg hlt'] at hx'
      exact hd x (h2 j d (left j d hj hlt) x hx) (k2 _ d' (right j' d' hj' hlt') x hx')
    · simp only [if_neg hlt] at hx; simp only [if_pos hlt'] at hx'
      exact hd x (h2 j' d' (left j' d' hj' hlt') x hx') (k2 _ d (right j d hj hlt) x hx)
    · simp only [if_neg hlt] at hx; simp only [if_neg hlt'] at hx'
      exact k3 _ d (right j d hj hlt) _ d' (right j' d' hj' hlt') (by omega) x hx hx'

theorem OwnL.one {w : World} {t : Tr} {v : Value} {S : Nat → Prop} (h : Own w t v S) : OwnL w [t] [v] S := by
  refine ⟨rfl, fun _ => S, ?_, ?_, ?_⟩
  · intro j d hd
    cases j with
    | zero => simp at hd; subst hd; exact ⟨v, rfl, h⟩
    | succ j => simp at hd
  · intro j d hd x hx
    exact hx
  · intro j d hd j' d' hd' hne
    cases j <;> cases j' <;> simp_all

structure Two (w : World) (B0 : Nat) (T0 : TypeId) (a0 : Array Value) (B1 : Nat) (T1 : TypeId) (a1 : Array Value) : Prop where
  o0 : OB w B0 T0 a0
  o1 : OB w B1 T1 a1
theorem Two.ext {w w' : World} {B0 B1 : Nat} {T0 T1 : TypeId} {a0 a1 : Array Value} (h : Two w B0 T0 a0 B1 T1 a1) (hx : Ext w w') : Two w' B0 T0 a0 B1 T1 a1 := ⟨h.o0.ext hx, h.o1.ext hx⟩
theorem Two.new (w : World) (T0 T1 : TypeId) (a0 a1 : Array Value) : Two ((w.alloc (.cells a0 T0)).alloc (.cells a1 T1)) w.heap.size T0 a0 (w.heap.size + 1) T1 a1 := by
  refine ⟨(OB.new w T0 a0).ext (.alloc (.refl _) _), ?_⟩
  have := OB.new (w.alloc (.cells a0 T0)) T1 a1
  simpa using this

theorem Rep.lens {w : World} {sz : Nat} {es : List (List Tr)} {a : Option Addr} {n c : Nat} (h : Rep w (.row sz es) (.slice a n c)) : n ≤ c ∧ c ≤ 9223372036854775807 ∧ n = es.length := by
  obtain ⟨a', c', h1, h2, h3⟩ := h.shape
  injection h1 with _ h4 h5
  subst h4 h5
  exact ⟨h2, by unfold maxLen at h3; omega, rfl⟩
theorem cells_ext {w w' : World} {b off : Nat} {cs : List Value} (hx : Ext w w') (hb : b < w.heap.size) (hc : ∀ (j : Nat) (v : Value), cs[j]? = some v → w.cell? ⟨b, off + j, none⟩ = some v) :
    ∀ (j : Nat) (v : Value), cs[j]? = some v → w'.cell? ⟨b, off + j, none⟩ = some v := fun j v hv => (hx.cell (p := ⟨b, off + j, none⟩) hb).trans (hc j v hv)
theorem OB.cells0 {w : World} {B : Nat} {T : TypeId} {cs : List Value} (h : OB w B T ⟨cs⟩) : ∀ (j : Nat) (v : Value), cs[j]? = some v → w.cell? ⟨B, 0 + j, none⟩ = some v := fun j v hv => by
  rw [h.cell, Nat.zero_add]; simpa using hv

theorem run_callFunc_body {P : Program} {f : FuncId} {fn : Func} (hf : P.funcs[f]? = some fn) (hname : (fn.name == "runtime.NumGoroutine") = false) (hb : fn.body.isNone = false) (args : Array Value) (w : World) :
    (callFunc f args).run P w = .ok (.enter f args) w := by
  have h1 : ¬ (fn.name == "runtime.NumGoroutine") = true := by simp [hname]
  have h2 : ¬ fn.body.isNone = true := by simp [hb]
  unfold callFunc
  rw [Sem.run_bind]
  show Result.andThen (Result.ok P w) _ = _
  rw [Result.andThen_ok, hf]
  simp only [h1, h2]
  rfl

/-- Blocks from 'lo' on hold what they held. -/
def Keeps (lo : Nat) (w w' : World) : Prop := w.heap.size ≤ w'.heap.size ∧ ∀ b, lo ≤ b → b < w.heap.size → w'.heap[b]? = w.heap[b]?
theorem Keeps.refl (lo : Nat) (w : World) : Keeps lo w w := ⟨Nat.le_refl _, fun _ _ _ => rfl⟩
theorem Keeps.of_ext {lo : Nat} {w w' : World} (h : Ext w w') : Keeps lo w w' := ⟨h.size, fun b _ hb => h.block b hb⟩
theorem Keeps.of_grown {lo B : Nat} {w w' : World} (h : w.grownBy w' (some B)) (hB : B < lo) : Keeps lo w w' := ⟨h.size, fun b hl hb => h.block b hb (by simp; omega)⟩
theorem Keeps.trans {lo : Nat} {a b c : World} (h : Keeps lo a b) (k : Keeps lo b c) : Keeps lo a c := ⟨Nat.le_trans h.1 k.1, fun x hl hx => (k.2 x hl (Nat.lt_of_lt_of_le hx h.1)).trans (h.2 x hl hx)⟩
theorem OwnL.keeps {w w' : World} {lo : Nat} {ts : List Tr} {vs : List Value} {S : Nat → Prop} (h : OwnL w ts vs S) (hk : Keeps lo w w') (hS : ∀ x, S x → lo ≤ x) : OwnL w' ts vs S := h.keep fun b hb hlt => hk.2 b (hS b hb) hlt
theorem Own.keeps {w w' : World} {lo : Nat} {t : Tr} {v : Value} {S : Nat → Prop} (h : Own w t v S) (hk : Keeps lo w w') (hS : ∀ x, S x → lo ≤ x) : Own w' t v S := h.keep fun b hb hlt => hk.2 b (hS b hb) hlt

theorem RepL.split {w : World} {ts us : List Tr} {cs : List Value} (h : RepL w (ts ++ us) cs) : ∃ c d, cs = c ++ d ∧ RepL w ts c ∧ RepL w us d := by
  induction ts generalizing cs with
  | nil => exact ⟨[], cs, rfl, trivial, h⟩
  | cons t ts ih =>
    cases cs with
    | nil => exact h.elim
    | cons v vs =>
      obtain ⟨c, d, rfl, h1, h2⟩ := ih h.2
      exact ⟨v :: c, d, rfl, ⟨h.1, h1⟩, h2⟩
theorem RepL.nil_eq {w : World} {cs : List Value} (h : RepL w [] cs) : cs = [] := by cases cs with | nil => rfl | cons => exact h.elim

theorem Tr.bulkL_append (a b : List Tr) : Tr.bulkL (a ++ b) = Tr.bulkL a + Tr.bulkL b := by
  induction a with
  | nil => simp [Tr.bulkL]
  | cons t a ih => simp [Tr.bulkL, ih]; omega
theorem Tr.bulkAll_le {l : List (List Tr)} {k : Nat} (h : k < l.length) : Tr.bulkL l[k] ≤ Tr.bulkAll l := by
  induction l generalizing k with
  | nil => simp at h
  | cons a l ih =>
    cases k with
    | zero => simp [Tr.bulkAll]
    | succ k => have := ih (k := k) (by simpa using h); simp [Tr.bulkAll]; omega

theorem list1 {α : Type} {l : List α} (h : l.length = 1) : ∃ a0 : α, l = [a0] := by
  match l, h with
  | [a0], _ => exact ⟨a0, rfl⟩
theorem list2 {α : Type} {l : List α} (h : l.length = 2) : ∃ a0 a1 : α, l = [a0, a1] := by
  match l, h with
  | [a0, a1], _ => exact ⟨a0, a1, rfl⟩
theorem list3 {α : Type} {l : List α} (h : l.length = 3) : ∃ a0 a1 a2 : α, l = [a0, a1, a2] := by
  match l, h with
  | [a0, a1, a2], _ => exact ⟨a0, a1, a2, rfl⟩
theorem list4 {α : Type} {l : List α} (h : l.length = 4) : ∃ a0 a1 a2 a3 : α, l = [a0, a1, a2, a3] := by
  match l, h with
  | [a0, a1, a2, a3], _ => exact ⟨a0, a1, a2, a3, rfl⟩
theorem list5 {α : Type} {l : List α} (h : l.length = 5) : ∃ a0 a1 a2 a3 a4 : α, l = [a0, a1, a2, a3, a4] := by
  match l, h with
  | [a0, a1, a2, a3, a4], _ => exact ⟨a0, a1, a2, a3, a4, rfl⟩
theorem list6 {α : Type} {l : List α} (h : l.length = 6) : ∃ a0 a1 a2 a3 a4 a5 : α, l = [a0, a1, a2, a3, a4, a5] := by
  match l, h with
  | [a0, a1, a2, a3, a4, a5], _ => exact ⟨a0, a1, a2, a3, a4, a5, rfl⟩
theorem list9 {α : Type} {l : List α} (h : l.length = 9) : ∃ a0 a1 a2 a3 a4 a5 a6 a7 a8 : α, l = [a0, a1, a2, a3, a4, a5, a6, a7, a8] := by
  match l, h with
  | [a0, a1, a2, a3, a4, a5, a6, a7, a8], _ => exact ⟨a0, a1, a2, a3, a4, a5, a6, a7, a8, rfl⟩
theorem list11 {α : Type} {l : List α} (h : l.length = 11) : ∃ a0 a1 a2 a3 a4 a5 a6 a7 a8 a9 a10 : α, l = [a0, a1, a2, a3, a4, a5, a6, a7, a8, a9, a10] := by
  match l, h with
  | [a0, a1, a2, a3, a4, a5, a6, a7, a8, a9, a10], _ => exact ⟨a0, a1, a2, a3, a4, a5, a6, a7, a8, a9, a10, rfl⟩
theorem list12 {α : Type} {l : List α} (h : l.length = 12) : ∃ a0 a1 a2 a3 a4 a5 a6 a7 a8 a9 a10 a11 : α, l = [a0, a1, a2, a3, a4, a5, a6, a7, a8, a9, a10, a11] := by
  match l, h with
  | [a0, a1, a2, a3, a4, a5, a6, a7, a8, a9, a10, a11], _ => exact ⟨a0, a1, a2, a3, a4, a5, a6, a7, a8, a9, a10, a11, rfl⟩
theorem list16 {α : Type} {l : List α} (h : l.length = 16) : ∃ a0 a1 a2 a3 a4 a5 a6 a7 a8 a9 a10 a11 a12 a13 a14 a15 : α, l = [a0, a1, a2, a3, a4, a5, a6, a7, a8, a9, a10, a11, a12, a13, a14, a15] := by
  match l, h with
  | [a0, a1, a2, a3, a4, a5, a6, a7, a8, a9, a10, a11, a12, a13, a14, a15], _ => exact ⟨a0, a1, a2, a3, a4, a5, a6, a7, a8, a9, a10, a11, a12, a13, a14, a15, rfl⟩

end Go.Proofs.YtnakkelglbcecaaGreat

namespace Go.Proofs.YtnakkelglbcecaaGreat
open Go.RowKit

def strTrs (l : List ByteArray) : List (List Tr) := l.map fun s => [.leaf (.string s)]
def intTrs (l : List Int) : List (List Tr) := l.map fun n => [.leaf (.int .i64 n)]
theorem strTrs_len (l : List ByteArray) : (strTrs l).length = l.length := by simp [strTrs]
theorem strTrs_get {l : List ByteArray} {k : Nat} (h : k < l.length) : (strTrs l)[k]? = some [.leaf (.string l[k])] := by
  unfold strTrs
  rw [List.getElem?_map, List.getElem?_eq_getElem h]; rfl
theorem intTrs_get {l : List Int} {k : Nat} (h : k < l.length) : (intTrs l)[k]? = some [.leaf (.int .i64 l[k])] := by
  unfold intTrs
  rw [List.getElem?_map, List.getElem?_eq_getElem h]; rfl
theorem strTrs_sz (l : List ByteArray) : ∀ e ∈ strTrs l, e.length = 1 := by
  intro e he
  obtain ⟨x, -, rfl⟩ := List.mem_map.1 he
  rfl
/-- Element k of a slice of strings, of integers. -/
theorem Rep.str {w : World} {l : List ByteArray} {a : Option Addr} {len cap k : Nat} (h : Rep w (.row 1 (strTrs l)) (.slice a len cap)) (hk : k < l.length) :
    ∃ b off, a = some ⟨b, off, none⟩ ∧ b < w.heap.size ∧ l[k].size ≤ maxLen ∧ w.cell? ⟨b, off + k, none⟩ = some (.string l[k]) := by
  obtain ⟨b, off, cs, rfl, hb, hcs, hc⟩ := h.at2 (strTrs_get hk)
  obtain ⟨v, rfl⟩ := list1 hcs.length.symm
  obtain ⟨rfl, hl⟩ := hcs.1.leaf_eq
  have := hc 0 _ rfl
  rw [Nat.mul_one, Nat.add_zero] at this
  exact ⟨b, off, rfl, hb, hl, this⟩
theorem Rep.int {w : World} {l : List Int} {a : Option Addr} {len cap k : Nat} (h : Rep w (.row 1 (intTrs l)) (.slice a len cap)) (hk : k < l.length) :
    ∃ b off, a = some ⟨b, off, none⟩ ∧ b < w.heap.size ∧ (Lit.int .i64 l[k]).wf = true ∧ w.cell? ⟨b, off + k, none⟩ = some (.int .i64 l[k]) := by
  obtain ⟨b, off, cs, rfl, hb, hcs, hc⟩ := h.at2 (intTrs_get hk)
  obtain ⟨v, rfl⟩ := list1 hcs.length.symm
  obtain ⟨rfl, hl⟩ := hcs.1.leaf_eq
  have := hc 0 _ rfl
  rw [Nat.mul_one, Nat.add_zero] at this
  exact ⟨b, off, rfl, hb, hl, this⟩

inductive GInstanceRef where
  | mk (package_ : Int) (at_ : Int)
def GInstanceRef.tr : GInstanceRef → List Tr
  | .mk v0 v1 => [.leaf (.int .i64 v0)] ++ ([.leaf (.int .i64 v1)] ++ ([]))
def GInstanceRef.trs (l : List GInstanceRef) : List (List Tr) := l.map GInstanceRef.tr
theorem GInstanceRef.trs_map (l : List GInstanceRef) : GInstanceRef.trs l = l.map GInstanceRef.tr := rfl
def GInstanceRef.gPackage : GInstanceRef → Int
  | .mk v _ => v
@[simp] theorem GInstanceRef.gPackage_mk (v0 : Int) (v1 : Int) : GInstanceRef.gPackage (.mk v0 v1) = v0 := rfl
def GInstanceRef.gAt : GInstanceRef → Int
  | .mk _ v => v
@[simp] theorem GInstanceRef.gAt_mk (v0 : Int) (v1 : Int) : GInstanceRef.gAt (.mk v0 v1) = v1 := rfl
theorem GInstanceRef.tr_len (x : GInstanceRef) : x.tr.length = 2 := by
  obtain ⟨v0, v1⟩ := x
  simp [GInstanceRef.tr]
theorem GInstanceRef.sz (l : List GInstanceRef) : ∀ e ∈ GInstanceRef.trs l, e.length = 2 := by
  intro e he
  rw [GInstanceRef.trs_map] at he
  obtain ⟨x, -, rfl⟩ := List.mem_map.1 he
  exact GInstanceRef.tr_len x
theorem GInstanceRef.all {l : List GInstanceRef} {Q : List Tr → Prop} (h : ∀ x ∈ l, Q x.tr) : ∀ e ∈ GInstanceRef.trs l, Q e := by
  intro e he
  rw [GInstanceRef.trs_map] at he
  obtain ⟨x, hx, rfl⟩ := List.mem_map.1 he
  exact h x hx
inductive GSExpr where
  | mk (atom_ : ByteArray) (list_ : List GSExpr)
mutual
def GSExpr.tr : GSExpr → List Tr
  | .mk v0 v1 => [.leaf (.string v0)] ++ ([.row 2 (GSExpr.trs v1)] ++ ([]))
def GSExpr.trs : List GSExpr → List (List Tr)
  | [] => []
  | e :: r => GSExpr.tr e :: GSExpr.trs r
end
theorem GSExpr.trs_map (l : List GSExpr) : GSExpr.trs l = l.map GSExpr.tr := by induction l <;> simp_all [GSExpr.trs]
def GSExpr.gAtom : GSExpr → ByteArray
  | .mk v _ => v
@[simp] theorem GSExpr.gAtom_mk (v0 : ByteArray) (v1 : List GSExpr) : GSExpr.gAtom (.mk v0 v1) = v0 := rfl
def GSExpr.gList : GSExpr → List GSExpr
  | .mk _ v => v
@[simp] theorem GSExpr.gList_mk (v0 : ByteArray) (v1 : List GSExpr) : GSExpr.gList (.mk v0 v1) = v1 := rfl
theorem GSExpr.tr_len (x : GSExpr) : x.tr.length = 2 := by
  obtain ⟨v0, v1⟩ := x
  simp [GSExpr.tr]
theorem GSExpr.sz (l : List GSExpr) : ∀ e ∈ GSExpr.trs l, e.length = 2 := by
  intro e he
  rw [GSExpr.trs_map] at he
  obtain ⟨x, -, rfl⟩ := List.mem_map.1 he
  exact GSExpr.tr_len x
theorem GSExpr.all {l : List GSExpr} {Q : List Tr → Prop} (h : ∀ x ∈ l, Q x.tr) : ∀ e ∈ GSExpr.trs l, Q e := by
  intro e he
  rw [GSExpr.trs_map] at he
  obtain ⟨x, hx, rfl⟩ := List.mem_map.1 he
  exact h x hx
inductive GType where
  | mk (kind_ : Int) (name_ : ByteArray) (args_ : List GType)
mutual
def GType.tr : GType → List Tr
  | .mk v0 v1 v2 => [.leaf (.int .i64 v0)] ++ ([.leaf (.string v1)] ++ ([.row 3 (GType.trs v2)] ++ ([])))
def GType.trs : List GType → List (List Tr)
  | [] => []
  | e :: r => GType.tr e :: GType.trs r
end
theorem GType.trs_map (l : List GType) : GType.trs l = l.map GType.tr := by induction l <;> simp_all [GType.trs]
theorem GType.trs_len (l : List GType) : (GType.trs l).length = l.length := by rw [GType.trs_map, List.length_map]
def GType.gKind : GType → Int
  | .mk v _ _ => v
@[simp] theorem GType.gKind_mk (v0 : Int) (v1 : ByteArray) (v2 : List GType) : GType.gKind (.mk v0 v1 v2) = v0 := rfl
def GType.gName : GType → ByteArray
  | .mk _ v _ => v
@[simp] theorem GType.gName_mk (v0 : Int) (v1 : ByteArray) (v2 : List GType) : GType.gName (.mk v0 v1 v2) = v1 := rfl
def GType.gArgs : GType → List GType
  | .mk _ _ v => v
@[simp] theorem GType.gArgs_mk (v0 : Int) (v1 : ByteArray) (v2 : List GType) : GType.gArgs (.mk v0 v1 v2) = v2 := rfl
theorem GType.tr_len (x : GType) : x.tr.length = 3 := by
  obtain ⟨v0, v1, v2⟩ := x
  simp [GType.tr]
theorem GType.opened {w : World} {cs : List Value} {v0 : Int} {v1 : ByteArray} {v2 : List GType} (h : RepL w (GType.tr (.mk v0 v1 v2)) cs) :
    ∃ (a2 : Option Addr) (c2 : Nat), cs = [.int .i64 v0] ++ ([.string v1] ++ ([.slice a2 v2.length c2] ++ ([]))) ∧ LeafOk (.int .i64 v0) ∧ LeafOk (.string v1) ∧ Rep w (.row 3 (GType.trs v2)) (.slice a2 v2.length c2) := by
  obtain ⟨b0, r0, rfl, g0, n0⟩ := RepL.split h
  obtain ⟨y0, rfl⟩ := list1 g0.length.symm
  obtain ⟨rfl, k0⟩ := g0.1.leaf_eq
  obtain ⟨b1, r1, rfl, g1, n1⟩ := RepL.split n0
  obtain ⟨y1, rfl⟩ := list1 g1.length.symm
  obtain ⟨rfl, k1⟩ := g1.1.leaf_eq
  obtain ⟨b2, r2, rfl, g2, n2⟩ := RepL.split n1
  obtain ⟨y2, rfl⟩ := list1 g2.length.symm
  obtain ⟨a2, c2, e2, -, -⟩ := g2.1.shape
  rw [GType.trs_len] at e2
  subst e2
  obtain rfl := RepL.nil_eq n2
  exact ⟨a2, c2, rfl, k0, k1, g2.1⟩

theorem GType.sz (l : List GType) : ∀ e ∈ GType.trs l, e.length = 3 := by
  intro e he
  rw [GType.trs_map] at he
  obtain ⟨x, -, rfl⟩ := List.mem_map.1 he
  exact GType.tr_len x
theorem GType.all {l : List GType} {Q : List Tr → Prop} (h : ∀ x ∈ l, Q x.tr) : ∀ e ∈ GType.trs l, Q e := by
  intro e he
  rw [GType.trs_map] at he
  obtain ⟨x, hx, rfl⟩ := List.mem_map.1 he
  exact h x hx
theorem GType.trs_get {l : List GType} {k : Nat} (h : k < l.length) : (GType.trs l)[k]? = some (l[k]).tr := by
  rw [GType.trs_map, List.getElem?_map, List.getElem?_eq_getElem h]; rfl
theorem GType.ind {A : GType → Prop} (h : ∀ v0 v1 v2, (∀ x ∈ v2, A x) → A (.mk v0 v1 v2)) : ∀ e, A e := by
  have key : ∀ (N : Nat) (e : GType), SizeOf.sizeOf e < N → A e := by
    intro N
    induction N with
    | zero => intro e he; omega
    | succ N ih =>
      intro e he
      obtain ⟨v0, v1, v2⟩ := e
      refine h v0 v1 v2 fun x hx => ih x ?_
      have := List.sizeOf_lt_of_mem hx
      simp at he
      omega
  exact fun e => key _ e (Nat.lt_succ_self _)

inductive GBinding where
  | mk (var_ : ByteArray) (type_ : GType)
def GBinding.tr : GBinding → List Tr
  | .mk v0 v1 => [.leaf (.string v0)] ++ (GType.tr v1 ++ ([]))
def GBinding.trs (l : List GBinding) : List (List Tr) := l.map GBinding.tr
theorem GBinding.trs_map (l : List GBinding) : GBinding.trs l = l.map GBinding.tr := rfl
def GBinding.gVar : GBinding → ByteArray
  | .mk v _ => v
@[simp] theorem GBinding.gVar_mk (v0 : ByteArray) (v1 : GType) : GBinding.gVar (.mk v0 v1) = v0 := rfl
def GBinding.gType : GBinding → GType
  | .mk _ v => v
@[simp] theorem GBinding.gType_mk (v0 : ByteArray) (v1 : GType) : GBinding.gType (.mk v0 v1) = v1 := rfl
theorem GBinding.tr_len (x : GBinding) : x.tr.length = 4 := by
  obtain ⟨v0, v1⟩ := x
  simp [GBinding.tr, GType.tr_len]
theorem GBinding.sz (l : List GBinding) : ∀ e ∈ GBinding.trs l, e.length = 4 := by
  intro e he
  rw [GBinding.trs_map] at he
  obtain ⟨x, -, rfl⟩ := List.mem_map.1 he
  exact GBinding.tr_len x
theorem GBinding.all {l : List GBinding} {Q : List Tr → Prop} (h : ∀ x ∈ l, Q x.tr) : ∀ e ∈ GBinding.trs l, Q e := by
  intro e he
  rw [GBinding.trs_map] at he
  obtain ⟨x, hx, rfl⟩ := List.mem_map.1 he
  exact h x hx
mutual
inductive GArm where
  | mk (constructor_ : ByteArray) (vars_ : List ByteArray) (body_ : GExpr)
inductive GExpr where
  | mk (kind_ : Int) (trait_ : ByteArray) (name_ : ByteArray) (n_ : Int) (type_ : GType) (args_ : List GExpr) (arms_ : List GArm)
end
mutual
def GArm.tr : GArm → List Tr
  | .mk v0 v1 v2 => [.leaf (.string v0)] ++ ([.row 1 (strTrs v1)] ++ (GExpr.tr v2 ++ ([])))
def GArm.trs : List GArm → List (List Tr)
  | [] => []
  | e :: r => GArm.tr e :: GArm.trs r
def GExpr.tr : GExpr → List Tr
  | .mk v0 v1 v2 v3 v4 v5 v6 => [.leaf (.int .i64 v0)] ++ ([.leaf (.string v1)] ++ ([.leaf (.string v2)] ++ ([.leaf (.int .i64 v3)] ++ (GType.tr v4 ++ ([.row 9 (GExpr.trs v5)] ++ ([.row 11 (GArm.trs v6)] ++ ([])))))))
def GExpr.trs : List GExpr → List (List Tr)
  | [] => []
  | e :: r => GExpr.tr e :: GExpr.trs r
end
theorem GArm.trs_map (l : List GArm) : GArm.trs l = l.map GArm.tr := by induction l <;> simp_all [GArm.trs]
theorem GExpr.trs_map (l : List GExpr) : GExpr.trs l = l.map GExpr.tr := by induction l <;> simp_all [GExpr.trs]
theorem GArm.trs_len (l : List GArm) : (GArm.trs l).length = l.length := by rw [GArm.trs_map, List.length_map]
theorem GExpr.trs_len (l : List GExpr) : (GExpr.trs l).length = l.length := by rw [GExpr.trs_map, List.length_map]
def GArm.gConstructor : GArm → ByteArray
  | .mk v _ _ => v
@[simp] theorem GArm.gConstructor_mk (v0 : ByteArray) (v1 : List ByteArray) (v2 : GExpr) : GArm.gConstructor (.mk v0 v1 v2) = v0 := rfl
def GArm.gVars : GArm → List ByteArray
  | .mk _ v _ => v
@[simp] theorem GArm.gVars_mk (v0 : ByteArray) (v1 : List ByteArray) (v2 : GExpr) : GArm.gVars (.mk v0 v1 v2) = v1 := rfl
def GArm.gBody : GArm → GExpr
  | .mk _ _ v => v
@[simp] theorem GArm.gBody_mk (v0 : ByteArray) (v1 : List ByteArray) (v2 : GExpr) : GArm.gBody (.mk v0 v1 v2) = v2 := rfl

def GExpr.gKind : GExpr → Int
  | .mk v _ _ _ _ _ _ => v
@[simp] theorem GExpr.gKind_mk (v0 : Int) (v1 : ByteArray) (v2 : ByteArray) (v3 : Int) (v4 : GType) (v5 : List GExpr) (v6 : List GArm) : GExpr.gKind (.mk v0 v1 v2 v3 v4 v5 v6) = v0 := rfl
def GExpr.gTrait : GExpr → ByteArray
  | .mk _ v _ _ _ _ _ => v
@[simp] theorem GExpr.gTrait_mk (v0 : Int) (v1 : ByteArray) (v2 : ByteArray) (v3 : Int) (v4 : GType) (v5 : List GExpr) (v6 : List GArm) : GExpr.gTrait (.mk v0 v1 v2 v3 v4 v5 v6) = v1 := rfl
def GExpr.gName : GExpr → ByteArray
  | .mk _ _ v _ _ _ _ => v
@[simp] theorem GExpr.gName_mk (v0 : Int) (v1 : ByteArray) (v2 : ByteArray) (v3 : Int) (v4 : GType) (v5 : List GExpr) (v6 : List GArm) : GExpr.gName (.mk v0 v1 v2 v3 v4 v5 v6) = v2 := rfl
def GExpr.gN : GExpr → Int
  | .mk _ _ _ v _ _ _ => v
@[simp] theorem GExpr.gN_mk (v0 : Int) (v1 : ByteArray) (v2 : ByteArray) (v3 : Int) (v4 : GType) (v5 : List GExpr) (v6 : List GArm) : GExpr.gN (.mk v0 v1 v2 v3 v4 v5 v6) = v3 := rfl
def GExpr.gType : GExpr → GType
  | .mk _ _ _ _ v _ _ => v
@[simp] theorem GExpr.gType_mk (v0 : Int) (v1 : ByteArray) (v2 : ByteArray) (v3 : Int) (v4 : GType) (v5 : List GExpr) (v6 : List GArm) : GExpr.gType (.mk v0 v1 v2 v3 v4 v5 v6) = v4 := rfl
def GExpr.gArgs : GExpr → List GExpr
  | .mk _ _ _ _ _ v _ => v
@[simp] theorem GExpr.gArgs_mk (v0 : Int) (v1 : ByteArray) (v2 : ByteArray) (v3 : Int) (v4 : GType) (v5 : List GExpr) (v6 : List GArm) : GExpr.gArgs (.mk v0 v1 v2 v3 v4 v5 v6) = v5 := rfl
def GExpr.gArms : GExpr → List GArm
  | .mk _ _ _ _ _ _ v => v
@[simp] theorem GExpr.gArms_mk (v0 : Int) (v1 : ByteArray) (v2 : ByteArray) (v3 : Int) (v4 : GType) (v5 : List GExpr) (v6 : List GArm) : GExpr.gArms (.mk v0 v1 v2 v3 v4 v5 v6) = v6 := rfl
theorem GExpr.tr_len (x : GExpr) : x.tr.length = 9 := by
  obtain ⟨v0, v1, v2, v3, v4, v5, v6⟩ := x
  simp [GExpr.tr, GType.tr_len]
theorem GArm.tr_len (x : GArm) : x.tr.length = 11 := by
  obtain ⟨v0, v1, v2⟩ := x
  simp [GArm.tr, GExpr.tr_len]
theorem GArm.opened {w : World} {cs : List Value} {v0 : ByteArray} {v1 : List ByteArray} {v2 : GExpr} (h : RepL w (GArm.tr (.mk v0 v1 v2)) cs) :
    ∃ (a1 : Option Addr) (c1 : Nat) (x2 : List Value), cs = [.string v0] ++ ([.slice a1 v1.length c1] ++ (x2 ++ ([]))) ∧ LeafOk (.string v0) ∧ Rep w (.row 1 (strTrs v1)) (.slice a1 v1.length c1) ∧ RepL w (GExpr.tr v2) x2 := by
  obtain ⟨b0, r0, rfl, g0, n0⟩ := RepL.split h
  obtain ⟨y0, rfl⟩ := list1 g0.length.symm
  obtain ⟨rfl, k0⟩ := g0.1.leaf_eq
  obtain ⟨b1, r1, rfl, g1, n1⟩ := RepL.split n0
  obtain ⟨y1, rfl⟩ := list1 g1.length.symm
  obtain ⟨a1, c1, e1, -, -⟩ := g1.1.shape
  rw [strTrs_len] at e1
  subst e1
  obtain ⟨b2, r2, rfl, g2, n2⟩ := RepL.split n1
  obtain rfl := RepL.nil_eq n2
  exact ⟨a1, c1, b2, rfl, k0, g1.1, g2⟩

theorem GExpr.opened {w : World} {cs : List Value} {v0 : Int} {v1 : ByteArray} {v2 : ByteArray} {v3 : Int} {v4 : GType} {v5 : List GExpr} {v6 : List GArm} (h : RepL w (GExpr.tr (.mk v0 v1 v2 v3 v4 v5 v6)) cs) :
    ∃ (x4 : List Value) (a5 : Option Addr) (c5 : Nat) (a6 : Option Addr) (c6 : Nat), cs = [.int .i64 v0] ++ ([.string v1] ++ ([.string v2] ++ ([.int .i64 v3] ++ (x4 ++ ([.slice a5 v5.length c5] ++ ([.slice a6 v6.length c6] ++ ([]))))))) ∧ LeafOk (.int .i64 v0) ∧ LeafOk (.string v1) ∧ LeafOk (.string v2) ∧ LeafOk (.int .i64 v3) ∧ RepL w (GType.tr v4) x4 ∧ Rep w (.row 9 (GExpr.trs v5)) (.slice a5 v5.length c5) ∧ Rep w (.row 11 (GArm.trs v6)) (.slice a6 v6.length c6) := by
  obtain ⟨b0, r0, rfl, g0, n0⟩ := RepL.split h
  obtain ⟨y0, rfl⟩ := list1 g0.length.symm
  obtain ⟨rfl, k0⟩ := g0.1.leaf_eq
  obtain ⟨b1, r1, rfl, g1, n1⟩ := RepL.split n0
  obtain ⟨y1, rfl⟩ := list1 g1.length.symm
  obtain ⟨rfl, k1⟩ := g1.1.leaf_eq
  obtain ⟨b2, r2, rfl, g2, n2⟩ := RepL.split n1
  obtain ⟨y2, rfl⟩ := list1 g2.length.symm
  obtain ⟨rfl, k2⟩ := g2.1.leaf_eq
  obtain ⟨b3, r3, rfl, g3, n3⟩ := RepL.split n2
  obtain ⟨y3, rfl⟩ := list1 g3.length.symm
  obtain ⟨rfl, k3⟩ := g3.1.leaf_eq
  obtain ⟨b4, r4, rfl, g4, n4⟩ := RepL.split n3
  obtain ⟨b5, r5, rfl, g5, n5⟩ := RepL.split n4
  obtain ⟨y5, rfl⟩ := list1 g5.length.symm
  obtain ⟨a5, c5, e5, -, -⟩ := g5.1.shape
  rw [GExpr.trs_len] at e5
  subst e5
  obtain ⟨b6, r6, rfl, g6, n6⟩ := RepL.split n5
  obtain ⟨y6, rfl⟩ := list1 g6.length.symm
  obtain ⟨a6, c6, e6, -, -⟩ := g6.1.shape
  rw [GArm.trs_len] at e6
  subst e6
  obtain rfl := RepL.nil_eq n6
  exact ⟨b4, a5, c5, a6, c6, rfl, k0, k1, k2, k3, g4, g5.1, g6.1⟩

theorem GArm.sz (l : List GArm) : ∀ e ∈ GArm.trs l, e.length = 11 := by
  intro e he
  rw [GArm.trs_map] at he
  obtain ⟨x, -, rfl⟩ := List.mem_map.1 he
  exact GArm.tr_len x
theorem GArm.all {l : List GArm} {Q : List Tr → Prop} (h : ∀ x ∈ l, Q x.tr) : ∀ e ∈ GArm.trs l, Q e := by
  intro e he
  rw [GArm.trs_map] at he
  obtain ⟨x, hx, rfl⟩ := List.mem_map.1 he
  exact h x hx
theorem GArm.trs_get {l : List GArm} {k : Nat} (h : k < l.length) : (GArm.trs l)[k]? = some (l[k]).tr := by
  rw [GArm.trs_map, List.getElem?_map, List.getElem?_eq_getElem h]; rfl
theorem GExpr.sz (l : List GExpr) : ∀ e ∈ GExpr.trs l, e.length = 9 := by
  intro e he
  rw [GExpr.trs_map] at he
  obtain ⟨x, -, rfl⟩ := List.mem_map.1 he
  exact GExpr.tr_len x
theorem GExpr.all {l : List GExpr} {Q : List Tr → Prop} (h : ∀ x ∈ l, Q x.tr) : ∀ e ∈ GExpr.trs l, Q e := by
  intro e he
  rw [GExpr.trs_map] at he
  obtain ⟨x, hx, rfl⟩ := List.mem_map.1 he
  exact h x hx
theorem GExpr.trs_get {l : List GExpr} {k : Nat} (h : k < l.length) : (GExpr.trs l)[k]? = some (l[k]).tr := by
  rw [GExpr.trs_map, List.getElem?_map, List.getElem?_eq_getElem h]; rfl
theorem GExpr.ind {A : GExpr → Prop} (h : ∀ v0 v1 v2 v3 v4 v5 v6, (∀ x ∈ v5, A x) → (∀ x ∈ v6, A (GArm.gBody x)) → A (.mk v0 v1 v2 v3 v4 v5 v6)) : ∀ e, A e := by
  have key : ∀ (N : Nat) (e : GExpr), SizeOf.sizeOf e < N → A e := by
    intro N
    induction N with
    | zero => intro e he; omega
    | succ N ih =>
      intro e he
      obtain ⟨v0, v1, v2, v3, v4, v5, v6⟩ := e
      refine h v0 v1 v2 v3 v4 v5 v6 (fun x hx => ih x ?_) (fun x hx => ih _ ?_)
      · have := List.sizeOf_lt_of_mem hx
        simp at he
        omega
      · have := List.sizeOf_lt_of_mem hx
        obtain ⟨y0, y1, y2⟩ := x
        simp at he this ⊢
        omega
  exact fun e => key _ e (Nat.lt_succ_self _)

inductive GSignature where
  | mk (name_ : ByteArray) (params_ : List GType) (result_ : GType) (hasdefault_ : Bool) (vars_ : List ByteArray) (body_ : GExpr)
def GSignature.tr : GSignature → List Tr
  | .mk v0 v1 v2 v3 v4 v5 => [.leaf (.string v0)] ++ ([.row 3 (GType.trs v1)] ++ (GType.tr v2 ++ ([.leaf (.bool v3)] ++ ([.row 1 (strTrs v4)] ++ (GExpr.tr v5 ++ ([]))))))
def GSignature.trs (l : List GSignature) : List (List Tr) := l.map GSignature.tr
theorem GSignature.trs_map (l : List GSignature) : GSignature.trs l = l.map GSignature.tr := rfl
theorem GSignature.trs_len (l : List GSignature) : (GSignature.trs l).length = l.length := by rw [GSignature.trs_map, List.length_map]
def GSignature.gName : GSignature → ByteArray
  | .mk v _ _ _ _ _ => v
@[simp] theorem GSignature.gName_mk (v0 : ByteArray) (v1 : List GType) (v2 : GType) (v3 : Bool) (v4 : List ByteArray) (v5 : GExpr) : GSignature.gName (.mk v0 v1 v2 v3 v4 v5) = v0 := rfl
def GSignature.gParams : GSignature → List GType
  | .mk _ v _ _ _ _ => v
@[simp] theorem GSignature.gParams_mk (v0 : ByteArray) (v1 : List GType) (v2 : GType) (v3 : Bool) (v4 : List ByteArray) (v5 : GExpr) : GSignature.gParams (.mk v0 v1 v2 v3 v4 v5) = v1 := rfl
def GSignature.gResult : GSignature → GType
  | .mk _ _ v _ _ _ => v
@[simp] theorem GSignature.gResult_mk (v0 : ByteArray) (v1 : List GType) (v2 : GType) (v3 : Bool) (v4 : List ByteArray) (v5 : GExpr) : GSignature.gResult (.mk v0 v1 v2 v3 v4 v5) = v2 := rfl
def GSignature.gHasDefault : GSignature → Bool
  | .mk _ _ _ v _ _ => v
@[simp] theorem GSignature.gHasDefault_mk (v0 : ByteArray) (v1 : List GType) (v2 : GType) (v3 : Bool) (v4 : List ByteArray) (v5 : GExpr) : GSignature.gHasDefault (.mk v0 v1 v2 v3 v4 v5) = v3 := rfl
def GSignature.gVars : GSignature → List ByteArray
  | .mk _ _ _ _ v _ => v
@[simp] theorem GSignature.gVars_mk (v0 : ByteArray) (v1 : List GType) (v2 : GType) (v3 : Bool) (v4 : List ByteArray) (v5 : GExpr) : GSignature.gVars (.mk v0 v1 v2 v3 v4 v5) = v4 := rfl
def GSignature.gBody : GSignature → GExpr
  | .mk _ _ _ _ _ v => v
@[simp] theorem GSignature.gBody_mk (v0 : ByteArray) (v1 : List GType) (v2 : GType) (v3 : Bool) (v4 : List ByteArray) (v5 : GExpr) : GSignature.gBody (.mk v0 v1 v2 v3 v4 v5) = v5 := rfl
theorem GSignature.tr_len (x : GSignature) : x.tr.length = 16 := by
  obtain ⟨v0, v1, v2, v3, v4, v5⟩ := x
  simp [GSignature.tr, GType.tr_len, GExpr.tr_len]
theorem GSignature.sz (l : List GSignature) : ∀ e ∈ GSignature.trs l, e.length = 16 := by
  intro e he
  rw [GSignature.trs_map] at he
  obtain ⟨x, -, rfl⟩ := List.mem_map.1 he
  exact GSignature.tr_len x
theorem GSignature.all {l : List GSignature} {Q : List Tr → Prop} (h : ∀ x ∈ l, Q x.tr) : ∀ e ∈ GSignature.trs l, Q e := by
  intro e he
  rw [GSignature.trs_map] at he
  obtain ⟨x, hx, rfl⟩ := List.mem_map.1 he
  exact h x hx
theorem GSignature.trs_get {l : List GSignature} {k : Nat} (h : k < l.length) : (GSignature.trs l)[k]? = some (l[k]).tr := by
  rw [GSignature.trs_map, List.getElem?_map, List.getElem?_eq_getElem h]; rfl
inductive GTrait where
  | mk (name_ : ByteArray) (supertraits_ : List ByteArray) (auto_ : Bool) (assoc_ : Bool) (signatures_ : List GSignature)
def GTrait.tr : GTrait → List Tr
  | .mk v0 v1 v2 v3 v4 => [.leaf (.string v0)] ++ ([.row 1 (strTrs v1)] ++ ([.leaf (.bool v2)] ++ ([.leaf (.bool v3)] ++ ([.row 16 (GSignature.trs v4)] ++ ([])))))
def GTrait.trs (l : List GTrait) : List (List Tr) := l.map GTrait.tr
theorem GTrait.trs_map (l : List GTrait) : GTrait.trs l = l.map GTrait.tr := rfl
theorem GTrait.trs_len (l : List GTrait) : (GTrait.trs l).length = l.length := by rw [GTrait.trs_map, List.length_map]
def GTrait.gName : GTrait → ByteArray
  | .mk v _ _ _ _ => v
@[simp] theorem GTrait.gName_mk (v0 : ByteArray) (v1 : List ByteArray) (v2 : Bool) (v3 : Bool) (v4 : List GSignature) : GTrait.gName (.mk v0 v1 v2 v3 v4) = v0 := rfl
def GTrait.gSupertraits : GTrait → List ByteArray
  | .mk _ v _ _ _ => v
@[simp] theorem GTrait.gSupertraits_mk (v0 : ByteArray) (v1 : List ByteArray) (v2 : Bool) (v3 : Bool) (v4 : List GSignature) : GTrait.gSupertraits (.mk v0 v1 v2 v3 v4) = v1 := rfl
def GTrait.gAuto : GTrait → Bool
  | .mk _ _ v _ _ => v
@[simp] theorem GTrait.gAuto_mk (v0 : ByteArray) (v1 : List ByteArray) (v2 : Bool) (v3 : Bool) (v4 : List GSignature) : GTrait.gAuto (.mk v0 v1 v2 v3 v4) = v2 := rfl
def GTrait.gAssoc : GTrait → Bool
  | .mk _ _ _ v _ => v
@[simp] theorem GTrait.gAssoc_mk (v0 : ByteArray) (v1 : List ByteArray) (v2 : Bool) (v3 : Bool) (v4 : List GSignature) : GTrait.gAssoc (.mk v0 v1 v2 v3 v4) = v3 := rfl
def GTrait.gSignatures : GTrait → List GSignature
  | .mk _ _ _ _ v => v
@[simp] theorem GTrait.gSignatures_mk (v0 : ByteArray) (v1 : List ByteArray) (v2 : Bool) (v3 : Bool) (v4 : List GSignature) : GTrait.gSignatures (.mk v0 v1 v2 v3 v4) = v4 := rfl
theorem GTrait.tr_len (x : GTrait) : x.tr.length = 5 := by
  obtain ⟨v0, v1, v2, v3, v4⟩ := x
  simp [GTrait.tr]
theorem GTrait.sz (l : List GTrait) : ∀ e ∈ GTrait.trs l, e.length = 5 := by
  intro e he
  rw [GTrait.trs_map] at he
  obtain ⟨x, -, rfl⟩ := List.mem_map.1 he
  exact GTrait.tr_len x
theorem GTrait.all {l : List GTrait} {Q : List Tr → Prop} (h : ∀ x ∈ l, Q x.tr) : ∀ e ∈ GTrait.trs l, Q e := by
  intro e he
  rw [GTrait.trs_map] at he
  obtain ⟨x, hx, rfl⟩ := List.mem_map.1 he
  exact h x hx
theorem GTrait.trs_get {l : List GTrait} {k : Nat} (h : k < l.length) : (GTrait.trs l)[k]? = some (l[k]).tr := by
  rw [GTrait.trs_map, List.getElem?_map, List.getElem?_eq_getElem h]; rfl
inductive GConstructor where
  | mk (name_ : ByteArray) (fields_ : List GType)
def GConstructor.tr : GConstructor → List Tr
  | .mk v0 v1 => [.leaf (.string v0)] ++ ([.row 3 (GType.trs v1)] ++ ([]))
def GConstructor.trs (l : List GConstructor) : List (List Tr) := l.map GConstructor.tr
theorem GConstructor.trs_map (l : List GConstructor) : GConstructor.trs l = l.map GConstructor.tr := rfl
theorem GConstructor.trs_len (l : List GConstructor) : (GConstructor.trs l).length = l.length := by rw [GConstructor.trs_map, List.length_map]
def GConstructor.gName : GConstructor → ByteArray
  | .mk v _ => v
@[simp] theorem GConstructor.gName_mk (v0 : ByteArray) (v1 : List GType) : GConstructor.gName (.mk v0 v1) = v0 := rfl
def GConstructor.gFields : GConstructor → List GType
  | .mk _ v => v
@[simp] theorem GConstructor.gFields_mk (v0 : ByteArray) (v1 : List GType) : GConstructor.gFields (.mk v0 v1) = v1 := rfl
theorem GConstructor.tr_len (x : GConstructor) : x.tr.length = 2 := by
  obtain ⟨v0, v1⟩ := x
  simp [GConstructor.tr]
theorem GConstructor.sz (l : List GConstructor) : ∀ e ∈ GConstructor.trs l, e.length = 2 := by
  intro e he
  rw [GConstructor.trs_map] at he
  obtain ⟨x, -, rfl⟩ := List.mem_map.1 he
  exact GConstructor.tr_len x
theorem GConstructor.all {l : List GConstructor} {Q : List Tr → Prop} (h : ∀ x ∈ l, Q x.tr) : ∀ e ∈ GConstructor.trs l, Q e := by
  intro e he
  rw [GConstructor.trs_map] at he
  obtain ⟨x, hx, rfl⟩ := List.mem_map.1 he
  exact h x hx
theorem GConstructor.trs_get {l : List GConstructor} {k : Nat} (h : k < l.length) : (GConstructor.trs l)[k]? = some (l[k]).tr := by
  rw [GConstructor.trs_map, List.getElem?_map, List.getElem?_eq_getElem h]; rfl
inductive GDataType where
  | mk (name_ : ByteArray) (vars_ : List ByteArray) (constructors_ : List GConstructor)
def GDataType.tr : GDataType → List Tr
  | .mk v0 v1 v2 => [.leaf (.string v0)] ++ ([.row 1 (strTrs v1)] ++ ([.row 2 (GConstructor.trs v2)] ++ ([])))
def GDataType.trs (l : List GDataType) : List (List Tr) := l.map GDataType.tr
theorem GDataType.trs_map (l : List GDataType) : GDataType.trs l = l.map GDataType.tr := rfl
theorem GDataType.trs_len (l : List GDataType) : (GDataType.trs l).length = l.length := by rw [GDataType.trs_map, List.length_map]
def GDataType.gName : GDataType → ByteArray
  | .mk v _ _ => v
@[simp] theorem GDataType.gName_mk (v0 : ByteArray) (v1 : List ByteArray) (v2 : List GConstructor) : GDataType.gName (.mk v0 v1 v2) = v0 := rfl
def GDataType.gVars : GDataType → List ByteArray
  | .mk _ v _ => v
@[simp] theorem GDataType.gVars_mk (v0 : ByteArray) (v1 : List ByteArray) (v2 : List GConstructor) : GDataType.gVars (.mk v0 v1 v2) = v1 := rfl
def GDataType.gConstructors : GDataType → List GConstructor
  | .mk _ _ v => v
@[simp] theorem GDataType.gConstructors_mk (v0 : ByteArray) (v1 : List ByteArray) (v2 : List GConstructor) : GDataType.gConstructors (.mk v0 v1 v2) = v2 := rfl
theorem GDataType.tr_len (x : GDataType) : x.tr.length = 3 := by
  obtain ⟨v0, v1, v2⟩ := x
  simp [GDataType.tr]
theorem GDataType.sz (l : List GDataType) : ∀ e ∈ GDataType.trs l, e.length = 3 := by
  intro e he
  rw [GDataType.trs_map] at he
  obtain ⟨x, -, rfl⟩ := List.mem_map.1 he
  exact GDataType.tr_len x
theorem GDataType.all {l : List GDataType} {Q : List Tr → Prop} (h : ∀ x ∈ l, Q x.tr) : ∀ e ∈ GDataType.trs l, Q e := by
  intro e he
  rw [GDataType.trs_map] at he
  obtain ⟨x, hx, rfl⟩ := List.mem_map.1 he
  exact h x hx
theorem GDataType.trs_get {l : List GDataType} {k : Nat} (h : k < l.length) : (GDataType.trs l)[k]? = some (l[k]).tr := by
  rw [GDataType.trs_map, List.getElem?_map, List.getElem?_eq_getElem h]; rfl
inductive GBound where
  | mk (trait_ : ByteArray) (type_ : GType)
def GBound.tr : GBound → List Tr
  | .mk v0 v1 => [.leaf (.string v0)] ++ (GType.tr v1 ++ ([]))
def GBound.trs (l : List GBound) : List (List Tr) := l.map GBound.tr
theorem GBound.trs_map (l : List GBound) : GBound.trs l = l.map GBound.tr := rfl
theorem GBound.trs_len (l : List GBound) : (GBound.trs l).length = l.length := by rw [GBound.trs_map, List.length_map]
def GBound.gTrait : GBound → ByteArray
  | .mk v _ => v
@[simp] theorem GBound.gTrait_mk (v0 : ByteArray) (v1 : GType) : GBound.gTrait (.mk v0 v1) = v0 := rfl
def GBound.gType : GBound → GType
  | .mk _ v => v
@[simp] theorem GBound.gType_mk (v0 : ByteArray) (v1 : GType) : GBound.gType (.mk v0 v1) = v1 := rfl
theorem GBound.tr_len (x : GBound) : x.tr.length = 4 := by
  obtain ⟨v0, v1⟩ := x
  simp [GBound.tr, GType.tr_len]
theorem GBound.opened {w : World} {cs : List Value} {v0 : ByteArray} {v1 : GType} (h : RepL w (GBound.tr (.mk v0 v1)) cs) :
    ∃ (x1 : List Value), cs = [.string v0] ++ (x1 ++ ([])) ∧ LeafOk (.string v0) ∧ RepL w (GType.tr v1) x1 := by
  obtain ⟨b0, r0, rfl, g0, n0⟩ := RepL.split h
  obtain ⟨y0, rfl⟩ := list1 g0.length.symm
  obtain ⟨rfl, k0⟩ := g0.1.leaf_eq
  obtain ⟨b1, r1, rfl, g1, n1⟩ := RepL.split n0
  obtain rfl := RepL.nil_eq n1
  exact ⟨b1, rfl, k0, g1⟩

theorem GBound.sz (l : List GBound) : ∀ e ∈ GBound.trs l, e.length = 4 := by
  intro e he
  rw [GBound.trs_map] at he
  obtain ⟨x, -, rfl⟩ := List.mem_map.1 he
  exact GBound.tr_len x
theorem GBound.all {l : List GBound} {Q : List Tr → Prop} (h : ∀ x ∈ l, Q x.tr) : ∀ e ∈ GBound.trs l, Q e := by
  intro e he
  rw [GBound.trs_map] at he
  obtain ⟨x, hx, rfl⟩ := List.mem_map.1 he
  exact h x hx
theorem GBound.trs_get {l : List GBound} {k : Nat} (h : k < l.length) : (GBound.trs l)[k]? = some (l[k]).tr := by
  rw [GBound.trs_map, List.getElem?_map, List.getElem?_eq_getElem h]; rfl
inductive GMethod where
  | mk (name_ : ByteArray) (vars_ : List ByteArray) (body_ : GExpr)
def GMethod.tr : GMethod → List Tr
  | .mk v0 v1 v2 => [.leaf (.string v0)] ++ ([.row 1 (strTrs v1)] ++ (GExpr.tr v2 ++ ([])))
def GMethod.trs (l : List GMethod) : List (List Tr) := l.map GMethod.tr
theorem GMethod.trs_map (l : List GMethod) : GMethod.trs l = l.map GMethod.tr := rfl
theorem GMethod.trs_len (l : List GMethod) : (GMethod.trs l).length = l.length := by rw [GMethod.trs_map, List.length_map]
def GMethod.gName : GMethod → ByteArray
  | .mk v _ _ => v
@[simp] theorem GMethod.gName_mk (v0 : ByteArray) (v1 : List ByteArray) (v2 : GExpr) : GMethod.gName (.mk v0 v1 v2) = v0 := rfl
def GMethod.gVars : GMethod → List ByteArray
  | .mk _ v _ => v
@[simp] theorem GMethod.gVars_mk (v0 : ByteArray) (v1 : List ByteArray) (v2 : GExpr) : GMethod.gVars (.mk v0 v1 v2) = v1 := rfl
def GMethod.gBody : GMethod → GExpr
  | .mk _ _ v => v
@[simp] theorem GMethod.gBody_mk (v0 : ByteArray) (v1 : List ByteArray) (v2 : GExpr) : GMethod.gBody (.mk v0 v1 v2) = v2 := rfl
theorem GMethod.tr_len (x : GMethod) : x.tr.length = 11 := by
  obtain ⟨v0, v1, v2⟩ := x
  simp [GMethod.tr, GExpr.tr_len]
theorem GMethod.sz (l : List GMethod) : ∀ e ∈ GMethod.trs l, e.length = 11 := by
  intro e he
  rw [GMethod.trs_map] at he
  obtain ⟨x, -, rfl⟩ := List.mem_map.1 he
  exact GMethod.tr_len x
theorem GMethod.all {l : List GMethod} {Q : List Tr → Prop} (h : ∀ x ∈ l, Q x.tr) : ∀ e ∈ GMethod.trs l, Q e := by
  intro e he
  rw [GMethod.trs_map] at he
  obtain ⟨x, hx, rfl⟩ := List.mem_map.1 he
  exact h x hx
theorem GMethod.trs_get {l : List GMethod} {k : Nat} (h : k < l.length) : (GMethod.trs l)[k]? = some (l[k]).tr := by
  rw [GMethod.trs_map, List.getElem?_map, List.getElem?_eq_getElem h]; rfl
inductive GInstance where
  | mk (trait_ : ByteArray) (vars_ : List ByteArray) (head_ : GType) (where_ : List GBound) (default_ : Bool) (hasassoc_ : Bool) (assoc_ : GType) (methods_ : List GMethod)
def GInstance.tr : GInstance → List Tr
  | .mk v0 v1 v2 v3 v4 v5 v6 v7 => [.leaf (.string v0)] ++ ([.row 1 (strTrs v1)] ++ (GType.tr v2 ++ ([.row 4 (GBound.trs v3)] ++ ([.leaf (.bool v4)] ++ ([.leaf (.bool v5)] ++ (GType.tr v6 ++ ([.row 11 (GMethod.trs v7)] ++ ([]))))))))
def GInstance.trs (l : List GInstance) : List (List Tr) := l.map GInstance.tr
theorem GInstance.trs_map (l : List GInstance) : GInstance.trs l = l.map GInstance.tr := rfl
theorem GInstance.trs_len (l : List GInstance) : (GInstance.trs l).length = l.length := by rw [GInstance.trs_map, List.length_map]
def GInstance.gTrait : GInstance → ByteArray
  | .mk v _ _ _ _ _ _ _ => v
@[simp] theorem GInstance.gTrait_mk (v0 : ByteArray) (v1 : List ByteArray) (v2 : GType) (v3 : List GBound) (v4 : Bool) (v5 : Bool) (v6 : GType) (v7 : List GMethod) : GInstance.gTrait (.mk v0 v1 v2 v3 v4 v5 v6 v7) = v0 := rfl
def GInstance.gVars : GInstance → List ByteArray
  | .mk _ v _ _ _ _ _ _ => v
@[simp] theorem GInstance.gVars_mk (v0 : ByteArray) (v1 : List ByteArray) (v2 : GType) (v3 : List GBound) (v4 : Bool) (v5 : Bool) (v6 : GType) (v7 : List GMethod) : GInstance.gVars (.mk v0 v1 v2 v3 v4 v5 v6 v7) = v1 := rfl
def GInstance.gHead : GInstance → GType
  | .mk _ _ v _ _ _ _ _ => v
@[simp] theorem GInstance.gHead_mk (v0 : ByteArray) (v1 : List ByteArray) (v2 : GType) (v3 : List GBound) (v4 : Bool) (v5 : Bool) (v6 : GType) (v7 : List GMethod) : GInstance.gHead (.mk v0 v1 v2 v3 v4 v5 v6 v7) = v2 := rfl
def GInstance.gWhere : GInstance → List GBound
  | .mk _ _ _ v _ _ _ _ => v
@[simp] theorem GInstance.gWhere_mk (v0 : ByteArray) (v1 : List ByteArray) (v2 : GType) (v3 : List GBound) (v4 : Bool) (v5 : Bool) (v6 : GType) (v7 : List GMethod) : GInstance.gWhere (.mk v0 v1 v2 v3 v4 v5 v6 v7) = v3 := rfl
def GInstance.gDefault : GInstance → Bool
  | .mk _ _ _ _ v _ _ _ => v
@[simp] theorem GInstance.gDefault_mk (v0 : ByteArray) (v1 : List ByteArray) (v2 : GType) (v3 : List GBound) (v4 : Bool) (v5 : Bool) (v6 : GType) (v7 : List GMethod) : GInstance.gDefault (.mk v0 v1 v2 v3 v4 v5 v6 v7) = v4 := rfl
def GInstance.gHasAssoc : GInstance → Bool
  | .mk _ _ _ _ _ v _ _ => v
@[simp] theorem GInstance.gHasAssoc_mk (v0 : ByteArray) (v1 : List ByteArray) (v2 : GType) (v3 : List GBound) (v4 : Bool) (v5 : Bool) (v6 : GType) (v7 : List GMethod) : GInstance.gHasAssoc (.mk v0 v1 v2 v3 v4 v5 v6 v7) = v5 := rfl
def GInstance.gAssoc : GInstance → GType
  | .mk _ _ _ _ _ _ v _ => v
@[simp] theorem GInstance.gAssoc_mk (v0 : ByteArray) (v1 : List ByteArray) (v2 : GType) (v3 : List GBound) (v4 : Bool) (v5 : Bool) (v6 : GType) (v7 : List GMethod) : GInstance.gAssoc (.mk v0 v1 v2 v3 v4 v5 v6 v7) = v6 := rfl
def GInstance.gMethods : GInstance → List GMethod
  | .mk _ _ _ _ _ _ _ v => v
@[simp] theorem GInstance.gMethods_mk (v0 : ByteArray) (v1 : List ByteArray) (v2 : GType) (v3 : List GBound) (v4 : Bool) (v5 : Bool) (v6 : GType) (v7 : List GMethod) : GInstance.gMethods (.mk v0 v1 v2 v3 v4 v5 v6 v7) = v7 := rfl
theorem GInstance.tr_len (x : GInstance) : x.tr.length = 12 := by
  obtain ⟨v0, v1, v2, v3, v4, v5, v6, v7⟩ := x
  simp [GInstance.tr, GType.tr_len, GType.tr_len]
theorem GInstance.sz (l : List GInstance) : ∀ e ∈ GInstance.trs l, e.length = 12 := by
  intro e he
  rw [GInstance.trs_map] at he
  obtain ⟨x, -, rfl⟩ := List.mem_map.1 he
  exact GInstance.tr_len x
theorem GInstance.all {l : List GInstance} {Q : List Tr → Prop} (h : ∀ x ∈ l, Q x.tr) : ∀ e ∈ GInstance.trs l, Q e := by
  intro e he
  rw [GInstance.trs_map] at he
  obtain ⟨x, hx, rfl⟩ := List.mem_map.1 he
  exact h x hx
theorem GInstance.trs_get {l : List GInstance} {k : Nat} (h : k < l.length) : (GInstance.trs l)[k]? = some (l[k]).tr := by
  rw [GInstance.trs_map, List.getElem?_map, List.getElem?_eq_getElem h]; rfl
inductive GParam where
  | mk (name_ : ByteArray) (type_ : GType)
def GParam.tr : GParam → List Tr
  | .mk v0 v1 => [.leaf (.string v0)] ++ (GType.tr v1 ++ ([]))
def GParam.trs (l : List GParam) : List (List Tr) := l.map GParam.tr
theorem GParam.trs_map (l : List GParam) : GParam.trs l = l.map GParam.tr := rfl
theorem GParam.trs_len (l : List GParam) : (GParam.trs l).length = l.length := by rw [GParam.trs_map, List.length_map]
def GParam.gName : GParam → ByteArray
  | .mk v _ => v
@[simp] theorem GParam.gName_mk (v0 : ByteArray) (v1 : GType) : GParam.gName (.mk v0 v1) = v0 := rfl
def GParam.gType : GParam → GType
  | .mk _ v => v
@[simp] theorem GParam.gType_mk (v0 : ByteArray) (v1 : GType) : GParam.gType (.mk v0 v1) = v1 := rfl
theorem GParam.tr_len (x : GParam) : x.tr.length = 4 := by
  obtain ⟨v0, v1⟩ := x
  simp [GParam.tr, GType.tr_len]
theorem GParam.opened {w : World} {cs : List Value} {v0 : ByteArray} {v1 : GType} (h : RepL w (GParam.tr (.mk v0 v1)) cs) :
    ∃ (x1 : List Value), cs = [.string v0] ++ (x1 ++ ([])) ∧ LeafOk (.string v0) ∧ RepL w (GType.tr v1) x1 := by
  obtain ⟨b0, r0, rfl, g0, n0⟩ := RepL.split h
  obtain ⟨y0, rfl⟩ := list1 g0.length.symm
  obtain ⟨rfl, k0⟩ := g0.1.leaf_eq
  obtain ⟨b1, r1, rfl, g1, n1⟩ := RepL.split n0
  obtain rfl := RepL.nil_eq n1
  exact ⟨b1, rfl, k0, g1⟩

theorem GParam.sz (l : List GParam) : ∀ e ∈ GParam.trs l, e.length = 4 := by
  intro e he
  rw [GParam.trs_map] at he
  obtain ⟨x, -, rfl⟩ := List.mem_map.1 he
  exact GParam.tr_len x
theorem GParam.all {l : List GParam} {Q : List Tr → Prop} (h : ∀ x ∈ l, Q x.tr) : ∀ e ∈ GParam.trs l, Q e := by
  intro e he
  rw [GParam.trs_map] at he
  obtain ⟨x, hx, rfl⟩ := List.mem_map.1 he
  exact h x hx
theorem GParam.trs_get {l : List GParam} {k : Nat} (h : k < l.length) : (GParam.trs l)[k]? = some (l[k]).tr := by
  rw [GParam.trs_map, List.getElem?_map, List.getElem?_eq_getElem h]; rfl
inductive GFunction where
  | mk (name_ : ByteArray) (vars_ : List ByteArray) (where_ : List GBound) (params_ : List GParam) (result_ : GType) (body_ : GExpr)
def GFunction.tr : GFunction → List Tr
  | .mk v0 v1 v2 v3 v4 v5 => [.leaf (.string v0)] ++ ([.row 1 (strTrs v1)] ++ ([.row 4 (GBound.trs v2)] ++ ([.row 4 (GParam.trs v3)] ++ (GType.tr v4 ++ (GExpr.tr v5 ++ ([]))))))
def GFunction.trs (l : List GFunction) : List (List Tr) := l.map GFunction.tr
theorem GFunction.trs_map (l : List GFunction) : GFunction.trs l = l.map GFunction.tr := rfl
theorem GFunction.trs_len (l : List GFunction) : (GFunction.trs l).length = l.length := by rw [GFunction.trs_map, List.length_map]
def GFunction.gName : GFunction → ByteArray
  | .mk v _ _ _ _ _ => v
@[simp] theorem GFunction.gName_mk (v0 : ByteArray) (v1 : List ByteArray) (v2 : List GBound) (v3 : List GParam) (v4 : GType) (v5 : GExpr) : GFunction.gName (.mk v0 v1 v2 v3 v4 v5) = v0 := rfl
def GFunction.gVars : GFunction → List ByteArray
  | .mk _ v _ _ _ _ => v
@[simp] theorem GFunction.gVars_mk (v0 : ByteArray) (v1 : List ByteArray) (v2 : List GBound) (v3 : List GParam) (v4 : GType) (v5 : GExpr) : GFunction.gVars (.mk v0 v1 v2 v3 v4 v5) = v1 := rfl
def GFunction.gWhere : GFunction → List GBound
  | .mk _ _ v _ _ _ => v
@[simp] theorem GFunction.gWhere_mk (v0 : ByteArray) (v1 : List ByteArray) (v2 : List GBound) (v3 : List GParam) (v4 : GType) (v5 : GExpr) : GFunction.gWhere (.mk v0 v1 v2 v3 v4 v5) = v2 := rfl
def GFunction.gParams : GFunction → List GParam
  | .mk _ _ _ v _ _ => v
@[simp] theorem GFunction.gParams_mk (v0 : ByteArray) (v1 : List ByteArray) (v2 : List GBound) (v3 : List GParam) (v4 : GType) (v5 : GExpr) : GFunction.gParams (.mk v0 v1 v2 v3 v4 v5) = v3 := rfl
def GFunction.gResult : GFunction → GType
  | .mk _ _ _ _ v _ => v
@[simp] theorem GFunction.gResult_mk (v0 : ByteArray) (v1 : List ByteArray) (v2 : List GBound) (v3 : List GParam) (v4 : GType) (v5 : GExpr) : GFunction.gResult (.mk v0 v1 v2 v3 v4 v5) = v4 := rfl
def GFunction.gBody : GFunction → GExpr
  | .mk _ _ _ _ _ v => v
@[simp] theorem GFunction.gBody_mk (v0 : ByteArray) (v1 : List ByteArray) (v2 : List GBound) (v3 : List GParam) (v4 : GType) (v5 : GExpr) : GFunction.gBody (.mk v0 v1 v2 v3 v4 v5) = v5 := rfl
theorem GFunction.tr_len (x : GFunction) : x.tr.length = 16 := by
  obtain ⟨v0, v1, v2, v3, v4, v5⟩ := x
  simp [GFunction.tr, GType.tr_len, GExpr.tr_len]
theorem GFunction.opened {w : World} {cs : List Value} {v0 : ByteArray} {v1 : List ByteArray} {v2 : List GBound} {v3 : List GParam} {v4 : GType} {v5 : GExpr} (h : RepL w (GFunction.tr (.mk v0 v1 v2 v3 v4 v5)) cs) :
    ∃ (a1 : Option Addr) (c1 : Nat) (a2 : Option Addr) (c2 : Nat) (a3 : Option Addr) (c3 : Nat) (x4 : List Value) (x5 : List Value), cs = [.string v0] ++ ([.slice a1 v1.length c1] ++ ([.slice a2 v2.length c2] ++ ([.slice a3 v3.length c3] ++ (x4 ++ (x5 ++ ([])))))) ∧ LeafOk (.string v0) ∧ Rep w (.row 1 (strTrs v1)) (.slice a1 v1.length c1) ∧ Rep w (.row 4 (GBound.trs v2)) (.slice a2 v2.length c2) ∧ Rep w (.row 4 (GParam.trs v3)) (.slice a3 v3.length c3) ∧ RepL w (GType.tr v4) x4 ∧ RepL w (GExpr.tr v5) x5 := by
  obtain ⟨b0, r0, rfl, g0, n0⟩ := RepL.split h
  obtain ⟨y0, rfl⟩ := list1 g0.length.symm
  obtain ⟨rfl, k0⟩ := g0.1.leaf_eq
  obtain ⟨b1, r1, rfl, g1, n1⟩ := RepL.split n0
  obtain ⟨y1, rfl⟩ := list1 g1.length.symm
  obtain ⟨a1, c1, e1, -, -⟩ := g1.1.shape
  rw [strTrs_len] at e1
  subst e1
  obtain ⟨b2, r2, rfl, g2, n2⟩ := RepL.split n1
  obtain ⟨y2, rfl⟩ := list1 g2.length.symm
  obtain ⟨a2, c2, e2, -, -⟩ := g2.1.shape
  rw [GBound.trs_len] at e2
  subst e2
  obtain ⟨b3, r3, rfl, g3, n3⟩ := RepL.split n2
  obtain ⟨y3, rfl⟩ := list1 g3.length.symm
  obtain ⟨a3, c3, e3, -, -⟩ := g3.1.shape
  rw [GParam.trs_len] at e3
  subst e3
  obtain ⟨b4, r4, rfl, g4, n4⟩ := RepL.split n3
  obtain ⟨b5, r5, rfl, g5, n5⟩ := RepL.split n4
  obtain rfl := RepL.nil_eq n5
  exact ⟨a1, c1, a2, c2, a3, c3, b4, b5, rfl, k0, g1.1, g2.1, g3.1, g4, g5⟩

theorem GFunction.sz (l : List GFunction) : ∀ e ∈ GFunction.trs l, e.length = 16 := by
  intro e he
  rw [GFunction.trs_map] at he
  obtain ⟨x, -, rfl⟩ := List.mem_map.1 he
  exact GFunction.tr_len x
theorem GFunction.all {l : List GFunction} {Q : List Tr → Prop} (h : ∀ x ∈ l, Q x.tr) : ∀ e ∈ GFunction.trs l, Q e := by
  intro e he
  rw [GFunction.trs_map] at he
  obtain ⟨x, hx, rfl⟩ := List.mem_map.1 he
  exact h x hx
theorem GFunction.trs_get {l : List GFunction} {k : Nat} (h : k < l.length) : (GFunction.trs l)[k]? = some (l[k]).tr := by
  rw [GFunction.trs_map, List.getElem?_map, List.getElem?_eq_getElem h]; rfl
inductive GPackage where
  | mk (name_ : ByteArray) (deps_ : List ByteArray) (traits_ : List GTrait) (datatypes_ : List GDataType) (instances_ : List GInstance) (functions_ : List GFunction)
def GPackage.tr : GPackage → List Tr
  | .mk v0 v1 v2 v3 v4 v5 => [.leaf (.string v0)] ++ ([.row 1 (strTrs v1)] ++ ([.row 5 (GTrait.trs v2)] ++ ([.row 3 (GDataType.trs v3)] ++ ([.row 12 (GInstance.trs v4)] ++ ([.row 16 (GFunction.trs v5)] ++ ([]))))))
def GPackage.trs (l : List GPackage) : List (List Tr) := l.map GPackage.tr
theorem GPackage.trs_map (l : List GPackage) : GPackage.trs l = l.map GPackage.tr := rfl
theorem GPackage.trs_len (l : List GPackage) : (GPackage.trs l).length = l.length := by rw [GPackage.trs_map, List.length_map]
def GPackage.gName : GPackage → ByteArray
  | .mk v _ _ _ _ _ => v
@[simp] theorem GPackage.gName_mk (v0 : ByteArray) (v1 : List ByteArray) (v2 : List GTrait) (v3 : List GDataType) (v4 : List GInstance) (v5 : List GFunction) : GPackage.gName (.mk v0 v1 v2 v3 v4 v5) = v0 := rfl
def GPackage.gDeps : GPackage → List ByteArray
  | .mk _ v _ _ _ _ => v
@[simp] theorem GPackage.gDeps_mk (v0 : ByteArray) (v1 : List ByteArray) (v2 : List GTrait) (v3 : List GDataType) (v4 : List GInstance) (v5 : List GFunction) : GPackage.gDeps (.mk v0 v1 v2 v3 v4 v5) = v1 := rfl
def GPackage.gTraits : GPackage → List GTrait
  | .mk _ _ v _ _ _ => v
@[simp] theorem GPackage.gTraits_mk (v0 : ByteArray) (v1 : List ByteArray) (v2 : List GTrait) (v3 : List GDataType) (v4 : List GInstance) (v5 : List GFunction) : GPackage.gTraits (.mk v0 v1 v2 v3 v4 v5) = v2 := rfl
def GPackage.gDataTypes : GPackage → List GDataType
  | .mk _ _ _ v _ _ => v
@[simp] theorem GPackage.gDataTypes_mk (v0 : ByteArray) (v1 : List ByteArray) (v2 : List GTrait) (v3 : List GDataType) (v4 : List GInstance) (v5 : List GFunction) : GPackage.gDataTypes (.mk v0 v1 v2 v3 v4 v5) = v3 := rfl
def GPackage.gInstances : GPackage → List GInstance
  | .mk _ _ _ _ v _ => v
@[simp] theorem GPackage.gInstances_mk (v0 : ByteArray) (v1 : List ByteArray) (v2 : List GTrait) (v3 : List GDataType) (v4 : List GInstance) (v5 : List GFunction) : GPackage.gInstances (.mk v0 v1 v2 v3 v4 v5) = v4 := rfl
def GPackage.gFunctions : GPackage → List GFunction
  | .mk _ _ _ _ _ v => v
@[simp] theorem GPackage.gFunctions_mk (v0 : ByteArray) (v1 : List ByteArray) (v2 : List GTrait) (v3 : List GDataType) (v4 : List GInstance) (v5 : List GFunction) : GPackage.gFunctions (.mk v0 v1 v2 v3 v4 v5) = v5 := rfl
theorem GPackage.tr_len (x : GPackage) : x.tr.length = 6 := by
  obtain ⟨v0, v1, v2, v3, v4, v5⟩ := x
  simp [GPackage.tr]
theorem GPackage.sz (l : List GPackage) : ∀ e ∈ GPackage.trs l, e.length = 6 := by
  intro e he
  rw [GPackage.trs_map] at he
  obtain ⟨x, -, rfl⟩ := List.mem_map.1 he
  exact GPackage.tr_len x
theorem GPackage.all {l : List GPackage} {Q : List Tr → Prop} (h : ∀ x ∈ l, Q x.tr) : ∀ e ∈ GPackage.trs l, Q e := by
  intro e he
  rw [GPackage.trs_map] at he
  obtain ⟨x, hx, rfl⟩ := List.mem_map.1 he
  exact h x hx
theorem GPackage.trs_get {l : List GPackage} {k : Nat} (h : k < l.length) : (GPackage.trs l)[k]? = some (l[k]).tr := by
  rw [GPackage.trs_map, List.getElem?_map, List.getElem?_eq_getElem h]; rfl
inductive GProgram where
  | mk (packages_ : List GPackage)
def GProgram.tr : GProgram → List Tr
  | .mk v0 => [.row 6 (GPackage.trs v0)] ++ ([])
def GProgram.trs (l : List GProgram) : List (List Tr) := l.map GProgram.tr
theorem GProgram.trs_map (l : List GProgram) : GProgram.trs l = l.map GProgram.tr := rfl
def GProgram.gPackages : GProgram → List GPackage
  | .mk v => v
@[simp] theorem GProgram.gPackages_mk (v0 : List GPackage) : GProgram.gPackages (.mk v0) = v0 := rfl
theorem GProgram.tr_len (x : GProgram) : x.tr.length = 1 := by
  obtain ⟨v0⟩ := x
  simp [GProgram.tr]
theorem GProgram.sz (l : List GProgram) : ∀ e ∈ GProgram.trs l, e.length = 1 := by
  intro e he
  rw [GProgram.trs_map] at he
  obtain ⟨x, -, rfl⟩ := List.mem_map.1 he
  exact GProgram.tr_len x
theorem GProgram.all {l : List GProgram} {Q : List Tr → Prop} (h : ∀ x ∈ l, Q x.tr) : ∀ e ∈ GProgram.trs l, Q e := by
  intro e he
  rw [GProgram.trs_map] at he
  obtain ⟨x, hx, rfl⟩ := List.mem_map.1 he
  exact h x hx
inductive GEvidence where
  | mk (kind_ : Int) (n_ : Int) (at_ : GInstanceRef) (args_ : List GEvidence)
mutual
def GEvidence.tr : GEvidence → List Tr
  | .mk v0 v1 v2 v3 => [.leaf (.int .i64 v0)] ++ ([.leaf (.int .i64 v1)] ++ (GInstanceRef.tr v2 ++ ([.row 5 (GEvidence.trs v3)] ++ ([]))))
def GEvidence.trs : List GEvidence → List (List Tr)
  | [] => []
  | e :: r => GEvidence.tr e :: GEvidence.trs r
end
theorem GEvidence.trs_map (l : List GEvidence) : GEvidence.trs l = l.map GEvidence.tr := by induction l <;> simp_all [GEvidence.trs]
def GEvidence.gKind : GEvidence → Int
  | .mk v _ _ _ => v
@[simp] theorem GEvidence.gKind_mk (v0 : Int) (v1 : Int) (v2 : GInstanceRef) (v3 : List GEvidence) : GEvidence.gKind (.mk v0 v1 v2 v3) = v0 := rfl
def GEvidence.gN : GEvidence → Int
  | .mk _ v _ _ => v
@[simp] theorem GEvidence.gN_mk (v0 : Int) (v1 : Int) (v2 : GInstanceRef) (v3 : List GEvidence) : GEvidence.gN (.mk v0 v1 v2 v3) = v1 := rfl
def GEvidence.gAt : GEvidence → GInstanceRef
  | .mk _ _ v _ => v
@[simp] theorem GEvidence.gAt_mk (v0 : Int) (v1 : Int) (v2 : GInstanceRef) (v3 : List GEvidence) : GEvidence.gAt (.mk v0 v1 v2 v3) = v2 := rfl
def GEvidence.gArgs : GEvidence → List GEvidence
  | .mk _ _ _ v => v
@[simp] theorem GEvidence.gArgs_mk (v0 : Int) (v1 : Int) (v2 : GInstanceRef) (v3 : List GEvidence) : GEvidence.gArgs (.mk v0 v1 v2 v3) = v3 := rfl
theorem GEvidence.tr_len (x : GEvidence) : x.tr.length = 5 := by
  obtain ⟨v0, v1, v2, v3⟩ := x
  simp [GEvidence.tr, GInstanceRef.tr_len]
theorem GEvidence.sz (l : List GEvidence) : ∀ e ∈ GEvidence.trs l, e.length = 5 := by
  intro e he
  rw [GEvidence.trs_map] at he
  obtain ⟨x, -, rfl⟩ := List.mem_map.1 he
  exact GEvidence.tr_len x
theorem GEvidence.all {l : List GEvidence} {Q : List Tr → Prop} (h : ∀ x ∈ l, Q x.tr) : ∀ e ∈ GEvidence.trs l, Q e := by
  intro e he
  rw [GEvidence.trs_map] at he
  obtain ⟨x, hx, rfl⟩ := List.mem_map.1 he
  exact h x hx
inductive GAssumption where
  | mk (goal_ : GBound) (from_ : Int) (steps_ : List Int)
def GAssumption.tr : GAssumption → List Tr
  | .mk v0 v1 v2 => GBound.tr v0 ++ ([.leaf (.int .i64 v1)] ++ ([.row 1 (intTrs v2)] ++ ([])))
def GAssumption.trs (l : List GAssumption) : List (List Tr) := l.map GAssumption.tr
theorem GAssumption.trs_map (l : List GAssumption) : GAssumption.trs l = l.map GAssumption.tr := rfl
def GAssumption.gGoal : GAssumption → GBound
  | .mk v _ _ => v
@[simp] theorem GAssumption.gGoal_mk (v0 : GBound) (v1 : Int) (v2 : List Int) : GAssumption.gGoal (.mk v0 v1 v2) = v0 := rfl
def GAssumption.gFrom : GAssumption → Int
  | .mk _ v _ => v
@[simp] theorem GAssumption.gFrom_mk (v0 : GBound) (v1 : Int) (v2 : List Int) : GAssumption.gFrom (.mk v0 v1 v2) = v1 := rfl
def GAssumption.gSteps : GAssumption → List Int
  | .mk _ _ v => v
@[simp] theorem GAssumption.gSteps_mk (v0 : GBound) (v1 : Int) (v2 : List Int) : GAssumption.gSteps (.mk v0 v1 v2) = v2 := rfl
theorem GAssumption.tr_len (x : GAssumption) : x.tr.length = 6 := by
  obtain ⟨v0, v1, v2⟩ := x
  simp [GAssumption.tr, GBound.tr_len]
theorem GAssumption.sz (l : List GAssumption) : ∀ e ∈ GAssumption.trs l, e.length = 6 := by
  intro e he
  rw [GAssumption.trs_map] at he
  obtain ⟨x, -, rfl⟩ := List.mem_map.1 he
  exact GAssumption.tr_len x
theorem GAssumption.all {l : List GAssumption} {Q : List Tr → Prop} (h : ∀ x ∈ l, Q x.tr) : ∀ e ∈ GAssumption.trs l, Q e := by
  intro e he
  rw [GAssumption.trs_map] at he
  obtain ⟨x, hx, rfl⟩ := List.mem_map.1 he
  exact h x hx
inductive GCache where
  | mk (goals_ : List GBound) (codes_ : List Int) (evidence_ : List GEvidence)
def GCache.tr : GCache → List Tr
  | .mk v0 v1 v2 => [.row 4 (GBound.trs v0)] ++ ([.row 1 (intTrs v1)] ++ ([.row 5 (GEvidence.trs v2)] ++ ([])))
def GCache.trs (l : List GCache) : List (List Tr) := l.map GCache.tr
theorem GCache.trs_map (l : List GCache) : GCache.trs l = l.map GCache.tr := rfl
def GCache.gGoals : GCache → List GBound
  | .mk v _ _ => v
@[simp] theorem GCache.gGoals_mk (v0 : List GBound) (v1 : List Int) (v2 : List GEvidence) : GCache.gGoals (.mk v0 v1 v2) = v0 := rfl
def GCache.gCodes : GCache → List Int
  | .mk _ v _ => v
@[simp] theorem GCache.gCodes_mk (v0 : List GBound) (v1 : List Int) (v2 : List GEvidence) : GCache.gCodes (.mk v0 v1 v2) = v1 := rfl
def GCache.gEvidence : GCache → List GEvidence
  | .mk _ _ v => v
@[simp] theorem GCache.gEvidence_mk (v0 : List GBound) (v1 : List Int) (v2 : List GEvidence) : GCache.gEvidence (.mk v0 v1 v2) = v2 := rfl
theorem GCache.tr_len (x : GCache) : x.tr.length = 3 := by
  obtain ⟨v0, v1, v2⟩ := x
  simp [GCache.tr]
theorem GCache.sz (l : List GCache) : ∀ e ∈ GCache.trs l, e.length = 3 := by
  intro e he
  rw [GCache.trs_map] at he
  obtain ⟨x, -, rfl⟩ := List.mem_map.1 he
  exact GCache.tr_len x
theorem GCache.all {l : List GCache} {Q : List Tr → Prop} (h : ∀ x ∈ l, Q x.tr) : ∀ e ∈ GCache.trs l, Q e := by
  intro e he
  rw [GCache.trs_map] at he
  obtain ⟨x, hx, rfl⟩ := List.mem_map.1 he
  exact h x hx
end Go.Proofs.YtnakkelglbcecaaGreat

namespace Go.Proofs.YtnakkelglbcecaaGreat
open Go.RowKit Go.ChangeShapes Go.WideShapes Go.Deep

inductive TyOf (P : Program) : TypeId → List Tr → Prop
  | bool {t b} : P.underlying t = some .bool → TyOf P t [.leaf (.bool b)]
  | int {t k n} : P.underlying t = some (.int k) → (Lit.int k n).wf = true → TyOf P t [.leaf (.int k n)]
  | str {t s} : P.underlying t = some .string → s.size ≤ maxLen → TyOf P t [.leaf (.string s)]
  | slice {t e es} : P.underlying t = some (.slice e) → (∀ x ∈ es, TyOf P e x) → TyOf P t [.row (P.cellsOf e) es]
  | struct {t fs} (parts : Nat → List Tr) : P.underlying t = some (.struct fs) → (∀ i f, fs[i]? = some f → TyOf P f.type (parts i)) → TyOf P t ((List.range fs.size).flatMap parts)

/-- The fields lie one behind the other. -/
def laidFields (P : Program) : Nat → List Field → Option Nat
  | n, [] => some n
  | n, f :: r => if f.offset = n then laidFields P (n + P.cellsOf f.type) r else none

def closedPlain (P : Program) (S : List TypeId) : Bool :=
  S.all fun t => match P.underlying t with
    | some .bool | some (.int _) | some .string => P.cellsOf t == 1
    | some (.slice e) => S.contains e && P.cellsOf t == 1 && decide (0 < P.cellsOf e)
    | some (.struct fs) => fs.all (fun f => S.contains f.type) && laidFields P 0 fs.toList == some (P.cellsOf t)
    | _ => false

theorem repL_fields {w : World} {P : Program} {cs : List Value} : ∀ (fs : List Field) (n m : Nat) (parts : Nat → List Tr) (k : Nat), laidFields P n fs = some m → cs.length = m →
    (∀ i f, fs[i]? = some f → RepL w (parts (k + i)) ((cs.drop f.offset).take (P.cellsOf f.type))) → RepL w ((List.range' k fs.length).flatMap parts) (cs.drop n) := by
  intro fs
  induction fs with
  | nil =>
    intro n m parts k h hl _
    simp [laidFields] at h
    subst h
    simp [← hl, RepL]
  | cons f r ih =>
    intro n m parts k h hl hf
    simp only [laidFields] at h
    split at h
    · rename_i ho
      have h0 := hf 0 f rfl
      rw [ho] at h0
      have hr := ih (n + P.cellsOf f.type) m parts (k + 1) h hl (fun i g hg => by
        have := hf (i + 1) g (by simpa using hg)
        rwa [show k + (i + 1) = k + 1 + i by omega] at this)
      have : cs.drop n = (cs.drop n).take (P.cellsOf f.type) ++ cs.drop (n + P.cellsOf f.type) := by
        rw [← List.drop_drop, List.take_append_drop]
      rw [this]
      simp only [List.length_cons, List.range'_succ, List.flatMap_cons]
      exact RepL.append h0 hr
    · simp at h

section
variable {H : Type} {enc : TypeId × Value → H} {P : Program} {w : World} {base : Nat} {spare : Nat → Bool} {held : Bool}

theorem tyOf_of_trod {S : List TypeId} (hS : closedPlain P S = true) : ∀ (fuel : Nat) (t : TypeId) (cs : List Value) (x : DataW H × List MemPlace), t ∈ S → DataW.trod enc P w base spare held fuel t cs = some x →
    ∃ ts, TyOf P t ts ∧ RepL w ts cs ∧ ts.length = P.cellsOf t := by
  intro fuel
  induction fuel with
  | zero => intro t cs x _ h; simp [DataW.trod] at h
  | succ n ih =>
    intro t cs x ht h
    have hcl := List.all_eq_true.1 hS t ht
    cases hu : P.underlying t with
    | none => simp [hu] at hcl
    | some d =>
      simp only [hu] at hcl
      cases d with
      | bool =>
        obtain ⟨b, rfl, -⟩ : ∃ b, cs = [.bool b] ∧ True := by
          unfold DataW.trod at h
          rw [hu] at h
          split at h <;> simp_all
        exact ⟨_, .bool (b := b) hu, ⟨.leaf trivial, trivial⟩, by simpa using (beq_iff_eq.1 hcl).symm⟩
      | int k =>
        obtain ⟨m, rfl, -, hw⟩ := DataW.trod_int hu h
        exact ⟨_, .int hu hw, ⟨.leaf hw, trivial⟩, by simpa using (beq_iff_eq.1 hcl).symm⟩
      | string =>
        obtain ⟨s, rfl, -, hw⟩ := DataW.trod_string hu h
        exact ⟨_, .str hu hw, ⟨.leaf hw, trivial⟩, by simpa using (beq_iff_eq.1 hcl).symm⟩
      | slice e =>
        simp only [Bool.and_eq_true, List.contains_iff_mem, decide_eq_true_eq] at hcl
        obtain ⟨⟨he, hc1⟩, hpos⟩ := hcl
        have hc1 : P.cellsOf t = 1 := beq_iff_eq.1 hc1
        rcases DataW.trod_slice hu h with ⟨rfl, -⟩ | ⟨a, len, cap, elems, rest, n', hn, rfl, -, hb, hl, hm, hlen, hel, -, -⟩
        · exact ⟨_, .slice (es := []) hu (by simp), ⟨Rep.row (w := w) (sz := P.cellsOf e) (es := []) (a := none) (cap := 0) (fun _ _ => undef) (by simp) (by unfold maxLen; omega) (by simp) (by simp), trivial⟩, by simp [hc1]⟩
        · obtain rfl : n = n' := by omega
          have key : ∀ i, i < len → ∃ cs' ts, w.cells? base (a.add (i * P.cellsOf e)) (P.cellsOf e) = some cs' ∧ TyOf P e ts ∧ RepL w ts cs' ∧ ts.length = P.cellsOf e := by
            intro i hi
            have h1 := hel i hi
            rw [List.getElem?_eq_getElem (by omega)] at h1
            obtain ⟨cs', h2, h3⟩ := Option.bind_eq_some_iff.1 h1
            obtain ⟨ts, h4, h5, h6⟩ := ih e cs' _ he h3
            exact ⟨cs', ts, h2, h4, h5, h6⟩
          obtain ⟨D, hD⟩ := choose_lt (α := List Value × List Tr) (p := fun i x => w.cells? base (a.add (i * P.cellsOf e)) (P.cellsOf e) = some x.1 ∧ TyOf P e x.2 ∧ RepL w x.2 x.1 ∧ x.2.length = P.cellsOf e)
            (fun i hi => by obtain ⟨c, t, h⟩ := key i hi; exact ⟨(c, t), h⟩)
          have hes : ((List.range len).map fun i => (D i).2).length = len := by simp
          have hget : ∀ i e', ((List.range len).map fun i => (D i).2)[i]? = some e' → i < len ∧ e' = (D i).2 := by
            intro i e' h
            rw [List.getElem?_map] at h
            have hi : i < len := by
              rcases Nat.lt_or_ge i len with h1 | h1
              · exact h1
              · rw [List.getElem?_eq_none (by simpa using h1)] at h; simp at h
            rw [List.getElem?_range hi] at h
            simp at h
            exact ⟨hi, h.symm⟩
          refine ⟨_, .slice (es := (List.range len).map fun i => (D i).2) hu ?_, ⟨?_, trivial⟩, by simp [hc1]⟩
          · intro x hx
            obtain ⟨i, hi, rfl⟩ := List.mem_map.1 hx
            exact (hD i (List.mem_range.1 hi)).2.1
          · have hrep : Rep w (.row (P.cellsOf e) ((List.range len).map fun i => (D i).2)) (.slice (some a) ((List.range len).map fun i => (D i).2).length cap) := by
              refine Rep.row (fun i j => (D i).1.getD j undef) (by rw [hes]; exact hl) hm ?_ ?_
              · intro hne
                have hcell : ∀ i, i < len → ∀ j d, (D i).2[j]? = some d → ∃ v, (D i).1[j]? = some v ∧ w.cell? ((a.add (i * P.cellsOf e)).add j) = some v := by
                  intro i hi j d hd
                  obtain ⟨v, hv, -⟩ := (hD i hi).2.2.1.get hd
                  obtain ⟨-, hl2, hc2⟩ := World.cells?_some (hD i hi).1
                  have hj : j < P.cellsOf e := by
                    have := (List.getElem?_eq_some_iff.1 hv).1
                    omega
                  exact ⟨v, hv, (hc2 j hj).trans hv⟩
                have h0 : 0 < len := by
                  rcases Nat.eq_zero_or_pos len with h0 | h0
                  · subst h0; simp at hne
                  · exact h0
                have hd0 : (D 0).2[0]? = some ((D 0).2[0]'(by rw [(hD 0 h0).2.2.2]; exact hpos)) := List.getElem?_eq_getElem _
                obtain ⟨v0, -, hv0⟩ := hcell 0 h0 0 _ hd0
                simp only [Nat.zero_mul, Addr.add, if_true] at hv0
                have hspot := World.cell?_spot hv0
                have hblk : a.block < w.heap.size := by
                  rcases Nat.lt_or_ge a.block w.heap.size with h1 | h1
                  · exact h1
                  · simp [World.cell?, Array.getElem?_eq_none h1] at hv0
                obtain ⟨ab, ao, asp⟩ := a
                have hspot : asp = none := hspot
                subst hspot
                refine ⟨ab, ao, rfl, hblk, ?_⟩
                intro i e' he' j d hd
                obtain ⟨hi, rfl⟩ := hget i e' he'
                obtain ⟨v, hv, hc3⟩ := hcell i hi j d hd
                rw [add_plain, add_plain] at hc3
                simpa [List.getD, hv] using hc3
              · intro i e' he' j d hd
                obtain ⟨hi, rfl⟩ := hget i e' he'
                obtain ⟨v, hv, hr⟩ := (hD i hi).2.2.1.get hd
                simpa [List.getD, hv] using hr
            rwa [hes] at hrep
      | struct fs =>
        simp only [Bool.and_eq_true] at hcl
        obtain ⟨hmem, hlay⟩ := hcl
        have hlay : laidFields P 0 fs.toList = some (P.cellsOf t) := by simpa using hlay
        obtain ⟨xs, n', hn, -, hlen, hxl, hf⟩ := DataW.trod_struct hu h
        obtain rfl : n = n' := by omega
        have key : ∀ i, i < fs.size → ∃ ts, ∀ f, fs[i]? = some f → TyOf P f.type ts ∧ RepL w ts ((cs.drop f.offset).take (P.cellsOf f.type)) := by
          intro i hi
          have hfi : fs[i]? = some fs[i] := Array.getElem?_eq_getElem hi
          have h1 := hf i fs[i] hfi
          rw [List.getElem?_eq_getElem (by omega)] at h1
          have hm : fs[i].type ∈ S := by
            have := Array.all_eq_true.1 hmem i hi
            simpa using this
          obtain ⟨ts, h4, h5, _⟩ := ih fs[i].type _ _ hm h1
          refine ⟨ts, fun f hf' => ?_⟩
          rw [hfi] at hf'
          cases hf'
          exact ⟨h4, h5⟩
        obtain ⟨parts, hp⟩ := choose_lt (α := List Tr) key
        have hr : RepL w ((List.range' 0 fs.toList.length).flatMap parts) (cs.drop 0) := repL_fields fs.toList 0 _ parts 0 hlay hlen (fun i f hi => by
          have hi' : fs[i]? = some f := by simpa using hi
          have hlt : i < fs.size := (Array.getElem?_eq_some_iff.1 hi').1
          simpa using (hp i hlt f hi').2)
        have hr : RepL w ((List.range fs.size).flatMap parts) cs := by simpa [List.range_eq_range'] using hr
        exact ⟨_, .struct parts hu (fun i f hi => (hp i (Array.getElem?_eq_some_iff.1 hi).1 f hi).1), hr, by rw [hr.length, hlen]⟩
      | _ => simp at hcl
end
section
variable {P : Program}
theorem TyOf.int_inv {t : TypeId} {ts : List Tr} {k : IntKind} (h : TyOf P t ts) (hu : P.underlying t = some (.int k)) : ∃ n, ts = [.leaf (.int k n)] := by
  cases h <;> simp_all
theorem TyOf.str_inv {t : TypeId} {ts : List Tr} (h : TyOf P t ts) (hu : P.underlying t = some .string) : ∃ s, ts = [.leaf (.string s)] := by
  cases h <;> simp_all
theorem TyOf.bool_inv {t : TypeId} {ts : List Tr} (h : TyOf P t ts) (hu : P.underlying t = some .bool) : ∃ b, ts = [.leaf (.bool b)] := by
  cases h <;> simp_all
theorem TyOf.slice_inv {t e : TypeId} {ts : List Tr} (h : TyOf P t ts) (hu : P.underlying t = some (.slice e)) : ∃ es, ts = [.row (P.cellsOf e) es] ∧ ∀ x ∈ es, TyOf P e x := by
  cases h with
  | slice h1 h2 => rw [hu] at h1; cases h1; exact ⟨_, rfl, h2⟩
  | _ => simp_all
theorem TyOf.struct_inv {t : TypeId} {fs : Array Field} {ts : List Tr} (h : TyOf P t ts) (hu : P.underlying t = some (.struct fs)) :
    ∃ parts : Nat → List Tr, ts = (List.range fs.size).flatMap parts ∧ ∀ i f, fs[i]? = some f → TyOf P f.type (parts i) := by
  cases h with
  | struct parts h1 h2 => rw [hu] at h1; cases h1; exact ⟨parts, rfl, h2⟩
  | _ => simp_all
end
theorem mem_part {parts : Nat → List Tr} {t : Tr} {k n : Nat} (hk : k < n) (h : parts k = [t]) : t ∈ (List.range n).flatMap parts := List.mem_flatMap.2 ⟨k, List.mem_range.2 hk, by rw [h]; exact List.mem_singleton.2 rfl⟩
theorem list_of {α : Type} {tr : α → List Tr} : ∀ {es : List (List Tr)}, (∀ e ∈ es, ∃ x, e = tr x) → ∃ l : List α, es = l.map tr
  | [], _ => ⟨[], rfl⟩
  | e :: es, h => by
    obtain ⟨x, rfl⟩ := h e (by simp)
    obtain ⟨l, rfl⟩ := list_of (es := es) fun e he => h e (by simp [he])
    exact ⟨x :: l, rfl⟩

end Go.Proofs.YtnakkelglbcecaaGreat

namespace Go.Proofs.YtnakkelglbcecaaGreat
open Go.RowKit Go.Proofs

def plainTypes : List TypeId := [3, 4, 9, 22, 24, 26, 37, 39, 41, 54, 60, 78, 161, 162, 163, 164, 166, 232, 234, 236, 238, 240, 242, 244, 245, 246, 248, 250, 277, 280, 283, 286, 299]
theorem plainClosed : closedPlain Tryz.prog plainTypes = true := by kernel_rfl
theorem cellsOf9 : Tryz.prog.cellsOf 9 = 1 := by kernel_rfl
theorem cellsOf39 : Tryz.prog.cellsOf 39 = 3 := by kernel_rfl
theorem cellsOf41 : Tryz.prog.cellsOf 41 = 4 := by kernel_rfl
theorem cellsOf166 : Tryz.prog.cellsOf 166 = 6 := by kernel_rfl
theorem cellsOf234 : Tryz.prog.cellsOf 234 = 5 := by kernel_rfl
theorem cellsOf238 : Tryz.prog.cellsOf 238 = 3 := by kernel_rfl
theorem cellsOf242 : Tryz.prog.cellsOf 242 = 12 := by kernel_rfl
theorem cellsOf248 : Tryz.prog.cellsOf 248 = 9 := by kernel_rfl
theorem cellsOf250 : Tryz.prog.cellsOf 250 = 16 := by kernel_rfl
theorem cellsOf277 : Tryz.prog.cellsOf 277 = 16 := by kernel_rfl
theorem cellsOf280 : Tryz.prog.cellsOf 280 = 2 := by kernel_rfl
theorem cellsOf283 : Tryz.prog.cellsOf 283 = 11 := by kernel_rfl
theorem cellsOf286 : Tryz.prog.cellsOf 286 = 4 := by kernel_rfl
theorem cellsOf299 : Tryz.prog.cellsOf 299 = 11 := by kernel_rfl
theorem tyof_Type_fuel : ∀ (N : Nat) (ts : List Tr), SizeOf.sizeOf ts < N → TyOf Tryz.prog 39 ts → ∃ x : GType, ts = x.tr := by
  intro N
  induction N with
  | zero => intro ts h; omega
  | succ N ih_Type =>
    intro ts hN ht
    obtain ⟨parts, rfl, h⟩ := TyOf.struct_inv ht Tryz.underlying39
    obtain ⟨v0, e0⟩ := (h 0 _ rfl).int_inv Tryz.underlying3
    obtain ⟨v1, e1⟩ := (h 1 _ rfl).str_inv Tryz.underlying9
    obtain ⟨es2, e2, m2⟩ := (h 2 _ rfl).slice_inv Tryz.underlying37
    obtain ⟨v2, rfl⟩ := list_of (tr := GType.tr) (es := es2) fun e he => ih_Type e (by have h1 := List.sizeOf_lt_of_mem he; have h2 := List.sizeOf_lt_of_mem (mem_part (k := 2) (n := 3) (by omega) e2); simp only [Tr.row.sizeOf_spec] at h2; have hN' : SizeOf.sizeOf ((List.range 3).flatMap parts) < N + 1 := hN; omega) (m2 e he)
    refine ⟨.mk v0 v1 v2, ?_⟩
    simp [List.range_succ, e0, e1, e2, GType.tr, GType.trs_map, cellsOf39]
theorem tyof_Type {ts : List Tr} (h : TyOf Tryz.prog 39 ts) : ∃ x : GType, ts = x.tr := tyof_Type_fuel _ ts (Nat.lt_succ_self _) h
theorem tyof_Expr_fuel : ∀ (N : Nat), (∀ ts, SizeOf.sizeOf ts < N → TyOf Tryz.prog 299 ts → ∃ x : GArm, ts = x.tr) ∧ (∀ ts, SizeOf.sizeOf ts < N → TyOf Tryz.prog 248 ts → ∃ x : GExpr, ts = x.tr) := by
  intro N
  induction N with
  | zero => exact ⟨fun ts h => by omega, fun ts h => by omega⟩
  | succ N ih =>
    obtain ⟨ih_Arm, ih_Expr⟩ := ih
    refine ⟨fun ts hN ht => ?_, fun ts hN ht => ?_⟩
    · obtain ⟨parts, rfl, h⟩ := TyOf.struct_inv ht Tryz.underlying299
      obtain ⟨v0, e0⟩ := (h 0 _ rfl).str_inv Tryz.underlying9
      obtain ⟨es1, e1, m1⟩ := (h 1 _ rfl).slice_inv Tryz.underlying54
      obtain ⟨v1, rfl⟩ := list_of (tr := fun s => [Tr.leaf (.string s)]) (es := es1) fun e he => (m1 e he).str_inv Tryz.underlying9
      obtain ⟨v2, e2⟩ := ih_Expr (parts 2) (by simp [List.range_succ, e0, e1] at hN; omega) (h 2 _ rfl)
      refine ⟨.mk v0 v1 v2, ?_⟩
      simp [List.range_succ, e0, e1, e2, GArm.tr, strTrs, intTrs, cellsOf9]
    · obtain ⟨parts, rfl, h⟩ := TyOf.struct_inv ht Tryz.underlying248
      obtain ⟨v0, e0⟩ := (h 0 _ rfl).int_inv Tryz.underlying3
      obtain ⟨v1, e1⟩ := (h 1 _ rfl).str_inv Tryz.underlying9
      obtain ⟨v2, e2⟩ := (h 2 _ rfl).str_inv Tryz.underlying9
      obtain ⟨v3, e3⟩ := (h 3 _ rfl).int_inv Tryz.underlying3
      obtain ⟨v4, e4⟩ := tyof_Type (h 4 _ rfl)
      obtain ⟨es5, e5, m5⟩ := (h 5 _ rfl).slice_inv Tryz.underlying245
      obtain ⟨v5, rfl⟩ := list_of (tr := GExpr.tr) (es := es5) fun e he => ih_Expr e (by have h1 := List.sizeOf_lt_of_mem he; have h2 := List.sizeOf_lt_of_mem (mem_part (k := 5) (n := 7) (by omega) e5); simp only [Tr.row.sizeOf_spec] at h2; have hN' : SizeOf.sizeOf ((List.range 7).flatMap parts) < N + 1 := hN; omega) (m5 e he)
      obtain ⟨es6, e6, m6⟩ := (h 6 _ rfl).slice_inv Tryz.underlying246
      obtain ⟨v6, rfl⟩ := list_of (tr := GArm.tr) (es := es6) fun e he => ih_Arm e (by have h1 := List.sizeOf_lt_of_mem he; have h2 := List.sizeOf_lt_of_mem (mem_part (k := 6) (n := 7) (by omega) e6); simp only [Tr.row.sizeOf_spec] at h2; have hN' : SizeOf.sizeOf ((List.range 7).flatMap parts) < N + 1 := hN; omega) (m6 e he)
      refine ⟨.mk v0 v1 v2 v3 v4 v5 v6, ?_⟩
      simp [List.range_succ, e0, e1, e2, e3, e4, e5, e6, GExpr.tr, GExpr.trs_map, GArm.trs_map, cellsOf248, cellsOf299]
theorem tyof_Expr {ts : List Tr} (h : TyOf Tryz.prog 248 ts) : ∃ x : GExpr, ts = x.tr := (tyof_Expr_fuel _).2 ts (Nat.lt_succ_self _) h
theorem tyof_Signature {ts : List Tr} (ht : TyOf Tryz.prog 277 ts) : ∃ x : GSignature, ts = x.tr := by
  obtain ⟨parts, rfl, h⟩ := TyOf.struct_inv ht Tryz.underlying277
  obtain ⟨v0, e0⟩ := (h 0 _ rfl).str_inv Tryz.underlying9
  obtain ⟨es1, e1, m1⟩ := (h 1 _ rfl).slice_inv Tryz.underlying37
  obtain ⟨v1, rfl⟩ := list_of (tr := GType.tr) (es := es1) fun e he => tyof_Type (m1 e he)
  obtain ⟨v2, e2⟩ := tyof_Type (h 2 _ rfl)
  obtain ⟨v3, e3⟩ := (h 3 _ rfl).bool_inv Tryz.underlying4
  obtain ⟨es4, e4, m4⟩ := (h 4 _ rfl).slice_inv Tryz.underlying54
  obtain ⟨v4, rfl⟩ := list_of (tr := fun s => [Tr.leaf (.string s)]) (es := es4) fun e he => (m4 e he).str_inv Tryz.underlying9
  obtain ⟨v5, e5⟩ := tyof_Expr (h 5 _ rfl)
  refine ⟨.mk v0 v1 v2 v3 v4 v5, ?_⟩
  simp [List.range_succ, e0, e1, e2, e3, e4, e5, GSignature.tr, GType.trs_map, strTrs, intTrs, cellsOf9, cellsOf39]
theorem tyof_Trait {ts : List Tr} (ht : TyOf Tryz.prog 234 ts) : ∃ x : GTrait, ts = x.tr := by
  obtain ⟨parts, rfl, h⟩ := TyOf.struct_inv ht Tryz.underlying234
  obtain ⟨v0, e0⟩ := (h 0 _ rfl).str_inv Tryz.underlying9
  obtain ⟨es1, e1, m1⟩ := (h 1 _ rfl).slice_inv Tryz.underlying54
  obtain ⟨v1, rfl⟩ := list_of (tr := fun s => [Tr.leaf (.string s)]) (es := es1) fun e he => (m1 e he).str_inv Tryz.underlying9
  obtain ⟨v2, e2⟩ := (h 2 _ rfl).bool_inv Tryz.underlying4
  obtain ⟨v3, e3⟩ := (h 3 _ rfl).bool_inv Tryz.underlying4
  obtain ⟨es4, e4, m4⟩ := (h 4 _ rfl).slice_inv Tryz.underlying232
  obtain ⟨v4, rfl⟩ := list_of (tr := GSignature.tr) (es := es4) fun e he => tyof_Signature (m4 e he)
  refine ⟨.mk v0 v1 v2 v3 v4, ?_⟩
  simp [List.range_succ, e0, e1, e2, e3, e4, GTrait.tr, GSignature.trs_map, strTrs, intTrs, cellsOf9, cellsOf277]
theorem tyof_Constructor {ts : List Tr} (ht : TyOf Tryz.prog 280 ts) : ∃ x : GConstructor, ts = x.tr := by
  obtain ⟨parts, rfl, h⟩ := TyOf.struct_inv ht Tryz.underlying280
  obtain ⟨v0, e0⟩ := (h 0 _ rfl).str_inv Tryz.underlying9
  obtain ⟨es1, e1, m1⟩ := (h 1 _ rfl).slice_inv Tryz.underlying37
  obtain ⟨v1, rfl⟩ := list_of (tr := GType.tr) (es := es1) fun e he => tyof_Type (m1 e he)
  refine ⟨.mk v0 v1, ?_⟩
  simp [List.range_succ, e0, e1, GConstructor.tr, GType.trs_map, cellsOf39]
theorem tyof_DataType {ts : List Tr} (ht : TyOf Tryz.prog 238 ts) : ∃ x : GDataType, ts = x.tr := by
  obtain ⟨parts, rfl, h⟩ := TyOf.struct_inv ht Tryz.underlying238
  obtain ⟨v0, e0⟩ := (h 0 _ rfl).str_inv Tryz.underlying9
  obtain ⟨es1, e1, m1⟩ := (h 1 _ rfl).slice_inv Tryz.underlying54
  obtain ⟨v1, rfl⟩ := list_of (tr := fun s => [Tr.leaf (.string s)]) (es := es1) fun e he => (m1 e he).str_inv Tryz.underlying9
  obtain ⟨es2, e2, m2⟩ := (h 2 _ rfl).slice_inv Tryz.underlying236
  obtain ⟨v2, rfl⟩ := list_of (tr := GConstructor.tr) (es := es2) fun e he => tyof_Constructor (m2 e he)
  refine ⟨.mk v0 v1 v2, ?_⟩
  simp [List.range_succ, e0, e1, e2, GDataType.tr, GConstructor.trs_map, strTrs, intTrs, cellsOf9, cellsOf280]
theorem tyof_Bound {ts : List Tr} (ht : TyOf Tryz.prog 41 ts) : ∃ x : GBound, ts = x.tr := by
  obtain ⟨parts, rfl, h⟩ := TyOf.struct_inv ht Tryz.underlying41
  obtain ⟨v0, e0⟩ := (h 0 _ rfl).str_inv Tryz.underlying9
  obtain ⟨v1, e1⟩ := tyof_Type (h 1 _ rfl)
  refine ⟨.mk v0 v1, ?_⟩
  simp [List.range_succ, e0, e1, GBound.tr]
theorem tyof_Method {ts : List Tr} (ht : TyOf Tryz.prog 283 ts) : ∃ x : GMethod, ts = x.tr := by
  obtain ⟨parts, rfl, h⟩ := TyOf.struct_inv ht Tryz.underlying283
  obtain ⟨v0, e0⟩ := (h 0 _ rfl).str_inv Tryz.underlying9
  obtain ⟨es1, e1, m1⟩ := (h 1 _ rfl).slice_inv Tryz.underlying54
  obtain ⟨v1, rfl⟩ := list_of (tr := fun s => [Tr.leaf (.string s)]) (es := es1) fun e he => (m1 e he).str_inv Tryz.underlying9
  obtain ⟨v2, e2⟩ := tyof_Expr (h 2 _ rfl)
  refine ⟨.mk v0 v1 v2, ?_⟩
  simp [List.range_succ, e0, e1, e2, GMethod.tr, strTrs, intTrs, cellsOf9]
theorem tyof_Instance {ts : List Tr} (ht : TyOf Tryz.prog 242 ts) : ∃ x : GInstance, ts = x.tr := by
  obtain ⟨parts, rfl, h⟩ := TyOf.struct_inv ht Tryz.underlying242
  obtain ⟨v0, e0⟩ := (h 0 _ rfl).str_inv Tryz.underlying9
  obtain ⟨es1, e1, m1⟩ := (h 1 _ rfl).slice_inv Tryz.underlying54
  obtain ⟨v1, rfl⟩ := list_of (tr := fun s => [Tr.leaf (.string s)]) (es := es1) fun e he => (m1 e he).str_inv Tryz.underlying9
  obtain ⟨v2, e2⟩ := tyof_Type (h 2 _ rfl)
  obtain ⟨es3, e3, m3⟩ := (h 3 _ rfl).slice_inv Tryz.underlying78
  obtain ⟨v3, rfl⟩ := list_of (tr := GBound.tr) (es := es3) fun e he => tyof_Bound (m3 e he)
  obtain ⟨v4, e4⟩ := (h 4 _ rfl).bool_inv Tryz.underlying4
  obtain ⟨v5, e5⟩ := (h 5 _ rfl).bool_inv Tryz.underlying4
  obtain ⟨v6, e6⟩ := tyof_Type (h 6 _ rfl)
  obtain ⟨es7, e7, m7⟩ := (h 7 _ rfl).slice_inv Tryz.underlying240
  obtain ⟨v7, rfl⟩ := list_of (tr := GMethod.tr) (es := es7) fun e he => tyof_Method (m7 e he)
  refine ⟨.mk v0 v1 v2 v3 v4 v5 v6 v7, ?_⟩
  simp [List.range_succ, e0, e1, e2, e3, e4, e5, e6, e7, GInstance.tr, GBound.trs_map, GMethod.trs_map, strTrs, intTrs, cellsOf9, cellsOf41, cellsOf283]
theorem tyof_Param {ts : List Tr} (ht : TyOf Tryz.prog 286 ts) : ∃ x : GParam, ts = x.tr := by
  obtain ⟨parts, rfl, h⟩ := TyOf.struct_inv ht Tryz.underlying286
  obtain ⟨v0, e0⟩ := (h 0 _ rfl).str_inv Tryz.underlying9
  obtain ⟨v1, e1⟩ := tyof_Type (h 1 _ rfl)
  refine ⟨.mk v0 v1, ?_⟩
  simp [List.range_succ, e0, e1, GParam.tr]
theorem tyof_Function {ts : List Tr} (ht : TyOf Tryz.prog 250 ts) : ∃ x : GFunction, ts = x.tr := by
  obtain ⟨parts, rfl, h⟩ := TyOf.struct_inv ht Tryz.underlying250
  obtain ⟨v0, e0⟩ := (h 0 _ rfl).str_inv Tryz.underlying9
  obtain ⟨es1, e1, m1⟩ := (h 1 _ rfl).slice_inv Tryz.underlying54
  obtain ⟨v1, rfl⟩ := list_of (tr := fun s => [Tr.leaf (.string s)]) (es := es1) fun e he => (m1 e he).str_inv Tryz.underlying9
  obtain ⟨es2, e2, m2⟩ := (h 2 _ rfl).slice_inv Tryz.underlying78
  obtain ⟨v2, rfl⟩ := list_of (tr := GBound.tr) (es := es2) fun e he => tyof_Bound (m2 e he)
  obtain ⟨es3, e3, m3⟩ := (h 3 _ rfl).slice_inv Tryz.underlying244
  obtain ⟨v3, rfl⟩ := list_of (tr := GParam.tr) (es := es3) fun e he => tyof_Param (m3 e he)
  obtain ⟨v4, e4⟩ := tyof_Type (h 4 _ rfl)
  obtain ⟨v5, e5⟩ := tyof_Expr (h 5 _ rfl)
  refine ⟨.mk v0 v1 v2 v3 v4 v5, ?_⟩
  simp [List.range_succ, e0, e1, e2, e3, e4, e5, GFunction.tr, GBound.trs_map, GParam.trs_map, strTrs, intTrs, cellsOf9, cellsOf41, cellsOf286]
theorem tyof_Package {ts : List Tr} (ht : TyOf Tryz.prog 166 ts) : ∃ x : GPackage, ts = x.tr := by
  obtain ⟨parts, rfl, h⟩ := TyOf.struct_inv ht Tryz.underlying166
  obtain ⟨v0, e0⟩ := (h 0 _ rfl).str_inv Tryz.underlying9
  obtain ⟨es1, e1, m1⟩ := (h 1 _ rfl).slice_inv Tryz.underlying54
  obtain ⟨v1, rfl⟩ := list_of (tr := fun s => [Tr.leaf (.string s)]) (es := es1) fun e he => (m1 e he).str_inv Tryz.underlying9
  obtain ⟨es2, e2, m2⟩ := (h 2 _ rfl).slice_inv Tryz.underlying161
  obtain ⟨v2, rfl⟩ := list_of (tr := GTrait.tr) (es := es2) fun e he => tyof_Trait (m2 e he)
  obtain ⟨es3, e3, m3⟩ := (h 3 _ rfl).slice_inv Tryz.underlying162
  obtain ⟨v3, rfl⟩ := list_of (tr := GDataType.tr) (es := es3) fun e he => tyof_DataType (m3 e he)
  obtain ⟨es4, e4, m4⟩ := (h 4 _ rfl).slice_inv Tryz.underlying163
  obtain ⟨v4, rfl⟩ := list_of (tr := GInstance.tr) (es := es4) fun e he => tyof_Instance (m4 e he)
  obtain ⟨es5, e5, m5⟩ := (h 5 _ rfl).slice_inv Tryz.underlying164
  obtain ⟨v5, rfl⟩ := list_of (tr := GFunction.tr) (es := es5) fun e he => tyof_Function (m5 e he)
  refine ⟨.mk v0 v1 v2 v3 v4 v5, ?_⟩
  simp [List.range_succ, e0, e1, e2, e3, e4, e5, GPackage.tr, GTrait.trs_map, GDataType.trs_map, GInstance.trs_map, GFunction.trs_map, strTrs, intTrs, cellsOf9, cellsOf234, cellsOf238, cellsOf242, cellsOf250]
theorem tyof_Program {ts : List Tr} (ht : TyOf Tryz.prog 24 ts) : ∃ x : GProgram, ts = x.tr := by
  obtain ⟨parts, rfl, h⟩ := TyOf.struct_inv ht Tryz.underlying24
  obtain ⟨es0, e0, m0⟩ := (h 0 _ rfl).slice_inv Tryz.underlying22
  obtain ⟨v0, rfl⟩ := list_of (tr := GPackage.tr) (es := es0) fun e he => tyof_Package (m0 e he)
  refine ⟨.mk v0, ?_⟩
  simp [List.range_succ, e0, GProgram.tr, GPackage.trs_map, cellsOf166]
end Go.Proofs.YtnakkelglbcecaaGreat

namespace Go.Proofs.YtnakkelglbcecaaGreat
open Go.RowKit Go.Proofs

def SzC (f : FuncId) (ts : List Tr) : Prop := ∀ (cs : List Value) (left : Int) (w : World), RepL w ts cs → 0 ≤ left → left ≤ 1048576 →
  Calls Tryz.prog f #[.agg ⟨cs⟩, .int .i64 left] w fun e w' => ∃ r : Int, e = .returned (.int .i64 r) ∧ Ext w w' ∧ r ≤ left ∧ -1 ≤ r ∧ (0 ≤ r → r + Tr.bulkL ts ≤ left)
def SzSC (f : FuncId) (sz : Nat) (es : List (List Tr)) : Prop := ∀ (s : Value) (left : Int) (w : World), Rep w (.row sz es) s → 0 ≤ left → left ≤ 1048576 →
  Calls Tryz.prog f #[s, .int .i64 left] w fun e w' => ∃ r : Int, e = .returned (.int .i64 r) ∧ Ext w w' ∧ r ≤ left ∧ -1 ≤ r ∧ (0 ≤ r → r + Tr.bulk (.row sz es) ≤ left)
def ToC (f : FuncId) (ts : List Tr) : Prop := ∀ (cs : List Value) (w : World), RepL w ts cs → Tr.bulkL ts ≤ 68719476736 →
  Calls Tryz.prog f #[.agg ⟨cs⟩] w fun e w' => ∃ cs', e = .returned (.agg ⟨cs'⟩) ∧ Ext w w' ∧ OwnL w' ts cs' (Between w w')
def ToSC (f : FuncId) (sz : Nat) (es : List (List Tr)) : Prop := ∀ (s : Value) (w : World), Rep w (.row sz es) s → es.length + Tr.bulkAll es ≤ 68719476736 →
  Calls Tryz.prog f #[s] w fun e w' => ∃ s', e = .returned s' ∧ Ext w w' ∧ Own w' (.row sz es) s' (Between w w')
def EqC (f : FuncId) (ts : List Tr) : Prop := ∀ (cs ds : List Value) (w : World), RepL w ts cs → RepL w ts ds →
  Calls Tryz.prog f #[.agg ⟨cs⟩, .agg ⟨ds⟩] w fun e w' => e = .returned (.bool true) ∧ Ext w w'
def EqSC (f : FuncId) (sz : Nat) (es : List (List Tr)) : Prop := ∀ (s u : Value) (w : World), Rep w (.row sz es) s → Rep w (.row sz es) u →
  Calls Tryz.prog f #[s, u] w fun e w' => e = .returned (.bool true) ∧ Ext w w'

theorem RepL.sLeaf {w : World} {v : Value} {us : List Tr} {cs : List Value} (h : RepL w ([.leaf v] ++ us) cs) : ∃ r, cs = v :: r ∧ Hid (LeafOk v) ∧ RepL w us r := by
  obtain ⟨b, r, rfl, g, n⟩ := RepL.split h
  obtain ⟨y, rfl⟩ := list1 g.length.symm
  obtain ⟨rfl, k⟩ := g.1.leaf_eq
  exact ⟨r, rfl, k, n⟩
theorem RepL.sRow {w : World} {sz : Nat} {es : List (List Tr)} {us : List Tr} {cs : List Value} (h : RepL w ([.row sz es] ++ us) cs) : ∃ a c r, cs = .slice a es.length c :: r ∧ Hid (RepL w [.row sz es] [.slice a es.length c]) ∧ RepL w us r := by
  obtain ⟨b, r, rfl, g, n⟩ := RepL.split h
  obtain ⟨y, rfl⟩ := list1 g.length.symm
  obtain ⟨a, c, rfl, -, -⟩ := g.1.shape
  exact ⟨a, c, r, rfl, g, n⟩
theorem RepL.sAgg3 {w : World} {ts us : List Tr} {cs : List Value} (h : RepL w (ts ++ us) cs) (l : ts.length = 3) : ∃ x0 x1 x2 r, cs = x0 :: x1 :: x2 :: r ∧ Hid (RepL w ts [x0, x1, x2]) ∧ RepL w us r := by
  obtain ⟨b, r, rfl, g, n⟩ := RepL.split h
  obtain ⟨x0, x1, x2, rfl⟩ := list3 (g.length.symm.trans l)
  exact ⟨x0, x1, x2, r, rfl, g, n⟩
theorem RepL.sAgg9 {w : World} {ts us : List Tr} {cs : List Value} (h : RepL w (ts ++ us) cs) (l : ts.length = 9) : ∃ x0 x1 x2 x3 x4 x5 x6 x7 x8 r, cs = x0 :: x1 :: x2 :: x3 :: x4 :: x5 :: x6 :: x7 :: x8 :: r ∧ Hid (RepL w ts [x0, x1, x2, x3, x4, x5, x6, x7, x8]) ∧ RepL w us r := by
  obtain ⟨b, r, rfl, g, n⟩ := RepL.split h
  obtain ⟨x0, x1, x2, x3, x4, x5, x6, x7, x8, rfl⟩ := list9 (g.length.symm.trans l)
  exact ⟨x0, x1, x2, x3, x4, x5, x6, x7, x8, r, rfl, g, n⟩

theorem isz3 : (Tryz.prog.info? 3).map (·.size) = some 1 := by kernel_rfl
theorem isz4 : (Tryz.prog.info? 4).map (·.size) = some 1 := by kernel_rfl
theorem isz9 : (Tryz.prog.info? 9).map (·.size) = some 1 := by kernel_rfl
theorem iszb9 : (Tryz.prog.info? 9).map (fun i => (i.zero.isSome, i.size, i.bytes)) = some (true, 1, 16) := by kernel_rfl
theorem isz24 : (Tryz.prog.info? 24).map (·.size) = some 1 := by kernel_rfl
theorem isz29 : (Tryz.prog.info? 29).map (·.size) = some 1 := by kernel_rfl
theorem isz31 : (Tryz.prog.info? 31).map (·.size) = some 1 := by kernel_rfl
theorem isz39 : (Tryz.prog.info? 39).map (·.size) = some 3 := by kernel_rfl
theorem isz41 : (Tryz.prog.info? 41).map (·.size) = some 4 := by kernel_rfl
theorem isz45 : (Tryz.prog.info? 45).map (·.size) = some 1 := by kernel_rfl
theorem isz47 : (Tryz.prog.info? 47).map (·.size) = some 3 := by kernel_rfl
theorem iszb47 : (Tryz.prog.info? 47).map (fun i => (i.zero.isSome, i.size, i.bytes)) = some (true, 3, 48) := by kernel_rfl
theorem isz49 : (Tryz.prog.info? 49).map (·.size) = some 4 := by kernel_rfl
theorem iszb49 : (Tryz.prog.info? 49).map (fun i => (i.zero.isSome, i.size, i.bytes)) = some (true, 4, 64) := by kernel_rfl
theorem isz54 : (Tryz.prog.info? 54).map (·.size) = some 1 := by kernel_rfl
theorem isz82 : (Tryz.prog.info? 82).map (·.size) = some 1 := by kernel_rfl
theorem isz92 : (Tryz.prog.info? 92).map (·.size) = some 1 := by kernel_rfl
theorem isz94 : (Tryz.prog.info? 94).map (·.size) = some 5 := by kernel_rfl
theorem iszb94 : (Tryz.prog.info? 94).map (fun i => (i.zero.isSome, i.size, i.bytes)) = some (true, 5, 72) := by kernel_rfl
theorem isz99 : (Tryz.prog.info? 99).map (·.size) = some 1 := by kernel_rfl
theorem isz100 : (Tryz.prog.info? 100).map (·.size) = some 1 := by kernel_rfl
theorem isz101 : (Tryz.prog.info? 101).map (·.size) = some 1 := by kernel_rfl
theorem isz103 : (Tryz.prog.info? 103).map (·.size) = some 9 := by kernel_rfl
theorem iszb103 : (Tryz.prog.info? 103).map (fun i => (i.zero.isSome, i.size, i.bytes)) = some (true, 9, 144) := by kernel_rfl
theorem isz105 : (Tryz.prog.info? 105).map (·.size) = some 16 := by kernel_rfl
theorem iszb105 : (Tryz.prog.info? 105).map (fun i => (i.zero.isSome, i.size, i.bytes)) = some (true, 16, 280) := by kernel_rfl
theorem isz111 : (Tryz.prog.info? 111).map (·.size) = some 1 := by kernel_rfl
theorem isz113 : (Tryz.prog.info? 113).map (·.size) = some 12 := by kernel_rfl
theorem iszb113 : (Tryz.prog.info? 113).map (fun i => (i.zero.isSome, i.size, i.bytes)) = some (true, 12, 192) := by kernel_rfl
theorem isz121 : (Tryz.prog.info? 121).map (·.size) = some 1 := by kernel_rfl
theorem isz122 : (Tryz.prog.info? 122).map (·.size) = some 1 := by kernel_rfl
theorem isz123 : (Tryz.prog.info? 123).map (·.size) = some 1 := by kernel_rfl
theorem isz124 : (Tryz.prog.info? 124).map (·.size) = some 1 := by kernel_rfl
theorem isz126 : (Tryz.prog.info? 126).map (·.size) = some 6 := by kernel_rfl
theorem iszb126 : (Tryz.prog.info? 126).map (fun i => (i.zero.isSome, i.size, i.bytes)) = some (true, 6, 136) := by kernel_rfl
theorem isz166 : (Tryz.prog.info? 166).map (·.size) = some 6 := by kernel_rfl
theorem isz169 : (Tryz.prog.info? 169).map (·.size) = some 1 := by kernel_rfl
theorem isz171 : (Tryz.prog.info? 171).map (·.size) = some 3 := by kernel_rfl
theorem iszb171 : (Tryz.prog.info? 171).map (fun i => (i.zero.isSome, i.size, i.bytes)) = some (true, 3, 64) := by kernel_rfl
theorem isz191 : (Tryz.prog.info? 191).map (·.size) = some 16 := by kernel_rfl
theorem iszb191 : (Tryz.prog.info? 191).map (fun i => (i.zero.isSome, i.size, i.bytes)) = some (true, 16, 264) := by kernel_rfl
theorem isz199 : (Tryz.prog.info? 199).map (·.size) = some 4 := by kernel_rfl
theorem iszb199 : (Tryz.prog.info? 199).map (fun i => (i.zero.isSome, i.size, i.bytes)) = some (true, 4, 64) := by kernel_rfl
theorem isz229 : (Tryz.prog.info? 229).map (·.size) = some 11 := by kernel_rfl
theorem iszb229 : (Tryz.prog.info? 229).map (fun i => (i.zero.isSome, i.size, i.bytes)) = some (true, 11, 184) := by kernel_rfl
theorem isz234 : (Tryz.prog.info? 234).map (·.size) = some 5 := by kernel_rfl
theorem isz238 : (Tryz.prog.info? 238).map (·.size) = some 3 := by kernel_rfl
theorem isz242 : (Tryz.prog.info? 242).map (·.size) = some 12 := by kernel_rfl
theorem isz248 : (Tryz.prog.info? 248).map (·.size) = some 9 := by kernel_rfl
theorem isz250 : (Tryz.prog.info? 250).map (·.size) = some 16 := by kernel_rfl
theorem isz258 : (Tryz.prog.info? 258).map (·.size) = some 2 := by kernel_rfl
theorem iszb258 : (Tryz.prog.info? 258).map (fun i => (i.zero.isSome, i.size, i.bytes)) = some (true, 2, 40) := by kernel_rfl
theorem isz260 : (Tryz.prog.info? 260).map (·.size) = some 11 := by kernel_rfl
theorem iszb260 : (Tryz.prog.info? 260).map (fun i => (i.zero.isSome, i.size, i.bytes)) = some (true, 11, 184) := by kernel_rfl
theorem isz277 : (Tryz.prog.info? 277).map (·.size) = some 16 := by kernel_rfl
theorem isz280 : (Tryz.prog.info? 280).map (·.size) = some 2 := by kernel_rfl
theorem isz283 : (Tryz.prog.info? 283).map (·.size) = some 11 := by kernel_rfl
theorem isz286 : (Tryz.prog.info? 286).map (·.size) = some 4 := by kernel_rfl
theorem isz299 : (Tryz.prog.info? 299).map (·.size) = some 11 := by kernel_rfl
end Go.Proofs.YtnakkelglbcecaaGreat

namespace Go.Proofs.YtnakkelglbcecaaGreat
open Go.RowKit Go.Proofs

end Go.Proofs.YtnakkelglbcecaaGreat

namespace Go.Proofs.YtnakkelglbcecaaGreat
open Go.RowKit Go.Proofs

set_option maxRecDepth 100000 in
set_option maxHeartbeats 1000000 in
theorem szType_of (v0 : Int) (v1 : ByteArray) (es2 : List (List Tr)) (h2 : SzSC 101 3 es2) : SzC 43 ([.leaf (.int .i64 v0)] ++ ([.leaf (.string v1)] ++ ([.row 3 es2] ++ ([])))) := by
  intro cs left w hr hl0 hl1
  obtain ⟨r0, rfl, K0, n0⟩ := RepL.sLeaf hr
  obtain ⟨r1, rfl, K1, n1⟩ := RepL.sLeaf n0
  obtain ⟨a2, c2, r2, rfl, G2, n2⟩ := RepL.sRow n1
  obtain rfl := RepL.nil_eq n2
  clear hr n0 n1 n2
  have q1 : v1.size ≤ 9223372036854775807 := by have := K1.out; simp only [LeafOk, maxLen] at this; omega
  go_enter Tryz.func43, Tryz.ntmps43
  go_wp2_with fail
  · go_ret
    exact ⟨-1, rfl, (.alloc (.refl _) _), by omega, by omega, by omega⟩
  refine (h2 _ _ _ (G2.out.1.ext (.alloc (.refl _) _)) (by omega) (by omega)).mono ?_; rintro e w2 ⟨r2, rfl, hw2, ra2, rb2, rc2⟩
  have HW2 := Lib.hid hw2
  have HR2 := Lib.hid rc2
  have ob2 := (OB.new w _ _).ext hw2
  have OBH := Lib.hid ob2
  have ce2 := ob2.cell
  clear hw2 rc2 ob2
  go_wp2_with fail
  · go_ret
    exact ⟨-1, rfl, (Ext.trans (.alloc (.refl _) _) HW2.out), by omega, by omega, by omega⟩
  go_ret
  refine ⟨_, rfl, (Ext.trans (.alloc (.refl _) _) HW2.out), by omega, by omega, fun hp => ?_⟩
  have e2 := HR2.out (by omega)
  simp only [Tr.bulkL_append, Tr.bulkL, Tr.bulk]
  simp only [Tr.bulk] at e2
  omega

set_option maxRecDepth 100000 in
set_option maxHeartbeats 1000000 in
theorem toType_of (v0 : Int) (v1 : ByteArray) (es2 : List (List Tr)) (h2 : ToSC 104 3 es2) : ToC 45 ([.leaf (.int .i64 v0)] ++ ([.leaf (.string v1)] ++ ([.row 3 es2] ++ ([])))) := by
  intro cs w hr hbk
  simp only [Tr.bulkL_append, Tr.bulkL, Tr.bulk] at hbk
  obtain ⟨r0, rfl, K0, n0⟩ := RepL.sLeaf hr
  obtain ⟨r1, rfl, K1, n1⟩ := RepL.sLeaf n0
  obtain ⟨a2, c2, r2, rfl, G2, n2⟩ := RepL.sRow n1
  obtain rfl := RepL.nil_eq n2
  clear hr n0 n1 n2
  go_enter Tryz.func45, Tryz.ntmps45
  go_wp2_with fail
  refine (h2 _ _ (G2.out.1.ext (.alloc (.alloc (.alloc (.refl _) _) _) _)) (by omega)).mono ?_; rintro e w2 ⟨d2, rfl, hw2, ho2⟩
  obtain ⟨da2, dc2, rfl, -, -⟩ := ho2.rep.shape
  have HW2 := Lib.hid hw2
  have HO2 := Lib.hid ho2
  have ob2 := (Three.new w _ _ _ _ _ _).ext hw2
  have OBHw2 := Lib.hid ob2
  have cew2 := ob2.o0.cell
  have hzw2 : w.heap.size < w2.heap.size := ob2.o0.lt
  clear hw2 ob2 ho2
  have EW2 := Lib.hid (Ext.trans (.alloc (.alloc (.alloc (.refl _) _) _) _) HW2.out)
  have hone : Hid (∀ v ∈ ([.int .i64 v0, .string v1, .slice da2 es2.length dc2] : List Value), v.oneCell' = true) := by
    intro v hv
    simp only [List.mem_cons, List.not_mem_nil, or_false] at hv
    rcases hv with rfl | rfl | rfl <;> first | rfl
  go_wp2_with (first
    | (refine wpList_store_cell rfl 45 _ _ rfl (w.heap.size + 1 + 1) 2 rfl (.slice da2 es2.length dc2) rfl rfl 47 _ OBHw2.out.o2 isz45 (by simp [splice]) rfl ?_; intro u2 hou2 hgu2 hzu2; have OBHu2 := Lib.hid (OBHw2.out.grown hgu2 hou2 (by omega) (by omega)); have HGu2 := Lib.hid hgu2; have ceu2 := OBHu2.out.o0.cell; have hqu2 : w.heap.size < u2.heap.size := OBHu2.out.o0.lt; have EGu2 := Lib.hid (grown_ext EW2.out HGu2.out (by omega)); clear hou2 hgu2 hzu2 OBHw2 cew2)
    | (refine wpList_load_rep rfl 47 _ rfl (w.heap.size + 1 + 1) 0 rfl [.int .i64 v0, .string v1, .slice da2 es2.length dc2] _ Tryz.underlying47 isz47 (fun j v hv => by rw [OBHu2.out.o2.cell, Nat.zero_add]; simpa [splice] using hv) ?_)
    | (refine wpList_store_rep rfl 47 _ _ rfl (w.heap.size + 1) 0 rfl [.int .i64 v0, .string v1, .slice da2 es2.length dc2] rfl 47 _ OBHu2.out.o1 isz47 (by simp) hone.out ?_; intro wz hoz hgz hzz; have HOZ := Lib.hid hoz; have HGZ := Lib.hid hgz; clear hoz hgz hzz))
  have HOF : OB wz (w.heap.size + 1) 47 ⟨[.int .i64 v0, .string v1, .slice da2 es2.length dc2]⟩ := HOZ.out
  refine bodyPost_ret (results_cell_row Tryz.results45 _ _ (w.heap.size + 1) 47 ⟨[.int .i64 v0, .string v1, .slice da2 es2.length dc2]⟩ _ _ rfl HOF Tryz.underlying47 rfl isz47) rfl ⟨[.int .i64 v0, .string v1, .slice da2 es2.length dc2], rfl, (grown_ext EGu2.out HGZ.out (by omega)), ?_⟩
  have sw2 := HW2.out.size
  have su2 := HGu2.out.size
  have swz := HGZ.out.size
  simp only [World.size_alloc] at sw2
  have KPz : Keeps (w.heap.size + 1 + 1 + 1) u2 wz := Keeps.of_grown HGZ.out (by omega)
  have KPu2 : Keeps (w.heap.size + 1 + 1 + 1) w2 wz := Keeps.trans (Keeps.of_grown HGu2.out (by omega)) KPz
  have ow2 := HO2.out.keeps KPu2 (by intro x hx; simp only [Between, World.size_alloc] at hx; omega)
  have hall := OwnL.cons_leaf K0.out (OwnL.cons_leaf K1.out (OwnL.append (OwnL.one ow2) (OwnL.nil wz (fun _ => False)) (by intro x hx hy; simp only [Between, World.size_alloc, or_false] at hx hy <;> omega)))
  exact hall.mono (by intro x hx; simp only [Between, World.size_alloc, or_false] at hx ⊢; omega)

set_option maxRecDepth 100000 in
set_option maxHeartbeats 1000000 in
theorem eqType_of (v0 : Int) (v1 : ByteArray) (es2 : List (List Tr)) (h2 : EqSC 107 3 es2) : EqC 47 ([.leaf (.int .i64 v0)] ++ ([.leaf (.string v1)] ++ ([.row 3 es2] ++ ([])))) := by
  intro cs ds w hr hr'
  obtain ⟨r0, rfl, K0, n0⟩ := RepL.sLeaf hr
  obtain ⟨r1, rfl, K1, n1⟩ := RepL.sLeaf n0
  obtain ⟨a2, c2, r2, rfl, G2, n2⟩ := RepL.sRow n1
  obtain rfl := RepL.nil_eq n2
  clear hr n0 n1 n2
  obtain ⟨zr0, rfl, zK0, zn0⟩ := RepL.sLeaf hr'
  obtain ⟨zr1, rfl, zK1, zn1⟩ := RepL.sLeaf zn0
  obtain ⟨za2, zc2, zr2, rfl, zG2, zn2⟩ := RepL.sRow zn1
  obtain rfl := RepL.nil_eq zn2
  clear hr' zn0 zn1 zn2
  go_enter Tryz.func47, Tryz.ntmps47
  go_wp2_with fail
  refine (h2 _ _ _ (G2.out.1.ext (.alloc (.alloc (.refl _) _) _)) (zG2.out.1.ext (.alloc (.alloc (.refl _) _) _))).mono ?_; rintro e w2 ⟨rfl, hw2⟩
  have HW2 := Lib.hid hw2
  have ob2 := (Two.new w _ _ _ _).ext hw2
  have OBH := Lib.hid ob2
  have ce2 := ob2.o0.cell
  have cf2 := ob2.o1.cell
  clear hw2 ob2
  go_wp2_with fail
  go_ret
  exact ⟨rfl, (Ext.trans (.alloc (.alloc (.refl _) _) _) HW2.out)⟩

set_option maxRecDepth 100000 in
set_option maxHeartbeats 1000000 in
theorem szTypeS_of (es : List (List Tr)) (h5 : ∀ e ∈ es, e.length = 3) (H : ∀ e ∈ es, SzC 43 e) : SzSC 101 3 es := by
  intro s left w hs h0 h1
  obtain ⟨a, cap, rfl, hl, hm⟩ := hs.shape
  unfold maxLen at hm
  have HS := Lib.hid hs
  have HH := Lib.hid H
  have H5 := Lib.hid h5
  clear hs H h5
  go_enter Tryz.func101, Tryz.ntmps101
  go_wp2_with fail
  · go_ret
    exact ⟨-1, rfl, .refl _, by omega, by omega, by omega⟩
  go_loopw [1, 5] (fun l i wr => ∃ (k : Nat) (r : Int), k ≤ es.length ∧ i = .int .i64 k ∧ l = .int .i64 r ∧ Ext w wr ∧ 0 ≤ r ∧ r + es.length + Tr.bulkAll (es.take k) ≤ left) (fun _ i _ => es.length - (intOf i).toNat)
  case atStart => exact ⟨0, _, Nat.zero_le _, rfl, rfl, .refl _, by omega, by simp [Tr.bulkAll]⟩
  case round =>
    obtain ⟨k, r, hk, rfl, rfl, hw, hr0, hrb⟩ := hrel
    by_cases hlt : k < es.length
    · obtain ⟨b, off, cs, rfl, hb, hcs, hc⟩ := (HS.out.ext hw).at2 (k := k) (List.getElem?_eq_getElem hlt)
      have hmem : es[k] ∈ es := List.getElem_mem hlt
      have l5 := H5.out _ hmem
      have hbt := Lib.hid (Tr.bulkAll_take es k hlt)
      have HCS := Lib.hid hcs
      have HC := Lib.hid hc
      have HM := Lib.hid hmem
      have HI : Hid ((Tryz.prog.info? 39).map (·.size) = some cs.length) := by rw [← hcs.length, l5]; exact isz39
      clear hcs hc hmem l5
      go_wp2_with (refine wpList_load_rep rfl 39 _ rfl b (off + k * 3) rfl cs _ Tryz.underlying39 HI.out HC.out ?_)
      refine (HH.out _ HM.out _ _ _ HCS.out hr0 (by omega)).mono ?_; rintro e w1 ⟨r1, rfl, hw1, hr1, hr2, hr3⟩
      have HR3 := Lib.hid hr3
      have HW1 := Lib.hid hw1
      clear hr3 hw1
      go_wp2_with fail
      · go_ret
        exact ⟨-1, rfl, hw.trans HW1.out, by omega, by omega, by omega⟩
      · go_roundw
        case rel =>
          have p0 : 0 ≤ r1 := by assumption
          have e1 := HR3.out p0
          have e2 := hbt.out
          exact ⟨k + 1, r1, by omega, by go_num, rfl, hw.trans HW1.out, p0, by omega⟩
        case measure => simp [intOf]; omega
    · have hkl : k = es.length := by omega
      go_wp2_with fail
      go_ret
      refine ⟨r, rfl, hw, by omega, by omega, fun _ => ?_⟩
      rw [hkl, List.take_length] at hrb
      simp only [Tr.bulk]
      omega

set_option maxRecDepth 100000 in
set_option maxHeartbeats 1000000 in
theorem toTypeS_of (es : List (List Tr)) (h5 : ∀ e ∈ es, e.length = 3) (H : ∀ e ∈ es, ToC 45 e) : ToSC 104 3 es := by
  intro s w hs hbk
  obtain ⟨a, cap, rfl, hl, hm⟩ := hs.shape
  unfold maxLen at hm
  have HS := Lib.hid hs
  have HH := Lib.hid H
  have H5 := Lib.hid h5
  have n0 : (0 : Int) ≤ es.length := by omega
  clear hs H h5
  go_enter Tryz.func104, Tryz.ntmps104
  go_wp2_with (refine wpList_make_rep rfl 45 (.tmp 6) rfl es.length rfl 47 Tryz.underlying45 3 48 iszb47 (by omega) (by omega) ?_; intro wm arr0 ha0 hob0 hx0 hz0; have HA0 := Lib.hid ha0; have HOB0 := Lib.hid hob0; have HX0 := Lib.hid hx0; have HZ0 := Lib.hid hz0; clear ha0 hob0 hx0 hz0)
  go_loopw [4] (fun i wr => ∃ (k : Nat) (arr : Array Value), k ≤ es.length ∧ i = .int .i64 k ∧ Ext w wr ∧ w.heap.size < wr.heap.size ∧ OB wr w.heap.size 47 arr ∧ arr.size = es.length * 3 ∧ Part wr w.heap.size arr 3 es k) (fun i _ => es.length - (intOf i).toNat)
  case atStart => exact ⟨0, arr0, Nat.zero_le _, rfl, HX0.out, by rw [HZ0.out]; omega, HOB0.out, HA0.out, Part.zero _ _ _ _ _⟩
  case round =>
    obtain ⟨k, arr, hk, rfl, hw, hgt, hob, hasz, hpart⟩ := hrel
    have HOB := Lib.hid hob
    have HAS := Lib.hid hasz
    have HP := Lib.hid hpart
    clear hob hasz hpart
    by_cases hlt : k < es.length
    · obtain ⟨b, off, cs, rfl, hb, hcs, hc⟩ := (HS.out.ext hw).at2 (k := k) (List.getElem?_eq_getElem hlt)
      have hmem : es[k] ∈ es := List.getElem_mem hlt
      have l5 := H5.out _ hmem
      have hbe := Tr.bulkAll_le hlt
      have HCS := Lib.hid hcs
      have HC := Lib.hid hc
      have HM := Lib.hid hmem
      have HL5 := Lib.hid l5
      have HI : Hid ((Tryz.prog.info? 39).map (·.size) = some cs.length) := by rw [← hcs.length, l5]; exact isz39
      clear hcs hc hmem l5
      go_wp2_with (refine wpList_load_rep rfl 39 (.tmp 18) rfl b (off + k * 3) rfl cs _ Tryz.underlying39 HI.out HC.out ?_)
      refine (HH.out _ HM.out _ _ HCS.out (by omega)).mono ?_; rintro e w1 ⟨cs1, rfl, hw1, ho1⟩
      have HW1 := Lib.hid hw1
      have HO1 := Lib.hid ho1
      have hcl : cs1.length = 3 := ho1.1.trans HL5.out
      have HCL := Lib.hid hcl
      have hfit : 0 + k * 3 + cs1.length ≤ arr.size := by have := HAS.out; omega
      have HF := Lib.hid hfit
      clear hw1 ho1 hcl hfit
      go_wp2_with (refine wpList_store_rep rfl 47 (.tmp 21) (.tmp 20) rfl w.heap.size (k * 3) rfl cs1 rfl 47 arr (HOB.out.ext HW1.out) (by rw [HCL.out]; exact isz47) (by have := HF.out; omega) (HO1.out.rep.one) ?_; intro w2 hob2 hg2 hz2; have HOB2 := Lib.hid hob2; have HG2 := Lib.hid hg2; have HZ2 := Lib.hid hz2; clear hob2 hg2 hz2)
      go_roundw
      case rel =>
        have hfit : k * 3 + cs1.length ≤ arr.size := by have := HF.out; omega
        refine ⟨k + 1, _, by omega, by go_num, ?_, ?_, HOB2.out, by rw [splice_size hfit]; exact HAS.out, HP.out.step hgt HW1.out (List.getElem?_eq_getElem hlt) HO1.out HCL.out HAS.out HG2.out HOB2.out⟩
        · exact grown_ext (hw.trans HW1.out) HG2.out (Nat.le_refl _)
        · have := HW1.out.size
          have := HZ2.out
          omega
      case measure => simp [intOf]; omega
    · have hkl : k = es.length := by omega
      go_wp2_with fail
      go_ret
      subst hkl
      exact ⟨_, rfl, hw, (HP.out.done HOB.out H5.out (Nat.le_refl _) (by unfold maxLen; omega) (Nat.le_refl _)).mono fun x hx => ⟨hx.1, hx.2⟩⟩

set_option maxRecDepth 100000 in
set_option maxHeartbeats 1000000 in
theorem eqTypeS_of (es : List (List Tr)) (h5 : ∀ e ∈ es, e.length = 3) (H : ∀ e ∈ es, EqC 47 e) : EqSC 107 3 es := by
  intro s u w hs hu
  obtain ⟨a, cap, rfl, hl, hm⟩ := hs.shape
  obtain ⟨a', cap', rfl, hl', hm'⟩ := hu.shape
  unfold maxLen at hm hm'
  have HS := Lib.hid hs
  have HU := Lib.hid hu
  have HH := Lib.hid H
  have H5 := Lib.hid h5
  clear hs hu H h5
  go_enter Tryz.func107, Tryz.ntmps107
  go_wp2_with fail
  go_loopw [5] (fun i wr => ∃ k : Nat, k ≤ es.length ∧ i = .int .i64 k ∧ Ext w wr) (fun i _ => es.length - (intOf i).toNat)
  case atStart => exact ⟨0, Nat.zero_le _, rfl, .refl _⟩
  case round =>
    obtain ⟨k, hk, rfl, hw⟩ := hrel
    by_cases hlt : k < es.length
    · obtain ⟨b, off, cs, rfl, hb, hcs, hc⟩ := (HS.out.ext hw).at2 (k := k) (List.getElem?_eq_getElem hlt)
      obtain ⟨b', off', ds, rfl, hb', hds, hd⟩ := (HU.out.ext hw).at2 (k := k) (List.getElem?_eq_getElem hlt)
      have hmem : es[k] ∈ es := List.getElem_mem hlt
      have l5 := H5.out _ hmem
      have HCS := Lib.hid hcs
      have HDS := Lib.hid hds
      have HM := Lib.hid hmem
      have HC := Lib.hid hc
      have HD := Lib.hid hd
      have HI : Hid ((Tryz.prog.info? 47).map (·.size) = some cs.length) := by rw [← hcs.length, l5]; exact isz47
      have HJ : Hid ((Tryz.prog.info? 47).map (·.size) = some ds.length) := by rw [← hds.length, l5]; exact isz47
      clear hcs hds hc hd l5 hmem
      go_wp2_with fail
      have ki : (k : Int) < (es.length : Int) := by omega
      have k0 : (0 : Int) ≤ (k : Int) := by omega
      refine wp_region_still_tail 8 (by kernel_rfl) (by kernel_rfl) ?_
      simp only [List.take_succ_cons, List.take_zero, List.drop_succ_cons, List.drop_zero]
      change wpStill _ _ wr.drew _ _ _
      repeat (first
        | (refine wpStill_load_rep rfl 47 (.tmp 19) rfl b (off + k * 3) rfl cs _ Tryz.underlying47 HI.out HC.out ?_; simp only [Act.put])
        | (refine wpStill_load_rep rfl 47 (.tmp 23) rfl b' (off' + k * 3) rfl ds _ Tryz.underlying47 HJ.out HD.out ?_; simp only [Act.put])
        | still_step)
      refine wpStill_nil ?_
      change wpList _ _ _ _ _ wr.drew
      go_wp2_with fail
      refine (HH.out _ HM.out _ _ _ (HCS.out.ext (.drew (.refl _))) (HDS.out.ext (.drew (.refl _)))).mono ?_; rintro e w1 ⟨rfl, hw1⟩
      have HW1 := Lib.hid hw1
      clear hw1
      go_wp2_with fail
      go_roundw
      case rel => exact ⟨k + 1, by omega, by go_num, hw.trans (.trans (.drew (.refl _)) HW1.out)⟩
      case measure => simp [intOf]; omega
    · go_wp2_with fail
      go_ret
      exact ⟨rfl, hw⟩

end Go.Proofs.YtnakkelglbcecaaGreat

namespace Go.Proofs.YtnakkelglbcecaaGreat
open Go.RowKit Go.Proofs

set_option maxRecDepth 100000 in
set_option maxHeartbeats 1000000 in
theorem szExpr_of (v0 : Int) (v1 : ByteArray) (v2 : ByteArray) (v3 : Int) (ts4 : List Tr) (l4 : ts4.length = 3) (es5 : List (List Tr)) (es6 : List (List Tr)) (h4 : SzC 43 ts4) (h5 : SzSC 234 9 es5) (h6 : SzSC 235 11 es6) : SzC 220 ([.leaf (.int .i64 v0)] ++ ([.leaf (.string v1)] ++ ([.leaf (.string v2)] ++ ([.leaf (.int .i64 v3)] ++ (ts4 ++ ([.row 9 es5] ++ ([.row 11 es6] ++ ([])))))))) := by
  intro cs left w hr hl0 hl1
  obtain ⟨r0, rfl, K0, n0⟩ := RepL.sLeaf hr
  obtain ⟨r1, rfl, K1, n1⟩ := RepL.sLeaf n0
  obtain ⟨r2, rfl, K2, n2⟩ := RepL.sLeaf n1
  obtain ⟨r3, rfl, K3, n3⟩ := RepL.sLeaf n2
  obtain ⟨x4_0, x4_1, x4_2, r4, rfl, G4, n4⟩ := RepL.sAgg3 n3 l4
  obtain ⟨a5, c5, r5, rfl, G5, n5⟩ := RepL.sRow n4
  obtain ⟨a6, c6, r6, rfl, G6, n6⟩ := RepL.sRow n5
  obtain rfl := RepL.nil_eq n6
  clear hr n0 n1 n2 n3 n4 n5 n6
  have q1 : v1.size ≤ 9223372036854775807 := by have := K1.out; simp only [LeafOk, maxLen] at this; omega
  have q2 : v2.size ≤ 9223372036854775807 := by have := K2.out; simp only [LeafOk, maxLen] at this; omega
  go_enter Tryz.func220, Tryz.ntmps220
  go_wp2_with fail
  · go_ret
    exact ⟨-1, rfl, (.alloc (.refl _) _), by omega, by omega, by omega⟩
  · go_ret
    exact ⟨-1, rfl, (.alloc (.refl _) _), by omega, by omega, by omega⟩
  refine (h4 _ _ _ (G4.out.ext (.alloc (.refl _) _)) (by omega) (by omega)).mono ?_; rintro e w4 ⟨r4, rfl, hw4, ra4, rb4, rc4⟩
  have HW4 := Lib.hid hw4
  have HR4 := Lib.hid rc4
  have ob4 := (OB.new w _ _).ext hw4
  have OBH := Lib.hid ob4
  have ce4 := ob4.cell
  clear hw4 rc4 ob4
  go_wp2_with fail
  · go_ret
    exact ⟨-1, rfl, (Ext.trans (.alloc (.refl _) _) HW4.out), by omega, by omega, by omega⟩
  refine (h5 _ _ _ (G5.out.1.ext (Ext.trans (.alloc (.refl _) _) HW4.out)) (by omega) (by omega)).mono ?_; rintro e w5 ⟨r5, rfl, hw5, ra5, rb5, rc5⟩
  have HW5 := Lib.hid hw5
  have HR5 := Lib.hid rc5
  have ob5 := OBH.out.ext hw5
  clear OBH ce4
  have OBH := Lib.hid ob5
  have ce5 := ob5.cell
  clear hw5 rc5 ob5
  go_wp2_with fail
  · go_ret
    exact ⟨-1, rfl, (Ext.trans (Ext.trans (.alloc (.refl _) _) HW4.out) HW5.out), by omega, by omega, by omega⟩
  refine (h6 _ _ _ (G6.out.1.ext (Ext.trans (Ext.trans (.alloc (.refl _) _) HW4.out) HW5.out)) (by omega) (by omega)).mono ?_; rintro e w6 ⟨r6, rfl, hw6, ra6, rb6, rc6⟩
  have HW6 := Lib.hid hw6
  have HR6 := Lib.hid rc6
  have ob6 := OBH.out.ext hw6
  clear OBH ce5
  have OBH := Lib.hid ob6
  have ce6 := ob6.cell
  clear hw6 rc6 ob6
  go_wp2_with fail
  · go_ret
    exact ⟨-1, rfl, (Ext.trans (Ext.trans (Ext.trans (.alloc (.refl _) _) HW4.out) HW5.out) HW6.out), by omega, by omega, by omega⟩
  go_ret
  refine ⟨_, rfl, (Ext.trans (Ext.trans (Ext.trans (.alloc (.refl _) _) HW4.out) HW5.out) HW6.out), by omega, by omega, fun hp => ?_⟩
  have e4 := HR4.out (by omega)
  have e5 := HR5.out (by omega)
  have e6 := HR6.out (by omega)
  simp only [Tr.bulkL_append, Tr.bulkL, Tr.bulk]
  simp only [Tr.bulk] at e5 e6
  omega

set_option maxRecDepth 100000 in
set_option maxHeartbeats 1000000 in
theorem toExpr_of (v0 : Int) (v1 : ByteArray) (v2 : ByteArray) (v3 : Int) (ts4 : List Tr) (l4 : ts4.length = 3) (es5 : List (List Tr)) (es6 : List (List Tr)) (h4 : ToC 45 ts4) (h5 : ToSC 240 9 es5) (h6 : ToSC 241 11 es6) : ToC 225 ([.leaf (.int .i64 v0)] ++ ([.leaf (.string v1)] ++ ([.leaf (.string v2)] ++ ([.leaf (.int .i64 v3)] ++ (ts4 ++ ([.row 9 es5] ++ ([.row 11 es6] ++ ([])))))))) := by
  intro cs w hr hbk
  simp only [Tr.bulkL_append, Tr.bulkL, Tr.bulk] at hbk
  obtain ⟨r0, rfl, K0, n0⟩ := RepL.sLeaf hr
  obtain ⟨r1, rfl, K1, n1⟩ := RepL.sLeaf n0
  obtain ⟨r2, rfl, K2, n2⟩ := RepL.sLeaf n1
  obtain ⟨r3, rfl, K3, n3⟩ := RepL.sLeaf n2
  obtain ⟨x4_0, x4_1, x4_2, r4, rfl, G4, n4⟩ := RepL.sAgg3 n3 l4
  obtain ⟨a5, c5, r5, rfl, G5, n5⟩ := RepL.sRow n4
  obtain ⟨a6, c6, r6, rfl, G6, n6⟩ := RepL.sRow n5
  obtain rfl := RepL.nil_eq n6
  clear hr n0 n1 n2 n3 n4 n5 n6
  go_enter Tryz.func225, Tryz.ntmps225
  go_wp2_with fail
  refine (h4 _ _ (G4.out.ext (.alloc (.alloc (.alloc (.refl _) _) _) _)) (by omega)).mono ?_; rintro e w4 ⟨d4, rfl, hw4, ho4⟩
  obtain ⟨d4_0, d4_1, d4_2, rfl⟩ := list3 (ho4.1.trans l4)
  have HW4 := Lib.hid hw4
  have HO4 := Lib.hid ho4
  have ob4 := (Three.new w _ _ _ _ _ _).ext hw4
  have OBHw4 := Lib.hid ob4
  have cew4 := ob4.o0.cell
  have hzw4 : w.heap.size < w4.heap.size := ob4.o0.lt
  clear hw4 ob4 ho4
  have EW4 := Lib.hid (Ext.trans (.alloc (.alloc (.alloc (.refl _) _) _) _) HW4.out)
  go_wp2_with (first
    | (refine wpList_store_rep rfl 47 _ _ rfl (w.heap.size + 1 + 1) 4 rfl [d4_0, d4_1, d4_2] rfl 103 _ OBHw4.out.o2 isz47 (by simp [splice]) HO4.out.rep.one ?_; intro u4 hou4 hgu4 hzu4; have OBHu4 := Lib.hid (OBHw4.out.grown hgu4 hou4 (by omega) (by omega)); have HGu4 := Lib.hid hgu4; have ceu4 := OBHu4.out.o0.cell; have hqu4 : w.heap.size < u4.heap.size := OBHu4.out.o0.lt; have EGu4 := Lib.hid (grown_ext EW4.out HGu4.out (by omega)); clear hou4 hgu4 hzu4 OBHw4 cew4))
  refine (h5 _ _ (G5.out.1.ext EGu4.out) (by omega)).mono ?_; rintro e w5 ⟨d5, rfl, hw5, ho5⟩
  obtain ⟨da5, dc5, rfl, -, -⟩ := ho5.rep.shape
  have HW5 := Lib.hid hw5
  have HO5 := Lib.hid ho5
  have ob5 := OBHu4.out.ext hw5
  clear OBHu4 ceu4
  have OBHw5 := Lib.hid ob5
  have cew5 := ob5.o0.cell
  have hzw5 : w.heap.size < w5.heap.size := ob5.o0.lt
  clear hw5 ob5 ho5
  have EW5 := Lib.hid (Ext.trans EGu4.out HW5.out)
  go_wp2_with (first
    | (refine wpList_store_cell rfl 100 _ _ rfl (w.heap.size + 1 + 1) 7 rfl (.slice da5 es5.length dc5) rfl rfl 103 _ OBHw5.out.o2 isz100 (by simp [splice]) rfl ?_; intro u5 hou5 hgu5 hzu5; have OBHu5 := Lib.hid (OBHw5.out.grown hgu5 hou5 (by omega) (by omega)); have HGu5 := Lib.hid hgu5; have ceu5 := OBHu5.out.o0.cell; have hqu5 : w.heap.size < u5.heap.size := OBHu5.out.o0.lt; have EGu5 := Lib.hid (grown_ext EW5.out HGu5.out (by omega)); clear hou5 hgu5 hzu5 OBHw5 cew5))
  refine (h6 _ _ (G6.out.1.ext EGu5.out) (by omega)).mono ?_; rintro e w6 ⟨d6, rfl, hw6, ho6⟩
  obtain ⟨da6, dc6, rfl, -, -⟩ := ho6.rep.shape
  have HW6 := Lib.hid hw6
  have HO6 := Lib.hid ho6
  have ob6 := OBHu5.out.ext hw6
  clear OBHu5 ceu5
  have OBHw6 := Lib.hid ob6
  have cew6 := ob6.o0.cell
  have hzw6 : w.heap.size < w6.heap.size := ob6.o0.lt
  clear hw6 ob6 ho6
  have EW6 := Lib.hid (Ext.trans EGu5.out HW6.out)
  have hone : Hid (∀ v ∈ ([.int .i64 v0, .string v1, .string v2, .int .i64 v3, d4_0, d4_1, d4_2, .slice da5 es5.length dc5, .slice da6 es6.length dc6] : List Value), v.oneCell' = true) := by
    intro v hv
    simp only [List.mem_cons, List.not_mem_nil, or_false] at hv
    rcases hv with rfl | rfl | rfl | rfl | rfl | rfl | rfl | rfl | rfl <;> first | rfl | (refine HO4.out.rep.one _ ?_; simp; done)
  go_wp2_with (first
    | (refine wpList_store_cell rfl 101 _ _ rfl (w.heap.size + 1 + 1) 8 rfl (.slice da6 es6.length dc6) rfl rfl 103 _ OBHw6.out.o2 isz101 (by simp [splice]) rfl ?_; intro u6 hou6 hgu6 hzu6; have OBHu6 := Lib.hid (OBHw6.out.grown hgu6 hou6 (by omega) (by omega)); have HGu6 := Lib.hid hgu6; have ceu6 := OBHu6.out.o0.cell; have hqu6 : w.heap.size < u6.heap.size := OBHu6.out.o0.lt; have EGu6 := Lib.hid (grown_ext EW6.out HGu6.out (by omega)); clear hou6 hgu6 hzu6 OBHw6 cew6)
    | (refine wpList_load_rep rfl 103 _ rfl (w.heap.size + 1 + 1) 0 rfl [.int .i64 v0, .string v1, .string v2, .int .i64 v3, d4_0, d4_1, d4_2, .slice da5 es5.length dc5, .slice da6 es6.length dc6] _ Tryz.underlying103 isz103 (fun j v hv => by rw [OBHu6.out.o2.cell, Nat.zero_add]; simpa [splice] using hv) ?_)
    | (refine wpList_store_rep rfl 103 _ _ rfl (w.heap.size + 1) 0 rfl [.int .i64 v0, .string v1, .string v2, .int .i64 v3, d4_0, d4_1, d4_2, .slice da5 es5.length dc5, .slice da6 es6.length dc6] rfl 103 _ OBHu6.out.o1 isz103 (by simp) hone.out ?_; intro wz hoz hgz hzz; have HOZ := Lib.hid hoz; have HGZ := Lib.hid hgz; clear hoz hgz hzz))
  have HOF : OB wz (w.heap.size + 1) 103 ⟨[.int .i64 v0, .string v1, .string v2, .int .i64 v3, d4_0, d4_1, d4_2, .slice da5 es5.length dc5, .slice da6 es6.length dc6]⟩ := HOZ.out
  refine bodyPost_ret (results_cell_row Tryz.results225 _ _ (w.heap.size + 1) 103 ⟨[.int .i64 v0, .string v1, .string v2, .int .i64 v3, d4_0, d4_1, d4_2, .slice da5 es5.length dc5, .slice da6 es6.length dc6]⟩ _ _ rfl HOF Tryz.underlying103 rfl isz103) rfl ⟨[.int .i64 v0, .string v1, .string v2, .int .i64 v3, d4_0, d4_1, d4_2, .slice da5 es5.length dc5, .slice da6 es6.length dc6], rfl, (grown_ext EGu6.out HGZ.out (by omega)), ?_⟩
  have sw4 := HW4.out.size
  have su4 := HGu4.out.size
  have sw5 := HW5.out.size
  have su5 := HGu5.out.size
  have sw6 := HW6.out.size
  have su6 := HGu6.out.size
  have swz := HGZ.out.size
  simp only [World.size_alloc] at sw4
  have KPz : Keeps (w.heap.size + 1 + 1 + 1) u6 wz := Keeps.of_grown HGZ.out (by omega)
  have KPu6 : Keeps (w.heap.size + 1 + 1 + 1) w6 wz := Keeps.trans (Keeps.of_grown HGu6.out (by omega)) KPz
  have ow6 := HO6.out.keeps KPu6 (by intro x hx; simp only [Between, World.size_alloc] at hx; omega)
  have KPw6 : Keeps (w.heap.size + 1 + 1 + 1) u5 wz := Keeps.trans (Keeps.of_ext HW6.out) KPu6
  have KPu5 : Keeps (w.heap.size + 1 + 1 + 1) w5 wz := Keeps.trans (Keeps.of_grown HGu5.out (by omega)) KPw6
  have ow5 := HO5.out.keeps KPu5 (by intro x hx; simp only [Between, World.size_alloc] at hx; omega)
  have KPw5 : Keeps (w.heap.size + 1 + 1 + 1) u4 wz := Keeps.trans (Keeps.of_ext HW5.out) KPu5
  have KPu4 : Keeps (w.heap.size + 1 + 1 + 1) w4 wz := Keeps.trans (Keeps.of_grown HGu4.out (by omega)) KPw5
  have ow4 := HO4.out.keeps KPu4 (by intro x hx; simp only [Between, World.size_alloc] at hx; omega)
  have hall := OwnL.cons_leaf K0.out (OwnL.cons_leaf K1.out (OwnL.cons_leaf K2.out (OwnL.cons_leaf K3.out (OwnL.append (ow4) (OwnL.append (OwnL.one ow5) (OwnL.append (OwnL.one ow6) (OwnL.nil wz (fun _ => False)) (by intro x hx hy; simp only [Between, World.size_alloc, or_false] at hx hy <;> omega)) (by intro x hx hy; simp only [Between, World.size_alloc, or_false] at hx hy <;> omega)) (by intro x hx hy; simp only [Between, World.size_alloc, or_false] at hx hy <;> omega)))))
  exact hall.mono (by intro x hx; simp only [Between, World.size_alloc, or_false] at hx ⊢; omega)

set_option maxRecDepth 100000 in
set_option maxHeartbeats 1000000 in
theorem eqExpr_of (v0 : Int) (v1 : ByteArray) (v2 : ByteArray) (v3 : Int) (ts4 : List Tr) (l4 : ts4.length = 3) (es5 : List (List Tr)) (es6 : List (List Tr)) (h4 : EqC 47 ts4) (h5 : EqSC 176 9 es5) (h6 : EqSC 177 11 es6) : EqC 130 ([.leaf (.int .i64 v0)] ++ ([.leaf (.string v1)] ++ ([.leaf (.string v2)] ++ ([.leaf (.int .i64 v3)] ++ (ts4 ++ ([.row 9 es5] ++ ([.row 11 es6] ++ ([])))))))) := by
  intro cs ds w hr hr'
  obtain ⟨r0, rfl, K0, n0⟩ := RepL.sLeaf hr
  obtain ⟨r1, rfl, K1, n1⟩ := RepL.sLeaf n0
  obtain ⟨r2, rfl, K2, n2⟩ := RepL.sLeaf n1
  obtain ⟨r3, rfl, K3, n3⟩ := RepL.sLeaf n2
  obtain ⟨x4_0, x4_1, x4_2, r4, rfl, G4, n4⟩ := RepL.sAgg3 n3 l4
  obtain ⟨a5, c5, r5, rfl, G5, n5⟩ := RepL.sRow n4
  obtain ⟨a6, c6, r6, rfl, G6, n6⟩ := RepL.sRow n5
  obtain rfl := RepL.nil_eq n6
  clear hr n0 n1 n2 n3 n4 n5 n6
  obtain ⟨zr0, rfl, zK0, zn0⟩ := RepL.sLeaf hr'
  obtain ⟨zr1, rfl, zK1, zn1⟩ := RepL.sLeaf zn0
  obtain ⟨zr2, rfl, zK2, zn2⟩ := RepL.sLeaf zn1
  obtain ⟨zr3, rfl, zK3, zn3⟩ := RepL.sLeaf zn2
  obtain ⟨zx4_0, zx4_1, zx4_2, zr4, rfl, zG4, zn4⟩ := RepL.sAgg3 zn3 l4
  obtain ⟨za5, zc5, zr5, rfl, zG5, zn5⟩ := RepL.sRow zn4
  obtain ⟨za6, zc6, zr6, rfl, zG6, zn6⟩ := RepL.sRow zn5
  obtain rfl := RepL.nil_eq zn6
  clear hr' zn0 zn1 zn2 zn3 zn4 zn5 zn6
  go_enter Tryz.func130, Tryz.ntmps130
  go_wp2_with fail
  refine (h4 _ _ _ (G4.out.ext (.alloc (.alloc (.refl _) _) _)) (zG4.out.ext (.alloc (.alloc (.refl _) _) _))).mono ?_; rintro e w4 ⟨rfl, hw4⟩
  have HW4 := Lib.hid hw4
  have ob4 := (Two.new w _ _ _ _).ext hw4
  have OBH := Lib.hid ob4
  have ce4 := ob4.o0.cell
  have cf4 := ob4.o1.cell
  clear hw4 ob4
  go_wp2_with fail
  refine (h5 _ _ _ (G5.out.1.ext (Ext.trans (.alloc (.alloc (.refl _) _) _) HW4.out)) (zG5.out.1.ext (Ext.trans (.alloc (.alloc (.refl _) _) _) HW4.out))).mono ?_; rintro e w5 ⟨rfl, hw5⟩
  have HW5 := Lib.hid hw5
  have ob5 := OBH.out.ext hw5
  clear OBH ce4 cf4
  have OBH := Lib.hid ob5
  have ce5 := ob5.o0.cell
  have cf5 := ob5.o1.cell
  clear hw5 ob5
  go_wp2_with fail
  refine (h6 _ _ _ (G6.out.1.ext (Ext.trans (Ext.trans (.alloc (.alloc (.refl _) _) _) HW4.out) HW5.out)) (zG6.out.1.ext (Ext.trans (Ext.trans (.alloc (.alloc (.refl _) _) _) HW4.out) HW5.out))).mono ?_; rintro e w6 ⟨rfl, hw6⟩
  have HW6 := Lib.hid hw6
  have ob6 := OBH.out.ext hw6
  clear OBH ce5 cf5
  have OBH := Lib.hid ob6
  have ce6 := ob6.o0.cell
  have cf6 := ob6.o1.cell
  clear hw6 ob6
  go_wp2_with fail
  go_ret
  exact ⟨rfl, (Ext.trans (Ext.trans (Ext.trans (.alloc (.alloc (.refl _) _) _) HW4.out) HW5.out) HW6.out)⟩

set_option maxRecDepth 100000 in
set_option maxHeartbeats 1000000 in
theorem szExprS_of (es : List (List Tr)) (h5 : ∀ e ∈ es, e.length = 9) (H : ∀ e ∈ es, SzC 220 e) : SzSC 234 9 es := by
  intro s left w hs h0 h1
  obtain ⟨a, cap, rfl, hl, hm⟩ := hs.shape
  unfold maxLen at hm
  have HS := Lib.hid hs
  have HH := Lib.hid H
  have H5 := Lib.hid h5
  clear hs H h5
  go_enter Tryz.func234, Tryz.ntmps234
  go_wp2_with fail
  · go_ret
    exact ⟨-1, rfl, .refl _, by omega, by omega, by omega⟩
  go_loopw [1, 5] (fun l i wr => ∃ (k : Nat) (r : Int), k ≤ es.length ∧ i = .int .i64 k ∧ l = .int .i64 r ∧ Ext w wr ∧ 0 ≤ r ∧ r + es.length + Tr.bulkAll (es.take k) ≤ left) (fun _ i _ => es.length - (intOf i).toNat)
  case atStart => exact ⟨0, _, Nat.zero_le _, rfl, rfl, .refl _, by omega, by simp [Tr.bulkAll]⟩
  case round =>
    obtain ⟨k, r, hk, rfl, rfl, hw, hr0, hrb⟩ := hrel
    by_cases hlt : k < es.length
    · obtain ⟨b, off, cs, rfl, hb, hcs, hc⟩ := (HS.out.ext hw).at2 (k := k) (List.getElem?_eq_getElem hlt)
      have hmem : es[k] ∈ es := List.getElem_mem hlt
      have l5 := H5.out _ hmem
      have hbt := Lib.hid (Tr.bulkAll_take es k hlt)
      have HCS := Lib.hid hcs
      have HC := Lib.hid hc
      have HM := Lib.hid hmem
      have HI : Hid ((Tryz.prog.info? 248).map (·.size) = some cs.length) := by rw [← hcs.length, l5]; exact isz248
      clear hcs hc hmem l5
      go_wp2_with (refine wpList_load_rep rfl 248 _ rfl b (off + k * 9) rfl cs _ Tryz.underlying248 HI.out HC.out ?_)
      refine (HH.out _ HM.out _ _ _ HCS.out hr0 (by omega)).mono ?_; rintro e w1 ⟨r1, rfl, hw1, hr1, hr2, hr3⟩
      have HR3 := Lib.hid hr3
      have HW1 := Lib.hid hw1
      clear hr3 hw1
      go_wp2_with fail
      · go_ret
        exact ⟨-1, rfl, hw.trans HW1.out, by omega, by omega, by omega⟩
      · go_roundw
        case rel =>
          have p0 : 0 ≤ r1 := by assumption
          have e1 := HR3.out p0
          have e2 := hbt.out
          exact ⟨k + 1, r1, by omega, by go_num, rfl, hw.trans HW1.out, p0, by omega⟩
        case measure => simp [intOf]; omega
    · have hkl : k = es.length := by omega
      go_wp2_with fail
      go_ret
      refine ⟨r, rfl, hw, by omega, by omega, fun _ => ?_⟩
      rw [hkl, List.take_length] at hrb
      simp only [Tr.bulk]
      omega

set_option maxRecDepth 100000 in
set_option maxHeartbeats 1000000 in
theorem toExprS_of (es : List (List Tr)) (h5 : ∀ e ∈ es, e.length = 9) (H : ∀ e ∈ es, ToC 225 e) : ToSC 240 9 es := by
  intro s w hs hbk
  obtain ⟨a, cap, rfl, hl, hm⟩ := hs.shape
  unfold maxLen at hm
  have HS := Lib.hid hs
  have HH := Lib.hid H
  have H5 := Lib.hid h5
  have n0 : (0 : Int) ≤ es.length := by omega
  clear hs H h5
  go_enter Tryz.func240, Tryz.ntmps240
  go_wp2_with (refine wpList_make_rep rfl 100 (.tmp 6) rfl es.length rfl 103 Tryz.underlying100 9 144 iszb103 (by omega) (by omega) ?_; intro wm arr0 ha0 hob0 hx0 hz0; have HA0 := Lib.hid ha0; have HOB0 := Lib.hid hob0; have HX0 := Lib.hid hx0; have HZ0 := Lib.hid hz0; clear ha0 hob0 hx0 hz0)
  go_loopw [4] (fun i wr => ∃ (k : Nat) (arr : Array Value), k ≤ es.length ∧ i = .int .i64 k ∧ Ext w wr ∧ w.heap.size < wr.heap.size ∧ OB wr w.heap.size 103 arr ∧ arr.size = es.length * 9 ∧ Part wr w.heap.size arr 9 es k) (fun i _ => es.length - (intOf i).toNat)
  case atStart => exact ⟨0, arr0, Nat.zero_le _, rfl, HX0.out, by rw [HZ0.out]; omega, HOB0.out, HA0.out, Part.zero _ _ _ _ _⟩
  case round =>
    obtain ⟨k, arr, hk, rfl, hw, hgt, hob, hasz, hpart⟩ := hrel
    have HOB := Lib.hid hob
    have HAS := Lib.hid hasz
    have HP := Lib.hid hpart
    clear hob hasz hpart
    by_cases hlt : k < es.length
    · obtain ⟨b, off, cs, rfl, hb, hcs, hc⟩ := (HS.out.ext hw).at2 (k := k) (List.getElem?_eq_getElem hlt)
      have hmem : es[k] ∈ es := List.getElem_mem hlt
      have l5 := H5.out _ hmem
      have hbe := Tr.bulkAll_le hlt
      have HCS := Lib.hid hcs
      have HC := Lib.hid hc
      have HM := Lib.hid hmem
      have HL5 := Lib.hid l5
      have HI : Hid ((Tryz.prog.info? 248).map (·.size) = some cs.length) := by rw [← hcs.length, l5]; exact isz248
      clear hcs hc hmem l5
      go_wp2_with (refine wpList_load_rep rfl 248 (.tmp 18) rfl b (off + k * 9) rfl cs _ Tryz.underlying248 HI.out HC.out ?_)
      refine (HH.out _ HM.out _ _ HCS.out (by omega)).mono ?_; rintro e w1 ⟨cs1, rfl, hw1, ho1⟩
      have HW1 := Lib.hid hw1
      have HO1 := Lib.hid ho1
      have hcl : cs1.length = 9 := ho1.1.trans HL5.out
      have HCL := Lib.hid hcl
      have hfit : 0 + k * 9 + cs1.length ≤ arr.size := by have := HAS.out; omega
      have HF := Lib.hid hfit
      clear hw1 ho1 hcl hfit
      go_wp2_with (refine wpList_store_rep rfl 103 (.tmp 21) (.tmp 20) rfl w.heap.size (k * 9) rfl cs1 rfl 103 arr (HOB.out.ext HW1.out) (by rw [HCL.out]; exact isz103) (by have := HF.out; omega) (HO1.out.rep.one) ?_; intro w2 hob2 hg2 hz2; have HOB2 := Lib.hid hob2; have HG2 := Lib.hid hg2; have HZ2 := Lib.hid hz2; clear hob2 hg2 hz2)
      go_roundw
      case rel =>
        have hfit : k * 9 + cs1.length ≤ arr.size := by have := HF.out; omega
        refine ⟨k + 1, _, by omega, by go_num, ?_, ?_, HOB2.out, by rw [splice_size hfit]; exact HAS.out, HP.out.step hgt HW1.out (List.getElem?_eq_getElem hlt) HO1.out HCL.out HAS.out HG2.out HOB2.out⟩
        · exact grown_ext (hw.trans HW1.out) HG2.out (Nat.le_refl _)
        · have := HW1.out.size
          have := HZ2.out
          omega
      case measure => simp [intOf]; omega
    · have hkl : k = es.length := by omega
      go_wp2_with fail
      go_ret
      subst hkl
      exact ⟨_, rfl, hw, (HP.out.done HOB.out H5.out (Nat.le_refl _) (by unfold maxLen; omega) (Nat.le_refl _)).mono fun x hx => ⟨hx.1, hx.2⟩⟩

set_option maxRecDepth 100000 in
set_option maxHeartbeats 1000000 in
theorem eqExprS_of (es : List (List Tr)) (h5 : ∀ e ∈ es, e.length = 9) (H : ∀ e ∈ es, EqC 130 e) : EqSC 176 9 es := by
  intro s u w hs hu
  obtain ⟨a, cap, rfl, hl, hm⟩ := hs.shape
  obtain ⟨a', cap', rfl, hl', hm'⟩ := hu.shape
  unfold maxLen at hm hm'
  have HS := Lib.hid hs
  have HU := Lib.hid hu
  have HH := Lib.hid H
  have H5 := Lib.hid h5
  clear hs hu H h5
  go_enter Tryz.func176, Tryz.ntmps176
  go_wp2_with fail
  go_loopw [5] (fun i wr => ∃ k : Nat, k ≤ es.length ∧ i = .int .i64 k ∧ Ext w wr) (fun i _ => es.length - (intOf i).toNat)
  case atStart => exact ⟨0, Nat.zero_le _, rfl, .refl _⟩
  case round =>
    obtain ⟨k, hk, rfl, hw⟩ := hrel
    by_cases hlt : k < es.length
    · obtain ⟨b, off, cs, rfl, hb, hcs, hc⟩ := (HS.out.ext hw).at2 (k := k) (List.getElem?_eq_getElem hlt)
      obtain ⟨b', off', ds, rfl, hb', hds, hd⟩ := (HU.out.ext hw).at2 (k := k) (List.getElem?_eq_getElem hlt)
      have hmem : es[k] ∈ es := List.getElem_mem hlt
      have l5 := H5.out _ hmem
      have HCS := Lib.hid hcs
      have HDS := Lib.hid hds
      have HM := Lib.hid hmem
      have HC := Lib.hid hc
      have HD := Lib.hid hd
      have HI : Hid ((Tryz.prog.info? 103).map (·.size) = some cs.length) := by rw [← hcs.length, l5]; exact isz103
      have HJ : Hid ((Tryz.prog.info? 103).map (·.size) = some ds.length) := by rw [← hds.length, l5]; exact isz103
      clear hcs hds hc hd l5 hmem
      go_wp2_with fail
      have ki : (k : Int) < (es.length : Int) := by omega
      have k0 : (0 : Int) ≤ (k : Int) := by omega
      refine wp_region_still_tail 8 (by kernel_rfl) (by kernel_rfl) ?_
      simp only [List.take_succ_cons, List.take_zero, List.drop_succ_cons, List.drop_zero]
      change wpStill _ _ wr.drew _ _ _
      repeat (first
        | (refine wpStill_load_rep rfl 103 (.tmp 19) rfl b (off + k * 9) rfl cs _ Tryz.underlying103 HI.out HC.out ?_; simp only [Act.put])
        | (refine wpStill_load_rep rfl 103 (.tmp 23) rfl b' (off' + k * 9) rfl ds _ Tryz.underlying103 HJ.out HD.out ?_; simp only [Act.put])
        | still_step)
      refine wpStill_nil ?_
      change wpList _ _ _ _ _ wr.drew
      go_wp2_with fail
      refine (HH.out _ HM.out _ _ _ (HCS.out.ext (.drew (.refl _))) (HDS.out.ext (.drew (.refl _)))).mono ?_; rintro e w1 ⟨rfl, hw1⟩
      have HW1 := Lib.hid hw1
      clear hw1
      go_wp2_with fail
      go_roundw
      case rel => exact ⟨k + 1, by omega, by go_num, hw.trans (.trans (.drew (.refl _)) HW1.out)⟩
      case measure => simp [intOf]; omega
    · go_wp2_with fail
      go_ret
      exact ⟨rfl, hw⟩

end Go.Proofs.YtnakkelglbcecaaGreat

namespace Go.Proofs.YtnakkelglbcecaaGreat
open Go.RowKit Go.Proofs

set_option maxRecDepth 100000 in
set_option maxHeartbeats 1000000 in
theorem szArm_of (v0 : ByteArray) (es1 : List (List Tr)) (ts2 : List Tr) (l2 : ts2.length = 9) (h1 : SzSC 178 1 es1) (h2 : SzC 220 ts2) : SzC 245 ([.leaf (.string v0)] ++ ([.row 1 es1] ++ (ts2 ++ ([])))) := by
  intro cs left w hr hl0 hl1
  obtain ⟨r0, rfl, K0, n0⟩ := RepL.sLeaf hr
  obtain ⟨a1, c1, r1, rfl, G1, n1⟩ := RepL.sRow n0
  obtain ⟨x2_0, x2_1, x2_2, x2_3, x2_4, x2_5, x2_6, x2_7, x2_8, r2, rfl, G2, n2⟩ := RepL.sAgg9 n1 l2
  obtain rfl := RepL.nil_eq n2
  clear hr n0 n1 n2
  have q0 : v0.size ≤ 9223372036854775807 := by have := K0.out; simp only [LeafOk, maxLen] at this; omega
  go_enter Tryz.func245, Tryz.ntmps245
  go_wp2_with fail
  · go_ret
    exact ⟨-1, rfl, (.alloc (.refl _) _), by omega, by omega, by omega⟩
  refine (h1 _ _ _ (G1.out.1.ext (.alloc (.refl _) _)) (by omega) (by omega)).mono ?_; rintro e w1 ⟨r1, rfl, hw1, ra1, rb1, rc1⟩
  have HW1 := Lib.hid hw1
  have HR1 := Lib.hid rc1
  have ob1 := (OB.new w _ _).ext hw1
  have OBH := Lib.hid ob1
  have ce1 := ob1.cell
  clear hw1 rc1 ob1
  go_wp2_with fail
  · go_ret
    exact ⟨-1, rfl, (Ext.trans (.alloc (.refl _) _) HW1.out), by omega, by omega, by omega⟩
  refine (h2 _ _ _ (G2.out.ext (Ext.trans (.alloc (.refl _) _) HW1.out)) (by omega) (by omega)).mono ?_; rintro e w2 ⟨r2, rfl, hw2, ra2, rb2, rc2⟩
  have HW2 := Lib.hid hw2
  have HR2 := Lib.hid rc2
  have ob2 := OBH.out.ext hw2
  clear OBH ce1
  have OBH := Lib.hid ob2
  have ce2 := ob2.cell
  clear hw2 rc2 ob2
  go_wp2_with fail
  · go_ret
    exact ⟨-1, rfl, (Ext.trans (Ext.trans (.alloc (.refl _) _) HW1.out) HW2.out), by omega, by omega, by omega⟩
  go_ret
  refine ⟨_, rfl, (Ext.trans (Ext.trans (.alloc (.refl _) _) HW1.out) HW2.out), by omega, by omega, fun hp => ?_⟩
  have e1 := HR1.out (by omega)
  have e2 := HR2.out (by omega)
  simp only [Tr.bulkL_append, Tr.bulkL, Tr.bulk]
  simp only [Tr.bulk] at e1
  omega

set_option maxRecDepth 100000 in
set_option maxHeartbeats 1000000 in
theorem toArm_of (v0 : ByteArray) (es1 : List (List Tr)) (ts2 : List Tr) (l2 : ts2.length = 9) (h1 : ToSC 183 1 es1) (h2 : ToC 225 ts2) : ToC 246 ([.leaf (.string v0)] ++ ([.row 1 es1] ++ (ts2 ++ ([])))) := by
  intro cs w hr hbk
  simp only [Tr.bulkL_append, Tr.bulkL, Tr.bulk] at hbk
  obtain ⟨r0, rfl, K0, n0⟩ := RepL.sLeaf hr
  obtain ⟨a1, c1, r1, rfl, G1, n1⟩ := RepL.sRow n0
  obtain ⟨x2_0, x2_1, x2_2, x2_3, x2_4, x2_5, x2_6, x2_7, x2_8, r2, rfl, G2, n2⟩ := RepL.sAgg9 n1 l2
  obtain rfl := RepL.nil_eq n2
  clear hr n0 n1 n2
  go_enter Tryz.func246, Tryz.ntmps246
  go_wp2_with fail
  refine (h1 _ _ (G1.out.1.ext (.alloc (.alloc (.alloc (.refl _) _) _) _)) (by omega)).mono ?_; rintro e w1 ⟨d1, rfl, hw1, ho1⟩
  obtain ⟨da1, dc1, rfl, -, -⟩ := ho1.rep.shape
  have HW1 := Lib.hid hw1
  have HO1 := Lib.hid ho1
  have ob1 := (Three.new w _ _ _ _ _ _).ext hw1
  have OBHw1 := Lib.hid ob1
  have cew1 := ob1.o0.cell
  have hzw1 : w.heap.size < w1.heap.size := ob1.o0.lt
  clear hw1 ob1 ho1
  have EW1 := Lib.hid (Ext.trans (.alloc (.alloc (.alloc (.refl _) _) _) _) HW1.out)
  go_wp2_with (first
    | (refine wpList_store_cell rfl 54 _ _ rfl (w.heap.size + 1 + 1) 1 rfl (.slice da1 es1.length dc1) rfl rfl 229 _ OBHw1.out.o2 isz54 (by simp [splice]) rfl ?_; intro u1 hou1 hgu1 hzu1; have OBHu1 := Lib.hid (OBHw1.out.grown hgu1 hou1 (by omega) (by omega)); have HGu1 := Lib.hid hgu1; have ceu1 := OBHu1.out.o0.cell; have hqu1 : w.heap.size < u1.heap.size := OBHu1.out.o0.lt; have EGu1 := Lib.hid (grown_ext EW1.out HGu1.out (by omega)); clear hou1 hgu1 hzu1 OBHw1 cew1))
  refine (h2 _ _ (G2.out.ext EGu1.out) (by omega)).mono ?_; rintro e w2 ⟨d2, rfl, hw2, ho2⟩
  obtain ⟨d2_0, d2_1, d2_2, d2_3, d2_4, d2_5, d2_6, d2_7, d2_8, rfl⟩ := list9 (ho2.1.trans l2)
  have HW2 := Lib.hid hw2
  have HO2 := Lib.hid ho2
  have ob2 := OBHu1.out.ext hw2
  clear OBHu1 ceu1
  have OBHw2 := Lib.hid ob2
  have cew2 := ob2.o0.cell
  have hzw2 : w.heap.size < w2.heap.size := ob2.o0.lt
  clear hw2 ob2 ho2
  have EW2 := Lib.hid (Ext.trans EGu1.out HW2.out)
  have hone : Hid (∀ v ∈ ([.string v0, .slice da1 es1.length dc1, d2_0, d2_1, d2_2, d2_3, d2_4, d2_5, d2_6, d2_7, d2_8] : List Value), v.oneCell' = true) := by
    intro v hv
    simp only [List.mem_cons, List.not_mem_nil, or_false] at hv
    rcases hv with rfl | rfl | rfl | rfl | rfl | rfl | rfl | rfl | rfl | rfl | rfl <;> first | rfl | (refine HO2.out.rep.one _ ?_; simp; done)
  go_wp2_with (first
    | (refine wpList_store_rep rfl 103 _ _ rfl (w.heap.size + 1 + 1) 2 rfl [d2_0, d2_1, d2_2, d2_3, d2_4, d2_5, d2_6, d2_7, d2_8] rfl 229 _ OBHw2.out.o2 isz103 (by simp [splice]) HO2.out.rep.one ?_; intro u2 hou2 hgu2 hzu2; have OBHu2 := Lib.hid (OBHw2.out.grown hgu2 hou2 (by omega) (by omega)); have HGu2 := Lib.hid hgu2; have ceu2 := OBHu2.out.o0.cell; have hqu2 : w.heap.size < u2.heap.size := OBHu2.out.o0.lt; have EGu2 := Lib.hid (grown_ext EW2.out HGu2.out (by omega)); clear hou2 hgu2 hzu2 OBHw2 cew2)
    | (refine wpList_load_rep rfl 229 _ rfl (w.heap.size + 1 + 1) 0 rfl [.string v0, .slice da1 es1.length dc1, d2_0, d2_1, d2_2, d2_3, d2_4, d2_5, d2_6, d2_7, d2_8] _ Tryz.underlying229 isz229 (fun j v hv => by rw [OBHu2.out.o2.cell, Nat.zero_add]; simpa [splice] using hv) ?_)
    | (refine wpList_store_rep rfl 229 _ _ rfl (w.heap.size + 1) 0 rfl [.string v0, .slice da1 es1.length dc1, d2_0, d2_1, d2_2, d2_3, d2_4, d2_5, d2_6, d2_7, d2_8] rfl 229 _ OBHu2.out.o1 isz229 (by simp) hone.out ?_; intro wz hoz hgz hzz; have HOZ := Lib.hid hoz; have HGZ := Lib.hid hgz; clear hoz hgz hzz))
  have HOF : OB wz (w.heap.size + 1) 229 ⟨[.string v0, .slice da1 es1.length dc1, d2_0, d2_1, d2_2, d2_3, d2_4, d2_5, d2_6, d2_7, d2_8]⟩ := HOZ.out
  refine bodyPost_ret (results_cell_row Tryz.results246 _ _ (w.heap.size + 1) 229 ⟨[.string v0, .slice da1 es1.length dc1, d2_0, d2_1, d2_2, d2_3, d2_4, d2_5, d2_6, d2_7, d2_8]⟩ _ _ rfl HOF Tryz.underlying229 rfl isz229) rfl ⟨[.string v0, .slice da1 es1.length dc1, d2_0, d2_1, d2_2, d2_3, d2_4, d2_5, d2_6, d2_7, d2_8], rfl, (grown_ext EGu2.out HGZ.out (by omega)), ?_⟩
  have sw1 := HW1.out.size
  have su1 := HGu1.out.size
  have sw2 := HW2.out.size
  have su2 := HGu2.out.size
  have swz := HGZ.out.size
  simp only [World.size_alloc] at sw1
  have KPz : Keeps (w.heap.size + 1 + 1 + 1) u2 wz := Keeps.of_grown HGZ.out (by omega)
  have KPu2 : Keeps (w.heap.size + 1 + 1 + 1) w2 wz := Keeps.trans (Keeps.of_grown HGu2.out (by omega)) KPz
  have ow2 := HO2.out.keeps KPu2 (by intro x hx; simp only [Between, World.size_alloc] at hx; omega)
  have KPw2 : Keeps (w.heap.size + 1 + 1 + 1) u1 wz := Keeps.trans (Keeps.of_ext HW2.out) KPu2
  have KPu1 : Keeps (w.heap.size + 1 + 1 + 1) w1 wz := Keeps.trans (Keeps.of_grown HGu1.out (by omega)) KPw2
  have ow1 := HO1.out.keeps KPu1 (by intro x hx; simp only [Between, World.size_alloc] at hx; omega)
  have hall := OwnL.cons_leaf K0.out (OwnL.append (OwnL.one ow1) (OwnL.append (ow2) (OwnL.nil wz (fun _ => False)) (by intro x hx hy; simp only [Between, World.size_alloc, or_false] at hx hy <;> omega)) (by intro x hx hy; simp only [Between, World.size_alloc, or_false] at hx hy <;> omega))
  exact hall.mono (by intro x hx; simp only [Between, World.size_alloc, or_false] at hx ⊢; omega)

set_option maxRecDepth 100000 in
set_option maxHeartbeats 1000000 in
theorem eqArm_of (v0 : ByteArray) (es1 : List (List Tr)) (ts2 : List Tr) (l2 : ts2.length = 9) (h1 : EqSC 29 1 es1) (h2 : EqC 130 ts2) : EqC 202 ([.leaf (.string v0)] ++ ([.row 1 es1] ++ (ts2 ++ ([])))) := by
  intro cs ds w hr hr'
  obtain ⟨r0, rfl, K0, n0⟩ := RepL.sLeaf hr
  obtain ⟨a1, c1, r1, rfl, G1, n1⟩ := RepL.sRow n0
  obtain ⟨x2_0, x2_1, x2_2, x2_3, x2_4, x2_5, x2_6, x2_7, x2_8, r2, rfl, G2, n2⟩ := RepL.sAgg9 n1 l2
  obtain rfl := RepL.nil_eq n2
  clear hr n0 n1 n2
  obtain ⟨zr0, rfl, zK0, zn0⟩ := RepL.sLeaf hr'
  obtain ⟨za1, zc1, zr1, rfl, zG1, zn1⟩ := RepL.sRow zn0
  obtain ⟨zx2_0, zx2_1, zx2_2, zx2_3, zx2_4, zx2_5, zx2_6, zx2_7, zx2_8, zr2, rfl, zG2, zn2⟩ := RepL.sAgg9 zn1 l2
  obtain rfl := RepL.nil_eq zn2
  clear hr' zn0 zn1 zn2
  go_enter Tryz.func202, Tryz.ntmps202
  go_wp2_with fail
  refine (h1 _ _ _ (G1.out.1.ext (.alloc (.alloc (.refl _) _) _)) (zG1.out.1.ext (.alloc (.alloc (.refl _) _) _))).mono ?_; rintro e w1 ⟨rfl, hw1⟩
  have HW1 := Lib.hid hw1
  have ob1 := (Two.new w _ _ _ _).ext hw1
  have OBH := Lib.hid ob1
  have ce1 := ob1.o0.cell
  have cf1 := ob1.o1.cell
  clear hw1 ob1
  go_wp2_with fail
  refine (h2 _ _ _ (G2.out.ext (Ext.trans (.alloc (.alloc (.refl _) _) _) HW1.out)) (zG2.out.ext (Ext.trans (.alloc (.alloc (.refl _) _) _) HW1.out))).mono ?_; rintro e w2 ⟨rfl, hw2⟩
  have HW2 := Lib.hid hw2
  have ob2 := OBH.out.ext hw2
  clear OBH ce1 cf1
  have OBH := Lib.hid ob2
  have ce2 := ob2.o0.cell
  have cf2 := ob2.o1.cell
  clear hw2 ob2
  go_wp2_with fail
  go_ret
  exact ⟨rfl, (Ext.trans (Ext.trans (.alloc (.alloc (.refl _) _) _) HW1.out) HW2.out)⟩

set_option maxRecDepth 100000 in
set_option maxHeartbeats 1000000 in
theorem szArmS_of (es : List (List Tr)) (h5 : ∀ e ∈ es, e.length = 11) (H : ∀ e ∈ es, SzC 245 e) : SzSC 235 11 es := by
  intro s left w hs h0 h1
  obtain ⟨a, cap, rfl, hl, hm⟩ := hs.shape
  unfold maxLen at hm
  have HS := Lib.hid hs
  have HH := Lib.hid H
  have H5 := Lib.hid h5
  clear hs H h5
  go_enter Tryz.func235, Tryz.ntmps235
  go_wp2_with fail
  · go_ret
    exact ⟨-1, rfl, .refl _, by omega, by omega, by omega⟩
  go_loopw [1, 5] (fun l i wr => ∃ (k : Nat) (r : Int), k ≤ es.length ∧ i = .int .i64 k ∧ l = .int .i64 r ∧ Ext w wr ∧ 0 ≤ r ∧ r + es.length + Tr.bulkAll (es.take k) ≤ left) (fun _ i _ => es.length - (intOf i).toNat)
  case atStart => exact ⟨0, _, Nat.zero_le _, rfl, rfl, .refl _, by omega, by simp [Tr.bulkAll]⟩
  case round =>
    obtain ⟨k, r, hk, rfl, rfl, hw, hr0, hrb⟩ := hrel
    by_cases hlt : k < es.length
    · obtain ⟨b, off, cs, rfl, hb, hcs, hc⟩ := (HS.out.ext hw).at2 (k := k) (List.getElem?_eq_getElem hlt)
      have hmem : es[k] ∈ es := List.getElem_mem hlt
      have l5 := H5.out _ hmem
      have hbt := Lib.hid (Tr.bulkAll_take es k hlt)
      have HCS := Lib.hid hcs
      have HC := Lib.hid hc
      have HM := Lib.hid hmem
      have HI : Hid ((Tryz.prog.info? 299).map (·.size) = some cs.length) := by rw [← hcs.length, l5]; exact isz299
      clear hcs hc hmem l5
      go_wp2_with (refine wpList_load_rep rfl 299 _ rfl b (off + k * 11) rfl cs _ Tryz.underlying299 HI.out HC.out ?_)
      refine (HH.out _ HM.out _ _ _ HCS.out hr0 (by omega)).mono ?_; rintro e w1 ⟨r1, rfl, hw1, hr1, hr2, hr3⟩
      have HR3 := Lib.hid hr3
      have HW1 := Lib.hid hw1
      clear hr3 hw1
      go_wp2_with fail
      · go_ret
        exact ⟨-1, rfl, hw.trans HW1.out, by omega, by omega, by omega⟩
      · go_roundw
        case rel =>
          have p0 : 0 ≤ r1 := by assumption
          have e1 := HR3.out p0
          have e2 := hbt.out
          exact ⟨k + 1, r1, by omega, by go_num, rfl, hw.trans HW1.out, p0, by omega⟩
        case measure => simp [intOf]; omega
    · have hkl : k = es.length := by omega
      go_wp2_with fail
      go_ret
      refine ⟨r, rfl, hw, by omega, by omega, fun _ => ?_⟩
      rw [hkl, List.take_length] at hrb
      simp only [Tr.bulk]
      omega

set_option maxRecDepth 100000 in
set_option maxHeartbeats 1000000 in
theorem toArmS_of (es : List (List Tr)) (h5 : ∀ e ∈ es, e.length = 11) (H : ∀ e ∈ es, ToC 246 e) : ToSC 241 11 es := by
  intro s w hs hbk
  obtain ⟨a, cap, rfl, hl, hm⟩ := hs.shape
  unfold maxLen at hm
  have HS := Lib.hid hs
  have HH := Lib.hid H
  have H5 := Lib.hid h5
  have n0 : (0 : Int) ≤ es.length := by omega
  clear hs H h5
  go_enter Tryz.func241, Tryz.ntmps241
  go_wp2_with (refine wpList_make_rep rfl 101 (.tmp 6) rfl es.length rfl 229 Tryz.underlying101 11 184 iszb229 (by omega) (by omega) ?_; intro wm arr0 ha0 hob0 hx0 hz0; have HA0 := Lib.hid ha0; have HOB0 := Lib.hid hob0; have HX0 := Lib.hid hx0; have HZ0 := Lib.hid hz0; clear ha0 hob0 hx0 hz0)
  go_loopw [4] (fun i wr => ∃ (k : Nat) (arr : Array Value), k ≤ es.length ∧ i = .int .i64 k ∧ Ext w wr ∧ w.heap.size < wr.heap.size ∧ OB wr w.heap.size 229 arr ∧ arr.size = es.length * 11 ∧ Part wr w.heap.size arr 11 es k) (fun i _ => es.length - (intOf i).toNat)
  case atStart => exact ⟨0, arr0, Nat.zero_le _, rfl, HX0.out, by rw [HZ0.out]; omega, HOB0.out, HA0.out, Part.zero _ _ _ _ _⟩
  case round =>
    obtain ⟨k, arr, hk, rfl, hw, hgt, hob, hasz, hpart⟩ := hrel
    have HOB := Lib.hid hob
    have HAS := Lib.hid hasz
    have HP := Lib.hid hpart
    clear hob hasz hpart
    by_cases hlt : k < es.length
    · obtain ⟨b, off, cs, rfl, hb, hcs, hc⟩ := (HS.out.ext hw).at2 (k := k) (List.getElem?_eq_getElem hlt)
      have hmem : es[k] ∈ es := List.getElem_mem hlt
      have l5 := H5.out _ hmem
      have hbe := Tr.bulkAll_le hlt
      have HCS := Lib.hid hcs
      have HC := Lib.hid hc
      have HM := Lib.hid hmem
      have HL5 := Lib.hid l5
      have HI : Hid ((Tryz.prog.info? 299).map (·.size) = some cs.length) := by rw [← hcs.length, l5]; exact isz299
      clear hcs hc hmem l5
      go_wp2_with (refine wpList_load_rep rfl 299 (.tmp 18) rfl b (off + k * 11) rfl cs _ Tryz.underlying299 HI.out HC.out ?_)
      refine (HH.out _ HM.out _ _ HCS.out (by omega)).mono ?_; rintro e w1 ⟨cs1, rfl, hw1, ho1⟩
      have HW1 := Lib.hid hw1
      have HO1 := Lib.hid ho1
      have hcl : cs1.length = 11 := ho1.1.trans HL5.out
      have HCL := Lib.hid hcl
      have hfit : 0 + k * 11 + cs1.length ≤ arr.size := by have := HAS.out; omega
      have HF := Lib.hid hfit
      clear hw1 ho1 hcl hfit
      go_wp2_with (refine wpList_store_rep rfl 229 (.tmp 21) (.tmp 20) rfl w.heap.size (k * 11) rfl cs1 rfl 229 arr (HOB.out.ext HW1.out) (by rw [HCL.out]; exact isz229) (by have := HF.out; omega) (HO1.out.rep.one) ?_; intro w2 hob2 hg2 hz2; have HOB2 := Lib.hid hob2; have HG2 := Lib.hid hg2; have HZ2 := Lib.hid hz2; clear hob2 hg2 hz2)
      go_roundw
      case rel =>
        have hfit : k * 11 + cs1.length ≤ arr.size := by have := HF.out; omega
        refine ⟨k + 1, _, by omega, by go_num, ?_, ?_, HOB2.out, by rw [splice_size hfit]; exact HAS.out, HP.out.step hgt HW1.out (List.getElem?_eq_getElem hlt) HO1.out HCL.out HAS.out HG2.out HOB2.out⟩
        · exact grown_ext (hw.trans HW1.out) HG2.out (Nat.le_refl _)
        · have := HW1.out.size
          have := HZ2.out
          omega
      case measure => simp [intOf]; omega
    · have hkl : k = es.length := by omega
      go_wp2_with fail
      go_ret
      subst hkl
      exact ⟨_, rfl, hw, (HP.out.done HOB.out H5.out (Nat.le_refl _) (by unfold maxLen; omega) (Nat.le_refl _)).mono fun x hx => ⟨hx.1, hx.2⟩⟩

set_option maxRecDepth 100000 in
set_option maxHeartbeats 1000000 in
theorem eqArmS_of (es : List (List Tr)) (h5 : ∀ e ∈ es, e.length = 11) (H : ∀ e ∈ es, EqC 202 e) : EqSC 177 11 es := by
  intro s u w hs hu
  obtain ⟨a, cap, rfl, hl, hm⟩ := hs.shape
  obtain ⟨a', cap', rfl, hl', hm'⟩ := hu.shape
  unfold maxLen at hm hm'
  have HS := Lib.hid hs
  have HU := Lib.hid hu
  have HH := Lib.hid H
  have H5 := Lib.hid h5
  clear hs hu H h5
  go_enter Tryz.func177, Tryz.ntmps177
  go_wp2_with fail
  go_loopw [5] (fun i wr => ∃ k : Nat, k ≤ es.length ∧ i = .int .i64 k ∧ Ext w wr) (fun i _ => es.length - (intOf i).toNat)
  case atStart => exact ⟨0, Nat.zero_le _, rfl, .refl _⟩
  case round =>
    obtain ⟨k, hk, rfl, hw⟩ := hrel
    by_cases hlt : k < es.length
    · obtain ⟨b, off, cs, rfl, hb, hcs, hc⟩ := (HS.out.ext hw).at2 (k := k) (List.getElem?_eq_getElem hlt)
      obtain ⟨b', off', ds, rfl, hb', hds, hd⟩ := (HU.out.ext hw).at2 (k := k) (List.getElem?_eq_getElem hlt)
      have hmem : es[k] ∈ es := List.getElem_mem hlt
      have l5 := H5.out _ hmem
      have HCS := Lib.hid hcs
      have HDS := Lib.hid hds
      have HM := Lib.hid hmem
      have HC := Lib.hid hc
      have HD := Lib.hid hd
      have HI : Hid ((Tryz.prog.info? 229).map (·.size) = some cs.length) := by rw [← hcs.length, l5]; exact isz229
      have HJ : Hid ((Tryz.prog.info? 229).map (·.size) = some ds.length) := by rw [← hds.length, l5]; exact isz229
      clear hcs hds hc hd l5 hmem
      go_wp2_with fail
      have ki : (k : Int) < (es.length : Int) := by omega
      have k0 : (0 : Int) ≤ (k : Int) := by omega
      refine wp_region_still_tail 8 (by kernel_rfl) (by kernel_rfl) ?_
      simp only [List.take_succ_cons, List.take_zero, List.drop_succ_cons, List.drop_zero]
      change wpStill _ _ wr.drew _ _ _
      repeat (first
        | (refine wpStill_load_rep rfl 229 (.tmp 19) rfl b (off + k * 11) rfl cs _ Tryz.underlying229 HI.out HC.out ?_; simp only [Act.put])
        | (refine wpStill_load_rep rfl 229 (.tmp 23) rfl b' (off' + k * 11) rfl ds _ Tryz.underlying229 HJ.out HD.out ?_; simp only [Act.put])
        | still_step)
      refine wpStill_nil ?_
      change wpList _ _ _ _ _ wr.drew
      go_wp2_with fail
      refine (HH.out _ HM.out _ _ _ (HCS.out.ext (.drew (.refl _))) (HDS.out.ext (.drew (.refl _)))).mono ?_; rintro e w1 ⟨rfl, hw1⟩
      have HW1 := Lib.hid hw1
      clear hw1
      go_wp2_with fail
      go_roundw
      case rel => exact ⟨k + 1, by omega, by go_num, hw.trans (.trans (.drew (.refl _)) HW1.out)⟩
      case measure => simp [intOf]; omega
    · go_wp2_with fail
      go_ret
      exact ⟨rfl, hw⟩

end Go.Proofs.YtnakkelglbcecaaGreat

namespace Go.Proofs.YtnakkelglbcecaaGreat
open Go.RowKit Go.Proofs

set_option maxRecDepth 100000 in
set_option maxHeartbeats 1000000 in
theorem szMethod_of (v0 : ByteArray) (es1 : List (List Tr)) (ts2 : List Tr) (l2 : ts2.length = 9) (h1 : SzSC 178 1 es1) (h2 : SzC 220 ts2) : SzC 232 ([.leaf (.string v0)] ++ ([.row 1 es1] ++ (ts2 ++ ([])))) := by
  intro cs left w hr hl0 hl1
  obtain ⟨r0, rfl, K0, n0⟩ := RepL.sLeaf hr
  obtain ⟨a1, c1, r1, rfl, G1, n1⟩ := RepL.sRow n0
  obtain ⟨x2_0, x2_1, x2_2, x2_3, x2_4, x2_5, x2_6, x2_7, x2_8, r2, rfl, G2, n2⟩ := RepL.sAgg9 n1 l2
  obtain rfl := RepL.nil_eq n2
  clear hr n0 n1 n2
  have q0 : v0.size ≤ 9223372036854775807 := by have := K0.out; simp only [LeafOk, maxLen] at this; omega
  go_enter Tryz.func232, Tryz.ntmps232
  go_wp2_with fail
  · go_ret
    exact ⟨-1, rfl, (.alloc (.refl _) _), by omega, by omega, by omega⟩
  refine (h1 _ _ _ (G1.out.1.ext (.alloc (.refl _) _)) (by omega) (by omega)).mono ?_; rintro e w1 ⟨r1, rfl, hw1, ra1, rb1, rc1⟩
  have HW1 := Lib.hid hw1
  have HR1 := Lib.hid rc1
  have ob1 := (OB.new w _ _).ext hw1
  have OBH := Lib.hid ob1
  have ce1 := ob1.cell
  clear hw1 rc1 ob1
  go_wp2_with fail
  · go_ret
    exact ⟨-1, rfl, (Ext.trans (.alloc (.refl _) _) HW1.out), by omega, by omega, by omega⟩
  refine (h2 _ _ _ (G2.out.ext (Ext.trans (.alloc (.refl _) _) HW1.out)) (by omega) (by omega)).mono ?_; rintro e w2 ⟨r2, rfl, hw2, ra2, rb2, rc2⟩
  have HW2 := Lib.hid hw2
  have HR2 := Lib.hid rc2
  have ob2 := OBH.out.ext hw2
  clear OBH ce1
  have OBH := Lib.hid ob2
  have ce2 := ob2.cell
  clear hw2 rc2 ob2
  go_wp2_with fail
  · go_ret
    exact ⟨-1, rfl, (Ext.trans (Ext.trans (.alloc (.refl _) _) HW1.out) HW2.out), by omega, by omega, by omega⟩
  go_ret
  refine ⟨_, rfl, (Ext.trans (Ext.trans (.alloc (.refl _) _) HW1.out) HW2.out), by omega, by omega, fun hp => ?_⟩
  have e1 := HR1.out (by omega)
  have e2 := HR2.out (by omega)
  simp only [Tr.bulkL_append, Tr.bulkL, Tr.bulk]
  simp only [Tr.bulk] at e1
  omega

set_option maxRecDepth 100000 in
set_option maxHeartbeats 1000000 in
theorem toMethod_of (v0 : ByteArray) (es1 : List (List Tr)) (ts2 : List Tr) (l2 : ts2.length = 9) (h1 : ToSC 183 1 es1) (h2 : ToC 225 ts2) : ToC 238 ([.leaf (.string v0)] ++ ([.row 1 es1] ++ (ts2 ++ ([])))) := by
  intro cs w hr hbk
  simp only [Tr.bulkL_append, Tr.bulkL, Tr.bulk] at hbk
  obtain ⟨r0, rfl, K0, n0⟩ := RepL.sLeaf hr
  obtain ⟨a1, c1, r1, rfl, G1, n1⟩ := RepL.sRow n0
  obtain ⟨x2_0, x2_1, x2_2, x2_3, x2_4, x2_5, x2_6, x2_7, x2_8, r2, rfl, G2, n2⟩ := RepL.sAgg9 n1 l2
  obtain rfl := RepL.nil_eq n2
  clear hr n0 n1 n2
  go_enter Tryz.func238, Tryz.ntmps238
  go_wp2_with fail
  refine (h1 _ _ (G1.out.1.ext (.alloc (.alloc (.alloc (.refl _) _) _) _)) (by omega)).mono ?_; rintro e w1 ⟨d1, rfl, hw1, ho1⟩
  obtain ⟨da1, dc1, rfl, -, -⟩ := ho1.rep.shape
  have HW1 := Lib.hid hw1
  have HO1 := Lib.hid ho1
  have ob1 := (Three.new w _ _ _ _ _ _).ext hw1
  have OBHw1 := Lib.hid ob1
  have cew1 := ob1.o0.cell
  have hzw1 : w.heap.size < w1.heap.size := ob1.o0.lt
  clear hw1 ob1 ho1
  have EW1 := Lib.hid (Ext.trans (.alloc (.alloc (.alloc (.refl _) _) _) _) HW1.out)
  go_wp2_with (first
    | (refine wpList_store_cell rfl 54 _ _ rfl (w.heap.size + 1 + 1) 1 rfl (.slice da1 es1.length dc1) rfl rfl 260 _ OBHw1.out.o2 isz54 (by simp [splice]) rfl ?_; intro u1 hou1 hgu1 hzu1; have OBHu1 := Lib.hid (OBHw1.out.grown hgu1 hou1 (by omega) (by omega)); have HGu1 := Lib.hid hgu1; have ceu1 := OBHu1.out.o0.cell; have hqu1 : w.heap.size < u1.heap.size := OBHu1.out.o0.lt; have EGu1 := Lib.hid (grown_ext EW1.out HGu1.out (by omega)); clear hou1 hgu1 hzu1 OBHw1 cew1))
  refine (h2 _ _ (G2.out.ext EGu1.out) (by omega)).mono ?_; rintro e w2 ⟨d2, rfl, hw2, ho2⟩
  obtain ⟨d2_0, d2_1, d2_2, d2_3, d2_4, d2_5, d2_6, d2_7, d2_8, rfl⟩ := list9 (ho2.1.trans l2)
  have HW2 := Lib.hid hw2
  have HO2 := Lib.hid ho2
  have ob2 := OBHu1.out.ext hw2
  clear OBHu1 ceu1
  have OBHw2 := Lib.hid ob2
  have cew2 := ob2.o0.cell
  have hzw2 : w.heap.size < w2.heap.size := ob2.o0.lt
  clear hw2 ob2 ho2
  have EW2 := Lib.hid (Ext.trans EGu1.out HW2.out)
  have hone : Hid (∀ v ∈ ([.string v0, .slice da1 es1.length dc1, d2_0, d2_1, d2_2, d2_3, d2_4, d2_5, d2_6, d2_7, d2_8] : List Value), v.oneCell' = true) := by
    intro v hv
    simp only [List.mem_cons, List.not_mem_nil, or_false] at hv
    rcases hv with rfl | rfl | rfl | rfl | rfl | rfl | rfl | rfl | rfl | rfl | rfl <;> first | rfl | (refine HO2.out.rep.one _ ?_; simp; done)
  go_wp2_with (first
    | (refine wpList_store_rep rfl 103 _ _ rfl (w.heap.size + 1 + 1) 2 rfl [d2_0, d2_1, d2_2, d2_3, d2_4, d2_5, d2_6, d2_7, d2_8] rfl 260 _ OBHw2.out.o2 isz103 (by simp [splice]) HO2.out.rep.one ?_; intro u2 hou2 hgu2 hzu2; have OBHu2 := Lib.hid (OBHw2.out.grown hgu2 hou2 (by omega) (by omega)); have HGu2 := Lib.hid hgu2; have ceu2 := OBHu2.out.o0.cell; have hqu2 : w.heap.size < u2.heap.size := OBHu2.out.o0.lt; have EGu2 := Lib.hid (grown_ext EW2.out HGu2.out (by omega)); clear hou2 hgu2 hzu2 OBHw2 cew2)
    | (refine wpList_load_rep rfl 260 _ rfl (w.heap.size + 1 + 1) 0 rfl [.string v0, .slice da1 es1.length dc1, d2_0, d2_1, d2_2, d2_3, d2_4, d2_5, d2_6, d2_7, d2_8] _ Tryz.underlying260 isz260 (fun j v hv => by rw [OBHu2.out.o2.cell, Nat.zero_add]; simpa [splice] using hv) ?_)
    | (refine wpList_store_rep rfl 260 _ _ rfl (w.heap.size + 1) 0 rfl [.string v0, .slice da1 es1.length dc1, d2_0, d2_1, d2_2, d2_3, d2_4, d2_5, d2_6, d2_7, d2_8] rfl 260 _ OBHu2.out.o1 isz260 (by simp) hone.out ?_; intro wz hoz hgz hzz; have HOZ := Lib.hid hoz; have HGZ := Lib.hid hgz; clear hoz hgz hzz))
  have HOF : OB wz (w.heap.size + 1) 260 ⟨[.string v0, .slice da1 es1.length dc1, d2_0, d2_1, d2_2, d2_3, d2_4, d2_5, d2_6, d2_7, d2_8]⟩ := HOZ.out
  refine bodyPost_ret (results_cell_row Tryz.results238 _ _ (w.heap.size + 1) 260 ⟨[.string v0, .slice da1 es1.length dc1, d2_0, d2_1, d2_2, d2_3, d2_4, d2_5, d2_6, d2_7, d2_8]⟩ _ _ rfl HOF Tryz.underlying260 rfl isz260) rfl ⟨[.string v0, .slice da1 es1.length dc1, d2_0, d2_1, d2_2, d2_3, d2_4, d2_5, d2_6, d2_7, d2_8], rfl, (grown_ext EGu2.out HGZ.out (by omega)), ?_⟩
  have sw1 := HW1.out.size
  have su1 := HGu1.out.size
  have sw2 := HW2.out.size
  have su2 := HGu2.out.size
  have swz := HGZ.out.size
  simp only [World.size_alloc] at sw1
  have KPz : Keeps (w.heap.size + 1 + 1 + 1) u2 wz := Keeps.of_grown HGZ.out (by omega)
  have KPu2 : Keeps (w.heap.size + 1 + 1 + 1) w2 wz := Keeps.trans (Keeps.of_grown HGu2.out (by omega)) KPz
  have ow2 := HO2.out.keeps KPu2 (by intro x hx; simp only [Between, World.size_alloc] at hx; omega)
  have KPw2 : Keeps (w.heap.size + 1 + 1 + 1) u1 wz := Keeps.trans (Keeps.of_ext HW2.out) KPu2
  have KPu1 : Keeps (w.heap.size + 1 + 1 + 1) w1 wz := Keeps.trans (Keeps.of_grown HGu1.out (by omega)) KPw2
  have ow1 := HO1.out.keeps KPu1 (by intro x hx; simp only [Between, World.size_alloc] at hx; omega)
  have hall := OwnL.cons_leaf K0.out (OwnL.append (OwnL.one ow1) (OwnL.append (ow2) (OwnL.nil wz (fun _ => False)) (by intro x hx hy; simp only [Between, World.size_alloc, or_false] at hx hy <;> omega)) (by intro x hx hy; simp only [Between, World.size_alloc, or_false] at hx hy <;> omega))
  exact hall.mono (by intro x hx; simp only [Between, World.size_alloc, or_false] at hx ⊢; omega)

set_option maxRecDepth 100000 in
set_option maxHeartbeats 1000000 in
theorem eqMethod_of (v0 : ByteArray) (es1 : List (List Tr)) (ts2 : List Tr) (l2 : ts2.length = 9) (h1 : EqSC 29 1 es1) (h2 : EqC 130 ts2) : EqC 243 ([.leaf (.string v0)] ++ ([.row 1 es1] ++ (ts2 ++ ([])))) := by
  intro cs ds w hr hr'
  obtain ⟨r0, rfl, K0, n0⟩ := RepL.sLeaf hr
  obtain ⟨a1, c1, r1, rfl, G1, n1⟩ := RepL.sRow n0
  obtain ⟨x2_0, x2_1, x2_2, x2_3, x2_4, x2_5, x2_6, x2_7, x2_8, r2, rfl, G2, n2⟩ := RepL.sAgg9 n1 l2
  obtain rfl := RepL.nil_eq n2
  clear hr n0 n1 n2
  obtain ⟨zr0, rfl, zK0, zn0⟩ := RepL.sLeaf hr'
  obtain ⟨za1, zc1, zr1, rfl, zG1, zn1⟩ := RepL.sRow zn0
  obtain ⟨zx2_0, zx2_1, zx2_2, zx2_3, zx2_4, zx2_5, zx2_6, zx2_7, zx2_8, zr2, rfl, zG2, zn2⟩ := RepL.sAgg9 zn1 l2
  obtain rfl := RepL.nil_eq zn2
  clear hr' zn0 zn1 zn2
  go_enter Tryz.func243, Tryz.ntmps243
  go_wp2_with fail
  refine (h1 _ _ _ (G1.out.1.ext (.alloc (.alloc (.refl _) _) _)) (zG1.out.1.ext (.alloc (.alloc (.refl _) _) _))).mono ?_; rintro e w1 ⟨rfl, hw1⟩
  have HW1 := Lib.hid hw1
  have ob1 := (Two.new w _ _ _ _).ext hw1
  have OBH := Lib.hid ob1
  have ce1 := ob1.o0.cell
  have cf1 := ob1.o1.cell
  clear hw1 ob1
  go_wp2_with fail
  refine (h2 _ _ _ (G2.out.ext (Ext.trans (.alloc (.alloc (.refl _) _) _) HW1.out)) (zG2.out.ext (Ext.trans (.alloc (.alloc (.refl _) _) _) HW1.out))).mono ?_; rintro e w2 ⟨rfl, hw2⟩
  have HW2 := Lib.hid hw2
  have ob2 := OBH.out.ext hw2
  clear OBH ce1 cf1
  have OBH := Lib.hid ob2
  have ce2 := ob2.o0.cell
  have cf2 := ob2.o1.cell
  clear hw2 ob2
  go_wp2_with fail
  go_ret
  exact ⟨rfl, (Ext.trans (Ext.trans (.alloc (.alloc (.refl _) _) _) HW1.out) HW2.out)⟩

set_option maxRecDepth 100000 in
set_option maxHeartbeats 1000000 in
theorem szMethodS_of (es : List (List Tr)) (h5 : ∀ e ∈ es, e.length = 11) (H : ∀ e ∈ es, SzC 232 e) : SzSC 218 11 es := by
  intro s left w hs h0 h1
  obtain ⟨a, cap, rfl, hl, hm⟩ := hs.shape
  unfold maxLen at hm
  have HS := Lib.hid hs
  have HH := Lib.hid H
  have H5 := Lib.hid h5
  clear hs H h5
  go_enter Tryz.func218, Tryz.ntmps218
  go_wp2_with fail
  · go_ret
    exact ⟨-1, rfl, .refl _, by omega, by omega, by omega⟩
  go_loopw [1, 5] (fun l i wr => ∃ (k : Nat) (r : Int), k ≤ es.length ∧ i = .int .i64 k ∧ l = .int .i64 r ∧ Ext w wr ∧ 0 ≤ r ∧ r + es.length + Tr.bulkAll (es.take k) ≤ left) (fun _ i _ => es.length - (intOf i).toNat)
  case atStart => exact ⟨0, _, Nat.zero_le _, rfl, rfl, .refl _, by omega, by simp [Tr.bulkAll]⟩
  case round =>
    obtain ⟨k, r, hk, rfl, rfl, hw, hr0, hrb⟩ := hrel
    by_cases hlt : k < es.length
    · obtain ⟨b, off, cs, rfl, hb, hcs, hc⟩ := (HS.out.ext hw).at2 (k := k) (List.getElem?_eq_getElem hlt)
      have hmem : es[k] ∈ es := List.getElem_mem hlt
      have l5 := H5.out _ hmem
      have hbt := Lib.hid (Tr.bulkAll_take es k hlt)
      have HCS := Lib.hid hcs
      have HC := Lib.hid hc
      have HM := Lib.hid hmem
      have HI : Hid ((Tryz.prog.info? 283).map (·.size) = some cs.length) := by rw [← hcs.length, l5]; exact isz283
      clear hcs hc hmem l5
      go_wp2_with (refine wpList_load_rep rfl 283 _ rfl b (off + k * 11) rfl cs _ Tryz.underlying283 HI.out HC.out ?_)
      refine (HH.out _ HM.out _ _ _ HCS.out hr0 (by omega)).mono ?_; rintro e w1 ⟨r1, rfl, hw1, hr1, hr2, hr3⟩
      have HR3 := Lib.hid hr3
      have HW1 := Lib.hid hw1
      clear hr3 hw1
      go_wp2_with fail
      · go_ret
        exact ⟨-1, rfl, hw.trans HW1.out, by omega, by omega, by omega⟩
      · go_roundw
        case rel =>
          have p0 : 0 ≤ r1 := by assumption
          have e1 := HR3.out p0
          have e2 := hbt.out
          exact ⟨k + 1, r1, by omega, by go_num, rfl, hw.trans HW1.out, p0, by omega⟩
        case measure => simp [intOf]; omega
    · have hkl : k = es.length := by omega
      go_wp2_with fail
      go_ret
      refine ⟨r, rfl, hw, by omega, by omega, fun _ => ?_⟩
      rw [hkl, List.take_length] at hrb
      simp only [Tr.bulk]
      omega

set_option maxRecDepth 100000 in
set_option maxHeartbeats 1000000 in
theorem toMethodS_of (es : List (List Tr)) (h5 : ∀ e ∈ es, e.length = 11) (H : ∀ e ∈ es, ToC 238 e) : ToSC 223 11 es := by
  intro s w hs hbk
  obtain ⟨a, cap, rfl, hl, hm⟩ := hs.shape
  unfold maxLen at hm
  have HS := Lib.hid hs
  have HH := Lib.hid H
  have H5 := Lib.hid h5
  have n0 : (0 : Int) ≤ es.length := by omega
  clear hs H h5
  go_enter Tryz.func223, Tryz.ntmps223
  go_wp2_with (refine wpList_make_rep rfl 111 (.tmp 6) rfl es.length rfl 260 Tryz.underlying111 11 184 iszb260 (by omega) (by omega) ?_; intro wm arr0 ha0 hob0 hx0 hz0; have HA0 := Lib.hid ha0; have HOB0 := Lib.hid hob0; have HX0 := Lib.hid hx0; have HZ0 := Lib.hid hz0; clear ha0 hob0 hx0 hz0)
  go_loopw [4] (fun i wr => ∃ (k : Nat) (arr : Array Value), k ≤ es.length ∧ i = .int .i64 k ∧ Ext w wr ∧ w.heap.size < wr.heap.size ∧ OB wr w.heap.size 260 arr ∧ arr.size = es.length * 11 ∧ Part wr w.heap.size arr 11 es k) (fun i _ => es.length - (intOf i).toNat)
  case atStart => exact ⟨0, arr0, Nat.zero_le _, rfl, HX0.out, by rw [HZ0.out]; omega, HOB0.out, HA0.out, Part.zero _ _ _ _ _⟩
  case round =>
    obtain ⟨k, arr, hk, rfl, hw, hgt, hob, hasz, hpart⟩ := hrel
    have HOB := Lib.hid hob
    have HAS := Lib.hid hasz
    have HP := Lib.hid hpart
    clear hob hasz hpart
    by_cases hlt : k < es.length
    · obtain ⟨b, off, cs, rfl, hb, hcs, hc⟩ := (HS.out.ext hw).at2 (k := k) (List.getElem?_eq_getElem hlt)
      have hmem : es[k] ∈ es := List.getElem_mem hlt
      have l5 := H5.out _ hmem
      have hbe := Tr.bulkAll_le hlt
      have HCS := Lib.hid hcs
      have HC := Lib.hid hc
      have HM := Lib.hid hmem
      have HL5 := Lib.hid l5
      have HI : Hid ((Tryz.prog.info? 283).map (·.size) = some cs.length) := by rw [← hcs.length, l5]; exact isz283
      clear hcs hc hmem l5
      go_wp2_with (refine wpList_load_rep rfl 283 (.tmp 18) rfl b (off + k * 11) rfl cs _ Tryz.underlying283 HI.out HC.out ?_)
      refine (HH.out _ HM.out _ _ HCS.out (by omega)).mono ?_; rintro e w1 ⟨cs1, rfl, hw1, ho1⟩
      have HW1 := Lib.hid hw1
      have HO1 := Lib.hid ho1
      have hcl : cs1.length = 11 := ho1.1.trans HL5.out
      have HCL := Lib.hid hcl
      have hfit : 0 + k * 11 + cs1.length ≤ arr.size := by have := HAS.out; omega
      have HF := Lib.hid hfit
      clear hw1 ho1 hcl hfit
      go_wp2_with (refine wpList_store_rep rfl 260 (.tmp 21) (.tmp 20) rfl w.heap.size (k * 11) rfl cs1 rfl 260 arr (HOB.out.ext HW1.out) (by rw [HCL.out]; exact isz260) (by have := HF.out; omega) (HO1.out.rep.one) ?_; intro w2 hob2 hg2 hz2; have HOB2 := Lib.hid hob2; have HG2 := Lib.hid hg2; have HZ2 := Lib.hid hz2; clear hob2 hg2 hz2)
      go_roundw
      case rel =>
        have hfit : k * 11 + cs1.length ≤ arr.size := by have := HF.out; omega
        refine ⟨k + 1, _, by omega, by go_num, ?_, ?_, HOB2.out, by rw [splice_size hfit]; exact HAS.out, HP.out.step hgt HW1.out (List.getElem?_eq_getElem hlt) HO1.out HCL.out HAS.out HG2.out HOB2.out⟩
        · exact grown_ext (hw.trans HW1.out) HG2.out (Nat.le_refl _)
        · have := HW1.out.size
          have := HZ2.out
          omega
      case measure => simp [intOf]; omega
    · have hkl : k = es.length := by omega
      go_wp2_with fail
      go_ret
      subst hkl
      exact ⟨_, rfl, hw, (HP.out.done HOB.out H5.out (Nat.le_refl _) (by unfold maxLen; omega) (Nat.le_refl _)).mono fun x hx => ⟨hx.1, hx.2⟩⟩

set_option maxRecDepth 100000 in
set_option maxHeartbeats 1000000 in
theorem eqMethodS_of (es : List (List Tr)) (h5 : ∀ e ∈ es, e.length = 11) (H : ∀ e ∈ es, EqC 243 e) : EqSC 227 11 es := by
  intro s u w hs hu
  obtain ⟨a, cap, rfl, hl, hm⟩ := hs.shape
  obtain ⟨a', cap', rfl, hl', hm'⟩ := hu.shape
  unfold maxLen at hm hm'
  have HS := Lib.hid hs
  have HU := Lib.hid hu
  have HH := Lib.hid H
  have H5 := Lib.hid h5
  clear hs hu H h5
  go_enter Tryz.func227, Tryz.ntmps227
  go_wp2_with fail
  go_loopw [5] (fun i wr => ∃ k : Nat, k ≤ es.length ∧ i = .int .i64 k ∧ Ext w wr) (fun i _ => es.length - (intOf i).toNat)
  case atStart => exact ⟨0, Nat.zero_le _, rfl, .refl _⟩
  case round =>
    obtain ⟨k, hk, rfl, hw⟩ := hrel
    by_cases hlt : k < es.length
    · obtain ⟨b, off, cs, rfl, hb, hcs, hc⟩ := (HS.out.ext hw).at2 (k := k) (List.getElem?_eq_getElem hlt)
      obtain ⟨b', off', ds, rfl, hb', hds, hd⟩ := (HU.out.ext hw).at2 (k := k) (List.getElem?_eq_getElem hlt)
      have hmem : es[k] ∈ es := List.getElem_mem hlt
      have l5 := H5.out _ hmem
      have HCS := Lib.hid hcs
      have HDS := Lib.hid hds
      have HM := Lib.hid hmem
      have HC := Lib.hid hc
      have HD := Lib.hid hd
      have HI : Hid ((Tryz.prog.info? 260).map (·.size) = some cs.length) := by rw [← hcs.length, l5]; exact isz260
      have HJ : Hid ((Tryz.prog.info? 260).map (·.size) = some ds.length) := by rw [← hds.length, l5]; exact isz260
      clear hcs hds hc hd l5 hmem
      go_wp2_with fail
      have ki : (k : Int) < (es.length : Int) := by omega
      have k0 : (0 : Int) ≤ (k : Int) := by omega
      refine wp_region_still_tail 8 (by kernel_rfl) (by kernel_rfl) ?_
      simp only [List.take_succ_cons, List.take_zero, List.drop_succ_cons, List.drop_zero]
      change wpStill _ _ wr.drew _ _ _
      repeat (first
        | (refine wpStill_load_rep rfl 260 (.tmp 19) rfl b (off + k * 11) rfl cs _ Tryz.underlying260 HI.out HC.out ?_; simp only [Act.put])
        | (refine wpStill_load_rep rfl 260 (.tmp 23) rfl b' (off' + k * 11) rfl ds _ Tryz.underlying260 HJ.out HD.out ?_; simp only [Act.put])
        | still_step)
      refine wpStill_nil ?_
      change wpList _ _ _ _ _ wr.drew
      go_wp2_with fail
      refine (HH.out _ HM.out _ _ _ (HCS.out.ext (.drew (.refl _))) (HDS.out.ext (.drew (.refl _)))).mono ?_; rintro e w1 ⟨rfl, hw1⟩
      have HW1 := Lib.hid hw1
      clear hw1
      go_wp2_with fail
      go_roundw
      case rel => exact ⟨k + 1, by omega, by go_num, hw.trans (.trans (.drew (.refl _)) HW1.out)⟩
      case measure => simp [intOf]; omega
    · go_wp2_with fail
      go_ret
      exact ⟨rfl, hw⟩

end Go.Proofs.YtnakkelglbcecaaGreat

namespace Go.Proofs.YtnakkelglbcecaaGreat
open Go.RowKit Go.Proofs

set_option maxRecDepth 100000 in
set_option maxHeartbeats 1000000 in
theorem szBound_of (v0 : ByteArray) (ts1 : List Tr) (l1 : ts1.length = 3) (h1 : SzC 43 ts1) : SzC 21 ([.leaf (.string v0)] ++ (ts1 ++ ([]))) := by
  intro cs left w hr hl0 hl1
  obtain ⟨r0, rfl, K0, n0⟩ := RepL.sLeaf hr
  obtain ⟨x1_0, x1_1, x1_2, r1, rfl, G1, n1⟩ := RepL.sAgg3 n0 l1
  obtain rfl := RepL.nil_eq n1
  clear hr n0 n1
  have q0 : v0.size ≤ 9223372036854775807 := by have := K0.out; simp only [LeafOk, maxLen] at this; omega
  go_enter Tryz.func21, Tryz.ntmps21
  go_wp2_with fail
  · go_ret
    exact ⟨-1, rfl, (.alloc (.refl _) _), by omega, by omega, by omega⟩
  refine (h1 _ _ _ (G1.out.ext (.alloc (.refl _) _)) (by omega) (by omega)).mono ?_; rintro e w1 ⟨r1, rfl, hw1, ra1, rb1, rc1⟩
  have HW1 := Lib.hid hw1
  have HR1 := Lib.hid rc1
  have ob1 := (OB.new w _ _).ext hw1
  have OBH := Lib.hid ob1
  have ce1 := ob1.cell
  clear hw1 rc1 ob1
  go_wp2_with fail
  · go_ret
    exact ⟨-1, rfl, (Ext.trans (.alloc (.refl _) _) HW1.out), by omega, by omega, by omega⟩
  go_ret
  refine ⟨_, rfl, (Ext.trans (.alloc (.refl _) _) HW1.out), by omega, by omega, fun hp => ?_⟩
  have e1 := HR1.out (by omega)
  simp only [Tr.bulkL_append, Tr.bulkL, Tr.bulk]
  omega

set_option maxRecDepth 100000 in
set_option maxHeartbeats 1000000 in
theorem toBound_of (v0 : ByteArray) (ts1 : List Tr) (l1 : ts1.length = 3) (h1 : ToC 45 ts1) : ToC 23 ([.leaf (.string v0)] ++ (ts1 ++ ([]))) := by
  intro cs w hr hbk
  simp only [Tr.bulkL_append, Tr.bulkL, Tr.bulk] at hbk
  obtain ⟨r0, rfl, K0, n0⟩ := RepL.sLeaf hr
  obtain ⟨x1_0, x1_1, x1_2, r1, rfl, G1, n1⟩ := RepL.sAgg3 n0 l1
  obtain rfl := RepL.nil_eq n1
  clear hr n0 n1
  go_enter Tryz.func23, Tryz.ntmps23
  go_wp2_with fail
  refine (h1 _ _ (G1.out.ext (.alloc (.alloc (.alloc (.refl _) _) _) _)) (by omega)).mono ?_; rintro e w1 ⟨d1, rfl, hw1, ho1⟩
  obtain ⟨d1_0, d1_1, d1_2, rfl⟩ := list3 (ho1.1.trans l1)
  have HW1 := Lib.hid hw1
  have HO1 := Lib.hid ho1
  have ob1 := (Three.new w _ _ _ _ _ _).ext hw1
  have OBHw1 := Lib.hid ob1
  have cew1 := ob1.o0.cell
  have hzw1 : w.heap.size < w1.heap.size := ob1.o0.lt
  clear hw1 ob1 ho1
  have EW1 := Lib.hid (Ext.trans (.alloc (.alloc (.alloc (.refl _) _) _) _) HW1.out)
  have hone : Hid (∀ v ∈ ([.string v0, d1_0, d1_1, d1_2] : List Value), v.oneCell' = true) := by
    intro v hv
    simp only [List.mem_cons, List.not_mem_nil, or_false] at hv
    rcases hv with rfl | rfl | rfl | rfl <;> first | rfl | (refine HO1.out.rep.one _ ?_; simp; done)
  go_wp2_with (first
    | (refine wpList_store_rep rfl 47 _ _ rfl (w.heap.size + 1 + 1) 1 rfl [d1_0, d1_1, d1_2] rfl 49 _ OBHw1.out.o2 isz47 (by simp [splice]) HO1.out.rep.one ?_; intro u1 hou1 hgu1 hzu1; have OBHu1 := Lib.hid (OBHw1.out.grown hgu1 hou1 (by omega) (by omega)); have HGu1 := Lib.hid hgu1; have ceu1 := OBHu1.out.o0.cell; have hqu1 : w.heap.size < u1.heap.size := OBHu1.out.o0.lt; have EGu1 := Lib.hid (grown_ext EW1.out HGu1.out (by omega)); clear hou1 hgu1 hzu1 OBHw1 cew1)
    | (refine wpList_load_rep rfl 49 _ rfl (w.heap.size + 1 + 1) 0 rfl [.string v0, d1_0, d1_1, d1_2] _ Tryz.underlying49 isz49 (fun j v hv => by rw [OBHu1.out.o2.cell, Nat.zero_add]; simpa [splice] using hv) ?_)
    | (refine wpList_store_rep rfl 49 _ _ rfl (w.heap.size + 1) 0 rfl [.string v0, d1_0, d1_1, d1_2] rfl 49 _ OBHu1.out.o1 isz49 (by simp) hone.out ?_; intro wz hoz hgz hzz; have HOZ := Lib.hid hoz; have HGZ := Lib.hid hgz; clear hoz hgz hzz))
  have HOF : OB wz (w.heap.size + 1) 49 ⟨[.string v0, d1_0, d1_1, d1_2]⟩ := HOZ.out
  refine bodyPost_ret (results_cell_row Tryz.results23 _ _ (w.heap.size + 1) 49 ⟨[.string v0, d1_0, d1_1, d1_2]⟩ _ _ rfl HOF Tryz.underlying49 rfl isz49) rfl ⟨[.string v0, d1_0, d1_1, d1_2], rfl, (grown_ext EGu1.out HGZ.out (by omega)), ?_⟩
  have sw1 := HW1.out.size
  have su1 := HGu1.out.size
  have swz := HGZ.out.size
  simp only [World.size_alloc] at sw1
  have KPz : Keeps (w.heap.size + 1 + 1 + 1) u1 wz := Keeps.of_grown HGZ.out (by omega)
  have KPu1 : Keeps (w.heap.size + 1 + 1 + 1) w1 wz := Keeps.trans (Keeps.of_grown HGu1.out (by omega)) KPz
  have ow1 := HO1.out.keeps KPu1 (by intro x hx; simp only [Between, World.size_alloc] at hx; omega)
  have hall := OwnL.cons_leaf K0.out (OwnL.append (ow1) (OwnL.nil wz (fun _ => False)) (by intro x hx hy; simp only [Between, World.size_alloc, or_false] at hx hy <;> omega))
  exact hall.mono (by intro x hx; simp only [Between, World.size_alloc, or_false] at hx ⊢; omega)

set_option maxRecDepth 100000 in
set_option maxHeartbeats 1000000 in
theorem eqBound_of (v0 : ByteArray) (ts1 : List Tr) (l1 : ts1.length = 3) (h1 : EqC 47 ts1) : EqC 26 ([.leaf (.string v0)] ++ (ts1 ++ ([]))) := by
  intro cs ds w hr hr'
  obtain ⟨r0, rfl, K0, n0⟩ := RepL.sLeaf hr
  obtain ⟨x1_0, x1_1, x1_2, r1, rfl, G1, n1⟩ := RepL.sAgg3 n0 l1
  obtain rfl := RepL.nil_eq n1
  clear hr n0 n1
  obtain ⟨zr0, rfl, zK0, zn0⟩ := RepL.sLeaf hr'
  obtain ⟨zx1_0, zx1_1, zx1_2, zr1, rfl, zG1, zn1⟩ := RepL.sAgg3 zn0 l1
  obtain rfl := RepL.nil_eq zn1
  clear hr' zn0 zn1
  go_enter Tryz.func26, Tryz.ntmps26
  go_wp2_with fail
  refine (h1 _ _ _ (G1.out.ext (.alloc (.alloc (.refl _) _) _)) (zG1.out.ext (.alloc (.alloc (.refl _) _) _))).mono ?_; rintro e w1 ⟨rfl, hw1⟩
  have HW1 := Lib.hid hw1
  have ob1 := (Two.new w _ _ _ _).ext hw1
  have OBH := Lib.hid ob1
  have ce1 := ob1.o0.cell
  have cf1 := ob1.o1.cell
  clear hw1 ob1
  go_wp2_with fail
  go_ret
  exact ⟨rfl, (Ext.trans (.alloc (.alloc (.refl _) _) _) HW1.out)⟩

set_option maxRecDepth 100000 in
set_option maxHeartbeats 1000000 in
theorem szBoundS_of (es : List (List Tr)) (h5 : ∀ e ∈ es, e.length = 4) (H : ∀ e ∈ es, SzC 21 e) : SzSC 50 4 es := by
  intro s left w hs h0 h1
  obtain ⟨a, cap, rfl, hl, hm⟩ := hs.shape
  unfold maxLen at hm
  have HS := Lib.hid hs
  have HH := Lib.hid H
  have H5 := Lib.hid h5
  clear hs H h5
  go_enter Tryz.func50, Tryz.ntmps50
  go_wp2_with fail
  · go_ret
    exact ⟨-1, rfl, .refl _, by omega, by omega, by omega⟩
  go_loopw [1, 5] (fun l i wr => ∃ (k : Nat) (r : Int), k ≤ es.length ∧ i = .int .i64 k ∧ l = .int .i64 r ∧ Ext w wr ∧ 0 ≤ r ∧ r + es.length + Tr.bulkAll (es.take k) ≤ left) (fun _ i _ => es.length - (intOf i).toNat)
  case atStart => exact ⟨0, _, Nat.zero_le _, rfl, rfl, .refl _, by omega, by simp [Tr.bulkAll]⟩
  case round =>
    obtain ⟨k, r, hk, rfl, rfl, hw, hr0, hrb⟩ := hrel
    by_cases hlt : k < es.length
    · obtain ⟨b, off, cs, rfl, hb, hcs, hc⟩ := (HS.out.ext hw).at2 (k := k) (List.getElem?_eq_getElem hlt)
      have hmem : es[k] ∈ es := List.getElem_mem hlt
      have l5 := H5.out _ hmem
      have hbt := Lib.hid (Tr.bulkAll_take es k hlt)
      have HCS := Lib.hid hcs
      have HC := Lib.hid hc
      have HM := Lib.hid hmem
      have HI : Hid ((Tryz.prog.info? 41).map (·.size) = some cs.length) := by rw [← hcs.length, l5]; exact isz41
      clear hcs hc hmem l5
      go_wp2_with (refine wpList_load_rep rfl 41 _ rfl b (off + k * 4) rfl cs _ Tryz.underlying41 HI.out HC.out ?_)
      refine (HH.out _ HM.out _ _ _ HCS.out hr0 (by omega)).mono ?_; rintro e w1 ⟨r1, rfl, hw1, hr1, hr2, hr3⟩
      have HR3 := Lib.hid hr3
      have HW1 := Lib.hid hw1
      clear hr3 hw1
      go_wp2_with fail
      · go_ret
        exact ⟨-1, rfl, hw.trans HW1.out, by omega, by omega, by omega⟩
      · go_roundw
        case rel =>
          have p0 : 0 ≤ r1 := by assumption
          have e1 := HR3.out p0
          have e2 := hbt.out
          exact ⟨k + 1, r1, by omega, by go_num, rfl, hw.trans HW1.out, p0, by omega⟩
        case measure => simp [intOf]; omega
    · have hkl : k = es.length := by omega
      go_wp2_with fail
      go_ret
      refine ⟨r, rfl, hw, by omega, by omega, fun _ => ?_⟩
      rw [hkl, List.take_length] at hrb
      simp only [Tr.bulk]
      omega

set_option maxRecDepth 100000 in
set_option maxHeartbeats 1000000 in
theorem toBoundS_of (es : List (List Tr)) (h5 : ∀ e ∈ es, e.length = 4) (H : ∀ e ∈ es, ToC 23 e) : ToSC 52 4 es := by
  intro s w hs hbk
  obtain ⟨a, cap, rfl, hl, hm⟩ := hs.shape
  unfold maxLen at hm
  have HS := Lib.hid hs
  have HH := Lib.hid H
  have H5 := Lib.hid h5
  have n0 : (0 : Int) ≤ es.length := by omega
  clear hs H h5
  go_enter Tryz.func52, Tryz.ntmps52
  go_wp2_with (refine wpList_make_rep rfl 82 (.tmp 6) rfl es.length rfl 49 Tryz.underlying82 4 64 iszb49 (by omega) (by omega) ?_; intro wm arr0 ha0 hob0 hx0 hz0; have HA0 := Lib.hid ha0; have HOB0 := Lib.hid hob0; have HX0 := Lib.hid hx0; have HZ0 := Lib.hid hz0; clear ha0 hob0 hx0 hz0)
  go_loopw [4] (fun i wr => ∃ (k : Nat) (arr : Array Value), k ≤ es.length ∧ i = .int .i64 k ∧ Ext w wr ∧ w.heap.size < wr.heap.size ∧ OB wr w.heap.size 49 arr ∧ arr.size = es.length * 4 ∧ Part wr w.heap.size arr 4 es k) (fun i _ => es.length - (intOf i).toNat)
  case atStart => exact ⟨0, arr0, Nat.zero_le _, rfl, HX0.out, by rw [HZ0.out]; omega, HOB0.out, HA0.out, Part.zero _ _ _ _ _⟩
  case round =>
    obtain ⟨k, arr, hk, rfl, hw, hgt, hob, hasz, hpart⟩ := hrel
    have HOB := Lib.hid hob
    have HAS := Lib.hid hasz
    have HP := Lib.hid hpart
    clear hob hasz hpart
    by_cases hlt : k < es.length
    · obtain ⟨b, off, cs, rfl, hb, hcs, hc⟩ := (HS.out.ext hw).at2 (k := k) (List.getElem?_eq_getElem hlt)
      have hmem : es[k] ∈ es := List.getElem_mem hlt
      have l5 := H5.out _ hmem
      have hbe := Tr.bulkAll_le hlt
      have HCS := Lib.hid hcs
      have HC := Lib.hid hc
      have HM := Lib.hid hmem
      have HL5 := Lib.hid l5
      have HI : Hid ((Tryz.prog.info? 41).map (·.size) = some cs.length) := by rw [← hcs.length, l5]; exact isz41
      clear hcs hc hmem l5
      go_wp2_with (refine wpList_load_rep rfl 41 (.tmp 18) rfl b (off + k * 4) rfl cs _ Tryz.underlying41 HI.out HC.out ?_)
      refine (HH.out _ HM.out _ _ HCS.out (by omega)).mono ?_; rintro e w1 ⟨cs1, rfl, hw1, ho1⟩
      have HW1 := Lib.hid hw1
      have HO1 := Lib.hid ho1
      have hcl : cs1.length = 4 := ho1.1.trans HL5.out
      have HCL := Lib.hid hcl
      have hfit : 0 + k * 4 + cs1.length ≤ arr.size := by have := HAS.out; omega
      have HF := Lib.hid hfit
      clear hw1 ho1 hcl hfit
      go_wp2_with (refine wpList_store_rep rfl 49 (.tmp 21) (.tmp 20) rfl w.heap.size (k * 4) rfl cs1 rfl 49 arr (HOB.out.ext HW1.out) (by rw [HCL.out]; exact isz49) (by have := HF.out; omega) (HO1.out.rep.one) ?_; intro w2 hob2 hg2 hz2; have HOB2 := Lib.hid hob2; have HG2 := Lib.hid hg2; have HZ2 := Lib.hid hz2; clear hob2 hg2 hz2)
      go_roundw
      case rel =>
        have hfit : k * 4 + cs1.length ≤ arr.size := by have := HF.out; omega
        refine ⟨k + 1, _, by omega, by go_num, ?_, ?_, HOB2.out, by rw [splice_size hfit]; exact HAS.out, HP.out.step hgt HW1.out (List.getElem?_eq_getElem hlt) HO1.out HCL.out HAS.out HG2.out HOB2.out⟩
        · exact grown_ext (hw.trans HW1.out) HG2.out (Nat.le_refl _)
        · have := HW1.out.size
          have := HZ2.out
          omega
      case measure => simp [intOf]; omega
    · have hkl : k = es.length := by omega
      go_wp2_with fail
      go_ret
      subst hkl
      exact ⟨_, rfl, hw, (HP.out.done HOB.out H5.out (Nat.le_refl _) (by unfold maxLen; omega) (Nat.le_refl _)).mono fun x hx => ⟨hx.1, hx.2⟩⟩

set_option maxRecDepth 100000 in
set_option maxHeartbeats 1000000 in
theorem eqBoundS_of (es : List (List Tr)) (h5 : ∀ e ∈ es, e.length = 4) (H : ∀ e ∈ es, EqC 26 e) : EqSC 55 4 es := by
  intro s u w hs hu
  obtain ⟨a, cap, rfl, hl, hm⟩ := hs.shape
  obtain ⟨a', cap', rfl, hl', hm'⟩ := hu.shape
  unfold maxLen at hm hm'
  have HS := Lib.hid hs
  have HU := Lib.hid hu
  have HH := Lib.hid H
  have H5 := Lib.hid h5
  clear hs hu H h5
  go_enter Tryz.func55, Tryz.ntmps55
  go_wp2_with fail
  go_loopw [5] (fun i wr => ∃ k : Nat, k ≤ es.length ∧ i = .int .i64 k ∧ Ext w wr) (fun i _ => es.length - (intOf i).toNat)
  case atStart => exact ⟨0, Nat.zero_le _, rfl, .refl _⟩
  case round =>
    obtain ⟨k, hk, rfl, hw⟩ := hrel
    by_cases hlt : k < es.length
    · obtain ⟨b, off, cs, rfl, hb, hcs, hc⟩ := (HS.out.ext hw).at2 (k := k) (List.getElem?_eq_getElem hlt)
      obtain ⟨b', off', ds, rfl, hb', hds, hd⟩ := (HU.out.ext hw).at2 (k := k) (List.getElem?_eq_getElem hlt)
      have hmem : es[k] ∈ es := List.getElem_mem hlt
      have l5 := H5.out _ hmem
      have HCS := Lib.hid hcs
      have HDS := Lib.hid hds
      have HM := Lib.hid hmem
      have HC := Lib.hid hc
      have HD := Lib.hid hd
      have HI : Hid ((Tryz.prog.info? 49).map (·.size) = some cs.length) := by rw [← hcs.length, l5]; exact isz49
      have HJ : Hid ((Tryz.prog.info? 49).map (·.size) = some ds.length) := by rw [← hds.length, l5]; exact isz49
      clear hcs hds hc hd l5 hmem
      go_wp2_with fail
      have ki : (k : Int) < (es.length : Int) := by omega
      have k0 : (0 : Int) ≤ (k : Int) := by omega
      refine wp_region_still_tail 8 (by kernel_rfl) (by kernel_rfl) ?_
      simp only [List.take_succ_cons, List.take_zero, List.drop_succ_cons, List.drop_zero]
      change wpStill _ _ wr.drew _ _ _
      repeat (first
        | (refine wpStill_load_rep rfl 49 (.tmp 19) rfl b (off + k * 4) rfl cs _ Tryz.underlying49 HI.out HC.out ?_; simp only [Act.put])
        | (refine wpStill_load_rep rfl 49 (.tmp 23) rfl b' (off' + k * 4) rfl ds _ Tryz.underlying49 HJ.out HD.out ?_; simp only [Act.put])
        | still_step)
      refine wpStill_nil ?_
      change wpList _ _ _ _ _ wr.drew
      go_wp2_with fail
      refine (HH.out _ HM.out _ _ _ (HCS.out.ext (.drew (.refl _))) (HDS.out.ext (.drew (.refl _)))).mono ?_; rintro e w1 ⟨rfl, hw1⟩
      have HW1 := Lib.hid hw1
      clear hw1
      go_wp2_with fail
      go_roundw
      case rel => exact ⟨k + 1, by omega, by go_num, hw.trans (.trans (.drew (.refl _)) HW1.out)⟩
      case measure => simp [intOf]; omega
    · go_wp2_with fail
      go_ret
      exact ⟨rfl, hw⟩

end Go.Proofs.YtnakkelglbcecaaGreat
