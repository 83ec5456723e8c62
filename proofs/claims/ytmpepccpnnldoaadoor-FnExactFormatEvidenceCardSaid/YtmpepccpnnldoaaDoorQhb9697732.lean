/- Words, rules and walks of several kinds, laid together: Core, Own, Data, Open, Typed, Tab, Ctr, BInstanceRef, BEvidence, BLeaf, BAll, Reg, Plain, SL, LEv, Val, EvTx, EvW, EvF, LayI, Pm, Pm2. No conditions but those that each theorem states. -/
import Derived.WalkKit
import Derived.WalkSpells
import Derived.WalkLawsBesides
import Derived.Lib.Hide
import Derived.Deep.Slices
import Derived.StillTailTactics
import Derived.ProofKit
import Derived.Test.YtmpepccpnnldoaaDoorProg
import Derived.Test.YtmpepccpnnldoaaDoorRows
import Derived.Lib.LaidTab
import Derived.Lib.ItoaLen
import Derived.Stop.LaidErr
import Derived.BigQuiet
import Derived.Deep.QuietTactic
import Derived.Deep.RegionHeld3
import Derived.Laws.IdiomStrings
import Derived.Shelf.Strconv.Itoa3
set_option linter.unusedSimpArgs false
set_option linter.unusedVariables false
namespace Go.Proofs.YtmpepccpnnldoaaDoor
open Go.RowKit

/-- What a datum looks like in cells: a plain cell, or a slice whose elements have 'sz' cells each. -/
inductive Tr where
  | leaf (v : Value)
  | row (sz : Nat) (es : List (List Tr))

def LeafOk : Value → Prop
  | .int k n => (Lit.int k n).wf = true
  | .string s => s.size ≤ maxLen
  | .bool _ => True
  | _ => False

inductive Rep (w : World) : Tr → Value → Prop
  | leaf {v : Value} : LeafOk v → Rep w (.leaf v) v
  | row {sz : Nat} {es : List (List Tr)} {a : Option Addr} {cap : Nat} (c : Nat → Nat → Value) : es.length ≤ cap → cap ≤ maxLen →
      (es ≠ [] → ∃ b off, a = some ⟨b, off, none⟩ ∧ b < w.heap.size ∧ ∀ i e, es[i]? = some e → ∀ j d, e[j]? = some d → w.cell? ⟨b, off + i * sz + j, none⟩ = some (c i j)) →
      (∀ i e, es[i]? = some e → ∀ j d, e[j]? = some d → Rep w d (c i j)) → Rep w (.row sz es) (.slice a es.length cap)

def RepL (w : World) : List Tr → List Value → Prop
  | [], [] => True
  | t :: ts, v :: vs => Rep w t v ∧ RepL w ts vs
  | _, _ => False

/-- A later world: whatever was there is there still. -/
abbrev Ext (w w' : World) : Prop := Below w.heap.size w w'

theorem Ext.refl (w : World) : Ext w w := Below.refl _ _
theorem Ext.trans {a b c : World} (h : Ext a b) (k : Ext b c) : Ext a c := Below.trans h (k.mono h.size)
theorem Ext.alloc {a w : World} (h : Ext a w) (o : Obj) : Ext a (w.alloc o) := Below.alloc h h.size o
theorem Ext.drew {a w : World} (h : Ext a w) : Ext a w.drew := Below.drew h
theorem Ext.drewN {a w : World} (h : Ext a w) (n : Nat) : Ext a (w.drewN n) := ⟨h.os, h.tape, h.output, h.size, h.block⟩
theorem Ext.set {a w : World} (h : Ext a w) {p : Addr} (hp : a.heap.size ≤ p.block) (u : Value) : Ext a (w.setCell p u) := Below.setCell h hp u

theorem Rep.ext {w w' : World} {t : Tr} {v : Value} (h : Rep w t v) (hx : Ext w w') : Rep w' t v := by
  induction h with
  | leaf h => exact .leaf h
  | row c h1 h2 h3 _ ih =>
    refine .row c h1 h2 (fun hne => ?_) ih
    obtain ⟨b, off, ha, hb, hc⟩ := h3 hne
    exact ⟨b, off, ha, Nat.lt_of_lt_of_le hb hx.size, fun i e he j d hd => (hx.cell (p := ⟨b, _, none⟩) hb).trans (hc i e he j d hd)⟩

theorem RepL.ext {w w' : World} {ts : List Tr} {vs : List Value} (h : RepL w ts vs) (hx : Ext w w') : RepL w' ts vs := by
  induction ts generalizing vs with
  | nil => cases vs <;> simp_all [RepL]
  | cons t ts ih =>
    cases vs with
    | nil => simp [RepL] at h
    | cons v vs => exact ⟨h.1.ext hx, ih h.2⟩

theorem RepL.of_fn {w : World} {c : Nat → Value} : ∀ {ts : List Tr} (k : Nat), (∀ (j : Nat) d, ts[j]? = some d → Rep w d (c (k + j))) → RepL w ts ((List.range' k ts.length).map c) := by
  intro ts
  induction ts with
  | nil => intro k _; simp [RepL]
  | cons t ts ih =>
    intro k h
    refine ⟨h 0 t rfl, ?_⟩
    exact ih (k + 1) (fun j d hd => by have := h (j + 1) d (by simpa using hd); rwa [show k + 1 + j = k + (j + 1) by omega])

/-- Element k of a slice: its address, its cells, and that these are its datum's. -/
theorem Rep.at {w : World} {sz : Nat} {es : List (List Tr)} {s : Value} {k : Nat} {e : List Tr} (h : Rep w (.row sz es) s) (hk : es[k]? = some e) :
    ∃ b off cap cs, s = .slice (some ⟨b, off, none⟩) es.length cap ∧ b < w.heap.size ∧ RepL w e cs ∧ ∀ j v, cs[j]? = some v → w.cell? ⟨b, off + k * sz + j, none⟩ = some v := by
  cases h with
  | row c h1 h2 h3 h4 =>
    obtain ⟨b, off, rfl, hb, hc⟩ := h3 (by rintro rfl; simp at hk)
    refine ⟨b, off, _, (List.range' 0 e.length).map (c k), rfl, hb, RepL.of_fn 0 (fun j d hd => by simpa using h4 k e hk j d hd), fun j v hv => ?_⟩
    rw [List.getElem?_map] at hv
    rcases hj : e[j]? with _ | d
    · rw [List.getElem?_eq_none_iff] at hj
      rw [List.getElem?_eq_none (by simpa using hj)] at hv
      simp at hv
    · have hl : j < e.length := (List.getElem?_eq_some_iff.1 hj).1
      rw [List.getElem?_range' hl] at hv
      simp at hv
      rw [hc k e hk j d hj, hv]

theorem Rep.shape {w : World} {sz : Nat} {es : List (List Tr)} {s : Value} (h : Rep w (.row sz es) s) : ∃ a cap, s = .slice a es.length cap ∧ es.length ≤ cap ∧ cap ≤ maxLen := by
  cases h with
  | row c h1 h2 h3 h4 => exact ⟨_, _, rfl, h1, h2⟩

theorem Rep.leaf_eq {w : World} {v u : Value} (h : Rep w (.leaf v) u) : u = v ∧ LeafOk v := by
  cases h with
  | leaf h => exact ⟨rfl, h⟩

theorem RepL.append {w : World} {ts us : List Tr} {vs xs : List Value} (h : RepL w ts vs) (k : RepL w us xs) : RepL w (ts ++ us) (vs ++ xs) := by
  induction ts generalizing vs with
  | nil => cases vs <;> simp_all [RepL]
  | cons t ts ih =>
    cases vs with
    | nil => simp [RepL] at h
    | cons v vs => exact ⟨h.1, ih h.2⟩

theorem RepL.length {w : World} {ts : List Tr} {vs : List Value} (h : RepL w ts vs) : ts.length = vs.length := by
  induction ts generalizing vs with
  | nil => cases vs <;> simp_all [RepL]
  | cons t ts ih =>
    cases vs with
    | nil => simp [RepL] at h
    | cons v vs => simp [ih h.2]

theorem RepL.get {w : World} {ts : List Tr} {vs : List Value} (h : RepL w ts vs) {j : Nat} {d : Tr} (hd : ts[j]? = some d) : ∃ v, vs[j]? = some v ∧ Rep w d v := by
  induction ts generalizing vs j with
  | nil => simp at hd
  | cons t ts ih =>
    cases vs with
    | nil => simp [RepL] at h
    | cons v vs =>
      cases j with
      | zero => simp at hd; exact ⟨v, rfl, hd ▸ h.1⟩
      | succ j => exact ih h.2 (by simpa using hd)

/-- A block of the call's own, known whole. -/
def OB (w : World) (g : Nat) (t : TypeId) (cs : Array Value) : Prop := w.heap[g]? = some (.cells cs t (0, 0))
theorem OB.lt {w : World} {g : Nat} {t : TypeId} {cs : Array Value} (h : OB w g t cs) : g < w.heap.size := by
  rcases Nat.lt_or_ge g w.heap.size with hlt | hge
  · exact hlt
  · unfold OB at h; rw [Array.getElem?_eq_none hge] at h; cases h
theorem OB.new (w : World) (t : TypeId) (cs : Array Value) : OB (w.alloc (.cells cs t)) w.heap.size t cs := heap_alloc_new w _
theorem OB.ext {w w' : World} {g : Nat} {t : TypeId} {cs : Array Value} (h : OB w g t cs) (hx : Ext w w') : OB w' g t cs := (hx.block g h.lt).trans h
theorem OB.cell {w : World} {g : Nat} {t : TypeId} {cs : Array Value} (h : OB w g t cs) : ∀ i, w.cell? ⟨g, i, none⟩ = cs[i]? := fun i => cell_of_row w g i cs t (0, 0) h
mutual
def Tr.bulk : Tr → Nat
  | .leaf (.string s) => s.size
  | .leaf _ => 0
  | .row _ es => es.length + Tr.bulkAll es
def Tr.bulkL : List Tr → Nat
  | [] => 0
  | t :: r => Tr.bulk t + Tr.bulkL r
def Tr.bulkAll : List (List Tr) → Nat
  | [] => 0
  | e :: r => Tr.bulkL e + Tr.bulkAll r
end
theorem Tr.bulkAll_take (l : List (List Tr)) : ∀ k (h : k < l.length), Tr.bulkAll (l.take (k + 1)) = Tr.bulkAll (l.take k) + Tr.bulkL l[k] := by
  induction l with
  | nil => intro k h; simp at h
  | cons a l ih =>
    intro k h
    cases k with
    | zero => simp [Tr.bulkAll]
    | succ k =>
      have := ih k (by simpa using h)
      simp [Tr.bulkAll, this]; omega

theorem Rep.at2 {w : World} {sz : Nat} {es : List (List Tr)} {a : Option Addr} {len cap : Nat} {k : Nat} {e : List Tr} (h : Rep w (.row sz es) (.slice a len cap)) (hk : es[k]? = some e) :
    ∃ b off cs, a = some ⟨b, off, none⟩ ∧ b < w.heap.size ∧ RepL w e cs ∧ ∀ j v, cs[j]? = some v → w.cell? ⟨b, off + k * sz + j, none⟩ = some v := by
  obtain ⟨b, off, cap', cs, hs, h1, h2, h3⟩ := h.at hk
  injection hs with hs
  exact ⟨b, off, cs, hs, h1, h2, h3⟩

/-- A struct of whatever number of cells, read at its address. -/
theorem run_loadVar_rep {P : Program} (w : World) (b off : Nat) (ty : TypeId) (cs : List Value) (fs : Array Field) (hu : P.underlying ty = some (.struct fs)) (hi : (P.info? ty).map (·.size) = some cs.length)
    (hc : ∀ j v, cs[j]? = some v → w.cell? ⟨b, off + j, none⟩ = some v) : (loadVar ty ⟨b, off, none⟩).run P w = .ok (.agg ⟨cs⟩) w := by
  have hl : (loadCells ⟨b, off, none⟩ cs.length).run P w = .ok cs.toArray w :=
    run_loadCells_list (P := P) w ⟨b, off, none⟩ cs (fun j v hv => by
      have hadd : (⟨b, off, none⟩ : Addr).add j = ⟨b, off + j, none⟩ := by unfold Addr.add; split <;> simp_all
      rw [hadd]; exact hc j v hv)
  cases hq : P.info? ty with
  | none => simp [hq] at hi
  | some i =>
    have hs : i.size = cs.length := by simpa [hq] using hi
    have hagg : (isAgg ty).run P w = .ok true w := by
      unfold isAgg
      rw [Sem.run_bind, run_underlying hu w]
      simp
    simp [loadVar, Sem.run_bind, hagg, Go.sizeOf, typeInfo, hq, hs, hl]

theorem wpList_load_rep {P : Program} {ops : Array Oper} {rest : List Oper} {o : Oper} {a : Act} {w : World} {Q : Exit → Act → World → Prop} (hgd : o.guard = none) (ty : TypeId) (x : Operand) (ho : o.op = .load ty x)
    (b off : Nat) (hx : a.eval x = .pointer (some ⟨b, off, none⟩)) (cs : List Value) (fs : Array Field) (hu : P.underlying ty = some (.struct fs)) (hi : (P.info? ty).map (·.size) = some cs.length)
    (hc : ∀ j v, cs[j]? = some v → w.cell? ⟨b, off + j, none⟩ = some v) (h : wpList P ops Q rest (a.put o.dst (.agg ⟨cs⟩)) w) : wpList P ops Q (o :: rest) a w :=
  wpList_plain hgd fun _ hK => by
    unfold Oper.wp execOp
    simp only [ho, hx, Instr.loadAt, Instr.sureAddr, Sem.run_bind, Sem.run_pure, Result.andThen_ok, run_loadVar_rep w b off ty cs fs hu hi hc]
    exact hK _ _ h

theorem wpStill_load_rep {P : Program} {ops : Array Oper} {rest : List Oper} {o : Oper} {a : Act} {w : World} {Q : Act → Prop} (hgd : o.guard = none) (ty : TypeId) (x : Operand) (ho : o.op = .load ty x)
    (b off : Nat) (hx : a.eval x = .pointer (some ⟨b, off, none⟩)) (cs : List Value) (fs : Array Field) (hu : P.underlying ty = some (.struct fs)) (hi : (P.info? ty).map (·.size) = some cs.length)
    (hc : ∀ j v, cs[j]? = some v → w.cell? ⟨b, off + j, none⟩ = some v) (h : wpStill P ops w Q rest (a.put o.dst (.agg ⟨cs⟩))) : wpStill P ops w Q (o :: rest) a := by
  refine wpStill_step fun K hK => ?_
  have hw : Region.wanted o (yielded ops a.tmps) = true := by simp [Region.wanted, hgd]
  rw [if_pos hw]
  unfold Oper.still execOp
  simp only [ho, hx, Instr.loadAt, Instr.sureAddr, Sem.run_bind, Sem.run_pure, Result.andThen_ok, run_loadVar_rep w b off ty cs fs hu hi hc]
  exact ⟨rfl, hK _ h⟩

theorem ret_int {k : IntKind} {a b : Int} (h : a = b) : Ending.returned (.int k a) = .returned (.int k b) := by rw [h]
theorem ret_bool {a b : Bool} (h : a = b) : Ending.returned (.bool a) = .returned (.bool b) := by rw [h]

end Go.Proofs.YtmpepccpnnldoaaDoor

namespace Go.Proofs.YtmpepccpnnldoaaDoor
open Go.RowKit

/-- The tree's blocks lie in S, none is met twice, and none is frozen. -/
inductive Own (w : World) : Tr → Value → (Nat → Prop) → Prop
  | leaf {v : Value} {S : Nat → Prop} : LeafOk v → Own w (.leaf v) v S
  | row {sz : Nat} {es : List (List Tr)} {a : Option Addr} {cap : Nat} {S : Nat → Prop} (c : Nat → Nat → Value) (T : Nat → Nat → Nat → Prop) : es.length ≤ cap → cap ≤ maxLen →
      (es ≠ [] → ∃ b off E arr, a = some ⟨b, off, none⟩ ∧ OB w b E arr ∧ S b ∧ (∀ i e, es[i]? = some e → ∀ j d, e[j]? = some d → arr[off + i * sz + j]? = some (c i j) ∧ ∀ x, T i j x → x ≠ b)) →
      (∀ i e, es[i]? = some e → ∀ j d, e[j]? = some d → Own w d (c i j) (T i j)) →
      (∀ i e, es[i]? = some e → ∀ j d, e[j]? = some d → ∀ x, T i j x → S x) →
      (∀ i e, es[i]? = some e → ∀ j d, e[j]? = some d → ∀ i' e', es[i']? = some e' → ∀ j' d', e'[j']? = some d' → (i = i' → j ≠ j') → ∀ x, T i j x → T i' j' x → False) →
      Own w (.row sz es) (.slice a es.length cap) S

def OwnL (w : World) (ts : List Tr) (vs : List Value) (S : Nat → Prop) : Prop :=
  vs.length = ts.length ∧ ∃ T : Nat → Nat → Prop, (∀ j d, ts[j]? = some d → ∃ v, vs[j]? = some v ∧ Own w d v (T j)) ∧ (∀ j d, ts[j]? = some d → ∀ x, T j x → S x) ∧
    (∀ j d, ts[j]? = some d → ∀ j' d', ts[j']? = some d' → j ≠ j' → ∀ x, T j x → T j' x → False)

theorem Own.rep {w : World} {t : Tr} {v : Value} {S : Nat → Prop} (h : Own w t v S) : Rep w t v := by
  induction h with
  | leaf h => exact .leaf h
  | row c T h1 h2 h3 _ _ _ ih =>
    refine .row c h1 h2 (fun hne => ?_) ih
    obtain ⟨b, off, E, arr, ha, hb, _, hc⟩ := h3 hne
    exact ⟨b, off, ha, hb.lt, fun i e he j d hd => by rw [hb.cell]; exact (hc i e he j d hd).1⟩

theorem Own.keep {w w' : World} {t : Tr} {v : Value} {S : Nat → Prop} (h : Own w t v S) (hx : ∀ b, S b → b < w.heap.size → w'.heap[b]? = w.heap[b]?) : Own w' t v S := by
  induction h with
  | leaf h => exact .leaf h
  | row c T h1 h2 h3 _ h5 h6 ih =>
    refine .row c T h1 h2 (fun hne => ?_) (fun i e he j d hd => ih i e he j d hd fun b hb => hx b (h5 i e he j d hd b hb)) h5 h6
    obtain ⟨b, off, E, arr, ha, hb, hs, hc⟩ := h3 hne
    exact ⟨b, off, E, arr, ha, (hx b hs hb.lt).trans hb, hs, hc⟩

theorem Own.ext {w w' : World} {t : Tr} {v : Value} {S : Nat → Prop} (h : Own w t v S) (hx : Ext w w') : Own w' t v S := h.keep fun b _ hb => hx.block b hb

theorem Own.mono {w : World} {t : Tr} {v : Value} {S S' : Nat → Prop} (h : Own w t v S) (hS : ∀ x, S x → S' x) : Own w t v S' := by
  cases h with
  | leaf h => exact .leaf h
  | row c T h1 h2 h3 h4 h5 h6 =>
    refine .row c T h1 h2 (fun hne => ?_) h4 (fun i e he j d hd x hx => hS x (h5 i e he j d hd x hx)) h6
    obtain ⟨b, off, E, arr, ha, hb, hs, hc⟩ := h3 hne
    exact ⟨b, off, E, arr, ha, hb, hS b hs, hc⟩

theorem RepL.of_get {w : World} : ∀ {ts : List Tr} {vs : List Value}, vs.length = ts.length → (∀ (j : Nat) (d : Tr), ts[j]? = some d → ∃ v, vs[j]? = some v ∧ Rep w d v) → RepL w ts vs
  | [], [], _, _ => trivial
  | [], _ :: _, h, _ => by simp at h
  | _ :: _, [], h, _ => by simp at h
  | t :: ts, v :: vs, h, k => by
    obtain ⟨u, hu, hr⟩ := k 0 t rfl
    simp at hu
    subst hu
    exact ⟨hr, RepL.of_get (by simpa using h) fun j d hd => by have := k (j + 1) d (by simpa using hd); simpa using this⟩

theorem OwnL.rep {w : World} {ts : List Tr} {vs : List Value} {S : Nat → Prop} (h : OwnL w ts vs S) : RepL w ts vs := by
  obtain ⟨hl, T, h1, _, _⟩ := h
  exact RepL.of_get hl fun j d hd => by obtain ⟨v, hv, ho⟩ := h1 j d hd; exact ⟨v, hv, ho.rep⟩

theorem OwnL.keep {w w' : World} {ts : List Tr} {vs : List Value} {S : Nat → Prop} (h : OwnL w ts vs S) (hx : ∀ b, S b → b < w.heap.size → w'.heap[b]? = w.heap[b]?) : OwnL w' ts vs S := by
  obtain ⟨hl, T, h1, h2, h3⟩ := h
  exact ⟨hl, T, fun j d hd => by obtain ⟨v, hv, ho⟩ := h1 j d hd; exact ⟨v, hv, ho.keep fun b hb => hx b (h2 j d hd b hb)⟩, h2, h3⟩
theorem OwnL.ext {w w' : World} {ts : List Tr} {vs : List Value} {S : Nat → Prop} (h : OwnL w ts vs S) (hx : Ext w w') : OwnL w' ts vs S := h.keep fun b _ hb => hx.block b hb
theorem OwnL.mono {w : World} {ts : List Tr} {vs : List Value} {S S' : Nat → Prop} (h : OwnL w ts vs S) (hS : ∀ x, S x → S' x) : OwnL w ts vs S' := by
  obtain ⟨hl, T, h1, h2, h3⟩ := h
  exact ⟨hl, T, h1, fun j d hd x hx => hS x (h2 j d hd x hx), h3⟩

/-- What has been made between two worlds. -/
def Between (w w' : World) (x : Nat) : Prop := w.heap.size ≤ x ∧ x < w'.heap.size

/-- The first k elements of a slice that is being filled. -/
def Part (w : World) (B : Nat) (arr : Array Value) (sz : Nat) (es : List (List Tr)) (k : Nat) : Prop :=
  ∃ U : Nat → Nat → Prop, (∀ i, i < k → ∀ e, es[i]? = some e → OwnL w e ((arr.toList.drop (i * sz)).take sz) (U i)) ∧ (∀ i, i < k → ∀ x, U i x → B < x ∧ x < w.heap.size) ∧
    (∀ i, i < k → ∀ i', i' < k → i ≠ i' → ∀ x, U i x → U i' x → False)

theorem Part.zero (w : World) (B : Nat) (arr : Array Value) (sz : Nat) (es : List (List Tr)) : Part w B arr sz es 0 := ⟨fun _ _ => False, by simp, by simp, by simp⟩

def splice (arr : Array Value) (o : Nat) (vs : List Value) : Array Value := (arr.toList.take o ++ vs ++ arr.toList.drop (o + vs.length)).toArray

theorem splice_size {arr : Array Value} {o : Nat} {vs : List Value} (h : o + vs.length ≤ arr.size) : (splice arr o vs).size = arr.size := by
  simp [splice]; omega

theorem splice_other {arr : Array Value} {o : Nat} {vs : List Value} {i sz : Nat} (h : o + vs.length ≤ arr.size) (hi : i + sz ≤ o) :
    ((splice arr o vs).toList.drop i).take sz = (arr.toList.drop i).take sz := by
  apply List.ext_getElem?
  intro j
  simp only [splice, List.getElem?_take, List.getElem?_drop]
  split
  · rw [List.append_assoc, List.getElem?_append_left (by simp; omega), List.getElem?_take, if_pos (by omega)]
  · rfl
theorem splice_same {arr : Array Value} {o : Nat} {vs : List Value} (h : o + vs.length ≤ arr.size) : ((splice arr o vs).toList.drop o).take vs.length = vs := by
  have h1 : o ≤ arr.size := by omega
  simp [splice, List.length_take, Nat.min_eq_left h1]

theorem Part.step {w w1 w2 : World} {B T : Nat} {arr : Array Value} {sz k : Nat} {es : List (List Tr)} {e : List Tr} {cs : List Value} (h : Part w B arr sz es k) (hB : B < w.heap.size) (hx : Ext w w1)
    (he : es[k]? = some e) (ho : OwnL w1 e cs (Between w w1)) (hl : cs.length = sz) (hsz : arr.size = es.length * sz)
    (hg : w1.grownBy w2 (some B)) (_hob : OB w2 B T (splice arr (k * sz) cs)) : Part w2 B (splice arr (k * sz) cs) sz es (k + 1) := by
  obtain ⟨U, h1, h2, h3⟩ := h
  have hk : k < es.length := (List.getElem?_eq_some_iff.1 he).1
  have hfit : k * sz + cs.length ≤ arr.size := by rw [hl, hsz, ← Nat.succ_mul]; exact Nat.mul_le_mul_right _ hk
  have hwx : ∀ x, x ≠ B → x < w.heap.size → w2.heap[x]? = w.heap[x]? := fun x hne hlt =>
    (hg.block x (Nat.lt_of_lt_of_le hlt hx.size) (by simpa using hne)).trans (hx.block x hlt)
  refine ⟨fun i => if i = k then Between w w1 else U i, ?_, ?_, ?_⟩
  · intro i hi e' he'
    by_cases hik : i = k
    · subst hik
      have : e' = e := by rw [he] at he'; exact (Option.some.inj he').symm
      subst this
      simp only [if_true]
      have hs := splice_same hfit
      rw [hl] at hs
      rw [hs]
      exact ho.keep fun b hb hlt => hg.block b hlt (by have := hb.1; simp; omega)
    · simp only [if_neg hik]
      have hlt : i < k := by omega
      rw [splice_other hfit (by rw [← Nat.succ_mul]; exact Nat.mul_le_mul_right _ hlt)]
      exact (h1 i hlt e' he').keep fun b hb hlt' => hwx b (by have := (h2 i hlt b hb).1; omega) hlt'
  · intro i hi x hxU
    by_cases hik : i = k
    · simp only [if_pos hik] at hxU
      exact ⟨by have := hxU.1; omega, Nat.lt_of_lt_of_le hxU.2 hg.size⟩
    · simp only [if_neg hik] at hxU
      obtain ⟨p, q⟩ := h2 i (by omega) x hxU
      exact ⟨p, by have := hx.size; have := hg.size; omega⟩
  · intro i hi i' hi' hne x hxU hxU'
    by_cases hik : i = k
    · by_cases hik' : i' = k
      · omega
      · simp only [if_pos hik] at hxU
        simp only [if_neg hik'] at hxU'
        have := (h2 i' (by omega) x hxU').2
        have := hxU.1
        omega
    · by_cases hik' : i' = k
      · simp only [if_neg hik] at hxU
        simp only [if_pos hik'] at hxU'
        have := (h2 i (by omega) x hxU).2
        have := hxU'.1
        omega
      · simp only [if_neg hik] at hxU
        simp only [if_neg hik'] at hxU'
        exact h3 i (by omega) i' (by omega) hne x hxU hxU'

theorem Part.keep {w w' : World} {B : Nat} {arr : Array Value} {sz k : Nat} {es : List (List Tr)} (h : Part w B arr sz es k) (hx : Ext w w') : Part w' B arr sz es k := by
  obtain ⟨U, h1, h2, h3⟩ := h
  exact ⟨U, fun i hi e he => (h1 i hi e he).ext hx, fun i hi x hxU => ⟨(h2 i hi x hxU).1, Nat.lt_of_lt_of_le (h2 i hi x hxU).2 hx.size⟩, h3⟩

theorem Part.done {w : World} {B T : Nat} {arr : Array Value} {sz : Nat} {es : List (List Tr)} {cap lo : Nat} (h : Part w B arr sz es es.length) (hob : OB w B T arr) (hsz : ∀ e ∈ es, e.length = sz)
    (hcap : es.length ≤ cap) (hm : cap ≤ maxLen) (hlo : lo ≤ B) : Own w (.row sz es) (.slice (some ⟨B, 0, none⟩) es.length cap) (fun x => lo ≤ x ∧ x < w.heap.size) := by
  obtain ⟨U, h1, h2, h3⟩ := h
  have hlt : ∀ i e, es[i]? = some e → i < es.length := fun i e he => (List.getElem?_eq_some_iff.1 he).1
  have key : ∀ i, ∃ T : Nat → Nat → Prop, ∀ e, es[i]? = some e → (∀ j d, e[j]? = some d → ∃ v, ((arr.toList.drop (i * sz)).take sz)[j]? = some v ∧ Own w d v (T j)) ∧ (∀ j d, e[j]? = some d → ∀ x, T j x → U i x) ∧
      (∀ j d, e[j]? = some d → ∀ j' d', e[j']? = some d' → j ≠ j' → ∀ x, T j x → T j' x → False) := by
    intro i
    rcases he : es[i]? with _ | e
    · exact ⟨fun _ _ => False, by simp⟩
    · obtain ⟨_, T, a1, a2, a3⟩ := h1 i (hlt i e he) e he
      exact ⟨T, fun e' he' => by cases he'; exact ⟨a1, a2, a3⟩⟩
  have key2 := fun i => Classical.choose_spec (key i)
  refine .row (fun i j => (arr[i * sz + j]?).getD undef) (fun i => Classical.choose (key i)) hcap hm ?_ ?_ ?_ ?_
  · intro _
    refine ⟨B, 0, T, arr, rfl, hob, ⟨hlo, hob.lt⟩, ?_⟩
    intro i e he j d hd
    obtain ⟨a1, a2, _⟩ := key2 i e he
    obtain ⟨v, hv, _⟩ := a1 j d hd
    have hj : j < sz := by rw [← hsz e (List.mem_of_getElem? he)]; exact (List.getElem?_eq_some_iff.1 hd).1
    rw [List.getElem?_take, if_pos hj, List.getElem?_drop] at hv
    refine ⟨by rw [Nat.zero_add]; have : arr[i * sz + j]? = some v := by simpa using hv
               simp [this], fun x hx => ?_⟩
    have := (h2 i (hlt i e he) x (a2 j d hd x hx)).1
    omega
  · intro i e he j d hd
    obtain ⟨a1, _, _⟩ := key2 i e he
    obtain ⟨v, hv, ho⟩ := a1 j d hd
    have hj : j < sz := by rw [← hsz e (List.mem_of_getElem? he)]; exact (List.getElem?_eq_some_iff.1 hd).1
    rw [List.getElem?_take, if_pos hj, List.getElem?_drop] at hv
    have : arr[i * sz + j]? = some v := by simpa using hv
    simpa [this] using ho
  · intro i e he j d hd x hx
    obtain ⟨_, a2, _⟩ := key2 i e he
    have := h2 i (hlt i e he) x (a2 j d hd x hx)
    exact ⟨by omega, this.2⟩
  · intro i e he j d hd i' e' he' j' d' hd' hne x hx hx'
    obtain ⟨_, a2, a3⟩ := key2 i e he
    by_cases hii : i = i'
    · subst hii
      have : e = e' := by rw [he] at he'; exact Option.some.inj he'
      subst this
      exact a3 j d hd j' d' hd' (hne rfl) x hx hx'
    · obtain ⟨_, b2, _⟩ := key2 i' e' he'
      exact h3 i (hlt i e he) i' (hlt i' e' he') hii x (a2 j d hd x hx) (b2 j' d' hd' x hx')

theorem LeafOk.one {v : Value} (h : LeafOk v) : v.oneCell' = true := by cases v <;> simp_all [LeafOk, Value.oneCell']
theorem Rep.one {w : World} {t : Tr} {v : Value} (h : Rep w t v) : v.oneCell' = true := by
  cases h with
  | leaf h => exact h.one
  | row => rfl
theorem RepL.one {w : World} : ∀ {ts : List Tr} {vs : List Value}, RepL w ts vs → ∀ v ∈ vs, v.oneCell' = true
  | [], [], _, v, hv => by simp at hv
  | _ :: _, _ :: _, h, v, hv => by
    rcases List.mem_cons.1 hv with rfl | hv
    · exact h.1.one
    · exact RepL.one h.2 v hv

/-- A struct of whatever number of cells, stored into a block of the call's own. -/
theorem wpList_store_rep {P : Program} {ops : Array Oper} {rest : List Oper} {o : Oper} {a : Act} {w : World} {Q : Exit → Act → World → Prop} (hgd : o.guard = none) (ty : TypeId) (x y : Operand) (ho : o.op = .store ty x y)
    (B off : Nat) (hx : a.eval x = .pointer (some ⟨B, off, none⟩)) (cs : List Value) (hy : a.eval y = .agg ⟨cs⟩) (T : TypeId) (arr : Array Value) (hob : OB w B T arr) (hi : (P.info? ty).map (·.size) = some cs.length)
    (hfit : off + cs.length ≤ arr.size) (h1 : ∀ v ∈ cs, v.oneCell' = true)
    (h : ∀ w', OB w' B T (splice arr off cs) → w.grownBy w' (some B) → w'.heap.size = w.heap.size → wpList P ops Q rest (a.put o.dst undef) w') : wpList P ops Q (o :: rest) a w :=
  wpList_plain hgd fun _ hK => by
    have hst := run_storeCells_at P B off T cs 0 arr w hob (by simpa using hfit) h1
    cases hq : P.info? ty with
    | none => simp [hq] at hi
    | some i =>
      have hs : i.size = cs.length := by simpa [hq] using hi
      have hrun : (storeVar ty ⟨B, off, none⟩ (.agg ⟨cs⟩)).run P w = .ok () (w.setRow B (splice arr off cs)) := by
        simp [storeVar, Go.sizeOf, typeInfo, hq, Value.cells, hs, hst, splice]
      unfold Oper.wp execOp
      simp only [ho, hx, hy, Instr.storeAt, Instr.sureAddr, Sem.run_bind, Sem.run_pure, Result.andThen_ok, hrun]
      exact hK _ _ (h _ (setRow_heap w B arr _ T _ hob) ⟨rfl, rfl, rfl, by simp, fun k _ hk => setRow_other w B k _ (fun e => hk (by rw [e]))⟩ (by simp))

theorem info_parts2 {P : Program} {e : TypeId} {s b : Nat} (h : (P.info? e).map (fun i => (i.zero.isSome, i.size, i.bytes)) = some (true, s, b)) : ∃ i z, P.info? e = some i ∧ i.zero = some z ∧ i.size = s ∧ i.bytes = b := by
  cases hq : P.info? e with
  | none => simp [hq] at h
  | some i =>
    simp [hq] at h
    obtain ⟨z, hz⟩ := Option.isSome_iff_exists.1 h.1
    exact ⟨i, z, rfl, hz, h.2.1, h.2.2⟩

/-- 'make([]T, n)'. -/
theorem wpList_make_rep {P : Program} {ops : Array Oper} {rest : List Oper} {o : Oper} {a : Act} {w : World} {Q : Exit → Act → World → Prop} (hgd : o.guard = none) (ty : TypeId) (x : Operand) (ho : o.op = .makeSlice ty x x)
    (n : Nat) (hx : a.eval x = .int .i64 n) (e : TypeId) (hu : P.underlying ty = some (.slice e)) (s b : Nat) (hi : (P.info? e).map (fun i => (i.zero.isSome, i.size, i.bytes)) = some (true, s, b))
    (hb : n * b ≤ 140737488355328) (hn : n ≤ 9223372036854775807)
    (h : ∀ w' arr, arr.size = n * s → OB w' w.heap.size e arr → Ext w w' → w'.heap.size = w.heap.size + 1 → wpList P ops Q rest (a.put o.dst (.slice (some ⟨w.heap.size, 0, none⟩) n n)) w') : wpList P ops Q (o :: rest) a w :=
  wpList_plain hgd fun _ hK => by
    obtain ⟨i, z, hq, hz, hs, hby⟩ := info_parts2 hi
    have hbb : (i.bytes : Int) * (n : Int) ≤ 281474976710656 := by
      have h2 : ((n * b : Nat) : Int) ≤ 281474976710656 := by omega
      rw [Int.natCast_mul, Int.mul_comm] at h2
      rwa [hby]
    have hr := run_make (P := P) w ty e i z hu hq hz .i64 .i64 n n (by omega) (by omega) hbb (by omega)
    simp only [Int.toNat_natCast] at hr
    unfold Oper.wp execOp
    simp only [ho, hx, Sem.run_bind, Sem.run_pure, Result.andThen_ok, hr]
    exact hK _ _ (h _ _ (by rw [size_madeCells, hs]) (OB.new w e _) (Ext.alloc (Ext.refl w) _) (by simp))

/-- Three blocks of the call's own: the parameter's box, the result's slot, the variable. -/
structure Three (w : World) (B0 : Nat) (T0 : TypeId) (a0 : Array Value) (B1 : Nat) (T1 : TypeId) (a1 : Array Value) (B2 : Nat) (T2 : TypeId) (a2 : Array Value) : Prop where
  o0 : OB w B0 T0 a0
  o1 : OB w B1 T1 a1
  o2 : OB w B2 T2 a2
theorem Three.ext {w w' : World} {B0 B1 B2 : Nat} {T0 T1 T2 : TypeId} {a0 a1 a2 : Array Value} (h : Three w B0 T0 a0 B1 T1 a1 B2 T2 a2) (hx : Ext w w') : Three w' B0 T0 a0 B1 T1 a1 B2 T2 a2 :=
  ⟨h.o0.ext hx, h.o1.ext hx, h.o2.ext hx⟩
theorem OB.grown {w w' : World} {g B : Nat} {t : TypeId} {cs : Array Value} (h : OB w g t cs) (hg : w.grownBy w' (some B)) (hne : g ≠ B) : OB w' g t cs := (hg.block g h.lt (by simpa using hne)).trans h
theorem Three.grown {w w' : World} {B0 B1 B2 : Nat} {T0 T1 T2 : TypeId} {a0 a1 a2 a2' : Array Value} (h : Three w B0 T0 a0 B1 T1 a1 B2 T2 a2) (hg : w.grownBy w' (some B2)) (ho : OB w' B2 T2 a2') (h0 : B0 ≠ B2) (h1 : B1 ≠ B2) :
    Three w' B0 T0 a0 B1 T1 a1 B2 T2 a2' := ⟨h.o0.grown hg h0, h.o1.grown hg h1, ho⟩
theorem Three.new (w : World) (T0 T1 T2 : TypeId) (a0 a1 a2 : Array Value) : Three (((w.alloc (.cells a0 T0)).alloc (.cells a1 T1)).alloc (.cells a2 T2)) w.heap.size T0 a0 (w.heap.size + 1) T1 a1 (w.heap.size + 1 + 1) T2 a2 := by
  refine ⟨((OB.new w T0 a0).ext (.alloc (.refl _) _)).ext (.alloc (.refl _) _), ?_, ?_⟩
  · have := (OB.new (w.alloc (.cells a0 T0)) T1 a1).ext (.alloc (.refl _) (.cells a2 T2))
    simpa using this
  · have := OB.new ((w.alloc (.cells a0 T0)).alloc (.cells a1 T1)) T2 a2
    simpa using this
theorem grown_ext {a w w' : World} {B : Nat} (h : Ext a w) (hg : w.grownBy w' (some B)) (hB : a.heap.size ≤ B) : Ext a w' := Below.grown h hg h.size (by intro k hk; cases hk; exact hB)

/-- A single cell stored into a block of the call's own. -/
theorem wpList_store_cell {P : Program} {ops : Array Oper} {rest : List Oper} {o : Oper} {a : Act} {w : World} {Q : Exit → Act → World → Prop} (hgd : o.guard = none) (ty : TypeId) (x y : Operand) (ho : o.op = .store ty x y)
    (B off : Nat) (hx : a.eval x = .pointer (some ⟨B, off, none⟩)) (v : Value) (hy : a.eval y = v) (hv : v.cells = #[v]) (T : TypeId) (arr : Array Value) (hob : OB w B T arr) (hi : (P.info? ty).map (·.size) = some 1)
    (hfit : off < arr.size) (h1 : v.oneCell' = true)
    (h : ∀ w', OB w' B T (splice arr off [v]) → w.grownBy w' (some B) → w'.heap.size = w.heap.size → wpList P ops Q rest (a.put o.dst undef) w') : wpList P ops Q (o :: rest) a w :=
  wpList_plain hgd fun _ hK => by
    have hst := run_storeCells_at P B off T [v] 0 arr w hob (by simp; omega) (by simpa using h1)
    cases hq : P.info? ty with
    | none => simp [hq] at hi
    | some i =>
      have hs : i.size = 1 := by simpa [hq] using hi
      have hrun : (storeVar ty ⟨B, off, none⟩ v).run P w = .ok () (w.setRow B (splice arr off [v])) := by
        simp only [storeVar, hv]
        simp [Go.sizeOf, typeInfo, hq, hs, hst, splice]
      unfold Oper.wp execOp
      simp only [ho, hx, hy, Instr.storeAt, Instr.sureAddr, Sem.run_bind, Sem.run_pure, Result.andThen_ok, hrun]
      exact hK _ _ (h _ (setRow_heap w B arr _ T _ hob) ⟨rfl, rfl, rfl, by simp, fun k _ hk => setRow_other w B k _ (fun e => hk (by rw [e]))⟩ (by simp))

theorem splice_whole {arr : Array Value} {vs : List Value} (h : vs.length = arr.size) : splice arr 0 vs = ⟨vs⟩ := by
  simp [splice, h]

theorem OwnL.nil (w : World) (S : Nat → Prop) : OwnL w [] [] S := ⟨rfl, fun _ _ => False, by simp, by simp, by simp⟩
theorem OwnL.cons_leaf {w : World} {ts : List Tr} {vs : List Value} {S : Nat → Prop} {v : Value} (hv : LeafOk v) (h : OwnL w ts vs S) : OwnL w (.leaf v :: ts) (v :: vs) S := by
  obtain ⟨hl, T, h1, h2, h3⟩ := h
  refine ⟨by simp [hl], fun j => match j with | 0 => fun _ => False | j + 1 => T j, ?_, ?_, ?_⟩
  · intro j d hd
    cases j with
    | zero => simp at hd; subst hd; exact ⟨v, rfl, .leaf hv⟩
    | succ j => exact h1 j d (by simpa using hd)
  · intro j d hd x hx
    cases j with
    | zero => exact hx.elim
    | succ j => exact h2 j d (by simpa using hd) x hx
  · intro j d hd j' d' hd' hne x hx hx'
    cases j with
    | zero => exact hx.elim
    | succ j =>
      cases j' with
      | zero => exact hx'.elim
      | succ j' => exact h3 j d (by simpa using hd) j' d' (by simpa using hd') (by omega) x hx hx'

theorem OwnL.append {w : World} {ts us : List Tr} {vs xs : List Value} {S S' : Nat → Prop} (h : OwnL w ts vs S) (k : OwnL w us xs S') (hd : ∀ x, S x → S' x → False) : OwnL w (ts ++ us) (vs ++ xs) (fun x => S x ∨ S' x) := by
  obtain ⟨hl, T, h1, h2, h3⟩ := h
  obtain ⟨kl, U, k1, k2, k3⟩ := k
  have left : ∀ j d, (ts ++ us)[j]? = some d → j < ts.length → ts[j]? = some d := fun j d hj hlt => by rwa [List.getElem?_append_left hlt] at hj
  have right : ∀ j d, (ts ++ us)[j]? = some d → ¬ j < ts.length → us[j - ts.length]? = some d := fun j d hj hlt => by rwa [List.getElem?_append_right (by omega)] at hj
  refine ⟨by simp [hl, kl], fun j => if j < ts.length then T j else U (j - ts.length), ?_, ?_, ?_⟩
  · intro j d hj
    by_cases hlt : j < ts.length
    · simp only [if_pos hlt]
      obtain ⟨v, hv, ho⟩ := h1 j d (left j d hj hlt)
      exact ⟨v, by rw [List.getElem?_append_left (by omega)]; exact hv, ho⟩
    · simp only [if_neg hlt]
      obtain ⟨v, hv, ho⟩ := k1 _ d (right j d hj hlt)
      exact ⟨v, by rw [List.getElem?_append_right (by omega), hl]; exact hv, ho⟩
  · intro j d hj x hx
    by_cases hlt : j < ts.length
    · simp only [if_pos hlt] at hx
      exact .inl (h2 j d (left j d hj hlt) x hx)
    · simp only [if_neg hlt] at hx
      exact .inr (k2 _ d (right j d hj hlt) x hx)
  · intro j d hj j' d' hj' hne x hx hx'
    by_cases hlt : j < ts.length <;> by_cases hlt' : j' < ts.length
    · simp only [if_pos hlt] at hx; simp only [if_pos hlt'] at hx'
      exact h3 j d (left j d hj hlt) j' d' (left j' d' hj' hlt') hne x hx hx'
    · simp only [if_pos hlt] at hx; simp only [if_neg hlt'] at hx'
      exact hd x (h2 j d (left j d hj hlt) x hx) (k2 _ d' (right j' d' hj' hlt') x hx')
    · simp only [if_neg hlt] at hx; simp only [if_pos hlt'] at hx'
      exact hd x (h2 j' d' (left j' d' hj' hlt') x hx') (k2 _ d (right j d hj hlt) x hx)
    · simp only [if_neg hlt] at hx; simp only [if_neg hlt'] at hx'
      exact k3 _ d (right j d hj hlt) _ d' (right j' d' hj' hlt') (by omega) x hx hx'

theorem OwnL.one {w : World} {t : Tr} {v : Value} {S : Nat → Prop} (h : Own w t v S) : OwnL w [t] [v] S := by
  refine ⟨rfl, fun _ => S, ?_, ?_, ?_⟩
  · intro j d hd
    cases j with
    | zero => simp at hd; subst hd; exact ⟨v, rfl, h⟩
    | succ j => simp at hd
  · intro j d hd x hx
    exact hx
  · intro j d hd j' d' hd' hne
    cases j <;> cases j' <;> simp_all

structure Two (w : World) (B0 : Nat) (T0 : TypeId) (a0 : Array Value) (B1 : Nat) (T1 : TypeId) (a1 : Array Value) : Prop where
  o0 : OB w B0 T0 a0
  o1 : OB w B1 T1 a1
theorem Two.ext {w w' : World} {B0 B1 : Nat} {T0 T1 : TypeId} {a0 a1 : Array Value} (h : Two w B0 T0 a0 B1 T1 a1) (hx : Ext w w') : Two w' B0 T0 a0 B1 T1 a1 := ⟨h.o0.ext hx, h.o1.ext hx⟩
theorem Two.new (w : World) (T0 T1 : TypeId) (a0 a1 : Array Value) : Two ((w.alloc (.cells a0 T0)).alloc (.cells a1 T1)) w.heap.size T0 a0 (w.heap.size + 1) T1 a1 := by
  refine ⟨(OB.new w T0 a0).ext (.alloc (.refl _) _), ?_⟩
  have := OB.new (w.alloc (.cells a0 T0)) T1 a1
  simpa using this

theorem Rep.lens {w : World} {sz : Nat} {es : List (List Tr)} {a : Option Addr} {n c : Nat} (h : Rep w (.row sz es) (.slice a n c)) : n ≤ c ∧ c ≤ 9223372036854775807 ∧ n = es.length := by
  obtain ⟨a', c', h1, h2, h3⟩ := h.shape
  injection h1 with _ h4 h5
  subst h4 h5
  exact ⟨h2, by unfold maxLen at h3; omega, rfl⟩
theorem OB.cells0 {w : World} {B : Nat} {T : TypeId} {cs : List Value} (h : OB w B T ⟨cs⟩) : ∀ (j : Nat) (v : Value), cs[j]? = some v → w.cell? ⟨B, 0 + j, none⟩ = some v := fun j v hv => by
  rw [h.cell, Nat.zero_add]; simpa using hv

theorem run_callFunc_body {P : Program} {f : FuncId} {fn : Func} (hf : P.funcs[f]? = some fn) (hname : (fn.name == "runtime.NumGoroutine") = false) (hb : fn.body.isNone = false) (args : Array Value) (w : World) :
    (callFunc f args).run P w = .ok (.enter f args) w := by
  have h1 : ¬ (fn.name == "runtime.NumGoroutine") = true := by simp [hname]
  have h2 : ¬ fn.body.isNone = true := by simp [hb]
  unfold callFunc
  rw [Sem.run_bind]
  show Result.andThen (Result.ok P w) _ = _
  rw [Result.andThen_ok, hf]
  simp only [h1, h2]
  rfl

/-- Blocks from 'lo' on hold what they held. -/
def Keeps (lo : Nat) (w w' : World) : Prop := w.heap.size ≤ w'.heap.size ∧ ∀ b, lo ≤ b → b < w.heap.size → w'.heap[b]? = w.heap[b]?
theorem Keeps.refl (lo : Nat) (w : World) : Keeps lo w w := ⟨Nat.le_refl _, fun _ _ _ => rfl⟩
theorem Keeps.of_ext {lo : Nat} {w w' : World} (h : Ext w w') : Keeps lo w w' := ⟨h.size, fun b _ hb => h.block b hb⟩
theorem Keeps.of_grown {lo B : Nat} {w w' : World} (h : w.grownBy w' (some B)) (hB : B < lo) : Keeps lo w w' := ⟨h.size, fun b hl hb => h.block b hb (by simp; omega)⟩
theorem Keeps.trans {lo : Nat} {a b c : World} (h : Keeps lo a b) (k : Keeps lo b c) : Keeps lo a c := ⟨Nat.le_trans h.1 k.1, fun x hl hx => (k.2 x hl (Nat.lt_of_lt_of_le hx h.1)).trans (h.2 x hl hx)⟩
theorem OwnL.keeps {w w' : World} {lo : Nat} {ts : List Tr} {vs : List Value} {S : Nat → Prop} (h : OwnL w ts vs S) (hk : Keeps lo w w') (hS : ∀ x, S x → lo ≤ x) : OwnL w' ts vs S := h.keep fun b hb hlt => hk.2 b (hS b hb) hlt
theorem Own.keeps {w w' : World} {lo : Nat} {t : Tr} {v : Value} {S : Nat → Prop} (h : Own w t v S) (hk : Keeps lo w w') (hS : ∀ x, S x → lo ≤ x) : Own w' t v S := h.keep fun b hb hlt => hk.2 b (hS b hb) hlt

theorem RepL.split {w : World} {ts us : List Tr} {cs : List Value} (h : RepL w (ts ++ us) cs) : ∃ c d, cs = c ++ d ∧ RepL w ts c ∧ RepL w us d := by
  induction ts generalizing cs with
  | nil => exact ⟨[], cs, rfl, trivial, h⟩
  | cons t ts ih =>
    cases cs with
    | nil => exact h.elim
    | cons v vs =>
      obtain ⟨c, d, rfl, h1, h2⟩ := ih h.2
      exact ⟨v :: c, d, rfl, ⟨h.1, h1⟩, h2⟩
theorem RepL.nil_eq {w : World} {cs : List Value} (h : RepL w [] cs) : cs = [] := by cases cs with | nil => rfl | cons => exact h.elim

theorem Tr.bulkL_append (a b : List Tr) : Tr.bulkL (a ++ b) = Tr.bulkL a + Tr.bulkL b := by
  induction a with
  | nil => simp [Tr.bulkL]
  | cons t a ih => simp [Tr.bulkL, ih]; omega
theorem Tr.bulkAll_le {l : List (List Tr)} {k : Nat} (h : k < l.length) : Tr.bulkL l[k] ≤ Tr.bulkAll l := by
  induction l generalizing k with
  | nil => simp at h
  | cons a l ih =>
    cases k with
    | zero => simp [Tr.bulkAll]
    | succ k => have := ih (k := k) (by simpa using h); simp [Tr.bulkAll]; omega

theorem list1 {α : Type} {l : List α} (h : l.length = 1) : ∃ a0 : α, l = [a0] := by
  match l, h with
  | [a0], _ => exact ⟨a0, rfl⟩
theorem list2 {α : Type} {l : List α} (h : l.length = 2) : ∃ a0 a1 : α, l = [a0, a1] := by
  match l, h with
  | [a0, a1], _ => exact ⟨a0, a1, rfl⟩
end Go.Proofs.YtmpepccpnnldoaaDoor

namespace Go.Proofs.YtmpepccpnnldoaaDoor
open Go.RowKit

def strTrs (l : List ByteArray) : List (List Tr) := l.map fun s => [.leaf (.string s)]
def intTrs (l : List Int) : List (List Tr) := l.map fun n => [.leaf (.int .i64 n)]
theorem strTrs_len (l : List ByteArray) : (strTrs l).length = l.length := by simp [strTrs]
theorem intTrs_len (l : List Int) : (intTrs l).length = l.length := by simp [intTrs]
theorem strTrs_get {l : List ByteArray} {k : Nat} (h : k < l.length) : (strTrs l)[k]? = some [.leaf (.string l[k])] := by
  unfold strTrs
  rw [List.getElem?_map, List.getElem?_eq_getElem h]; rfl
theorem intTrs_get {l : List Int} {k : Nat} (h : k < l.length) : (intTrs l)[k]? = some [.leaf (.int .i64 l[k])] := by
  unfold intTrs
  rw [List.getElem?_map, List.getElem?_eq_getElem h]; rfl
/-- Element k of a slice of strings, of integers. -/
theorem Rep.str {w : World} {l : List ByteArray} {a : Option Addr} {len cap k : Nat} (h : Rep w (.row 1 (strTrs l)) (.slice a len cap)) (hk : k < l.length) :
    ∃ b off, a = some ⟨b, off, none⟩ ∧ b < w.heap.size ∧ l[k].size ≤ maxLen ∧ w.cell? ⟨b, off + k, none⟩ = some (.string l[k]) := by
  obtain ⟨b, off, cs, rfl, hb, hcs, hc⟩ := h.at2 (strTrs_get hk)
  obtain ⟨v, rfl⟩ := list1 hcs.length.symm
  obtain ⟨rfl, hl⟩ := hcs.1.leaf_eq
  have := hc 0 _ rfl
  rw [Nat.mul_one, Nat.add_zero] at this
  exact ⟨b, off, rfl, hb, hl, this⟩
theorem Rep.int {w : World} {l : List Int} {a : Option Addr} {len cap k : Nat} (h : Rep w (.row 1 (intTrs l)) (.slice a len cap)) (hk : k < l.length) :
    ∃ b off, a = some ⟨b, off, none⟩ ∧ b < w.heap.size ∧ (Lit.int .i64 l[k]).wf = true ∧ w.cell? ⟨b, off + k, none⟩ = some (.int .i64 l[k]) := by
  obtain ⟨b, off, cs, rfl, hb, hcs, hc⟩ := h.at2 (intTrs_get hk)
  obtain ⟨v, rfl⟩ := list1 hcs.length.symm
  obtain ⟨rfl, hl⟩ := hcs.1.leaf_eq
  have := hc 0 _ rfl
  rw [Nat.mul_one, Nat.add_zero] at this
  exact ⟨b, off, rfl, hb, hl, this⟩

inductive GInstanceRef where
  | mk (package_ : Int) (at_ : Int)
def GInstanceRef.tr : GInstanceRef → List Tr
  | .mk v0 v1 => [.leaf (.int .i64 v0)] ++ ([.leaf (.int .i64 v1)] ++ ([]))
def GInstanceRef.trs (l : List GInstanceRef) : List (List Tr) := l.map GInstanceRef.tr
theorem GInstanceRef.trs_map (l : List GInstanceRef) : GInstanceRef.trs l = l.map GInstanceRef.tr := rfl
theorem GInstanceRef.trs_len (l : List GInstanceRef) : (GInstanceRef.trs l).length = l.length := by rw [GInstanceRef.trs_map, List.length_map]
def GInstanceRef.gPackage : GInstanceRef → Int
  | .mk v _ => v
@[simp] theorem GInstanceRef.gPackage_mk (v0 : Int) (v1 : Int) : GInstanceRef.gPackage (.mk v0 v1) = v0 := rfl
def GInstanceRef.gAt : GInstanceRef → Int
  | .mk _ v => v
@[simp] theorem GInstanceRef.gAt_mk (v0 : Int) (v1 : Int) : GInstanceRef.gAt (.mk v0 v1) = v1 := rfl
theorem GInstanceRef.tr_len (x : GInstanceRef) : x.tr.length = 2 := by
  obtain ⟨v0, v1⟩ := x
  simp [GInstanceRef.tr]
theorem GInstanceRef.opened {w : World} {cs : List Value} {v0 : Int} {v1 : Int} (h : RepL w (GInstanceRef.tr (.mk v0 v1)) cs) :
    cs = [.int .i64 v0] ++ ([.int .i64 v1] ++ ([])) ∧ LeafOk (.int .i64 v0) ∧ LeafOk (.int .i64 v1) := by
  obtain ⟨b0, r0, rfl, g0, n0⟩ := RepL.split h
  obtain ⟨y0, rfl⟩ := list1 g0.length.symm
  obtain ⟨rfl, k0⟩ := g0.1.leaf_eq
  obtain ⟨b1, r1, rfl, g1, n1⟩ := RepL.split n0
  obtain ⟨y1, rfl⟩ := list1 g1.length.symm
  obtain ⟨rfl, k1⟩ := g1.1.leaf_eq
  obtain rfl := RepL.nil_eq n1
  exact ⟨rfl, k0, k1⟩

theorem GInstanceRef.sz (l : List GInstanceRef) : ∀ e ∈ GInstanceRef.trs l, e.length = 2 := by
  intro e he
  rw [GInstanceRef.trs_map] at he
  obtain ⟨x, -, rfl⟩ := List.mem_map.1 he
  exact GInstanceRef.tr_len x
theorem GInstanceRef.all {l : List GInstanceRef} {Q : List Tr → Prop} (h : ∀ x ∈ l, Q x.tr) : ∀ e ∈ GInstanceRef.trs l, Q e := by
  intro e he
  rw [GInstanceRef.trs_map] at he
  obtain ⟨x, hx, rfl⟩ := List.mem_map.1 he
  exact h x hx
theorem GInstanceRef.trs_get {l : List GInstanceRef} {k : Nat} (h : k < l.length) : (GInstanceRef.trs l)[k]? = some (l[k]).tr := by
  rw [GInstanceRef.trs_map, List.getElem?_map, List.getElem?_eq_getElem h]; rfl
inductive GSExpr where
  | mk (atom_ : ByteArray) (list_ : List GSExpr)
mutual
def GSExpr.tr : GSExpr → List Tr
  | .mk v0 v1 => [.leaf (.string v0)] ++ ([.row 2 (GSExpr.trs v1)] ++ ([]))
def GSExpr.trs : List GSExpr → List (List Tr)
  | [] => []
  | e :: r => GSExpr.tr e :: GSExpr.trs r
end
theorem GSExpr.trs_map (l : List GSExpr) : GSExpr.trs l = l.map GSExpr.tr := by induction l <;> simp_all [GSExpr.trs]
def GSExpr.gAtom : GSExpr → ByteArray
  | .mk v _ => v
@[simp] theorem GSExpr.gAtom_mk (v0 : ByteArray) (v1 : List GSExpr) : GSExpr.gAtom (.mk v0 v1) = v0 := rfl
def GSExpr.gList : GSExpr → List GSExpr
  | .mk _ v => v
@[simp] theorem GSExpr.gList_mk (v0 : ByteArray) (v1 : List GSExpr) : GSExpr.gList (.mk v0 v1) = v1 := rfl
theorem GSExpr.tr_len (x : GSExpr) : x.tr.length = 2 := by
  obtain ⟨v0, v1⟩ := x
  simp [GSExpr.tr]
theorem GSExpr.sz (l : List GSExpr) : ∀ e ∈ GSExpr.trs l, e.length = 2 := by
  intro e he
  rw [GSExpr.trs_map] at he
  obtain ⟨x, -, rfl⟩ := List.mem_map.1 he
  exact GSExpr.tr_len x
theorem GSExpr.all {l : List GSExpr} {Q : List Tr → Prop} (h : ∀ x ∈ l, Q x.tr) : ∀ e ∈ GSExpr.trs l, Q e := by
  intro e he
  rw [GSExpr.trs_map] at he
  obtain ⟨x, hx, rfl⟩ := List.mem_map.1 he
  exact h x hx
inductive GType where
  | mk (kind_ : Int) (name_ : ByteArray) (args_ : List GType)
mutual
def GType.tr : GType → List Tr
  | .mk v0 v1 v2 => [.leaf (.int .i64 v0)] ++ ([.leaf (.string v1)] ++ ([.row 3 (GType.trs v2)] ++ ([])))
def GType.trs : List GType → List (List Tr)
  | [] => []
  | e :: r => GType.tr e :: GType.trs r
end
theorem GType.trs_map (l : List GType) : GType.trs l = l.map GType.tr := by induction l <;> simp_all [GType.trs]
def GType.gKind : GType → Int
  | .mk v _ _ => v
@[simp] theorem GType.gKind_mk (v0 : Int) (v1 : ByteArray) (v2 : List GType) : GType.gKind (.mk v0 v1 v2) = v0 := rfl
def GType.gName : GType → ByteArray
  | .mk _ v _ => v
@[simp] theorem GType.gName_mk (v0 : Int) (v1 : ByteArray) (v2 : List GType) : GType.gName (.mk v0 v1 v2) = v1 := rfl
def GType.gArgs : GType → List GType
  | .mk _ _ v => v
@[simp] theorem GType.gArgs_mk (v0 : Int) (v1 : ByteArray) (v2 : List GType) : GType.gArgs (.mk v0 v1 v2) = v2 := rfl
theorem GType.tr_len (x : GType) : x.tr.length = 3 := by
  obtain ⟨v0, v1, v2⟩ := x
  simp [GType.tr]
theorem GType.sz (l : List GType) : ∀ e ∈ GType.trs l, e.length = 3 := by
  intro e he
  rw [GType.trs_map] at he
  obtain ⟨x, -, rfl⟩ := List.mem_map.1 he
  exact GType.tr_len x
theorem GType.all {l : List GType} {Q : List Tr → Prop} (h : ∀ x ∈ l, Q x.tr) : ∀ e ∈ GType.trs l, Q e := by
  intro e he
  rw [GType.trs_map] at he
  obtain ⟨x, hx, rfl⟩ := List.mem_map.1 he
  exact h x hx
inductive GBinding where
  | mk (var_ : ByteArray) (type_ : GType)
def GBinding.tr : GBinding → List Tr
  | .mk v0 v1 => [.leaf (.string v0)] ++ (GType.tr v1 ++ ([]))
def GBinding.trs (l : List GBinding) : List (List Tr) := l.map GBinding.tr
theorem GBinding.trs_map (l : List GBinding) : GBinding.trs l = l.map GBinding.tr := rfl
def GBinding.gVar : GBinding → ByteArray
  | .mk v _ => v
@[simp] theorem GBinding.gVar_mk (v0 : ByteArray) (v1 : GType) : GBinding.gVar (.mk v0 v1) = v0 := rfl
def GBinding.gType : GBinding → GType
  | .mk _ v => v
@[simp] theorem GBinding.gType_mk (v0 : ByteArray) (v1 : GType) : GBinding.gType (.mk v0 v1) = v1 := rfl
theorem GBinding.tr_len (x : GBinding) : x.tr.length = 4 := by
  obtain ⟨v0, v1⟩ := x
  simp [GBinding.tr, GType.tr_len]
theorem GBinding.sz (l : List GBinding) : ∀ e ∈ GBinding.trs l, e.length = 4 := by
  intro e he
  rw [GBinding.trs_map] at he
  obtain ⟨x, -, rfl⟩ := List.mem_map.1 he
  exact GBinding.tr_len x
theorem GBinding.all {l : List GBinding} {Q : List Tr → Prop} (h : ∀ x ∈ l, Q x.tr) : ∀ e ∈ GBinding.trs l, Q e := by
  intro e he
  rw [GBinding.trs_map] at he
  obtain ⟨x, hx, rfl⟩ := List.mem_map.1 he
  exact h x hx
mutual
inductive GArm where
  | mk (constructor_ : ByteArray) (vars_ : List ByteArray) (body_ : GExpr)
inductive GExpr where
  | mk (kind_ : Int) (trait_ : ByteArray) (name_ : ByteArray) (n_ : Int) (type_ : GType) (args_ : List GExpr) (arms_ : List GArm)
end
mutual
def GArm.tr : GArm → List Tr
  | .mk v0 v1 v2 => [.leaf (.string v0)] ++ ([.row 1 (strTrs v1)] ++ (GExpr.tr v2 ++ ([])))
def GArm.trs : List GArm → List (List Tr)
  | [] => []
  | e :: r => GArm.tr e :: GArm.trs r
def GExpr.tr : GExpr → List Tr
  | .mk v0 v1 v2 v3 v4 v5 v6 => [.leaf (.int .i64 v0)] ++ ([.leaf (.string v1)] ++ ([.leaf (.string v2)] ++ ([.leaf (.int .i64 v3)] ++ (GType.tr v4 ++ ([.row 9 (GExpr.trs v5)] ++ ([.row 11 (GArm.trs v6)] ++ ([])))))))
def GExpr.trs : List GExpr → List (List Tr)
  | [] => []
  | e :: r => GExpr.tr e :: GExpr.trs r
end
theorem GArm.trs_map (l : List GArm) : GArm.trs l = l.map GArm.tr := by induction l <;> simp_all [GArm.trs]
theorem GExpr.trs_map (l : List GExpr) : GExpr.trs l = l.map GExpr.tr := by induction l <;> simp_all [GExpr.trs]
def GArm.gConstructor : GArm → ByteArray
  | .mk v _ _ => v
@[simp] theorem GArm.gConstructor_mk (v0 : ByteArray) (v1 : List ByteArray) (v2 : GExpr) : GArm.gConstructor (.mk v0 v1 v2) = v0 := rfl
def GArm.gVars : GArm → List ByteArray
  | .mk _ v _ => v
@[simp] theorem GArm.gVars_mk (v0 : ByteArray) (v1 : List ByteArray) (v2 : GExpr) : GArm.gVars (.mk v0 v1 v2) = v1 := rfl
def GArm.gBody : GArm → GExpr
  | .mk _ _ v => v
@[simp] theorem GArm.gBody_mk (v0 : ByteArray) (v1 : List ByteArray) (v2 : GExpr) : GArm.gBody (.mk v0 v1 v2) = v2 := rfl

def GExpr.gKind : GExpr → Int
  | .mk v _ _ _ _ _ _ => v
@[simp] theorem GExpr.gKind_mk (v0 : Int) (v1 : ByteArray) (v2 : ByteArray) (v3 : Int) (v4 : GType) (v5 : List GExpr) (v6 : List GArm) : GExpr.gKind (.mk v0 v1 v2 v3 v4 v5 v6) = v0 := rfl
def GExpr.gTrait : GExpr → ByteArray
  | .mk _ v _ _ _ _ _ => v
@[simp] theorem GExpr.gTrait_mk (v0 : Int) (v1 : ByteArray) (v2 : ByteArray) (v3 : Int) (v4 : GType) (v5 : List GExpr) (v6 : List GArm) : GExpr.gTrait (.mk v0 v1 v2 v3 v4 v5 v6) = v1 := rfl
def GExpr.gName : GExpr → ByteArray
  | .mk _ _ v _ _ _ _ => v
@[simp] theorem GExpr.gName_mk (v0 : Int) (v1 : ByteArray) (v2 : ByteArray) (v3 : Int) (v4 : GType) (v5 : List GExpr) (v6 : List GArm) : GExpr.gName (.mk v0 v1 v2 v3 v4 v5 v6) = v2 := rfl
def GExpr.gN : GExpr → Int
  | .mk _ _ _ v _ _ _ => v
@[simp] theorem GExpr.gN_mk (v0 : Int) (v1 : ByteArray) (v2 : ByteArray) (v3 : Int) (v4 : GType) (v5 : List GExpr) (v6 : List GArm) : GExpr.gN (.mk v0 v1 v2 v3 v4 v5 v6) = v3 := rfl
def GExpr.gType : GExpr → GType
  | .mk _ _ _ _ v _ _ => v
@[simp] theorem GExpr.gType_mk (v0 : Int) (v1 : ByteArray) (v2 : ByteArray) (v3 : Int) (v4 : GType) (v5 : List GExpr) (v6 : List GArm) : GExpr.gType (.mk v0 v1 v2 v3 v4 v5 v6) = v4 := rfl
def GExpr.gArgs : GExpr → List GExpr
  | .mk _ _ _ _ _ v _ => v
@[simp] theorem GExpr.gArgs_mk (v0 : Int) (v1 : ByteArray) (v2 : ByteArray) (v3 : Int) (v4 : GType) (v5 : List GExpr) (v6 : List GArm) : GExpr.gArgs (.mk v0 v1 v2 v3 v4 v5 v6) = v5 := rfl
def GExpr.gArms : GExpr → List GArm
  | .mk _ _ _ _ _ _ v => v
@[simp] theorem GExpr.gArms_mk (v0 : Int) (v1 : ByteArray) (v2 : ByteArray) (v3 : Int) (v4 : GType) (v5 : List GExpr) (v6 : List GArm) : GExpr.gArms (.mk v0 v1 v2 v3 v4 v5 v6) = v6 := rfl
theorem GExpr.tr_len (x : GExpr) : x.tr.length = 9 := by
  obtain ⟨v0, v1, v2, v3, v4, v5, v6⟩ := x
  simp [GExpr.tr, GType.tr_len]
theorem GArm.tr_len (x : GArm) : x.tr.length = 11 := by
  obtain ⟨v0, v1, v2⟩ := x
  simp [GArm.tr, GExpr.tr_len]
theorem GArm.sz (l : List GArm) : ∀ e ∈ GArm.trs l, e.length = 11 := by
  intro e he
  rw [GArm.trs_map] at he
  obtain ⟨x, -, rfl⟩ := List.mem_map.1 he
  exact GArm.tr_len x
theorem GArm.all {l : List GArm} {Q : List Tr → Prop} (h : ∀ x ∈ l, Q x.tr) : ∀ e ∈ GArm.trs l, Q e := by
  intro e he
  rw [GArm.trs_map] at he
  obtain ⟨x, hx, rfl⟩ := List.mem_map.1 he
  exact h x hx
theorem GExpr.sz (l : List GExpr) : ∀ e ∈ GExpr.trs l, e.length = 9 := by
  intro e he
  rw [GExpr.trs_map] at he
  obtain ⟨x, -, rfl⟩ := List.mem_map.1 he
  exact GExpr.tr_len x
theorem GExpr.all {l : List GExpr} {Q : List Tr → Prop} (h : ∀ x ∈ l, Q x.tr) : ∀ e ∈ GExpr.trs l, Q e := by
  intro e he
  rw [GExpr.trs_map] at he
  obtain ⟨x, hx, rfl⟩ := List.mem_map.1 he
  exact h x hx
inductive GSignature where
  | mk (name_ : ByteArray) (params_ : List GType) (result_ : GType) (hasdefault_ : Bool) (vars_ : List ByteArray) (body_ : GExpr)
def GSignature.tr : GSignature → List Tr
  | .mk v0 v1 v2 v3 v4 v5 => [.leaf (.string v0)] ++ ([.row 3 (GType.trs v1)] ++ (GType.tr v2 ++ ([.leaf (.bool v3)] ++ ([.row 1 (strTrs v4)] ++ (GExpr.tr v5 ++ ([]))))))
def GSignature.trs (l : List GSignature) : List (List Tr) := l.map GSignature.tr
theorem GSignature.trs_map (l : List GSignature) : GSignature.trs l = l.map GSignature.tr := rfl
def GSignature.gName : GSignature → ByteArray
  | .mk v _ _ _ _ _ => v
@[simp] theorem GSignature.gName_mk (v0 : ByteArray) (v1 : List GType) (v2 : GType) (v3 : Bool) (v4 : List ByteArray) (v5 : GExpr) : GSignature.gName (.mk v0 v1 v2 v3 v4 v5) = v0 := rfl
def GSignature.gParams : GSignature → List GType
  | .mk _ v _ _ _ _ => v
@[simp] theorem GSignature.gParams_mk (v0 : ByteArray) (v1 : List GType) (v2 : GType) (v3 : Bool) (v4 : List ByteArray) (v5 : GExpr) : GSignature.gParams (.mk v0 v1 v2 v3 v4 v5) = v1 := rfl
def GSignature.gResult : GSignature → GType
  | .mk _ _ v _ _ _ => v
@[simp] theorem GSignature.gResult_mk (v0 : ByteArray) (v1 : List GType) (v2 : GType) (v3 : Bool) (v4 : List ByteArray) (v5 : GExpr) : GSignature.gResult (.mk v0 v1 v2 v3 v4 v5) = v2 := rfl
def GSignature.gHasDefault : GSignature → Bool
  | .mk _ _ _ v _ _ => v
@[simp] theorem GSignature.gHasDefault_mk (v0 : ByteArray) (v1 : List GType) (v2 : GType) (v3 : Bool) (v4 : List ByteArray) (v5 : GExpr) : GSignature.gHasDefault (.mk v0 v1 v2 v3 v4 v5) = v3 := rfl
def GSignature.gVars : GSignature → List ByteArray
  | .mk _ _ _ _ v _ => v
@[simp] theorem GSignature.gVars_mk (v0 : ByteArray) (v1 : List GType) (v2 : GType) (v3 : Bool) (v4 : List ByteArray) (v5 : GExpr) : GSignature.gVars (.mk v0 v1 v2 v3 v4 v5) = v4 := rfl
def GSignature.gBody : GSignature → GExpr
  | .mk _ _ _ _ _ v => v
@[simp] theorem GSignature.gBody_mk (v0 : ByteArray) (v1 : List GType) (v2 : GType) (v3 : Bool) (v4 : List ByteArray) (v5 : GExpr) : GSignature.gBody (.mk v0 v1 v2 v3 v4 v5) = v5 := rfl
theorem GSignature.tr_len (x : GSignature) : x.tr.length = 16 := by
  obtain ⟨v0, v1, v2, v3, v4, v5⟩ := x
  simp [GSignature.tr, GType.tr_len, GExpr.tr_len]
theorem GSignature.sz (l : List GSignature) : ∀ e ∈ GSignature.trs l, e.length = 16 := by
  intro e he
  rw [GSignature.trs_map] at he
  obtain ⟨x, -, rfl⟩ := List.mem_map.1 he
  exact GSignature.tr_len x
theorem GSignature.all {l : List GSignature} {Q : List Tr → Prop} (h : ∀ x ∈ l, Q x.tr) : ∀ e ∈ GSignature.trs l, Q e := by
  intro e he
  rw [GSignature.trs_map] at he
  obtain ⟨x, hx, rfl⟩ := List.mem_map.1 he
  exact h x hx
inductive GTrait where
  | mk (name_ : ByteArray) (supertraits_ : List ByteArray) (auto_ : Bool) (assoc_ : Bool) (signatures_ : List GSignature)
def GTrait.tr : GTrait → List Tr
  | .mk v0 v1 v2 v3 v4 => [.leaf (.string v0)] ++ ([.row 1 (strTrs v1)] ++ ([.leaf (.bool v2)] ++ ([.leaf (.bool v3)] ++ ([.row 16 (GSignature.trs v4)] ++ ([])))))
def GTrait.trs (l : List GTrait) : List (List Tr) := l.map GTrait.tr
theorem GTrait.trs_map (l : List GTrait) : GTrait.trs l = l.map GTrait.tr := rfl
def GTrait.gName : GTrait → ByteArray
  | .mk v _ _ _ _ => v
@[simp] theorem GTrait.gName_mk (v0 : ByteArray) (v1 : List ByteArray) (v2 : Bool) (v3 : Bool) (v4 : List GSignature) : GTrait.gName (.mk v0 v1 v2 v3 v4) = v0 := rfl
def GTrait.gSupertraits : GTrait → List ByteArray
  | .mk _ v _ _ _ => v
@[simp] theorem GTrait.gSupertraits_mk (v0 : ByteArray) (v1 : List ByteArray) (v2 : Bool) (v3 : Bool) (v4 : List GSignature) : GTrait.gSupertraits (.mk v0 v1 v2 v3 v4) = v1 := rfl
def GTrait.gAuto : GTrait → Bool
  | .mk _ _ v _ _ => v
@[simp] theorem GTrait.gAuto_mk (v0 : ByteArray) (v1 : List ByteArray) (v2 : Bool) (v3 : Bool) (v4 : List GSignature) : GTrait.gAuto (.mk v0 v1 v2 v3 v4) = v2 := rfl
def GTrait.gAssoc : GTrait → Bool
  | .mk _ _ _ v _ => v
@[simp] theorem GTrait.gAssoc_mk (v0 : ByteArray) (v1 : List ByteArray) (v2 : Bool) (v3 : Bool) (v4 : List GSignature) : GTrait.gAssoc (.mk v0 v1 v2 v3 v4) = v3 := rfl
def GTrait.gSignatures : GTrait → List GSignature
  | .mk _ _ _ _ v => v
@[simp] theorem GTrait.gSignatures_mk (v0 : ByteArray) (v1 : List ByteArray) (v2 : Bool) (v3 : Bool) (v4 : List GSignature) : GTrait.gSignatures (.mk v0 v1 v2 v3 v4) = v4 := rfl
theorem GTrait.tr_len (x : GTrait) : x.tr.length = 5 := by
  obtain ⟨v0, v1, v2, v3, v4⟩ := x
  simp [GTrait.tr]
theorem GTrait.sz (l : List GTrait) : ∀ e ∈ GTrait.trs l, e.length = 5 := by
  intro e he
  rw [GTrait.trs_map] at he
  obtain ⟨x, -, rfl⟩ := List.mem_map.1 he
  exact GTrait.tr_len x
theorem GTrait.all {l : List GTrait} {Q : List Tr → Prop} (h : ∀ x ∈ l, Q x.tr) : ∀ e ∈ GTrait.trs l, Q e := by
  intro e he
  rw [GTrait.trs_map] at he
  obtain ⟨x, hx, rfl⟩ := List.mem_map.1 he
  exact h x hx
inductive GConstructor where
  | mk (name_ : ByteArray) (fields_ : List GType)
def GConstructor.tr : GConstructor → List Tr
  | .mk v0 v1 => [.leaf (.string v0)] ++ ([.row 3 (GType.trs v1)] ++ ([]))
def GConstructor.trs (l : List GConstructor) : List (List Tr) := l.map GConstructor.tr
theorem GConstructor.trs_map (l : List GConstructor) : GConstructor.trs l = l.map GConstructor.tr := rfl
def GConstructor.gName : GConstructor → ByteArray
  | .mk v _ => v
@[simp] theorem GConstructor.gName_mk (v0 : ByteArray) (v1 : List GType) : GConstructor.gName (.mk v0 v1) = v0 := rfl
def GConstructor.gFields : GConstructor → List GType
  | .mk _ v => v
@[simp] theorem GConstructor.gFields_mk (v0 : ByteArray) (v1 : List GType) : GConstructor.gFields (.mk v0 v1) = v1 := rfl
theorem GConstructor.tr_len (x : GConstructor) : x.tr.length = 2 := by
  obtain ⟨v0, v1⟩ := x
  simp [GConstructor.tr]
theorem GConstructor.sz (l : List GConstructor) : ∀ e ∈ GConstructor.trs l, e.length = 2 := by
  intro e he
  rw [GConstructor.trs_map] at he
  obtain ⟨x, -, rfl⟩ := List.mem_map.1 he
  exact GConstructor.tr_len x
theorem GConstructor.all {l : List GConstructor} {Q : List Tr → Prop} (h : ∀ x ∈ l, Q x.tr) : ∀ e ∈ GConstructor.trs l, Q e := by
  intro e he
  rw [GConstructor.trs_map] at he
  obtain ⟨x, hx, rfl⟩ := List.mem_map.1 he
  exact h x hx
inductive GDataType where
  | mk (name_ : ByteArray) (vars_ : List ByteArray) (constructors_ : List GConstructor)
def GDataType.tr : GDataType → List Tr
  | .mk v0 v1 v2 => [.leaf (.string v0)] ++ ([.row 1 (strTrs v1)] ++ ([.row 2 (GConstructor.trs v2)] ++ ([])))
def GDataType.trs (l : List GDataType) : List (List Tr) := l.map GDataType.tr
theorem GDataType.trs_map (l : List GDataType) : GDataType.trs l = l.map GDataType.tr := rfl
def GDataType.gName : GDataType → ByteArray
  | .mk v _ _ => v
@[simp] theorem GDataType.gName_mk (v0 : ByteArray) (v1 : List ByteArray) (v2 : List GConstructor) : GDataType.gName (.mk v0 v1 v2) = v0 := rfl
def GDataType.gVars : GDataType → List ByteArray
  | .mk _ v _ => v
@[simp] theorem GDataType.gVars_mk (v0 : ByteArray) (v1 : List ByteArray) (v2 : List GConstructor) : GDataType.gVars (.mk v0 v1 v2) = v1 := rfl
def GDataType.gConstructors : GDataType → List GConstructor
  | .mk _ _ v => v
@[simp] theorem GDataType.gConstructors_mk (v0 : ByteArray) (v1 : List ByteArray) (v2 : List GConstructor) : GDataType.gConstructors (.mk v0 v1 v2) = v2 := rfl
theorem GDataType.tr_len (x : GDataType) : x.tr.length = 3 := by
  obtain ⟨v0, v1, v2⟩ := x
  simp [GDataType.tr]
theorem GDataType.sz (l : List GDataType) : ∀ e ∈ GDataType.trs l, e.length = 3 := by
  intro e he
  rw [GDataType.trs_map] at he
  obtain ⟨x, -, rfl⟩ := List.mem_map.1 he
  exact GDataType.tr_len x
theorem GDataType.all {l : List GDataType} {Q : List Tr → Prop} (h : ∀ x ∈ l, Q x.tr) : ∀ e ∈ GDataType.trs l, Q e := by
  intro e he
  rw [GDataType.trs_map] at he
  obtain ⟨x, hx, rfl⟩ := List.mem_map.1 he
  exact h x hx
inductive GBound where
  | mk (trait_ : ByteArray) (type_ : GType)
def GBound.tr : GBound → List Tr
  | .mk v0 v1 => [.leaf (.string v0)] ++ (GType.tr v1 ++ ([]))
def GBound.trs (l : List GBound) : List (List Tr) := l.map GBound.tr
theorem GBound.trs_map (l : List GBound) : GBound.trs l = l.map GBound.tr := rfl
def GBound.gTrait : GBound → ByteArray
  | .mk v _ => v
@[simp] theorem GBound.gTrait_mk (v0 : ByteArray) (v1 : GType) : GBound.gTrait (.mk v0 v1) = v0 := rfl
def GBound.gType : GBound → GType
  | .mk _ v => v
@[simp] theorem GBound.gType_mk (v0 : ByteArray) (v1 : GType) : GBound.gType (.mk v0 v1) = v1 := rfl
theorem GBound.tr_len (x : GBound) : x.tr.length = 4 := by
  obtain ⟨v0, v1⟩ := x
  simp [GBound.tr, GType.tr_len]
theorem GBound.sz (l : List GBound) : ∀ e ∈ GBound.trs l, e.length = 4 := by
  intro e he
  rw [GBound.trs_map] at he
  obtain ⟨x, -, rfl⟩ := List.mem_map.1 he
  exact GBound.tr_len x
theorem GBound.all {l : List GBound} {Q : List Tr → Prop} (h : ∀ x ∈ l, Q x.tr) : ∀ e ∈ GBound.trs l, Q e := by
  intro e he
  rw [GBound.trs_map] at he
  obtain ⟨x, hx, rfl⟩ := List.mem_map.1 he
  exact h x hx
inductive GMethod where
  | mk (name_ : ByteArray) (vars_ : List ByteArray) (body_ : GExpr)
def GMethod.tr : GMethod → List Tr
  | .mk v0 v1 v2 => [.leaf (.string v0)] ++ ([.row 1 (strTrs v1)] ++ (GExpr.tr v2 ++ ([])))
def GMethod.trs (l : List GMethod) : List (List Tr) := l.map GMethod.tr
theorem GMethod.trs_map (l : List GMethod) : GMethod.trs l = l.map GMethod.tr := rfl
def GMethod.gName : GMethod → ByteArray
  | .mk v _ _ => v
@[simp] theorem GMethod.gName_mk (v0 : ByteArray) (v1 : List ByteArray) (v2 : GExpr) : GMethod.gName (.mk v0 v1 v2) = v0 := rfl
def GMethod.gVars : GMethod → List ByteArray
  | .mk _ v _ => v
@[simp] theorem GMethod.gVars_mk (v0 : ByteArray) (v1 : List ByteArray) (v2 : GExpr) : GMethod.gVars (.mk v0 v1 v2) = v1 := rfl
def GMethod.gBody : GMethod → GExpr
  | .mk _ _ v => v
@[simp] theorem GMethod.gBody_mk (v0 : ByteArray) (v1 : List ByteArray) (v2 : GExpr) : GMethod.gBody (.mk v0 v1 v2) = v2 := rfl
theorem GMethod.tr_len (x : GMethod) : x.tr.length = 11 := by
  obtain ⟨v0, v1, v2⟩ := x
  simp [GMethod.tr, GExpr.tr_len]
theorem GMethod.sz (l : List GMethod) : ∀ e ∈ GMethod.trs l, e.length = 11 := by
  intro e he
  rw [GMethod.trs_map] at he
  obtain ⟨x, -, rfl⟩ := List.mem_map.1 he
  exact GMethod.tr_len x
theorem GMethod.all {l : List GMethod} {Q : List Tr → Prop} (h : ∀ x ∈ l, Q x.tr) : ∀ e ∈ GMethod.trs l, Q e := by
  intro e he
  rw [GMethod.trs_map] at he
  obtain ⟨x, hx, rfl⟩ := List.mem_map.1 he
  exact h x hx
inductive GInstance where
  | mk (trait_ : ByteArray) (vars_ : List ByteArray) (head_ : GType) (where_ : List GBound) (default_ : Bool) (hasassoc_ : Bool) (assoc_ : GType) (methods_ : List GMethod)
def GInstance.tr : GInstance → List Tr
  | .mk v0 v1 v2 v3 v4 v5 v6 v7 => [.leaf (.string v0)] ++ ([.row 1 (strTrs v1)] ++ (GType.tr v2 ++ ([.row 4 (GBound.trs v3)] ++ ([.leaf (.bool v4)] ++ ([.leaf (.bool v5)] ++ (GType.tr v6 ++ ([.row 11 (GMethod.trs v7)] ++ ([]))))))))
def GInstance.trs (l : List GInstance) : List (List Tr) := l.map GInstance.tr
theorem GInstance.trs_map (l : List GInstance) : GInstance.trs l = l.map GInstance.tr := rfl
def GInstance.gTrait : GInstance → ByteArray
  | .mk v _ _ _ _ _ _ _ => v
@[simp] theorem GInstance.gTrait_mk (v0 : ByteArray) (v1 : List ByteArray) (v2 : GType) (v3 : List GBound) (v4 : Bool) (v5 : Bool) (v6 : GType) (v7 : List GMethod) : GInstance.gTrait (.mk v0 v1 v2 v3 v4 v5 v6 v7) = v0 := rfl
def GInstance.gVars : GInstance → List ByteArray
  | .mk _ v _ _ _ _ _ _ => v
@[simp] theorem GInstance.gVars_mk (v0 : ByteArray) (v1 : List ByteArray) (v2 : GType) (v3 : List GBound) (v4 : Bool) (v5 : Bool) (v6 : GType) (v7 : List GMethod) : GInstance.gVars (.mk v0 v1 v2 v3 v4 v5 v6 v7) = v1 := rfl
def GInstance.gHead : GInstance → GType
  | .mk _ _ v _ _ _ _ _ => v
@[simp] theorem GInstance.gHead_mk (v0 : ByteArray) (v1 : List ByteArray) (v2 : GType) (v3 : List GBound) (v4 : Bool) (v5 : Bool) (v6 : GType) (v7 : List GMethod) : GInstance.gHead (.mk v0 v1 v2 v3 v4 v5 v6 v7) = v2 := rfl
def GInstance.gWhere : GInstance → List GBound
  | .mk _ _ _ v _ _ _ _ => v
@[simp] theorem GInstance.gWhere_mk (v0 : ByteArray) (v1 : List ByteArray) (v2 : GType) (v3 : List GBound) (v4 : Bool) (v5 : Bool) (v6 : GType) (v7 : List GMethod) : GInstance.gWhere (.mk v0 v1 v2 v3 v4 v5 v6 v7) = v3 := rfl
def GInstance.gDefault : GInstance → Bool
  | .mk _ _ _ _ v _ _ _ => v
@[simp] theorem GInstance.gDefault_mk (v0 : ByteArray) (v1 : List ByteArray) (v2 : GType) (v3 : List GBound) (v4 : Bool) (v5 : Bool) (v6 : GType) (v7 : List GMethod) : GInstance.gDefault (.mk v0 v1 v2 v3 v4 v5 v6 v7) = v4 := rfl
def GInstance.gHasAssoc : GInstance → Bool
  | .mk _ _ _ _ _ v _ _ => v
@[simp] theorem GInstance.gHasAssoc_mk (v0 : ByteArray) (v1 : List ByteArray) (v2 : GType) (v3 : List GBound) (v4 : Bool) (v5 : Bool) (v6 : GType) (v7 : List GMethod) : GInstance.gHasAssoc (.mk v0 v1 v2 v3 v4 v5 v6 v7) = v5 := rfl
def GInstance.gAssoc : GInstance → GType
  | .mk _ _ _ _ _ _ v _ => v
@[simp] theorem GInstance.gAssoc_mk (v0 : ByteArray) (v1 : List ByteArray) (v2 : GType) (v3 : List GBound) (v4 : Bool) (v5 : Bool) (v6 : GType) (v7 : List GMethod) : GInstance.gAssoc (.mk v0 v1 v2 v3 v4 v5 v6 v7) = v6 := rfl
def GInstance.gMethods : GInstance → List GMethod
  | .mk _ _ _ _ _ _ _ v => v
@[simp] theorem GInstance.gMethods_mk (v0 : ByteArray) (v1 : List ByteArray) (v2 : GType) (v3 : List GBound) (v4 : Bool) (v5 : Bool) (v6 : GType) (v7 : List GMethod) : GInstance.gMethods (.mk v0 v1 v2 v3 v4 v5 v6 v7) = v7 := rfl
theorem GInstance.tr_len (x : GInstance) : x.tr.length = 12 := by
  obtain ⟨v0, v1, v2, v3, v4, v5, v6, v7⟩ := x
  simp [GInstance.tr, GType.tr_len, GType.tr_len]
theorem GInstance.sz (l : List GInstance) : ∀ e ∈ GInstance.trs l, e.length = 12 := by
  intro e he
  rw [GInstance.trs_map] at he
  obtain ⟨x, -, rfl⟩ := List.mem_map.1 he
  exact GInstance.tr_len x
theorem GInstance.all {l : List GInstance} {Q : List Tr → Prop} (h : ∀ x ∈ l, Q x.tr) : ∀ e ∈ GInstance.trs l, Q e := by
  intro e he
  rw [GInstance.trs_map] at he
  obtain ⟨x, hx, rfl⟩ := List.mem_map.1 he
  exact h x hx
inductive GParam where
  | mk (name_ : ByteArray) (type_ : GType)
def GParam.tr : GParam → List Tr
  | .mk v0 v1 => [.leaf (.string v0)] ++ (GType.tr v1 ++ ([]))
def GParam.trs (l : List GParam) : List (List Tr) := l.map GParam.tr
theorem GParam.trs_map (l : List GParam) : GParam.trs l = l.map GParam.tr := rfl
def GParam.gName : GParam → ByteArray
  | .mk v _ => v
@[simp] theorem GParam.gName_mk (v0 : ByteArray) (v1 : GType) : GParam.gName (.mk v0 v1) = v0 := rfl
def GParam.gType : GParam → GType
  | .mk _ v => v
@[simp] theorem GParam.gType_mk (v0 : ByteArray) (v1 : GType) : GParam.gType (.mk v0 v1) = v1 := rfl
theorem GParam.tr_len (x : GParam) : x.tr.length = 4 := by
  obtain ⟨v0, v1⟩ := x
  simp [GParam.tr, GType.tr_len]
theorem GParam.sz (l : List GParam) : ∀ e ∈ GParam.trs l, e.length = 4 := by
  intro e he
  rw [GParam.trs_map] at he
  obtain ⟨x, -, rfl⟩ := List.mem_map.1 he
  exact GParam.tr_len x
theorem GParam.all {l : List GParam} {Q : List Tr → Prop} (h : ∀ x ∈ l, Q x.tr) : ∀ e ∈ GParam.trs l, Q e := by
  intro e he
  rw [GParam.trs_map] at he
  obtain ⟨x, hx, rfl⟩ := List.mem_map.1 he
  exact h x hx
inductive GFunction where
  | mk (name_ : ByteArray) (vars_ : List ByteArray) (where_ : List GBound) (params_ : List GParam) (result_ : GType) (body_ : GExpr)
def GFunction.tr : GFunction → List Tr
  | .mk v0 v1 v2 v3 v4 v5 => [.leaf (.string v0)] ++ ([.row 1 (strTrs v1)] ++ ([.row 4 (GBound.trs v2)] ++ ([.row 4 (GParam.trs v3)] ++ (GType.tr v4 ++ (GExpr.tr v5 ++ ([]))))))
def GFunction.trs (l : List GFunction) : List (List Tr) := l.map GFunction.tr
theorem GFunction.trs_map (l : List GFunction) : GFunction.trs l = l.map GFunction.tr := rfl
def GFunction.gName : GFunction → ByteArray
  | .mk v _ _ _ _ _ => v
@[simp] theorem GFunction.gName_mk (v0 : ByteArray) (v1 : List ByteArray) (v2 : List GBound) (v3 : List GParam) (v4 : GType) (v5 : GExpr) : GFunction.gName (.mk v0 v1 v2 v3 v4 v5) = v0 := rfl
def GFunction.gVars : GFunction → List ByteArray
  | .mk _ v _ _ _ _ => v
@[simp] theorem GFunction.gVars_mk (v0 : ByteArray) (v1 : List ByteArray) (v2 : List GBound) (v3 : List GParam) (v4 : GType) (v5 : GExpr) : GFunction.gVars (.mk v0 v1 v2 v3 v4 v5) = v1 := rfl
def GFunction.gWhere : GFunction → List GBound
  | .mk _ _ v _ _ _ => v
@[simp] theorem GFunction.gWhere_mk (v0 : ByteArray) (v1 : List ByteArray) (v2 : List GBound) (v3 : List GParam) (v4 : GType) (v5 : GExpr) : GFunction.gWhere (.mk v0 v1 v2 v3 v4 v5) = v2 := rfl
def GFunction.gParams : GFunction → List GParam
  | .mk _ _ _ v _ _ => v
@[simp] theorem GFunction.gParams_mk (v0 : ByteArray) (v1 : List ByteArray) (v2 : List GBound) (v3 : List GParam) (v4 : GType) (v5 : GExpr) : GFunction.gParams (.mk v0 v1 v2 v3 v4 v5) = v3 := rfl
def GFunction.gResult : GFunction → GType
  | .mk _ _ _ _ v _ => v
@[simp] theorem GFunction.gResult_mk (v0 : ByteArray) (v1 : List ByteArray) (v2 : List GBound) (v3 : List GParam) (v4 : GType) (v5 : GExpr) : GFunction.gResult (.mk v0 v1 v2 v3 v4 v5) = v4 := rfl
def GFunction.gBody : GFunction → GExpr
  | .mk _ _ _ _ _ v => v
@[simp] theorem GFunction.gBody_mk (v0 : ByteArray) (v1 : List ByteArray) (v2 : List GBound) (v3 : List GParam) (v4 : GType) (v5 : GExpr) : GFunction.gBody (.mk v0 v1 v2 v3 v4 v5) = v5 := rfl
theorem GFunction.tr_len (x : GFunction) : x.tr.length = 16 := by
  obtain ⟨v0, v1, v2, v3, v4, v5⟩ := x
  simp [GFunction.tr, GType.tr_len, GExpr.tr_len]
theorem GFunction.sz (l : List GFunction) : ∀ e ∈ GFunction.trs l, e.length = 16 := by
  intro e he
  rw [GFunction.trs_map] at he
  obtain ⟨x, -, rfl⟩ := List.mem_map.1 he
  exact GFunction.tr_len x
theorem GFunction.all {l : List GFunction} {Q : List Tr → Prop} (h : ∀ x ∈ l, Q x.tr) : ∀ e ∈ GFunction.trs l, Q e := by
  intro e he
  rw [GFunction.trs_map] at he
  obtain ⟨x, hx, rfl⟩ := List.mem_map.1 he
  exact h x hx
inductive GPackage where
  | mk (name_ : ByteArray) (deps_ : List ByteArray) (traits_ : List GTrait) (datatypes_ : List GDataType) (instances_ : List GInstance) (functions_ : List GFunction)
def GPackage.tr : GPackage → List Tr
  | .mk v0 v1 v2 v3 v4 v5 => [.leaf (.string v0)] ++ ([.row 1 (strTrs v1)] ++ ([.row 5 (GTrait.trs v2)] ++ ([.row 3 (GDataType.trs v3)] ++ ([.row 12 (GInstance.trs v4)] ++ ([.row 16 (GFunction.trs v5)] ++ ([]))))))
def GPackage.trs (l : List GPackage) : List (List Tr) := l.map GPackage.tr
theorem GPackage.trs_map (l : List GPackage) : GPackage.trs l = l.map GPackage.tr := rfl
def GPackage.gName : GPackage → ByteArray
  | .mk v _ _ _ _ _ => v
@[simp] theorem GPackage.gName_mk (v0 : ByteArray) (v1 : List ByteArray) (v2 : List GTrait) (v3 : List GDataType) (v4 : List GInstance) (v5 : List GFunction) : GPackage.gName (.mk v0 v1 v2 v3 v4 v5) = v0 := rfl
def GPackage.gDeps : GPackage → List ByteArray
  | .mk _ v _ _ _ _ => v
@[simp] theorem GPackage.gDeps_mk (v0 : ByteArray) (v1 : List ByteArray) (v2 : List GTrait) (v3 : List GDataType) (v4 : List GInstance) (v5 : List GFunction) : GPackage.gDeps (.mk v0 v1 v2 v3 v4 v5) = v1 := rfl
def GPackage.gTraits : GPackage → List GTrait
  | .mk _ _ v _ _ _ => v
@[simp] theorem GPackage.gTraits_mk (v0 : ByteArray) (v1 : List ByteArray) (v2 : List GTrait) (v3 : List GDataType) (v4 : List GInstance) (v5 : List GFunction) : GPackage.gTraits (.mk v0 v1 v2 v3 v4 v5) = v2 := rfl
def GPackage.gDataTypes : GPackage → List GDataType
  | .mk _ _ _ v _ _ => v
@[simp] theorem GPackage.gDataTypes_mk (v0 : ByteArray) (v1 : List ByteArray) (v2 : List GTrait) (v3 : List GDataType) (v4 : List GInstance) (v5 : List GFunction) : GPackage.gDataTypes (.mk v0 v1 v2 v3 v4 v5) = v3 := rfl
def GPackage.gInstances : GPackage → List GInstance
  | .mk _ _ _ _ v _ => v
@[simp] theorem GPackage.gInstances_mk (v0 : ByteArray) (v1 : List ByteArray) (v2 : List GTrait) (v3 : List GDataType) (v4 : List GInstance) (v5 : List GFunction) : GPackage.gInstances (.mk v0 v1 v2 v3 v4 v5) = v4 := rfl
def GPackage.gFunctions : GPackage → List GFunction
  | .mk _ _ _ _ _ v => v
@[simp] theorem GPackage.gFunctions_mk (v0 : ByteArray) (v1 : List ByteArray) (v2 : List GTrait) (v3 : List GDataType) (v4 : List GInstance) (v5 : List GFunction) : GPackage.gFunctions (.mk v0 v1 v2 v3 v4 v5) = v5 := rfl
theorem GPackage.tr_len (x : GPackage) : x.tr.length = 6 := by
  obtain ⟨v0, v1, v2, v3, v4, v5⟩ := x
  simp [GPackage.tr]
theorem GPackage.sz (l : List GPackage) : ∀ e ∈ GPackage.trs l, e.length = 6 := by
  intro e he
  rw [GPackage.trs_map] at he
  obtain ⟨x, -, rfl⟩ := List.mem_map.1 he
  exact GPackage.tr_len x
theorem GPackage.all {l : List GPackage} {Q : List Tr → Prop} (h : ∀ x ∈ l, Q x.tr) : ∀ e ∈ GPackage.trs l, Q e := by
  intro e he
  rw [GPackage.trs_map] at he
  obtain ⟨x, hx, rfl⟩ := List.mem_map.1 he
  exact h x hx
inductive GProgram where
  | mk (packages_ : List GPackage)
def GProgram.tr : GProgram → List Tr
  | .mk v0 => [.row 6 (GPackage.trs v0)] ++ ([])
def GProgram.trs (l : List GProgram) : List (List Tr) := l.map GProgram.tr
theorem GProgram.trs_map (l : List GProgram) : GProgram.trs l = l.map GProgram.tr := rfl
def GProgram.gPackages : GProgram → List GPackage
  | .mk v => v
@[simp] theorem GProgram.gPackages_mk (v0 : List GPackage) : GProgram.gPackages (.mk v0) = v0 := rfl
theorem GProgram.tr_len (x : GProgram) : x.tr.length = 1 := by
  obtain ⟨v0⟩ := x
  simp [GProgram.tr]
theorem GProgram.sz (l : List GProgram) : ∀ e ∈ GProgram.trs l, e.length = 1 := by
  intro e he
  rw [GProgram.trs_map] at he
  obtain ⟨x, -, rfl⟩ := List.mem_map.1 he
  exact GProgram.tr_len x
theorem GProgram.all {l : List GProgram} {Q : List Tr → Prop} (h : ∀ x ∈ l, Q x.tr) : ∀ e ∈ GProgram.trs l, Q e := by
  intro e he
  rw [GProgram.trs_map] at he
  obtain ⟨x, hx, rfl⟩ := List.mem_map.1 he
  exact h x hx
inductive Gview where
  | mk (w_ : GProgram) (visible_ : List Int)
def Gview.tr : Gview → List Tr
  | .mk v0 v1 => GProgram.tr v0 ++ ([.row 1 (intTrs v1)] ++ ([]))
def Gview.trs (l : List Gview) : List (List Tr) := l.map Gview.tr
theorem Gview.trs_map (l : List Gview) : Gview.trs l = l.map Gview.tr := rfl
def Gview.gw : Gview → GProgram
  | .mk v _ => v
@[simp] theorem Gview.gw_mk (v0 : GProgram) (v1 : List Int) : Gview.gw (.mk v0 v1) = v0 := rfl
def Gview.gvisible : Gview → List Int
  | .mk _ v => v
@[simp] theorem Gview.gvisible_mk (v0 : GProgram) (v1 : List Int) : Gview.gvisible (.mk v0 v1) = v1 := rfl
theorem Gview.tr_len (x : Gview) : x.tr.length = 2 := by
  obtain ⟨v0, v1⟩ := x
  simp [Gview.tr, GProgram.tr_len]
theorem Gview.sz (l : List Gview) : ∀ e ∈ Gview.trs l, e.length = 2 := by
  intro e he
  rw [Gview.trs_map] at he
  obtain ⟨x, -, rfl⟩ := List.mem_map.1 he
  exact Gview.tr_len x
theorem Gview.all {l : List Gview} {Q : List Tr → Prop} (h : ∀ x ∈ l, Q x.tr) : ∀ e ∈ Gview.trs l, Q e := by
  intro e he
  rw [Gview.trs_map] at he
  obtain ⟨x, hx, rfl⟩ := List.mem_map.1 he
  exact h x hx
inductive GEvidence where
  | mk (kind_ : Int) (n_ : Int) (at_ : GInstanceRef) (args_ : List GEvidence)
mutual
def GEvidence.tr : GEvidence → List Tr
  | .mk v0 v1 v2 v3 => [.leaf (.int .i64 v0)] ++ ([.leaf (.int .i64 v1)] ++ (GInstanceRef.tr v2 ++ ([.row 5 (GEvidence.trs v3)] ++ ([]))))
def GEvidence.trs : List GEvidence → List (List Tr)
  | [] => []
  | e :: r => GEvidence.tr e :: GEvidence.trs r
end
theorem GEvidence.trs_map (l : List GEvidence) : GEvidence.trs l = l.map GEvidence.tr := by induction l <;> simp_all [GEvidence.trs]
theorem GEvidence.trs_len (l : List GEvidence) : (GEvidence.trs l).length = l.length := by rw [GEvidence.trs_map, List.length_map]
def GEvidence.gKind : GEvidence → Int
  | .mk v _ _ _ => v
@[simp] theorem GEvidence.gKind_mk (v0 : Int) (v1 : Int) (v2 : GInstanceRef) (v3 : List GEvidence) : GEvidence.gKind (.mk v0 v1 v2 v3) = v0 := rfl
def GEvidence.gN : GEvidence → Int
  | .mk _ v _ _ => v
@[simp] theorem GEvidence.gN_mk (v0 : Int) (v1 : Int) (v2 : GInstanceRef) (v3 : List GEvidence) : GEvidence.gN (.mk v0 v1 v2 v3) = v1 := rfl
def GEvidence.gAt : GEvidence → GInstanceRef
  | .mk _ _ v _ => v
@[simp] theorem GEvidence.gAt_mk (v0 : Int) (v1 : Int) (v2 : GInstanceRef) (v3 : List GEvidence) : GEvidence.gAt (.mk v0 v1 v2 v3) = v2 := rfl
def GEvidence.gArgs : GEvidence → List GEvidence
  | .mk _ _ _ v => v
@[simp] theorem GEvidence.gArgs_mk (v0 : Int) (v1 : Int) (v2 : GInstanceRef) (v3 : List GEvidence) : GEvidence.gArgs (.mk v0 v1 v2 v3) = v3 := rfl
theorem GEvidence.tr_len (x : GEvidence) : x.tr.length = 5 := by
  obtain ⟨v0, v1, v2, v3⟩ := x
  simp [GEvidence.tr, GInstanceRef.tr_len]
theorem GEvidence.opened {w : World} {cs : List Value} {v0 : Int} {v1 : Int} {v2 : GInstanceRef} {v3 : List GEvidence} (h : RepL w (GEvidence.tr (.mk v0 v1 v2 v3)) cs) :
    ∃ (x2 : List Value) (a3 : Option Addr) (c3 : Nat), cs = [.int .i64 v0] ++ ([.int .i64 v1] ++ (x2 ++ ([.slice a3 v3.length c3] ++ ([])))) ∧ LeafOk (.int .i64 v0) ∧ LeafOk (.int .i64 v1) ∧ RepL w (GInstanceRef.tr v2) x2 ∧ Rep w (.row 5 (GEvidence.trs v3)) (.slice a3 v3.length c3) := by
  obtain ⟨b0, r0, rfl, g0, n0⟩ := RepL.split h
  obtain ⟨y0, rfl⟩ := list1 g0.length.symm
  obtain ⟨rfl, k0⟩ := g0.1.leaf_eq
  obtain ⟨b1, r1, rfl, g1, n1⟩ := RepL.split n0
  obtain ⟨y1, rfl⟩ := list1 g1.length.symm
  obtain ⟨rfl, k1⟩ := g1.1.leaf_eq
  obtain ⟨b2, r2, rfl, g2, n2⟩ := RepL.split n1
  obtain ⟨b3, r3, rfl, g3, n3⟩ := RepL.split n2
  obtain ⟨y3, rfl⟩ := list1 g3.length.symm
  obtain ⟨a3, c3, e3, -, -⟩ := g3.1.shape
  rw [GEvidence.trs_len] at e3
  subst e3
  obtain rfl := RepL.nil_eq n3
  exact ⟨b2, a3, c3, rfl, k0, k1, g2, g3.1⟩

theorem GEvidence.sz (l : List GEvidence) : ∀ e ∈ GEvidence.trs l, e.length = 5 := by
  intro e he
  rw [GEvidence.trs_map] at he
  obtain ⟨x, -, rfl⟩ := List.mem_map.1 he
  exact GEvidence.tr_len x
theorem GEvidence.all {l : List GEvidence} {Q : List Tr → Prop} (h : ∀ x ∈ l, Q x.tr) : ∀ e ∈ GEvidence.trs l, Q e := by
  intro e he
  rw [GEvidence.trs_map] at he
  obtain ⟨x, hx, rfl⟩ := List.mem_map.1 he
  exact h x hx
theorem GEvidence.trs_get {l : List GEvidence} {k : Nat} (h : k < l.length) : (GEvidence.trs l)[k]? = some (l[k]).tr := by
  rw [GEvidence.trs_map, List.getElem?_map, List.getElem?_eq_getElem h]; rfl
theorem GEvidence.ind {A : GEvidence → Prop} (h : ∀ v0 v1 v2 v3, (∀ x ∈ v3, A x) → A (.mk v0 v1 v2 v3)) : ∀ e, A e := by
  have key : ∀ (N : Nat) (e : GEvidence), SizeOf.sizeOf e < N → A e := by
    intro N
    induction N with
    | zero => intro e he; omega
    | succ N ih =>
      intro e he
      obtain ⟨v0, v1, v2, v3⟩ := e
      refine h v0 v1 v2 v3 fun x hx => ih x ?_
      have := List.sizeOf_lt_of_mem hx
      simp at he
      omega
  exact fun e => key _ e (Nat.lt_succ_self _)

inductive GAssumption where
  | mk (goal_ : GBound) (from_ : Int) (steps_ : List Int)
def GAssumption.tr : GAssumption → List Tr
  | .mk v0 v1 v2 => GBound.tr v0 ++ ([.leaf (.int .i64 v1)] ++ ([.row 1 (intTrs v2)] ++ ([])))
def GAssumption.trs (l : List GAssumption) : List (List Tr) := l.map GAssumption.tr
theorem GAssumption.trs_map (l : List GAssumption) : GAssumption.trs l = l.map GAssumption.tr := rfl
def GAssumption.gGoal : GAssumption → GBound
  | .mk v _ _ => v
@[simp] theorem GAssumption.gGoal_mk (v0 : GBound) (v1 : Int) (v2 : List Int) : GAssumption.gGoal (.mk v0 v1 v2) = v0 := rfl
def GAssumption.gFrom : GAssumption → Int
  | .mk _ v _ => v
@[simp] theorem GAssumption.gFrom_mk (v0 : GBound) (v1 : Int) (v2 : List Int) : GAssumption.gFrom (.mk v0 v1 v2) = v1 := rfl
def GAssumption.gSteps : GAssumption → List Int
  | .mk _ _ v => v
@[simp] theorem GAssumption.gSteps_mk (v0 : GBound) (v1 : Int) (v2 : List Int) : GAssumption.gSteps (.mk v0 v1 v2) = v2 := rfl
theorem GAssumption.tr_len (x : GAssumption) : x.tr.length = 6 := by
  obtain ⟨v0, v1, v2⟩ := x
  simp [GAssumption.tr, GBound.tr_len]
theorem GAssumption.sz (l : List GAssumption) : ∀ e ∈ GAssumption.trs l, e.length = 6 := by
  intro e he
  rw [GAssumption.trs_map] at he
  obtain ⟨x, -, rfl⟩ := List.mem_map.1 he
  exact GAssumption.tr_len x
theorem GAssumption.all {l : List GAssumption} {Q : List Tr → Prop} (h : ∀ x ∈ l, Q x.tr) : ∀ e ∈ GAssumption.trs l, Q e := by
  intro e he
  rw [GAssumption.trs_map] at he
  obtain ⟨x, hx, rfl⟩ := List.mem_map.1 he
  exact h x hx
inductive Gl2In where
  | mk (s_ : ByteArray) (at_ : Int) (deep_ : Int) (size_ : Int) (bad_ : Bool)
def Gl2In.tr : Gl2In → List Tr
  | .mk v0 v1 v2 v3 v4 => [.leaf (.string v0)] ++ ([.leaf (.int .i64 v1)] ++ ([.leaf (.int .i64 v2)] ++ ([.leaf (.int .i64 v3)] ++ ([.leaf (.bool v4)] ++ ([])))))
def Gl2In.trs (l : List Gl2In) : List (List Tr) := l.map Gl2In.tr
theorem Gl2In.trs_map (l : List Gl2In) : Gl2In.trs l = l.map Gl2In.tr := rfl
def Gl2In.gs : Gl2In → ByteArray
  | .mk v _ _ _ _ => v
@[simp] theorem Gl2In.gs_mk (v0 : ByteArray) (v1 : Int) (v2 : Int) (v3 : Int) (v4 : Bool) : Gl2In.gs (.mk v0 v1 v2 v3 v4) = v0 := rfl
def Gl2In.gat : Gl2In → Int
  | .mk _ v _ _ _ => v
@[simp] theorem Gl2In.gat_mk (v0 : ByteArray) (v1 : Int) (v2 : Int) (v3 : Int) (v4 : Bool) : Gl2In.gat (.mk v0 v1 v2 v3 v4) = v1 := rfl
def Gl2In.gdeep : Gl2In → Int
  | .mk _ _ v _ _ => v
@[simp] theorem Gl2In.gdeep_mk (v0 : ByteArray) (v1 : Int) (v2 : Int) (v3 : Int) (v4 : Bool) : Gl2In.gdeep (.mk v0 v1 v2 v3 v4) = v2 := rfl
def Gl2In.gsize : Gl2In → Int
  | .mk _ _ _ v _ => v
@[simp] theorem Gl2In.gsize_mk (v0 : ByteArray) (v1 : Int) (v2 : Int) (v3 : Int) (v4 : Bool) : Gl2In.gsize (.mk v0 v1 v2 v3 v4) = v3 := rfl
def Gl2In.gbad : Gl2In → Bool
  | .mk _ _ _ _ v => v
@[simp] theorem Gl2In.gbad_mk (v0 : ByteArray) (v1 : Int) (v2 : Int) (v3 : Int) (v4 : Bool) : Gl2In.gbad (.mk v0 v1 v2 v3 v4) = v4 := rfl
theorem Gl2In.tr_len (x : Gl2In) : x.tr.length = 5 := by
  obtain ⟨v0, v1, v2, v3, v4⟩ := x
  simp [Gl2In.tr]
theorem Gl2In.sz (l : List Gl2In) : ∀ e ∈ Gl2In.trs l, e.length = 5 := by
  intro e he
  rw [Gl2In.trs_map] at he
  obtain ⟨x, -, rfl⟩ := List.mem_map.1 he
  exact Gl2In.tr_len x
theorem Gl2In.all {l : List Gl2In} {Q : List Tr → Prop} (h : ∀ x ∈ l, Q x.tr) : ∀ e ∈ Gl2In.trs l, Q e := by
  intro e he
  rw [Gl2In.trs_map] at he
  obtain ⟨x, hx, rfl⟩ := List.mem_map.1 he
  exact h x hx
inductive GCache where
  | mk (goals_ : List GBound) (codes_ : List Int) (evidence_ : List GEvidence)
def GCache.tr : GCache → List Tr
  | .mk v0 v1 v2 => [.row 4 (GBound.trs v0)] ++ ([.row 1 (intTrs v1)] ++ ([.row 5 (GEvidence.trs v2)] ++ ([])))
def GCache.trs (l : List GCache) : List (List Tr) := l.map GCache.tr
theorem GCache.trs_map (l : List GCache) : GCache.trs l = l.map GCache.tr := rfl
def GCache.gGoals : GCache → List GBound
  | .mk v _ _ => v
@[simp] theorem GCache.gGoals_mk (v0 : List GBound) (v1 : List Int) (v2 : List GEvidence) : GCache.gGoals (.mk v0 v1 v2) = v0 := rfl
def GCache.gCodes : GCache → List Int
  | .mk _ v _ => v
@[simp] theorem GCache.gCodes_mk (v0 : List GBound) (v1 : List Int) (v2 : List GEvidence) : GCache.gCodes (.mk v0 v1 v2) = v1 := rfl
def GCache.gEvidence : GCache → List GEvidence
  | .mk _ _ v => v
@[simp] theorem GCache.gEvidence_mk (v0 : List GBound) (v1 : List Int) (v2 : List GEvidence) : GCache.gEvidence (.mk v0 v1 v2) = v2 := rfl
theorem GCache.tr_len (x : GCache) : x.tr.length = 3 := by
  obtain ⟨v0, v1, v2⟩ := x
  simp [GCache.tr]
theorem GCache.sz (l : List GCache) : ∀ e ∈ GCache.trs l, e.length = 3 := by
  intro e he
  rw [GCache.trs_map] at he
  obtain ⟨x, -, rfl⟩ := List.mem_map.1 he
  exact GCache.tr_len x
theorem GCache.all {l : List GCache} {Q : List Tr → Prop} (h : ∀ x ∈ l, Q x.tr) : ∀ e ∈ GCache.trs l, Q e := by
  intro e he
  rw [GCache.trs_map] at he
  obtain ⟨x, hx, rfl⟩ := List.mem_map.1 he
  exact h x hx
end Go.Proofs.YtmpepccpnnldoaaDoor

namespace Go.Proofs.YtmpepccpnnldoaaDoor
open Go.RowKit Go.ChangeShapes Go.WideShapes Go.Deep

inductive TyOf (P : Program) : TypeId → List Tr → Prop
  | bool {t b} : P.underlying t = some .bool → TyOf P t [.leaf (.bool b)]
  | int {t k n} : P.underlying t = some (.int k) → (Lit.int k n).wf = true → TyOf P t [.leaf (.int k n)]
  | str {t s} : P.underlying t = some .string → s.size ≤ maxLen → TyOf P t [.leaf (.string s)]
  | slice {t e es} : P.underlying t = some (.slice e) → (∀ x ∈ es, TyOf P e x) → TyOf P t [.row (P.cellsOf e) es]
  | struct {t fs} (parts : Nat → List Tr) : P.underlying t = some (.struct fs) → (∀ i f, fs[i]? = some f → TyOf P f.type (parts i)) → TyOf P t ((List.range fs.size).flatMap parts)

/-- The fields lie one behind the other. -/
def laidFields (P : Program) : Nat → List Field → Option Nat
  | n, [] => some n
  | n, f :: r => if f.offset = n then laidFields P (n + P.cellsOf f.type) r else none

def closedPlain (P : Program) (S : List TypeId) : Bool :=
  S.all fun t => match P.underlying t with
    | some .bool | some (.int _) | some .string => P.cellsOf t == 1
    | some (.slice e) => S.contains e && P.cellsOf t == 1 && decide (0 < P.cellsOf e)
    | some (.struct fs) => fs.all (fun f => S.contains f.type) && laidFields P 0 fs.toList == some (P.cellsOf t)
    | _ => false

theorem repL_fields {w : World} {P : Program} {cs : List Value} : ∀ (fs : List Field) (n m : Nat) (parts : Nat → List Tr) (k : Nat), laidFields P n fs = some m → cs.length = m →
    (∀ i f, fs[i]? = some f → RepL w (parts (k + i)) ((cs.drop f.offset).take (P.cellsOf f.type))) → RepL w ((List.range' k fs.length).flatMap parts) (cs.drop n) := by
  intro fs
  induction fs with
  | nil =>
    intro n m parts k h hl _
    simp [laidFields] at h
    subst h
    simp [← hl, RepL]
  | cons f r ih =>
    intro n m parts k h hl hf
    simp only [laidFields] at h
    split at h
    · rename_i ho
      have h0 := hf 0 f rfl
      rw [ho] at h0
      have hr := ih (n + P.cellsOf f.type) m parts (k + 1) h hl (fun i g hg => by
        have := hf (i + 1) g (by simpa using hg)
        rwa [show k + (i + 1) = k + 1 + i by omega] at this)
      have : cs.drop n = (cs.drop n).take (P.cellsOf f.type) ++ cs.drop (n + P.cellsOf f.type) := by
        rw [← List.drop_drop, List.take_append_drop]
      rw [this]
      simp only [List.length_cons, List.range'_succ, List.flatMap_cons]
      exact RepL.append h0 hr
    · simp at h

section
variable {H : Type} {enc : TypeId × Value → H} {P : Program} {w : World} {base : Nat} {spare : Nat → Bool} {held : Bool}

theorem tyOf_of_trod {S : List TypeId} (hS : closedPlain P S = true) : ∀ (fuel : Nat) (t : TypeId) (cs : List Value) (x : DataW H × List MemPlace), t ∈ S → DataW.trod enc P w base spare held fuel t cs = some x →
    ∃ ts, TyOf P t ts ∧ RepL w ts cs ∧ ts.length = P.cellsOf t := by
  intro fuel
  induction fuel with
  | zero => intro t cs x _ h; simp [DataW.trod] at h
  | succ n ih =>
    intro t cs x ht h
    have hcl := List.all_eq_true.1 hS t ht
    cases hu : P.underlying t with
    | none => simp [hu] at hcl
    | some d =>
      simp only [hu] at hcl
      cases d with
      | bool =>
        obtain ⟨b, rfl, -⟩ : ∃ b, cs = [.bool b] ∧ True := by
          unfold DataW.trod at h
          rw [hu] at h
          split at h <;> simp_all
        exact ⟨_, .bool (b := b) hu, ⟨.leaf trivial, trivial⟩, by simpa using (beq_iff_eq.1 hcl).symm⟩
      | int k =>
        obtain ⟨m, rfl, -, hw⟩ := DataW.trod_int hu h
        exact ⟨_, .int hu hw, ⟨.leaf hw, trivial⟩, by simpa using (beq_iff_eq.1 hcl).symm⟩
      | string =>
        obtain ⟨s, rfl, -, hw⟩ := DataW.trod_string hu h
        exact ⟨_, .str hu hw, ⟨.leaf hw, trivial⟩, by simpa using (beq_iff_eq.1 hcl).symm⟩
      | slice e =>
        simp only [Bool.and_eq_true, List.contains_iff_mem, decide_eq_true_eq] at hcl
        obtain ⟨⟨he, hc1⟩, hpos⟩ := hcl
        have hc1 : P.cellsOf t = 1 := beq_iff_eq.1 hc1
        rcases DataW.trod_slice hu h with ⟨rfl, -⟩ | ⟨a, len, cap, elems, rest, n', hn, rfl, -, hb, hl, hm, hlen, hel, -, -⟩
        · exact ⟨_, .slice (es := []) hu (by simp), ⟨Rep.row (w := w) (sz := P.cellsOf e) (es := []) (a := none) (cap := 0) (fun _ _ => undef) (by simp) (by unfold maxLen; omega) (by simp) (by simp), trivial⟩, by simp [hc1]⟩
        · obtain rfl : n = n' := by omega
          have key : ∀ i, i < len → ∃ cs' ts, w.cells? base (a.add (i * P.cellsOf e)) (P.cellsOf e) = some cs' ∧ TyOf P e ts ∧ RepL w ts cs' ∧ ts.length = P.cellsOf e := by
            intro i hi
            have h1 := hel i hi
            rw [List.getElem?_eq_getElem (by omega)] at h1
            obtain ⟨cs', h2, h3⟩ := Option.bind_eq_some_iff.1 h1
            obtain ⟨ts, h4, h5, h6⟩ := ih e cs' _ he h3
            exact ⟨cs', ts, h2, h4, h5, h6⟩
          obtain ⟨D, hD⟩ := choose_lt (α := List Value × List Tr) (p := fun i x => w.cells? base (a.add (i * P.cellsOf e)) (P.cellsOf e) = some x.1 ∧ TyOf P e x.2 ∧ RepL w x.2 x.1 ∧ x.2.length = P.cellsOf e)
            (fun i hi => by obtain ⟨c, t, h⟩ := key i hi; exact ⟨(c, t), h⟩)
          have hes : ((List.range len).map fun i => (D i).2).length = len := by simp
          have hget : ∀ i e', ((List.range len).map fun i => (D i).2)[i]? = some e' → i < len ∧ e' = (D i).2 := by
            intro i e' h
            rw [List.getElem?_map] at h
            have hi : i < len := by
              rcases Nat.lt_or_ge i len with h1 | h1
              · exact h1
              · rw [List.getElem?_eq_none (by simpa using h1)] at h; simp at h
            rw [List.getElem?_range hi] at h
            simp at h
            exact ⟨hi, h.symm⟩
          refine ⟨_, .slice (es := (List.range len).map fun i => (D i).2) hu ?_, ⟨?_, trivial⟩, by simp [hc1]⟩
          · intro x hx
            obtain ⟨i, hi, rfl⟩ := List.mem_map.1 hx
            exact (hD i (List.mem_range.1 hi)).2.1
          · have hrep : Rep w (.row (P.cellsOf e) ((List.range len).map fun i => (D i).2)) (.slice (some a) ((List.range len).map fun i => (D i).2).length cap) := by
              refine Rep.row (fun i j => (D i).1.getD j undef) (by rw [hes]; exact hl) hm ?_ ?_
              · intro hne
                have hcell : ∀ i, i < len → ∀ j d, (D i).2[j]? = some d → ∃ v, (D i).1[j]? = some v ∧ w.cell? ((a.add (i * P.cellsOf e)).add j) = some v := by
                  intro i hi j d hd
                  obtain ⟨v, hv, -⟩ := (hD i hi).2.2.1.get hd
                  obtain ⟨-, hl2, hc2⟩ := World.cells?_some (hD i hi).1
                  have hj : j < P.cellsOf e := by
                    have := (List.getElem?_eq_some_iff.1 hv).1
                    omega
                  exact ⟨v, hv, (hc2 j hj).trans hv⟩
                have h0 : 0 < len := by
                  rcases Nat.eq_zero_or_pos len with h0 | h0
                  · subst h0; simp at hne
                  · exact h0
                have hd0 : (D 0).2[0]? = some ((D 0).2[0]'(by rw [(hD 0 h0).2.2.2]; exact hpos)) := List.getElem?_eq_getElem _
                obtain ⟨v0, -, hv0⟩ := hcell 0 h0 0 _ hd0
                simp only [Nat.zero_mul, Addr.add, if_true] at hv0
                have hspot := World.cell?_spot hv0
                have hblk : a.block < w.heap.size := by
                  rcases Nat.lt_or_ge a.block w.heap.size with h1 | h1
                  · exact h1
                  · simp [World.cell?, Array.getElem?_eq_none h1] at hv0
                obtain ⟨ab, ao, asp⟩ := a
                have hspot : asp = none := hspot
                subst hspot
                refine ⟨ab, ao, rfl, hblk, ?_⟩
                intro i e' he' j d hd
                obtain ⟨hi, rfl⟩ := hget i e' he'
                obtain ⟨v, hv, hc3⟩ := hcell i hi j d hd
                rw [add_plain, add_plain] at hc3
                simpa [List.getD, hv] using hc3
              · intro i e' he' j d hd
                obtain ⟨hi, rfl⟩ := hget i e' he'
                obtain ⟨v, hv, hr⟩ := (hD i hi).2.2.1.get hd
                simpa [List.getD, hv] using hr
            rwa [hes] at hrep
      | struct fs =>
        simp only [Bool.and_eq_true] at hcl
        obtain ⟨hmem, hlay⟩ := hcl
        have hlay : laidFields P 0 fs.toList = some (P.cellsOf t) := by simpa using hlay
        obtain ⟨xs, n', hn, -, hlen, hxl, hf⟩ := DataW.trod_struct hu h
        obtain rfl : n = n' := by omega
        have key : ∀ i, i < fs.size → ∃ ts, ∀ f, fs[i]? = some f → TyOf P f.type ts ∧ RepL w ts ((cs.drop f.offset).take (P.cellsOf f.type)) := by
          intro i hi
          have hfi : fs[i]? = some fs[i] := Array.getElem?_eq_getElem hi
          have h1 := hf i fs[i] hfi
          rw [List.getElem?_eq_getElem (by omega)] at h1
          have hm : fs[i].type ∈ S := by
            have := Array.all_eq_true.1 hmem i hi
            simpa using this
          obtain ⟨ts, h4, h5, _⟩ := ih fs[i].type _ _ hm h1
          refine ⟨ts, fun f hf' => ?_⟩
          rw [hfi] at hf'
          cases hf'
          exact ⟨h4, h5⟩
        obtain ⟨parts, hp⟩ := choose_lt (α := List Tr) key
        have hr : RepL w ((List.range' 0 fs.toList.length).flatMap parts) (cs.drop 0) := repL_fields fs.toList 0 _ parts 0 hlay hlen (fun i f hi => by
          have hi' : fs[i]? = some f := by simpa using hi
          have hlt : i < fs.size := (Array.getElem?_eq_some_iff.1 hi').1
          simpa using (hp i hlt f hi').2)
        have hr : RepL w ((List.range fs.size).flatMap parts) cs := by simpa [List.range_eq_range'] using hr
        exact ⟨_, .struct parts hu (fun i f hi => (hp i (Array.getElem?_eq_some_iff.1 hi).1 f hi).1), hr, by rw [hr.length, hlen]⟩
      | _ => simp at hcl
end
section
variable {P : Program}
theorem TyOf.int_inv {t : TypeId} {ts : List Tr} {k : IntKind} (h : TyOf P t ts) (hu : P.underlying t = some (.int k)) : ∃ n, ts = [.leaf (.int k n)] := by
  cases h <;> simp_all
theorem TyOf.slice_inv {t e : TypeId} {ts : List Tr} (h : TyOf P t ts) (hu : P.underlying t = some (.slice e)) : ∃ es, ts = [.row (P.cellsOf e) es] ∧ ∀ x ∈ es, TyOf P e x := by
  cases h with
  | slice h1 h2 => rw [hu] at h1; cases h1; exact ⟨_, rfl, h2⟩
  | _ => simp_all
theorem TyOf.struct_inv {t : TypeId} {fs : Array Field} {ts : List Tr} (h : TyOf P t ts) (hu : P.underlying t = some (.struct fs)) :
    ∃ parts : Nat → List Tr, ts = (List.range fs.size).flatMap parts ∧ ∀ i f, fs[i]? = some f → TyOf P f.type (parts i) := by
  cases h with
  | struct parts h1 h2 => rw [hu] at h1; cases h1; exact ⟨parts, rfl, h2⟩
  | _ => simp_all
end
theorem mem_part {parts : Nat → List Tr} {t : Tr} {k n : Nat} (hk : k < n) (h : parts k = [t]) : t ∈ (List.range n).flatMap parts := List.mem_flatMap.2 ⟨k, List.mem_range.2 hk, by rw [h]; exact List.mem_singleton.2 rfl⟩
theorem list_of {α : Type} {tr : α → List Tr} : ∀ {es : List (List Tr)}, (∀ e ∈ es, ∃ x, e = tr x) → ∃ l : List α, es = l.map tr
  | [], _ => ⟨[], rfl⟩
  | e :: es, h => by
    obtain ⟨x, rfl⟩ := h e (by simp)
    obtain ⟨l, rfl⟩ := list_of (es := es) fun e he => h e (by simp [he])
    exact ⟨x :: l, rfl⟩

end Go.Proofs.YtmpepccpnnldoaaDoor

namespace Go.Proofs.YtmpepccpnnldoaaDoor
open Go.RowKit Go.Proofs

def plainTypes : List TypeId := [3, 23, 24, 26, 38]
theorem plainClosed : closedPlain Tryd.prog plainTypes = true := by kernel_rfl
theorem cellsOf26 : Tryd.prog.cellsOf 26 = 5 := by kernel_rfl
theorem tyof_InstanceRef {ts : List Tr} (ht : TyOf Tryd.prog 23 ts) : ∃ x : GInstanceRef, ts = x.tr := by
  obtain ⟨parts, rfl, h⟩ := TyOf.struct_inv ht Tryd.underlying23
  obtain ⟨v0, e0⟩ := (h 0 _ rfl).int_inv Tryd.underlying3
  obtain ⟨v1, e1⟩ := (h 1 _ rfl).int_inv Tryd.underlying3
  refine ⟨.mk v0 v1, ?_⟩
  simp [List.range_succ, e0, e1, GInstanceRef.tr]
theorem tyof_Evidence_fuel : ∀ (N : Nat) (ts : List Tr), SizeOf.sizeOf ts < N → TyOf Tryd.prog 26 ts → ∃ x : GEvidence, ts = x.tr := by
  intro N
  induction N with
  | zero => intro ts h; omega
  | succ N ih_Evidence =>
    intro ts hN ht
    obtain ⟨parts, rfl, h⟩ := TyOf.struct_inv ht Tryd.underlying26
    obtain ⟨v0, e0⟩ := (h 0 _ rfl).int_inv Tryd.underlying3
    obtain ⟨v1, e1⟩ := (h 1 _ rfl).int_inv Tryd.underlying3
    obtain ⟨v2, e2⟩ := tyof_InstanceRef (h 2 _ rfl)
    obtain ⟨es3, e3, m3⟩ := (h 3 _ rfl).slice_inv Tryd.underlying24
    obtain ⟨v3, rfl⟩ := list_of (tr := GEvidence.tr) (es := es3) fun e he => ih_Evidence e (by have h1 := List.sizeOf_lt_of_mem he; have h2 := List.sizeOf_lt_of_mem (mem_part (k := 3) (n := 4) (by omega) e3); simp only [Tr.row.sizeOf_spec] at h2; have hN' : SizeOf.sizeOf ((List.range 4).flatMap parts) < N + 1 := hN; omega) (m3 e he)
    refine ⟨.mk v0 v1 v2 v3, ?_⟩
    simp [List.range_succ, e0, e1, e2, e3, GEvidence.tr, GEvidence.trs_map, cellsOf26]
theorem tyof_Evidence {ts : List Tr} (h : TyOf Tryd.prog 26 ts) : ∃ x : GEvidence, ts = x.tr := tyof_Evidence_fuel _ ts (Nat.lt_succ_self _) h
end Go.Proofs.YtmpepccpnnldoaaDoor

namespace Go.Proofs.YtmpepccpnnldoaaDoor
open Go.RowKit Go.Proofs

/-- The variable's name, as the row has it. -/
def tabName : String := ((Rows.fnExactFormatEvidenceRow.laid.drop 2).map (·.1)).headD default
/-- The table of powers of ten is laid. -/
def TabOk (w : World) : Prop := Lib.TabIs Tryd.prog w tabName .u64 Lib.pow10Tab
theorem TabOk.ext {w w' : World} (h : TabOk w) (hx : Ext w w') : TabOk w' := by
  unfold TabOk Lib.TabIs World.var? at h ⊢
  cases hg : Tryd.prog.globalNamed tabName with
  | none => rw [hg] at h; simp at h
  | some g =>
    rw [hg] at h
    simp only [Option.bind_some] at h ⊢
    have hlt : g < w.heap.size := by
      rcases Nat.lt_or_ge g w.heap.size with h' | h'
      · exact h'
      · rw [Array.getElem?_eq_none h'] at h
        simp at h
    rw [hx.block g hlt]
    exact h
theorem tabOk_of {W : World} (h : laidMetH Tryd.prog Rows.fnExactFormatEvidenceRow.laid W) : TabOk W := by
  have h1 : laidMet Tryd.prog Rows.fnExactFormatEvidenceRow.laid W := h
  have e : ∃ x0 x1, Rows.fnExactFormatEvidenceRow.laid = [x0, x1, (tabName, Lib.tabData .u64 Lib.pow10Tab)] := ⟨_, _, rfl⟩
  obtain ⟨x0, x1, e⟩ := e
  rw [e] at h1
  exact Lib.tabIs_of_head (g := 0) (t := 74) (e := 67) (n := 20) (by kernel_rfl) (by kernel_rfl) (by kernel_rfl) (by kernel_rfl) (by kernel_rfl) (by kernel_rfl) h1.tail.tail
end Go.Proofs.YtmpepccpnnldoaaDoor

namespace Go.Proofs.YtmpepccpnnldoaaDoor
open Go.RowKit Go.Proofs

def SzC (f : FuncId) (ts : List Tr) : Prop := ∀ (cs : List Value) (left : Int) (w : World), RepL w ts cs → 0 ≤ left → left ≤ 1048576 →
  Calls Tryd.prog f #[.agg ⟨cs⟩, .int .i64 left] w fun e w' => ∃ r : Int, e = .returned (.int .i64 r) ∧ Ext w w' ∧ r ≤ left ∧ -1 ≤ r ∧ (0 ≤ r → r + Tr.bulkL ts ≤ left)
def SzSC (f : FuncId) (sz : Nat) (es : List (List Tr)) : Prop := ∀ (s : Value) (left : Int) (w : World), Rep w (.row sz es) s → 0 ≤ left → left ≤ 1048576 →
  Calls Tryd.prog f #[s, .int .i64 left] w fun e w' => ∃ r : Int, e = .returned (.int .i64 r) ∧ Ext w w' ∧ r ≤ left ∧ -1 ≤ r ∧ (0 ≤ r → r + Tr.bulk (.row sz es) ≤ left)
def ToC (f : FuncId) (ts : List Tr) : Prop := ∀ (cs : List Value) (w : World), RepL w ts cs → Tr.bulkL ts ≤ 68719476736 →
  Calls Tryd.prog f #[.agg ⟨cs⟩] w fun e w' => ∃ cs', e = .returned (.agg ⟨cs'⟩) ∧ Ext w w' ∧ OwnL w' ts cs' (Between w w')
def ToSC (f : FuncId) (sz : Nat) (es : List (List Tr)) : Prop := ∀ (s : Value) (w : World), Rep w (.row sz es) s → es.length + Tr.bulkAll es ≤ 68719476736 →
  Calls Tryd.prog f #[s] w fun e w' => ∃ s', e = .returned s' ∧ Ext w w' ∧ Own w' (.row sz es) s' (Between w w')
def EqC (f : FuncId) (ts : List Tr) : Prop := ∀ (cs ds : List Value) (w : World), RepL w ts cs → RepL w ts ds →
  Calls Tryd.prog f #[.agg ⟨cs⟩, .agg ⟨ds⟩] w fun e w' => e = .returned (.bool true) ∧ Ext w w'
def EqSC (f : FuncId) (sz : Nat) (es : List (List Tr)) : Prop := ∀ (s u : Value) (w : World), Rep w (.row sz es) s → Rep w (.row sz es) u →
  Calls Tryd.prog f #[s, u] w fun e w' => e = .returned (.bool true) ∧ Ext w w'

theorem RepL.sLeaf {w : World} {v : Value} {us : List Tr} {cs : List Value} (h : RepL w ([.leaf v] ++ us) cs) : ∃ r, cs = v :: r ∧ Hid (LeafOk v) ∧ RepL w us r := by
  obtain ⟨b, r, rfl, g, n⟩ := RepL.split h
  obtain ⟨y, rfl⟩ := list1 g.length.symm
  obtain ⟨rfl, k⟩ := g.1.leaf_eq
  exact ⟨r, rfl, k, n⟩
theorem RepL.sRow {w : World} {sz : Nat} {es : List (List Tr)} {us : List Tr} {cs : List Value} (h : RepL w ([.row sz es] ++ us) cs) : ∃ a c r, cs = .slice a es.length c :: r ∧ Hid (RepL w [.row sz es] [.slice a es.length c]) ∧ RepL w us r := by
  obtain ⟨b, r, rfl, g, n⟩ := RepL.split h
  obtain ⟨y, rfl⟩ := list1 g.length.symm
  obtain ⟨a, c, rfl, -, -⟩ := g.1.shape
  exact ⟨a, c, r, rfl, g, n⟩
theorem RepL.sAgg2 {w : World} {ts us : List Tr} {cs : List Value} (h : RepL w (ts ++ us) cs) (l : ts.length = 2) : ∃ x0 x1 r, cs = x0 :: x1 :: r ∧ Hid (RepL w ts [x0, x1]) ∧ RepL w us r := by
  obtain ⟨b, r, rfl, g, n⟩ := RepL.split h
  obtain ⟨x0, x1, rfl⟩ := list2 (g.length.symm.trans l)
  exact ⟨x0, x1, r, rfl, g, n⟩
theorem isz26 : (Tryd.prog.info? 26).map (·.size) = some 5 := by kernel_rfl
theorem isz29 : (Tryd.prog.info? 29).map (·.size) = some 2 := by kernel_rfl
theorem isz30 : (Tryd.prog.info? 30).map (·.size) = some 1 := by kernel_rfl
theorem isz32 : (Tryd.prog.info? 32).map (·.size) = some 5 := by kernel_rfl
theorem iszb32 : (Tryd.prog.info? 32).map (fun i => (i.zero.isSome, i.size, i.bytes)) = some (true, 5, 56) := by kernel_rfl
end Go.Proofs.YtmpepccpnnldoaaDoor

namespace Go.Proofs.YtmpepccpnnldoaaDoor
open Go.RowKit Go.Proofs

set_option maxRecDepth 100000 in
set_option maxHeartbeats 1000000 in
theorem toInstanceRef_of (v0 : Int) (v1 : Int)  : ToC 22 ([.leaf (.int .i64 v0)] ++ ([.leaf (.int .i64 v1)] ++ ([]))) := by
  intro cs w hr hbk
  simp only [Tr.bulkL_append, Tr.bulkL, Tr.bulk] at hbk
  obtain ⟨r0, rfl, K0, n0⟩ := RepL.sLeaf hr
  obtain ⟨r1, rfl, K1, n1⟩ := RepL.sLeaf n0
  obtain rfl := RepL.nil_eq n1
  clear hr n0 n1
  go_enter Tryd.func22, Tryd.ntmps22
  go_wp2_with fail
  exact bodyPost_ret (v := .agg #[.int .i64 v0, .int .i64 v1]) (by simp [results, Tryd.results22, go_sem]) rfl ⟨[.int .i64 v0, .int .i64 v1], rfl, .alloc (.alloc (.alloc (.refl _) _) _) _, OwnL.cons_leaf K0.out (OwnL.cons_leaf K1.out (OwnL.nil _ _))⟩

set_option maxRecDepth 100000 in
set_option maxHeartbeats 1000000 in
theorem eqInstanceRef_of (v0 : Int) (v1 : Int)  : EqC 25 ([.leaf (.int .i64 v0)] ++ ([.leaf (.int .i64 v1)] ++ ([]))) := by
  intro cs ds w hr hr'
  obtain ⟨r0, rfl, K0, n0⟩ := RepL.sLeaf hr
  obtain ⟨r1, rfl, K1, n1⟩ := RepL.sLeaf n0
  obtain rfl := RepL.nil_eq n1
  clear hr n0 n1
  obtain ⟨zr0, rfl, zK0, zn0⟩ := RepL.sLeaf hr'
  obtain ⟨zr1, rfl, zK1, zn1⟩ := RepL.sLeaf zn0
  obtain rfl := RepL.nil_eq zn1
  clear hr' zn0 zn1
  go_enter Tryd.func25, Tryd.ntmps25
  go_wp2_with fail
  go_ret
  exact ⟨rfl, (.alloc (.alloc (.refl _) _) _)⟩

end Go.Proofs.YtmpepccpnnldoaaDoor

namespace Go.Proofs.YtmpepccpnnldoaaDoor
open Go.RowKit Go.Proofs

set_option maxRecDepth 100000 in
set_option maxHeartbeats 1000000 in
theorem szEvidence_of (v0 : Int) (v1 : Int) (ts2 : List Tr) (l2 : ts2.length = 2) (es3 : List (List Tr)) (h3 : SzSC 20 5 es3)(z2 : Tr.bulkL ts2 = 0) : SzC 5 ([.leaf (.int .i64 v0)] ++ ([.leaf (.int .i64 v1)] ++ (ts2 ++ ([.row 5 es3] ++ ([]))))) := by
  intro cs left w hr hl0 hl1
  obtain ⟨r0, rfl, K0, n0⟩ := RepL.sLeaf hr
  obtain ⟨r1, rfl, K1, n1⟩ := RepL.sLeaf n0
  obtain ⟨x2_0, x2_1, r2, rfl, G2, n2⟩ := RepL.sAgg2 n1 l2
  obtain ⟨a3, c3, r3, rfl, G3, n3⟩ := RepL.sRow n2
  obtain rfl := RepL.nil_eq n3
  clear hr n0 n1 n2 n3
  go_enter Tryd.func5, Tryd.ntmps5
  go_wp2_with fail
  refine (h3 _ _ _ (G3.out.1.ext (.alloc (.refl _) _)) (by omega) (by omega)).mono ?_; rintro e w3 ⟨r3, rfl, hw3, ra3, rb3, rc3⟩
  have HW3 := Lib.hid hw3
  have HR3 := Lib.hid rc3
  have ob3 := (OB.new w _ _).ext hw3
  have OBH := Lib.hid ob3
  have ce3 := ob3.cell
  clear hw3 rc3 ob3
  go_wp2_with fail
  · go_ret
    exact ⟨-1, rfl, (Ext.trans (.alloc (.refl _) _) HW3.out), by omega, by omega, by omega⟩
  go_ret
  refine ⟨_, rfl, (Ext.trans (.alloc (.refl _) _) HW3.out), by omega, by omega, fun hp => ?_⟩
  have e3 := HR3.out (by omega)
  simp only [Tr.bulkL_append, Tr.bulkL, Tr.bulk]
  simp only [Tr.bulk] at e3
  omega

set_option maxRecDepth 100000 in
set_option maxHeartbeats 1000000 in
theorem toEvidence_of (v0 : Int) (v1 : Int) (ts2 : List Tr) (l2 : ts2.length = 2) (es3 : List (List Tr)) (h2 : ToC 22 ts2) (h3 : ToSC 23 5 es3) : ToC 7 ([.leaf (.int .i64 v0)] ++ ([.leaf (.int .i64 v1)] ++ (ts2 ++ ([.row 5 es3] ++ ([]))))) := by
  intro cs w hr hbk
  simp only [Tr.bulkL_append, Tr.bulkL, Tr.bulk] at hbk
  obtain ⟨r0, rfl, K0, n0⟩ := RepL.sLeaf hr
  obtain ⟨r1, rfl, K1, n1⟩ := RepL.sLeaf n0
  obtain ⟨x2_0, x2_1, r2, rfl, G2, n2⟩ := RepL.sAgg2 n1 l2
  obtain ⟨a3, c3, r3, rfl, G3, n3⟩ := RepL.sRow n2
  obtain rfl := RepL.nil_eq n3
  clear hr n0 n1 n2 n3
  go_enter Tryd.func7, Tryd.ntmps7
  go_wp2_with fail
  refine (h2 _ _ (G2.out.ext (.alloc (.alloc (.alloc (.refl _) _) _) _)) (by omega)).mono ?_; rintro e w2 ⟨d2, rfl, hw2, ho2⟩
  obtain ⟨d2_0, d2_1, rfl⟩ := list2 (ho2.1.trans l2)
  have HW2 := Lib.hid hw2
  have HO2 := Lib.hid ho2
  have ob2 := (Three.new w _ _ _ _ _ _).ext hw2
  have OBHw2 := Lib.hid ob2
  have cew2 := ob2.o0.cell
  have hzw2 : w.heap.size < w2.heap.size := ob2.o0.lt
  clear hw2 ob2 ho2
  have EW2 := Lib.hid (Ext.trans (.alloc (.alloc (.alloc (.refl _) _) _) _) HW2.out)
  go_wp2_with (first
    | (refine wpList_store_rep rfl 29 _ _ rfl (w.heap.size + 1 + 1) 2 rfl [d2_0, d2_1] rfl 32 _ OBHw2.out.o2 isz29 (by simp [splice]) HO2.out.rep.one ?_; intro u2 hou2 hgu2 hzu2; have OBHu2 := Lib.hid (OBHw2.out.grown hgu2 hou2 (by omega) (by omega)); have HGu2 := Lib.hid hgu2; have ceu2 := OBHu2.out.o0.cell; have hqu2 : w.heap.size < u2.heap.size := OBHu2.out.o0.lt; have EGu2 := Lib.hid (grown_ext EW2.out HGu2.out (by omega)); clear hou2 hgu2 hzu2 OBHw2 cew2))
  refine (h3 _ _ (G3.out.1.ext EGu2.out) (by omega)).mono ?_; rintro e w3 ⟨d3, rfl, hw3, ho3⟩
  obtain ⟨da3, dc3, rfl, -, -⟩ := ho3.rep.shape
  have HW3 := Lib.hid hw3
  have HO3 := Lib.hid ho3
  have ob3 := OBHu2.out.ext hw3
  clear OBHu2 ceu2
  have OBHw3 := Lib.hid ob3
  have cew3 := ob3.o0.cell
  have hzw3 : w.heap.size < w3.heap.size := ob3.o0.lt
  clear hw3 ob3 ho3
  have EW3 := Lib.hid (Ext.trans EGu2.out HW3.out)
  have hone : Hid (∀ v ∈ ([.int .i64 v0, .int .i64 v1, d2_0, d2_1, .slice da3 es3.length dc3] : List Value), v.oneCell' = true) := by
    intro v hv
    simp only [List.mem_cons, List.not_mem_nil, or_false] at hv
    rcases hv with rfl | rfl | rfl | rfl | rfl <;> first | rfl | (refine HO2.out.rep.one _ ?_; simp; done)
  go_wp2_with (first
    | (refine wpList_store_cell rfl 30 _ _ rfl (w.heap.size + 1 + 1) 4 rfl (.slice da3 es3.length dc3) rfl rfl 32 _ OBHw3.out.o2 isz30 (by simp [splice]) rfl ?_; intro u3 hou3 hgu3 hzu3; have OBHu3 := Lib.hid (OBHw3.out.grown hgu3 hou3 (by omega) (by omega)); have HGu3 := Lib.hid hgu3; have ceu3 := OBHu3.out.o0.cell; have hqu3 : w.heap.size < u3.heap.size := OBHu3.out.o0.lt; have EGu3 := Lib.hid (grown_ext EW3.out HGu3.out (by omega)); clear hou3 hgu3 hzu3 OBHw3 cew3)
    | (refine wpList_load_rep rfl 32 _ rfl (w.heap.size + 1 + 1) 0 rfl [.int .i64 v0, .int .i64 v1, d2_0, d2_1, .slice da3 es3.length dc3] _ Tryd.underlying32 isz32 (fun j v hv => by rw [OBHu3.out.o2.cell, Nat.zero_add]; simpa [splice] using hv) ?_)
    | (refine wpList_store_rep rfl 32 _ _ rfl (w.heap.size + 1) 0 rfl [.int .i64 v0, .int .i64 v1, d2_0, d2_1, .slice da3 es3.length dc3] rfl 32 _ OBHu3.out.o1 isz32 (by simp) hone.out ?_; intro wz hoz hgz hzz; have HOZ := Lib.hid hoz; have HGZ := Lib.hid hgz; clear hoz hgz hzz))
  have HOF : OB wz (w.heap.size + 1) 32 ⟨[.int .i64 v0, .int .i64 v1, d2_0, d2_1, .slice da3 es3.length dc3]⟩ := HOZ.out
  refine bodyPost_ret (results_cell_row Tryd.results7 _ _ (w.heap.size + 1) 32 ⟨[.int .i64 v0, .int .i64 v1, d2_0, d2_1, .slice da3 es3.length dc3]⟩ _ _ rfl HOF Tryd.underlying32 rfl isz32) rfl ⟨[.int .i64 v0, .int .i64 v1, d2_0, d2_1, .slice da3 es3.length dc3], rfl, (grown_ext EGu3.out HGZ.out (by omega)), ?_⟩
  have sw2 := HW2.out.size
  have su2 := HGu2.out.size
  have sw3 := HW3.out.size
  have su3 := HGu3.out.size
  have swz := HGZ.out.size
  simp only [World.size_alloc] at sw2
  have KPz : Keeps (w.heap.size + 1 + 1 + 1) u3 wz := Keeps.of_grown HGZ.out (by omega)
  have KPu3 : Keeps (w.heap.size + 1 + 1 + 1) w3 wz := Keeps.trans (Keeps.of_grown HGu3.out (by omega)) KPz
  have ow3 := HO3.out.keeps KPu3 (by intro x hx; simp only [Between, World.size_alloc] at hx; omega)
  have KPw3 : Keeps (w.heap.size + 1 + 1 + 1) u2 wz := Keeps.trans (Keeps.of_ext HW3.out) KPu3
  have KPu2 : Keeps (w.heap.size + 1 + 1 + 1) w2 wz := Keeps.trans (Keeps.of_grown HGu2.out (by omega)) KPw3
  have ow2 := HO2.out.keeps KPu2 (by intro x hx; simp only [Between, World.size_alloc] at hx; omega)
  have hall := OwnL.cons_leaf K0.out (OwnL.cons_leaf K1.out (OwnL.append (ow2) (OwnL.append (OwnL.one ow3) (OwnL.nil wz (fun _ => False)) (by intro x hx hy; simp only [Between, World.size_alloc, or_false] at hx hy <;> omega)) (by intro x hx hy; simp only [Between, World.size_alloc, or_false] at hx hy <;> omega)))
  exact hall.mono (by intro x hx; simp only [Between, World.size_alloc, or_false] at hx ⊢; omega)

set_option maxRecDepth 100000 in
set_option maxHeartbeats 1000000 in
theorem eqEvidence_of (v0 : Int) (v1 : Int) (ts2 : List Tr) (l2 : ts2.length = 2) (es3 : List (List Tr)) (h2 : EqC 25 ts2) (h3 : EqSC 26 5 es3) : EqC 9 ([.leaf (.int .i64 v0)] ++ ([.leaf (.int .i64 v1)] ++ (ts2 ++ ([.row 5 es3] ++ ([]))))) := by
  intro cs ds w hr hr'
  obtain ⟨r0, rfl, K0, n0⟩ := RepL.sLeaf hr
  obtain ⟨r1, rfl, K1, n1⟩ := RepL.sLeaf n0
  obtain ⟨x2_0, x2_1, r2, rfl, G2, n2⟩ := RepL.sAgg2 n1 l2
  obtain ⟨a3, c3, r3, rfl, G3, n3⟩ := RepL.sRow n2
  obtain rfl := RepL.nil_eq n3
  clear hr n0 n1 n2 n3
  obtain ⟨zr0, rfl, zK0, zn0⟩ := RepL.sLeaf hr'
  obtain ⟨zr1, rfl, zK1, zn1⟩ := RepL.sLeaf zn0
  obtain ⟨zx2_0, zx2_1, zr2, rfl, zG2, zn2⟩ := RepL.sAgg2 zn1 l2
  obtain ⟨za3, zc3, zr3, rfl, zG3, zn3⟩ := RepL.sRow zn2
  obtain rfl := RepL.nil_eq zn3
  clear hr' zn0 zn1 zn2 zn3
  go_enter Tryd.func9, Tryd.ntmps9
  go_wp2_with fail
  refine (h2 _ _ _ (G2.out.ext (.alloc (.alloc (.refl _) _) _)) (zG2.out.ext (.alloc (.alloc (.refl _) _) _))).mono ?_; rintro e w2 ⟨rfl, hw2⟩
  have HW2 := Lib.hid hw2
  have ob2 := (Two.new w _ _ _ _).ext hw2
  have OBH := Lib.hid ob2
  have ce2 := ob2.o0.cell
  have cf2 := ob2.o1.cell
  clear hw2 ob2
  go_wp2_with fail
  refine (h3 _ _ _ (G3.out.1.ext (Ext.trans (.alloc (.alloc (.refl _) _) _) HW2.out)) (zG3.out.1.ext (Ext.trans (.alloc (.alloc (.refl _) _) _) HW2.out))).mono ?_; rintro e w3 ⟨rfl, hw3⟩
  have HW3 := Lib.hid hw3
  have ob3 := OBH.out.ext hw3
  clear OBH ce2 cf2
  have OBH := Lib.hid ob3
  have ce3 := ob3.o0.cell
  have cf3 := ob3.o1.cell
  clear hw3 ob3
  go_wp2_with fail
  go_ret
  exact ⟨rfl, (Ext.trans (Ext.trans (.alloc (.alloc (.refl _) _) _) HW2.out) HW3.out)⟩

set_option maxRecDepth 100000 in
set_option maxHeartbeats 1000000 in
theorem szEvidenceS_of (es : List (List Tr)) (h5 : ∀ e ∈ es, e.length = 5) (H : ∀ e ∈ es, SzC 5 e) : SzSC 20 5 es := by
  intro s left w hs h0 h1
  obtain ⟨a, cap, rfl, hl, hm⟩ := hs.shape
  unfold maxLen at hm
  have HS := Lib.hid hs
  have HH := Lib.hid H
  have H5 := Lib.hid h5
  clear hs H h5
  go_enter Tryd.func20, Tryd.ntmps20
  go_wp2_with fail
  · go_ret
    exact ⟨-1, rfl, .refl _, by omega, by omega, by omega⟩
  go_loopw [1, 5] (fun l i wr => ∃ (k : Nat) (r : Int), k ≤ es.length ∧ i = .int .i64 k ∧ l = .int .i64 r ∧ Ext w wr ∧ 0 ≤ r ∧ r + es.length + Tr.bulkAll (es.take k) ≤ left) (fun _ i _ => es.length - (intOf i).toNat)
  case atStart => exact ⟨0, _, Nat.zero_le _, rfl, rfl, .refl _, by omega, by simp [Tr.bulkAll]⟩
  case round =>
    obtain ⟨k, r, hk, rfl, rfl, hw, hr0, hrb⟩ := hrel
    by_cases hlt : k < es.length
    · obtain ⟨b, off, cs, rfl, hb, hcs, hc⟩ := (HS.out.ext hw).at2 (k := k) (List.getElem?_eq_getElem hlt)
      have hmem : es[k] ∈ es := List.getElem_mem hlt
      have l5 := H5.out _ hmem
      have hbt := Lib.hid (Tr.bulkAll_take es k hlt)
      have HCS := Lib.hid hcs
      have HC := Lib.hid hc
      have HM := Lib.hid hmem
      have HI : Hid ((Tryd.prog.info? 26).map (·.size) = some cs.length) := by rw [← hcs.length, l5]; exact isz26
      clear hcs hc hmem l5
      go_wp2_with (refine wpList_load_rep rfl 26 _ rfl b (off + k * 5) rfl cs _ Tryd.underlying26 HI.out HC.out ?_)
      refine (HH.out _ HM.out _ _ _ HCS.out hr0 (by omega)).mono ?_; rintro e w1 ⟨r1, rfl, hw1, hr1, hr2, hr3⟩
      have HR3 := Lib.hid hr3
      have HW1 := Lib.hid hw1
      clear hr3 hw1
      go_wp2_with fail
      · go_ret
        exact ⟨-1, rfl, hw.trans HW1.out, by omega, by omega, by omega⟩
      · go_roundw
        case rel =>
          have p0 : 0 ≤ r1 := by assumption
          have e1 := HR3.out p0
          have e2 := hbt.out
          exact ⟨k + 1, r1, by omega, by go_num, rfl, hw.trans HW1.out, p0, by omega⟩
        case measure => simp [intOf]; omega
    · have hkl : k = es.length := by omega
      go_wp2_with fail
      go_ret
      refine ⟨r, rfl, hw, by omega, by omega, fun _ => ?_⟩
      rw [hkl, List.take_length] at hrb
      simp only [Tr.bulk]
      omega

set_option maxRecDepth 100000 in
set_option maxHeartbeats 1000000 in
theorem toEvidenceS_of (es : List (List Tr)) (h5 : ∀ e ∈ es, e.length = 5) (H : ∀ e ∈ es, ToC 7 e) : ToSC 23 5 es := by
  intro s w hs hbk
  obtain ⟨a, cap, rfl, hl, hm⟩ := hs.shape
  unfold maxLen at hm
  have HS := Lib.hid hs
  have HH := Lib.hid H
  have H5 := Lib.hid h5
  have n0 : (0 : Int) ≤ es.length := by omega
  clear hs H h5
  go_enter Tryd.func23, Tryd.ntmps23
  go_wp2_with (refine wpList_make_rep rfl 30 (.tmp 6) rfl es.length rfl 32 Tryd.underlying30 5 56 iszb32 (by omega) (by omega) ?_; intro wm arr0 ha0 hob0 hx0 hz0; have HA0 := Lib.hid ha0; have HOB0 := Lib.hid hob0; have HX0 := Lib.hid hx0; have HZ0 := Lib.hid hz0; clear ha0 hob0 hx0 hz0)
  go_loopw [4] (fun i wr => ∃ (k : Nat) (arr : Array Value), k ≤ es.length ∧ i = .int .i64 k ∧ Ext w wr ∧ w.heap.size < wr.heap.size ∧ OB wr w.heap.size 32 arr ∧ arr.size = es.length * 5 ∧ Part wr w.heap.size arr 5 es k) (fun i _ => es.length - (intOf i).toNat)
  case atStart => exact ⟨0, arr0, Nat.zero_le _, rfl, HX0.out, by rw [HZ0.out]; omega, HOB0.out, HA0.out, Part.zero _ _ _ _ _⟩
  case round =>
    obtain ⟨k, arr, hk, rfl, hw, hgt, hob, hasz, hpart⟩ := hrel
    have HOB := Lib.hid hob
    have HAS := Lib.hid hasz
    have HP := Lib.hid hpart
    clear hob hasz hpart
    by_cases hlt : k < es.length
    · obtain ⟨b, off, cs, rfl, hb, hcs, hc⟩ := (HS.out.ext hw).at2 (k := k) (List.getElem?_eq_getElem hlt)
      have hmem : es[k] ∈ es := List.getElem_mem hlt
      have l5 := H5.out _ hmem
      have hbe := Tr.bulkAll_le hlt
      have HCS := Lib.hid hcs
      have HC := Lib.hid hc
      have HM := Lib.hid hmem
      have HL5 := Lib.hid l5
      have HI : Hid ((Tryd.prog.info? 26).map (·.size) = some cs.length) := by rw [← hcs.length, l5]; exact isz26
      clear hcs hc hmem l5
      go_wp2_with (refine wpList_load_rep rfl 26 (.tmp 18) rfl b (off + k * 5) rfl cs _ Tryd.underlying26 HI.out HC.out ?_)
      refine (HH.out _ HM.out _ _ HCS.out (by omega)).mono ?_; rintro e w1 ⟨cs1, rfl, hw1, ho1⟩
      have HW1 := Lib.hid hw1
      have HO1 := Lib.hid ho1
      have hcl : cs1.length = 5 := ho1.1.trans HL5.out
      have HCL := Lib.hid hcl
      have hfit : 0 + k * 5 + cs1.length ≤ arr.size := by have := HAS.out; omega
      have HF := Lib.hid hfit
      clear hw1 ho1 hcl hfit
      go_wp2_with (refine wpList_store_rep rfl 32 (.tmp 21) (.tmp 20) rfl w.heap.size (k * 5) rfl cs1 rfl 32 arr (HOB.out.ext HW1.out) (by rw [HCL.out]; exact isz32) (by have := HF.out; omega) (HO1.out.rep.one) ?_; intro w2 hob2 hg2 hz2; have HOB2 := Lib.hid hob2; have HG2 := Lib.hid hg2; have HZ2 := Lib.hid hz2; clear hob2 hg2 hz2)
      go_roundw
      case rel =>
        have hfit : k * 5 + cs1.length ≤ arr.size := by have := HF.out; omega
        refine ⟨k + 1, _, by omega, by go_num, ?_, ?_, HOB2.out, by rw [splice_size hfit]; exact HAS.out, HP.out.step hgt HW1.out (List.getElem?_eq_getElem hlt) HO1.out HCL.out HAS.out HG2.out HOB2.out⟩
        · exact grown_ext (hw.trans HW1.out) HG2.out (Nat.le_refl _)
        · have := HW1.out.size
          have := HZ2.out
          omega
      case measure => simp [intOf]; omega
    · have hkl : k = es.length := by omega
      go_wp2_with fail
      go_ret
      subst hkl
      exact ⟨_, rfl, hw, (HP.out.done HOB.out H5.out (Nat.le_refl _) (by unfold maxLen; omega) (Nat.le_refl _)).mono fun x hx => ⟨hx.1, hx.2⟩⟩

set_option maxRecDepth 100000 in
set_option maxHeartbeats 1000000 in
theorem eqEvidenceS_of (es : List (List Tr)) (h5 : ∀ e ∈ es, e.length = 5) (H : ∀ e ∈ es, EqC 9 e) : EqSC 26 5 es := by
  intro s u w hs hu
  obtain ⟨a, cap, rfl, hl, hm⟩ := hs.shape
  obtain ⟨a', cap', rfl, hl', hm'⟩ := hu.shape
  unfold maxLen at hm hm'
  have HS := Lib.hid hs
  have HU := Lib.hid hu
  have HH := Lib.hid H
  have H5 := Lib.hid h5
  clear hs hu H h5
  go_enter Tryd.func26, Tryd.ntmps26
  go_wp2_with fail
  go_loopw [5] (fun i wr => ∃ k : Nat, k ≤ es.length ∧ i = .int .i64 k ∧ Ext w wr) (fun i _ => es.length - (intOf i).toNat)
  case atStart => exact ⟨0, Nat.zero_le _, rfl, .refl _⟩
  case round =>
    obtain ⟨k, hk, rfl, hw⟩ := hrel
    by_cases hlt : k < es.length
    · obtain ⟨b, off, cs, rfl, hb, hcs, hc⟩ := (HS.out.ext hw).at2 (k := k) (List.getElem?_eq_getElem hlt)
      obtain ⟨b', off', ds, rfl, hb', hds, hd⟩ := (HU.out.ext hw).at2 (k := k) (List.getElem?_eq_getElem hlt)
      have hmem : es[k] ∈ es := List.getElem_mem hlt
      have l5 := H5.out _ hmem
      have HCS := Lib.hid hcs
      have HDS := Lib.hid hds
      have HM := Lib.hid hmem
      have HC := Lib.hid hc
      have HD := Lib.hid hd
      have HI : Hid ((Tryd.prog.info? 32).map (·.size) = some cs.length) := by rw [← hcs.length, l5]; exact isz32
      have HJ : Hid ((Tryd.prog.info? 32).map (·.size) = some ds.length) := by rw [← hds.length, l5]; exact isz32
      clear hcs hds hc hd l5 hmem
      go_wp2_with fail
      have ki : (k : Int) < (es.length : Int) := by omega
      have k0 : (0 : Int) ≤ (k : Int) := by omega
      refine wp_region_still_tail 8 (by kernel_rfl) (by kernel_rfl) ?_
      simp only [List.take_succ_cons, List.take_zero, List.drop_succ_cons, List.drop_zero]
      change wpStill _ _ wr.drew _ _ _
      repeat (first
        | (refine wpStill_load_rep rfl 32 (.tmp 19) rfl b (off + k * 5) rfl cs _ Tryd.underlying32 HI.out HC.out ?_; simp only [Act.put])
        | (refine wpStill_load_rep rfl 32 (.tmp 23) rfl b' (off' + k * 5) rfl ds _ Tryd.underlying32 HJ.out HD.out ?_; simp only [Act.put])
        | still_step)
      refine wpStill_nil ?_
      change wpList _ _ _ _ _ wr.drew
      go_wp2_with fail
      refine (HH.out _ HM.out _ _ _ (HCS.out.ext (.drew (.refl _))) (HDS.out.ext (.drew (.refl _)))).mono ?_; rintro e w1 ⟨rfl, hw1⟩
      have HW1 := Lib.hid hw1
      clear hw1
      go_wp2_with fail
      go_roundw
      case rel => exact ⟨k + 1, by omega, by go_num, hw.trans (.trans (.drew (.refl _)) HW1.out)⟩
      case measure => simp [intOf]; omega
    · go_wp2_with fail
      go_ret
      exact ⟨rfl, hw⟩

end Go.Proofs.YtmpepccpnnldoaaDoor

namespace Go.Proofs.YtmpepccpnnldoaaDoor
open Go.RowKit Go.Proofs

end Go.Proofs.YtmpepccpnnldoaaDoor

namespace Go.Proofs.YtmpepccpnnldoaaDoor
open Go.RowKit Go.Proofs

theorem bulk0_InstanceRef (x : GInstanceRef) : Tr.bulkL x.tr = 0 := by
  obtain ⟨v0, v1⟩ := x
  simp [GInstanceRef.tr, Tr.bulkL, Tr.bulk]

theorem toInstanceRef_all (x : GInstanceRef) : ToC 22 x.tr := by
  obtain ⟨v0, v1⟩ := x
  exact toInstanceRef_of v0 v1

theorem eqInstanceRef_all (x : GInstanceRef) : EqC 25 x.tr := by
  obtain ⟨v0, v1⟩ := x
  exact eqInstanceRef_of v0 v1

theorem szEvidence_all : ∀ x : GEvidence, SzC 5 x.tr :=
  GEvidence.ind fun v0 v1 v2 v3 ih => szEvidence_of v0 v1 (GInstanceRef.tr v2) (GInstanceRef.tr_len v2) (GEvidence.trs v3) (szEvidenceS_of _ (GEvidence.sz v3) (GEvidence.all ih)) (bulk0_InstanceRef v2)

theorem toEvidence_all : ∀ x : GEvidence, ToC 7 x.tr :=
  GEvidence.ind fun v0 v1 v2 v3 ih => toEvidence_of v0 v1 (GInstanceRef.tr v2) (GInstanceRef.tr_len v2) (GEvidence.trs v3) (toInstanceRef_all v2) (toEvidenceS_of _ (GEvidence.sz v3) (GEvidence.all ih))

theorem eqEvidence_all : ∀ x : GEvidence, EqC 9 x.tr :=
  GEvidence.ind fun v0 v1 v2 v3 ih => eqEvidence_of v0 v1 (GInstanceRef.tr v2) (GInstanceRef.tr_len v2) (GEvidence.trs v3) (eqInstanceRef_all v2) (eqEvidenceS_of _ (GEvidence.sz v3) (GEvidence.all ih))

end Go.Proofs.YtmpepccpnnldoaaDoor

namespace Go.Proofs.YtmpepccpnnldoaaDoor
open Go.RowKit

section
variable {P : Program} {ops : Array Oper} {Q : Exit → Act → World → Prop} {md : Region.Mode} {S : World → Prop}

theorem wpAnyH_load_rep {i : Nat} {oi : Oper} {fuel : Nat} {listed : Array Bool} {a : Act} {w : World} (hi : ops[i]? = some oi)
    (hs : Region.noSelect ops = true) (hf : Region.free md ops listed i = true) (hr : (Region.ready md ops listed).contains i = true)
    (_hQ : ∀ c a w, Q (.panic c) (a.put oi.dst (.bool true)) w → Q (.panic c) a w) (hgd : oi.guard = none) (ty : TypeId) (x : Operand) (ho : oi.op = .load ty x)
    (b off : Nat) (hx : a.eval x = .pointer (some ⟨b, off, none⟩)) (cs : List Value) (fs : Array Field) (hu : P.underlying ty = some (.struct fs)) (hinfo : (P.info? ty).map (·.size) = some cs.length)
    (hS : ∀ w, S w → ∀ (j : Nat) (v : Value), cs[j]? = some v → w.cell? ⟨b, off + j, none⟩ = some v) (hw : S w) (hQ2 : ∀ c a w v, Q (.panic c) (a.put oi.dst v) w → Q (.panic c) a w)
    (h : wpAnyH P md ops Q S fuel (listed.setIfInBounds i true) (a.put oi.dst (.agg ⟨cs⟩)) w) : wpAnyH P md ops Q S (fuel + 1) listed a w :=
  wpAnyH_take hi hs hf hr (fun c a w => hQ2 c a w _) (.inl ⟨by simp [Region.wanted, hgd], fun w1 hw1 => by
    unfold execOp
    simp only [ho, hx, Instr.loadAt, Instr.sureAddr, Sem.run_bind, Sem.run_pure, Result.andThen_ok, run_loadVar_rep w1 b off ty cs fs hu hinfo (hS w1 hw1)]⟩) hw h

theorem run_call_func {o : Oper} {ev : Operand → Value} {f : FuncId} {fn : Func} {ars : Array Operand} {ts : Array TypeId} (ho : o.op = .call { callee := .value (.func f), args := ars, argTypes := ts })
    (hev : ev (.func f) = .func (.func f) #[] #[]) (vals : Array Value) (hv : ars.map ev = vals) (hf : P.funcs[f]? = some fn) (hname : (fn.name == "runtime.NumGoroutine") = false) (hb : fn.body.isNone = false) (w : World) :
    (execOp ev o).run P w = .ok (.enter f vals) w := by
  have hc := run_callFunc_body (P := P) hf hname hb
  unfold execOp
  simp only [ho]
  simp [resolve, invoke, Deferred.ofValue, hev, hv, hc]

theorem wpAnyH_call {i : Nat} {o : Oper} {fuel : Nat} {listed : Array Bool} {a : Act} {w : World} {f : FuncId} {vals : Array Value} {R : Ending → World → Prop} (hr : Region.ready md ops listed = [i]) (ho : ops[i]? = some o) (hgd : o.guard = none)
    (hrun : (execOp a.eval o).run P w = .ok (.enter f vals) w) (hc : Calls P f vals w R)
    (h : ∀ e w', R e w' → ∃ v, e = .returned v ∧ S w' ∧ wpAnyH P md ops Q S fuel (listed.setIfInBounds i true) (a.put o.dst v) w') : wpAnyH P md ops Q S (fuel + 1) listed a w := by
  refine wpAnyH_all hr (by simp) fun j hj => ?_
  obtain rfl : j = i := by simpa using hj
  have hw : Region.wanted o (yielded ops a.tmps) = true := by simp [Region.wanted, hgd]
  unfold wpOp
  simp only [ho]
  rw [if_pos hw]
  refine .inl ?_
  unfold Oper.wp
  rw [hrun]
  refine hc.mono fun e w' hR => ?_
  obtain ⟨v, rfl, h1, h2⟩ := h e w' hR
  exact ⟨h1, h2⟩

theorem run_loadVar_cell {w : World} {p : Addr} {ty : TypeId} {v : Value} {d : TypeDesc} (hu : P.underlying ty = some d) (hd : (match d with | .struct _ | .array _ _ => true | _ => false) = false) (hc : w.cell? p = some v) :
    (loadVar ty p).run P w = .ok v w := by
  have hagg : (isAgg ty).run P w = .ok false w := by
    unfold isAgg
    rw [Sem.run_bind, run_underlying hu w]
    cases d <;> simp_all
  simp [loadVar, Sem.run_bind, hagg, hc]

theorem wpAnyH_cell {i : Nat} {oi : Oper} {fuel : Nat} {listed : Array Bool} {a : Act} {w : World} (hi : ops[i]? = some oi)
    (hs : Region.noSelect ops = true) (hf : Region.free md ops listed i = true) (hr : (Region.ready md ops listed).contains i = true) (hgd : oi.guard = none) (ty : TypeId) (x : Operand) (ho : oi.op = .load ty x)
    (b off : Nat) (hx : a.eval x = .pointer (some ⟨b, off, none⟩)) (v : Value) (d : TypeDesc) (hu : P.underlying ty = some d) (hd : (match d with | .struct _ | .array _ _ => true | _ => false) = false)
    (hS : ∀ w, S w → w.cell? ⟨b, off, none⟩ = some v) (hw : S w) (hQ2 : ∀ c a w v, Q (.panic c) (a.put oi.dst v) w → Q (.panic c) a w)
    (h : wpAnyH P md ops Q S fuel (listed.setIfInBounds i true) (a.put oi.dst v) w) : wpAnyH P md ops Q S (fuel + 1) listed a w :=
  wpAnyH_take hi hs hf hr (fun c a w => hQ2 c a w _) (.inl ⟨by simp [Region.wanted, hgd], fun w1 hw1 => by
    unfold execOp
    simp only [ho, hx, Instr.loadAt, Instr.sureAddr, Sem.run_bind, Sem.run_pure, Result.andThen_ok, run_loadVar_cell hu hd (hS w1 hw1)]⟩) hw h

end
end Go.Proofs.YtmpepccpnnldoaaDoor

namespace Go.Proofs.YtmpepccpnnldoaaDoor

/-- The index of the first element that meets p, counted from i; -1 if there is none. -/
def idxL {α : Type} (p : α → Bool) : List α → Nat → Int
  | [], _ => -1
  | a :: l, i => if p a then i else idxL p l (i + 1)
theorem idxL_step {α : Type} {p : α → Bool} {l : List α} {k : Nat} (h : k < l.length) : idxL p (l.drop k) k = if p l[k] then (k : Int) else idxL p (l.drop (k + 1)) (k + 1) := by
  rw [List.drop_eq_getElem_cons h, idxL]
theorem idxL_any {α : Type} {p : α → Bool} : ∀ (l : List α) (i : Nat), decide (0 ≤ idxL p l i) = l.any p
  | [], i => by simp [idxL]
  | a :: l, i => by
    unfold idxL
    by_cases h : p a
    · simp [h]
    · simp [h, idxL_any l (i + 1)]
end Go.Proofs.YtmpepccpnnldoaaDoor

namespace Go.Proofs.YtmpepccpnnldoaaDoor
open Go.RowKit Go.Proofs


set_option maxRecDepth 100000 in
set_option maxHeartbeats 1000000 in
theorem indexFunc_43 {α : Type} (tr : α → List Tr) (p : α → Bool) (xs : List α) (g : FuncId) (caps : Array Value) (hg : ∀ (args : Array Value) (w : World), (callFunc g args).run Tryd.prog w = .ok (.enter g args) w) (hl : ∀ x, (tr x).length = 5) (s : Value) (w : World)
    (H : ∀ x ∈ xs, ∀ cs w', Ext w w' → RepL w' (tr x) cs → Calls Tryd.prog g (#[.agg ⟨cs⟩] ++ caps) w' fun e w'' => e = .returned (.bool (p x)) ∧ Ext w' w'')
    (hs : Rep w (.row 5 (xs.map tr)) s) :
    Calls Tryd.prog 43 #[s, .func (.func g) #[] caps] w fun e w' => e = .returned (.int .i64 (idxL p xs 0)) ∧ Ext w w' := by
  obtain ⟨a, cap, rfl, hlc, hm⟩ := hs.shape
  unfold maxLen at hm
  rw [List.length_map] at hlc ⊢
  rw [List.length_map] at hs
  have HS := Lib.hid hs
  have HH := Lib.hid H
  have HL := Lib.hid hl
  clear hs H hl
  go_enter Tryd.func43, Tryd.ntmps43
  go_wp2_with fail
  go_loopw [5, 8] (fun _ i wr => ∃ k : Nat, k ≤ xs.length ∧ i = .int .i64 k ∧ Ext w wr ∧ Hid (idxL p xs 0 = idxL p (xs.drop k) k)) (fun _ i _ => xs.length - (intOf i).toNat)
  case atStart => exact ⟨0, Nat.zero_le _, rfl, .refl _, rfl⟩
  case round =>
    obtain ⟨k, hk, rfl, hw, HE⟩ := hrel
    by_cases hlt : k < xs.length
    · obtain ⟨b, off, cs, rfl, hb, hcs, hc⟩ := (HS.out.ext hw).at2 (k := k) (e := tr xs[k]) (by rw [List.getElem?_map, List.getElem?_eq_getElem hlt]; rfl)
      have HST := Lib.hid (idxL_step (p := p) hlt)
      have HM := Lib.hid (List.getElem_mem hlt)
      have HCS := Lib.hid hcs
      have HC := Lib.hid hc
      have HI : Hid ((Tryd.prog.info? 32).map (·.size) = some cs.length) := by rw [← hcs.length, HL.out]; exact isz32
      clear hcs hc
      go_wp2_with (refine wpList_load_rep rfl 32 (.tmp 14) rfl b (off + k * 5) rfl cs _ Tryd.underlying32 HI.out HC.out ?_)
      refine (HH.out _ HM.out _ _ hw HCS.out).mono ?_; rintro e w1 ⟨rfl, hw1⟩
      have HW1 := Lib.hid (hw.trans hw1)
      clear hw1
      cases hp : p xs[k]
      · have HP := Lib.hid hp
        clear hp
        go_wp2_with fail
        go_roundw
        case rel => exact ⟨k + 1, by omega, by go_num, HW1.out, by rw [HE.out, HST.out, HP.out]; rfl⟩
        case measure => simp [intOf]; omega
      · have HP := Lib.hid hp
        clear hp
        go_wp2_with fail
        go_ret
        exact ⟨ret_int (by rw [HE.out, HST.out, HP.out]; rfl), HW1.out⟩
    · have hkl : k = xs.length := by omega
      go_wp2_with fail
      go_ret
      exact ⟨ret_int (by rw [HE.out, hkl, List.drop_length]; rfl), hw⟩


set_option maxRecDepth 100000 in
set_option maxHeartbeats 1000000 in
theorem containsFunc_34 {α : Type} (tr : α → List Tr) (p : α → Bool) (xs : List α) (g : FuncId) (caps : Array Value) (hg : ∀ (args : Array Value) (w : World), (callFunc g args).run Tryd.prog w = .ok (.enter g args) w) (hl : ∀ x, (tr x).length = 5) (s : Value) (w : World)
    (H : ∀ x ∈ xs, ∀ cs w', Ext w w' → RepL w' (tr x) cs → Calls Tryd.prog g (#[.agg ⟨cs⟩] ++ caps) w' fun e w'' => e = .returned (.bool (p x)) ∧ Ext w' w'')
    (hs : Rep w (.row 5 (xs.map tr)) s) :
    Calls Tryd.prog 34 #[s, .func (.func g) #[] caps] w fun e w' => e = .returned (.bool (xs.any p)) ∧ Ext w w' := by
  have hc := Lib.hid (indexFunc_43 tr p xs g caps hg hl s w H hs)
  have hb := Lib.hid (idxL_any (p := p) xs 0)
  clear H hs hl hg
  go_enter Tryd.func34, Tryd.ntmps34
  go_wp2_with fail
  refine hc.out.mono ?_; rintro e w1 ⟨rfl, hw1⟩
  have HW1 := Lib.hid hw1
  clear hw1
  generalize idxL p xs 0 = q at *
  go_wp2_with fail
  go_ret
  exact ⟨ret_bool hb.out, HW1.out⟩

end Go.Proofs.YtmpepccpnnldoaaDoor

namespace Go.Proofs.YtmpepccpnnldoaaDoor
open Go.RowKit Go.Proofs

mutual
def GEvidence.size : GEvidence → Nat
  | .mk _ _ _ xs => 1 + GEvidence.sizes xs
def GEvidence.sizes : List GEvidence → Nat
  | [] => 0
  | e :: r => GEvidence.size e + GEvidence.sizes r
end
theorem GEvidence.sizes_step {l : List GEvidence} {k : Nat} (h : k < l.length) : GEvidence.sizes (l.drop k) = GEvidence.size l[k] + GEvidence.sizes (l.drop (k + 1)) := by
  rw [List.drop_eq_getElem_cons h, GEvidence.sizes]

/-- Size is at most one more than what is counted of the tree. -/
theorem GEvidence.size_bulk : ∀ e : GEvidence, GEvidence.size e ≤ 1 + Tr.bulkL e.tr := by
  refine GEvidence.ind fun v0 v1 v2 v3 h => ?_
  have : ∀ l : List GEvidence, (∀ x ∈ l, GEvidence.size x ≤ 1 + Tr.bulkL x.tr) → GEvidence.sizes l ≤ l.length + Tr.bulkAll (GEvidence.trs l) := by
    intro l
    induction l with
    | nil => intro _; simp [GEvidence.sizes]
    | cons a l ih =>
      intro hl
      have h1 := hl a (by simp)
      have h2 := ih fun x hx => hl x (by simp [hx])
      simp only [GEvidence.sizes, GEvidence.trs, Tr.bulkAll, List.length_cons]
      omega
  have := this v3 h
  simp only [GEvidence.size, GEvidence.tr, Tr.bulkL_append, Tr.bulkL, Tr.bulk, GEvidence.trs_len]
  omega

theorem GEvidence.sizes_drop : ∀ (l : List GEvidence) (k : Nat), GEvidence.sizes (l.drop k) ≤ GEvidence.sizes l
  | [], k => by simp
  | a :: l, 0 => by simp
  | a :: l, k + 1 => by
    have := GEvidence.sizes_drop l k
    simp only [List.drop_succ_cons, GEvidence.sizes]
    omega

end Go.Proofs.YtmpepccpnnldoaaDoor

namespace Go.Proofs.YtmpepccpnnldoaaDoor
open Go.RowKit Go.Proofs

mutual
def GEvidence.valid : GEvidence → Bool
  | .mk k n (.mk p a) xs =>
    (if k = 1 then decide (n = 0) && decide (0 ≤ p) && decide (0 ≤ a) && decide ((xs.length : Int) ≤ 4)
     else if k = 2 then decide (0 ≤ n) && decide (p = 0) && decide (a = 0) && ((xs.length : Int) == 0)
     else if k = 3 then decide (0 ≤ n) && decide (p = 0) && decide (a = 0) && ((xs.length : Int) == 1)
     else if k = 4 ∨ k = 5 then decide (n = 0) && decide (p = 0) && decide (a = 0) && ((xs.length : Int) == 0)
     else false) && GEvidence.valids xs
def GEvidence.valids : List GEvidence → Bool
  | [] => true
  | e :: r => GEvidence.valid e && GEvidence.valids r
end
theorem GEvidence.valids_step {l : List GEvidence} {k : Nat} (h : k < l.length) : GEvidence.valids (l.drop k) = (GEvidence.valid l[k] && GEvidence.valids (l.drop (k + 1))) := by
  rw [List.drop_eq_getElem_cons h, GEvidence.valids]
theorem kinds5 (v : Int) : v = 1 ∨ v = 2 ∨ v = 3 ∨ v = 4 ∨ v = 5 ∨ (v == 1) = false ∧ (v == 2) = false ∧ (v == 3) = false ∧ (v == 4) = false ∧ (v == 5) = false := by
  simp; omega

set_option maxHeartbeats 4000000 in
theorem evidenceValid_spec : ∀ (x : GEvidence) (cs : List Value) (w : World), RepL w x.tr cs →
    Calls Tryd.prog 18 #[.agg ⟨cs⟩] w fun e w' => e = .returned (.bool (GEvidence.valid x)) ∧ Ext w w' := by
  refine GEvidence.ind fun v0 v1 v2 xs ih => ?_
  obtain ⟨p, t⟩ := v2
  intro cs w hr
  obtain ⟨x2, a, c, rfl, -, -, h2, h3⟩ := GEvidence.opened hr
  obtain ⟨rfl, -, -⟩ := GInstanceRef.opened h2
  obtain ⟨hl, hm, -⟩ := h3.lens
  have HS := Lib.hid h3
  have IH := Lib.hid ih
  clear hr h2 h3 ih
  simp only [List.cons_append, List.nil_append]
  rcases kinds5 v0 with rfl | rfl | rfl | rfl | rfl | ⟨k1, k2, k3, k4, k5⟩
  all_goals go_enter Tryd.func18, Tryd.ntmps18
  all_goals go_wp2_with fail
  all_goals first
    | (go_ret; exact ⟨ret_bool (by simp_all [GEvidence.valid] <;> omega), .alloc (.refl _) _⟩)
    | skip
  all_goals
    go_loopw [4] (fun i wr => ∃ (k : Nat) (z : Int), k ≤ xs.length ∧ i = .int .i64 k ∧ Ext w wr ∧ Hid (OB wr w.heap.size 32 #[.int .i64 z, .int .i64 v1, .int .i64 p, .int .i64 t, .slice a xs.length c]) ∧ Hid (GEvidence.valids xs = GEvidence.valids (xs.drop k))) (fun i _ => xs.length - (intOf i).toNat)
    case atStart =>
      simp_all only []
      exact ⟨0, _, Nat.zero_le _, rfl, .alloc (.refl _) _, OB.new w _ _, rfl⟩
    case round =>
      obtain ⟨k, z0, hk, rfl, hw, HB, HE⟩ := hrel
      have hce := HB.out.cell
      by_cases hlt : k < xs.length
      · obtain ⟨b, off, cs, rfl, hb, hcs, hc⟩ := (HS.out.ext hw).at2 (k := k) (GEvidence.trs_get hlt)
        have HM := Lib.hid (List.getElem_mem hlt)
        have HCS := Lib.hid hcs
        have HC := Lib.hid hc
        have HI : Hid ((Tryd.prog.info? 32).map (·.size) = some cs.length) := by rw [← hcs.length, GEvidence.tr_len]; exact isz32
        have HCL : Hid (cs.length = 5) := by rw [← hcs.length, GEvidence.tr_len]; rfl
        clear hcs hc
        have HST := Lib.hid (GEvidence.valids_step hlt)
        go_wp2_with (refine wpList_load_rep rfl 32 (.tmp 70) rfl b (off + k * 5) rfl cs _ Tryd.underlying32 HI.out HC.out ?_)
        refine (IH.out _ HM.out _ _ HCS.out).mono ?_; rintro e w1 ⟨rfl, hw1⟩
        have HW1 := Lib.hid (hw.trans hw1)
        have HB1 := Lib.hid (HB.out.ext hw1)
        clear hw1
        cases hz : GEvidence.valid xs[k]
        · have HZ := Lib.hid hz
          clear hz
          go_wp2_with fail
          go_ret
          exact ⟨ret_bool (by have := HE.out; rw [HST.out, HZ.out] at this; simp [GEvidence.valid, this]), HW1.out⟩
        · have HZ := Lib.hid hz
          clear hz
          go_wp2_with fail
          go_roundw
          case rel =>
            exact ⟨k + 1, z0, by omega, by go_num, HW1.out, HB1.out, by have := HE.out; rw [HST.out, HZ.out] at this; exact this⟩
          case measure => simp [intOf]; omega
      · have hkl : k = xs.length := by omega
        go_wp2_with fail
        all_goals
          go_ret
          have := HE.out
          rw [hkl, List.drop_length] at this
          simp only [GEvidence.valids] at this
          exact ⟨ret_bool (by simp_all [GEvidence.valid] <;> omega), hw⟩
theorem GEvidence.valids_any : ∀ xs : List GEvidence, GEvidence.valids xs = !(xs.any fun a => !GEvidence.valid a)
  | [] => rfl
  | e :: r => by rw [GEvidence.valids, GEvidence.valids_any r]; simp

theorem ref4 (p t : Int) : p = 0 ∧ t = 0 ∨ p = 0 ∧ (t == 0) = false ∨ (p == 0) = false ∧ 0 ≤ p ∧ 0 < p ∨ (p == 0) = false ∧ p < 0 ∧ decide (0 ≤ p) = false := by
  simp; omega

def ValidC (f : FuncId) (x : GEvidence) (r : Bool) : Prop := ∀ (cs : List Value) (w : World), RepL w x.tr cs → Calls Tryd.prog f #[.agg ⟨cs⟩] w fun e w' => e = .returned (.bool r) ∧ Ext w w'

set_option maxHeartbeats 1000000 in
theorem evidenceValid_lam (x : GEvidence) (H : ValidC 17 x (GEvidence.valid x)) : ValidC 35 x (!GEvidence.valid x) := by
  intro cs w hr
  have HR := Lib.hid hr
  have HI : Hid ((Tryd.prog.info? 32).map (·.size) = some cs.length) := by rw [← hr.length, GEvidence.tr_len]; exact isz32
  have HH := Lib.hid H
  clear hr H
  go_enter Tryd.func35, Tryd.ntmps35
  go_wp2_with (refine wpList_load_rep rfl 32 (.tmp 1) rfl w.heap.size 0 rfl cs _ Tryd.underlying32 HI.out (OB.cells0 (OB.new w _ _)) ?_)
  refine (HH.out _ _ (HR.out.ext (.alloc (.refl _) _))).mono ?_; rintro e w1 ⟨rfl, hw1⟩
  have HW1 := Lib.hid hw1
  clear hw1
  generalize hq : GEvidence.valid x = q at *
  have HQ := Lib.hid hq
  clear hq
  go_wp2_with fail
  go_ret
  exact ⟨ret_bool (by simp [HQ.out]), .trans (.alloc (.refl _) _) HW1.out⟩

set_option maxHeartbeats 4000000 in
theorem evidenceValid_impl : ∀ (x : GEvidence), ValidC 17 x (GEvidence.valid x) := by
  refine GEvidence.ind fun v0 v1 v2 xs ih => ?_
  obtain ⟨p, t⟩ := v2
  intro cs w hr
  obtain ⟨x2, a, c, rfl, -, -, h2, h3⟩ := GEvidence.opened hr
  obtain ⟨rfl, -, -⟩ := GInstanceRef.opened h2
  obtain ⟨hl, hm, -⟩ := h3.lens
  rw [GEvidence.trs_map] at h3
  have HC := Lib.hid (fun w' hx => containsFunc_34 GEvidence.tr (fun a => !GEvidence.valid a) xs 35 #[] (run_callFunc_body Tryd.func35 (by kernel_rfl) (by kernel_rfl)) GEvidence.tr_len _ w' (fun x hx cs w' _ h => evidenceValid_lam x (ih x hx) cs w' h) (h3.ext hx))
  have HV := Lib.hid (GEvidence.valids_any xs)
  generalize hz : xs.any (fun a => !GEvidence.valid a) = z at *
  clear hr h2 h3 ih hz
  simp only [List.cons_append, List.nil_append]
  rcases kinds5 v0 with rfl | rfl | rfl | rfl | rfl | ⟨k1, k2, k3, k4, k5⟩
  all_goals rcases ref4 p t with ⟨rfl, rfl⟩ | ⟨rfl, p1⟩ | ⟨p1, p2, p3⟩ | ⟨p1, p2, p3⟩
  all_goals go_enter Tryd.func17, Tryd.ntmps17
  all_goals go_wp2_with fail
  all_goals go_quiet (fail)
  all_goals go_wp2_with fail
  all_goals try (go_quiet (fail); go_wp2_with fail)
  all_goals first
    | (go_ret; exact ⟨ret_bool (by simp_all [GEvidence.valid] <;> omega), by first | exact .drewN (.alloc (.refl _) _) _ | exact .drewN (.drewN (.alloc (.refl _) _) _) _⟩)
    | skip
  all_goals first
    | refine (HC.out _ ?_).mono ?_
    | (have hx0 : xs.length = 0 := by first | assumption | simp_all
       rw [hx0] at HC
       refine (HC.out _ ?_).mono ?_)
  all_goals first
    | exact .drewN (.alloc (.refl _) _) _
    | exact .drewN (.drewN (.alloc (.refl _) _) _) _
    | skip
  all_goals
    rintro e w1 ⟨rfl, hw1⟩
    have HW1 := Lib.hid hw1
    clear hw1
    go_wp2_with fail
    go_ret
    exact ⟨ret_bool (by have hv := HV.out; simp_all [GEvidence.valid] <;> omega), .trans (by first | exact .drewN (.alloc (.refl _) _) _ | exact .drewN (.drewN (.alloc (.refl _) _) _) _) HW1.out⟩

end Go.Proofs.YtmpepccpnnldoaaDoor

namespace Go.Proofs.YtmpepccpnnldoaaDoor
open Go.RowKit Go.Proofs

/-- A whole number as text. -/
def fmtI (n : Int) : ByteArray := ⟨(Lib.itoa n).toArray⟩
def fine (n : Int) : Prop := 0 ≤ n ∧ n ≤ 9223372036854775807
theorem fmtI_size {n : Int} (h : fine n) : (fmtI n).size ≤ 21 := by
  have := Lib.itoa_length_le n (by have := h.1; omega) h.2
  simpa [fmtI, ByteArray.size] using this
def sInst : ByteArray := ⟨#[105, 110, 115, 116, 32]⟩
def sDot : ByteArray := ⟨#[46]⟩
def sBound : ByteArray := ⟨#[98, 111, 117, 110, 100, 32]⟩
def sSuper : ByteArray := ⟨#[115, 117, 112, 101, 114, 32]⟩
def sDyn : ByteArray := ⟨#[100, 121, 110]⟩
def sAuto : ByteArray := ⟨#[97, 117, 116, 111]⟩
def sOpen : ByteArray := ⟨#[32, 40]⟩
def sShut : ByteArray := ⟨#[41]⟩
theorem bytesA (a b c : ByteArray) : (a ++ b) ++ c = a ++ (b ++ c) := ByteArray.append_assoc
theorem bytesE (a : ByteArray) : a ++ (⟨#[]⟩ : ByteArray) = a := ByteArray.append_empty
theorem bytesS (a b : ByteArray) : (a ++ b).size = a.size + b.size := ByteArray.size_append
/-- The text ahead of the arguments. -/
def evHead (k n p a : Int) : ByteArray := if k = 1 then sInst ++ fmtI p ++ sDot ++ fmtI a else if k = 2 then sBound ++ fmtI n else if k = 3 then sSuper ++ fmtI n else if k = 4 then sDyn else sAuto
mutual
def GEvidence.txt : GEvidence → ByteArray
  | .mk k n (.mk p a) xs => evHead k n p a ++ GEvidence.txts xs
def GEvidence.txts : List GEvidence → ByteArray
  | [] => ⟨#[]⟩
  | e :: r => (sOpen ++ GEvidence.txt e ++ sShut) ++ GEvidence.txts r
end
mutual
/-- The numbers that are written are of the kind 'g', and the kind is one of the five. -/
def GEvidence.okI (g : Int → Prop) : GEvidence → Prop
  | .mk k n (.mk p a) xs => (k = 1 ∧ g p ∧ g a ∨ (k = 2 ∨ k = 3) ∧ g n ∨ k = 4 ∨ k = 5) ∧ GEvidence.okIs g xs
def GEvidence.okIs (g : Int → Prop) : List GEvidence → Prop
  | [] => True
  | e :: r => GEvidence.okI g e ∧ GEvidence.okIs g r
end
theorem GEvidence.okIs_get {g : Int → Prop} : ∀ {l : List GEvidence}, GEvidence.okIs g l → ∀ x ∈ l, GEvidence.okI g x
  | a :: l, h, x, hx => by
    rcases List.mem_cons.1 hx with rfl | hx
    · exact h.1
    · exact GEvidence.okIs_get h.2 x hx
theorem GEvidence.okIs_of {g : Int → Prop} : ∀ {l : List GEvidence}, (∀ x ∈ l, GEvidence.okI g x) → GEvidence.okIs g l
  | [], _ => trivial
  | a :: l, h => ⟨h a (by simp), GEvidence.okIs_of fun x hx => h x (by simp [hx])⟩
theorem GEvidence.txts_step {l : List GEvidence} {k : Nat} (h : k < l.length) : GEvidence.txts (l.drop k) = (sOpen ++ GEvidence.txt l[k] ++ sShut) ++ GEvidence.txts (l.drop (k + 1)) := by
  rw [List.drop_eq_getElem_cons h, GEvidence.txts]
theorem evHead_size {g : Int → Prop} (hg : ∀ n, g n → fine n) {k n p a : Int} (h : k = 1 ∧ g p ∧ g a ∨ (k = 2 ∨ k = 3) ∧ g n ∨ k = 4 ∨ k = 5) : (evHead k n p a).size ≤ 48 := by
  have e1 : sInst.size = 5 := rfl
  have e2 : sDot.size = 1 := rfl
  have e3 : sBound.size = 6 := rfl
  have e4 : sSuper.size = 6 := rfl
  have e5 : sDyn.size = 3 := rfl
  have e6 : sAuto.size = 4 := rfl
  unfold evHead
  rcases h with ⟨rfl, h1, h2⟩ | ⟨rfl | rfl, h1⟩ | rfl | rfl
  · have := fmtI_size (hg _ h1)
    have := fmtI_size (hg _ h2)
    simp only [if_pos, bytesS]
    omega
  · have := fmtI_size (hg _ h1)
    simp only [bytesS, if_pos, show ¬ ((2 : Int) = 1) by decide, if_false]
    omega
  · have := fmtI_size (hg _ h1)
    simp only [bytesS, if_pos, show ¬ ((3 : Int) = 1) by decide, show ¬ ((3 : Int) = 2) by decide, if_false]
    omega
  · simp only [show ¬ ((4 : Int) = 1) by decide, show ¬ ((4 : Int) = 2) by decide, show ¬ ((4 : Int) = 3) by decide, if_false, if_pos]
    omega
  · simp only [show ¬ ((5 : Int) = 1) by decide, show ¬ ((5 : Int) = 2) by decide, show ¬ ((5 : Int) = 3) by decide, show ¬ ((5 : Int) = 4) by decide, if_false]
    omega
/-- A text is no longer than 51 bytes a node. -/
theorem GEvidence.txt_size {g : Int → Prop} (hg : ∀ n, g n → fine n) : ∀ e : GEvidence, GEvidence.okI g e → (GEvidence.txt e).size + 3 ≤ 51 * GEvidence.size e := by
  refine GEvidence.ind fun k n v2 xs ih => ?_
  obtain ⟨p, a⟩ := v2
  intro h
  have h1 := evHead_size hg h.1
  have h2 : ∀ l : List GEvidence, (∀ x ∈ l, GEvidence.okI g x → (GEvidence.txt x).size + 3 ≤ 51 * GEvidence.size x) → GEvidence.okIs g l → (GEvidence.txts l).size ≤ 51 * GEvidence.sizes l := by
    intro l
    induction l with
    | nil => intro _ _; exact Nat.zero_le _
    | cons a l ih =>
      intro hl ho
      have k1 := hl a (by simp) ho.1
      have k2 := ih (fun x hx => hl x (by simp [hx])) ho.2
      have e1 : sOpen.size = 2 := rfl
      have e2 : sShut.size = 1 := rfl
      simp only [GEvidence.txts, GEvidence.sizes, bytesS]
      omega
  have h3 := h2 xs ih h.2
  simp only [GEvidence.txt, GEvidence.size, bytesS]
  omega
theorem GEvidence.txts_size {g : Int → Prop} (hg : ∀ n, g n → fine n) : ∀ l : List GEvidence, GEvidence.okIs g l → (GEvidence.txts l).size ≤ 51 * GEvidence.sizes l
  | [], _ => Nat.zero_le _
  | a :: l, h => by
    have k1 := GEvidence.txt_size hg a h.1
    have k2 := GEvidence.txts_size hg l h.2
    have e1 : sOpen.size = 2 := rfl
    have e2 : sShut.size = 1 := rfl
    simp only [GEvidence.txts, GEvidence.sizes, bytesS]
    omega
/-- Valid evidence writes whole numbers that are not negative. -/
theorem GEvidence.okI_valid : ∀ (x : GEvidence) (cs : List Value) (w : World), RepL w x.tr cs → GEvidence.valid x = true → GEvidence.okI fine x := by
  refine GEvidence.ind fun v0 v1 v2 xs ih => ?_
  obtain ⟨p, t⟩ := v2
  intro cs w hr hv
  obtain ⟨x2, a, c, rfl, k0, k1, h2, h3⟩ := GEvidence.opened hr
  obtain ⟨rfl, k2, k3⟩ := GInstanceRef.opened h2
  simp only [GEvidence.valid, Bool.and_eq_true] at hv
  obtain ⟨hv, hvs⟩ := hv
  have hi : ∀ {v : Int}, LeafOk (.int .i64 v) → v ≤ 9223372036854775807 := by
    intro v hl
    have hm : IntKind.i64.max = 9223372036854775807 := by decide
    simp only [LeafOk, Lit.wf, Bool.and_eq_true, decide_eq_true_eq] at hl
    omega
  have i1 := hi k1
  have i2 := hi k2
  have i3 := hi k3
  refine ⟨?_, GEvidence.okIs_of fun x hx => ?_⟩
  · split at hv
    · rename_i e
      simp only [Bool.and_eq_true, decide_eq_true_eq] at hv
      exact .inl ⟨e, ⟨hv.1.1.2, i2⟩, hv.1.2, i3⟩
    · split at hv
      · rename_i e
        simp only [Bool.and_eq_true, decide_eq_true_eq] at hv
        exact .inr (.inl ⟨.inl e, hv.1.1.1, i1⟩)
      · split at hv
        · rename_i e
          simp only [Bool.and_eq_true, decide_eq_true_eq] at hv
          exact .inr (.inl ⟨.inr e, hv.1.1.1, i1⟩)
        · split at hv
          · rename_i e
            exact .inr (.inr e)
          · simp at hv
  · obtain ⟨i, hi, rfl⟩ := List.getElem_of_mem hx
    obtain ⟨_, _, _, cs, _, _, hc, _⟩ := h3.at (GEvidence.trs_get hi)
    refine ih _ (List.getElem_mem hi) cs w hc ?_
    rw [GEvidence.valids_any] at hvs
    simp only [Bool.not_eq_true', List.any_eq_false, Bool.not_eq_true] at hvs
    simpa using hvs _ (List.getElem_mem hi)
end Go.Proofs.YtmpepccpnnldoaaDoor

namespace Go.Proofs.YtmpepccpnnldoaaDoor
open Go.RowKit Go.Proofs

/-- A number's text: what holds of the function f, in worlds of the kind I, at numbers of the kind g. -/
structure NumT (f : FuncId) (g : Int → Prop) (I : World → Prop) : Prop where
  fine : ∀ n, g n → fine n
  ext : ∀ w w', Ext w w' → I w → I w'
  call : ∀ n, g n → ∀ w, I w → Calls Tryd.prog f #[.int .i64 n] w fun e w' => e = .returned (.string (fmtI n)) ∧ Ext w w'

theorem exec_cat {P : Program} {ev : Operand → Value} {o : Oper} {T yT : TypeId} {x y : Operand} {a b : ByteArray} (ho : o.op = .binOp .add T x y yT) (hx : ev x = .string a) (hy : ev y = .string b) (hb : a.size + b.size ≤ 9223372036854775807) (w : World) : (execOp ev o).run P w = .ok (.value (.string (a ++ b))) w := by
  have h2 : ¬ ((a.size : Int) + (b.size : Int) > 9223372036854775807) := by omega
  have h3 : IntKind.max .i64 = 9223372036854775807 := by decide
  unfold execOp
  simp only [ho]
  simp only [hx, hy]
  simp [eqGuard, binOp, Op.stringOp, h3]
  omega
theorem addrA (b : Nat) : (⟨b, 2, none⟩ : Addr).add 1 = ⟨b, 3, none⟩ := rfl
theorem addrB (b : Nat) : (⟨b, 2, none⟩ : Addr).add 0 = ⟨b, 2, none⟩ := rfl
theorem addrC (b : Nat) : (⟨b, 0, none⟩ : Addr).add 2 = ⟨b, 2, none⟩ := rfl
def TxC (f : FuncId) (g : Int → Prop) (I : World → Prop) (x : GEvidence) : Prop := ∀ (cs : List Value) (w : World), I w → RepL w x.tr cs → GEvidence.okI g x → GEvidence.size x ≤ 1099511627776 →
  Calls Tryd.prog f #[.agg ⟨cs⟩] w fun e w' => e = .returned (.string (GEvidence.txt x)) ∧ Ext w w'

set_option maxRecDepth 100000 in
set_option maxHeartbeats 4000000 in
theorem writeEvidence_impl {g : Int → Prop} {I : World → Prop} (hF : NumT 37 g I) : ∀ x : GEvidence, TxC 24 g I x := by
  refine GEvidence.ind fun v0 v1 v2 xs ih => ?_
  obtain ⟨p, t⟩ := v2
  intro cs w hI hr hok hsz
  obtain ⟨x2, a, c, rfl, -, -, h2, h3⟩ := GEvidence.opened hr
  obtain ⟨rfl, -, -⟩ := GInstanceRef.opened h2
  obtain ⟨hl, hm, -⟩ := h3.lens
  have HS := Lib.hid h3
  have IH := Lib.hid ih
  have HII := Lib.hid hI
  have HOKS := Lib.hid (GEvidence.okIs_get hok.2)
  have hh := hok.1
  have HT : Hid (GEvidence.txt (.mk v0 v1 (.mk p t) xs) = evHead v0 v1 p t ++ GEvidence.txts xs) := rfl
  have HEZ := Lib.hid (evHead_size hF.fine hh)
  have HTZ := Lib.hid (GEvidence.txts_size hF.fine xs hok.2)
  simp only [GEvidence.size] at hsz
  have HTS : Hid ((GEvidence.txt (.mk v0 v1 (.mk p t) xs)).size ≤ 100 + 51 * 1099511627776) := by have h1 := HEZ.out; have h2 := HTZ.out; show _ ≤ _; rw [HT.out, bytesS]; omega
  generalize GEvidence.txt (.mk v0 v1 (.mk p t) xs) = tx at *
  clear hr h2 h3 ih hI hok
  simp only [List.cons_append, List.nil_append]
  have HB := Lib.hid (fun W (hW : Ext (w.alloc (.cells #[.int .i64 v0, .int .i64 v1, .int .i64 p, .int .i64 t, .slice a xs.length c] 32)) W) => (OB.new w 32 #[.int .i64 v0, .int .i64 v1, .int .i64 p, .int .i64 t, .slice a xs.length c]).ext hW)
  rcases hh with ⟨rfl, hp, ha⟩ | ⟨rfl | rfl, hn⟩ | rfl | rfl
  · have HP := Lib.hid (fmtI_size (hF.fine p hp))
    have HA := Lib.hid (fmtI_size (hF.fine t ha))
    have S1 : Hid ((⟨#[105, 110, 115, 116, 32]⟩ : ByteArray).size + (fmtI p).size ≤ 26) := by have := HP.out; show 5 + _ ≤ _; omega
    have S2 : Hid ((⟨#[105, 110, 115, 116, 32]⟩ ++ fmtI p).size + (⟨#[46]⟩ : ByteArray).size ≤ 27) := by have := S1.out; show _ + 1 ≤ _; rw [bytesS]; omega
    have S3 : Hid ((⟨#[105, 110, 115, 116, 32]⟩ ++ fmtI p ++ ⟨#[46]⟩).size + (fmtI t).size ≤ 48) := by have := S2.out; have := HA.out; show _ ≤ _; rw [bytesS]; omega
    go_enter Tryd.func24, Tryd.ntmps24
    go_wp2_with fail
    refine wp_region_held_drew (S := Ext (w.alloc (.cells #[.int .i64 1, .int .i64 v1, .int .i64 p, .int .i64 t, .slice a xs.length c] 32))) (by kernel_rfl) ?_ (fun hHeld => ?_)
    · exact .drew (.refl _)
    refine wpAnyH_take (i := 0) rfl (by kernel_rfl) (by kernel_rfl) (by kernel_rfl) (fun _ _ _ h => h) (.inl ⟨rfl, fun _ _ => rfl⟩) (by assumption) ?_
    simp only [Act.put, List.getElem_toArray, List.getElem_cons_zero, List.setIfInBounds_toArray, List.set_cons_zero, List.set_cons_succ]
    refine wpAnyH_take (i := 1) rfl (by kernel_rfl) (by kernel_rfl) (by kernel_rfl) (fun _ _ _ h => h) (.inl ⟨rfl, fun _ _ => rfl⟩) (by assumption) ?_
    simp only [Act.put, List.getElem_toArray, List.getElem_cons_zero, List.getElem_cons_succ, List.setIfInBounds_toArray, List.set_cons_zero, List.set_cons_succ]
    refine wpAnyH_cell (i := 2) rfl (by kernel_rfl) (by kernel_rfl) (by kernel_rfl) rfl 3 (.tmp 11) rfl (w.heap.size) (2) rfl (.int .i64 p) _ Tryd.underlying3 rfl (fun W hW => (HB.out W hW).cell 2) (by assumption) (fun _ _ _ _ h => h) ?_
    simp only [Act.put, List.getElem_toArray, List.getElem_cons_zero, List.getElem_cons_succ, List.setIfInBounds_toArray, List.set_cons_zero, List.set_cons_succ]
    refine wpAnyH_take (i := 6) rfl (by kernel_rfl) (by kernel_rfl) (by kernel_rfl) (fun _ _ _ h => h) (.inl ⟨rfl, fun _ _ => rfl⟩) (by assumption) ?_
    simp only [Act.put, List.getElem_toArray, List.getElem_cons_zero, List.getElem_cons_succ, List.setIfInBounds_toArray, List.set_cons_zero, List.set_cons_succ]
    refine wpAnyH_take (i := 7) rfl (by kernel_rfl) (by kernel_rfl) (by kernel_rfl) (fun _ _ _ h => h) (.inl ⟨rfl, fun _ _ => rfl⟩) (by assumption) ?_
    simp only [Act.put, List.getElem_toArray, List.getElem_cons_zero, List.getElem_cons_succ, List.setIfInBounds_toArray, List.set_cons_zero, List.set_cons_succ]
    refine wpAnyH_cell (i := 8) rfl (by kernel_rfl) (by kernel_rfl) (by kernel_rfl) rfl 3 (.tmp 17) rfl (w.heap.size) (3) rfl (.int .i64 t) _ Tryd.underlying3 rfl (fun W hW => (HB.out W hW).cell 3) (by assumption) (fun _ _ _ _ h => h) ?_
    simp only [Act.put, List.getElem_toArray, List.getElem_cons_zero, List.getElem_cons_succ, List.setIfInBounds_toArray, List.set_cons_zero, List.set_cons_succ]
    refine wpAnyH_call (i := 3) (by kernel_rfl) rfl rfl (run_call_func rfl rfl #[.int .i64 p] (by simp only [List.map_toArray, List.map_cons, List.map_nil, Act.eval]; rfl) Tryd.func37 (by kernel_rfl) (by kernel_rfl) _) (hF.call p hp _ (hF.ext _ _ (Ext.trans (.alloc (.refl _) _) hHeld) HII.out)) ?_; rintro e w1 ⟨rfl, hw1⟩
    have hs1 := Ext.trans hHeld hw1
    refine ⟨_, rfl, hs1, ?_⟩
    simp only [Act.put, List.getElem_toArray, List.getElem_cons_zero, List.getElem_cons_succ, List.setIfInBounds_toArray, List.set_cons_zero, List.set_cons_succ]
    refine wpAnyH_take (i := 4) rfl (by kernel_rfl) (by kernel_rfl) (by kernel_rfl) (fun _ _ _ h => h) (.inl ⟨rfl, fun _ _ => exec_cat rfl rfl rfl (Nat.le_trans S1.out (by decide)) _⟩) (by assumption) ?_
    simp only [Act.put, List.getElem_toArray, List.getElem_cons_zero, List.getElem_cons_succ, List.setIfInBounds_toArray, List.set_cons_zero, List.set_cons_succ]
    refine wpAnyH_take (i := 5) rfl (by kernel_rfl) (by kernel_rfl) (by kernel_rfl) (fun _ _ _ h => h) (.inl ⟨rfl, fun _ _ => exec_cat rfl rfl rfl (Nat.le_trans S2.out (by decide)) _⟩) (by assumption) ?_
    simp only [Act.put, List.getElem_toArray, List.getElem_cons_zero, List.getElem_cons_succ, List.setIfInBounds_toArray, List.set_cons_zero, List.set_cons_succ]
    refine wpAnyH_call (i := 9) (by kernel_rfl) rfl rfl (run_call_func rfl rfl #[.int .i64 t] (by simp only [List.map_toArray, List.map_cons, List.map_nil, Act.eval]; rfl) Tryd.func37 (by kernel_rfl) (by kernel_rfl) _) (hF.call t ha _ (hF.ext _ _ (Ext.trans (.alloc (.refl _) _) hs1) HII.out)) ?_; rintro e w2 ⟨rfl, hw2⟩
    have hs2 := Ext.trans hs1 hw2
    refine ⟨_, rfl, hs2, ?_⟩
    simp only [Act.put, List.getElem_toArray, List.getElem_cons_zero, List.getElem_cons_succ, List.setIfInBounds_toArray, List.set_cons_zero, List.set_cons_succ]
    refine wpAnyH_take (i := 10) rfl (by kernel_rfl) (by kernel_rfl) (by kernel_rfl) (fun _ _ _ h => h) (.inl ⟨rfl, fun _ _ => exec_cat rfl rfl rfl (Nat.le_trans S3.out (by decide)) _⟩) (by assumption) ?_
    simp only [Act.put, List.getElem_toArray, List.getElem_cons_zero, List.getElem_cons_succ, List.setIfInBounds_toArray, List.set_cons_zero, List.set_cons_succ]
    refine wpAnyH_take (i := 11) rfl (by kernel_rfl) (by kernel_rfl) (by kernel_rfl) (fun _ _ _ h => h) (.inl ⟨rfl, fun _ _ => rfl⟩) (by assumption) ?_
    simp only [Act.put, List.getElem_toArray, List.getElem_cons_zero, List.getElem_cons_succ, List.setIfInBounds_toArray, List.set_cons_zero, List.set_cons_succ]
    refine wpAnyH_done (by kernel_rfl) ?_ _
    clear hHeld hs1
    simp only [addrA, addrB, addrC]
    have hce := (HB.out _ hs2).cell
    have HXX : Hid (Ext w w2) := Ext.trans (.alloc (.refl _) _) hs2
    go_wp2_with fail
    go_loopw [3, 40] (fun o i wr => ∃ (k : Nat) (s : ByteArray), k ≤ xs.length ∧ i = .int .i64 k ∧ o = .string s ∧ Ext w wr ∧ Hid (s ++ GEvidence.txts (xs.drop k) = tx)) (fun _ i _ => xs.length - (intOf i).toNat)
    case atStart => exact ⟨0, _, Nat.zero_le _, rfl, rfl, HXX.out, by rw [List.drop_zero]; exact HT.out.symm⟩
    case round =>
      obtain ⟨k, s, hk, rfl, rfl, hw, HE⟩ := hrel
      by_cases hlt : k < xs.length
      · obtain ⟨b, off, cs, rfl, hb, hcs, hc⟩ := (HS.out.ext hw).at2 (k := k) (GEvidence.trs_get hlt)
        have HM := Lib.hid (List.getElem_mem hlt)
        have HCS := Lib.hid hcs
        have HC := Lib.hid hc
        have HI : Hid ((Tryd.prog.info? 32).map (·.size) = some cs.length) := by rw [← hcs.length, GEvidence.tr_len]; exact isz32
        have HCL : Hid (cs.length = 5) := by rw [← hcs.length, GEvidence.tr_len]; rfl
        clear hcs hc
        have HST := Lib.hid (GEvidence.txts_step hlt)
        have HSZ : Hid (GEvidence.size xs[k] ≤ 1099511627776) := by have h1 := GEvidence.sizes_step hlt; have h2 := GEvidence.sizes_drop xs k; show _ ≤ _; omega
        have HZ : Hid (s.size + (2 + (GEvidence.txt xs[k]).size + 1) ≤ 9223372036854775807) := by
          have h1 := congrArg ByteArray.size HE.out
          rw [HST.out] at h1
          simp only [bytesS] at h1
          have h2 : sOpen.size = 2 := rfl
          have h3 : sShut.size = 1 := rfl
          have h4 := HTS.out
          show _ ≤ _
          omega
        go_wp2_with (first
          | (refine wpList_load_rep rfl 32 (.tmp 42) rfl b (off + k * 5) rfl cs _ Tryd.underlying32 HI.out HC.out ?_)
          | (refine wpList_store_rep rfl 32 (.tmp 5) (.tmp 43) rfl wr.heap.size 0 rfl cs rfl 32 _ (OB.new wr _ _) HI.out (by rw [HCL.out]; exact Nat.le_refl _) HCS.out.one ?_; intro wb hob hgb hzb; rw [splice_whole (by rw [HCL.out]; rfl)] at hob; have HOB := Lib.hid hob; have HXB := Lib.hid (grown_ext (.alloc (.refl wr) _) hgb (Nat.le_refl _)); clear hob hgb hzb)
          | (refine wpList_load_rep rfl 32 (.tmp 5) rfl wr.heap.size 0 rfl cs _ Tryd.underlying32 HI.out HOB.out.cells0 ?_))
        refine (IH.out _ HM.out _ _ (hF.ext _ _ (hw.trans HXB.out) HII.out) (HCS.out.ext HXB.out) (HOKS.out _ HM.out) HSZ.out).mono ?_; rintro e w1 ⟨rfl, hw1⟩
        have HW1 := Lib.hid (hw.trans (HXB.out.trans hw1))
        clear hw1
        generalize GEvidence.txt xs[k] = z at *
        go_wp2_with fail
        any_goals (exfalso; have := HZ.out; omega)
        go_roundw
        case rel => exact ⟨k + 1, _, by omega, by go_num, rfl, HW1.out, by have h1 := HE.out; rw [HST.out] at h1; show _ = _; rw [← h1]; simp only [bytesA]; rfl⟩
        case measure => simp [intOf]; omega
      · have hkl : k = xs.length := by omega
        go_wp2_with fail
        go_ret
        have := HE.out
        rw [hkl, List.drop_length, GEvidence.txts, bytesE] at this
        exact ⟨by rw [this]; rfl, hw⟩
  · have HN := Lib.hid (fmtI_size (hF.fine v1 hn))
    have S1 : Hid ((⟨#[98, 111, 117, 110, 100, 32]⟩ : ByteArray).size + (fmtI v1).size ≤ 27) := by have := HN.out; show 6 + _ ≤ _; omega
    go_enter Tryd.func24, Tryd.ntmps24
    go_wp2_with fail
    refine (hF.call v1 hn _ (hF.ext _ _ (.alloc (.refl _) _) HII.out)).mono ?_; rintro e w1 ⟨rfl, hw1⟩
    have hce := (HB.out _ hw1).cell
    have HXX : Hid (Ext w w1) := Ext.trans (.alloc (.refl _) _) hw1
    go_wp2_with fail
    any_goals (exfalso; have h1 := S1.out; have h2 : (⟨#[98, 111, 117, 110, 100, 32]⟩ : ByteArray).size = 6 := rfl; omega)
    go_loopw [3, 40] (fun o i wr => ∃ (k : Nat) (s : ByteArray), k ≤ xs.length ∧ i = .int .i64 k ∧ o = .string s ∧ Ext w wr ∧ Hid (s ++ GEvidence.txts (xs.drop k) = tx)) (fun _ i _ => xs.length - (intOf i).toNat)
    case atStart => exact ⟨0, _, Nat.zero_le _, rfl, rfl, HXX.out, by rw [List.drop_zero]; exact HT.out.symm⟩
    case round =>
      obtain ⟨k, s, hk, rfl, rfl, hw, HE⟩ := hrel
      by_cases hlt : k < xs.length
      · obtain ⟨b, off, cs, rfl, hb, hcs, hc⟩ := (HS.out.ext hw).at2 (k := k) (GEvidence.trs_get hlt)
        have HM := Lib.hid (List.getElem_mem hlt)
        have HCS := Lib.hid hcs
        have HC := Lib.hid hc
        have HI : Hid ((Tryd.prog.info? 32).map (·.size) = some cs.length) := by rw [← hcs.length, GEvidence.tr_len]; exact isz32
        have HCL : Hid (cs.length = 5) := by rw [← hcs.length, GEvidence.tr_len]; rfl
        clear hcs hc
        have HST := Lib.hid (GEvidence.txts_step hlt)
        have HSZ : Hid (GEvidence.size xs[k] ≤ 1099511627776) := by have h1 := GEvidence.sizes_step hlt; have h2 := GEvidence.sizes_drop xs k; show _ ≤ _; omega
        have HZ : Hid (s.size + (2 + (GEvidence.txt xs[k]).size + 1) ≤ 9223372036854775807) := by
          have h1 := congrArg ByteArray.size HE.out
          rw [HST.out] at h1
          simp only [bytesS] at h1
          have h2 : sOpen.size = 2 := rfl
          have h3 : sShut.size = 1 := rfl
          have h4 := HTS.out
          show _ ≤ _
          omega
        go_wp2_with (first
          | (refine wpList_load_rep rfl 32 (.tmp 42) rfl b (off + k * 5) rfl cs _ Tryd.underlying32 HI.out HC.out ?_)
          | (refine wpList_store_rep rfl 32 (.tmp 5) (.tmp 43) rfl wr.heap.size 0 rfl cs rfl 32 _ (OB.new wr _ _) HI.out (by rw [HCL.out]; exact Nat.le_refl _) HCS.out.one ?_; intro wb hob hgb hzb; rw [splice_whole (by rw [HCL.out]; rfl)] at hob; have HOB := Lib.hid hob; have HXB := Lib.hid (grown_ext (.alloc (.refl wr) _) hgb (Nat.le_refl _)); clear hob hgb hzb)
          | (refine wpList_load_rep rfl 32 (.tmp 5) rfl wr.heap.size 0 rfl cs _ Tryd.underlying32 HI.out HOB.out.cells0 ?_))
        refine (IH.out _ HM.out _ _ (hF.ext _ _ (hw.trans HXB.out) HII.out) (HCS.out.ext HXB.out) (HOKS.out _ HM.out) HSZ.out).mono ?_; rintro e w1 ⟨rfl, hw1⟩
        have HW1 := Lib.hid (hw.trans (HXB.out.trans hw1))
        clear hw1
        generalize GEvidence.txt xs[k] = z at *
        go_wp2_with fail
        any_goals (exfalso; have := HZ.out; omega)
        go_roundw
        case rel => exact ⟨k + 1, _, by omega, by go_num, rfl, HW1.out, by have h1 := HE.out; rw [HST.out] at h1; show _ = _; rw [← h1]; simp only [bytesA]; rfl⟩
        case measure => simp [intOf]; omega
      · have hkl : k = xs.length := by omega
        go_wp2_with fail
        go_ret
        have := HE.out
        rw [hkl, List.drop_length, GEvidence.txts, bytesE] at this
        exact ⟨by rw [this]; rfl, hw⟩
  · have HN := Lib.hid (fmtI_size (hF.fine v1 hn))
    have S1 : Hid ((⟨#[115, 117, 112, 101, 114, 32]⟩ : ByteArray).size + (fmtI v1).size ≤ 27) := by have := HN.out; show 6 + _ ≤ _; omega
    go_enter Tryd.func24, Tryd.ntmps24
    go_wp2_with fail
    refine (hF.call v1 hn _ (hF.ext _ _ (.alloc (.refl _) _) HII.out)).mono ?_; rintro e w1 ⟨rfl, hw1⟩
    have hce := (HB.out _ hw1).cell
    have HXX : Hid (Ext w w1) := Ext.trans (.alloc (.refl _) _) hw1
    go_wp2_with fail
    any_goals (exfalso; have h1 := S1.out; have h2 : (⟨#[115, 117, 112, 101, 114, 32]⟩ : ByteArray).size = 6 := rfl; omega)
    go_loopw [3, 40] (fun o i wr => ∃ (k : Nat) (s : ByteArray), k ≤ xs.length ∧ i = .int .i64 k ∧ o = .string s ∧ Ext w wr ∧ Hid (s ++ GEvidence.txts (xs.drop k) = tx)) (fun _ i _ => xs.length - (intOf i).toNat)
    case atStart => exact ⟨0, _, Nat.zero_le _, rfl, rfl, HXX.out, by rw [List.drop_zero]; exact HT.out.symm⟩
    case round =>
      obtain ⟨k, s, hk, rfl, rfl, hw, HE⟩ := hrel
      by_cases hlt : k < xs.length
      · obtain ⟨b, off, cs, rfl, hb, hcs, hc⟩ := (HS.out.ext hw).at2 (k := k) (GEvidence.trs_get hlt)
        have HM := Lib.hid (List.getElem_mem hlt)
        have HCS := Lib.hid hcs
        have HC := Lib.hid hc
        have HI : Hid ((Tryd.prog.info? 32).map (·.size) = some cs.length) := by rw [← hcs.length, GEvidence.tr_len]; exact isz32
        have HCL : Hid (cs.length = 5) := by rw [← hcs.length, GEvidence.tr_len]; rfl
        clear hcs hc
        have HST := Lib.hid (GEvidence.txts_step hlt)
        have HSZ : Hid (GEvidence.size xs[k] ≤ 1099511627776) := by have h1 := GEvidence.sizes_step hlt; have h2 := GEvidence.sizes_drop xs k; show _ ≤ _; omega
        have HZ : Hid (s.size + (2 + (GEvidence.txt xs[k]).size + 1) ≤ 9223372036854775807) := by
          have h1 := congrArg ByteArray.size HE.out
          rw [HST.out] at h1
          simp only [bytesS] at h1
          have h2 : sOpen.size = 2 := rfl
          have h3 : sShut.size = 1 := rfl
          have h4 := HTS.out
          show _ ≤ _
          omega
        go_wp2_with (first
          | (refine wpList_load_rep rfl 32 (.tmp 42) rfl b (off + k * 5) rfl cs _ Tryd.underlying32 HI.out HC.out ?_)
          | (refine wpList_store_rep rfl 32 (.tmp 5) (.tmp 43) rfl wr.heap.size 0 rfl cs rfl 32 _ (OB.new wr _ _) HI.out (by rw [HCL.out]; exact Nat.le_refl _) HCS.out.one ?_; intro wb hob hgb hzb; rw [splice_whole (by rw [HCL.out]; rfl)] at hob; have HOB := Lib.hid hob; have HXB := Lib.hid (grown_ext (.alloc (.refl wr) _) hgb (Nat.le_refl _)); clear hob hgb hzb)
          | (refine wpList_load_rep rfl 32 (.tmp 5) rfl wr.heap.size 0 rfl cs _ Tryd.underlying32 HI.out HOB.out.cells0 ?_))
        refine (IH.out _ HM.out _ _ (hF.ext _ _ (hw.trans HXB.out) HII.out) (HCS.out.ext HXB.out) (HOKS.out _ HM.out) HSZ.out).mono ?_; rintro e w1 ⟨rfl, hw1⟩
        have HW1 := Lib.hid (hw.trans (HXB.out.trans hw1))
        clear hw1
        generalize GEvidence.txt xs[k] = z at *
        go_wp2_with fail
        any_goals (exfalso; have := HZ.out; omega)
        go_roundw
        case rel => exact ⟨k + 1, _, by omega, by go_num, rfl, HW1.out, by have h1 := HE.out; rw [HST.out] at h1; show _ = _; rw [← h1]; simp only [bytesA]; rfl⟩
        case measure => simp [intOf]; omega
      · have hkl : k = xs.length := by omega
        go_wp2_with fail
        go_ret
        have := HE.out
        rw [hkl, List.drop_length, GEvidence.txts, bytesE] at this
        exact ⟨by rw [this]; rfl, hw⟩
  · go_enter Tryd.func24, Tryd.ntmps24
    go_wp2_with fail
    have HXX : Hid (Ext w (w.alloc (.cells #[.int .i64 4, .int .i64 v1, .int .i64 p, .int .i64 t, .slice a xs.length c] 32))) := .alloc (.refl _) _
    go_loopw [3, 40] (fun o i wr => ∃ (k : Nat) (s : ByteArray), k ≤ xs.length ∧ i = .int .i64 k ∧ o = .string s ∧ Ext w wr ∧ Hid (s ++ GEvidence.txts (xs.drop k) = tx)) (fun _ i _ => xs.length - (intOf i).toNat)
    case atStart => exact ⟨0, _, Nat.zero_le _, rfl, rfl, HXX.out, by rw [List.drop_zero]; exact HT.out.symm⟩
    case round =>
      obtain ⟨k, s, hk, rfl, rfl, hw, HE⟩ := hrel
      by_cases hlt : k < xs.length
      · obtain ⟨b, off, cs, rfl, hb, hcs, hc⟩ := (HS.out.ext hw).at2 (k := k) (GEvidence.trs_get hlt)
        have HM := Lib.hid (List.getElem_mem hlt)
        have HCS := Lib.hid hcs
        have HC := Lib.hid hc
        have HI : Hid ((Tryd.prog.info? 32).map (·.size) = some cs.length) := by rw [← hcs.length, GEvidence.tr_len]; exact isz32
        have HCL : Hid (cs.length = 5) := by rw [← hcs.length, GEvidence.tr_len]; rfl
        clear hcs hc
        have HST := Lib.hid (GEvidence.txts_step hlt)
        have HSZ : Hid (GEvidence.size xs[k] ≤ 1099511627776) := by have h1 := GEvidence.sizes_step hlt; have h2 := GEvidence.sizes_drop xs k; show _ ≤ _; omega
        have HZ : Hid (s.size + (2 + (GEvidence.txt xs[k]).size + 1) ≤ 9223372036854775807) := by
          have h1 := congrArg ByteArray.size HE.out
          rw [HST.out] at h1
          simp only [bytesS] at h1
          have h2 : sOpen.size = 2 := rfl
          have h3 : sShut.size = 1 := rfl
          have h4 := HTS.out
          show _ ≤ _
          omega
        go_wp2_with (first
          | (refine wpList_load_rep rfl 32 (.tmp 42) rfl b (off + k * 5) rfl cs _ Tryd.underlying32 HI.out HC.out ?_)
          | (refine wpList_store_rep rfl 32 (.tmp 5) (.tmp 43) rfl wr.heap.size 0 rfl cs rfl 32 _ (OB.new wr _ _) HI.out (by rw [HCL.out]; exact Nat.le_refl _) HCS.out.one ?_; intro wb hob hgb hzb; rw [splice_whole (by rw [HCL.out]; rfl)] at hob; have HOB := Lib.hid hob; have HXB := Lib.hid (grown_ext (.alloc (.refl wr) _) hgb (Nat.le_refl _)); clear hob hgb hzb)
          | (refine wpList_load_rep rfl 32 (.tmp 5) rfl wr.heap.size 0 rfl cs _ Tryd.underlying32 HI.out HOB.out.cells0 ?_))
        refine (IH.out _ HM.out _ _ (hF.ext _ _ (hw.trans HXB.out) HII.out) (HCS.out.ext HXB.out) (HOKS.out _ HM.out) HSZ.out).mono ?_; rintro e w1 ⟨rfl, hw1⟩
        have HW1 := Lib.hid (hw.trans (HXB.out.trans hw1))
        clear hw1
        generalize GEvidence.txt xs[k] = z at *
        go_wp2_with fail
        any_goals (exfalso; have := HZ.out; omega)
        go_roundw
        case rel => exact ⟨k + 1, _, by omega, by go_num, rfl, HW1.out, by have h1 := HE.out; rw [HST.out] at h1; show _ = _; rw [← h1]; simp only [bytesA]; rfl⟩
        case measure => simp [intOf]; omega
      · have hkl : k = xs.length := by omega
        go_wp2_with fail
        go_ret
        have := HE.out
        rw [hkl, List.drop_length, GEvidence.txts, bytesE] at this
        exact ⟨by rw [this]; rfl, hw⟩
  · go_enter Tryd.func24, Tryd.ntmps24
    go_wp2_with fail
    have HXX : Hid (Ext w (w.alloc (.cells #[.int .i64 5, .int .i64 v1, .int .i64 p, .int .i64 t, .slice a xs.length c] 32))) := .alloc (.refl _) _
    go_loopw [3, 40] (fun o i wr => ∃ (k : Nat) (s : ByteArray), k ≤ xs.length ∧ i = .int .i64 k ∧ o = .string s ∧ Ext w wr ∧ Hid (s ++ GEvidence.txts (xs.drop k) = tx)) (fun _ i _ => xs.length - (intOf i).toNat)
    case atStart => exact ⟨0, _, Nat.zero_le _, rfl, rfl, HXX.out, by rw [List.drop_zero]; exact HT.out.symm⟩
    case round =>
      obtain ⟨k, s, hk, rfl, rfl, hw, HE⟩ := hrel
      by_cases hlt : k < xs.length
      · obtain ⟨b, off, cs, rfl, hb, hcs, hc⟩ := (HS.out.ext hw).at2 (k := k) (GEvidence.trs_get hlt)
        have HM := Lib.hid (List.getElem_mem hlt)
        have HCS := Lib.hid hcs
        have HC := Lib.hid hc
        have HI : Hid ((Tryd.prog.info? 32).map (·.size) = some cs.length) := by rw [← hcs.length, GEvidence.tr_len]; exact isz32
        have HCL : Hid (cs.length = 5) := by rw [← hcs.length, GEvidence.tr_len]; rfl
        clear hcs hc
        have HST := Lib.hid (GEvidence.txts_step hlt)
        have HSZ : Hid (GEvidence.size xs[k] ≤ 1099511627776) := by have h1 := GEvidence.sizes_step hlt; have h2 := GEvidence.sizes_drop xs k; show _ ≤ _; omega
        have HZ : Hid (s.size + (2 + (GEvidence.txt xs[k]).size + 1) ≤ 9223372036854775807) := by
          have h1 := congrArg ByteArray.size HE.out
          rw [HST.out] at h1
          simp only [bytesS] at h1
          have h2 : sOpen.size = 2 := rfl
          have h3 : sShut.size = 1 := rfl
          have h4 := HTS.out
          show _ ≤ _
          omega
        go_wp2_with (first
          | (refine wpList_load_rep rfl 32 (.tmp 42) rfl b (off + k * 5) rfl cs _ Tryd.underlying32 HI.out HC.out ?_)
          | (refine wpList_store_rep rfl 32 (.tmp 5) (.tmp 43) rfl wr.heap.size 0 rfl cs rfl 32 _ (OB.new wr _ _) HI.out (by rw [HCL.out]; exact Nat.le_refl _) HCS.out.one ?_; intro wb hob hgb hzb; rw [splice_whole (by rw [HCL.out]; rfl)] at hob; have HOB := Lib.hid hob; have HXB := Lib.hid (grown_ext (.alloc (.refl wr) _) hgb (Nat.le_refl _)); clear hob hgb hzb)
          | (refine wpList_load_rep rfl 32 (.tmp 5) rfl wr.heap.size 0 rfl cs _ Tryd.underlying32 HI.out HOB.out.cells0 ?_))
        refine (IH.out _ HM.out _ _ (hF.ext _ _ (hw.trans HXB.out) HII.out) (HCS.out.ext HXB.out) (HOKS.out _ HM.out) HSZ.out).mono ?_; rintro e w1 ⟨rfl, hw1⟩
        have HW1 := Lib.hid (hw.trans (HXB.out.trans hw1))
        clear hw1
        generalize GEvidence.txt xs[k] = z at *
        go_wp2_with fail
        any_goals (exfalso; have := HZ.out; omega)
        go_roundw
        case rel => exact ⟨k + 1, _, by omega, by go_num, rfl, HW1.out, by have h1 := HE.out; rw [HST.out] at h1; show _ = _; rw [← h1]; simp only [bytesA]; rfl⟩
        case measure => simp [intOf]; omega
      · have hkl : k = xs.length := by omega
        go_wp2_with fail
        go_ret
        have := HE.out
        rw [hkl, List.drop_length, GEvidence.txts, bytesE] at this
        exact ⟨by rw [this]; rfl, hw⟩

set_option maxRecDepth 100000 in
set_option maxHeartbeats 4000000 in
theorem l24Text_spec {g : Int → Prop} {I : World → Prop} (hF : NumT 36 g I) : ∀ x : GEvidence, TxC 21 g I x := by
  refine GEvidence.ind fun v0 v1 v2 xs ih => ?_
  obtain ⟨p, t⟩ := v2
  intro cs w hI hr hok hsz
  obtain ⟨x2, a, c, rfl, -, -, h2, h3⟩ := GEvidence.opened hr
  obtain ⟨rfl, -, -⟩ := GInstanceRef.opened h2
  obtain ⟨hl, hm, -⟩ := h3.lens
  have HS := Lib.hid h3
  have IH := Lib.hid ih
  have HII := Lib.hid hI
  have HOKS := Lib.hid (GEvidence.okIs_get hok.2)
  have hh := hok.1
  have HT : Hid (GEvidence.txt (.mk v0 v1 (.mk p t) xs) = evHead v0 v1 p t ++ GEvidence.txts xs) := rfl
  have HEZ := Lib.hid (evHead_size hF.fine hh)
  have HTZ := Lib.hid (GEvidence.txts_size hF.fine xs hok.2)
  simp only [GEvidence.size] at hsz
  have HTS : Hid ((GEvidence.txt (.mk v0 v1 (.mk p t) xs)).size ≤ 100 + 51 * 1099511627776) := by have h1 := HEZ.out; have h2 := HTZ.out; show _ ≤ _; rw [HT.out, bytesS]; omega
  generalize GEvidence.txt (.mk v0 v1 (.mk p t) xs) = tx at *
  clear hr h2 h3 ih hI hok
  simp only [List.cons_append, List.nil_append]
  have HB := Lib.hid (fun W (hW : Ext (w.alloc (.cells #[.int .i64 v0, .int .i64 v1, .int .i64 p, .int .i64 t, .slice a xs.length c] 32)) W) => (OB.new w 32 #[.int .i64 v0, .int .i64 v1, .int .i64 p, .int .i64 t, .slice a xs.length c]).ext hW)
  rcases hh with ⟨rfl, hp, ha⟩ | ⟨rfl | rfl, hn⟩ | rfl | rfl
  · have HP := Lib.hid (fmtI_size (hF.fine p hp))
    have HA := Lib.hid (fmtI_size (hF.fine t ha))
    have S1 : Hid ((⟨#[105, 110, 115, 116, 32]⟩ : ByteArray).size + (fmtI p).size ≤ 26) := by have := HP.out; show 5 + _ ≤ _; omega
    have S2 : Hid ((⟨#[105, 110, 115, 116, 32]⟩ ++ fmtI p).size + (⟨#[46]⟩ : ByteArray).size ≤ 27) := by have := S1.out; show _ + 1 ≤ _; rw [bytesS]; omega
    have S3 : Hid ((⟨#[105, 110, 115, 116, 32]⟩ ++ fmtI p ++ ⟨#[46]⟩).size + (fmtI t).size ≤ 48) := by have := S2.out; have := HA.out; show _ ≤ _; rw [bytesS]; omega
    go_enter Tryd.func21, Tryd.ntmps21
    go_wp2_with fail
    refine wp_region_held_drew (S := Ext (w.alloc (.cells #[.int .i64 1, .int .i64 v1, .int .i64 p, .int .i64 t, .slice a xs.length c] 32))) (by kernel_rfl) ?_ (fun hHeld => ?_)
    · exact .drew (.refl _)
    refine wpAnyH_take (i := 0) rfl (by kernel_rfl) (by kernel_rfl) (by kernel_rfl) (fun _ _ _ h => h) (.inl ⟨rfl, fun _ _ => rfl⟩) (by assumption) ?_
    simp only [Act.put, List.getElem_toArray, List.getElem_cons_zero, List.setIfInBounds_toArray, List.set_cons_zero, List.set_cons_succ]
    refine wpAnyH_take (i := 1) rfl (by kernel_rfl) (by kernel_rfl) (by kernel_rfl) (fun _ _ _ h => h) (.inl ⟨rfl, fun _ _ => rfl⟩) (by assumption) ?_
    simp only [Act.put, List.getElem_toArray, List.getElem_cons_zero, List.getElem_cons_succ, List.setIfInBounds_toArray, List.set_cons_zero, List.set_cons_succ]
    refine wpAnyH_cell (i := 2) rfl (by kernel_rfl) (by kernel_rfl) (by kernel_rfl) rfl 3 (.tmp 10) rfl (w.heap.size) (2) rfl (.int .i64 p) _ Tryd.underlying3 rfl (fun W hW => (HB.out W hW).cell 2) (by assumption) (fun _ _ _ _ h => h) ?_
    simp only [Act.put, List.getElem_toArray, List.getElem_cons_zero, List.getElem_cons_succ, List.setIfInBounds_toArray, List.set_cons_zero, List.set_cons_succ]
    refine wpAnyH_take (i := 6) rfl (by kernel_rfl) (by kernel_rfl) (by kernel_rfl) (fun _ _ _ h => h) (.inl ⟨rfl, fun _ _ => rfl⟩) (by assumption) ?_
    simp only [Act.put, List.getElem_toArray, List.getElem_cons_zero, List.getElem_cons_succ, List.setIfInBounds_toArray, List.set_cons_zero, List.set_cons_succ]
    refine wpAnyH_take (i := 7) rfl (by kernel_rfl) (by kernel_rfl) (by kernel_rfl) (fun _ _ _ h => h) (.inl ⟨rfl, fun _ _ => rfl⟩) (by assumption) ?_
    simp only [Act.put, List.getElem_toArray, List.getElem_cons_zero, List.getElem_cons_succ, List.setIfInBounds_toArray, List.set_cons_zero, List.set_cons_succ]
    refine wpAnyH_cell (i := 8) rfl (by kernel_rfl) (by kernel_rfl) (by kernel_rfl) rfl 3 (.tmp 16) rfl (w.heap.size) (3) rfl (.int .i64 t) _ Tryd.underlying3 rfl (fun W hW => (HB.out W hW).cell 3) (by assumption) (fun _ _ _ _ h => h) ?_
    simp only [Act.put, List.getElem_toArray, List.getElem_cons_zero, List.getElem_cons_succ, List.setIfInBounds_toArray, List.set_cons_zero, List.set_cons_succ]
    refine wpAnyH_call (i := 3) (by kernel_rfl) rfl rfl (run_call_func rfl rfl #[.int .i64 p] (by simp only [List.map_toArray, List.map_cons, List.map_nil, Act.eval]; rfl) Tryd.func36 (by kernel_rfl) (by kernel_rfl) _) (hF.call p hp _ (hF.ext _ _ (Ext.trans (.alloc (.refl _) _) hHeld) HII.out)) ?_; rintro e w1 ⟨rfl, hw1⟩
    have hs1 := Ext.trans hHeld hw1
    refine ⟨_, rfl, hs1, ?_⟩
    simp only [Act.put, List.getElem_toArray, List.getElem_cons_zero, List.getElem_cons_succ, List.setIfInBounds_toArray, List.set_cons_zero, List.set_cons_succ]
    refine wpAnyH_take (i := 4) rfl (by kernel_rfl) (by kernel_rfl) (by kernel_rfl) (fun _ _ _ h => h) (.inl ⟨rfl, fun _ _ => exec_cat rfl rfl rfl (Nat.le_trans S1.out (by decide)) _⟩) (by assumption) ?_
    simp only [Act.put, List.getElem_toArray, List.getElem_cons_zero, List.getElem_cons_succ, List.setIfInBounds_toArray, List.set_cons_zero, List.set_cons_succ]
    refine wpAnyH_take (i := 5) rfl (by kernel_rfl) (by kernel_rfl) (by kernel_rfl) (fun _ _ _ h => h) (.inl ⟨rfl, fun _ _ => exec_cat rfl rfl rfl (Nat.le_trans S2.out (by decide)) _⟩) (by assumption) ?_
    simp only [Act.put, List.getElem_toArray, List.getElem_cons_zero, List.getElem_cons_succ, List.setIfInBounds_toArray, List.set_cons_zero, List.set_cons_succ]
    refine wpAnyH_call (i := 9) (by kernel_rfl) rfl rfl (run_call_func rfl rfl #[.int .i64 t] (by simp only [List.map_toArray, List.map_cons, List.map_nil, Act.eval]; rfl) Tryd.func36 (by kernel_rfl) (by kernel_rfl) _) (hF.call t ha _ (hF.ext _ _ (Ext.trans (.alloc (.refl _) _) hs1) HII.out)) ?_; rintro e w2 ⟨rfl, hw2⟩
    have hs2 := Ext.trans hs1 hw2
    refine ⟨_, rfl, hs2, ?_⟩
    simp only [Act.put, List.getElem_toArray, List.getElem_cons_zero, List.getElem_cons_succ, List.setIfInBounds_toArray, List.set_cons_zero, List.set_cons_succ]
    refine wpAnyH_take (i := 10) rfl (by kernel_rfl) (by kernel_rfl) (by kernel_rfl) (fun _ _ _ h => h) (.inl ⟨rfl, fun _ _ => exec_cat rfl rfl rfl (Nat.le_trans S3.out (by decide)) _⟩) (by assumption) ?_
    simp only [Act.put, List.getElem_toArray, List.getElem_cons_zero, List.getElem_cons_succ, List.setIfInBounds_toArray, List.set_cons_zero, List.set_cons_succ]
    refine wpAnyH_take (i := 11) rfl (by kernel_rfl) (by kernel_rfl) (by kernel_rfl) (fun _ _ _ h => h) (.inl ⟨rfl, fun _ _ => rfl⟩) (by assumption) ?_
    simp only [Act.put, List.getElem_toArray, List.getElem_cons_zero, List.getElem_cons_succ, List.setIfInBounds_toArray, List.set_cons_zero, List.set_cons_succ]
    refine wpAnyH_done (by kernel_rfl) ?_ _
    clear hHeld hs1
    simp only [addrA, addrB, addrC]
    have HXX := Lib.hid hs2
    go_wp2_with fail
    go_loopw [3, 4] (fun o i wr => ∃ (k : Nat) (s : ByteArray), k ≤ xs.length ∧ i = .int .i64 k ∧ o = .string s ∧ Ext (w.alloc (.cells #[.int .i64 1, .int .i64 v1, .int .i64 p, .int .i64 t, .slice a xs.length c] 32)) wr ∧ Hid (s ++ GEvidence.txts (xs.drop k) = tx)) (fun _ i _ => xs.length - (intOf i).toNat)
    case atStart => exact ⟨0, _, Nat.zero_le _, rfl, rfl, HXX.out, by rw [List.drop_zero]; exact HT.out.symm⟩
    case round =>
      obtain ⟨k, s, hk, rfl, rfl, hw, HE⟩ := hrel
      have hce := (HB.out _ hw).cell
      by_cases hlt : k < xs.length
      · have hwX := Ext.trans (Ext.alloc (.refl w) _) hw
        obtain ⟨b, off, cs, rfl, hb, hcs, hc⟩ := (HS.out.ext hwX).at2 (k := k) (GEvidence.trs_get hlt)
        have HM := Lib.hid (List.getElem_mem hlt)
        have HCS := Lib.hid hcs
        have HC := Lib.hid hc
        have HI : Hid ((Tryd.prog.info? 32).map (·.size) = some cs.length) := by rw [← hcs.length, GEvidence.tr_len]; exact isz32
        have HCL : Hid (cs.length = 5) := by rw [← hcs.length, GEvidence.tr_len]; rfl
        clear hcs hc
        have HST := Lib.hid (GEvidence.txts_step hlt)
        have HSZ : Hid (GEvidence.size xs[k] ≤ 1099511627776) := by have h1 := GEvidence.sizes_step hlt; have h2 := GEvidence.sizes_drop xs k; show _ ≤ _; omega
        have HZ : Hid (s.size + 2 + (GEvidence.txt xs[k]).size + 1 ≤ 9223372036854775807) := by
          have h1 := congrArg ByteArray.size HE.out
          rw [HST.out] at h1
          simp only [bytesS] at h1
          have h2 : sOpen.size = 2 := rfl
          have h3 : sShut.size = 1 := rfl
          have h4 := HTS.out
          show _ ≤ _
          omega
        go_wp2_with (refine wpList_load_rep rfl 32 (.tmp 46) rfl b (off + k * 5) rfl cs _ Tryd.underlying32 HI.out HC.out ?_)
        any_goals (exfalso; have := HZ.out; omega)
        refine (IH.out _ HM.out _ _ (hF.ext _ _ (Ext.trans (.alloc (.refl _) _) hw) HII.out) HCS.out (HOKS.out _ HM.out) HSZ.out).mono ?_; rintro e w1 ⟨rfl, hw1⟩
        have HW1 := Lib.hid (hw.trans hw1)
        clear hw1
        generalize GEvidence.txt xs[k] = z at *
        go_wp2_with fail
        any_goals (exfalso; have := HZ.out; omega)
        go_roundw
        case rel => exact ⟨k + 1, _, by omega, by go_num, rfl, HW1.out, by have h1 := HE.out; rw [HST.out] at h1; show _ = _; rw [← h1]; simp only [bytesA]; rfl⟩
        case measure => simp [intOf]; omega
      · have hkl : k = xs.length := by omega
        go_wp2_with fail
        go_ret
        have := HE.out
        rw [hkl, List.drop_length, GEvidence.txts, bytesE] at this
        exact ⟨by rw [this]; rfl, Ext.trans (.alloc (.refl _) _) hw⟩
  · have HN := Lib.hid (fmtI_size (hF.fine v1 hn))
    have S1 : Hid ((⟨#[98, 111, 117, 110, 100, 32]⟩ : ByteArray).size + (fmtI v1).size ≤ 27) := by have := HN.out; show 6 + _ ≤ _; omega
    go_enter Tryd.func21, Tryd.ntmps21
    go_wp2_with fail
    refine (hF.call v1 hn _ (hF.ext _ _ (.alloc (.refl _) _) HII.out)).mono ?_; rintro e w1 ⟨rfl, hw1⟩
    have HXX : Hid (Ext (w.alloc (.cells #[.int .i64 2, .int .i64 v1, .int .i64 p, .int .i64 t, .slice a xs.length c] 32)) w1) := hw1
    go_wp2_with fail
    any_goals (exfalso; have h1 := S1.out; have h2 : (⟨#[98, 111, 117, 110, 100, 32]⟩ : ByteArray).size = 6 := rfl; omega)
    go_loopw [3, 4] (fun o i wr => ∃ (k : Nat) (s : ByteArray), k ≤ xs.length ∧ i = .int .i64 k ∧ o = .string s ∧ Ext (w.alloc (.cells #[.int .i64 2, .int .i64 v1, .int .i64 p, .int .i64 t, .slice a xs.length c] 32)) wr ∧ Hid (s ++ GEvidence.txts (xs.drop k) = tx)) (fun _ i _ => xs.length - (intOf i).toNat)
    case atStart => exact ⟨0, _, Nat.zero_le _, rfl, rfl, HXX.out, by rw [List.drop_zero]; exact HT.out.symm⟩
    case round =>
      obtain ⟨k, s, hk, rfl, rfl, hw, HE⟩ := hrel
      have hce := (HB.out _ hw).cell
      by_cases hlt : k < xs.length
      · have hwX := Ext.trans (Ext.alloc (.refl w) _) hw
        obtain ⟨b, off, cs, rfl, hb, hcs, hc⟩ := (HS.out.ext hwX).at2 (k := k) (GEvidence.trs_get hlt)
        have HM := Lib.hid (List.getElem_mem hlt)
        have HCS := Lib.hid hcs
        have HC := Lib.hid hc
        have HI : Hid ((Tryd.prog.info? 32).map (·.size) = some cs.length) := by rw [← hcs.length, GEvidence.tr_len]; exact isz32
        have HCL : Hid (cs.length = 5) := by rw [← hcs.length, GEvidence.tr_len]; rfl
        clear hcs hc
        have HST := Lib.hid (GEvidence.txts_step hlt)
        have HSZ : Hid (GEvidence.size xs[k] ≤ 1099511627776) := by have h1 := GEvidence.sizes_step hlt; have h2 := GEvidence.sizes_drop xs k; show _ ≤ _; omega
        have HZ : Hid (s.size + 2 + (GEvidence.txt xs[k]).size + 1 ≤ 9223372036854775807) := by
          have h1 := congrArg ByteArray.size HE.out
          rw [HST.out] at h1
          simp only [bytesS] at h1
          have h2 : sOpen.size = 2 := rfl
          have h3 : sShut.size = 1 := rfl
          have h4 := HTS.out
          show _ ≤ _
          omega
        go_wp2_with (refine wpList_load_rep rfl 32 (.tmp 46) rfl b (off + k * 5) rfl cs _ Tryd.underlying32 HI.out HC.out ?_)
        any_goals (exfalso; have := HZ.out; omega)
        refine (IH.out _ HM.out _ _ (hF.ext _ _ (Ext.trans (.alloc (.refl _) _) hw) HII.out) HCS.out (HOKS.out _ HM.out) HSZ.out).mono ?_; rintro e w1 ⟨rfl, hw1⟩
        have HW1 := Lib.hid (hw.trans hw1)
        clear hw1
        generalize GEvidence.txt xs[k] = z at *
        go_wp2_with fail
        any_goals (exfalso; have := HZ.out; omega)
        go_roundw
        case rel => exact ⟨k + 1, _, by omega, by go_num, rfl, HW1.out, by have h1 := HE.out; rw [HST.out] at h1; show _ = _; rw [← h1]; simp only [bytesA]; rfl⟩
        case measure => simp [intOf]; omega
      · have hkl : k = xs.length := by omega
        go_wp2_with fail
        go_ret
        have := HE.out
        rw [hkl, List.drop_length, GEvidence.txts, bytesE] at this
        exact ⟨by rw [this]; rfl, Ext.trans (.alloc (.refl _) _) hw⟩
  · have HN := Lib.hid (fmtI_size (hF.fine v1 hn))
    have S1 : Hid ((⟨#[115, 117, 112, 101, 114, 32]⟩ : ByteArray).size + (fmtI v1).size ≤ 27) := by have := HN.out; show 6 + _ ≤ _; omega
    go_enter Tryd.func21, Tryd.ntmps21
    go_wp2_with fail
    refine (hF.call v1 hn _ (hF.ext _ _ (.alloc (.refl _) _) HII.out)).mono ?_; rintro e w1 ⟨rfl, hw1⟩
    have HXX : Hid (Ext (w.alloc (.cells #[.int .i64 3, .int .i64 v1, .int .i64 p, .int .i64 t, .slice a xs.length c] 32)) w1) := hw1
    go_wp2_with fail
    any_goals (exfalso; have h1 := S1.out; have h2 : (⟨#[115, 117, 112, 101, 114, 32]⟩ : ByteArray).size = 6 := rfl; omega)
    go_loopw [3, 4] (fun o i wr => ∃ (k : Nat) (s : ByteArray), k ≤ xs.length ∧ i = .int .i64 k ∧ o = .string s ∧ Ext (w.alloc (.cells #[.int .i64 3, .int .i64 v1, .int .i64 p, .int .i64 t, .slice a xs.length c] 32)) wr ∧ Hid (s ++ GEvidence.txts (xs.drop k) = tx)) (fun _ i _ => xs.length - (intOf i).toNat)
    case atStart => exact ⟨0, _, Nat.zero_le _, rfl, rfl, HXX.out, by rw [List.drop_zero]; exact HT.out.symm⟩
    case round =>
      obtain ⟨k, s, hk, rfl, rfl, hw, HE⟩ := hrel
      have hce := (HB.out _ hw).cell
      by_cases hlt : k < xs.length
      · have hwX := Ext.trans (Ext.alloc (.refl w) _) hw
        obtain ⟨b, off, cs, rfl, hb, hcs, hc⟩ := (HS.out.ext hwX).at2 (k := k) (GEvidence.trs_get hlt)
        have HM := Lib.hid (List.getElem_mem hlt)
        have HCS := Lib.hid hcs
        have HC := Lib.hid hc
        have HI : Hid ((Tryd.prog.info? 32).map (·.size) = some cs.length) := by rw [← hcs.length, GEvidence.tr_len]; exact isz32
        have HCL : Hid (cs.length = 5) := by rw [← hcs.length, GEvidence.tr_len]; rfl
        clear hcs hc
        have HST := Lib.hid (GEvidence.txts_step hlt)
        have HSZ : Hid (GEvidence.size xs[k] ≤ 1099511627776) := by have h1 := GEvidence.sizes_step hlt; have h2 := GEvidence.sizes_drop xs k; show _ ≤ _; omega
        have HZ : Hid (s.size + 2 + (GEvidence.txt xs[k]).size + 1 ≤ 9223372036854775807) := by
          have h1 := congrArg ByteArray.size HE.out
          rw [HST.out] at h1
          simp only [bytesS] at h1
          have h2 : sOpen.size = 2 := rfl
          have h3 : sShut.size = 1 := rfl
          have h4 := HTS.out
          show _ ≤ _
          omega
        go_wp2_with (refine wpList_load_rep rfl 32 (.tmp 46) rfl b (off + k * 5) rfl cs _ Tryd.underlying32 HI.out HC.out ?_)
        any_goals (exfalso; have := HZ.out; omega)
        refine (IH.out _ HM.out _ _ (hF.ext _ _ (Ext.trans (.alloc (.refl _) _) hw) HII.out) HCS.out (HOKS.out _ HM.out) HSZ.out).mono ?_; rintro e w1 ⟨rfl, hw1⟩
        have HW1 := Lib.hid (hw.trans hw1)
        clear hw1
        generalize GEvidence.txt xs[k] = z at *
        go_wp2_with fail
        any_goals (exfalso; have := HZ.out; omega)
        go_roundw
        case rel => exact ⟨k + 1, _, by omega, by go_num, rfl, HW1.out, by have h1 := HE.out; rw [HST.out] at h1; show _ = _; rw [← h1]; simp only [bytesA]; rfl⟩
        case measure => simp [intOf]; omega
      · have hkl : k = xs.length := by omega
        go_wp2_with fail
        go_ret
        have := HE.out
        rw [hkl, List.drop_length, GEvidence.txts, bytesE] at this
        exact ⟨by rw [this]; rfl, Ext.trans (.alloc (.refl _) _) hw⟩
  · go_enter Tryd.func21, Tryd.ntmps21
    go_wp2_with fail
    have HXX : Hid (Ext (w.alloc (.cells #[.int .i64 4, .int .i64 v1, .int .i64 p, .int .i64 t, .slice a xs.length c] 32)) (w.alloc (.cells #[.int .i64 4, .int .i64 v1, .int .i64 p, .int .i64 t, .slice a xs.length c] 32))) := .refl _
    go_loopw [3, 4] (fun o i wr => ∃ (k : Nat) (s : ByteArray), k ≤ xs.length ∧ i = .int .i64 k ∧ o = .string s ∧ Ext (w.alloc (.cells #[.int .i64 4, .int .i64 v1, .int .i64 p, .int .i64 t, .slice a xs.length c] 32)) wr ∧ Hid (s ++ GEvidence.txts (xs.drop k) = tx)) (fun _ i _ => xs.length - (intOf i).toNat)
    case atStart => exact ⟨0, _, Nat.zero_le _, rfl, rfl, HXX.out, by rw [List.drop_zero]; exact HT.out.symm⟩
    case round =>
      obtain ⟨k, s, hk, rfl, rfl, hw, HE⟩ := hrel
      have hce := (HB.out _ hw).cell
      by_cases hlt : k < xs.length
      · have hwX := Ext.trans (Ext.alloc (.refl w) _) hw
        obtain ⟨b, off, cs, rfl, hb, hcs, hc⟩ := (HS.out.ext hwX).at2 (k := k) (GEvidence.trs_get hlt)
        have HM := Lib.hid (List.getElem_mem hlt)
        have HCS := Lib.hid hcs
        have HC := Lib.hid hc
        have HI : Hid ((Tryd.prog.info? 32).map (·.size) = some cs.length) := by rw [← hcs.length, GEvidence.tr_len]; exact isz32
        have HCL : Hid (cs.length = 5) := by rw [← hcs.length, GEvidence.tr_len]; rfl
        clear hcs hc
        have HST := Lib.hid (GEvidence.txts_step hlt)
        have HSZ : Hid (GEvidence.size xs[k] ≤ 1099511627776) := by have h1 := GEvidence.sizes_step hlt; have h2 := GEvidence.sizes_drop xs k; show _ ≤ _; omega
        have HZ : Hid (s.size + 2 + (GEvidence.txt xs[k]).size + 1 ≤ 9223372036854775807) := by
          have h1 := congrArg ByteArray.size HE.out
          rw [HST.out] at h1
          simp only [bytesS] at h1
          have h2 : sOpen.size = 2 := rfl
          have h3 : sShut.size = 1 := rfl
          have h4 := HTS.out
          show _ ≤ _
          omega
        go_wp2_with (refine wpList_load_rep rfl 32 (.tmp 46) rfl b (off + k * 5) rfl cs _ Tryd.underlying32 HI.out HC.out ?_)
        any_goals (exfalso; have := HZ.out; omega)
        refine (IH.out _ HM.out _ _ (hF.ext _ _ (Ext.trans (.alloc (.refl _) _) hw) HII.out) HCS.out (HOKS.out _ HM.out) HSZ.out).mono ?_; rintro e w1 ⟨rfl, hw1⟩
        have HW1 := Lib.hid (hw.trans hw1)
        clear hw1
        generalize GEvidence.txt xs[k] = z at *
        go_wp2_with fail
        any_goals (exfalso; have := HZ.out; omega)
        go_roundw
        case rel => exact ⟨k + 1, _, by omega, by go_num, rfl, HW1.out, by have h1 := HE.out; rw [HST.out] at h1; show _ = _; rw [← h1]; simp only [bytesA]; rfl⟩
        case measure => simp [intOf]; omega
      · have hkl : k = xs.length := by omega
        go_wp2_with fail
        go_ret
        have := HE.out
        rw [hkl, List.drop_length, GEvidence.txts, bytesE] at this
        exact ⟨by rw [this]; rfl, Ext.trans (.alloc (.refl _) _) hw⟩
  · go_enter Tryd.func21, Tryd.ntmps21
    go_wp2_with fail
    have HXX : Hid (Ext (w.alloc (.cells #[.int .i64 5, .int .i64 v1, .int .i64 p, .int .i64 t, .slice a xs.length c] 32)) (w.alloc (.cells #[.int .i64 5, .int .i64 v1, .int .i64 p, .int .i64 t, .slice a xs.length c] 32))) := .refl _
    go_loopw [3, 4] (fun o i wr => ∃ (k : Nat) (s : ByteArray), k ≤ xs.length ∧ i = .int .i64 k ∧ o = .string s ∧ Ext (w.alloc (.cells #[.int .i64 5, .int .i64 v1, .int .i64 p, .int .i64 t, .slice a xs.length c] 32)) wr ∧ Hid (s ++ GEvidence.txts (xs.drop k) = tx)) (fun _ i _ => xs.length - (intOf i).toNat)
    case atStart => exact ⟨0, _, Nat.zero_le _, rfl, rfl, HXX.out, by rw [List.drop_zero]; exact HT.out.symm⟩
    case round =>
      obtain ⟨k, s, hk, rfl, rfl, hw, HE⟩ := hrel
      have hce := (HB.out _ hw).cell
      by_cases hlt : k < xs.length
      · have hwX := Ext.trans (Ext.alloc (.refl w) _) hw
        obtain ⟨b, off, cs, rfl, hb, hcs, hc⟩ := (HS.out.ext hwX).at2 (k := k) (GEvidence.trs_get hlt)
        have HM := Lib.hid (List.getElem_mem hlt)
        have HCS := Lib.hid hcs
        have HC := Lib.hid hc
        have HI : Hid ((Tryd.prog.info? 32).map (·.size) = some cs.length) := by rw [← hcs.length, GEvidence.tr_len]; exact isz32
        have HCL : Hid (cs.length = 5) := by rw [← hcs.length, GEvidence.tr_len]; rfl
        clear hcs hc
        have HST := Lib.hid (GEvidence.txts_step hlt)
        have HSZ : Hid (GEvidence.size xs[k] ≤ 1099511627776) := by have h1 := GEvidence.sizes_step hlt; have h2 := GEvidence.sizes_drop xs k; show _ ≤ _; omega
        have HZ : Hid (s.size + 2 + (GEvidence.txt xs[k]).size + 1 ≤ 9223372036854775807) := by
          have h1 := congrArg ByteArray.size HE.out
          rw [HST.out] at h1
          simp only [bytesS] at h1
          have h2 : sOpen.size = 2 := rfl
          have h3 : sShut.size = 1 := rfl
          have h4 := HTS.out
          show _ ≤ _
          omega
        go_wp2_with (refine wpList_load_rep rfl 32 (.tmp 46) rfl b (off + k * 5) rfl cs _ Tryd.underlying32 HI.out HC.out ?_)
        any_goals (exfalso; have := HZ.out; omega)
        refine (IH.out _ HM.out _ _ (hF.ext _ _ (Ext.trans (.alloc (.refl _) _) hw) HII.out) HCS.out (HOKS.out _ HM.out) HSZ.out).mono ?_; rintro e w1 ⟨rfl, hw1⟩
        have HW1 := Lib.hid (hw.trans hw1)
        clear hw1
        generalize GEvidence.txt xs[k] = z at *
        go_wp2_with fail
        any_goals (exfalso; have := HZ.out; omega)
        go_roundw
        case rel => exact ⟨k + 1, _, by omega, by go_num, rfl, HW1.out, by have h1 := HE.out; rw [HST.out] at h1; show _ = _; rw [← h1]; simp only [bytesA]; rfl⟩
        case measure => simp [intOf]; omega
      · have hkl : k = xs.length := by omega
        go_wp2_with fail
        go_ret
        have := HE.out
        rw [hkl, List.drop_length, GEvidence.txts, bytesE] at this
        exact ⟨by rw [this]; rfl, Ext.trans (.alloc (.refl _) _) hw⟩

end Go.Proofs.YtmpepccpnnldoaaDoor

namespace Go.Proofs.YtmpepccpnnldoaaDoor
open Go.RowKit Go.Proofs

def evFmt (x : GEvidence) : ByteArray := if GEvidence.valid x then GEvidence.txt x else ⟨#[]⟩

set_option maxHeartbeats 1000000 in
theorem formatEvidence_impl {g : Int → Prop} {I : World → Prop} (hF : NumT 37 g I) (x : GEvidence) (cs : List Value) (w : World) (hI : I w) (hr : RepL w x.tr cs) (hok : GEvidence.valid x = true → GEvidence.okI g x) (hsz : GEvidence.size x ≤ 1099511627776) :
    Calls Tryd.prog 8 #[.agg ⟨cs⟩] w fun e w' => e = .returned (.string (evFmt x)) ∧ Ext w w' := by
  have HR := Lib.hid hr
  have HI : Hid ((Tryd.prog.info? 32).map (·.size) = some cs.length) := by rw [← hr.length, GEvidence.tr_len]; exact isz32
  have HOK := Lib.hid hok
  have HII := Lib.hid hI
  clear hr hok hI
  go_enter Tryd.func8, Tryd.ntmps8
  go_wp2_with (refine wpList_load_rep rfl 32 (.tmp 1) rfl w.heap.size 0 rfl cs _ Tryd.underlying32 HI.out (OB.cells0 (OB.new w _ _)) ?_)
  refine (evidenceValid_impl x _ _ (HR.out.ext (.alloc (.refl _) _))).mono ?_; rintro e w1 ⟨rfl, hw1⟩
  have HOB := Lib.hid ((OB.new w 32 ⟨cs⟩).ext hw1)
  have HW1 := Lib.hid (Ext.trans (.alloc (.refl w) _) hw1)
  clear hw1
  cases hv : GEvidence.valid x
  · have HV := Lib.hid hv
    clear hv
    go_wp2_with fail
    go_ret
    exact ⟨by unfold evFmt; rw [HV.out]; rfl, HW1.out⟩
  · have HV := Lib.hid hv
    clear hv
    go_wp2_with (refine wpList_load_rep rfl 32 (.tmp 1) rfl w.heap.size 0 rfl cs _ Tryd.underlying32 HI.out HOB.out.cells0 ?_)
    refine (writeEvidence_impl hF x _ _ (hF.ext _ _ HW1.out HII.out) (HR.out.ext HW1.out) (HOK.out HV.out) hsz).mono ?_; rintro e w2 ⟨rfl, hw2⟩
    have HW2 := Lib.hid (HW1.out.trans hw2)
    clear hw2
    go_wp2_with fail
    go_ret
    exact ⟨by unfold evFmt; rw [HV.out]; rfl, HW2.out⟩

set_option maxHeartbeats 1000000 in
theorem formatEvidence_spec {g : Int → Prop} {I : World → Prop} (hF : NumT 36 g I) (x : GEvidence) (cs : List Value) (w : World) (hI : I w) (hr : RepL w x.tr cs) (hok : GEvidence.valid x = true → GEvidence.okI g x) (hsz : GEvidence.size x ≤ 1099511627776) :
    Calls Tryd.prog 6 #[.agg ⟨cs⟩] w fun e w' => e = .returned (.string (evFmt x)) ∧ Ext w w' := by
  have HR := Lib.hid hr
  have HI : Hid ((Tryd.prog.info? 32).map (·.size) = some cs.length) := by rw [← hr.length, GEvidence.tr_len]; exact isz32
  have HOK := Lib.hid hok
  have HII := Lib.hid hI
  clear hr hok hI
  go_enter Tryd.func6, Tryd.ntmps6
  go_wp2_with (refine wpList_load_rep rfl 32 (.tmp 1) rfl w.heap.size 0 rfl cs _ Tryd.underlying32 HI.out (OB.cells0 (OB.new w _ _)) ?_)
  refine (evidenceValid_spec x _ _ (HR.out.ext (.alloc (.refl _) _))).mono ?_; rintro e w1 ⟨rfl, hw1⟩
  have HOB := Lib.hid ((OB.new w 32 ⟨cs⟩).ext hw1)
  have HW1 := Lib.hid (Ext.trans (.alloc (.refl w) _) hw1)
  clear hw1
  cases hv : GEvidence.valid x
  · have HV := Lib.hid hv
    clear hv
    go_wp2_with fail
    go_ret
    exact ⟨by unfold evFmt; rw [HV.out]; rfl, HW1.out⟩
  · have HV := Lib.hid hv
    clear hv
    go_wp2_with (refine wpList_load_rep rfl 32 (.tmp 1) rfl w.heap.size 0 rfl cs _ Tryd.underlying32 HI.out HOB.out.cells0 ?_)
    refine (l24Text_spec hF x _ _ (hF.ext _ _ HW1.out HII.out) (HR.out.ext HW1.out) (HOK.out HV.out) hsz).mono ?_; rintro e w2 ⟨rfl, hw2⟩
    have HW2 := Lib.hid (HW1.out.trans hw2)
    clear hw2
    go_wp2_with fail
    go_ret
    exact ⟨by unfold evFmt; rw [HV.out]; rfl, HW2.out⟩
end Go.Proofs.YtmpepccpnnldoaaDoor

namespace Go.Proofs.YtmpepccpnnldoaaDoor
open Go.RowKit Go.Proofs Go.Shelf

def layI_ren : Go.Shelf.Ren := ⟨fun | 171 => 44 | 243 => 45 | 246 => 46 | 283 => 47 | 284 => 48 | 285 => 49 | 286 => 50 | 129 => 52 | 317 => 51 | 318 => 53 | 319 => 54 | 320 => 55 | 337 => 56 | 338 => 57 | n => n, fun | 3 => 3 | 9 => 9 | 2 => 2 | 4 => 4 | 171 => 66 | 0 => 0 | 53 => 67 | 37 => 36 | 5 => 5 | 173 => 70 | 212 => 74 | 51 => 75 | 20 => 20 | 213 => 76 | 46 => 64 | 232 => 80 | 233 => 81 | n => n, fun | 17 => 0 | 18 => 1 | 19 => 2 | n => n⟩
theorem layI : Go.Proofs.LaysM.n171 Tryd.prog layI_ren := {
  mixed := by kernel_rfl
  f129 := Tryd.func52.trans (congrArg some (by kernel_rfl))
  f171 := Tryd.func44.trans (congrArg some (by kernel_rfl))
  f243 := Tryd.func45.trans (congrArg some (by kernel_rfl))
  f246 := Tryd.func46.trans (congrArg some (by kernel_rfl))
  f283 := Tryd.func47.trans (congrArg some (by kernel_rfl))
  f284 := Tryd.func48.trans (congrArg some (by kernel_rfl))
  f285 := Tryd.func49.trans (congrArg some (by kernel_rfl))
  f286 := Tryd.func50.trans (congrArg some (by kernel_rfl))
  f317 := Tryd.func51.trans (congrArg some (by kernel_rfl))
  f318 := Tryd.func53.trans (congrArg some (by kernel_rfl))
  f319 := Tryd.func54.trans (congrArg some (by kernel_rfl))
  f320 := Tryd.func55.trans (congrArg some (by kernel_rfl))
  f337 := Tryd.func56.trans (congrArg some (by kernel_rfl))
  f338 := Tryd.func57.trans (congrArg some (by kernel_rfl))
  t0 := Tryd.underlying0
  a0 := Tryd.isAgg0
  z0 := Tryd.sizeOf0
  v0 := Tryd.zeroValue0
  t2 := Tryd.underlying2
  a2 := Tryd.isAgg2
  z2 := Tryd.sizeOf2
  v2 := Tryd.zeroValue2
  t3 := Tryd.underlying3
  a3 := Tryd.isAgg3
  z3 := Tryd.sizeOf3
  v3 := Tryd.zeroValue3
  t4 := Tryd.underlying4
  a4 := Tryd.isAgg4
  z4 := Tryd.sizeOf4
  v4 := Tryd.zeroValue4
  t5 := Tryd.underlying5
  a5 := Tryd.isAgg5
  z5 := Tryd.sizeOf5
  v5 := Tryd.zeroValue5
  t9 := Tryd.underlying9
  a9 := Tryd.isAgg9
  z9 := Tryd.sizeOf9
  v9 := Tryd.zeroValue9
  t20 := Tryd.underlying20
  a20 := Tryd.isAgg20
  z20 := Tryd.sizeOf20
  v20 := Tryd.zeroValue20
  t37 := Tryd.underlying36
  a37 := Tryd.isAgg36
  z37 := Tryd.sizeOf36
  v37 := Tryd.zeroValue36
  t46 := Tryd.underlying64
  a46 := Tryd.isAgg64
  z46 := Tryd.sizeOf64
  v46 := Tryd.zeroValue64
  t51 := Tryd.underlying75
  a51 := Tryd.isAgg75
  z51 := Tryd.sizeOf75
  v51 := Tryd.zeroValue75
  t53 := Tryd.underlying67
  a53 := Tryd.isAgg67
  z53 := Tryd.sizeOf67
  v53 := Tryd.zeroValue67
  t171 := Tryd.underlying66
  a171 := Tryd.isAgg66
  z171 := Tryd.sizeOf66
  v171 := Tryd.zeroValue66
  t173 := Tryd.underlying70
  a173 := Tryd.isAgg70
  z173 := Tryd.sizeOf70
  v173 := Tryd.zeroValue70
  t212 := Tryd.underlying74
  a212 := Tryd.isAgg74
  z212 := Tryd.sizeOf74
  v212 := Tryd.zeroValue74
  t213 := Tryd.underlying76
  a213 := Tryd.isAgg76
  z213 := Tryd.sizeOf76
  t232 := Tryd.underlying80
  a232 := Tryd.isAgg80
  z232 := Tryd.sizeOf80
  v232 := Tryd.zeroValue80
  t233 := Tryd.underlying81
  a233 := Tryd.isAgg81
  z233 := Tryd.sizeOf81
  v233 := Tryd.zeroValue81
  g17 := by kernel_rfl
  g18 := by kernel_rfl
  g19 := by kernel_rfl
  i0 := by kernel_rfl
  i2 := by kernel_rfl
  i3 := by kernel_rfl
  i4 := by kernel_rfl
  i5 := by kernel_rfl
  i9 := by kernel_rfl
  i20 := by kernel_rfl
  i37 := by kernel_rfl
  i46 := by kernel_rfl
  i51 := by kernel_rfl
  i53 := by kernel_rfl
  i171 := by kernel_rfl
  i173 := by kernel_rfl
  i212 := by kernel_rfl
  i232 := by kernel_rfl
  i233 := by kernel_rfl
  m17 := by kernel_rfl
  m18 := by kernel_rfl
  m19 := by kernel_rfl }

theorem grow_ext (w : World) (k : Nat) (os : Array Obj) : Ext w (Sort.grow (w.drewN k) os) where
  os := rfl
  tape := rfl
  output := rfl
  size := by simp [Sort.grow, World.drewN]
  block := fun b hb => by
    show ((w.drewN k).heap ++ os)[b]? = w.heap[b]?
    rw [Array.getElem?_append_left (by simpa [World.drewN] using hb)]
    rfl
theorem formatInt_tab : NumT 37 fine TabOk where
  fine := fun _ h => h
  ext := fun _ _ hx h => h.ext hx
  call := fun n hn w hI => by
    obtain ⟨h0, h1⟩ := hn
    go_enter Tryd.func37, Tryd.ntmps37
    go_wp2_with fail
    refine (Any.strconv_Itoa layI n (by omega) h1 _ hI).mono ?_; rintro e w' ⟨rfl, k, os, rfl⟩
    have HX := Lib.hid (grow_ext w k os)
    go_wp2_with fail
    go_ret
    exact ⟨rfl, HX.out⟩
end Go.Proofs.YtmpepccpnnldoaaDoor

namespace Go.Proofs.YtmpepccpnnldoaaDoor
set_option linter.unusedSimpArgs false
set_option linter.unusedVariables false
open Go.RowKit

/-- Abstract values. -/
inductive PV where
  | t (t : Tr)
  | agg (cs : List PV)
  | tup (vs : List PV)
  | nil
  | acc (sz : Nat) (es : List (List Tr)) (r : Nat)
  | ptr (k off : Nat)
  | eptr (cs : List Tr)
  | fn (f : FuncId) (caps : List PV)
  | full (sz n r : Nat)
  | rptr (r i : Nat)
  | lit (sz : Nat) (es : List (List Tr))
  | bsl (k n : Nat)
  | gsl (k n : Nat)

structure PBox where
  ty : TypeId
  cells : List PV
structure PRow where
  E : TypeId
  sz : Nat
  es : List (List Tr)
  whole : Bool
structure Sto where
  boxes : List (Option PBox)
  rows : List PRow
structure Lay where
  ρ : Nat → Nat
  γ : Nat → Option (Nat × Nat)

/-- No box lies at this place, and no row may still grow there. -/
def Sto.ok (st : Sto) (m : Lay) (b o : Nat) : Prop :=
  (∀ k x, st.boxes[k]? = some (some x) → m.ρ k ≠ b) ∧ (∀ r row g c, st.rows[r]? = some row → m.γ r = some (g, c) → g = b → o < row.es.length * row.sz)
/-- A block of ours begins with these values. -/
def OBp (w : World) (b : Nat) (T : TypeId) (vs : List Value) : Prop := ∃ rest : List Value, OB w b T ⟨vs ++ rest⟩
theorem OBp.of {w : World} {b : Nat} {T : TypeId} {vs : List Value} (h : OB w b T ⟨vs⟩) : OBp w b T vs := ⟨[], by rw [List.append_nil]; exact h⟩
theorem OBp.lt {w : World} {b : Nat} {T : TypeId} {vs : List Value} (h : OBp w b T vs) : b < w.heap.size := by
  obtain ⟨_, h⟩ := h
  exact h.lt
theorem OBp.keep {w w' : World} {b : Nat} {T : TypeId} {vs : List Value} (h : OBp w b T vs) (k : w'.heap[b]? = w.heap[b]?) : OBp w' b T vs := by
  obtain ⟨r, h⟩ := h
  exact ⟨r, k.trans h⟩
theorem OBp.ext {w w' : World} {b : Nat} {T : TypeId} {vs : List Value} (h : OBp w b T vs) (hx : Ext w w') : OBp w' b T vs := h.keep (hx.block _ h.lt)
theorem OBp.cell {w : World} {b : Nat} {T : TypeId} {vs : List Value} (h : OBp w b T vs) {j : Nat} {v : Value} (hj : vs[j]? = some v) : w.cell? ⟨b, j, none⟩ = some v := by
  obtain ⟨r, h⟩ := h
  rw [h.cell]
  have := (List.getElem?_eq_some_iff.1 hj).1
  simp only [List.getElem?_toArray]
  rw [List.getElem?_append_left this]
  exact hj
def okA (av : Nat → Nat → Prop) (st : Sto) (m : Lay) (b o : Nat) : Prop := ¬ av b o ∧ st.ok m b o

inductive RepM (ok : Nat → Nat → Prop) (w : World) : Tr → Value → Prop
  | leaf {v : Value} : LeafOk v → RepM ok w (.leaf v) v
  | row {sz : Nat} {es : List (List Tr)} {a : Option Addr} {cap : Nat} (c : Nat → Nat → Value) : es.length ≤ cap → cap ≤ maxLen →
      (es ≠ [] → ∃ b off, a = some ⟨b, off, none⟩ ∧ b < w.heap.size ∧ ∀ i e, es[i]? = some e → ∀ j d, e[j]? = some d → ok b (off + i * sz + j) ∧ w.cell? ⟨b, off + i * sz + j, none⟩ = some (c i j)) →
      (∀ i e, es[i]? = some e → ∀ j d, e[j]? = some d → RepM ok w d (c i j)) → RepM ok w (.row sz es) (.slice a es.length cap)

theorem RepM.mono {ok ok' : Nat → Nat → Prop} {w w' : World} {t : Tr} {v : Value} (h : RepM ok w t v) (hz : w.heap.size ≤ w'.heap.size) (hk : ∀ b o, b < w.heap.size → ok b o → ok' b o)
    (hc : ∀ b o, b < w.heap.size → ok b o → w'.cell? ⟨b, o, none⟩ = w.cell? ⟨b, o, none⟩) : RepM ok' w' t v := by
  induction h with
  | leaf h => exact .leaf h
  | row c h1 h2 h3 _ ih =>
    refine .row c h1 h2 (fun hne => ?_) ih
    obtain ⟨b, off, ha, hb, h4⟩ := h3 hne
    exact ⟨b, off, ha, Nat.lt_of_lt_of_le hb hz, fun i e he j d hd => ⟨hk _ _ hb (h4 i e he j d hd).1, (hc _ _ hb (h4 i e he j d hd).1).trans (h4 i e he j d hd).2⟩⟩
theorem RepM.rep {ok : Nat → Nat → Prop} {w : World} {t : Tr} {v : Value} (h : RepM ok w t v) : Rep w t v := by
  induction h with
  | leaf h => exact .leaf h
  | row c h1 h2 h3 _ ih =>
    refine .row c h1 h2 (fun hne => ?_) ih
    obtain ⟨b, off, ha, hb, h4⟩ := h3 hne
    exact ⟨b, off, ha, hb, fun i e he j d hd => (h4 i e he j d hd).2⟩
theorem Rep.repM {ok : Nat → Nat → Prop} {w : World} {t : Tr} {v : Value} (h : Rep w t v) (hk : ∀ b o, b < w.heap.size → ok b o) : RepM ok w t v := by
  induction h with
  | leaf h => exact .leaf h
  | row c h1 h2 h3 _ ih =>
    refine .row c h1 h2 (fun hne => ?_) ih
    obtain ⟨b, off, ha, hb, h4⟩ := h3 hne
    exact ⟨b, off, ha, hb, fun i e he j d hd => ⟨hk _ _ hb, h4 i e he j d hd⟩⟩
theorem RepM.shape {ok : Nat → Nat → Prop} {w : World} {sz : Nat} {es : List (List Tr)} {v : Value} (h : RepM ok w (.row sz es) v) : ∃ a cap, v = .slice a es.length cap ∧ es.length ≤ cap ∧ cap ≤ maxLen := h.rep.shape
theorem RepM.leaf_eq {ok : Nat → Nat → Prop} {w : World} {v u : Value} (h : RepM ok w (.leaf v) u) : u = v ∧ LeafOk v := h.rep.leaf_eq

def rowVal : Option (Nat × Nat) → Nat → Value
  | none, _ => .slice none 0 0
  | some (g, c), n => .slice (some ⟨g, 0, none⟩) n c

mutual
/-- The value stands for the abstract value. -/
def RV (ok : Nat → Nat → Prop) (st : Sto) (m : Lay) (w : World) : PV → Value → Prop
  | .t t, v => RepM ok w t v
  | .agg cs, v => ∃ vs, v = .agg ⟨vs⟩ ∧ RVL ok st m w cs vs
  | .tup cs, v => ∃ vs, v = .tuple ⟨vs⟩ ∧ RVL ok st m w cs vs
  | .nil, v => v = .slice none 0 0
  | .acc sz es r, v => ∃ row, st.rows[r]? = some row ∧ row.sz = sz ∧ es.length ≤ row.es.length ∧ RepM ok w (.row sz es) v ∧ (es.length = row.es.length → v = rowVal (m.γ r) es.length)
  | .ptr k off, v => (∃ x, st.boxes[k]? = some (some x)) ∧ v = .pointer (some ⟨m.ρ k, off, none⟩)
  | .eptr cs, v => ∃ b off, v = .pointer (some ⟨b, off, none⟩) ∧ b < w.heap.size ∧ ∃ c : Nat → Value, ∀ j d, cs[j]? = some d → ok b (off + j) ∧ w.cell? ⟨b, off + j, none⟩ = some (c j) ∧ RepM ok w d (c j)
  | .fn f caps, v => ∃ vs, v = .func (.func f) #[] ⟨vs⟩ ∧ RVL ok st m w caps vs
  | .full sz n r, v => ∃ row g, st.rows[r]? = some row ∧ row.sz = sz ∧ row.whole = true ∧ m.γ r = some (g, n) ∧ v = .slice (some ⟨g, 0, none⟩) n n
  | .rptr r i, v => ∃ row g n, st.rows[r]? = some row ∧ row.whole = true ∧ m.γ r = some (g, n) ∧ v = .pointer (some ⟨g, i * row.sz, none⟩)
  | .lit sz es, v => RepM ok w (.row sz es) v ∧ ∃ a, v = .slice a es.length es.length
  | .bsl k n, v => (∃ x, st.boxes[k]? = some (some x)) ∧ v = .slice (some ⟨m.ρ k, 0, none⟩) n n
  | .gsl k n, v => (∃ x, st.boxes[k]? = some (some x)) ∧ ∃ c, n ≤ c ∧ c ≤ maxLen ∧ v = .slice (some ⟨m.ρ k, 0, none⟩) n c
def RVL (ok : Nat → Nat → Prop) (st : Sto) (m : Lay) (w : World) : List PV → List Value → Prop
  | [], [] => True
  | p :: ps, v :: vs => RV ok st m w p v ∧ RVL ok st m w ps vs
  | _, _ => False
end

def RowOk (ok : Nat → Nat → Prop) (m : Lay) (w : World) (r : Nat) (row : PRow) : Prop :=
  0 < row.sz ∧ (∀ e ∈ row.es, e.length = row.sz) ∧ ((m.γ r = none ∧ row.es = []) ∨ ∃ g c cur, m.γ r = some (g, c) ∧ OB w g row.E cur ∧ cur.size = c * row.sz ∧ row.es.length ≤ c ∧ c ≤ maxLen ∧ RepM ok w (.row row.sz row.es) (.slice (some ⟨g, 0, none⟩) row.es.length c))

structure StoOk (av : Nat → Nat → Prop) (st : Sto) (m : Lay) (w : World) : Prop where
  box : ∀ k x, st.boxes[k]? = some (some x) → ∃ vs, OBp w (m.ρ k) x.ty vs ∧ RVL (okA av st m) st m w x.cells vs
  binj : ∀ k k' x x', st.boxes[k]? = some (some x) → st.boxes[k']? = some (some x') → k ≠ k' → m.ρ k ≠ m.ρ k'
  row : ∀ r row, st.rows[r]? = some row → RowOk (okA av st m) m w r row
  rinj : ∀ r r' row row' g c c', st.rows[r]? = some row → st.rows[r']? = some row' → m.γ r = some (g, c) → m.γ r' = some (g, c') → r = r'
  br : ∀ k x r row g c, st.boxes[k]? = some (some x) → st.rows[r]? = some row → m.γ r = some (g, c) → m.ρ k ≠ g
  avlt : ∀ b o, av b o → b < w.heap.size
  avr : ∀ r row g c, st.rows[r]? = some row → m.γ r = some (g, c) → ∀ o, ¬ av g o
  avb : ∀ k x, st.boxes[k]? = some (some x) → ∀ o, ¬ av (m.ρ k) o

/-- What a run may have changed. -/
structure Ev (st : Sto) (m : Lay) (w : World) (st' : Sto) (m' : Lay) (w' : World) : Prop where
  os : w'.os = w.os
  tape : w'.tape = w.tape
  output : w'.output = w.output
  size : w.heap.size ≤ w'.heap.size
  blk : ∀ b, b < w.heap.size → (∀ k x, st.boxes[k]? = some (some x) → m.ρ k ≠ b) → (∀ r row g c, st.rows[r]? = some row → m.γ r = some (g, c) → g ≠ b) → w'.heap[b]? = w.heap[b]?
  cell : ∀ b o, b < w.heap.size → st.ok m b o → w'.cell? ⟨b, o, none⟩ = w.cell? ⟨b, o, none⟩
  okk : ∀ b o, b < w.heap.size → st.ok m b o → st'.ok m' b o
  live : ∀ k x, st.boxes[k]? = some (some x) → (∃ x', st'.boxes[k]? = some (some x')) ∧ m'.ρ k = m.ρ k
  fresh : ∀ k x', st'.boxes[k]? = some (some x') → (∃ x, st.boxes[k]? = some (some x)) ∨ w.heap.size ≤ m'.ρ k
  rowl : ∀ r row, st.rows[r]? = some row → ∃ row', st'.rows[r]? = some row' ∧ row'.sz = row.sz ∧ row.es.length ≤ row'.es.length ∧ (row.es.length = row'.es.length → m'.γ r = m.γ r) ∧ (row.whole = true → row'.whole = true ∧ m'.γ r = m.γ r)
  rfresh : ∀ r row' g c, st'.rows[r]? = some row' → m'.γ r = some (g, c) → (∃ row c0, st.rows[r]? = some row ∧ m.γ r = some (g, c0)) ∨ w.heap.size ≤ g

theorem Ev.refl (st : Sto) (m : Lay) (w : World) : Ev st m w st m w :=
  ⟨rfl, rfl, rfl, Nat.le_refl _, fun _ _ _ _ => rfl, fun _ _ _ _ => rfl, fun _ _ _ h => h, fun _ x h => ⟨⟨x, h⟩, rfl⟩, fun _ x h => .inl ⟨x, h⟩, fun _ row h => ⟨row, h, rfl, Nat.le_refl _, fun _ => rfl, fun h => ⟨h, rfl⟩⟩, fun _ row _ c h h' => .inl ⟨row, c, h, h'⟩⟩

theorem Ev.trans {st st1 st2 : Sto} {m m1 m2 : Lay} {w w1 w2 : World} (h : Ev st m w st1 m1 w1) (k : Ev st1 m1 w1 st2 m2 w2) : Ev st m w st2 m2 w2 where
  os := k.os.trans h.os
  tape := k.tape.trans h.tape
  output := k.output.trans h.output
  size := Nat.le_trans h.size k.size
  blk := fun b hb h1 h2 => (k.blk b (Nat.lt_of_lt_of_le hb h.size) (fun i x' hx' => by
      rcases h.fresh i x' hx' with ⟨x, hx⟩ | hf
      · rw [(h.live i x hx).2]; exact h1 i x hx
      · omega) (fun r row' g c hr hg => by
      rcases h.rfresh r row' g c hr hg with ⟨row, c0, hr0, hg0⟩ | hf
      · exact h2 r row g c0 hr0 hg0
      · omega)).trans (h.blk b hb h1 h2)
  cell := fun b o hb hk => (k.cell b o (Nat.lt_of_lt_of_le hb h.size) (h.okk b o hb hk)).trans (h.cell b o hb hk)
  okk := fun b o hb hk => k.okk b o (Nat.lt_of_lt_of_le hb h.size) (h.okk b o hb hk)
  live := fun i x hx => by
    obtain ⟨⟨x1, hx1⟩, e1⟩ := h.live i x hx
    obtain ⟨hx2, e2⟩ := k.live i x1 hx1
    exact ⟨hx2, e2.trans e1⟩
  fresh := fun i x' hx' => by
    rcases k.fresh i x' hx' with ⟨x1, hx1⟩ | hf
    · rcases h.fresh i x1 hx1 with hx | hf
      · exact .inl hx
      · exact .inr (by rw [(k.live i x1 hx1).2]; exact hf)
    · exact .inr (Nat.le_trans h.size hf)
  rowl := fun r row hr => by
    obtain ⟨row1, hr1, s1, l1, g1, f1⟩ := h.rowl r row hr
    obtain ⟨row2, hr2, s2, l2, g2, f2⟩ := k.rowl r row1 hr1
    refine ⟨row2, hr2, s2.trans s1, Nat.le_trans l1 l2, fun he => ?_, fun hf => ?_⟩
    · rw [g2 (by omega), g1 (by omega)]
    · obtain ⟨a1, a2⟩ := f1 hf
      obtain ⟨b1, b2⟩ := f2 a1
      exact ⟨b1, b2.trans a2⟩
  rfresh := fun r row' g c hr hg => by
    rcases k.rfresh r row' g c hr hg with ⟨row1, c1, hr1, hg1⟩ | hf
    · exact h.rfresh r row1 g c1 hr1 hg1
    · exact .inr (Nat.le_trans h.size hf)

mutual
theorem RV.mono {av : Nat → Nat → Prop} {st st' : Sto} {m m' : Lay} {w w' : World} (h : Ev st m w st' m' w') : ∀ (p : PV) (v : Value), RV (okA av st m) st m w p v → RV (okA av st' m') st' m' w' p v
  | .t t, v, hr => RepM.mono hr h.size (fun b o hb hk => ⟨hk.1, h.okk b o hb hk.2⟩) (fun b o hb hk => h.cell b o hb hk.2)
  | .agg cs, v, hr => by
    obtain ⟨vs, rfl, hl⟩ := hr
    exact ⟨vs, rfl, RVL.mono h cs vs hl⟩
  | .tup cs, v, hr => by
    obtain ⟨vs, rfl, hl⟩ := hr
    exact ⟨vs, rfl, RVL.mono h cs vs hl⟩
  | .nil, v, hr => hr
  | .acc sz es r, v, hr => by
    obtain ⟨row, h1, h2, h3, h4, h5⟩ := hr
    obtain ⟨row', k1, k2, k3, k4, -⟩ := h.rowl r row h1
    exact ⟨row', k1, k2.trans h2, Nat.le_trans h3 k3, RepM.mono h4 h.size (fun b o hb hk => ⟨hk.1, h.okk b o hb hk.2⟩) (fun b o hb hk => h.cell b o hb hk.2), fun he => by rw [k4 (by omega)]; exact h5 (by omega)⟩
  | .ptr k off, v, hr => by
    obtain ⟨⟨x, hx⟩, hv⟩ := hr
    obtain ⟨h1, h2⟩ := h.live k x hx
    exact ⟨h1, by rw [h2]; exact hv⟩
  | .eptr cs, v, hr => by
    obtain ⟨b, off, h1, hb, c, h2⟩ := hr
    refine ⟨b, off, h1, Nat.lt_of_lt_of_le hb h.size, c, fun j d hd => ?_⟩
    obtain ⟨k1, k2, k3⟩ := h2 j d hd
    exact ⟨⟨k1.1, h.okk _ _ hb k1.2⟩, (h.cell _ _ hb k1.2).trans k2, RepM.mono k3 h.size (fun b o hb hk => ⟨hk.1, h.okk b o hb hk.2⟩) (fun b o hb hk => h.cell b o hb hk.2)⟩
  | .fn f caps, v, hr => by
    obtain ⟨vs, rfl, hl⟩ := hr
    exact ⟨vs, rfl, RVL.mono h caps vs hl⟩
  | .full sz n r, v, hr => by
    obtain ⟨row, g, h1, h2, h3, h4, h5⟩ := hr
    obtain ⟨row', k1, k2, -, -, k5⟩ := h.rowl r row h1
    exact ⟨row', g, k1, k2.trans h2, (k5 h3).1, by rw [(k5 h3).2]; exact h4, h5⟩
  | .rptr r i, v, hr => by
    obtain ⟨row, g, n, h1, h3, h4, h5⟩ := hr
    obtain ⟨row', k1, k2, -, -, k5⟩ := h.rowl r row h1
    exact ⟨row', g, n, k1, (k5 h3).1, by rw [(k5 h3).2]; exact h4, by rw [k2]; exact h5⟩
  | .lit sz es, v, hr => ⟨RepM.mono hr.1 h.size (fun b o hb hk => ⟨hk.1, h.okk b o hb hk.2⟩) (fun b o hb hk => h.cell b o hb hk.2), hr.2⟩
  | .bsl k n, v, hr => by
    obtain ⟨⟨x, hx⟩, hv⟩ := hr
    obtain ⟨h1, h2⟩ := h.live k x hx
    exact ⟨h1, by rw [h2]; exact hv⟩
  | .gsl k n, v, hr => by
    obtain ⟨⟨x, hx⟩, c, hc, hm, hv⟩ := hr
    obtain ⟨h1, h2⟩ := h.live k x hx
    exact ⟨h1, c, hc, hm, by rw [h2]; exact hv⟩
theorem RVL.mono {av : Nat → Nat → Prop} {st st' : Sto} {m m' : Lay} {w w' : World} (h : Ev st m w st' m' w') : ∀ (ps : List PV) (vs : List Value), RVL (okA av st m) st m w ps vs → RVL (okA av st' m') st' m' w' ps vs
  | [], [], hr => hr
  | p :: ps, v :: vs, hr => ⟨RV.mono h p v hr.1, RVL.mono h ps vs hr.2⟩
  | [], _ :: _, hr => hr.elim
  | _ :: _, [], hr => hr.elim
end

theorem RVL.length {ok : Nat → Nat → Prop} {st : Sto} {m : Lay} {w : World} : ∀ {ps : List PV} {vs : List Value}, RVL ok st m w ps vs → ps.length = vs.length
  | [], [], _ => rfl
  | _ :: _, _ :: _, h => by simp [RVL.length h.2]
  | [], _ :: _, h => h.elim
  | _ :: _, [], h => h.elim
theorem RVL.get {ok : Nat → Nat → Prop} {st : Sto} {m : Lay} {w : World} : ∀ {ps : List PV} {vs : List Value} {j : Nat} {p : PV}, RVL ok st m w ps vs → ps[j]? = some p → ∃ v, vs[j]? = some v ∧ RV ok st m w p v
  | [], [], _, _, _, hp => by simp at hp
  | p :: ps, v :: vs, 0, q, h, hp => by simp at hp; subst hp; exact ⟨v, rfl, h.1⟩
  | p :: ps, v :: vs, j + 1, q, h, hp => by simpa using RVL.get (j := j) h.2 (by simpa using hp)
  | [], _ :: _, _, _, h, _ => h.elim
  | _ :: _, [], _, _, h, _ => h.elim
theorem RVL.take {ok : Nat → Nat → Prop} {st : Sto} {m : Lay} {w : World} : ∀ {ps : List PV} {vs : List Value} (n : Nat), RVL ok st m w ps vs → RVL ok st m w (ps.take n) (vs.take n)
  | [], [], n, _ => by simp [RVL]
  | p :: ps, v :: vs, 0, _ => by simp [RVL]
  | p :: ps, v :: vs, n + 1, h => ⟨h.1, RVL.take n h.2⟩
  | [], _ :: _, _, h => h.elim
  | _ :: _, [], _, h => h.elim
theorem RVL.drop {ok : Nat → Nat → Prop} {st : Sto} {m : Lay} {w : World} : ∀ {ps : List PV} {vs : List Value} (n : Nat), RVL ok st m w ps vs → RVL ok st m w (ps.drop n) (vs.drop n)
  | [], [], n, _ => by simp [RVL]
  | p :: ps, v :: vs, 0, h => h
  | p :: ps, v :: vs, n + 1, h => RVL.drop (ps := ps) (vs := vs) n h.2
  | [], _ :: _, _, h => h.elim
  | _ :: _, [], _, h => h.elim
theorem RVL.append {ok : Nat → Nat → Prop} {st : Sto} {m : Lay} {w : World} : ∀ {ps qs : List PV} {vs us : List Value}, RVL ok st m w ps vs → RVL ok st m w qs us → RVL ok st m w (ps ++ qs) (vs ++ us)
  | [], _, [], _, _, k => k
  | p :: ps, _, v :: vs, _, h, k => ⟨h.1, RVL.append h.2 k⟩
  | [], _, _ :: _, _, h, _ => h.elim
  | _ :: _, _, [], _, h, _ => h.elim

theorem RepL.toRVL {ok : Nat → Nat → Prop} {st : Sto} {m : Lay} {w : World} (hk : ∀ b o, b < w.heap.size → ok b o) : ∀ {ts : List Tr} {vs : List Value}, RepL w ts vs → RVL ok st m w (ts.map PV.t) vs
  | [], [], _ => trivial
  | _ :: _, _ :: _, h => ⟨h.1.repM hk, RepL.toRVL hk h.2⟩
  | [], _ :: _, h => h.elim
  | _ :: _, [], h => h.elim

end Go.Proofs.YtmpepccpnnldoaaDoor

namespace Go.Proofs.YtmpepccpnnldoaaDoor
set_option linter.unusedSimpArgs false
set_option linter.unusedVariables false
open Go.RowKit

structure AS where
  env : List (Nat × PV)
  st : Sto
def AS.lk (s : AS) (i : Nat) : Option PV := s.env.lookup i
def AS.put (s : AS) (d : Nat) (p : PV) : AS := ⟨(d, p) :: s.env, s.st⟩
def AS.putO (s : AS) : Option Nat → PV → AS
  | none, _ => s
  | some d, p => s.put d p
def AS.delO (s : AS) : Option Nat → AS
  | none => s
  | some d => ⟨s.env.filter (fun x => x.1 != d), s.st⟩
def constPV : Value → Option PV
  | .int k n => if (Lit.int k n).wf then some (.t (.leaf (.int k n))) else none
  | .bool b => some (.t (.leaf (.bool b)))
  | .string s => if s.size ≤ maxLen then some (.t (.leaf (.string s))) else none
  | .slice none 0 0 => some .nil
  | _ => none
def AS.ev (s : AS) : Operand → Option PV
  | .tmp i => s.lk i
  | .const v => constPV v
  | .global _ => none
  | .func f => some (.fn f [])

/-- What stood at the entry. -/
structure Ctx where
  av : Nat → Nat → Prop
  st : Sto
  m : Lay
  w : World

structure RA (C : Ctx) (n : Nat) (s : AS) (m : Lay) (a : Act) (w : World) : Prop where
  dfr : a.defers = []
  tsz : a.tmps.size = n
  sto : StoOk C.av s.st m w
  env : ∀ i p, s.lk i = some p → ∃ v, a.tmps[i]? = some v ∧ RV (okA C.av s.st m) s.st m w p v
  ev : Ev C.st C.m C.w s.st m w

theorem constPV_rv {ok : Nat → Nat → Prop} {st : Sto} {m : Lay} {w : World} {v : Value} {p : PV} (h : constPV v = some p) : RV ok st m w p v := by
  unfold constPV at h
  split at h
  · split at h
    · rename_i hw
      cases h
      exact RepM.leaf hw
    · cases h
  · cases h
    exact RepM.leaf trivial
  · split at h
    · rename_i hw
      cases h
      exact RepM.leaf hw
    · cases h
  · cases h
    rfl
  · cases h

section
variable {C : Ctx} {n : Nat} {s : AS} {m : Lay} {a : Act} {w : World}

theorem RA.eval (h : RA C n s m a w) {x : Operand} {p : PV} (hx : s.ev x = some p) : RV (okA C.av s.st m) s.st m w p (a.eval x) := by
  cases x with
  | tmp i =>
    obtain ⟨v, hv, hr⟩ := h.env i p hx
    simpa [Act.eval, Array.getD_eq_getD_getElem?, hv] using hr
  | const v => exact constPV_rv hx
  | global g => cases hx
  | func f =>
    cases hx
    exact ⟨[], rfl, trivial⟩

theorem AS.lk_put (s : AS) (d i : Nat) (p : PV) : (s.put d p).lk i = if i = d then some p else s.lk i := by
  unfold AS.lk AS.put
  rw [List.lookup_cons]
  by_cases h : i = d
  · simp [h]
  · rw [if_neg h, show (i == d) = false by simp [h]]

theorem RA.put (h : RA C n s m a w) {d : Option Nat} {p : PV} {v : Value} (hd : ∀ x, d = some x → x < n) (hr : RV (okA C.av s.st m) s.st m w p v) : RA C n (s.putO d p) m (a.put d v) w := by
  cases d with
  | none => exact h
  | some d =>
    refine ⟨h.dfr, by simp [Act.put, h.tsz], h.sto, fun i q hq => ?_, h.ev⟩
    have hq' : (s.put d p).lk i = some q := hq
    rw [AS.lk_put] at hq'
    have hdn := hd d rfl
    by_cases hi : i = d
    · rw [if_pos hi] at hq'
      cases hq'
      subst hi
      exact ⟨v, by simp [Act.put, h.tsz, hdn], hr⟩
    · rw [if_neg hi] at hq'
      obtain ⟨u, hu, hru⟩ := h.env i q hq'
      exact ⟨u, by simp only [Act.put]; rw [Array.getElem?_setIfInBounds_ne (fun e => hi e.symm)]; exact hu, hru⟩

theorem lookup_filter_ne {d i : Nat} {q : PV} : ∀ (l : List (Nat × PV)), (l.filter (fun x => x.1 != d)).lookup i = some q → i ≠ d ∧ l.lookup i = some q
  | [], h => by simp at h
  | (k, p) :: l, h => by
    by_cases hk : k = d
    · have h' : (l.filter (fun x => x.1 != d)).lookup i = some q := by simpa [List.filter_cons, hk] using h
      obtain ⟨h1, h2⟩ := lookup_filter_ne l h'
      refine ⟨h1, ?_⟩
      rw [List.lookup_cons, show (i == k) = false by simp [hk, h1]]
      exact h2
    · have h' : ((k, p) :: l.filter (fun x => x.1 != d)).lookup i = some q := by simpa [List.filter_cons, hk] using h
      rw [List.lookup_cons] at h' ⊢
      by_cases hik : i = k
      · subst hik
        simp only [BEq.rfl] at h' ⊢
        exact ⟨hk, h'⟩
      · rw [show (i == k) = false by simp [hik]] at h' ⊢
        exact lookup_filter_ne l h'

theorem RA.del (h : RA C n s m a w) (d : Option Nat) (v : Value) : RA C n (s.delO d) m (a.put d v) w := by
  cases d with
  | none => exact h
  | some d =>
    refine ⟨h.dfr, by simp [Act.put, h.tsz], h.sto, fun i q hq => ?_, h.ev⟩
    obtain ⟨h1, h2⟩ := lookup_filter_ne s.env hq
    obtain ⟨u, hu, hru⟩ := h.env i q h2
    exact ⟨u, by simp only [Act.put]; rw [Array.getElem?_setIfInBounds_ne (fun e => h1 e.symm)]; exact hu, hru⟩

theorem RA.step (h : RA C n s m a w) {st1 : Sto} {m1 : Lay} {w1 : World} (e : Ev s.st m w st1 m1 w1) (k : StoOk C.av st1 m1 w1) : RA C n ⟨s.env, st1⟩ m1 a w1 :=
  ⟨h.dfr, h.tsz, k, fun i p hp => by obtain ⟨v, hv, hr⟩ := h.env i p hp; exact ⟨v, hv, RV.mono e p v hr⟩, h.ev.trans e⟩
end

/-- A state that says less. -/
def Wk (C : Ctx) (n : Nat) (s s' : AS) : Prop := ∀ m a w, RA C n s m a w → ∃ m', RA C n s' m' a w
theorem Wk.refl (C : Ctx) (n : Nat) (s : AS) : Wk C n s s := fun m _ _ h => ⟨m, h⟩
theorem Wk.trans {C : Ctx} {n : Nat} {s s' s'' : AS} (h : Wk C n s s') (k : Wk C n s' s'') : Wk C n s s'' := fun m a w hr => by
  obtain ⟨m', h'⟩ := h m a w hr
  exact k m' a w h'

def AWP (P : Program) (C : Ctx) (n : Nat) (c : Code) (Q : Exit → AS → Prop) (s : AS) : Prop :=
  ∀ m a w, RA C n s m a w → c.wp P (fun e a' w' => ∃ s' m', Q e s' ∧ RA C n s' m' a' w') a w
def AL (P : Program) (C : Ctx) (n : Nat) (ops : Array Oper) (l : List Oper) (Q : Exit → AS → Prop) (s : AS) : Prop :=
  ∀ m a w, RA C n s m a w → wpList P ops (fun e a' w' => ∃ s' m', Q e s' ∧ RA C n s' m' a' w') l a w
def AOp (P : Program) (C : Ctx) (n : Nat) (o : Oper) (s s1 : AS) : Prop :=
  ∀ m a w, RA C n s m a w → ∀ (K : Act → World → Prop) (Q : Exit → Act → World → Prop), (∀ m' a' w', RA C n s1 m' a' w' → K a' w') → o.wp P a w K Q

abbrev thenA (next : AS → Prop) (Q : Exit → AS → Prop) : Exit → AS → Prop
  | .normal, s => next s
  | e, s => Q e s
abbrev inBlockA (id : Nat) (Q : Exit → AS → Prop) : Exit → AS → Prop
  | .exit id', s => if id' = id then Q .normal s else Q (.exit id') s
  | e, s => Q e s

section
variable {P : Program} {C : Ctx} {n : Nat} {s : AS} {Q : Exit → AS → Prop}

theorem AWP.weak {c : Code} {s' : AS} (hw : Wk C n s s') (h : AWP P C n c Q s') : AWP P C n c Q s := fun m a w hr => by
  obtain ⟨m', h'⟩ := hw m a w hr
  exact h m' a w h'
theorem AWP.mono {c : Code} {Q' : Exit → AS → Prop} (h : AWP P C n c Q s) (hq : ∀ e s', Q e s' → Q' e s') : AWP P C n c Q' s := fun m a w hr =>
  wp_mono (h m a w hr) fun e a' w' => by rintro ⟨s', m', h1, h2⟩; exact ⟨s', m', hq e s' h1, h2⟩

theorem AWP.skip (h : Q .normal s) : AWP P C n .skip Q s := fun m _ _ hr => wp_skip ⟨s, m, h, hr⟩
theorem AWP.exit {id : Nat} (h : Q (.exit id) s) : AWP P C n (.exit id) Q s := fun m _ _ hr => wp_exit ⟨s, m, h, hr⟩
theorem AWP.ret (h : Q .ret s) : AWP P C n .ret Q s := fun m _ _ hr => wp_ret ⟨s, m, h, hr⟩
theorem AWP.seq {x y : Code} (h : AWP P C n x (thenA (AWP P C n y Q) Q) s) : AWP P C n (.seq x y) Q s := fun m a w hr =>
  wp_seq (wp_mono (h m a w hr) fun e a' w' => by
    rintro ⟨s', m', h1, h2⟩
    cases e with
    | normal => exact h1 m' a' w' h2
    | _ => exact ⟨s', m', h1, h2⟩)
theorem AWP.block {id : Nat} {c : Code} (h : AWP P C n c (inBlockA id Q) s) : AWP P C n (.block id c) Q s := fun m a w hr =>
  wp_block (wp_mono (h m a w hr) fun e a' w' => by
    rintro ⟨s', m', h1, h2⟩
    cases e with
    | exit id' =>
      simp only [inBlockA] at h1
      simp only [Exit.inBlock]
      split <;> rename_i hid
      · rw [if_pos hid] at h1; exact ⟨s', m', h1, h2⟩
      · rw [if_neg hid] at h1; exact ⟨s', m', h1, h2⟩
    | _ => exact ⟨s', m', h1, h2⟩)
theorem AWP.cond {c : Operand} {x y : Code} {b : Bool} (hc : s.ev c = some (.t (.leaf (.bool b)))) (ht : b = true → AWP P C n x Q s) (hf : b = false → AWP P C n y Q s) : AWP P C n (.cond c x y) Q s := fun m a w hr => by
  have hv := (RepM.leaf_eq (hr.eval hc)).1
  exact wp_cond_split hv (fun h => ht h m a w hr) (fun h => hf h m a w hr)

theorem wp_loop_ix {c : Code} {R : Exit → Act → World → Prop} {ι : Type} (I : ι → Act → World → Prop) (μ : ι → Nat) (i0 : ι) {a : Act} {w : World} (h₀ : I i0 a w)
    (round : ∀ i a w, I i a w → c.wp P (Exit.then (fun a' w' => ∃ j, I j a' w' ∧ μ j < μ i) R) a w) : (Code.loop c).wp P R a w := by
  intro b k cs
  have key : ∀ n i a w, μ i = n → I i a w → ∃ e a' w', R e a' w' ∧ Arrives P (lone (b.at a (.code c :: .inLoop c :: k)) cs w) b k cs e a' w' := by
    intro n
    induction n using Nat.strongRecOn with
    | _ n ih =>
      intro i a w hn hI
      obtain ⟨e, a₁, w₁, hq, harr⟩ := round i a w hI b (.inLoop c :: k) cs
      cases e with
      | normal =>
        obtain ⟨j, hI₁, hlt⟩ := hq
        obtain ⟨e₂, a₂, w₂, hq₂, harr₂⟩ := ih (μ j) (hn ▸ hlt) j a₁ w₁ rfl hI₁
        exact ⟨e₂, a₂, w₂, hq₂, .of_steps (Steps.trans harr (.one step_inLoop)) harr₂⟩
      | exit id => exact ⟨_, a₁, w₁, hq, .pass (x := .inLoop c) rfl (fun _ _ => .inl (by simp)) harr⟩
      | goto l => exact ⟨_, a₁, w₁, hq, .pass (x := .inLoop c) rfl (fun _ _ => .inl (by simp)) harr⟩
      | ret => exact ⟨_, a₁, w₁, hq, .pass (x := .inLoop c) rfl (fun _ _ => .inl (by simp)) harr⟩
      | panic ch => exact ⟨_, a₁, w₁, hq, .pass (x := .inLoop c) rfl (fun _ _ => .inl (by simp)) harr⟩
      | outgrown => exact ⟨_, a₁, w₁, hq, .pass (x := .inLoop c) rfl (fun _ _ => .inl (by simp)) harr⟩
  obtain ⟨e, a', w', hq, harr⟩ := key _ i0 a w rfl h₀
  exact ⟨e, a', w', hq, .of_steps (.one step_loop) harr⟩

/-- A loop: at its head the state is 'I i' for some i. -/
theorem AWP.loop {c : Code} {ι : Type} (I : ι → AS) (μ : ι → Nat) (i0 : ι) (h0 : Wk C n s (I i0)) (round : ∀ i, AWP P C n c (thenA (fun s' => ∃ j, Wk C n s' (I j) ∧ μ j < μ i) Q) (I i)) : AWP P C n (.loop c) Q s := fun m a w hr => by
  refine wp_loop_ix (fun i a w => ∃ m, RA C n (I i) m a w) μ i0 (h0 m a w hr) fun i a w hi => ?_
  obtain ⟨m1, h1⟩ := hi
  refine wp_mono (round i m1 a w h1) fun e a' w' => ?_; rintro ⟨s', m', h2, h3⟩
  cases e with
  | normal =>
    obtain ⟨j, hj, hlt⟩ := h2
    exact ⟨j, hj m' a' w' h3, hlt⟩
  | _ => exact ⟨s', m', h2, h3⟩

theorem AWP.region {id : Nat} {ops : Array Oper} (h : AL P C n ops ops.toList Q s) : AWP P C n (.region id ops false) Q s := fun m a w hr => wp_region_list (h m a w hr)
theorem AWP.region_lit {id : Nat} {l : List Oper} (h : AL P C n l.toArray l Q s) : AWP P C n (.region id l.toArray false) Q s := AWP.region (by simpa using h)
theorem AL.nil {ops : Array Oper} (h : Q .normal s) : AL P C n ops [] Q s := fun m _ _ hr => wpList_nil ⟨s, m, h, hr⟩
theorem AL.cons {ops : Array Oper} {o : Oper} {rest : List Oper} {s1 : AS} (hg : o.guard = none) (ho : AOp P C n o s s1) (h : AL P C n ops rest Q s1) : AL P C n ops (o :: rest) Q s := fun m a w hr =>
  wpList_plain hg fun K hK => ho m a w hr K _ fun m' a' w' h' => hK a' w' (h m' a' w' h')

theorem RA.yielded {a : Act} {m : Lay} {w : World} (hr : RA C n s m a w) {ops : Array Oper} {j d : Nat} {b : Bool} (hj : (ops[j]?).bind (·.dst) = some d) (hb : s.lk d = some (.t (.leaf (.bool b)))) : yielded ops a.tmps j = some b := by
  obtain ⟨v, hv, hrv⟩ := hr.env d _ hb
  obtain ⟨rfl, -⟩ := RepM.leaf_eq hrv
  simp [Go.yielded, hj, hv]
theorem AL.skip {ops : Array Oper} {o : Oper} {rest : List Oper} {j d : Nat} {b c : Bool} (hg : o.guard = some (j, c)) (hj : (ops[j]?).bind (·.dst) = some d) (hb : s.lk d = some (.t (.leaf (.bool b)))) (hbc : (b == c) = false) (h : AL P C n ops rest Q (s.delO o.dst)) : AL P C n ops (o :: rest) Q s := fun m a w hr =>
  wpList_step fun K hK => by
    rw [if_neg (by simpa [Region.wanted, hg, hr.yielded hj hb] using hbc)]
    exact hK _ _ (h m _ w (hr.del o.dst undef))

/-- An operation that yields a value and leaves the memory alone. -/
theorem AOp.quiet {o : Oper} {p : PV} (hd : ∀ x, o.dst = some x → x < n) (h : ∀ m a w, RA C n s m a w → ∃ v, (execOp a.eval o).run P w = .ok (.value v) w ∧ RV (okA C.av s.st m) s.st m w p v) : AOp P C n o s (s.putO o.dst p) := fun m a w hr K Q hK => by
  obtain ⟨v, hv, hp⟩ := h m a w hr
  unfold Oper.wp
  rw [hv]
  exact hK m _ w (hr.put hd hp)
end

/-- A call: whatever the memory, the function returns 'res', the boxes and rows that it was handed stand as in the new store. -/
def ACalls (P : Program) (f : FuncId) (args : List PV) (pre : Sto) (R : PV → Sto → Prop) : Prop :=
  ∀ av m w vals, StoOk av pre m w → RVL (okA av pre m) pre m w args vals →
    Calls P f ⟨vals⟩ w fun e w' => ∃ res st' m' v, e = .returned v ∧ R res st' ∧ StoOk av st' m' w' ∧ Ev pre m w st' m' w' ∧ RV (okA av st' m') st' m' w' res v

def argEnv : Nat → List PV → List (Nat × PV)
  | _, [] => []
  | i, p :: ps => (i, p) :: argEnv (i + 1) ps
theorem argEnv_lookup {av : Nat → Nat → Prop} {st : Sto} {m : Lay} {w : World} : ∀ (ps : List PV) (vs : List Value) (k i : Nat) (p : PV), RVL (okA av st m) st m w ps vs → (argEnv k ps).lookup i = some p → ∃ v, k ≤ i ∧ vs[i - k]? = some v ∧ RV (okA av st m) st m w p v
  | [], [], _, _, _, _, h => by simp [argEnv] at h
  | q :: ps, u :: vs, k, i, p, hr, h => by
    rw [argEnv, List.lookup_cons] at h
    by_cases hik : i = k
    · subst hik
      simp at h
      subst h
      exact ⟨u, Nat.le_refl _, by simp, hr.1⟩
    · rw [show (i == k) = false by simp [hik]] at h
      obtain ⟨v, h1, h2, h3⟩ := argEnv_lookup ps vs (k + 1) i p hr.2 h
      exact ⟨v, by omega, by rw [show i - k = (i - (k + 1)) + 1 by omega]; simpa using h2, h3⟩
  | [], _ :: _, _, _, _, hr, _ => hr.elim
  | _ :: _, [], _, _, _, hr, _ => hr.elim

/-- What a function's end says: its results, and the boxes and rows that stay. -/
def Ends (P : Program) (C : Ctx) (n : Nat) (fn : Func) (R : PV → Sto → Prop) (e : Exit) (s : AS) : Prop :=
  (e = .normal ∨ e = .ret) ∧ ∀ m a w, RA C n s m a w → ∃ res st' m' v, (results fn a.tmps).run P w = .ok v w ∧ R res st' ∧ StoOk C.av st' m' w ∧ Ev C.st C.m C.w st' m' w ∧ RV (okA C.av st' m') st' m' w res v

theorem ACalls.intro {P : Program} {f : FuncId} {fn : Func} {c : Code} {args : List PV} {pre : Sto} {R : PV → Sto → Prop} (hf : P.funcs[f]? = some fn) (hb : fn.body = some c) (hn : args.length ≤ fn.ntmps)
    (h : ∀ C : Ctx, C.st = pre → AWP P C fn.ntmps c (Ends P C fn.ntmps fn R) ⟨argEnv 0 args, pre⟩) : ACalls P f args pre R := by
  intro av m w vals hst hargs
  refine calls_of_wp hf hb ?_
  have hl : args.length = vals.length := hargs.length
  have hra : RA ⟨av, pre, m, w⟩ fn.ntmps ⟨argEnv 0 args, pre⟩ m { tmps := ⟨vals⟩ ++ Array.replicate (fn.ntmps - (⟨vals⟩ : Array Value).size) undef, defers := [] } w := by
    refine ⟨rfl, by simp; omega, hst, fun i p hp => ?_, Ev.refl _ _ _⟩
    obtain ⟨v, -, h2, h3⟩ := argEnv_lookup args vals 0 i p hargs hp
    refine ⟨v, ?_, h3⟩
    have hi : i < vals.length := (List.getElem?_eq_some_iff.1 (by simpa using h2)).1
    rw [Array.getElem?_append_left (by simpa using hi)]
    simpa using h2
  refine wp_mono (h ⟨av, pre, m, w⟩ rfl m _ w hra) fun e a' w' => ?_; rintro ⟨s', m', ⟨he, hends⟩, hr⟩
  obtain ⟨res, st', m2, v, h1, h2, h3, h4, h5⟩ := hends m' a' w' hr
  rcases he with rfl | rfl
  · exact ⟨hr.dfr, v, h1, res, st', m2, v, rfl, h2, h3, h4, h5⟩
  · exact ⟨hr.dfr, v, h1, res, st', m2, v, rfl, h2, h3, h4, h5⟩

end Go.Proofs.YtmpepccpnnldoaaDoor
