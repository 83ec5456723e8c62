/- Words, rules and walks of several kinds, laid together: Core, Own, Data, Open, Typed, Ctr, BType, BBound, BLeaf, BAll, Reg, Mark, Foc, Marks, LayB, Plain, SL, TyEq0, TyEq, TyPlain, Acc, TyFn, Each, WrS, Pm, Pm2, Pm3. No conditions but those that each theorem states. -/
import Derived.WalkKit
import Derived.WalkSpells
import Derived.WalkLawsBesides
import Derived.Lib.Hide
import Derived.Deep.Slices
import Derived.StillTailTactics
import Derived.ProofKit
import Derived.Test.YtmpepccpnnldoaaProg
import Derived.BigQuiet
import Derived.Deep.QuietTactic
import Derived.Deep.RegionHeld3
import Derived.Laws.IdiomStrings
import Derived.WalkArith
import Derived.Shelf.Strings.BuilderK
import Derived.Shelf.Small.Strs
import Derived.Deep.AppendLies
import Derived.WideShapes4
import Derived.IntWalk
set_option linter.unusedSimpArgs false
set_option linter.unusedVariables false
namespace Go.Proofs.Ytmpepccpnnldoaa
open Go.RowKit

/-- What a datum looks like in cells: a plain cell, or a slice whose elements have 'sz' cells each. -/
inductive Tr where
  | leaf (v : Value)
  | row (sz : Nat) (es : List (List Tr))

def LeafOk : Value → Prop
  | .int k n => (Lit.int k n).wf = true
  | .string s => s.size ≤ maxLen
  | .bool _ => True
  | _ => False

inductive Rep (w : World) : Tr → Value → Prop
  | leaf {v : Value} : LeafOk v → Rep w (.leaf v) v
  | row {sz : Nat} {es : List (List Tr)} {a : Option Addr} {cap : Nat} (c : Nat → Nat → Value) : es.length ≤ cap → cap ≤ maxLen →
      (es ≠ [] → ∃ b off, a = some ⟨b, off, none⟩ ∧ b < w.heap.size ∧ ∀ i e, es[i]? = some e → ∀ j d, e[j]? = some d → w.cell? ⟨b, off + i * sz + j, none⟩ = some (c i j)) →
      (∀ i e, es[i]? = some e → ∀ j d, e[j]? = some d → Rep w d (c i j)) → Rep w (.row sz es) (.slice a es.length cap)

def RepL (w : World) : List Tr → List Value → Prop
  | [], [] => True
  | t :: ts, v :: vs => Rep w t v ∧ RepL w ts vs
  | _, _ => False

/-- A later world: whatever was there is there still. -/
abbrev Ext (w w' : World) : Prop := Below w.heap.size w w'

theorem Ext.refl (w : World) : Ext w w := Below.refl _ _
theorem Ext.trans {a b c : World} (h : Ext a b) (k : Ext b c) : Ext a c := Below.trans h (k.mono h.size)
theorem Ext.alloc {a w : World} (h : Ext a w) (o : Obj) : Ext a (w.alloc o) := Below.alloc h h.size o
theorem Ext.drew {a w : World} (h : Ext a w) : Ext a w.drew := Below.drew h
theorem Ext.set {a w : World} (h : Ext a w) {p : Addr} (hp : a.heap.size ≤ p.block) (u : Value) : Ext a (w.setCell p u) := Below.setCell h hp u

theorem Rep.ext {w w' : World} {t : Tr} {v : Value} (h : Rep w t v) (hx : Ext w w') : Rep w' t v := by
  induction h with
  | leaf h => exact .leaf h
  | row c h1 h2 h3 _ ih =>
    refine .row c h1 h2 (fun hne => ?_) ih
    obtain ⟨b, off, ha, hb, hc⟩ := h3 hne
    exact ⟨b, off, ha, Nat.lt_of_lt_of_le hb hx.size, fun i e he j d hd => (hx.cell (p := ⟨b, _, none⟩) hb).trans (hc i e he j d hd)⟩

theorem RepL.ext {w w' : World} {ts : List Tr} {vs : List Value} (h : RepL w ts vs) (hx : Ext w w') : RepL w' ts vs := by
  induction ts generalizing vs with
  | nil => cases vs <;> simp_all [RepL]
  | cons t ts ih =>
    cases vs with
    | nil => simp [RepL] at h
    | cons v vs => exact ⟨h.1.ext hx, ih h.2⟩

theorem RepL.of_fn {w : World} {c : Nat → Value} : ∀ {ts : List Tr} (k : Nat), (∀ (j : Nat) d, ts[j]? = some d → Rep w d (c (k + j))) → RepL w ts ((List.range' k ts.length).map c) := by
  intro ts
  induction ts with
  | nil => intro k _; simp [RepL]
  | cons t ts ih =>
    intro k h
    refine ⟨h 0 t rfl, ?_⟩
    exact ih (k + 1) (fun j d hd => by have := h (j + 1) d (by simpa using hd); rwa [show k + 1 + j = k + (j + 1) by omega])

/-- Element k of a slice: its address, its cells, and that these are its datum's. -/
theorem Rep.at {w : World} {sz : Nat} {es : List (List Tr)} {s : Value} {k : Nat} {e : List Tr} (h : Rep w (.row sz es) s) (hk : es[k]? = some e) :
    ∃ b off cap cs, s = .slice (some ⟨b, off, none⟩) es.length cap ∧ b < w.heap.size ∧ RepL w e cs ∧ ∀ j v, cs[j]? = some v → w.cell? ⟨b, off + k * sz + j, none⟩ = some v := by
  cases h with
  | row c h1 h2 h3 h4 =>
    obtain ⟨b, off, rfl, hb, hc⟩ := h3 (by rintro rfl; simp at hk)
    refine ⟨b, off, _, (List.range' 0 e.length).map (c k), rfl, hb, RepL.of_fn 0 (fun j d hd => by simpa using h4 k e hk j d hd), fun j v hv => ?_⟩
    rw [List.getElem?_map] at hv
    rcases hj : e[j]? with _ | d
    · rw [List.getElem?_eq_none_iff] at hj
      rw [List.getElem?_eq_none (by simpa using hj)] at hv
      simp at hv
    · have hl : j < e.length := (List.getElem?_eq_some_iff.1 hj).1
      rw [List.getElem?_range' hl] at hv
      simp at hv
      rw [hc k e hk j d hj, hv]

theorem Rep.shape {w : World} {sz : Nat} {es : List (List Tr)} {s : Value} (h : Rep w (.row sz es) s) : ∃ a cap, s = .slice a es.length cap ∧ es.length ≤ cap ∧ cap ≤ maxLen := by
  cases h with
  | row c h1 h2 h3 h4 => exact ⟨_, _, rfl, h1, h2⟩

theorem Rep.leaf_eq {w : World} {v u : Value} (h : Rep w (.leaf v) u) : u = v ∧ LeafOk v := by
  cases h with
  | leaf h => exact ⟨rfl, h⟩

theorem RepL.append {w : World} {ts us : List Tr} {vs xs : List Value} (h : RepL w ts vs) (k : RepL w us xs) : RepL w (ts ++ us) (vs ++ xs) := by
  induction ts generalizing vs with
  | nil => cases vs <;> simp_all [RepL]
  | cons t ts ih =>
    cases vs with
    | nil => simp [RepL] at h
    | cons v vs => exact ⟨h.1, ih h.2⟩

theorem RepL.length {w : World} {ts : List Tr} {vs : List Value} (h : RepL w ts vs) : ts.length = vs.length := by
  induction ts generalizing vs with
  | nil => cases vs <;> simp_all [RepL]
  | cons t ts ih =>
    cases vs with
    | nil => simp [RepL] at h
    | cons v vs => simp [ih h.2]

theorem RepL.get {w : World} {ts : List Tr} {vs : List Value} (h : RepL w ts vs) {j : Nat} {d : Tr} (hd : ts[j]? = some d) : ∃ v, vs[j]? = some v ∧ Rep w d v := by
  induction ts generalizing vs j with
  | nil => simp at hd
  | cons t ts ih =>
    cases vs with
    | nil => simp [RepL] at h
    | cons v vs =>
      cases j with
      | zero => simp at hd; exact ⟨v, rfl, hd ▸ h.1⟩
      | succ j => exact ih h.2 (by simpa using hd)

/-- A block of the call's own, known whole. -/
def OB (w : World) (g : Nat) (t : TypeId) (cs : Array Value) : Prop := w.heap[g]? = some (.cells cs t (0, 0))
theorem OB.lt {w : World} {g : Nat} {t : TypeId} {cs : Array Value} (h : OB w g t cs) : g < w.heap.size := by
  rcases Nat.lt_or_ge g w.heap.size with hlt | hge
  · exact hlt
  · unfold OB at h; rw [Array.getElem?_eq_none hge] at h; cases h
theorem OB.new (w : World) (t : TypeId) (cs : Array Value) : OB (w.alloc (.cells cs t)) w.heap.size t cs := heap_alloc_new w _
theorem OB.ext {w w' : World} {g : Nat} {t : TypeId} {cs : Array Value} (h : OB w g t cs) (hx : Ext w w') : OB w' g t cs := (hx.block g h.lt).trans h
theorem OB.cell {w : World} {g : Nat} {t : TypeId} {cs : Array Value} (h : OB w g t cs) : ∀ i, w.cell? ⟨g, i, none⟩ = cs[i]? := fun i => cell_of_row w g i cs t (0, 0) h
theorem Rep.at2 {w : World} {sz : Nat} {es : List (List Tr)} {a : Option Addr} {len cap : Nat} {k : Nat} {e : List Tr} (h : Rep w (.row sz es) (.slice a len cap)) (hk : es[k]? = some e) :
    ∃ b off cs, a = some ⟨b, off, none⟩ ∧ b < w.heap.size ∧ RepL w e cs ∧ ∀ j v, cs[j]? = some v → w.cell? ⟨b, off + k * sz + j, none⟩ = some v := by
  obtain ⟨b, off, cap', cs, hs, h1, h2, h3⟩ := h.at hk
  injection hs with hs
  exact ⟨b, off, cs, hs, h1, h2, h3⟩

/-- A struct of whatever number of cells, read at its address. -/
theorem run_loadVar_rep {P : Program} (w : World) (b off : Nat) (ty : TypeId) (cs : List Value) (fs : Array Field) (hu : P.underlying ty = some (.struct fs)) (hi : (P.info? ty).map (·.size) = some cs.length)
    (hc : ∀ j v, cs[j]? = some v → w.cell? ⟨b, off + j, none⟩ = some v) : (loadVar ty ⟨b, off, none⟩).run P w = .ok (.agg ⟨cs⟩) w := by
  have hl : (loadCells ⟨b, off, none⟩ cs.length).run P w = .ok cs.toArray w :=
    run_loadCells_list (P := P) w ⟨b, off, none⟩ cs (fun j v hv => by
      have hadd : (⟨b, off, none⟩ : Addr).add j = ⟨b, off + j, none⟩ := by unfold Addr.add; split <;> simp_all
      rw [hadd]; exact hc j v hv)
  cases hq : P.info? ty with
  | none => simp [hq] at hi
  | some i =>
    have hs : i.size = cs.length := by simpa [hq] using hi
    have hagg : (isAgg ty).run P w = .ok true w := by
      unfold isAgg
      rw [Sem.run_bind, run_underlying hu w]
      simp
    simp [loadVar, Sem.run_bind, hagg, Go.sizeOf, typeInfo, hq, hs, hl]

theorem wpList_load_rep {P : Program} {ops : Array Oper} {rest : List Oper} {o : Oper} {a : Act} {w : World} {Q : Exit → Act → World → Prop} (hgd : o.guard = none) (ty : TypeId) (x : Operand) (ho : o.op = .load ty x)
    (b off : Nat) (hx : a.eval x = .pointer (some ⟨b, off, none⟩)) (cs : List Value) (fs : Array Field) (hu : P.underlying ty = some (.struct fs)) (hi : (P.info? ty).map (·.size) = some cs.length)
    (hc : ∀ j v, cs[j]? = some v → w.cell? ⟨b, off + j, none⟩ = some v) (h : wpList P ops Q rest (a.put o.dst (.agg ⟨cs⟩)) w) : wpList P ops Q (o :: rest) a w :=
  wpList_plain hgd fun _ hK => by
    unfold Oper.wp execOp
    simp only [ho, hx, Instr.loadAt, Instr.sureAddr, Sem.run_bind, Sem.run_pure, Result.andThen_ok, run_loadVar_rep w b off ty cs fs hu hi hc]
    exact hK _ _ h

theorem wpStill_load_rep {P : Program} {ops : Array Oper} {rest : List Oper} {o : Oper} {a : Act} {w : World} {Q : Act → Prop} (hgd : o.guard = none) (ty : TypeId) (x : Operand) (ho : o.op = .load ty x)
    (b off : Nat) (hx : a.eval x = .pointer (some ⟨b, off, none⟩)) (cs : List Value) (fs : Array Field) (hu : P.underlying ty = some (.struct fs)) (hi : (P.info? ty).map (·.size) = some cs.length)
    (hc : ∀ j v, cs[j]? = some v → w.cell? ⟨b, off + j, none⟩ = some v) (h : wpStill P ops w Q rest (a.put o.dst (.agg ⟨cs⟩))) : wpStill P ops w Q (o :: rest) a := by
  refine wpStill_step fun K hK => ?_
  have hw : Region.wanted o (yielded ops a.tmps) = true := by simp [Region.wanted, hgd]
  rw [if_pos hw]
  unfold Oper.still execOp
  simp only [ho, hx, Instr.loadAt, Instr.sureAddr, Sem.run_bind, Sem.run_pure, Result.andThen_ok, run_loadVar_rep w b off ty cs fs hu hi hc]
  exact ⟨rfl, hK _ h⟩

end Go.Proofs.Ytmpepccpnnldoaa

namespace Go.Proofs.Ytmpepccpnnldoaa
open Go.RowKit

/-- The tree's blocks lie in S, none is met twice, and none is frozen. -/
inductive Own (w : World) : Tr → Value → (Nat → Prop) → Prop
  | leaf {v : Value} {S : Nat → Prop} : LeafOk v → Own w (.leaf v) v S
  | row {sz : Nat} {es : List (List Tr)} {a : Option Addr} {cap : Nat} {S : Nat → Prop} (c : Nat → Nat → Value) (T : Nat → Nat → Nat → Prop) : es.length ≤ cap → cap ≤ maxLen →
      (es ≠ [] → ∃ b off E arr, a = some ⟨b, off, none⟩ ∧ OB w b E arr ∧ S b ∧ (∀ i e, es[i]? = some e → ∀ j d, e[j]? = some d → arr[off + i * sz + j]? = some (c i j) ∧ ∀ x, T i j x → x ≠ b)) →
      (∀ i e, es[i]? = some e → ∀ j d, e[j]? = some d → Own w d (c i j) (T i j)) →
      (∀ i e, es[i]? = some e → ∀ j d, e[j]? = some d → ∀ x, T i j x → S x) →
      (∀ i e, es[i]? = some e → ∀ j d, e[j]? = some d → ∀ i' e', es[i']? = some e' → ∀ j' d', e'[j']? = some d' → (i = i' → j ≠ j') → ∀ x, T i j x → T i' j' x → False) →
      Own w (.row sz es) (.slice a es.length cap) S

def OwnL (w : World) (ts : List Tr) (vs : List Value) (S : Nat → Prop) : Prop :=
  vs.length = ts.length ∧ ∃ T : Nat → Nat → Prop, (∀ j d, ts[j]? = some d → ∃ v, vs[j]? = some v ∧ Own w d v (T j)) ∧ (∀ j d, ts[j]? = some d → ∀ x, T j x → S x) ∧
    (∀ j d, ts[j]? = some d → ∀ j' d', ts[j']? = some d' → j ≠ j' → ∀ x, T j x → T j' x → False)

theorem Own.rep {w : World} {t : Tr} {v : Value} {S : Nat → Prop} (h : Own w t v S) : Rep w t v := by
  induction h with
  | leaf h => exact .leaf h
  | row c T h1 h2 h3 _ _ _ ih =>
    refine .row c h1 h2 (fun hne => ?_) ih
    obtain ⟨b, off, E, arr, ha, hb, _, hc⟩ := h3 hne
    exact ⟨b, off, ha, hb.lt, fun i e he j d hd => by rw [hb.cell]; exact (hc i e he j d hd).1⟩

theorem Own.keep {w w' : World} {t : Tr} {v : Value} {S : Nat → Prop} (h : Own w t v S) (hx : ∀ b, S b → b < w.heap.size → w'.heap[b]? = w.heap[b]?) : Own w' t v S := by
  induction h with
  | leaf h => exact .leaf h
  | row c T h1 h2 h3 _ h5 h6 ih =>
    refine .row c T h1 h2 (fun hne => ?_) (fun i e he j d hd => ih i e he j d hd fun b hb => hx b (h5 i e he j d hd b hb)) h5 h6
    obtain ⟨b, off, E, arr, ha, hb, hs, hc⟩ := h3 hne
    exact ⟨b, off, E, arr, ha, (hx b hs hb.lt).trans hb, hs, hc⟩

theorem Own.ext {w w' : World} {t : Tr} {v : Value} {S : Nat → Prop} (h : Own w t v S) (hx : Ext w w') : Own w' t v S := h.keep fun b _ hb => hx.block b hb

theorem Own.mono {w : World} {t : Tr} {v : Value} {S S' : Nat → Prop} (h : Own w t v S) (hS : ∀ x, S x → S' x) : Own w t v S' := by
  cases h with
  | leaf h => exact .leaf h
  | row c T h1 h2 h3 h4 h5 h6 =>
    refine .row c T h1 h2 (fun hne => ?_) h4 (fun i e he j d hd x hx => hS x (h5 i e he j d hd x hx)) h6
    obtain ⟨b, off, E, arr, ha, hb, hs, hc⟩ := h3 hne
    exact ⟨b, off, E, arr, ha, hb, hS b hs, hc⟩

theorem RepL.of_get {w : World} : ∀ {ts : List Tr} {vs : List Value}, vs.length = ts.length → (∀ (j : Nat) (d : Tr), ts[j]? = some d → ∃ v, vs[j]? = some v ∧ Rep w d v) → RepL w ts vs
  | [], [], _, _ => trivial
  | [], _ :: _, h, _ => by simp at h
  | _ :: _, [], h, _ => by simp at h
  | t :: ts, v :: vs, h, k => by
    obtain ⟨u, hu, hr⟩ := k 0 t rfl
    simp at hu
    subst hu
    exact ⟨hr, RepL.of_get (by simpa using h) fun j d hd => by have := k (j + 1) d (by simpa using hd); simpa using this⟩

theorem OwnL.rep {w : World} {ts : List Tr} {vs : List Value} {S : Nat → Prop} (h : OwnL w ts vs S) : RepL w ts vs := by
  obtain ⟨hl, T, h1, _, _⟩ := h
  exact RepL.of_get hl fun j d hd => by obtain ⟨v, hv, ho⟩ := h1 j d hd; exact ⟨v, hv, ho.rep⟩

theorem OwnL.keep {w w' : World} {ts : List Tr} {vs : List Value} {S : Nat → Prop} (h : OwnL w ts vs S) (hx : ∀ b, S b → b < w.heap.size → w'.heap[b]? = w.heap[b]?) : OwnL w' ts vs S := by
  obtain ⟨hl, T, h1, h2, h3⟩ := h
  exact ⟨hl, T, fun j d hd => by obtain ⟨v, hv, ho⟩ := h1 j d hd; exact ⟨v, hv, ho.keep fun b hb => hx b (h2 j d hd b hb)⟩, h2, h3⟩
theorem OwnL.ext {w w' : World} {ts : List Tr} {vs : List Value} {S : Nat → Prop} (h : OwnL w ts vs S) (hx : Ext w w') : OwnL w' ts vs S := h.keep fun b _ hb => hx.block b hb
theorem OwnL.mono {w : World} {ts : List Tr} {vs : List Value} {S S' : Nat → Prop} (h : OwnL w ts vs S) (hS : ∀ x, S x → S' x) : OwnL w ts vs S' := by
  obtain ⟨hl, T, h1, h2, h3⟩ := h
  exact ⟨hl, T, h1, fun j d hd x hx => hS x (h2 j d hd x hx), h3⟩

/-- What has been made between two worlds. -/
def Between (w w' : World) (x : Nat) : Prop := w.heap.size ≤ x ∧ x < w'.heap.size

/-- The first k elements of a slice that is being filled. -/
def Part (w : World) (B : Nat) (arr : Array Value) (sz : Nat) (es : List (List Tr)) (k : Nat) : Prop :=
  ∃ U : Nat → Nat → Prop, (∀ i, i < k → ∀ e, es[i]? = some e → OwnL w e ((arr.toList.drop (i * sz)).take sz) (U i)) ∧ (∀ i, i < k → ∀ x, U i x → B < x ∧ x < w.heap.size) ∧
    (∀ i, i < k → ∀ i', i' < k → i ≠ i' → ∀ x, U i x → U i' x → False)

theorem Part.zero (w : World) (B : Nat) (arr : Array Value) (sz : Nat) (es : List (List Tr)) : Part w B arr sz es 0 := ⟨fun _ _ => False, by simp, by simp, by simp⟩

def splice (arr : Array Value) (o : Nat) (vs : List Value) : Array Value := (arr.toList.take o ++ vs ++ arr.toList.drop (o + vs.length)).toArray

theorem splice_size {arr : Array Value} {o : Nat} {vs : List Value} (h : o + vs.length ≤ arr.size) : (splice arr o vs).size = arr.size := by
  simp [splice]; omega

theorem splice_other {arr : Array Value} {o : Nat} {vs : List Value} {i sz : Nat} (h : o + vs.length ≤ arr.size) (hi : i + sz ≤ o) :
    ((splice arr o vs).toList.drop i).take sz = (arr.toList.drop i).take sz := by
  apply List.ext_getElem?
  intro j
  simp only [splice, List.getElem?_take, List.getElem?_drop]
  split
  · rw [List.append_assoc, List.getElem?_append_left (by simp; omega), List.getElem?_take, if_pos (by omega)]
  · rfl
theorem splice_same {arr : Array Value} {o : Nat} {vs : List Value} (h : o + vs.length ≤ arr.size) : ((splice arr o vs).toList.drop o).take vs.length = vs := by
  have h1 : o ≤ arr.size := by omega
  simp [splice, List.length_take, Nat.min_eq_left h1]

theorem Part.step {w w1 w2 : World} {B T : Nat} {arr : Array Value} {sz k : Nat} {es : List (List Tr)} {e : List Tr} {cs : List Value} (h : Part w B arr sz es k) (hB : B < w.heap.size) (hx : Ext w w1)
    (he : es[k]? = some e) (ho : OwnL w1 e cs (Between w w1)) (hl : cs.length = sz) (hsz : arr.size = es.length * sz)
    (hg : w1.grownBy w2 (some B)) (_hob : OB w2 B T (splice arr (k * sz) cs)) : Part w2 B (splice arr (k * sz) cs) sz es (k + 1) := by
  obtain ⟨U, h1, h2, h3⟩ := h
  have hk : k < es.length := (List.getElem?_eq_some_iff.1 he).1
  have hfit : k * sz + cs.length ≤ arr.size := by rw [hl, hsz, ← Nat.succ_mul]; exact Nat.mul_le_mul_right _ hk
  have hwx : ∀ x, x ≠ B → x < w.heap.size → w2.heap[x]? = w.heap[x]? := fun x hne hlt =>
    (hg.block x (Nat.lt_of_lt_of_le hlt hx.size) (by simpa using hne)).trans (hx.block x hlt)
  refine ⟨fun i => if i = k then Between w w1 else U i, ?_, ?_, ?_⟩
  · intro i hi e' he'
    by_cases hik : i = k
    · subst hik
      have : e' = e := by rw [he] at he'; exact (Option.some.inj he').symm
      subst this
      simp only [if_true]
      have hs := splice_same hfit
      rw [hl] at hs
      rw [hs]
      exact ho.keep fun b hb hlt => hg.block b hlt (by have := hb.1; simp; omega)
    · simp only [if_neg hik]
      have hlt : i < k := by omega
      rw [splice_other hfit (by rw [← Nat.succ_mul]; exact Nat.mul_le_mul_right _ hlt)]
      exact (h1 i hlt e' he').keep fun b hb hlt' => hwx b (by have := (h2 i hlt b hb).1; omega) hlt'
  · intro i hi x hxU
    by_cases hik : i = k
    · simp only [if_pos hik] at hxU
      exact ⟨by have := hxU.1; omega, Nat.lt_of_lt_of_le hxU.2 hg.size⟩
    · simp only [if_neg hik] at hxU
      obtain ⟨p, q⟩ := h2 i (by omega) x hxU
      exact ⟨p, by have := hx.size; have := hg.size; omega⟩
  · intro i hi i' hi' hne x hxU hxU'
    by_cases hik : i = k
    · by_cases hik' : i' = k
      · omega
      · simp only [if_pos hik] at hxU
        simp only [if_neg hik'] at hxU'
        have := (h2 i' (by omega) x hxU').2
        have := hxU.1
        omega
    · by_cases hik' : i' = k
      · simp only [if_neg hik] at hxU
        simp only [if_pos hik'] at hxU'
        have := (h2 i (by omega) x hxU).2
        have := hxU'.1
        omega
      · simp only [if_neg hik] at hxU
        simp only [if_neg hik'] at hxU'
        exact h3 i (by omega) i' (by omega) hne x hxU hxU'

theorem Part.keep {w w' : World} {B : Nat} {arr : Array Value} {sz k : Nat} {es : List (List Tr)} (h : Part w B arr sz es k) (hx : Ext w w') : Part w' B arr sz es k := by
  obtain ⟨U, h1, h2, h3⟩ := h
  exact ⟨U, fun i hi e he => (h1 i hi e he).ext hx, fun i hi x hxU => ⟨(h2 i hi x hxU).1, Nat.lt_of_lt_of_le (h2 i hi x hxU).2 hx.size⟩, h3⟩

theorem LeafOk.one {v : Value} (h : LeafOk v) : v.oneCell' = true := by cases v <;> simp_all [LeafOk, Value.oneCell']
theorem Rep.one {w : World} {t : Tr} {v : Value} (h : Rep w t v) : v.oneCell' = true := by
  cases h with
  | leaf h => exact h.one
  | row => rfl
theorem RepL.one {w : World} : ∀ {ts : List Tr} {vs : List Value}, RepL w ts vs → ∀ v ∈ vs, v.oneCell' = true
  | [], [], _, v, hv => by simp at hv
  | _ :: _, _ :: _, h, v, hv => by
    rcases List.mem_cons.1 hv with rfl | hv
    · exact h.1.one
    · exact RepL.one h.2 v hv

/-- A struct of whatever number of cells, stored into a block of the call's own. -/
theorem wpList_store_rep {P : Program} {ops : Array Oper} {rest : List Oper} {o : Oper} {a : Act} {w : World} {Q : Exit → Act → World → Prop} (hgd : o.guard = none) (ty : TypeId) (x y : Operand) (ho : o.op = .store ty x y)
    (B off : Nat) (hx : a.eval x = .pointer (some ⟨B, off, none⟩)) (cs : List Value) (hy : a.eval y = .agg ⟨cs⟩) (T : TypeId) (arr : Array Value) (hob : OB w B T arr) (hi : (P.info? ty).map (·.size) = some cs.length)
    (hfit : off + cs.length ≤ arr.size) (h1 : ∀ v ∈ cs, v.oneCell' = true)
    (h : ∀ w', OB w' B T (splice arr off cs) → w.grownBy w' (some B) → w'.heap.size = w.heap.size → wpList P ops Q rest (a.put o.dst undef) w') : wpList P ops Q (o :: rest) a w :=
  wpList_plain hgd fun _ hK => by
    have hst := run_storeCells_at P B off T cs 0 arr w hob (by simpa using hfit) h1
    cases hq : P.info? ty with
    | none => simp [hq] at hi
    | some i =>
      have hs : i.size = cs.length := by simpa [hq] using hi
      have hrun : (storeVar ty ⟨B, off, none⟩ (.agg ⟨cs⟩)).run P w = .ok () (w.setRow B (splice arr off cs)) := by
        simp [storeVar, Go.sizeOf, typeInfo, hq, Value.cells, hs, hst, splice]
      unfold Oper.wp execOp
      simp only [ho, hx, hy, Instr.storeAt, Instr.sureAddr, Sem.run_bind, Sem.run_pure, Result.andThen_ok, hrun]
      exact hK _ _ (h _ (setRow_heap w B arr _ T _ hob) ⟨rfl, rfl, rfl, by simp, fun k _ hk => setRow_other w B k _ (fun e => hk (by rw [e]))⟩ (by simp))

/-- Three blocks of the call's own: the parameter's box, the result's slot, the variable. -/
structure Three (w : World) (B0 : Nat) (T0 : TypeId) (a0 : Array Value) (B1 : Nat) (T1 : TypeId) (a1 : Array Value) (B2 : Nat) (T2 : TypeId) (a2 : Array Value) : Prop where
  o0 : OB w B0 T0 a0
  o1 : OB w B1 T1 a1
  o2 : OB w B2 T2 a2
theorem Three.ext {w w' : World} {B0 B1 B2 : Nat} {T0 T1 T2 : TypeId} {a0 a1 a2 : Array Value} (h : Three w B0 T0 a0 B1 T1 a1 B2 T2 a2) (hx : Ext w w') : Three w' B0 T0 a0 B1 T1 a1 B2 T2 a2 :=
  ⟨h.o0.ext hx, h.o1.ext hx, h.o2.ext hx⟩
theorem OB.grown {w w' : World} {g B : Nat} {t : TypeId} {cs : Array Value} (h : OB w g t cs) (hg : w.grownBy w' (some B)) (hne : g ≠ B) : OB w' g t cs := (hg.block g h.lt (by simpa using hne)).trans h
theorem Three.grown {w w' : World} {B0 B1 B2 : Nat} {T0 T1 T2 : TypeId} {a0 a1 a2 a2' : Array Value} (h : Three w B0 T0 a0 B1 T1 a1 B2 T2 a2) (hg : w.grownBy w' (some B2)) (ho : OB w' B2 T2 a2') (h0 : B0 ≠ B2) (h1 : B1 ≠ B2) :
    Three w' B0 T0 a0 B1 T1 a1 B2 T2 a2' := ⟨h.o0.grown hg h0, h.o1.grown hg h1, ho⟩
theorem Three.new (w : World) (T0 T1 T2 : TypeId) (a0 a1 a2 : Array Value) : Three (((w.alloc (.cells a0 T0)).alloc (.cells a1 T1)).alloc (.cells a2 T2)) w.heap.size T0 a0 (w.heap.size + 1) T1 a1 (w.heap.size + 1 + 1) T2 a2 := by
  refine ⟨((OB.new w T0 a0).ext (.alloc (.refl _) _)).ext (.alloc (.refl _) _), ?_, ?_⟩
  · have := (OB.new (w.alloc (.cells a0 T0)) T1 a1).ext (.alloc (.refl _) (.cells a2 T2))
    simpa using this
  · have := OB.new ((w.alloc (.cells a0 T0)).alloc (.cells a1 T1)) T2 a2
    simpa using this
theorem grown_ext {a w w' : World} {B : Nat} (h : Ext a w) (hg : w.grownBy w' (some B)) (hB : a.heap.size ≤ B) : Ext a w' := Below.grown h hg h.size (by intro k hk; cases hk; exact hB)

/-- A single cell stored into a block of the call's own. -/
theorem wpList_store_cell {P : Program} {ops : Array Oper} {rest : List Oper} {o : Oper} {a : Act} {w : World} {Q : Exit → Act → World → Prop} (hgd : o.guard = none) (ty : TypeId) (x y : Operand) (ho : o.op = .store ty x y)
    (B off : Nat) (hx : a.eval x = .pointer (some ⟨B, off, none⟩)) (v : Value) (hy : a.eval y = v) (hv : v.cells = #[v]) (T : TypeId) (arr : Array Value) (hob : OB w B T arr) (hi : (P.info? ty).map (·.size) = some 1)
    (hfit : off < arr.size) (h1 : v.oneCell' = true)
    (h : ∀ w', OB w' B T (splice arr off [v]) → w.grownBy w' (some B) → w'.heap.size = w.heap.size → wpList P ops Q rest (a.put o.dst undef) w') : wpList P ops Q (o :: rest) a w :=
  wpList_plain hgd fun _ hK => by
    have hst := run_storeCells_at P B off T [v] 0 arr w hob (by simp; omega) (by simpa using h1)
    cases hq : P.info? ty with
    | none => simp [hq] at hi
    | some i =>
      have hs : i.size = 1 := by simpa [hq] using hi
      have hrun : (storeVar ty ⟨B, off, none⟩ v).run P w = .ok () (w.setRow B (splice arr off [v])) := by
        simp only [storeVar, hv]
        simp [Go.sizeOf, typeInfo, hq, hs, hst, splice]
      unfold Oper.wp execOp
      simp only [ho, hx, hy, Instr.storeAt, Instr.sureAddr, Sem.run_bind, Sem.run_pure, Result.andThen_ok, hrun]
      exact hK _ _ (h _ (setRow_heap w B arr _ T _ hob) ⟨rfl, rfl, rfl, by simp, fun k _ hk => setRow_other w B k _ (fun e => hk (by rw [e]))⟩ (by simp))

theorem splice_whole {arr : Array Value} {vs : List Value} (h : vs.length = arr.size) : splice arr 0 vs = ⟨vs⟩ := by
  simp [splice, h]

theorem OwnL.nil (w : World) (S : Nat → Prop) : OwnL w [] [] S := ⟨rfl, fun _ _ => False, by simp, by simp, by simp⟩
theorem OwnL.cons_leaf {w : World} {ts : List Tr} {vs : List Value} {S : Nat → Prop} {v : Value} (hv : LeafOk v) (h : OwnL w ts vs S) : OwnL w (.leaf v :: ts) (v :: vs) S := by
  obtain ⟨hl, T, h1, h2, h3⟩ := h
  refine ⟨by simp [hl], fun j => match j with | 0 => fun _ => False | j + 1 => T j, ?_, ?_, ?_⟩
  · intro j d hd
    cases j with
    | zero => simp at hd; subst hd; exact ⟨v, rfl, .leaf hv⟩
    | succ j => exact h1 j d (by simpa using hd)
  · intro j d hd x hx
    cases j with
    | zero => exact hx.elim
    | succ j => exact h2 j d (by simpa using hd) x hx
  · intro j d hd j' d' hd' hne x hx hx'
    cases j with
    | zero => exact hx.elim
    | succ j =>
      cases j' with
      | zero => exact hx'.elim
      | succ j' => exact h3 j d (by simpa using hd) j' d' (by simpa using hd') (by omega) x hx hx'

theorem OwnL.append {w : World} {ts us : List Tr} {vs xs : List Value} {S S' : Nat → Prop} (h : OwnL w ts vs S) (k : OwnL w us xs S') (hd : ∀ x, S x → S' x → False) : OwnL w (ts ++ us) (vs ++ xs) (fun x => S x ∨ S' x) := by
  obtain ⟨hl, T, h1, h2, h3⟩ := h
  obtain ⟨kl, U, k1, k2, k3⟩ := k
  have left : ∀ j d, (ts ++ us)[j]? = some d → j < ts.length → ts[j]? = some d := fun j d hj hlt => by rwa [List.getElem?_append_left hlt] at hj
  have right : ∀ j d, (ts ++ us)[j]? = some d → ¬ j < ts.length → us[j - ts.length]? = some d := fun j d hj hlt => by rwa [List.getElem?_append_right (by omega)] at hj
  refine ⟨by simp [hl, kl], fun j => if j < ts.length then T j else U (j - ts.length), ?_, ?_, ?_⟩
  · intro j d hj
    by_cases hlt : j < ts.length
    · simp only [if_pos hlt]
      obtain ⟨v, hv, ho⟩ := h1 j d (left j d hj hlt)
      exact ⟨v, by rw [List.getElem?_append_left (by omega)]; exact hv, ho⟩
    · simp only [if_neg hlt]
      obtain ⟨v, hv, ho⟩ := k1 _ d (right j d hj hlt)
      exact ⟨v, by rw [List.getElem?_append_right (by omega), hl]; exact hv, ho⟩
  · intro j d hj x hx
    by_cases hlt : j < ts.length
    · simp only [if_pos hlt] at hx
      exact .inl (h2 j d (left j d hj hlt) x hx)
    · simp only [if_neg hlt] at hx
      exact .inr (k2 _ d (right j d hj hlt) x hx)
  · intro j d hj j' d' hj' hne x hx hx'
    by_cases hlt : j < ts.length <;> by_cases hlt' : j' < ts.length
    · simp only [if_pos hlt] at hx; simp only [if_pos hlt'] at hx'
      exact h3 j d (left j d hj hlt) j' d' (left j' d' hj' hlt') hne x hx hx'
    · simp only [if_pos hlt] at hx; simp only [if_neg hlt'] at hx'
      exact hd x (h2 j d (left j d hj hlt) x hx) (k2 _ d' (right j' d' hj' hlt') x hx')
    · simp only [if_neg hlt] at hx; simp only [if_pos hlt'] at hx'
      exact hd x (h2 j' d' (left j' d' hj' hlt') x hx') (k2 _ d (right j d hj hlt) x hx)
    · simp only [if_neg hlt] at hx; simp only [if_neg hlt'] at hx'
      exact k3 _ d (right j d hj hlt) _ d' (right j' d' hj' hlt') (by omega) x hx hx'

theorem OwnL.one {w : World} {t : Tr} {v : Value} {S : Nat → Prop} (h : Own w t v S) : OwnL w [t] [v] S := by
  refine ⟨rfl, fun _ => S, ?_, ?_, ?_⟩
  · intro j d hd
    cases j with
    | zero => simp at hd; subst hd; exact ⟨v, rfl, h⟩
    | succ j => simp at hd
  · intro j d hd x hx
    exact hx
  · intro j d hd j' d' hd' hne
    cases j <;> cases j' <;> simp_all

structure Two (w : World) (B0 : Nat) (T0 : TypeId) (a0 : Array Value) (B1 : Nat) (T1 : TypeId) (a1 : Array Value) : Prop where
  o0 : OB w B0 T0 a0
  o1 : OB w B1 T1 a1
theorem Two.ext {w w' : World} {B0 B1 : Nat} {T0 T1 : TypeId} {a0 a1 : Array Value} (h : Two w B0 T0 a0 B1 T1 a1) (hx : Ext w w') : Two w' B0 T0 a0 B1 T1 a1 := ⟨h.o0.ext hx, h.o1.ext hx⟩
theorem Two.new (w : World) (T0 T1 : TypeId) (a0 a1 : Array Value) : Two ((w.alloc (.cells a0 T0)).alloc (.cells a1 T1)) w.heap.size T0 a0 (w.heap.size + 1) T1 a1 := by
  refine ⟨(OB.new w T0 a0).ext (.alloc (.refl _) _), ?_⟩
  have := OB.new (w.alloc (.cells a0 T0)) T1 a1
  simpa using this

theorem Rep.lens {w : World} {sz : Nat} {es : List (List Tr)} {a : Option Addr} {n c : Nat} (h : Rep w (.row sz es) (.slice a n c)) : n ≤ c ∧ c ≤ 9223372036854775807 ∧ n = es.length := by
  obtain ⟨a', c', h1, h2, h3⟩ := h.shape
  injection h1 with _ h4 h5
  subst h4 h5
  exact ⟨h2, by unfold maxLen at h3; omega, rfl⟩
theorem cells_ext {w w' : World} {b off : Nat} {cs : List Value} (hx : Ext w w') (hb : b < w.heap.size) (hc : ∀ (j : Nat) (v : Value), cs[j]? = some v → w.cell? ⟨b, off + j, none⟩ = some v) :
    ∀ (j : Nat) (v : Value), cs[j]? = some v → w'.cell? ⟨b, off + j, none⟩ = some v := fun j v hv => (hx.cell (p := ⟨b, off + j, none⟩) hb).trans (hc j v hv)
theorem OB.cells0 {w : World} {B : Nat} {T : TypeId} {cs : List Value} (h : OB w B T ⟨cs⟩) : ∀ (j : Nat) (v : Value), cs[j]? = some v → w.cell? ⟨B, 0 + j, none⟩ = some v := fun j v hv => by
  rw [h.cell, Nat.zero_add]; simpa using hv

theorem run_callFunc_body {P : Program} {f : FuncId} {fn : Func} (hf : P.funcs[f]? = some fn) (hname : (fn.name == "runtime.NumGoroutine") = false) (hb : fn.body.isNone = false) (args : Array Value) (w : World) :
    (callFunc f args).run P w = .ok (.enter f args) w := by
  have h1 : ¬ (fn.name == "runtime.NumGoroutine") = true := by simp [hname]
  have h2 : ¬ fn.body.isNone = true := by simp [hb]
  unfold callFunc
  rw [Sem.run_bind]
  show Result.andThen (Result.ok P w) _ = _
  rw [Result.andThen_ok, hf]
  simp only [h1, h2]
  rfl

/-- Blocks from 'lo' on hold what they held. -/
def Keeps (lo : Nat) (w w' : World) : Prop := w.heap.size ≤ w'.heap.size ∧ ∀ b, lo ≤ b → b < w.heap.size → w'.heap[b]? = w.heap[b]?
theorem Keeps.refl (lo : Nat) (w : World) : Keeps lo w w := ⟨Nat.le_refl _, fun _ _ _ => rfl⟩
theorem Keeps.of_ext {lo : Nat} {w w' : World} (h : Ext w w') : Keeps lo w w' := ⟨h.size, fun b _ hb => h.block b hb⟩
theorem Keeps.of_grown {lo B : Nat} {w w' : World} (h : w.grownBy w' (some B)) (hB : B < lo) : Keeps lo w w' := ⟨h.size, fun b hl hb => h.block b hb (by simp; omega)⟩
theorem Keeps.trans {lo : Nat} {a b c : World} (h : Keeps lo a b) (k : Keeps lo b c) : Keeps lo a c := ⟨Nat.le_trans h.1 k.1, fun x hl hx => (k.2 x hl (Nat.lt_of_lt_of_le hx h.1)).trans (h.2 x hl hx)⟩
theorem OwnL.keeps {w w' : World} {lo : Nat} {ts : List Tr} {vs : List Value} {S : Nat → Prop} (h : OwnL w ts vs S) (hk : Keeps lo w w') (hS : ∀ x, S x → lo ≤ x) : OwnL w' ts vs S := h.keep fun b hb hlt => hk.2 b (hS b hb) hlt
theorem Own.keeps {w w' : World} {lo : Nat} {t : Tr} {v : Value} {S : Nat → Prop} (h : Own w t v S) (hk : Keeps lo w w') (hS : ∀ x, S x → lo ≤ x) : Own w' t v S := h.keep fun b hb hlt => hk.2 b (hS b hb) hlt

theorem RepL.split {w : World} {ts us : List Tr} {cs : List Value} (h : RepL w (ts ++ us) cs) : ∃ c d, cs = c ++ d ∧ RepL w ts c ∧ RepL w us d := by
  induction ts generalizing cs with
  | nil => exact ⟨[], cs, rfl, trivial, h⟩
  | cons t ts ih =>
    cases cs with
    | nil => exact h.elim
    | cons v vs =>
      obtain ⟨c, d, rfl, h1, h2⟩ := ih h.2
      exact ⟨v :: c, d, rfl, ⟨h.1, h1⟩, h2⟩
theorem RepL.nil_eq {w : World} {cs : List Value} (h : RepL w [] cs) : cs = [] := by cases cs with | nil => rfl | cons => exact h.elim

theorem list1 {α : Type} {l : List α} (h : l.length = 1) : ∃ a0 : α, l = [a0] := by
  match l, h with
  | [a0], _ => exact ⟨a0, rfl⟩
theorem list3 {α : Type} {l : List α} (h : l.length = 3) : ∃ a0 a1 a2 : α, l = [a0, a1, a2] := by
  match l, h with
  | [a0, a1, a2], _ => exact ⟨a0, a1, a2, rfl⟩
theorem list4 {α : Type} {l : List α} (h : l.length = 4) : ∃ a0 a1 a2 a3 : α, l = [a0, a1, a2, a3] := by
  match l, h with
  | [a0, a1, a2, a3], _ => exact ⟨a0, a1, a2, a3, rfl⟩
end Go.Proofs.Ytmpepccpnnldoaa

namespace Go.Proofs.Ytmpepccpnnldoaa
open Go.RowKit

def strTrs (l : List ByteArray) : List (List Tr) := l.map fun s => [.leaf (.string s)]
def intTrs (l : List Int) : List (List Tr) := l.map fun n => [.leaf (.int .i64 n)]
theorem strTrs_len (l : List ByteArray) : (strTrs l).length = l.length := by simp [strTrs]
theorem intTrs_len (l : List Int) : (intTrs l).length = l.length := by simp [intTrs]
theorem strTrs_get {l : List ByteArray} {k : Nat} (h : k < l.length) : (strTrs l)[k]? = some [.leaf (.string l[k])] := by
  unfold strTrs
  rw [List.getElem?_map, List.getElem?_eq_getElem h]; rfl
theorem intTrs_get {l : List Int} {k : Nat} (h : k < l.length) : (intTrs l)[k]? = some [.leaf (.int .i64 l[k])] := by
  unfold intTrs
  rw [List.getElem?_map, List.getElem?_eq_getElem h]; rfl
theorem Rep.int {w : World} {l : List Int} {a : Option Addr} {len cap k : Nat} (h : Rep w (.row 1 (intTrs l)) (.slice a len cap)) (hk : k < l.length) :
    ∃ b off, a = some ⟨b, off, none⟩ ∧ b < w.heap.size ∧ (Lit.int .i64 l[k]).wf = true ∧ w.cell? ⟨b, off + k, none⟩ = some (.int .i64 l[k]) := by
  obtain ⟨b, off, cs, rfl, hb, hcs, hc⟩ := h.at2 (intTrs_get hk)
  obtain ⟨v, rfl⟩ := list1 hcs.length.symm
  obtain ⟨rfl, hl⟩ := hcs.1.leaf_eq
  have := hc 0 _ rfl
  rw [Nat.mul_one, Nat.add_zero] at this
  exact ⟨b, off, rfl, hb, hl, this⟩

inductive GInstanceRef where
  | mk (package_ : Int) (at_ : Int)
def GInstanceRef.tr : GInstanceRef → List Tr
  | .mk v0 v1 => [.leaf (.int .i64 v0)] ++ ([.leaf (.int .i64 v1)] ++ ([]))
def GInstanceRef.trs (l : List GInstanceRef) : List (List Tr) := l.map GInstanceRef.tr
theorem GInstanceRef.trs_map (l : List GInstanceRef) : GInstanceRef.trs l = l.map GInstanceRef.tr := rfl
def GInstanceRef.gPackage : GInstanceRef → Int
  | .mk v _ => v
@[simp] theorem GInstanceRef.gPackage_mk (v0 : Int) (v1 : Int) : GInstanceRef.gPackage (.mk v0 v1) = v0 := rfl
def GInstanceRef.gAt : GInstanceRef → Int
  | .mk _ v => v
@[simp] theorem GInstanceRef.gAt_mk (v0 : Int) (v1 : Int) : GInstanceRef.gAt (.mk v0 v1) = v1 := rfl
theorem GInstanceRef.tr_len (x : GInstanceRef) : x.tr.length = 2 := by
  obtain ⟨v0, v1⟩ := x
  simp [GInstanceRef.tr]
theorem GInstanceRef.sz (l : List GInstanceRef) : ∀ e ∈ GInstanceRef.trs l, e.length = 2 := by
  intro e he
  rw [GInstanceRef.trs_map] at he
  obtain ⟨x, -, rfl⟩ := List.mem_map.1 he
  exact GInstanceRef.tr_len x
theorem GInstanceRef.all {l : List GInstanceRef} {Q : List Tr → Prop} (h : ∀ x ∈ l, Q x.tr) : ∀ e ∈ GInstanceRef.trs l, Q e := by
  intro e he
  rw [GInstanceRef.trs_map] at he
  obtain ⟨x, hx, rfl⟩ := List.mem_map.1 he
  exact h x hx
inductive GSExpr where
  | mk (atom_ : ByteArray) (list_ : List GSExpr)
mutual
def GSExpr.tr : GSExpr → List Tr
  | .mk v0 v1 => [.leaf (.string v0)] ++ ([.row 2 (GSExpr.trs v1)] ++ ([]))
def GSExpr.trs : List GSExpr → List (List Tr)
  | [] => []
  | e :: r => GSExpr.tr e :: GSExpr.trs r
end
theorem GSExpr.trs_map (l : List GSExpr) : GSExpr.trs l = l.map GSExpr.tr := by induction l <;> simp_all [GSExpr.trs]
theorem GSExpr.trs_len (l : List GSExpr) : (GSExpr.trs l).length = l.length := by rw [GSExpr.trs_map, List.length_map]
def GSExpr.gAtom : GSExpr → ByteArray
  | .mk v _ => v
@[simp] theorem GSExpr.gAtom_mk (v0 : ByteArray) (v1 : List GSExpr) : GSExpr.gAtom (.mk v0 v1) = v0 := rfl
def GSExpr.gList : GSExpr → List GSExpr
  | .mk _ v => v
@[simp] theorem GSExpr.gList_mk (v0 : ByteArray) (v1 : List GSExpr) : GSExpr.gList (.mk v0 v1) = v1 := rfl
theorem GSExpr.tr_len (x : GSExpr) : x.tr.length = 2 := by
  obtain ⟨v0, v1⟩ := x
  simp [GSExpr.tr]
theorem GSExpr.opened {w : World} {cs : List Value} {v0 : ByteArray} {v1 : List GSExpr} (h : RepL w (GSExpr.tr (.mk v0 v1)) cs) :
    ∃ (a1 : Option Addr) (c1 : Nat), cs = [.string v0] ++ ([.slice a1 v1.length c1] ++ ([])) ∧ LeafOk (.string v0) ∧ Rep w (.row 2 (GSExpr.trs v1)) (.slice a1 v1.length c1) := by
  obtain ⟨b0, r0, rfl, g0, n0⟩ := RepL.split h
  obtain ⟨y0, rfl⟩ := list1 g0.length.symm
  obtain ⟨rfl, k0⟩ := g0.1.leaf_eq
  obtain ⟨b1, r1, rfl, g1, n1⟩ := RepL.split n0
  obtain ⟨y1, rfl⟩ := list1 g1.length.symm
  obtain ⟨a1, c1, e1, -, -⟩ := g1.1.shape
  rw [GSExpr.trs_len] at e1
  subst e1
  obtain rfl := RepL.nil_eq n1
  exact ⟨a1, c1, rfl, k0, g1.1⟩

theorem GSExpr.sz (l : List GSExpr) : ∀ e ∈ GSExpr.trs l, e.length = 2 := by
  intro e he
  rw [GSExpr.trs_map] at he
  obtain ⟨x, -, rfl⟩ := List.mem_map.1 he
  exact GSExpr.tr_len x
theorem GSExpr.all {l : List GSExpr} {Q : List Tr → Prop} (h : ∀ x ∈ l, Q x.tr) : ∀ e ∈ GSExpr.trs l, Q e := by
  intro e he
  rw [GSExpr.trs_map] at he
  obtain ⟨x, hx, rfl⟩ := List.mem_map.1 he
  exact h x hx
theorem GSExpr.trs_get {l : List GSExpr} {k : Nat} (h : k < l.length) : (GSExpr.trs l)[k]? = some (l[k]).tr := by
  rw [GSExpr.trs_map, List.getElem?_map, List.getElem?_eq_getElem h]; rfl
theorem GSExpr.ind {A : GSExpr → Prop} (h : ∀ v0 v1, (∀ x ∈ v1, A x) → A (.mk v0 v1)) : ∀ e, A e := by
  have key : ∀ (N : Nat) (e : GSExpr), SizeOf.sizeOf e < N → A e := by
    intro N
    induction N with
    | zero => intro e he; omega
    | succ N ih =>
      intro e he
      obtain ⟨v0, v1⟩ := e
      refine h v0 v1 fun x hx => ih x ?_
      have := List.sizeOf_lt_of_mem hx
      simp at he
      omega
  exact fun e => key _ e (Nat.lt_succ_self _)

inductive GType where
  | mk (kind_ : Int) (name_ : ByteArray) (args_ : List GType)
mutual
def GType.tr : GType → List Tr
  | .mk v0 v1 v2 => [.leaf (.int .i64 v0)] ++ ([.leaf (.string v1)] ++ ([.row 3 (GType.trs v2)] ++ ([])))
def GType.trs : List GType → List (List Tr)
  | [] => []
  | e :: r => GType.tr e :: GType.trs r
end
theorem GType.trs_map (l : List GType) : GType.trs l = l.map GType.tr := by induction l <;> simp_all [GType.trs]
theorem GType.trs_len (l : List GType) : (GType.trs l).length = l.length := by rw [GType.trs_map, List.length_map]
def GType.gKind : GType → Int
  | .mk v _ _ => v
@[simp] theorem GType.gKind_mk (v0 : Int) (v1 : ByteArray) (v2 : List GType) : GType.gKind (.mk v0 v1 v2) = v0 := rfl
def GType.gName : GType → ByteArray
  | .mk _ v _ => v
@[simp] theorem GType.gName_mk (v0 : Int) (v1 : ByteArray) (v2 : List GType) : GType.gName (.mk v0 v1 v2) = v1 := rfl
def GType.gArgs : GType → List GType
  | .mk _ _ v => v
@[simp] theorem GType.gArgs_mk (v0 : Int) (v1 : ByteArray) (v2 : List GType) : GType.gArgs (.mk v0 v1 v2) = v2 := rfl
theorem GType.tr_len (x : GType) : x.tr.length = 3 := by
  obtain ⟨v0, v1, v2⟩ := x
  simp [GType.tr]
theorem GType.sz (l : List GType) : ∀ e ∈ GType.trs l, e.length = 3 := by
  intro e he
  rw [GType.trs_map] at he
  obtain ⟨x, -, rfl⟩ := List.mem_map.1 he
  exact GType.tr_len x
theorem GType.all {l : List GType} {Q : List Tr → Prop} (h : ∀ x ∈ l, Q x.tr) : ∀ e ∈ GType.trs l, Q e := by
  intro e he
  rw [GType.trs_map] at he
  obtain ⟨x, hx, rfl⟩ := List.mem_map.1 he
  exact h x hx
theorem GType.trs_get {l : List GType} {k : Nat} (h : k < l.length) : (GType.trs l)[k]? = some (l[k]).tr := by
  rw [GType.trs_map, List.getElem?_map, List.getElem?_eq_getElem h]; rfl
theorem GType.ind {A : GType → Prop} (h : ∀ v0 v1 v2, (∀ x ∈ v2, A x) → A (.mk v0 v1 v2)) : ∀ e, A e := by
  have key : ∀ (N : Nat) (e : GType), SizeOf.sizeOf e < N → A e := by
    intro N
    induction N with
    | zero => intro e he; omega
    | succ N ih =>
      intro e he
      obtain ⟨v0, v1, v2⟩ := e
      refine h v0 v1 v2 fun x hx => ih x ?_
      have := List.sizeOf_lt_of_mem hx
      simp at he
      omega
  exact fun e => key _ e (Nat.lt_succ_self _)

inductive GBinding where
  | mk (var_ : ByteArray) (type_ : GType)
def GBinding.tr : GBinding → List Tr
  | .mk v0 v1 => [.leaf (.string v0)] ++ (GType.tr v1 ++ ([]))
def GBinding.trs (l : List GBinding) : List (List Tr) := l.map GBinding.tr
theorem GBinding.trs_map (l : List GBinding) : GBinding.trs l = l.map GBinding.tr := rfl
theorem GBinding.trs_len (l : List GBinding) : (GBinding.trs l).length = l.length := by rw [GBinding.trs_map, List.length_map]
def GBinding.gVar : GBinding → ByteArray
  | .mk v _ => v
@[simp] theorem GBinding.gVar_mk (v0 : ByteArray) (v1 : GType) : GBinding.gVar (.mk v0 v1) = v0 := rfl
def GBinding.gType : GBinding → GType
  | .mk _ v => v
@[simp] theorem GBinding.gType_mk (v0 : ByteArray) (v1 : GType) : GBinding.gType (.mk v0 v1) = v1 := rfl
theorem GBinding.tr_len (x : GBinding) : x.tr.length = 4 := by
  obtain ⟨v0, v1⟩ := x
  simp [GBinding.tr, GType.tr_len]
theorem GBinding.sz (l : List GBinding) : ∀ e ∈ GBinding.trs l, e.length = 4 := by
  intro e he
  rw [GBinding.trs_map] at he
  obtain ⟨x, -, rfl⟩ := List.mem_map.1 he
  exact GBinding.tr_len x
theorem GBinding.all {l : List GBinding} {Q : List Tr → Prop} (h : ∀ x ∈ l, Q x.tr) : ∀ e ∈ GBinding.trs l, Q e := by
  intro e he
  rw [GBinding.trs_map] at he
  obtain ⟨x, hx, rfl⟩ := List.mem_map.1 he
  exact h x hx
theorem GBinding.trs_get {l : List GBinding} {k : Nat} (h : k < l.length) : (GBinding.trs l)[k]? = some (l[k]).tr := by
  rw [GBinding.trs_map, List.getElem?_map, List.getElem?_eq_getElem h]; rfl
mutual
inductive GArm where
  | mk (constructor_ : ByteArray) (vars_ : List ByteArray) (body_ : GExpr)
inductive GExpr where
  | mk (kind_ : Int) (trait_ : ByteArray) (name_ : ByteArray) (n_ : Int) (type_ : GType) (args_ : List GExpr) (arms_ : List GArm)
end
mutual
def GArm.tr : GArm → List Tr
  | .mk v0 v1 v2 => [.leaf (.string v0)] ++ ([.row 1 (strTrs v1)] ++ (GExpr.tr v2 ++ ([])))
def GArm.trs : List GArm → List (List Tr)
  | [] => []
  | e :: r => GArm.tr e :: GArm.trs r
def GExpr.tr : GExpr → List Tr
  | .mk v0 v1 v2 v3 v4 v5 v6 => [.leaf (.int .i64 v0)] ++ ([.leaf (.string v1)] ++ ([.leaf (.string v2)] ++ ([.leaf (.int .i64 v3)] ++ (GType.tr v4 ++ ([.row 9 (GExpr.trs v5)] ++ ([.row 11 (GArm.trs v6)] ++ ([])))))))
def GExpr.trs : List GExpr → List (List Tr)
  | [] => []
  | e :: r => GExpr.tr e :: GExpr.trs r
end
theorem GArm.trs_map (l : List GArm) : GArm.trs l = l.map GArm.tr := by induction l <;> simp_all [GArm.trs]
theorem GExpr.trs_map (l : List GExpr) : GExpr.trs l = l.map GExpr.tr := by induction l <;> simp_all [GExpr.trs]
theorem GArm.trs_len (l : List GArm) : (GArm.trs l).length = l.length := by rw [GArm.trs_map, List.length_map]
theorem GExpr.trs_len (l : List GExpr) : (GExpr.trs l).length = l.length := by rw [GExpr.trs_map, List.length_map]
def GArm.gConstructor : GArm → ByteArray
  | .mk v _ _ => v
@[simp] theorem GArm.gConstructor_mk (v0 : ByteArray) (v1 : List ByteArray) (v2 : GExpr) : GArm.gConstructor (.mk v0 v1 v2) = v0 := rfl
def GArm.gVars : GArm → List ByteArray
  | .mk _ v _ => v
@[simp] theorem GArm.gVars_mk (v0 : ByteArray) (v1 : List ByteArray) (v2 : GExpr) : GArm.gVars (.mk v0 v1 v2) = v1 := rfl
def GArm.gBody : GArm → GExpr
  | .mk _ _ v => v
@[simp] theorem GArm.gBody_mk (v0 : ByteArray) (v1 : List ByteArray) (v2 : GExpr) : GArm.gBody (.mk v0 v1 v2) = v2 := rfl

def GExpr.gKind : GExpr → Int
  | .mk v _ _ _ _ _ _ => v
@[simp] theorem GExpr.gKind_mk (v0 : Int) (v1 : ByteArray) (v2 : ByteArray) (v3 : Int) (v4 : GType) (v5 : List GExpr) (v6 : List GArm) : GExpr.gKind (.mk v0 v1 v2 v3 v4 v5 v6) = v0 := rfl
def GExpr.gTrait : GExpr → ByteArray
  | .mk _ v _ _ _ _ _ => v
@[simp] theorem GExpr.gTrait_mk (v0 : Int) (v1 : ByteArray) (v2 : ByteArray) (v3 : Int) (v4 : GType) (v5 : List GExpr) (v6 : List GArm) : GExpr.gTrait (.mk v0 v1 v2 v3 v4 v5 v6) = v1 := rfl
def GExpr.gName : GExpr → ByteArray
  | .mk _ _ v _ _ _ _ => v
@[simp] theorem GExpr.gName_mk (v0 : Int) (v1 : ByteArray) (v2 : ByteArray) (v3 : Int) (v4 : GType) (v5 : List GExpr) (v6 : List GArm) : GExpr.gName (.mk v0 v1 v2 v3 v4 v5 v6) = v2 := rfl
def GExpr.gN : GExpr → Int
  | .mk _ _ _ v _ _ _ => v
@[simp] theorem GExpr.gN_mk (v0 : Int) (v1 : ByteArray) (v2 : ByteArray) (v3 : Int) (v4 : GType) (v5 : List GExpr) (v6 : List GArm) : GExpr.gN (.mk v0 v1 v2 v3 v4 v5 v6) = v3 := rfl
def GExpr.gType : GExpr → GType
  | .mk _ _ _ _ v _ _ => v
@[simp] theorem GExpr.gType_mk (v0 : Int) (v1 : ByteArray) (v2 : ByteArray) (v3 : Int) (v4 : GType) (v5 : List GExpr) (v6 : List GArm) : GExpr.gType (.mk v0 v1 v2 v3 v4 v5 v6) = v4 := rfl
def GExpr.gArgs : GExpr → List GExpr
  | .mk _ _ _ _ _ v _ => v
@[simp] theorem GExpr.gArgs_mk (v0 : Int) (v1 : ByteArray) (v2 : ByteArray) (v3 : Int) (v4 : GType) (v5 : List GExpr) (v6 : List GArm) : GExpr.gArgs (.mk v0 v1 v2 v3 v4 v5 v6) = v5 := rfl
def GExpr.gArms : GExpr → List GArm
  | .mk _ _ _ _ _ _ v => v
@[simp] theorem GExpr.gArms_mk (v0 : Int) (v1 : ByteArray) (v2 : ByteArray) (v3 : Int) (v4 : GType) (v5 : List GExpr) (v6 : List GArm) : GExpr.gArms (.mk v0 v1 v2 v3 v4 v5 v6) = v6 := rfl
theorem GExpr.tr_len (x : GExpr) : x.tr.length = 9 := by
  obtain ⟨v0, v1, v2, v3, v4, v5, v6⟩ := x
  simp [GExpr.tr, GType.tr_len]
theorem GArm.tr_len (x : GArm) : x.tr.length = 11 := by
  obtain ⟨v0, v1, v2⟩ := x
  simp [GArm.tr, GExpr.tr_len]
theorem GArm.sz (l : List GArm) : ∀ e ∈ GArm.trs l, e.length = 11 := by
  intro e he
  rw [GArm.trs_map] at he
  obtain ⟨x, -, rfl⟩ := List.mem_map.1 he
  exact GArm.tr_len x
theorem GArm.all {l : List GArm} {Q : List Tr → Prop} (h : ∀ x ∈ l, Q x.tr) : ∀ e ∈ GArm.trs l, Q e := by
  intro e he
  rw [GArm.trs_map] at he
  obtain ⟨x, hx, rfl⟩ := List.mem_map.1 he
  exact h x hx
theorem GArm.trs_get {l : List GArm} {k : Nat} (h : k < l.length) : (GArm.trs l)[k]? = some (l[k]).tr := by
  rw [GArm.trs_map, List.getElem?_map, List.getElem?_eq_getElem h]; rfl
theorem GExpr.sz (l : List GExpr) : ∀ e ∈ GExpr.trs l, e.length = 9 := by
  intro e he
  rw [GExpr.trs_map] at he
  obtain ⟨x, -, rfl⟩ := List.mem_map.1 he
  exact GExpr.tr_len x
theorem GExpr.all {l : List GExpr} {Q : List Tr → Prop} (h : ∀ x ∈ l, Q x.tr) : ∀ e ∈ GExpr.trs l, Q e := by
  intro e he
  rw [GExpr.trs_map] at he
  obtain ⟨x, hx, rfl⟩ := List.mem_map.1 he
  exact h x hx
theorem GExpr.trs_get {l : List GExpr} {k : Nat} (h : k < l.length) : (GExpr.trs l)[k]? = some (l[k]).tr := by
  rw [GExpr.trs_map, List.getElem?_map, List.getElem?_eq_getElem h]; rfl
inductive GSignature where
  | mk (name_ : ByteArray) (params_ : List GType) (result_ : GType) (hasdefault_ : Bool) (vars_ : List ByteArray) (body_ : GExpr)
def GSignature.tr : GSignature → List Tr
  | .mk v0 v1 v2 v3 v4 v5 => [.leaf (.string v0)] ++ ([.row 3 (GType.trs v1)] ++ (GType.tr v2 ++ ([.leaf (.bool v3)] ++ ([.row 1 (strTrs v4)] ++ (GExpr.tr v5 ++ ([]))))))
def GSignature.trs (l : List GSignature) : List (List Tr) := l.map GSignature.tr
theorem GSignature.trs_map (l : List GSignature) : GSignature.trs l = l.map GSignature.tr := rfl
def GSignature.gName : GSignature → ByteArray
  | .mk v _ _ _ _ _ => v
@[simp] theorem GSignature.gName_mk (v0 : ByteArray) (v1 : List GType) (v2 : GType) (v3 : Bool) (v4 : List ByteArray) (v5 : GExpr) : GSignature.gName (.mk v0 v1 v2 v3 v4 v5) = v0 := rfl
def GSignature.gParams : GSignature → List GType
  | .mk _ v _ _ _ _ => v
@[simp] theorem GSignature.gParams_mk (v0 : ByteArray) (v1 : List GType) (v2 : GType) (v3 : Bool) (v4 : List ByteArray) (v5 : GExpr) : GSignature.gParams (.mk v0 v1 v2 v3 v4 v5) = v1 := rfl
def GSignature.gResult : GSignature → GType
  | .mk _ _ v _ _ _ => v
@[simp] theorem GSignature.gResult_mk (v0 : ByteArray) (v1 : List GType) (v2 : GType) (v3 : Bool) (v4 : List ByteArray) (v5 : GExpr) : GSignature.gResult (.mk v0 v1 v2 v3 v4 v5) = v2 := rfl
def GSignature.gHasDefault : GSignature → Bool
  | .mk _ _ _ v _ _ => v
@[simp] theorem GSignature.gHasDefault_mk (v0 : ByteArray) (v1 : List GType) (v2 : GType) (v3 : Bool) (v4 : List ByteArray) (v5 : GExpr) : GSignature.gHasDefault (.mk v0 v1 v2 v3 v4 v5) = v3 := rfl
def GSignature.gVars : GSignature → List ByteArray
  | .mk _ _ _ _ v _ => v
@[simp] theorem GSignature.gVars_mk (v0 : ByteArray) (v1 : List GType) (v2 : GType) (v3 : Bool) (v4 : List ByteArray) (v5 : GExpr) : GSignature.gVars (.mk v0 v1 v2 v3 v4 v5) = v4 := rfl
def GSignature.gBody : GSignature → GExpr
  | .mk _ _ _ _ _ v => v
@[simp] theorem GSignature.gBody_mk (v0 : ByteArray) (v1 : List GType) (v2 : GType) (v3 : Bool) (v4 : List ByteArray) (v5 : GExpr) : GSignature.gBody (.mk v0 v1 v2 v3 v4 v5) = v5 := rfl
theorem GSignature.tr_len (x : GSignature) : x.tr.length = 16 := by
  obtain ⟨v0, v1, v2, v3, v4, v5⟩ := x
  simp [GSignature.tr, GType.tr_len, GExpr.tr_len]
theorem GSignature.sz (l : List GSignature) : ∀ e ∈ GSignature.trs l, e.length = 16 := by
  intro e he
  rw [GSignature.trs_map] at he
  obtain ⟨x, -, rfl⟩ := List.mem_map.1 he
  exact GSignature.tr_len x
theorem GSignature.all {l : List GSignature} {Q : List Tr → Prop} (h : ∀ x ∈ l, Q x.tr) : ∀ e ∈ GSignature.trs l, Q e := by
  intro e he
  rw [GSignature.trs_map] at he
  obtain ⟨x, hx, rfl⟩ := List.mem_map.1 he
  exact h x hx
inductive GTrait where
  | mk (name_ : ByteArray) (supertraits_ : List ByteArray) (auto_ : Bool) (assoc_ : Bool) (signatures_ : List GSignature)
def GTrait.tr : GTrait → List Tr
  | .mk v0 v1 v2 v3 v4 => [.leaf (.string v0)] ++ ([.row 1 (strTrs v1)] ++ ([.leaf (.bool v2)] ++ ([.leaf (.bool v3)] ++ ([.row 16 (GSignature.trs v4)] ++ ([])))))
def GTrait.trs (l : List GTrait) : List (List Tr) := l.map GTrait.tr
theorem GTrait.trs_map (l : List GTrait) : GTrait.trs l = l.map GTrait.tr := rfl
def GTrait.gName : GTrait → ByteArray
  | .mk v _ _ _ _ => v
@[simp] theorem GTrait.gName_mk (v0 : ByteArray) (v1 : List ByteArray) (v2 : Bool) (v3 : Bool) (v4 : List GSignature) : GTrait.gName (.mk v0 v1 v2 v3 v4) = v0 := rfl
def GTrait.gSupertraits : GTrait → List ByteArray
  | .mk _ v _ _ _ => v
@[simp] theorem GTrait.gSupertraits_mk (v0 : ByteArray) (v1 : List ByteArray) (v2 : Bool) (v3 : Bool) (v4 : List GSignature) : GTrait.gSupertraits (.mk v0 v1 v2 v3 v4) = v1 := rfl
def GTrait.gAuto : GTrait → Bool
  | .mk _ _ v _ _ => v
@[simp] theorem GTrait.gAuto_mk (v0 : ByteArray) (v1 : List ByteArray) (v2 : Bool) (v3 : Bool) (v4 : List GSignature) : GTrait.gAuto (.mk v0 v1 v2 v3 v4) = v2 := rfl
def GTrait.gAssoc : GTrait → Bool
  | .mk _ _ _ v _ => v
@[simp] theorem GTrait.gAssoc_mk (v0 : ByteArray) (v1 : List ByteArray) (v2 : Bool) (v3 : Bool) (v4 : List GSignature) : GTrait.gAssoc (.mk v0 v1 v2 v3 v4) = v3 := rfl
def GTrait.gSignatures : GTrait → List GSignature
  | .mk _ _ _ _ v => v
@[simp] theorem GTrait.gSignatures_mk (v0 : ByteArray) (v1 : List ByteArray) (v2 : Bool) (v3 : Bool) (v4 : List GSignature) : GTrait.gSignatures (.mk v0 v1 v2 v3 v4) = v4 := rfl
theorem GTrait.tr_len (x : GTrait) : x.tr.length = 5 := by
  obtain ⟨v0, v1, v2, v3, v4⟩ := x
  simp [GTrait.tr]
theorem GTrait.sz (l : List GTrait) : ∀ e ∈ GTrait.trs l, e.length = 5 := by
  intro e he
  rw [GTrait.trs_map] at he
  obtain ⟨x, -, rfl⟩ := List.mem_map.1 he
  exact GTrait.tr_len x
theorem GTrait.all {l : List GTrait} {Q : List Tr → Prop} (h : ∀ x ∈ l, Q x.tr) : ∀ e ∈ GTrait.trs l, Q e := by
  intro e he
  rw [GTrait.trs_map] at he
  obtain ⟨x, hx, rfl⟩ := List.mem_map.1 he
  exact h x hx
inductive GConstructor where
  | mk (name_ : ByteArray) (fields_ : List GType)
def GConstructor.tr : GConstructor → List Tr
  | .mk v0 v1 => [.leaf (.string v0)] ++ ([.row 3 (GType.trs v1)] ++ ([]))
def GConstructor.trs (l : List GConstructor) : List (List Tr) := l.map GConstructor.tr
theorem GConstructor.trs_map (l : List GConstructor) : GConstructor.trs l = l.map GConstructor.tr := rfl
def GConstructor.gName : GConstructor → ByteArray
  | .mk v _ => v
@[simp] theorem GConstructor.gName_mk (v0 : ByteArray) (v1 : List GType) : GConstructor.gName (.mk v0 v1) = v0 := rfl
def GConstructor.gFields : GConstructor → List GType
  | .mk _ v => v
@[simp] theorem GConstructor.gFields_mk (v0 : ByteArray) (v1 : List GType) : GConstructor.gFields (.mk v0 v1) = v1 := rfl
theorem GConstructor.tr_len (x : GConstructor) : x.tr.length = 2 := by
  obtain ⟨v0, v1⟩ := x
  simp [GConstructor.tr]
theorem GConstructor.sz (l : List GConstructor) : ∀ e ∈ GConstructor.trs l, e.length = 2 := by
  intro e he
  rw [GConstructor.trs_map] at he
  obtain ⟨x, -, rfl⟩ := List.mem_map.1 he
  exact GConstructor.tr_len x
theorem GConstructor.all {l : List GConstructor} {Q : List Tr → Prop} (h : ∀ x ∈ l, Q x.tr) : ∀ e ∈ GConstructor.trs l, Q e := by
  intro e he
  rw [GConstructor.trs_map] at he
  obtain ⟨x, hx, rfl⟩ := List.mem_map.1 he
  exact h x hx
inductive GDataType where
  | mk (name_ : ByteArray) (vars_ : List ByteArray) (constructors_ : List GConstructor)
def GDataType.tr : GDataType → List Tr
  | .mk v0 v1 v2 => [.leaf (.string v0)] ++ ([.row 1 (strTrs v1)] ++ ([.row 2 (GConstructor.trs v2)] ++ ([])))
def GDataType.trs (l : List GDataType) : List (List Tr) := l.map GDataType.tr
theorem GDataType.trs_map (l : List GDataType) : GDataType.trs l = l.map GDataType.tr := rfl
def GDataType.gName : GDataType → ByteArray
  | .mk v _ _ => v
@[simp] theorem GDataType.gName_mk (v0 : ByteArray) (v1 : List ByteArray) (v2 : List GConstructor) : GDataType.gName (.mk v0 v1 v2) = v0 := rfl
def GDataType.gVars : GDataType → List ByteArray
  | .mk _ v _ => v
@[simp] theorem GDataType.gVars_mk (v0 : ByteArray) (v1 : List ByteArray) (v2 : List GConstructor) : GDataType.gVars (.mk v0 v1 v2) = v1 := rfl
def GDataType.gConstructors : GDataType → List GConstructor
  | .mk _ _ v => v
@[simp] theorem GDataType.gConstructors_mk (v0 : ByteArray) (v1 : List ByteArray) (v2 : List GConstructor) : GDataType.gConstructors (.mk v0 v1 v2) = v2 := rfl
theorem GDataType.tr_len (x : GDataType) : x.tr.length = 3 := by
  obtain ⟨v0, v1, v2⟩ := x
  simp [GDataType.tr]
theorem GDataType.sz (l : List GDataType) : ∀ e ∈ GDataType.trs l, e.length = 3 := by
  intro e he
  rw [GDataType.trs_map] at he
  obtain ⟨x, -, rfl⟩ := List.mem_map.1 he
  exact GDataType.tr_len x
theorem GDataType.all {l : List GDataType} {Q : List Tr → Prop} (h : ∀ x ∈ l, Q x.tr) : ∀ e ∈ GDataType.trs l, Q e := by
  intro e he
  rw [GDataType.trs_map] at he
  obtain ⟨x, hx, rfl⟩ := List.mem_map.1 he
  exact h x hx
inductive GBound where
  | mk (trait_ : ByteArray) (type_ : GType)
def GBound.tr : GBound → List Tr
  | .mk v0 v1 => [.leaf (.string v0)] ++ (GType.tr v1 ++ ([]))
def GBound.trs (l : List GBound) : List (List Tr) := l.map GBound.tr
theorem GBound.trs_map (l : List GBound) : GBound.trs l = l.map GBound.tr := rfl
theorem GBound.trs_len (l : List GBound) : (GBound.trs l).length = l.length := by rw [GBound.trs_map, List.length_map]
def GBound.gTrait : GBound → ByteArray
  | .mk v _ => v
@[simp] theorem GBound.gTrait_mk (v0 : ByteArray) (v1 : GType) : GBound.gTrait (.mk v0 v1) = v0 := rfl
def GBound.gType : GBound → GType
  | .mk _ v => v
@[simp] theorem GBound.gType_mk (v0 : ByteArray) (v1 : GType) : GBound.gType (.mk v0 v1) = v1 := rfl
theorem GBound.tr_len (x : GBound) : x.tr.length = 4 := by
  obtain ⟨v0, v1⟩ := x
  simp [GBound.tr, GType.tr_len]
theorem GBound.sz (l : List GBound) : ∀ e ∈ GBound.trs l, e.length = 4 := by
  intro e he
  rw [GBound.trs_map] at he
  obtain ⟨x, -, rfl⟩ := List.mem_map.1 he
  exact GBound.tr_len x
theorem GBound.all {l : List GBound} {Q : List Tr → Prop} (h : ∀ x ∈ l, Q x.tr) : ∀ e ∈ GBound.trs l, Q e := by
  intro e he
  rw [GBound.trs_map] at he
  obtain ⟨x, hx, rfl⟩ := List.mem_map.1 he
  exact h x hx
theorem GBound.trs_get {l : List GBound} {k : Nat} (h : k < l.length) : (GBound.trs l)[k]? = some (l[k]).tr := by
  rw [GBound.trs_map, List.getElem?_map, List.getElem?_eq_getElem h]; rfl
inductive GMethod where
  | mk (name_ : ByteArray) (vars_ : List ByteArray) (body_ : GExpr)
def GMethod.tr : GMethod → List Tr
  | .mk v0 v1 v2 => [.leaf (.string v0)] ++ ([.row 1 (strTrs v1)] ++ (GExpr.tr v2 ++ ([])))
def GMethod.trs (l : List GMethod) : List (List Tr) := l.map GMethod.tr
theorem GMethod.trs_map (l : List GMethod) : GMethod.trs l = l.map GMethod.tr := rfl
theorem GMethod.trs_len (l : List GMethod) : (GMethod.trs l).length = l.length := by rw [GMethod.trs_map, List.length_map]
def GMethod.gName : GMethod → ByteArray
  | .mk v _ _ => v
@[simp] theorem GMethod.gName_mk (v0 : ByteArray) (v1 : List ByteArray) (v2 : GExpr) : GMethod.gName (.mk v0 v1 v2) = v0 := rfl
def GMethod.gVars : GMethod → List ByteArray
  | .mk _ v _ => v
@[simp] theorem GMethod.gVars_mk (v0 : ByteArray) (v1 : List ByteArray) (v2 : GExpr) : GMethod.gVars (.mk v0 v1 v2) = v1 := rfl
def GMethod.gBody : GMethod → GExpr
  | .mk _ _ v => v
@[simp] theorem GMethod.gBody_mk (v0 : ByteArray) (v1 : List ByteArray) (v2 : GExpr) : GMethod.gBody (.mk v0 v1 v2) = v2 := rfl
theorem GMethod.tr_len (x : GMethod) : x.tr.length = 11 := by
  obtain ⟨v0, v1, v2⟩ := x
  simp [GMethod.tr, GExpr.tr_len]
theorem GMethod.sz (l : List GMethod) : ∀ e ∈ GMethod.trs l, e.length = 11 := by
  intro e he
  rw [GMethod.trs_map] at he
  obtain ⟨x, -, rfl⟩ := List.mem_map.1 he
  exact GMethod.tr_len x
theorem GMethod.all {l : List GMethod} {Q : List Tr → Prop} (h : ∀ x ∈ l, Q x.tr) : ∀ e ∈ GMethod.trs l, Q e := by
  intro e he
  rw [GMethod.trs_map] at he
  obtain ⟨x, hx, rfl⟩ := List.mem_map.1 he
  exact h x hx
theorem GMethod.trs_get {l : List GMethod} {k : Nat} (h : k < l.length) : (GMethod.trs l)[k]? = some (l[k]).tr := by
  rw [GMethod.trs_map, List.getElem?_map, List.getElem?_eq_getElem h]; rfl
inductive GInstance where
  | mk (trait_ : ByteArray) (vars_ : List ByteArray) (head_ : GType) (where_ : List GBound) (default_ : Bool) (hasassoc_ : Bool) (assoc_ : GType) (methods_ : List GMethod)
def GInstance.tr : GInstance → List Tr
  | .mk v0 v1 v2 v3 v4 v5 v6 v7 => [.leaf (.string v0)] ++ ([.row 1 (strTrs v1)] ++ (GType.tr v2 ++ ([.row 4 (GBound.trs v3)] ++ ([.leaf (.bool v4)] ++ ([.leaf (.bool v5)] ++ (GType.tr v6 ++ ([.row 11 (GMethod.trs v7)] ++ ([]))))))))
def GInstance.trs (l : List GInstance) : List (List Tr) := l.map GInstance.tr
theorem GInstance.trs_map (l : List GInstance) : GInstance.trs l = l.map GInstance.tr := rfl
theorem GInstance.trs_len (l : List GInstance) : (GInstance.trs l).length = l.length := by rw [GInstance.trs_map, List.length_map]
def GInstance.gTrait : GInstance → ByteArray
  | .mk v _ _ _ _ _ _ _ => v
@[simp] theorem GInstance.gTrait_mk (v0 : ByteArray) (v1 : List ByteArray) (v2 : GType) (v3 : List GBound) (v4 : Bool) (v5 : Bool) (v6 : GType) (v7 : List GMethod) : GInstance.gTrait (.mk v0 v1 v2 v3 v4 v5 v6 v7) = v0 := rfl
def GInstance.gVars : GInstance → List ByteArray
  | .mk _ v _ _ _ _ _ _ => v
@[simp] theorem GInstance.gVars_mk (v0 : ByteArray) (v1 : List ByteArray) (v2 : GType) (v3 : List GBound) (v4 : Bool) (v5 : Bool) (v6 : GType) (v7 : List GMethod) : GInstance.gVars (.mk v0 v1 v2 v3 v4 v5 v6 v7) = v1 := rfl
def GInstance.gHead : GInstance → GType
  | .mk _ _ v _ _ _ _ _ => v
@[simp] theorem GInstance.gHead_mk (v0 : ByteArray) (v1 : List ByteArray) (v2 : GType) (v3 : List GBound) (v4 : Bool) (v5 : Bool) (v6 : GType) (v7 : List GMethod) : GInstance.gHead (.mk v0 v1 v2 v3 v4 v5 v6 v7) = v2 := rfl
def GInstance.gWhere : GInstance → List GBound
  | .mk _ _ _ v _ _ _ _ => v
@[simp] theorem GInstance.gWhere_mk (v0 : ByteArray) (v1 : List ByteArray) (v2 : GType) (v3 : List GBound) (v4 : Bool) (v5 : Bool) (v6 : GType) (v7 : List GMethod) : GInstance.gWhere (.mk v0 v1 v2 v3 v4 v5 v6 v7) = v3 := rfl
def GInstance.gDefault : GInstance → Bool
  | .mk _ _ _ _ v _ _ _ => v
@[simp] theorem GInstance.gDefault_mk (v0 : ByteArray) (v1 : List ByteArray) (v2 : GType) (v3 : List GBound) (v4 : Bool) (v5 : Bool) (v6 : GType) (v7 : List GMethod) : GInstance.gDefault (.mk v0 v1 v2 v3 v4 v5 v6 v7) = v4 := rfl
def GInstance.gHasAssoc : GInstance → Bool
  | .mk _ _ _ _ _ v _ _ => v
@[simp] theorem GInstance.gHasAssoc_mk (v0 : ByteArray) (v1 : List ByteArray) (v2 : GType) (v3 : List GBound) (v4 : Bool) (v5 : Bool) (v6 : GType) (v7 : List GMethod) : GInstance.gHasAssoc (.mk v0 v1 v2 v3 v4 v5 v6 v7) = v5 := rfl
def GInstance.gAssoc : GInstance → GType
  | .mk _ _ _ _ _ _ v _ => v
@[simp] theorem GInstance.gAssoc_mk (v0 : ByteArray) (v1 : List ByteArray) (v2 : GType) (v3 : List GBound) (v4 : Bool) (v5 : Bool) (v6 : GType) (v7 : List GMethod) : GInstance.gAssoc (.mk v0 v1 v2 v3 v4 v5 v6 v7) = v6 := rfl
def GInstance.gMethods : GInstance → List GMethod
  | .mk _ _ _ _ _ _ _ v => v
@[simp] theorem GInstance.gMethods_mk (v0 : ByteArray) (v1 : List ByteArray) (v2 : GType) (v3 : List GBound) (v4 : Bool) (v5 : Bool) (v6 : GType) (v7 : List GMethod) : GInstance.gMethods (.mk v0 v1 v2 v3 v4 v5 v6 v7) = v7 := rfl
theorem GInstance.tr_len (x : GInstance) : x.tr.length = 12 := by
  obtain ⟨v0, v1, v2, v3, v4, v5, v6, v7⟩ := x
  simp [GInstance.tr, GType.tr_len, GType.tr_len]
theorem GInstance.sz (l : List GInstance) : ∀ e ∈ GInstance.trs l, e.length = 12 := by
  intro e he
  rw [GInstance.trs_map] at he
  obtain ⟨x, -, rfl⟩ := List.mem_map.1 he
  exact GInstance.tr_len x
theorem GInstance.all {l : List GInstance} {Q : List Tr → Prop} (h : ∀ x ∈ l, Q x.tr) : ∀ e ∈ GInstance.trs l, Q e := by
  intro e he
  rw [GInstance.trs_map] at he
  obtain ⟨x, hx, rfl⟩ := List.mem_map.1 he
  exact h x hx
theorem GInstance.trs_get {l : List GInstance} {k : Nat} (h : k < l.length) : (GInstance.trs l)[k]? = some (l[k]).tr := by
  rw [GInstance.trs_map, List.getElem?_map, List.getElem?_eq_getElem h]; rfl
inductive GParam where
  | mk (name_ : ByteArray) (type_ : GType)
def GParam.tr : GParam → List Tr
  | .mk v0 v1 => [.leaf (.string v0)] ++ (GType.tr v1 ++ ([]))
def GParam.trs (l : List GParam) : List (List Tr) := l.map GParam.tr
theorem GParam.trs_map (l : List GParam) : GParam.trs l = l.map GParam.tr := rfl
def GParam.gName : GParam → ByteArray
  | .mk v _ => v
@[simp] theorem GParam.gName_mk (v0 : ByteArray) (v1 : GType) : GParam.gName (.mk v0 v1) = v0 := rfl
def GParam.gType : GParam → GType
  | .mk _ v => v
@[simp] theorem GParam.gType_mk (v0 : ByteArray) (v1 : GType) : GParam.gType (.mk v0 v1) = v1 := rfl
theorem GParam.tr_len (x : GParam) : x.tr.length = 4 := by
  obtain ⟨v0, v1⟩ := x
  simp [GParam.tr, GType.tr_len]
theorem GParam.sz (l : List GParam) : ∀ e ∈ GParam.trs l, e.length = 4 := by
  intro e he
  rw [GParam.trs_map] at he
  obtain ⟨x, -, rfl⟩ := List.mem_map.1 he
  exact GParam.tr_len x
theorem GParam.all {l : List GParam} {Q : List Tr → Prop} (h : ∀ x ∈ l, Q x.tr) : ∀ e ∈ GParam.trs l, Q e := by
  intro e he
  rw [GParam.trs_map] at he
  obtain ⟨x, hx, rfl⟩ := List.mem_map.1 he
  exact h x hx
inductive GFunction where
  | mk (name_ : ByteArray) (vars_ : List ByteArray) (where_ : List GBound) (params_ : List GParam) (result_ : GType) (body_ : GExpr)
def GFunction.tr : GFunction → List Tr
  | .mk v0 v1 v2 v3 v4 v5 => [.leaf (.string v0)] ++ ([.row 1 (strTrs v1)] ++ ([.row 4 (GBound.trs v2)] ++ ([.row 4 (GParam.trs v3)] ++ (GType.tr v4 ++ (GExpr.tr v5 ++ ([]))))))
def GFunction.trs (l : List GFunction) : List (List Tr) := l.map GFunction.tr
theorem GFunction.trs_map (l : List GFunction) : GFunction.trs l = l.map GFunction.tr := rfl
def GFunction.gName : GFunction → ByteArray
  | .mk v _ _ _ _ _ => v
@[simp] theorem GFunction.gName_mk (v0 : ByteArray) (v1 : List ByteArray) (v2 : List GBound) (v3 : List GParam) (v4 : GType) (v5 : GExpr) : GFunction.gName (.mk v0 v1 v2 v3 v4 v5) = v0 := rfl
def GFunction.gVars : GFunction → List ByteArray
  | .mk _ v _ _ _ _ => v
@[simp] theorem GFunction.gVars_mk (v0 : ByteArray) (v1 : List ByteArray) (v2 : List GBound) (v3 : List GParam) (v4 : GType) (v5 : GExpr) : GFunction.gVars (.mk v0 v1 v2 v3 v4 v5) = v1 := rfl
def GFunction.gWhere : GFunction → List GBound
  | .mk _ _ v _ _ _ => v
@[simp] theorem GFunction.gWhere_mk (v0 : ByteArray) (v1 : List ByteArray) (v2 : List GBound) (v3 : List GParam) (v4 : GType) (v5 : GExpr) : GFunction.gWhere (.mk v0 v1 v2 v3 v4 v5) = v2 := rfl
def GFunction.gParams : GFunction → List GParam
  | .mk _ _ _ v _ _ => v
@[simp] theorem GFunction.gParams_mk (v0 : ByteArray) (v1 : List ByteArray) (v2 : List GBound) (v3 : List GParam) (v4 : GType) (v5 : GExpr) : GFunction.gParams (.mk v0 v1 v2 v3 v4 v5) = v3 := rfl
def GFunction.gResult : GFunction → GType
  | .mk _ _ _ _ v _ => v
@[simp] theorem GFunction.gResult_mk (v0 : ByteArray) (v1 : List ByteArray) (v2 : List GBound) (v3 : List GParam) (v4 : GType) (v5 : GExpr) : GFunction.gResult (.mk v0 v1 v2 v3 v4 v5) = v4 := rfl
def GFunction.gBody : GFunction → GExpr
  | .mk _ _ _ _ _ v => v
@[simp] theorem GFunction.gBody_mk (v0 : ByteArray) (v1 : List ByteArray) (v2 : List GBound) (v3 : List GParam) (v4 : GType) (v5 : GExpr) : GFunction.gBody (.mk v0 v1 v2 v3 v4 v5) = v5 := rfl
theorem GFunction.tr_len (x : GFunction) : x.tr.length = 16 := by
  obtain ⟨v0, v1, v2, v3, v4, v5⟩ := x
  simp [GFunction.tr, GType.tr_len, GExpr.tr_len]
theorem GFunction.sz (l : List GFunction) : ∀ e ∈ GFunction.trs l, e.length = 16 := by
  intro e he
  rw [GFunction.trs_map] at he
  obtain ⟨x, -, rfl⟩ := List.mem_map.1 he
  exact GFunction.tr_len x
theorem GFunction.all {l : List GFunction} {Q : List Tr → Prop} (h : ∀ x ∈ l, Q x.tr) : ∀ e ∈ GFunction.trs l, Q e := by
  intro e he
  rw [GFunction.trs_map] at he
  obtain ⟨x, hx, rfl⟩ := List.mem_map.1 he
  exact h x hx
inductive GPackage where
  | mk (name_ : ByteArray) (deps_ : List ByteArray) (traits_ : List GTrait) (datatypes_ : List GDataType) (instances_ : List GInstance) (functions_ : List GFunction)
def GPackage.tr : GPackage → List Tr
  | .mk v0 v1 v2 v3 v4 v5 => [.leaf (.string v0)] ++ ([.row 1 (strTrs v1)] ++ ([.row 5 (GTrait.trs v2)] ++ ([.row 3 (GDataType.trs v3)] ++ ([.row 12 (GInstance.trs v4)] ++ ([.row 16 (GFunction.trs v5)] ++ ([]))))))
def GPackage.trs (l : List GPackage) : List (List Tr) := l.map GPackage.tr
theorem GPackage.trs_map (l : List GPackage) : GPackage.trs l = l.map GPackage.tr := rfl
def GPackage.gName : GPackage → ByteArray
  | .mk v _ _ _ _ _ => v
@[simp] theorem GPackage.gName_mk (v0 : ByteArray) (v1 : List ByteArray) (v2 : List GTrait) (v3 : List GDataType) (v4 : List GInstance) (v5 : List GFunction) : GPackage.gName (.mk v0 v1 v2 v3 v4 v5) = v0 := rfl
def GPackage.gDeps : GPackage → List ByteArray
  | .mk _ v _ _ _ _ => v
@[simp] theorem GPackage.gDeps_mk (v0 : ByteArray) (v1 : List ByteArray) (v2 : List GTrait) (v3 : List GDataType) (v4 : List GInstance) (v5 : List GFunction) : GPackage.gDeps (.mk v0 v1 v2 v3 v4 v5) = v1 := rfl
def GPackage.gTraits : GPackage → List GTrait
  | .mk _ _ v _ _ _ => v
@[simp] theorem GPackage.gTraits_mk (v0 : ByteArray) (v1 : List ByteArray) (v2 : List GTrait) (v3 : List GDataType) (v4 : List GInstance) (v5 : List GFunction) : GPackage.gTraits (.mk v0 v1 v2 v3 v4 v5) = v2 := rfl
def GPackage.gDataTypes : GPackage → List GDataType
  | .mk _ _ _ v _ _ => v
@[simp] theorem GPackage.gDataTypes_mk (v0 : ByteArray) (v1 : List ByteArray) (v2 : List GTrait) (v3 : List GDataType) (v4 : List GInstance) (v5 : List GFunction) : GPackage.gDataTypes (.mk v0 v1 v2 v3 v4 v5) = v3 := rfl
def GPackage.gInstances : GPackage → List GInstance
  | .mk _ _ _ _ v _ => v
@[simp] theorem GPackage.gInstances_mk (v0 : ByteArray) (v1 : List ByteArray) (v2 : List GTrait) (v3 : List GDataType) (v4 : List GInstance) (v5 : List GFunction) : GPackage.gInstances (.mk v0 v1 v2 v3 v4 v5) = v4 := rfl
def GPackage.gFunctions : GPackage → List GFunction
  | .mk _ _ _ _ _ v => v
@[simp] theorem GPackage.gFunctions_mk (v0 : ByteArray) (v1 : List ByteArray) (v2 : List GTrait) (v3 : List GDataType) (v4 : List GInstance) (v5 : List GFunction) : GPackage.gFunctions (.mk v0 v1 v2 v3 v4 v5) = v5 := rfl
theorem GPackage.tr_len (x : GPackage) : x.tr.length = 6 := by
  obtain ⟨v0, v1, v2, v3, v4, v5⟩ := x
  simp [GPackage.tr]
theorem GPackage.sz (l : List GPackage) : ∀ e ∈ GPackage.trs l, e.length = 6 := by
  intro e he
  rw [GPackage.trs_map] at he
  obtain ⟨x, -, rfl⟩ := List.mem_map.1 he
  exact GPackage.tr_len x
theorem GPackage.all {l : List GPackage} {Q : List Tr → Prop} (h : ∀ x ∈ l, Q x.tr) : ∀ e ∈ GPackage.trs l, Q e := by
  intro e he
  rw [GPackage.trs_map] at he
  obtain ⟨x, hx, rfl⟩ := List.mem_map.1 he
  exact h x hx
inductive GProgram where
  | mk (packages_ : List GPackage)
def GProgram.tr : GProgram → List Tr
  | .mk v0 => [.row 6 (GPackage.trs v0)] ++ ([])
def GProgram.trs (l : List GProgram) : List (List Tr) := l.map GProgram.tr
theorem GProgram.trs_map (l : List GProgram) : GProgram.trs l = l.map GProgram.tr := rfl
def GProgram.gPackages : GProgram → List GPackage
  | .mk v => v
@[simp] theorem GProgram.gPackages_mk (v0 : List GPackage) : GProgram.gPackages (.mk v0) = v0 := rfl
theorem GProgram.tr_len (x : GProgram) : x.tr.length = 1 := by
  obtain ⟨v0⟩ := x
  simp [GProgram.tr]
theorem GProgram.sz (l : List GProgram) : ∀ e ∈ GProgram.trs l, e.length = 1 := by
  intro e he
  rw [GProgram.trs_map] at he
  obtain ⟨x, -, rfl⟩ := List.mem_map.1 he
  exact GProgram.tr_len x
theorem GProgram.all {l : List GProgram} {Q : List Tr → Prop} (h : ∀ x ∈ l, Q x.tr) : ∀ e ∈ GProgram.trs l, Q e := by
  intro e he
  rw [GProgram.trs_map] at he
  obtain ⟨x, hx, rfl⟩ := List.mem_map.1 he
  exact h x hx
inductive Gview where
  | mk (w_ : GProgram) (visible_ : List Int)
def Gview.tr : Gview → List Tr
  | .mk v0 v1 => GProgram.tr v0 ++ ([.row 1 (intTrs v1)] ++ ([]))
def Gview.trs (l : List Gview) : List (List Tr) := l.map Gview.tr
theorem Gview.trs_map (l : List Gview) : Gview.trs l = l.map Gview.tr := rfl
def Gview.gw : Gview → GProgram
  | .mk v _ => v
@[simp] theorem Gview.gw_mk (v0 : GProgram) (v1 : List Int) : Gview.gw (.mk v0 v1) = v0 := rfl
def Gview.gvisible : Gview → List Int
  | .mk _ v => v
@[simp] theorem Gview.gvisible_mk (v0 : GProgram) (v1 : List Int) : Gview.gvisible (.mk v0 v1) = v1 := rfl
theorem Gview.tr_len (x : Gview) : x.tr.length = 2 := by
  obtain ⟨v0, v1⟩ := x
  simp [Gview.tr, GProgram.tr_len]
theorem Gview.sz (l : List Gview) : ∀ e ∈ Gview.trs l, e.length = 2 := by
  intro e he
  rw [Gview.trs_map] at he
  obtain ⟨x, -, rfl⟩ := List.mem_map.1 he
  exact Gview.tr_len x
theorem Gview.all {l : List Gview} {Q : List Tr → Prop} (h : ∀ x ∈ l, Q x.tr) : ∀ e ∈ Gview.trs l, Q e := by
  intro e he
  rw [Gview.trs_map] at he
  obtain ⟨x, hx, rfl⟩ := List.mem_map.1 he
  exact h x hx
inductive GEvidence where
  | mk (kind_ : Int) (n_ : Int) (at_ : GInstanceRef) (args_ : List GEvidence)
mutual
def GEvidence.tr : GEvidence → List Tr
  | .mk v0 v1 v2 v3 => [.leaf (.int .i64 v0)] ++ ([.leaf (.int .i64 v1)] ++ (GInstanceRef.tr v2 ++ ([.row 5 (GEvidence.trs v3)] ++ ([]))))
def GEvidence.trs : List GEvidence → List (List Tr)
  | [] => []
  | e :: r => GEvidence.tr e :: GEvidence.trs r
end
theorem GEvidence.trs_map (l : List GEvidence) : GEvidence.trs l = l.map GEvidence.tr := by induction l <;> simp_all [GEvidence.trs]
def GEvidence.gKind : GEvidence → Int
  | .mk v _ _ _ => v
@[simp] theorem GEvidence.gKind_mk (v0 : Int) (v1 : Int) (v2 : GInstanceRef) (v3 : List GEvidence) : GEvidence.gKind (.mk v0 v1 v2 v3) = v0 := rfl
def GEvidence.gN : GEvidence → Int
  | .mk _ v _ _ => v
@[simp] theorem GEvidence.gN_mk (v0 : Int) (v1 : Int) (v2 : GInstanceRef) (v3 : List GEvidence) : GEvidence.gN (.mk v0 v1 v2 v3) = v1 := rfl
def GEvidence.gAt : GEvidence → GInstanceRef
  | .mk _ _ v _ => v
@[simp] theorem GEvidence.gAt_mk (v0 : Int) (v1 : Int) (v2 : GInstanceRef) (v3 : List GEvidence) : GEvidence.gAt (.mk v0 v1 v2 v3) = v2 := rfl
def GEvidence.gArgs : GEvidence → List GEvidence
  | .mk _ _ _ v => v
@[simp] theorem GEvidence.gArgs_mk (v0 : Int) (v1 : Int) (v2 : GInstanceRef) (v3 : List GEvidence) : GEvidence.gArgs (.mk v0 v1 v2 v3) = v3 := rfl
theorem GEvidence.tr_len (x : GEvidence) : x.tr.length = 5 := by
  obtain ⟨v0, v1, v2, v3⟩ := x
  simp [GEvidence.tr, GInstanceRef.tr_len]
theorem GEvidence.sz (l : List GEvidence) : ∀ e ∈ GEvidence.trs l, e.length = 5 := by
  intro e he
  rw [GEvidence.trs_map] at he
  obtain ⟨x, -, rfl⟩ := List.mem_map.1 he
  exact GEvidence.tr_len x
theorem GEvidence.all {l : List GEvidence} {Q : List Tr → Prop} (h : ∀ x ∈ l, Q x.tr) : ∀ e ∈ GEvidence.trs l, Q e := by
  intro e he
  rw [GEvidence.trs_map] at he
  obtain ⟨x, hx, rfl⟩ := List.mem_map.1 he
  exact h x hx
inductive GAssumption where
  | mk (goal_ : GBound) (from_ : Int) (steps_ : List Int)
def GAssumption.tr : GAssumption → List Tr
  | .mk v0 v1 v2 => GBound.tr v0 ++ ([.leaf (.int .i64 v1)] ++ ([.row 1 (intTrs v2)] ++ ([])))
def GAssumption.trs (l : List GAssumption) : List (List Tr) := l.map GAssumption.tr
theorem GAssumption.trs_map (l : List GAssumption) : GAssumption.trs l = l.map GAssumption.tr := rfl
def GAssumption.gGoal : GAssumption → GBound
  | .mk v _ _ => v
@[simp] theorem GAssumption.gGoal_mk (v0 : GBound) (v1 : Int) (v2 : List Int) : GAssumption.gGoal (.mk v0 v1 v2) = v0 := rfl
def GAssumption.gFrom : GAssumption → Int
  | .mk _ v _ => v
@[simp] theorem GAssumption.gFrom_mk (v0 : GBound) (v1 : Int) (v2 : List Int) : GAssumption.gFrom (.mk v0 v1 v2) = v1 := rfl
def GAssumption.gSteps : GAssumption → List Int
  | .mk _ _ v => v
@[simp] theorem GAssumption.gSteps_mk (v0 : GBound) (v1 : Int) (v2 : List Int) : GAssumption.gSteps (.mk v0 v1 v2) = v2 := rfl
theorem GAssumption.tr_len (x : GAssumption) : x.tr.length = 6 := by
  obtain ⟨v0, v1, v2⟩ := x
  simp [GAssumption.tr, GBound.tr_len]
theorem GAssumption.sz (l : List GAssumption) : ∀ e ∈ GAssumption.trs l, e.length = 6 := by
  intro e he
  rw [GAssumption.trs_map] at he
  obtain ⟨x, -, rfl⟩ := List.mem_map.1 he
  exact GAssumption.tr_len x
theorem GAssumption.all {l : List GAssumption} {Q : List Tr → Prop} (h : ∀ x ∈ l, Q x.tr) : ∀ e ∈ GAssumption.trs l, Q e := by
  intro e he
  rw [GAssumption.trs_map] at he
  obtain ⟨x, hx, rfl⟩ := List.mem_map.1 he
  exact h x hx
inductive Gl2In where
  | mk (s_ : ByteArray) (at_ : Int) (deep_ : Int) (size_ : Int) (bad_ : Bool)
def Gl2In.tr : Gl2In → List Tr
  | .mk v0 v1 v2 v3 v4 => [.leaf (.string v0)] ++ ([.leaf (.int .i64 v1)] ++ ([.leaf (.int .i64 v2)] ++ ([.leaf (.int .i64 v3)] ++ ([.leaf (.bool v4)] ++ ([])))))
def Gl2In.trs (l : List Gl2In) : List (List Tr) := l.map Gl2In.tr
theorem Gl2In.trs_map (l : List Gl2In) : Gl2In.trs l = l.map Gl2In.tr := rfl
def Gl2In.gs : Gl2In → ByteArray
  | .mk v _ _ _ _ => v
@[simp] theorem Gl2In.gs_mk (v0 : ByteArray) (v1 : Int) (v2 : Int) (v3 : Int) (v4 : Bool) : Gl2In.gs (.mk v0 v1 v2 v3 v4) = v0 := rfl
def Gl2In.gat : Gl2In → Int
  | .mk _ v _ _ _ => v
@[simp] theorem Gl2In.gat_mk (v0 : ByteArray) (v1 : Int) (v2 : Int) (v3 : Int) (v4 : Bool) : Gl2In.gat (.mk v0 v1 v2 v3 v4) = v1 := rfl
def Gl2In.gdeep : Gl2In → Int
  | .mk _ _ v _ _ => v
@[simp] theorem Gl2In.gdeep_mk (v0 : ByteArray) (v1 : Int) (v2 : Int) (v3 : Int) (v4 : Bool) : Gl2In.gdeep (.mk v0 v1 v2 v3 v4) = v2 := rfl
def Gl2In.gsize : Gl2In → Int
  | .mk _ _ _ v _ => v
@[simp] theorem Gl2In.gsize_mk (v0 : ByteArray) (v1 : Int) (v2 : Int) (v3 : Int) (v4 : Bool) : Gl2In.gsize (.mk v0 v1 v2 v3 v4) = v3 := rfl
def Gl2In.gbad : Gl2In → Bool
  | .mk _ _ _ _ v => v
@[simp] theorem Gl2In.gbad_mk (v0 : ByteArray) (v1 : Int) (v2 : Int) (v3 : Int) (v4 : Bool) : Gl2In.gbad (.mk v0 v1 v2 v3 v4) = v4 := rfl
theorem Gl2In.tr_len (x : Gl2In) : x.tr.length = 5 := by
  obtain ⟨v0, v1, v2, v3, v4⟩ := x
  simp [Gl2In.tr]
theorem Gl2In.sz (l : List Gl2In) : ∀ e ∈ Gl2In.trs l, e.length = 5 := by
  intro e he
  rw [Gl2In.trs_map] at he
  obtain ⟨x, -, rfl⟩ := List.mem_map.1 he
  exact Gl2In.tr_len x
theorem Gl2In.all {l : List Gl2In} {Q : List Tr → Prop} (h : ∀ x ∈ l, Q x.tr) : ∀ e ∈ Gl2In.trs l, Q e := by
  intro e he
  rw [Gl2In.trs_map] at he
  obtain ⟨x, hx, rfl⟩ := List.mem_map.1 he
  exact h x hx
inductive GCache where
  | mk (goals_ : List GBound) (codes_ : List Int) (evidence_ : List GEvidence)
def GCache.tr : GCache → List Tr
  | .mk v0 v1 v2 => [.row 4 (GBound.trs v0)] ++ ([.row 1 (intTrs v1)] ++ ([.row 5 (GEvidence.trs v2)] ++ ([])))
def GCache.trs (l : List GCache) : List (List Tr) := l.map GCache.tr
theorem GCache.trs_map (l : List GCache) : GCache.trs l = l.map GCache.tr := rfl
def GCache.gGoals : GCache → List GBound
  | .mk v _ _ => v
@[simp] theorem GCache.gGoals_mk (v0 : List GBound) (v1 : List Int) (v2 : List GEvidence) : GCache.gGoals (.mk v0 v1 v2) = v0 := rfl
def GCache.gCodes : GCache → List Int
  | .mk _ v _ => v
@[simp] theorem GCache.gCodes_mk (v0 : List GBound) (v1 : List Int) (v2 : List GEvidence) : GCache.gCodes (.mk v0 v1 v2) = v1 := rfl
def GCache.gEvidence : GCache → List GEvidence
  | .mk _ _ v => v
@[simp] theorem GCache.gEvidence_mk (v0 : List GBound) (v1 : List Int) (v2 : List GEvidence) : GCache.gEvidence (.mk v0 v1 v2) = v2 := rfl
theorem GCache.tr_len (x : GCache) : x.tr.length = 3 := by
  obtain ⟨v0, v1, v2⟩ := x
  simp [GCache.tr]
theorem GCache.sz (l : List GCache) : ∀ e ∈ GCache.trs l, e.length = 3 := by
  intro e he
  rw [GCache.trs_map] at he
  obtain ⟨x, -, rfl⟩ := List.mem_map.1 he
  exact GCache.tr_len x
theorem GCache.all {l : List GCache} {Q : List Tr → Prop} (h : ∀ x ∈ l, Q x.tr) : ∀ e ∈ GCache.trs l, Q e := by
  intro e he
  rw [GCache.trs_map] at he
  obtain ⟨x, hx, rfl⟩ := List.mem_map.1 he
  exact h x hx
end Go.Proofs.Ytmpepccpnnldoaa

namespace Go.Proofs.Ytmpepccpnnldoaa
open Go.RowKit Go.ChangeShapes Go.WideShapes Go.Deep

inductive TyOf (P : Program) : TypeId → List Tr → Prop
  | bool {t b} : P.underlying t = some .bool → TyOf P t [.leaf (.bool b)]
  | int {t k n} : P.underlying t = some (.int k) → (Lit.int k n).wf = true → TyOf P t [.leaf (.int k n)]
  | str {t s} : P.underlying t = some .string → s.size ≤ maxLen → TyOf P t [.leaf (.string s)]
  | slice {t e es} : P.underlying t = some (.slice e) → (∀ x ∈ es, TyOf P e x) → TyOf P t [.row (P.cellsOf e) es]
  | struct {t fs} (parts : Nat → List Tr) : P.underlying t = some (.struct fs) → (∀ i f, fs[i]? = some f → TyOf P f.type (parts i)) → TyOf P t ((List.range fs.size).flatMap parts)

section
variable {H : Type} {enc : TypeId × Value → H} {P : Program} {w : World} {base : Nat} {spare : Nat → Bool} {held : Bool}

end
section
variable {P : Program}
end
end Go.Proofs.Ytmpepccpnnldoaa

namespace Go.Proofs.Ytmpepccpnnldoaa
open Go.RowKit Go.Proofs

end Go.Proofs.Ytmpepccpnnldoaa

namespace Go.Proofs.Ytmpepccpnnldoaa
open Go.RowKit Go.Proofs

def EqC (f : FuncId) (ts : List Tr) : Prop := ∀ (cs ds : List Value) (w : World), RepL w ts cs → RepL w ts ds →
  Calls Try.prog f #[.agg ⟨cs⟩, .agg ⟨ds⟩] w fun e w' => e = .returned (.bool true) ∧ Ext w w'
def EqSC (f : FuncId) (sz : Nat) (es : List (List Tr)) : Prop := ∀ (s u : Value) (w : World), Rep w (.row sz es) s → Rep w (.row sz es) u →
  Calls Try.prog f #[s, u] w fun e w' => e = .returned (.bool true) ∧ Ext w w'

theorem RepL.sLeaf {w : World} {v : Value} {us : List Tr} {cs : List Value} (h : RepL w ([.leaf v] ++ us) cs) : ∃ r, cs = v :: r ∧ Hid (LeafOk v) ∧ RepL w us r := by
  obtain ⟨b, r, rfl, g, n⟩ := RepL.split h
  obtain ⟨y, rfl⟩ := list1 g.length.symm
  obtain ⟨rfl, k⟩ := g.1.leaf_eq
  exact ⟨r, rfl, k, n⟩
theorem RepL.sRow {w : World} {sz : Nat} {es : List (List Tr)} {us : List Tr} {cs : List Value} (h : RepL w ([.row sz es] ++ us) cs) : ∃ a c r, cs = .slice a es.length c :: r ∧ Hid (RepL w [.row sz es] [.slice a es.length c]) ∧ RepL w us r := by
  obtain ⟨b, r, rfl, g, n⟩ := RepL.split h
  obtain ⟨y, rfl⟩ := list1 g.length.symm
  obtain ⟨a, c, rfl, -, -⟩ := g.1.shape
  exact ⟨a, c, r, rfl, g, n⟩
theorem RepL.sAgg3 {w : World} {ts us : List Tr} {cs : List Value} (h : RepL w (ts ++ us) cs) (l : ts.length = 3) : ∃ x0 x1 x2 r, cs = x0 :: x1 :: x2 :: r ∧ Hid (RepL w ts [x0, x1, x2]) ∧ RepL w us r := by
  obtain ⟨b, r, rfl, g, n⟩ := RepL.split h
  obtain ⟨x0, x1, x2, rfl⟩ := list3 (g.length.symm.trans l)
  exact ⟨x0, x1, x2, r, rfl, g, n⟩
theorem isz3 : (Try.prog.info? 3).map (·.size) = some 1 := by kernel_rfl
theorem isz4 : (Try.prog.info? 4).map (·.size) = some 1 := by kernel_rfl
theorem isz9 : (Try.prog.info? 9).map (·.size) = some 1 := by kernel_rfl
theorem isz27 : (Try.prog.info? 27).map (·.size) = some 3 := by kernel_rfl
theorem iszc27 : (Try.prog.info? 27).map (fun i => (i.zero.map (fun z => z.cells.size), i.size, i.bytes)) = some (some 3, 3, 48) := by kernel_rfl
theorem isz41 : (Try.prog.info? 41).map (·.size) = some 4 := by kernel_rfl
theorem isz71 : (Try.prog.info? 71).map (·.size) = some 1 := by kernel_rfl
theorem isz73 : (Try.prog.info? 73).map (·.size) = some 2 := by kernel_rfl
theorem iszc73 : (Try.prog.info? 73).map (fun i => (i.zero.map (fun z => z.cells.size), i.size, i.bytes)) = some (some 2, 2, 40) := by kernel_rfl
end Go.Proofs.Ytmpepccpnnldoaa

namespace Go.Proofs.Ytmpepccpnnldoaa
open Go.RowKit Go.Proofs

set_option maxRecDepth 100000 in
set_option maxHeartbeats 1000000 in
theorem eqType_of (v0 : Int) (v1 : ByteArray) (es2 : List (List Tr)) (h2 : EqSC 80 3 es2) : EqC 42 ([.leaf (.int .i64 v0)] ++ ([.leaf (.string v1)] ++ ([.row 3 es2] ++ ([])))) := by
  intro cs ds w hr hr'
  obtain ⟨r0, rfl, K0, n0⟩ := RepL.sLeaf hr
  obtain ⟨r1, rfl, K1, n1⟩ := RepL.sLeaf n0
  obtain ⟨a2, c2, r2, rfl, G2, n2⟩ := RepL.sRow n1
  obtain rfl := RepL.nil_eq n2
  clear hr n0 n1 n2
  obtain ⟨zr0, rfl, zK0, zn0⟩ := RepL.sLeaf hr'
  obtain ⟨zr1, rfl, zK1, zn1⟩ := RepL.sLeaf zn0
  obtain ⟨za2, zc2, zr2, rfl, zG2, zn2⟩ := RepL.sRow zn1
  obtain rfl := RepL.nil_eq zn2
  clear hr' zn0 zn1 zn2
  go_enter Try.func42, Try.ntmps42
  go_wp2_with fail
  refine (h2 _ _ _ (G2.out.1.ext (.alloc (.alloc (.refl _) _) _)) (zG2.out.1.ext (.alloc (.alloc (.refl _) _) _))).mono ?_; rintro e w2 ⟨rfl, hw2⟩
  have HW2 := Lib.hid hw2
  have ob2 := (Two.new w _ _ _ _).ext hw2
  have OBH := Lib.hid ob2
  have ce2 := ob2.o0.cell
  have cf2 := ob2.o1.cell
  clear hw2 ob2
  go_wp2_with fail
  go_ret
  exact ⟨rfl, (Ext.trans (.alloc (.alloc (.refl _) _) _) HW2.out)⟩

set_option maxRecDepth 100000 in
set_option maxHeartbeats 1000000 in
theorem eqTypeS_of (es : List (List Tr)) (h5 : ∀ e ∈ es, e.length = 3) (H : ∀ e ∈ es, EqC 42 e) : EqSC 80 3 es := by
  intro s u w hs hu
  obtain ⟨a, cap, rfl, hl, hm⟩ := hs.shape
  obtain ⟨a', cap', rfl, hl', hm'⟩ := hu.shape
  unfold maxLen at hm hm'
  have HS := Lib.hid hs
  have HU := Lib.hid hu
  have HH := Lib.hid H
  have H5 := Lib.hid h5
  clear hs hu H h5
  go_enter Try.func80, Try.ntmps80
  go_wp2_with fail
  go_loopw [5] (fun i wr => ∃ k : Nat, k ≤ es.length ∧ i = .int .i64 k ∧ Ext w wr) (fun i _ => es.length - (intOf i).toNat)
  case atStart => exact ⟨0, Nat.zero_le _, rfl, .refl _⟩
  case round =>
    obtain ⟨k, hk, rfl, hw⟩ := hrel
    by_cases hlt : k < es.length
    · obtain ⟨b, off, cs, rfl, hb, hcs, hc⟩ := (HS.out.ext hw).at2 (k := k) (List.getElem?_eq_getElem hlt)
      obtain ⟨b', off', ds, rfl, hb', hds, hd⟩ := (HU.out.ext hw).at2 (k := k) (List.getElem?_eq_getElem hlt)
      have hmem : es[k] ∈ es := List.getElem_mem hlt
      have l5 := H5.out _ hmem
      have HCS := Lib.hid hcs
      have HDS := Lib.hid hds
      have HM := Lib.hid hmem
      have HC := Lib.hid hc
      have HD := Lib.hid hd
      have HI : Hid ((Try.prog.info? 27).map (·.size) = some cs.length) := by rw [← hcs.length, l5]; exact isz27
      have HJ : Hid ((Try.prog.info? 27).map (·.size) = some ds.length) := by rw [← hds.length, l5]; exact isz27
      clear hcs hds hc hd l5 hmem
      go_wp2_with fail
      have ki : (k : Int) < (es.length : Int) := by omega
      have k0 : (0 : Int) ≤ (k : Int) := by omega
      refine wp_region_still_tail 8 (by kernel_rfl) (by kernel_rfl) ?_
      simp only [List.take_succ_cons, List.take_zero, List.drop_succ_cons, List.drop_zero]
      change wpStill _ _ wr.drew _ _ _
      repeat (first
        | (refine wpStill_load_rep rfl 27 (.tmp 19) rfl b (off + k * 3) rfl cs _ Try.underlying27 HI.out HC.out ?_; simp only [Act.put])
        | (refine wpStill_load_rep rfl 27 (.tmp 23) rfl b' (off' + k * 3) rfl ds _ Try.underlying27 HJ.out HD.out ?_; simp only [Act.put])
        | still_step)
      refine wpStill_nil ?_
      change wpList _ _ _ _ _ wr.drew
      go_wp2_with fail
      refine (HH.out _ HM.out _ _ _ (HCS.out.ext (.drew (.refl _))) (HDS.out.ext (.drew (.refl _)))).mono ?_; rintro e w1 ⟨rfl, hw1⟩
      have HW1 := Lib.hid hw1
      clear hw1
      go_wp2_with fail
      go_roundw
      case rel => exact ⟨k + 1, by omega, by go_num, hw.trans (.trans (.drew (.refl _)) HW1.out)⟩
      case measure => simp [intOf]; omega
    · go_wp2_with fail
      go_ret
      exact ⟨rfl, hw⟩

end Go.Proofs.Ytmpepccpnnldoaa

namespace Go.Proofs.Ytmpepccpnnldoaa
open Go.RowKit Go.Proofs

set_option maxRecDepth 100000 in
set_option maxHeartbeats 1000000 in
theorem eqBound_of (v0 : ByteArray) (ts1 : List Tr) (l1 : ts1.length = 3) (h1 : EqC 42 ts1) : EqC 18 ([.leaf (.string v0)] ++ (ts1 ++ ([]))) := by
  intro cs ds w hr hr'
  obtain ⟨r0, rfl, K0, n0⟩ := RepL.sLeaf hr
  obtain ⟨x1_0, x1_1, x1_2, r1, rfl, G1, n1⟩ := RepL.sAgg3 n0 l1
  obtain rfl := RepL.nil_eq n1
  clear hr n0 n1
  obtain ⟨zr0, rfl, zK0, zn0⟩ := RepL.sLeaf hr'
  obtain ⟨zx1_0, zx1_1, zx1_2, zr1, rfl, zG1, zn1⟩ := RepL.sAgg3 zn0 l1
  obtain rfl := RepL.nil_eq zn1
  clear hr' zn0 zn1
  go_enter Try.func18, Try.ntmps18
  go_wp2_with fail
  refine (h1 _ _ _ (G1.out.ext (.alloc (.alloc (.refl _) _) _)) (zG1.out.ext (.alloc (.alloc (.refl _) _) _))).mono ?_; rintro e w1 ⟨rfl, hw1⟩
  have HW1 := Lib.hid hw1
  have ob1 := (Two.new w _ _ _ _).ext hw1
  have OBH := Lib.hid ob1
  have ce1 := ob1.o0.cell
  have cf1 := ob1.o1.cell
  clear hw1 ob1
  go_wp2_with fail
  go_ret
  exact ⟨rfl, (Ext.trans (.alloc (.alloc (.refl _) _) _) HW1.out)⟩

end Go.Proofs.Ytmpepccpnnldoaa

namespace Go.Proofs.Ytmpepccpnnldoaa
open Go.RowKit Go.Proofs

end Go.Proofs.Ytmpepccpnnldoaa

namespace Go.Proofs.Ytmpepccpnnldoaa
open Go.RowKit Go.Proofs

theorem eqType_all : ∀ x : GType, EqC 42 x.tr :=
  GType.ind fun v0 v1 v2 ih => eqType_of v0 v1 (GType.trs v2) (eqTypeS_of _ (GType.sz v2) (GType.all ih))

theorem eqBound_all (x : GBound) : EqC 18 x.tr := by
  obtain ⟨v0, v1⟩ := x
  exact eqBound_of v0 (GType.tr v1) (GType.tr_len v1) (eqType_all v1)

end Go.Proofs.Ytmpepccpnnldoaa

namespace Go.Proofs.Ytmpepccpnnldoaa
open Go.RowKit

section
variable {P : Program} {ops : Array Oper} {Q : Exit → Act → World → Prop} {md : Region.Mode} {S : World → Prop}

theorem wpAnyH_load_rep {i : Nat} {oi : Oper} {fuel : Nat} {listed : Array Bool} {a : Act} {w : World} (hi : ops[i]? = some oi)
    (hs : Region.noSelect ops = true) (hf : Region.free md ops listed i = true) (hr : (Region.ready md ops listed).contains i = true)
    (_hQ : ∀ c a w, Q (.panic c) (a.put oi.dst (.bool true)) w → Q (.panic c) a w) (hgd : oi.guard = none) (ty : TypeId) (x : Operand) (ho : oi.op = .load ty x)
    (b off : Nat) (hx : a.eval x = .pointer (some ⟨b, off, none⟩)) (cs : List Value) (fs : Array Field) (hu : P.underlying ty = some (.struct fs)) (hinfo : (P.info? ty).map (·.size) = some cs.length)
    (hS : ∀ w, S w → ∀ (j : Nat) (v : Value), cs[j]? = some v → w.cell? ⟨b, off + j, none⟩ = some v) (hw : S w) (hQ2 : ∀ c a w v, Q (.panic c) (a.put oi.dst v) w → Q (.panic c) a w)
    (h : wpAnyH P md ops Q S fuel (listed.setIfInBounds i true) (a.put oi.dst (.agg ⟨cs⟩)) w) : wpAnyH P md ops Q S (fuel + 1) listed a w :=
  wpAnyH_take hi hs hf hr (fun c a w => hQ2 c a w _) (.inl ⟨by simp [Region.wanted, hgd], fun w1 hw1 => by
    unfold execOp
    simp only [ho, hx, Instr.loadAt, Instr.sureAddr, Sem.run_bind, Sem.run_pure, Result.andThen_ok, run_loadVar_rep w1 b off ty cs fs hu hinfo (hS w1 hw1)]⟩) hw h

theorem run_call_func {o : Oper} {ev : Operand → Value} {f : FuncId} {fn : Func} {ars : Array Operand} {ts : Array TypeId} (ho : o.op = .call { callee := .value (.func f), args := ars, argTypes := ts })
    (hev : ev (.func f) = .func (.func f) #[] #[]) (vals : Array Value) (hv : ars.map ev = vals) (hf : P.funcs[f]? = some fn) (hname : (fn.name == "runtime.NumGoroutine") = false) (hb : fn.body.isNone = false) (w : World) :
    (execOp ev o).run P w = .ok (.enter f vals) w := by
  have hc := run_callFunc_body (P := P) hf hname hb
  unfold execOp
  simp only [ho]
  simp [resolve, invoke, Deferred.ofValue, hev, hv, hc]

theorem wpAnyH_call {i : Nat} {o : Oper} {fuel : Nat} {listed : Array Bool} {a : Act} {w : World} {f : FuncId} {vals : Array Value} {R : Ending → World → Prop} (hr : Region.ready md ops listed = [i]) (ho : ops[i]? = some o) (hgd : o.guard = none)
    (hrun : (execOp a.eval o).run P w = .ok (.enter f vals) w) (hc : Calls P f vals w R)
    (h : ∀ e w', R e w' → ∃ v, e = .returned v ∧ S w' ∧ wpAnyH P md ops Q S fuel (listed.setIfInBounds i true) (a.put o.dst v) w') : wpAnyH P md ops Q S (fuel + 1) listed a w := by
  refine wpAnyH_all hr (by simp) fun j hj => ?_
  obtain rfl : j = i := by simpa using hj
  have hw : Region.wanted o (yielded ops a.tmps) = true := by simp [Region.wanted, hgd]
  unfold wpOp
  simp only [ho]
  rw [if_pos hw]
  refine .inl ?_
  unfold Oper.wp
  rw [hrun]
  refine hc.mono fun e w' hR => ?_
  obtain ⟨v, rfl, h1, h2⟩ := h e w' hR
  exact ⟨h1, h2⟩

theorem run_loadVar_cell {w : World} {p : Addr} {ty : TypeId} {v : Value} {d : TypeDesc} (hu : P.underlying ty = some d) (hd : (match d with | .struct _ | .array _ _ => true | _ => false) = false) (hc : w.cell? p = some v) :
    (loadVar ty p).run P w = .ok v w := by
  have hagg : (isAgg ty).run P w = .ok false w := by
    unfold isAgg
    rw [Sem.run_bind, run_underlying hu w]
    cases d <;> simp_all
  simp [loadVar, Sem.run_bind, hagg, hc]

theorem wpAnyH_cell {i : Nat} {oi : Oper} {fuel : Nat} {listed : Array Bool} {a : Act} {w : World} (hi : ops[i]? = some oi)
    (hs : Region.noSelect ops = true) (hf : Region.free md ops listed i = true) (hr : (Region.ready md ops listed).contains i = true) (hgd : oi.guard = none) (ty : TypeId) (x : Operand) (ho : oi.op = .load ty x)
    (b off : Nat) (hx : a.eval x = .pointer (some ⟨b, off, none⟩)) (v : Value) (d : TypeDesc) (hu : P.underlying ty = some d) (hd : (match d with | .struct _ | .array _ _ => true | _ => false) = false)
    (hS : ∀ w, S w → w.cell? ⟨b, off, none⟩ = some v) (hw : S w) (hQ2 : ∀ c a w v, Q (.panic c) (a.put oi.dst v) w → Q (.panic c) a w)
    (h : wpAnyH P md ops Q S fuel (listed.setIfInBounds i true) (a.put oi.dst v) w) : wpAnyH P md ops Q S (fuel + 1) listed a w :=
  wpAnyH_take hi hs hf hr (fun c a w => hQ2 c a w _) (.inl ⟨by simp [Region.wanted, hgd], fun w1 hw1 => by
    unfold execOp
    simp only [ho, hx, Instr.loadAt, Instr.sureAddr, Sem.run_bind, Sem.run_pure, Result.andThen_ok, run_loadVar_cell hu hd (hS w1 hw1)]⟩) hw h

theorem wpAnyH_index {i : Nat} {oi : Oper} {fuel : Nat} {listed : Array Bool} {a : Act} {w : World} (hi : ops[i]? = some oi)
    (hs : Region.noSelect ops = true) (hf : Region.free md ops listed i = true) (hr : (Region.ready md ops listed).contains i = true) (hgd : oi.guard = none) (ty : TypeId) (x y : Operand) (ho : oi.op = .indexAddr ty x y)
    (b off len cap k sz : Nat) (hx : a.eval x = .slice (some ⟨b, off, none⟩) len cap) (hy : a.eval y = .int .i64 (k : Int)) (hk : k < len) (hu : P.underlying ty = some (.slice (P.elem ty))) (hinfo : (P.info? (P.elem ty)).map (·.size) = some sz)
    (hw : S w) (hQ2 : ∀ c a w v, Q (.panic c) (a.put oi.dst v) w → Q (.panic c) a w)
    (h : wpAnyH P md ops Q S fuel (listed.setIfInBounds i true) (a.put oi.dst (.pointer (some ⟨b, off + k * sz, none⟩))) w) : wpAnyH P md ops Q S (fuel + 1) listed a w :=
  wpAnyH_take hi hs hf hr (fun c a w => hQ2 c a w _) (.inl ⟨by simp [Region.wanted, hgd], fun w1 _ => by
    have hsz : (Go.sizeOf (P.elem ty)).run P w1 = .ok sz w1 := by
      cases hq : P.info? (P.elem ty) with
      | none => simp [hq] at hinfo
      | some j => have : j.size = sz := by simpa [hq] using hinfo
                  simp [Go.sizeOf, typeInfo, hq, this]
    have hadd : ∀ n, (⟨b, off, none⟩ : Addr).add n = ⟨b, off + n, none⟩ := fun n => by unfold Addr.add; split <;> simp_all
    unfold execOp
    simp only [ho, hx, hy, run_indexAt_slice _ _ _ _ _ _ _ hu, Sem.run_bind, hsz, Result.andThen_ok]
    rw [if_pos ⟨by omega, by omega⟩]
    simp [hadd]⟩) hw h

/-- The one operation that may come up now, carried out: it yields a value, in another world. -/
theorem wpAnyH_run {i : Nat} {o : Oper} {fuel : Nat} {listed : Array Bool} {a : Act} {w w' : World} {v : Value} (hr : Region.ready md ops listed = [i]) (ho : ops[i]? = some o) (hgd : o.guard = none)
    (hrun : (execOp a.eval o).run P w = .ok (.value v) w') (hS : S w') (h : wpAnyH P md ops Q S fuel (listed.setIfInBounds i true) (a.put o.dst v) w') : wpAnyH P md ops Q S (fuel + 1) listed a w := by
  refine wpAnyH_all hr (by simp) fun j hj => ?_
  obtain rfl : j = i := by simpa using hj
  have hw : Region.wanted o (yielded ops a.tmps) = true := by simp [Region.wanted, hgd]
  unfold wpOp
  simp only [ho]
  rw [if_pos hw]
  refine .inl ?_
  unfold Oper.wp
  rw [hrun]
  exact ⟨hS, h⟩
/-- The one operation that may come up now is a store of a struct into a block of our own. -/
theorem wpAnyH_store_rep {i : Nat} {o : Oper} {fuel : Nat} {listed : Array Bool} {a : Act} {w : World} (hr : Region.ready md ops listed = [i]) (ho0 : ops[i]? = some o) (hgd : o.guard = none) (ty : TypeId) (x y : Operand) (ho : o.op = .store ty x y)
    (B off : Nat) (hx : a.eval x = .pointer (some ⟨B, off, none⟩)) (cs : List Value) (hy : a.eval y = .agg ⟨cs⟩) (T : TypeId) (arr : Array Value) (hob : OB w B T arr) (hi : (P.info? ty).map (·.size) = some cs.length)
    (hfit : off + cs.length ≤ arr.size) (h1 : ∀ v ∈ cs, v.oneCell' = true)
    (h : ∀ w', OB w' B T (splice arr off cs) → w.grownBy w' (some B) → w'.heap.size = w.heap.size → S w' ∧ wpAnyH P md ops Q S fuel (listed.setIfInBounds i true) (a.put o.dst undef) w') : wpAnyH P md ops Q S (fuel + 1) listed a w := by
  refine wpAnyH_all hr (by simp) fun j hj => ?_
  obtain rfl : j = i := by simpa using hj
  have hw : Region.wanted o (yielded ops a.tmps) = true := by simp [Region.wanted, hgd]
  have hst := run_storeCells_at P B off T cs 0 arr w hob (by simpa using hfit) h1
  cases hq : P.info? ty with
  | none => simp [hq] at hi
  | some inf =>
    have hs : inf.size = cs.length := by simpa [hq] using hi
    have hrun : (storeVar ty ⟨B, off, none⟩ (.agg ⟨cs⟩)).run P w = .ok () (w.setRow B (splice arr off cs)) := by
      simp [storeVar, Go.sizeOf, typeInfo, hq, Value.cells, hs, hst, splice]
    unfold wpOp
    simp only [ho0]
    rw [if_pos hw]
    refine .inl ?_
    unfold Oper.wp execOp
    simp only [ho, hx, hy, Instr.storeAt, Instr.sureAddr, Sem.run_bind, Sem.run_pure, Result.andThen_ok, hrun]
    exact h _ (setRow_heap w B arr _ T _ hob) ⟨rfl, rfl, rfl, by simp, fun k _ hk => setRow_other w B k _ (fun e => hk (by rw [e]))⟩ (by simp)

theorem wpOp_call {i : Nat} {o : Oper} {a : Act} {w : World} {f : FuncId} {vals : Array Value} {R : Ending → World → Prop} {K : Act → World → Prop} (ho : ops[i]? = some o) (hgd : o.guard = none)
    (hrun : (execOp a.eval o).run P w = .ok (.enter f vals) w) (hc : Calls P f vals w R) (h : ∀ e w', R e w' → ∃ v, e = .returned v ∧ K (a.put o.dst v) w') : wpOp P ops Q i K a w := by
  have hw : Region.wanted o (yielded ops a.tmps) = true := by simp [Region.wanted, hgd]
  unfold wpOp
  simp only [ho]
  rw [if_pos hw]
  refine .inl ?_
  unfold Oper.wp
  rw [hrun]
  refine hc.mono fun e w' hR => ?_
  obtain ⟨v, rfl, h1⟩ := h e w' hR
  exact h1
theorem wpOp_run {i : Nat} {o : Oper} {a : Act} {w w' : World} {v : Value} {K : Act → World → Prop} (ho : ops[i]? = some o) (hgd : o.guard = none) (hrun : (execOp a.eval o).run P w = .ok (.value v) w') (h : K (a.put o.dst v) w') : wpOp P ops Q i K a w := by
  have hw : Region.wanted o (yielded ops a.tmps) = true := by simp [Region.wanted, hgd]
  unfold wpOp
  simp only [ho]
  rw [if_pos hw]
  refine .inl ?_
  unfold Oper.wp
  rw [hrun]
  exact h

theorem wpList_load_rep_g {rest : List Oper} {o : Oper} {a : Act} {w : World} (hwd : Region.wanted o (yielded ops a.tmps) = true) (ty : TypeId) (x : Operand) (ho : o.op = .load ty x)
    (b off : Nat) (hx : a.eval x = .pointer (some ⟨b, off, none⟩)) (cs : List Value) (fs : Array Field) (hu : P.underlying ty = some (.struct fs)) (hi : (P.info? ty).map (·.size) = some cs.length)
    (hc : ∀ j v, cs[j]? = some v → w.cell? ⟨b, off + j, none⟩ = some v) (h : wpList P ops Q rest (a.put o.dst (.agg ⟨cs⟩)) w) : wpList P ops Q (o :: rest) a w :=
  wpList_step fun _ hK => by
    rw [if_pos hwd]
    unfold Oper.wp execOp
    simp only [ho, hx, Instr.loadAt, Instr.sureAddr, Sem.run_bind, Sem.run_pure, Result.andThen_ok, run_loadVar_rep w b off ty cs fs hu hi hc]
    exact hK _ _ h

/-- string(b), b's cells the bytes l. -/
theorem wpList_bytes_back {rest : List Oper} {o : Oper} {a : Act} {w : World} (hgd : o.guard = none) (src dst e : TypeId) (x : Operand) (ho : o.op = .convert src dst x) (hs : P.underlying src = some (.slice e)) (he : P.underlying e = some (.int .u8)) (hd : P.underlying dst = some .string)
    (b cap n : Nat) (l : List UInt8) (hn : l.length = n) (hx : a.eval x = .slice (some ⟨b, 0, none⟩) n cap) (hc : ∀ j (hj : j < l.length), w.cell? ⟨b, j, none⟩ = some (.int .u8 (l[j].toNat : Int)))
    (h : wpList P ops Q rest (a.put o.dst (.string ⟨l.toArray⟩)) w) : wpList P ops Q (o :: rest) a w :=
  wpList_plain hgd fun _ hK => by
    subst hn
    have hadd : ∀ n, (⟨b, 0, none⟩ : Addr).add n = ⟨b, n, none⟩ := fun n => by unfold Addr.add; split <;> simp_all
    have hr := run_convert_bytes_back (P := P) w src dst e ⟨b, 0, none⟩ cap l hs he hd (fun j hj => by rw [hadd]; exact hc j hj)
    unfold Oper.wp execOp
    simp only [ho, hx, Sem.run_bind, hr, Result.andThen_ok, Sem.run_pure]
    exact hK _ _ h
theorem bytes_cons (x : UInt8) (l : List UInt8) : (⟨#[x]⟩ : ByteArray) ++ ⟨l.toArray⟩ = ⟨(x :: l).toArray⟩ := by
  apply ByteArray.ext
  simp [ByteArray.data_append]
end
end Go.Proofs.Ytmpepccpnnldoaa

namespace Go.Proofs.Ytmpepccpnnldoaa
open Go.RowKit

def digits (k : Nat) : List UInt8 := if _h : k = 0 then [] else digits (k / 10) ++ [UInt8.ofNat (48 + k % 10)]
termination_by k
decreasing_by omega
theorem digits_zero : digits 0 = [] := by rw [digits]; rfl
theorem digits_pos {k : Nat} (h : k ≠ 0) : digits k = digits (k / 10) ++ [UInt8.ofNat (48 + k % 10)] := by rw [digits, dif_neg h]
theorem digits_length (k n : Nat) (h : k < 10 ^ n) : (digits k).length ≤ n := by
  induction n generalizing k with
  | zero => simp at h; subst h; rw [digits_zero]; exact Nat.le_refl _
  | succ n ih =>
    by_cases hk : k = 0
    · subst hk; rw [digits_zero]; simp
    · rw [digits_pos hk, List.length_append]
      have := ih (k / 10) (by rw [Nat.div_lt_iff_lt_mul (by omega), ← Nat.pow_succ]; exact h)
      simp; omega
/-- The text of a mark. -/
def mtext (k : Nat) : ByteArray := ⟨((109 : UInt8) :: if k = 0 then [48] else digits k).toArray⟩

def markLeaf (k : Nat) : Value → Value
  | .int d _ => .int d k
  | .string _ => .string (mtext k)
  | .bool _ => .bool (k % 3 == 0)
  | v => v

mutual
def Tr.cnt : Tr → Nat
  | .leaf _ => 1
  | .row _ es => Tr.cntE es
def Tr.cntL : List Tr → Nat
  | [] => 0
  | t :: r => Tr.cnt t + Tr.cntL r
def Tr.cntE : List (List Tr) → Nat
  | [] => 0
  | e :: r => Tr.cntL e + Tr.cntE r
end
mutual
def Tr.mark : Tr → Nat → Tr
  | .leaf v, k => .leaf (markLeaf k v)
  | .row sz es, k => .row sz (Tr.markE es k)
def Tr.markL : List Tr → Nat → List Tr
  | [], _ => []
  | t :: r, k => Tr.mark t k :: Tr.markL r (k + Tr.cnt t)
def Tr.markE : List (List Tr) → Nat → List (List Tr)
  | [], _ => []
  | e :: r, k => Tr.markL e k :: Tr.markE r (k + Tr.cntL e)
end
theorem Tr.markE_length : ∀ (es : List (List Tr)) (k : Nat), (Tr.markE es k).length = es.length
  | [], _ => rfl
  | e :: r, k => by simp [Tr.markE, Tr.markE_length r]
theorem Tr.markL_length : ∀ (es : List Tr) (k : Nat), (Tr.markL es k).length = es.length
  | [], _ => rfl
  | e :: r, k => by simp [Tr.markL, Tr.markL_length r]
theorem Tr.cntL_append : ∀ (a b : List Tr), Tr.cntL (a ++ b) = Tr.cntL a + Tr.cntL b
  | [], b => by simp [Tr.cntL]
  | t :: a, b => by simp [Tr.cntL, Tr.cntL_append a b, Nat.add_assoc]
theorem Tr.cntE_take : ∀ (es : List (List Tr)) (i : Nat) (h : i < es.length), Tr.cntE (es.take (i + 1)) = Tr.cntE (es.take i) + Tr.cntL es[i]
  | [], i, h => by simp at h
  | e :: r, 0, h => by simp [Tr.cntE]
  | e :: r, i + 1, h => by
    have := Tr.cntE_take r i (by simpa using h)
    simp only [List.take_succ_cons, Tr.cntE, this, List.getElem_cons_succ, Nat.add_assoc]
/-- Element i of the marked slice. -/
theorem Tr.markE_get : ∀ (es : List (List Tr)) (k i : Nat) (h : i < es.length), (Tr.markE es k)[i]? = some (Tr.markL es[i] (k + Tr.cntE (es.take i)))
  | [], k, i, h => by simp at h
  | e :: r, k, 0, h => by simp [Tr.markE, Tr.cntE]
  | e :: r, k, i + 1, h => by
    have := Tr.markE_get r (k + Tr.cntL e) i (by simpa using h)
    simp only [Tr.markE, List.getElem?_cons_succ, this, List.take_succ_cons, Tr.cntE, List.getElem_cons_succ, Nat.add_assoc]

/-- Blocks outside S hold what they held; the rest of the world is as it was. -/
structure Chg (S : Nat → Prop) (w w' : World) : Prop where
  os : w'.os = w.os
  tape : w'.tape = w.tape
  output : w'.output = w.output
  size : w.heap.size ≤ w'.heap.size
  block : ∀ b, b < w.heap.size → ¬ S b → w'.heap[b]? = w.heap[b]?
theorem Chg.refl (S : Nat → Prop) (w : World) : Chg S w w := ⟨rfl, rfl, rfl, Nat.le_refl _, fun _ _ _ => rfl⟩
theorem Chg.trans {S : Nat → Prop} {a b c : World} (h : Chg S a b) (k : Chg S b c) : Chg S a c :=
  ⟨k.os.trans h.os, k.tape.trans h.tape, k.output.trans h.output, Nat.le_trans h.size k.size, fun x hx hs => (k.block x (Nat.lt_of_lt_of_le hx h.size) hs).trans (h.block x hx hs)⟩
theorem Chg.mono {S S' : Nat → Prop} {a b : World} (h : Chg S a b) (hS : ∀ x, S x → S' x) : Chg S' a b := ⟨h.os, h.tape, h.output, h.size, fun x hx hn => h.block x hx fun hs => hn (hS x hs)⟩
theorem Chg.of_ext {S : Nat → Prop} {a b : World} (h : Ext a b) : Chg S a b := ⟨h.os, h.tape, h.output, h.size, fun x hx _ => h.block x hx⟩
theorem Chg.of_grown {S : Nat → Prop} {B : Nat} {a b : World} (h : a.grownBy b (some B)) (hB : S B) : Chg S a b := ⟨h.os, h.tape, h.output, h.size, fun x hx hs => h.block x hx (by simp; rintro rfl; exact hs hB)⟩
theorem Chg.ext {S : Nat → Prop} {a b c : World} (h : Ext a b) (k : Chg S b c) (hS : ∀ x, S x → a.heap.size ≤ x) : Ext a c :=
  ⟨k.os.trans h.os, k.tape.trans h.tape, k.output.trans h.output, Nat.le_trans h.size k.size, fun x hx => (k.block x (Nat.lt_of_lt_of_le hx h.size) (fun hs => by have := hS x hs; omega)).trans (h.block x hx)⟩

/-- One element of an own slice, taken out and put back changed. -/
theorem Own.focus {w : World} {sz : Nat} {es : List (List Tr)} {a : Option Addr} {n cap i : Nat} {S : Nat → Prop} {e : List Tr} (h : Own w (.row sz es) (.slice a n cap) S) (hi : es[i]? = some e) (hl : ∀ x ∈ es, x.length = sz) :
    ∃ b off E arr cs T, a = some ⟨b, off, none⟩ ∧ OB w b E arr ∧ S b ∧ OwnL w e cs T ∧ (∀ x, T x → S x ∧ x ≠ b) ∧ cs.length = sz ∧ (0 < sz → off + i * sz + sz ≤ arr.size) ∧ (∀ j v, cs[j]? = some v → arr[off + i * sz + j]? = some v) ∧
      ∀ w' cs' e', e'.length = sz → OB w' b E (splice arr (off + i * sz) cs') → OwnL w' e' cs' T → (∀ x, x < w.heap.size → S x → x ≠ b → ¬ T x → w'.heap[x]? = w.heap[x]?) → off + i * sz + sz ≤ arr.size →
        Own w' (.row sz (es.set i e')) (.slice a n cap) S := by
  cases h with
  | row c T h1 h2 h3 h4 h5 h6 =>
    have hne : es ≠ [] := by rintro rfl; simp at hi
    obtain ⟨b, off, E, arr, rfl, hob, hs, hc⟩ := h3 hne
    have hlt : i < es.length := (List.getElem?_eq_some_iff.1 hi).1
    have hel : e.length = sz := hl e (List.mem_of_getElem? hi)
    have hgj : ∀ j, j < sz → ∃ d, e[j]? = some d := fun j hj => ⟨e[j]'(by omega), List.getElem?_eq_getElem _⟩
    refine ⟨b, off, E, arr, (List.range sz).map (c i), fun x => ∃ j, j < sz ∧ T i j x, rfl, hob, hs, ?_, ?_, by simp, ?_, ?_, ?_⟩
    · refine ⟨by simp [hel], fun j x => j < sz ∧ T i j x, ?_, ?_, ?_⟩
      · intro j d hd
        have hj : j < sz := by rw [← hel]; exact (List.getElem?_eq_some_iff.1 hd).1
        exact ⟨c i j, by simp [hj], (h4 i e hi j d hd).mono fun x hx => ⟨hj, hx⟩⟩
      · intro j d hd x hx
        exact ⟨j, hx⟩
      · intro j d hd j' d' hd' hne x hx hx'
        exact h6 i e hi j d hd i e hi j' d' hd' (fun _ => hne) x hx.2 hx'.2
    · rintro x ⟨j, hj, hx⟩
      obtain ⟨d, hd⟩ := hgj j hj
      exact ⟨h5 i e hi j d hd x hx, (hc i e hi j d hd).2 x hx⟩
    · intro h0
      obtain ⟨d, hd⟩ := hgj (sz - 1) (by omega)
      have := (hc i e hi _ d hd).1
      have := (Array.getElem?_eq_some_iff.1 this).1
      omega
    · intro j v hv
      rw [List.getElem?_map] at hv
      rcases Nat.lt_or_ge j sz with hj | hj
      · rw [List.getElem?_range hj] at hv
        simp at hv
        obtain ⟨d, hd⟩ := hgj j hj
        rw [← hv]
        exact (hc i e hi j d hd).1
      · rw [List.getElem?_eq_none (by simpa using hj)] at hv
        simp at hv
    · intro w' cs' e' hel' hob' how hx hfit
      obtain ⟨hcl, U, u1, u2, u3⟩ := how
      have hcl : cs'.length = sz := by omega
      have hset : (es.set i e').length = es.length := by simp
      have get : ∀ i' e2, (es.set i e')[i']? = some e2 → (i' = i ∧ e2 = e') ∨ (i' ≠ i ∧ es[i']? = some e2) := by
        intro i' e2 h
        rw [List.getElem?_set] at h
        split at h
        · rename_i hii
          subst hii
          simp only [Option.some.injEq] at h
          exact .inl ⟨rfl, h.symm⟩
        · rename_i hii
          exact .inr ⟨fun e => hii e.symm, h⟩
      have keep : ∀ i' e2, i' ≠ i → es[i']? = some e2 → ∀ j d, e2[j]? = some d → ∀ x, T i' j x → x < w.heap.size → w'.heap[x]? = w.heap[x]? := by
        intro i' e2 hne' he2 j d hd x hx' hxl
        refine hx x hxl (h5 i' e2 he2 j d hd x hx') ((hc i' e2 he2 j d hd).2 x hx') ?_; rintro ⟨j', hj', hT⟩
        obtain ⟨d', hd'⟩ := hgj j' hj'
        exact h6 i' e2 he2 j d hd i e hi j' d' hd' (fun h => absurd h hne') x hx' hT
      rw [← hset]
      refine .row (fun i' j => if i' = i then (cs'[j]?).getD undef else c i' j) (fun i' j => if i' = i then U j else T i' j) (by rw [hset]; exact h1) h2 ?_ ?_ ?_ ?_
      · intro _
        refine ⟨b, off, E, _, rfl, hob', hs, ?_⟩
        intro i' e2 he2 j d hd
        rcases get i' e2 he2 with ⟨rfl, rfl⟩ | ⟨hne', he2⟩
        · simp only [if_true]
          have hj : j < sz := by rw [← hel']; exact (List.getElem?_eq_some_iff.1 hd).1
          refine ⟨?_, fun x hx' => ?_⟩
          · have h7 := splice_same (arr := arr) (o := off + i' * sz) (vs := cs') (by omega)
            have h8 : (((splice arr (off + i' * sz) cs').toList.drop (off + i' * sz)).take cs'.length)[j]? = cs'[j]? := by rw [h7]
            rw [List.getElem?_take, if_pos (by omega), List.getElem?_drop] at h8
            have h9 : cs'[j]? = some (cs'[j]'(by omega)) := List.getElem?_eq_getElem _
            rw [h9] at h8 ⊢
            simpa using h8
          · obtain ⟨j2, hj2, hT⟩ := u2 j d hd x hx'
            obtain ⟨d2, hd2⟩ := hgj j2 hj2
            exact (hc i' e hi j2 d2 hd2).2 x hT
        · simp only [if_neg hne']
          obtain ⟨q1, q2⟩ := hc i' e2 he2 j d hd
          have hl2 : e2.length = sz := hl e2 (List.mem_of_getElem? he2)
          have hj : j < sz := by rw [← hl2]; exact (List.getElem?_eq_some_iff.1 hd).1
          refine ⟨?_, q2⟩
          rw [← q1]
          unfold splice
          have hsz : 0 < sz := by omega
          rcases Nat.lt_or_ge i' i with hlt' | hge
          · have h10 : (i' + 1) * sz ≤ i * sz := Nat.mul_le_mul_right _ hlt'
            rw [Nat.succ_mul] at h10
            rw [List.getElem?_toArray, List.append_assoc, List.getElem?_append_left (by simp; omega), List.getElem?_take, if_pos (by omega)]
            simp
          · have h10 : (i + 1) * sz ≤ i' * sz := Nat.mul_le_mul_right _ (by omega)
            rw [Nat.succ_mul] at h10
            rw [List.getElem?_toArray, List.getElem?_append_right (by simp; omega), List.getElem?_drop]
            simp only [List.length_append, List.length_take, Array.length_toList]
            rw [Nat.min_eq_left (by omega), Array.getElem?_toList]
            congr 1
            omega
      · intro i' e2 he2 j d hd
        rcases get i' e2 he2 with ⟨rfl, rfl⟩ | ⟨hne', he2⟩
        · simp only [if_true]
          obtain ⟨v, hv, ho⟩ := u1 j d hd
          simpa [hv] using ho
        · simp only [if_neg hne']
          exact (h4 i' e2 he2 j d hd).keep fun x hx' hxl => keep i' e2 hne' he2 j d hd x hx' hxl
      · intro i' e2 he2 j d hd x hx'
        rcases get i' e2 he2 with ⟨rfl, rfl⟩ | ⟨hne', he2⟩
        · simp only [if_true] at hx'
          obtain ⟨j2, hj2, hT⟩ := u2 j d hd x hx'
          obtain ⟨d2, hd2⟩ := hgj j2 hj2
          exact h5 i' e hi j2 d2 hd2 x hT
        · simp only [if_neg hne'] at hx'
          exact h5 i' e2 he2 j d hd x hx'
      · intro i' e2 he2 j d hd i'' e3 he3 j' d' hd' hne x hx1 hx2
        rcases get i' e2 he2 with ⟨rfl, rfl⟩ | ⟨hne', he2⟩
        · simp only [if_true] at hx1
          rcases get i'' e3 he3 with ⟨rfl, rfl⟩ | ⟨hne'', he3⟩
          · simp only [if_true] at hx2
            exact u3 j d hd j' d' hd' (hne rfl) x hx1 hx2
          · simp only [if_neg hne''] at hx2
            obtain ⟨j2, hj2, hT⟩ := u2 j d hd x hx1
            obtain ⟨d2, hd2⟩ := hgj j2 hj2
            exact h6 i'' e3 he3 j' d' hd' i' e hi j2 d2 hd2 (fun h => absurd h hne'') x hx2 hT
        · simp only [if_neg hne'] at hx1
          have he2' := he2
          rcases get i'' e3 he3 with ⟨rfl, rfl⟩ | ⟨hne'', he3⟩
          · simp only [if_true] at hx2
            obtain ⟨j2, hj2, hT⟩ := u2 j' d' hd' x hx2
            obtain ⟨d2, hd2⟩ := hgj j2 hj2
            exact h6 i' e2 he2' j d hd i'' e hi j2 d2 hd2 (fun h => absurd h hne') x hx1 hT
          · simp only [if_neg hne''] at hx2
            exact h6 i' e2 he2 j d hd i'' e3 he3 j' d' hd' hne x hx1 hx2

end Go.Proofs.Ytmpepccpnnldoaa

namespace Go.Proofs.Ytmpepccpnnldoaa
open Go.RowKit

theorem OwnL.setLeaf {w : World} {ts : List Tr} {cs : List Value} {T : Nat → Prop} {j : Nat} {u : Tr} {v : Value} (h : OwnL w ts cs T) (hj : ts[j]? = some u) (hv : LeafOk v) : OwnL w (ts.set j (.leaf v)) (cs.set j v) T := by
  obtain ⟨hl, U, h1, h2, h3⟩ := h
  have hlt : j < ts.length := (List.getElem?_eq_some_iff.1 hj).1
  have old : ∀ i d, (ts.set j (.leaf v))[i]? = some d → (i = j ∧ d = .leaf v) ∨ (i ≠ j ∧ ts[i]? = some d) := by
    intro i d hd
    rw [List.getElem?_set] at hd
    split at hd
    · rename_i hij
      subst hij
      simp only [Option.some.injEq] at hd
      exact .inl ⟨rfl, hd.symm⟩
    · rename_i hij
      exact .inr ⟨fun e => hij e.symm, hd⟩
  refine ⟨by simp [hl], fun i x => i ≠ j ∧ U i x, ?_, ?_, ?_⟩
  · intro i d hd
    rcases old i d hd with ⟨rfl, rfl⟩ | ⟨hne, hd⟩
    · exact ⟨v, by rw [List.getElem?_set]; simp [hl, hlt], .leaf hv⟩
    · obtain ⟨v', hv', ho⟩ := h1 i d hd
      exact ⟨v', by rw [List.getElem?_set]; rw [if_neg (fun e => hne e.symm)]; exact hv', ho.mono fun x hx => ⟨hne, hx⟩⟩
  · intro i d hd x hx
    rcases old i d hd with ⟨rfl, rfl⟩ | ⟨hne, hd⟩
    · exact (hx.1 rfl).elim
    · exact h2 i d hd x hx.2
  · intro i d hd i' d' hd' hne x hx hx'
    rcases old i d hd with ⟨rfl, rfl⟩ | ⟨_, hd⟩
    · exact hx.1 rfl
    · rcases old i' d' hd' with ⟨rfl, rfl⟩ | ⟨_, hd'⟩
      · exact hx'.1 rfl
      · exact h3 i d hd i' d' hd' hne x hx.2 hx'.2

theorem OwnL.setRow {w : World} {ts : List Tr} {cs : List Value} {T : Nat → Prop} {j : Nat} {t : Tr} {v : Value} (h : OwnL w ts cs T) (hj : ts[j]? = some t) (hv : cs[j]? = some v) :
    ∃ U : Nat → Prop, Own w t v U ∧ (∀ x, U x → T x) ∧ ∀ w' t', Own w' t' v U → (∀ x, x < w.heap.size → T x → ¬ U x → w'.heap[x]? = w.heap[x]?) → OwnL w' (ts.set j t') cs T := by
  obtain ⟨hl, U, h1, h2, h3⟩ := h
  have hlt : j < ts.length := (List.getElem?_eq_some_iff.1 hj).1
  obtain ⟨v1, hv1, ho1⟩ := h1 j t hj
  rw [hv] at hv1
  injection hv1 with hv1
  subst hv1
  refine ⟨U j, ho1, h2 j t hj, fun w' t' ho' hk => ⟨by simp [hl], U, ?_, ?_, ?_⟩⟩
  all_goals
    have old : ∀ i d, (ts.set j t')[i]? = some d → (i = j ∧ d = t') ∨ (i ≠ j ∧ ts[i]? = some d) := by
      intro i d hd
      rw [List.getElem?_set] at hd
      split at hd
      · rename_i hij
        subst hij
        simp only [Option.some.injEq] at hd
        exact .inl ⟨rfl, hd.symm⟩
      · rename_i hij
        exact .inr ⟨fun e => hij e.symm, hd⟩
  · intro i d hd
    rcases old i d hd with ⟨rfl, rfl⟩ | ⟨hne, hd⟩
    · exact ⟨v, hv, ho'⟩
    · obtain ⟨v', hv', ho⟩ := h1 i d hd
      exact ⟨v', hv', ho.keep fun x hx hxl => hk x hxl (h2 i d hd x hx) (fun hu => h3 i d hd j t hj hne x hx hu)⟩
  · intro i d hd x hx
    rcases old i d hd with ⟨rfl, rfl⟩ | ⟨hne, hd⟩
    · exact h2 i t hj x hx
    · exact h2 i d hd x hx
  · intro i d hd i' d' hd' hne x hx hx'
    rcases old i d hd with ⟨rfl, rfl⟩ | ⟨hne1, hd1⟩
    · rcases old i' d' hd' with ⟨rfl, rfl⟩ | ⟨_, hd2⟩
      · exact hne rfl
      · exact h3 i t hj i' d' hd2 hne x hx hx'
    · rcases old i' d' hd' with ⟨rfl, rfl⟩ | ⟨_, hd2⟩
      · exact h3 i d hd1 i' t hj hne x hx hx'
      · exact h3 i d hd1 i' d' hd2 hne x hx hx'

structure Foc (w0 wr : World) (b : Nat) (E : TypeId) (arr0 : Array Value) (o sz : Nat) (ts : List Tr) (cs : List Value) (T : Nat → Prop) : Prop where
  arr : ∃ arr, OB wr b E arr ∧ arr.size = arr0.size ∧ (∀ q, q < o ∨ o + sz ≤ q → arr[q]? = arr0[q]?) ∧ (∀ j v, cs[j]? = some v → arr[o + j]? = some v)
  own : OwnL wr ts cs T
  chg : Chg (fun x => x = b ∨ T x) w0 wr
  notin : ¬ T b
  len : cs.length = sz
  fit : o + sz ≤ arr0.size
  tlt : ∀ x, T x → x < w0.heap.size
  blt : b < w0.heap.size

theorem Foc.cell {w0 wr : World} {b : Nat} {E : TypeId} {arr0 : Array Value} {o sz : Nat} {ts : List Tr} {cs : List Value} {T : Nat → Prop} (h : Foc w0 wr b E arr0 o sz ts cs T) {j : Nat} {v : Value} (hj : cs[j]? = some v) : wr.cell? ⟨b, o + j, none⟩ = some v := by
  obtain ⟨arr, h1, -, -, h4⟩ := h.arr
  rw [h1.cell]
  exact h4 j v hj
theorem Foc.ext {w0 wr w' : World} {b : Nat} {E : TypeId} {arr0 : Array Value} {o sz : Nat} {ts : List Tr} {cs : List Value} {T : Nat → Prop} (h : Foc w0 wr b E arr0 o sz ts cs T) (hx : Ext wr w') : Foc w0 w' b E arr0 o sz ts cs T := by
  obtain ⟨arr, h1, h2, h3, h4⟩ := h.arr
  exact ⟨⟨arr, h1.ext hx, h2, h3, h4⟩, h.own.ext hx, h.chg.trans (.of_ext hx), h.notin, h.len, h.fit, h.tlt, h.blt⟩

theorem splice_get {arr : Array Value} {o : Nat} {cs : List Value} (h : o + cs.length ≤ arr.size) (q : Nat) : (splice arr o cs)[q]? = if q < o then arr[q]? else if q < o + cs.length then cs[q - o]? else arr[q]? := by
  unfold splice
  rw [List.getElem?_toArray, List.append_assoc]
  by_cases h1 : q < o
  · rw [if_pos h1, List.getElem?_append_left (by simp; omega), List.getElem?_take, if_pos h1]; simp
  · rw [if_neg h1, List.getElem?_append_right (by simp; omega)]
    have hl : (List.take o arr.toList).length = o := by simp; omega
    rw [hl]
    by_cases h2 : q < o + cs.length
    · rw [if_pos h2, List.getElem?_append_left (by omega)]
    · rw [if_neg h2, List.getElem?_append_right (by omega), List.getElem?_drop, Array.getElem?_toList]
      congr 1; omega

theorem Foc.leaf {w0 wr w' : World} {b : Nat} {E : TypeId} {arr0 arr : Array Value} {o sz : Nat} {ts : List Tr} {cs : List Value} {T : Nat → Prop} (h : Foc w0 wr b E arr0 o sz ts cs T) {j : Nat} {u : Tr} {v : Value} (hj : ts[j]? = some u) (hv : LeafOk v)
    (ha : OB wr b E arr) (hob : OB w' b E (splice arr (o + j) [v])) (hg : wr.grownBy w' (some b)) : Foc w0 w' b E arr0 o sz (ts.set j (.leaf v)) (cs.set j v) T := by
  obtain ⟨arr1, h1, h2, h3, h4⟩ := h.arr
  have he := ha.symm.trans h1
  injection he with he
  injection he with he
  subst he
  have hlt : j < ts.length := (List.getElem?_eq_some_iff.1 hj).1
  have hsz : j < sz := by rw [← h.len, h.own.1]; exact hlt
  have hfit := h.fit
  have hw : Chg (fun x => x = b) wr w' := Chg.of_grown hg rfl
  refine ⟨⟨_, hob, by rw [splice_size (by simp; omega)]; exact h2, ?_, ?_⟩, (h.own.setLeaf hj hv).keep fun x hx hxl => hw.block x hxl (by rintro rfl; exact h.notin hx), h.chg.trans (hw.mono fun x hx => .inl hx), h.notin, by rw [List.length_set]; exact h.len, h.fit, h.tlt, h.blt⟩
  · intro q hq
    rw [splice_get (by simp; omega)]
    simp only [List.length_cons, List.length_nil]
    rw [← h3 q hq]
    split
    · rfl
    · rw [if_neg (by omega)]
  · intro i x hx
    rw [splice_get (by simp; omega)]
    simp only [List.length_cons, List.length_nil]
    rw [List.getElem?_set] at hx
    split at hx
    · rename_i hji
      subst hji
      split at hx
      · injection hx with hx
        subst hx
        rw [if_neg (by omega), if_pos (by omega)]
        simp
      · simp at hx
    · rename_i hji
      have := h4 i x hx
      split
      · exact this
      · rw [if_neg (by omega)]; exact this

theorem Foc.row {w0 wr : World} {b : Nat} {E : TypeId} {arr0 : Array Value} {o sz : Nat} {ts : List Tr} {cs : List Value} {T : Nat → Prop} (h : Foc w0 wr b E arr0 o sz ts cs T) {j : Nat} {t : Tr} {v : Value} (hj : ts[j]? = some t) (hv : cs[j]? = some v) :
    ∃ U : Nat → Prop, Own wr t v U ∧ (∀ x, U x → x < wr.heap.size) ∧ ∀ w' t', Own w' t' v U → Chg U wr w' → Foc w0 w' b E arr0 o sz (ts.set j t') cs T := by
  obtain ⟨U, hu1, hu2, hu3⟩ := h.own.setRow hj hv
  refine ⟨U, hu1, fun x hx => Nat.lt_of_lt_of_le (h.tlt x (hu2 x hx)) h.chg.size, fun w' t' ho hc => ?_⟩
  obtain ⟨arr, h1, h2, h3, h4⟩ := h.arr
  have hnb : ¬ U b := fun hx => h.notin (hu2 b hx)
  exact ⟨⟨arr, (hc.block b h1.lt hnb).trans h1, h2, h3, h4⟩, hu3 w' t' ho fun x hxl _ hn => hc.block x hxl hn, h.chg.trans (hc.mono fun x hx => .inr (hu2 x hx)), h.notin, h.len, h.fit, h.tlt, h.blt⟩

/-- Element i is taken in hand. -/
theorem Own.take {w : World} {sz : Nat} {es : List (List Tr)} {a : Option Addr} {n cap i : Nat} {S : Nat → Prop} {e : List Tr} (h : Own w (.row sz es) (.slice a n cap) S) (hi : es[i]? = some e) (hl : ∀ x ∈ es, x.length = sz) (hsz : 0 < sz) (hS : ∀ x, S x → x < w.heap.size) :
    ∃ b off E arr cs T, a = some ⟨b, off, none⟩ ∧ Foc w w b E arr (off + i * sz) sz e cs T ∧ RepL w e cs ∧
      ∀ w' cs' e', e'.length = sz → Foc w w' b E arr (off + i * sz) sz e' cs' T → Own w' (.row sz (es.set i e')) (.slice a n cap) S ∧ Chg S w w' := by
  obtain ⟨b, off, E, arr, cs, T, rfl, hob, hsb, how, hT, hcl, hfit, hc, hback⟩ := h.focus hi hl
  refine ⟨b, off, E, arr, cs, T, rfl, ⟨⟨arr, hob, rfl, fun _ _ => rfl, fun j v hv => hc j v hv⟩, how, Chg.refl _ _, fun hb => (hT b hb).2 rfl, hcl, hfit hsz, fun x hx => hS x (hT x hx).1, hob.lt⟩, how.rep, fun w' cs' e' he' hf => ?_⟩
  obtain ⟨arr', h1, h2, h3, h4⟩ := hf.arr
  have hz := hf.len
  have hfit := hf.fit
  have harr : arr' = splice arr (off + i * sz) cs' := by
    apply Array.ext_getElem?
    intro q
    rw [splice_get (by omega)]
    split
    · rename_i hq
      exact h3 q (.inl hq)
    · split
      · rename_i hq1 hq2
        obtain ⟨v, hv⟩ : ∃ v, cs'[q - (off + i * sz)]? = some v := ⟨cs'[q - (off + i * sz)]'(by omega), List.getElem?_eq_getElem _⟩
        rw [hv, ← h4 _ v hv]
        congr 1; omega
      · rename_i hq1 hq2
        exact h3 q (.inr (by omega))
  rw [harr] at h1
  have hch : Chg S w w' := hf.chg.mono fun x hx => by rcases hx with rfl | hx; exact hsb; exact (hT x hx).1
  exact ⟨hback w' cs' e' he' h1 hf.own (fun x hxl _ hne hnt => hf.chg.block x hxl (by rintro (h | h); exact hne h; exact hnt h)) hf.fit, hch⟩

/-- How the marks of a struct handed by value run: only what lies in its slices is marked. -/
def Tr.topL : List Tr → Nat → List Tr
  | [], _ => []
  | .leaf v :: r, k => .leaf v :: Tr.topL r k
  | .row sz es :: r, k => .row sz (Tr.markE es k) :: Tr.topL r (k + Tr.cntE es)
def Tr.topN : List Tr → Nat
  | [] => 0
  | .leaf _ :: r => Tr.topN r
  | .row _ es :: r => Tr.cntE es + Tr.topN r
/-- The first i elements are marked, the others are not. -/
def Tr.mid (es : List (List Tr)) (k i : Nat) : List (List Tr) := (Tr.markE es k).take i ++ es.drop i
theorem Tr.mid_zero (es : List (List Tr)) (k : Nat) : Tr.mid es k 0 = es := by simp [Tr.mid]
theorem Tr.mid_end (es : List (List Tr)) (k : Nat) : Tr.mid es k es.length = Tr.markE es k := by
  unfold Tr.mid
  rw [List.drop_length, List.append_nil, List.take_of_length_le (by rw [Tr.markE_length]; exact Nat.le_refl _)]
theorem Tr.mid_get {es : List (List Tr)} {k i : Nat} (h : i < es.length) : (Tr.mid es k i)[i]? = some es[i] := by
  unfold Tr.mid
  have hl : ((Tr.markE es k).take i).length = i := by rw [List.length_take, Tr.markE_length]; omega
  rw [List.getElem?_append_right (by omega), hl, Nat.sub_self, List.getElem?_drop, Nat.add_zero, List.getElem?_eq_getElem h]
theorem Tr.mid_set {es : List (List Tr)} {k i : Nat} (h : i < es.length) : (Tr.mid es k i).set i (Tr.markL es[i] (k + Tr.cntE (es.take i))) = Tr.mid es k (i + 1) := by
  unfold Tr.mid
  have hl : ((Tr.markE es k).take i).length = i := by rw [List.length_take, Tr.markE_length]; omega
  have hm : (Tr.markE es k)[i]? = some (Tr.markL es[i] (k + Tr.cntE (es.take i))) := Tr.markE_get es k i h
  have hlt : i < (Tr.markE es k).length := by rw [Tr.markE_length]; exact h
  rw [List.getElem?_eq_getElem hlt] at hm
  injection hm with hm
  rw [List.set_append_right _ _ (by omega), hl, Nat.sub_self, List.drop_eq_getElem_cons h, List.set_cons_zero, List.take_succ_eq_append_getElem hlt, hm]
  simp
theorem Tr.markE_sz {es : List (List Tr)} {k sz : Nat} (h : ∀ e ∈ es, e.length = sz) : ∀ e ∈ Tr.markE es k, e.length = sz := by
  induction es generalizing k with
  | nil => intro e he; simp [Tr.markE] at he
  | cons a r ih =>
    intro e he
    simp only [Tr.markE, List.mem_cons] at he
    rcases he with rfl | he
    · rw [Tr.markL_length]; exact h a (by simp)
    · exact ih (fun x hx => h x (by simp [hx])) e he
theorem Tr.mid_sz {es : List (List Tr)} {k i sz : Nat} (h : ∀ e ∈ es, e.length = sz) : ∀ e ∈ Tr.mid es k i, e.length = sz := by
  intro e he
  unfold Tr.mid at he
  rcases List.mem_append.1 he with h1 | h1
  · exact Tr.markE_sz h e (List.mem_of_mem_take h1)
  · exact h e (List.mem_of_mem_drop h1)
theorem Tr.cntE_le {es : List (List Tr)} {i : Nat} (h : i < es.length) : Tr.cntE (es.take i) + Tr.cntL es[i] ≤ Tr.cntE es := by
  induction es generalizing i with
  | nil => simp at h
  | cons a r ih =>
    cases i with
    | zero => simp [Tr.cntE]
    | succ i => have := ih (i := i) (by simpa using h); simp [Tr.cntE]; omega
theorem mtext_size (k : Nat) (h : k ≤ 2305843009213693952) : (mtext k).size ≤ 20 := by
  have h1 : (digits k).length ≤ 19 := digits_length k 19 (by omega)
  unfold mtext
  show ((109 : UInt8) :: if k = 0 then [48] else digits k).toArray.size ≤ 20
  simp only [List.size_toArray, List.length_cons]
  split
  · simp
  · omega
end Go.Proofs.Ytmpepccpnnldoaa

namespace Go.Proofs.Ytmpepccpnnldoaa
open Go.RowKit Go.Proofs

def MarkSC (f : FuncId) (sz : Nat) (es : List (List Tr)) : Prop := ∀ (s : Value) (kz : Int) (k : Nat) (S : Nat → Prop) (w : World), kz = (k : Int) → Own w (.row sz es) s S → (∀ x, S x → x < w.heap.size) → k + Tr.cntE es ≤ 1152921504606846976 →
  Calls Try.prog f #[s, .int .i64 kz] w fun e w' => e = .returned (.int .i64 ((k + Tr.cntE es : Nat) : Int)) ∧ Own w' (.row sz (Tr.markE es k)) s S ∧ Chg S w w'
def HeldSC (f : FuncId) (sz : Nat) (es : List (List Tr)) : Prop := ∀ (s : Value) (kz : Int) (k : Nat) (w : World), kz = (k : Int) → Rep w (.row sz (Tr.markE es k)) s → k + Tr.cntE es ≤ 1152921504606846976 →
  Calls Try.prog f #[s, .int .i64 kz] w fun e w' => e = .returned (.int .i64 ((k + Tr.cntE es : Nat) : Int)) ∧ Ext w w'
def MarkC (f : FuncId) (ts : List Tr) : Prop := ∀ (cs : List Value) (kz : Int) (k : Nat) (S : Nat → Prop) (w : World), kz = (k : Int) → OwnL w ts cs S → (∀ x, S x → x < w.heap.size) → k + Tr.topN ts ≤ 1152921504606846976 →
  Calls Try.prog f #[.agg ⟨cs⟩, .int .i64 kz] w fun e w' => e = .returned (.int .i64 ((k + Tr.topN ts : Nat) : Int)) ∧ OwnL w' (Tr.topL ts k) cs S ∧ Chg S w w'
def HeldC (f : FuncId) (ts : List Tr) : Prop := ∀ (cs : List Value) (kz : Int) (k : Nat) (w : World), kz = (k : Int) → RepL w (Tr.topL ts k) cs → k + Tr.topN ts ≤ 1152921504606846976 →
  Calls Try.prog f #[.agg ⟨cs⟩, .int .i64 kz] w fun e w' => e = .returned (.int .i64 ((k + Tr.topN ts : Nat) : Int)) ∧ Ext w w'
set_option maxRecDepth 100000 in
set_option maxHeartbeats 2000000 in
theorem markText_any (kz : Int) (k : Nat) (w : World) (hz : kz = (k : Int)) (hk : k ≤ 2305843009213693952) :
    Calls Try.prog 125 #[.int .i64 kz] w fun e w' => e = .returned (.string (mtext k)) ∧ Ext w w' := by
  subst hz
  by_cases h0 : k = 0
  · subst h0
    go_enter Try.func125, Try.ntmps125
    go_wp2_with fail
    go_ret
    exact ⟨rfl, .refl _⟩
  · have hp : ¬ ((k : Int) ≤ 0) := by omega
    have HK : Hid (mtext k = ⟨((109 : UInt8) :: digits k).toArray⟩) := by show _ = _; unfold mtext; rw [if_neg h0]
    go_enter Try.func125, Try.ntmps125
    go_wp2_with fail
    go_loopw [0, 3] (fun kv ov wr => ∃ (j : Nat) (out : List UInt8), j ≤ k ∧ kv = .int .i64 j ∧ ov = .string ⟨out.toArray⟩ ∧ Ext w wr ∧ Hid (digits j ++ out = digits k) ∧ out.length ≤ 19 ∧ Hid ((digits j).length + out.length ≤ 19)) (fun kv _ _ => (intOf kv).toNat)
    case atStart => exact ⟨k, [], Nat.le_refl _, rfl, rfl, .refl _, by show _ = _; rw [List.append_nil], by simp, by have := digits_length k 19 (by omega); show _ ≤ _; simpa using this⟩
    case round =>
      obtain ⟨j, out, hj, rfl, rfl, hw, HD, hol, HL⟩ := hrel
      by_cases hlt : j = 0
      · subst hlt
        go_wp2_with fail
        go_ret
        refine ⟨?_, hw⟩
        have hd := HD.out
        rw [digits_zero, List.nil_append] at hd
        have he : (⟨#[109]⟩ : ByteArray) ++ ⟨out.toArray⟩ = mtext k := by rw [HK.out, bytes_cons, hd]
        exact congrArg (fun s => Ending.returned (.string s)) he
      · have hj0 : (0 : Int) < (j : Int) := by omega
        have HB : Hid (∀ q (hq : q < [UInt8.ofNat (48 + j % 10)].length), (wr.alloc (.cells #[.int .u8 (48 + (j : Int) % 10)] 5)).cell? ⟨wr.heap.size, q, none⟩ = some (.int .u8 (([UInt8.ofNat (48 + j % 10)][q]'hq).toNat : Int))) := by
          intro q hq
          obtain rfl : q = 0 := by simpa using hq
          rw [(OB.new wr _ _).cell]
          simp
          omega
        have HS : Hid ((digits j).length = (digits (j / 10)).length + 1) := by show _ = _; rw [digits_pos hlt]; simp
        have HR : Hid (digits (j / 10) ++ (UInt8.ofNat (48 + j % 10) :: out) = digits k) := by show _ = _; rw [← HD.out, digits_pos hlt]; simp
        have hsz : ({data := out.toArray} : ByteArray).size ≤ 19 := by show out.toArray.size ≤ 19; simpa using hol
        generalize UInt8.ofNat (48 + j % 10) = d at *
        go_wp2_with (refine wpList_bytes_back rfl 22 9 5 (.tmp 12) rfl Try.underlying22 Try.underlying5 Try.underlying9 wr.heap.size 1 1 [d] rfl rfl HB.out ?_)
        go_roundw
        case rel => exact ⟨j / 10, d :: out, by omega, by go_num, by congr 1, .trans hw (.alloc (.refl _) _), HR.out, by have h1 := HL.out; have h2 := HS.out; simp only [List.length_cons]; omega, by have h1 := HL.out; have h2 := HS.out; show _ ≤ _; simp only [List.length_cons]; omega⟩
        case measure => simp [intOf]; omega

set_option maxRecDepth 100000 in
set_option maxHeartbeats 2000000 in
theorem markTypeS_of (l : List GType) (H2 : ∀ x ∈ l, MarkSC 89 3 (GType.trs x.gArgs)) : MarkSC 89 3 (GType.trs l) := by
  intro s kz k S w hz hown hS hbd
  subst hz
  obtain ⟨a, cap, rfl, hl, hm⟩ := hown.rep.shape
  rw [GType.trs_len] at *
  unfold maxLen at hm
  have HO := Lib.hid hown
  have HSS := Lib.hid hS
  have HH2 := Lib.hid H2
  clear H2
  clear hown hS
  go_enter Try.func89, Try.ntmps89
  go_wp2_with fail
  go_loopw [1, 5] (fun kv i wr => ∃ j m : Nat, j ≤ l.length ∧ i = .int .i64 j ∧ kv = .int .i64 (m : Int) ∧ Hid (m = k + Tr.cntE ((GType.trs l).take j)) ∧ Hid (Own wr (.row 3 (Tr.mid (GType.trs l) k j)) (.slice a l.length cap) S) ∧ Hid (Chg S w wr)) (fun _ i _ => l.length - (intOf i).toNat)
  case atStart => exact ⟨0, k, Nat.zero_le _, rfl, rfl, by show _ = _; simp [Tr.cntE], by show Own _ _ _ _; rw [Tr.mid_zero]; exact HO.out, Chg.refl _ _⟩
  case round =>
    obtain ⟨j, m, hj, rfl, rfl, HM1, HO1, HC1⟩ := hrel
    by_cases hlt : j < l.length
    · have hlt2 : j < (GType.trs l).length := by rw [GType.trs_len]; exact hlt
      have hge : (GType.trs l)[j] = (l[j]).tr := by have h1 := GType.trs_get hlt; rw [List.getElem?_eq_getElem hlt2] at h1; exact Option.some.inj h1
      have hcl := Tr.cntE_le hlt2
      have hms := Tr.mid_set (k := k) hlt2
      have hmg := Tr.mid_get (k := k) hlt2
      have htk : Tr.cntE ((GType.trs l).take (j + 1)) = Tr.cntE ((GType.trs l).take j) + Tr.cntL (GType.trs l)[j] := Tr.cntE_take _ j hlt2
      rw [hge] at hcl hms hmg htk
      have hm1 := HM1.out
      rw [← hm1] at hms
      have HM2 := Lib.hid (HH2.out _ (List.getElem_mem hlt))
      generalize l[j] = x at *
      obtain ⟨v0, v1, v2⟩ := x
      have HM2 : Hid (MarkSC 89 3 (GType.trs v2)) := HM2
      have htr : GType.tr (.mk v0 v1 v2) = [.leaf (.int .i64 v0), .leaf (.string v1), .row 3 (GType.trs v2)] := by simp [GType.tr]
      rw [htr] at hcl hms hmg htk
      have hcw : Tr.cntL [.leaf (.int .i64 v0), .leaf (.string v1), .row 3 (GType.trs v2)] = 1 + 1 + Tr.cntE (GType.trs v2) := by simp only [Tr.cntL, Tr.cnt] <;> omega
      obtain ⟨b, off, E0, arr0, cs0, T, rfl, hfoc, hrep, hback⟩ := HO1.out.take hmg (Tr.mid_sz (GType.sz l)) (by omega) (fun x hx => Nat.lt_of_lt_of_le (HSS.out x hx) HC1.out.size)
      obtain ⟨d0, d1, d2, rfl⟩ := list3 hfoc.len
      obtain ⟨rfl, -⟩ := (hrep.1).leaf_eq
      obtain ⟨rfl, -⟩ := (hrep.2.1).leaf_eq
      obtain ⟨sa2, sc2, rfl, -, -⟩ := (hrep.2.2.1).shape
      have HF0 := Lib.hid hfoc
      have HBK := Lib.hid hback
      obtain ⟨arr1, hob1, hsz1, -, -⟩ := hfoc.arr
      have HOB0 := Lib.hid hob1
      have HFIT : Hid (off + j * 3 + 3 ≤ arr1.size) := by show _ ≤ _; rw [hsz1]; exact hfoc.fit
      have hmb : m + (1 + 1 + Tr.cntE (GType.trs v2)) ≤ 1152921504606846976 := by rw [← hcw]; omega
      rw [hcw] at htk
      have HMS := Lib.hid hms
      have HTK := Lib.hid htk
      have hlo : (0 : Int) ≤ (j : Int) := by omega
      clear hfoc hrep hback hob1 hsz1 hms hmg htk hge hcl hcw hm1 htr
      go_wp2_with (first
        | (refine wpList_store_cell rfl 3 (.tmp 16) (.tmp 14) rfl b (off + j * 3 + 0) rfl (.int .i64 ((m : Nat) : Int)) (by first | rfl | (simp only [Nat.cast_add, Nat.cast_one] <;> rfl)) rfl E0 arr1 HOB0.out isz3 (by have := HFIT.out; omega) rfl ?_; intro w1 hob hg hq; have HF1 := Lib.hid (HF0.out.leaf (j := 0) rfl (v := .int .i64 ((m : Nat) : Int)) (WalkArith.wf_i64 (by omega)) HOB0.out hob hg); obtain ⟨ar1, ho, hzz, -, -⟩ := HF1.out.arr; have HOB1 := Lib.hid ho; have HFT1 : Hid (off + j * 3 + 3 ≤ ar1.size) := (by show _ ≤ _; rw [hzz]; exact HF1.out.fit); clear hob hg hq ho hzz))
      refine (markText_any _ (m + 1) _ (by omega) (by omega)).mono ?_; rintro e w2 ⟨rfl, hw⟩
      have HF2 := Lib.hid (HF1.out.ext hw)
      obtain ⟨ar2, ho, hzz, -, -⟩ := HF2.out.arr
      have HOB2 := Lib.hid ho
      have HFT2 : Hid (off + j * 3 + 3 ≤ ar2.size) := by show _ ≤ _; rw [hzz]; exact HF2.out.fit
      clear hw ho hzz
      go_wp2_with (first
        | (refine wpList_store_cell rfl 9 (.tmp 24) (.tmp 22) rfl b (off + j * 3 + 1) rfl (.string (mtext (m + 1))) rfl rfl E0 ar2 HOB2.out isz9 (by have := HFT2.out; omega) rfl ?_; intro w3 hob hg hq; have HF3 := Lib.hid (HF2.out.leaf (j := 1) rfl (v := .string (mtext (m + 1))) (by have := mtext_size (m + 1) (by omega); show _ ≤ maxLen; unfold maxLen; omega) HOB2.out hob hg); obtain ⟨ar3, ho, hzz, -, -⟩ := HF3.out.arr; have HOB3 := Lib.hid ho; have HFT3 : Hid (off + j * 3 + 3 ≤ ar3.size) := (by show _ ≤ _; rw [hzz]; exact HF3.out.fit); clear hob hg hq ho hzz; have hcell2 := HF3.out.cell (j := 2) rfl))
      obtain ⟨U2, hu1, hu2, hu3⟩ := HF3.out.row (j := 2) rfl rfl
      refine (HM2.out _ _ ((m + 1) + 1) U2 _ (by omega) hu1 hu2 (by omega)).mono ?_; rintro e w4 ⟨rfl, how, hch⟩
      have HF4 := Lib.hid (hu3 w4 _ how hch)
      clear how hch hu1 hu2 hu3 hcell2
      go_wp2_with fail
      go_roundw
      case rel =>
        obtain ⟨hown2, hchg2⟩ := HBK.out _ _ _ rfl HF4.out
        refine ⟨j + 1, (((m + 1) + 1) + Tr.cntE (GType.trs v2)), by omega, by go_num, by first | rfl | go_num, by have h1 := HTK.out; have h2 := HM1.out; show _ = _; omega, ?_, HC1.out.trans hchg2⟩
        show Own _ _ _ _
        rw [← HMS.out]
        exact hown2
      case measure => simp [intOf]; omega
    · have hkl : j = (GType.trs l).length := by rw [GType.trs_len]; omega
      go_wp2_with fail
      go_ret
      have ho := HO1.out
      rw [hkl, Tr.mid_end] at ho
      have hm1 := HM1.out
      rw [hkl, List.take_length] at hm1
      subst hm1
      exact ⟨rfl, ho, HC1.out⟩
theorem markTypeS_in : ∀ x : GType, MarkSC 89 3 (GType.trs x.gArgs) :=
  GType.ind fun v0 v1 v2 ih => markTypeS_of v2 ih
theorem markTypeS_all (l : List GType) : MarkSC 89 3 (GType.trs l) := markTypeS_of l fun x _ => markTypeS_in x

set_option maxRecDepth 100000 in
set_option maxHeartbeats 2000000 in
theorem heldTypeS_of (l : List GType) (H2 : ∀ x ∈ l, HeldSC 90 3 (GType.trs x.gArgs)) : HeldSC 90 3 (GType.trs l) := by
  intro s kz k w hz hrep0 hbd
  subst hz
  obtain ⟨a, cap, rfl, hl, hm⟩ := hrep0.shape
  rw [Tr.markE_length, GType.trs_len] at *
  unfold maxLen at hm
  have HO := Lib.hid hrep0
  have HH2 := Lib.hid H2
  clear H2
  clear hrep0
  go_enter Try.func90, Try.ntmps90
  go_wp2_with fail
  go_loopw [1, 5] (fun kv i wr => ∃ j m : Nat, j ≤ l.length ∧ i = .int .i64 j ∧ kv = .int .i64 (m : Int) ∧ Hid (m = k + Tr.cntE ((GType.trs l).take j)) ∧ Ext w wr) (fun _ i _ => l.length - (intOf i).toNat)
  case atStart => exact ⟨0, k, Nat.zero_le _, rfl, rfl, by show _ = _; simp [Tr.cntE], .refl _⟩
  case round =>
    obtain ⟨j, m, hj, rfl, rfl, HM1, hw⟩ := hrel
    by_cases hlt : j < l.length
    · have hlt2 : j < (GType.trs l).length := by rw [GType.trs_len]; exact hlt
      have hge : (GType.trs l)[j] = (l[j]).tr := by have h1 := GType.trs_get hlt; rw [List.getElem?_eq_getElem hlt2] at h1; exact Option.some.inj h1
      have hcl := Tr.cntE_le hlt2
      have hmg := Tr.markE_get (GType.trs l) k j hlt2
      have htk : Tr.cntE ((GType.trs l).take (j + 1)) = Tr.cntE ((GType.trs l).take j) + Tr.cntL (GType.trs l)[j] := Tr.cntE_take _ j hlt2
      rw [hge] at hcl hmg htk
      have hm1 := HM1.out
      rw [← hm1] at hmg
      have HM2 := Lib.hid (HH2.out _ (List.getElem_mem hlt))
      generalize l[j] = x at *
      obtain ⟨v0, v1, v2⟩ := x
      have HM2 : Hid (HeldSC 90 3 (GType.trs v2)) := HM2
      have htr : GType.tr (.mk v0 v1 v2) = [.leaf (.int .i64 v0), .leaf (.string v1), .row 3 (GType.trs v2)] := by simp [GType.tr]
      rw [htr] at hcl hmg htk
      have hcw : Tr.cntL [.leaf (.int .i64 v0), .leaf (.string v1), .row 3 (GType.trs v2)] = 1 + 1 + Tr.cntE (GType.trs v2) := by simp only [Tr.cntL, Tr.cnt] <;> omega
      obtain ⟨b, off, cs0, rfl, hb, hrep, hc⟩ := (HO.out.ext hw).at2 hmg
      obtain ⟨d0, d1, d2, rfl⟩ := list3 hrep.length.symm
      obtain ⟨rfl, -⟩ := (hrep.1).leaf_eq
      obtain ⟨rfl, -⟩ := (hrep.2.1).leaf_eq
      have HR2 := Lib.hid (hrep.2.2.1)
      obtain ⟨sa2, sc2, hd2, -, -⟩ := HR2.out.shape
      rw [Tr.markE_length] at hd2
      subst hd2
      have hmb : m + (1 + 1 + Tr.cntE (GType.trs v2)) ≤ 1152921504606846976 := by rw [← hcw]; omega
      rw [hcw] at htk
      have HTK := Lib.hid htk
      have HC := Lib.hid hc
      have HB := Lib.hid hb
      have hki := hlt
      simp only [markLeaf, Tr.cnt] at *
      have hcell0 : wr.cell? ⟨b, off + j * 3, none⟩ = some _ := HC.out 0 _ rfl
      have hcell1 : wr.cell? ⟨b, off + j * 3 + 1, none⟩ = some _ := HC.out 1 _ rfl
      have hcell2 : wr.cell? ⟨b, off + j * 3 + 2, none⟩ = some _ := HC.out 2 _ rfl
      clear hrep hc hmg htk hge hcl hcw hm1 htr hb
      go_wp2_with fail
      have HX0 := Lib.hid (Ext.refl wr)
      refine wp_region_held_drew (S := Ext wr) (by kernel_rfl) ?_ (fun hHeld => ?_)
      · exact .drew (.refl _)
      refine wpAnyH_take (i := 0) rfl (by kernel_rfl) (by kernel_rfl) (by kernel_rfl) (fun _ _ _ h => h) (.inl ⟨rfl, fun _ _ => rfl⟩) (by assumption) ?_
      simp only [Act.put, List.getElem_toArray, List.getElem_cons_zero, List.setIfInBounds_toArray, List.set_cons_zero, List.set_cons_succ]
      refine wpAnyH_take (i := 1) rfl (by kernel_rfl) (by kernel_rfl) (by kernel_rfl) (fun _ _ _ h => h) (.inl ⟨rfl, fun _ _ => rfl⟩) (by assumption) ?_
      simp only [Act.put, List.getElem_toArray, List.getElem_cons_zero, List.getElem_cons_succ, List.setIfInBounds_toArray, List.set_cons_zero, List.set_cons_succ]
      refine wpAnyH_index (i := 2) rfl (by kernel_rfl) (by kernel_rfl) (by kernel_rfl) rfl 25 (.tmp 21) (.tmp 22) rfl (b) (off) (l.length) (cap) (j) (3) rfl rfl (hki) Try.underlying25 (by kernel_rfl) (by assumption) (fun _ _ _ _ h => h) ?_
      simp only [Act.put, List.getElem_toArray, List.getElem_cons_zero, List.getElem_cons_succ, List.setIfInBounds_toArray, List.set_cons_zero, List.set_cons_succ]
      refine wpAnyH_take (i := 3) rfl (by kernel_rfl) (by kernel_rfl) (by kernel_rfl) (fun _ _ _ h => h) (.inl ⟨rfl, fun _ _ => rfl⟩) (by assumption) ?_
      simp only [Act.put, List.getElem_toArray, List.getElem_cons_zero, List.getElem_cons_succ, List.setIfInBounds_toArray, List.set_cons_zero, List.set_cons_succ]
      refine wpAnyH_cell (i := 4) rfl (by kernel_rfl) (by kernel_rfl) (by kernel_rfl) rfl 9 (.tmp 24) rfl (b) (off + j * 3 + 1) rfl (.string (mtext (m + 1))) _ Try.underlying9 rfl (fun W hW => (hW.cell (p := ⟨b, off + j * 3 + 1, none⟩) (Nat.lt_of_lt_of_le HB.out (HX0.out).size)).trans hcell1) (by assumption) (fun _ _ _ _ h => h) ?_
      simp only [Act.put, List.getElem_toArray, List.getElem_cons_zero, List.getElem_cons_succ, List.setIfInBounds_toArray, List.set_cons_zero, List.set_cons_succ]
      refine wpAnyH_take (i := 5) rfl (by kernel_rfl) (by kernel_rfl) (by kernel_rfl) (fun _ _ _ h => h) (.inl ⟨rfl, fun _ _ => rfl⟩) (by assumption) ?_
      simp only [Act.put, List.getElem_toArray, List.getElem_cons_zero, List.getElem_cons_succ, List.setIfInBounds_toArray, List.set_cons_zero, List.set_cons_succ]
      refine wpAnyH_call (i := 6) (by kernel_rfl) rfl rfl (run_call_func rfl rfl #[.int .i64 _] (by simp only [List.map_toArray, List.map_cons, List.map_nil, Act.eval]; rfl) Try.func125 (by kernel_rfl) (by kernel_rfl) _) (markText_any _ (m + 1) _ (by omega) (by omega)) ?_; rintro e wh1 ⟨rfl, hv1⟩
      have hs1 := Ext.trans hHeld hv1
      refine ⟨_, rfl, hs1, ?_⟩
      simp only [Act.put, List.getElem_toArray, List.getElem_cons_zero, List.getElem_cons_succ, List.setIfInBounds_toArray, List.set_cons_zero, List.set_cons_succ]
      refine wpAnyH_take (i := 7) rfl (by kernel_rfl) (by kernel_rfl) (by kernel_rfl) (fun _ _ _ h => h) (.inl ⟨rfl, fun _ _ => rfl⟩) (by assumption) ?_
      simp only [Act.put, List.getElem_toArray, List.getElem_cons_zero, List.getElem_cons_succ, List.setIfInBounds_toArray, List.set_cons_zero, List.set_cons_succ]
      refine wpAnyH_done (by kernel_rfl) ?_ _
      clear hHeld
      have HX1 := Lib.hid (Ext.trans HX0.out hs1)
      replace hcell2 := (hs1.cell (p := ⟨b, off + j * 3 + 2, none⟩) (Nat.lt_of_lt_of_le HB.out HX0.out.size)).trans hcell2
      clear hs1 hv1
      simp only [beq_self_eq_true, Bool.not_true]
      go_wp2_with fail
      refine (HM2.out _ _ ((m + 1) + 1) _ (by omega) (HR2.out.ext HX1.out) (by omega)).mono ?_; rintro e wh2 ⟨rfl, hv2⟩
      have HX2 := Lib.hid (Ext.trans HX1.out hv2)
      clear hv2
      have hng : ¬ (((((m + 1) + 1) + Tr.cntE (GType.trs v2)) : Nat) : Int) < 0 := by omega
      go_wp2_with fail
      go_roundw
      case rel => exact ⟨j + 1, (((m + 1) + 1) + Tr.cntE (GType.trs v2)), by omega, by go_num, by first | rfl | go_num, by have h1 := HTK.out; have h2 := HM1.out; show _ = _; omega, hw.trans HX2.out⟩
      case measure => simp [intOf]; omega
    · have hkl : j = (GType.trs l).length := by rw [GType.trs_len]; omega
      go_wp2_with fail
      go_ret
      have hm1 := HM1.out
      rw [hkl, List.take_length] at hm1
      subst hm1
      exact ⟨rfl, hw⟩
theorem heldTypeS_in : ∀ x : GType, HeldSC 90 3 (GType.trs x.gArgs) :=
  GType.ind fun v0 v1 v2 ih => heldTypeS_of v2 ih
theorem heldTypeS_all (l : List GType) : HeldSC 90 3 (GType.trs l) := heldTypeS_of l fun x _ => heldTypeS_in x

set_option maxRecDepth 100000 in
set_option maxHeartbeats 2000000 in
theorem markType_all (x : GType) : MarkC 47 x.tr := by
  obtain ⟨v0, v1, v2⟩ := x
  have htr : GType.tr (.mk v0 v1 v2) = [.leaf (.int .i64 v0), .leaf (.string v1), .row 3 (GType.trs v2)] := by simp [GType.tr]
  rw [htr]
  clear htr
  intro cs kz k S w hz ho hS hbd
  subst hz
  simp only [Tr.topN, Tr.topL, Nat.add_zero] at *
  have hr := ho.rep
  obtain ⟨d0, d1, d2, rfl⟩ := list3 hr.length.symm
  obtain ⟨rfl, -⟩ := (hr.1).leaf_eq
  obtain ⟨rfl, -⟩ := (hr.2.1).leaf_eq
  have HR := Lib.hid (hr.2.2.1)
  obtain ⟨sa, sc, hd, -, -⟩ := HR.out.shape
  rw [GType.trs_len] at hd
  subst hd
  obtain ⟨U, hu1, hu2, hu3⟩ := ho.setRow (j := 2) rfl rfl
  have HU1 := Lib.hid hu1
  have HU2 := Lib.hid hu2
  have HU3 := Lib.hid hu3
  have HSS := Lib.hid hS
  clear ho hS hr hu1 hu2 hu3
  go_enter Try.func47, Try.ntmps47
  go_wp2_with fail
  refine (markTypeS_all v2 _ _ k U _ (by rfl) (HU1.out.ext (.alloc (.refl _) _)) (fun x hx => by have := HSS.out x (HU2.out x hx); simp only [World.size_alloc]; omega) (by omega)).mono ?_; rintro e w1 ⟨rfl, how, hch⟩
  have hown := HU3.out w1 _ how (fun x hx _ hn => (hch.block x (by simp only [World.size_alloc]; omega) hn).trans ((Ext.alloc (.refl w) _).block x hx))
  have hchg := (Chg.of_ext (.alloc (.refl w) _)).trans (hch.mono HU2.out)
  have HOWN := Lib.hid hown
  have HCHG := Lib.hid hchg
  clear how hch hown hchg
  go_wp2_with fail
  go_ret
  exact ⟨rfl, HOWN.out, HCHG.out⟩

set_option maxRecDepth 100000 in
set_option maxHeartbeats 2000000 in
theorem heldType_all (x : GType) : HeldC 48 x.tr := by
  obtain ⟨v0, v1, v2⟩ := x
  have htr : GType.tr (.mk v0 v1 v2) = [.leaf (.int .i64 v0), .leaf (.string v1), .row 3 (GType.trs v2)] := by simp [GType.tr]
  rw [htr]
  clear htr
  intro cs kz k w hz hr hbd
  subst hz
  simp only [Tr.topN, Tr.topL, Nat.add_zero] at *
  obtain ⟨d0, d1, d2, rfl⟩ := list3 hr.length.symm
  obtain ⟨rfl, -⟩ := (hr.1).leaf_eq
  obtain ⟨rfl, -⟩ := (hr.2.1).leaf_eq
  have HR := Lib.hid (hr.2.2.1)
  obtain ⟨sa, sc, hd, -, -⟩ := HR.out.shape
  rw [Tr.markE_length] at hd
  rw [GType.trs_len] at hd
  subst hd
  clear hr
  go_enter Try.func48, Try.ntmps48
  go_wp2_with fail
  refine (heldTypeS_all v2 _ _ k _ (by rfl) (HR.out.ext (.alloc (.refl _) _)) (by omega)).mono ?_; rintro e w1 ⟨rfl, hw1⟩
  have HW1 := Lib.hid (Ext.trans (.alloc (.refl _) _) hw1)
  clear hw1
  have hng : ¬ ((k + Tr.cntE (GType.trs v2) : Nat) : Int) < 0 := by omega
  go_wp2_with fail
  go_ret
  exact ⟨rfl, HW1.out⟩

end Go.Proofs.Ytmpepccpnnldoaa

namespace Go.Proofs.Ytmpepccpnnldoaa
open Go.RowKit Go.Proofs Go.Shelf
set_option maxRecDepth 100000
def lays166_ren : Go.Shelf.Ren := ⟨fun | 240 => 139 | 276 => 146 | 166 => 117 | 167 => 118 | 169 => 78 | 137 => 123 | 217 => 141 | 266 => 147 | n => n, fun | 70 => 110 | 72 => 112 | 37 => 22 | 164 => 160 | 5 => 5 | 9 => 9 | 0 => 0 | 3 => 3 | 4 => 4 | 20 => 20 | 75 => 142 | 80 => 114 | 127 => 146 | n => n, fun | n => n⟩
theorem lays166 : Go.Proofs.Lays.n166 Try.prog lays166_ren := {
  mixed := by kernel_rfl
  f166 := Try.func117.trans (congrArg some (by kernel_rfl))
  f240 := Try.func139.trans (congrArg some (by kernel_rfl))
  f276 := Try.func146.trans (congrArg some (by kernel_rfl))
  t0 := Try.underlying0
  a0 := Try.isAgg0
  z0 := Try.sizeOf0
  v0 := Try.zeroValue0
  t3 := Try.underlying3
  a3 := Try.isAgg3
  z3 := Try.sizeOf3
  v3 := Try.zeroValue3
  t4 := Try.underlying4
  a4 := Try.isAgg4
  z4 := Try.sizeOf4
  v4 := Try.zeroValue4
  t9 := Try.underlying9
  a9 := Try.isAgg9
  z9 := Try.sizeOf9
  v9 := Try.zeroValue9
  t20 := Try.underlying20
  a20 := Try.isAgg20
  z20 := Try.sizeOf20
  v20 := Try.zeroValue20
  t37 := Try.underlying22
  a37 := Try.isAgg22
  z37 := Try.sizeOf22
  v37 := Try.zeroValue22
  t70 := Try.underlying110
  a70 := Try.isAgg110
  z70 := Try.sizeOf110
  v70 := Try.zeroValue110
  t72 := Try.underlying112
  a72 := Try.isAgg112
  z72 := Try.sizeOf112
  v72 := Try.zeroValue112
  t75 := Try.underlying142
  a75 := Try.isAgg142
  z75 := Try.sizeOf142
  v75 := Try.zeroValue142
  t164 := Try.underlying160
  a164 := Try.isAgg160
  z164 := Try.sizeOf160
  v164 := Try.zeroValue160 }
def lays167_ren : Go.Shelf.Ren := ⟨fun | 240 => 139 | 276 => 146 | 166 => 117 | 167 => 118 | 169 => 78 | 137 => 123 | 217 => 141 | 266 => 147 | n => n, fun | 70 => 110 | 72 => 112 | 37 => 22 | 164 => 160 | 5 => 5 | 9 => 9 | 0 => 0 | 3 => 3 | 4 => 4 | 20 => 20 | 75 => 142 | 80 => 114 | 127 => 146 | n => n, fun | n => n⟩
theorem lays167 : Go.Proofs.Lays.n167 Try.prog lays167_ren := {
  mixed := by kernel_rfl
  f167 := Try.func118.trans (congrArg some (by kernel_rfl))
  f240 := Try.func139.trans (congrArg some (by kernel_rfl))
  f276 := Try.func146.trans (congrArg some (by kernel_rfl))
  t0 := Try.underlying0
  a0 := Try.isAgg0
  z0 := Try.sizeOf0
  v0 := Try.zeroValue0
  t4 := Try.underlying4
  a4 := Try.isAgg4
  z4 := Try.sizeOf4
  v4 := Try.zeroValue4
  t5 := Try.underlying5
  a5 := Try.isAgg5
  z5 := Try.sizeOf5
  v5 := Try.zeroValue5
  t9 := Try.underlying9
  a9 := Try.isAgg9
  z9 := Try.sizeOf9
  v9 := Try.zeroValue9
  t20 := Try.underlying20
  a20 := Try.isAgg20
  z20 := Try.sizeOf20
  v20 := Try.zeroValue20
  t37 := Try.underlying22
  a37 := Try.isAgg22
  z37 := Try.sizeOf22
  v37 := Try.zeroValue22
  t70 := Try.underlying110
  a70 := Try.isAgg110
  z70 := Try.sizeOf110
  v70 := Try.zeroValue110
  t72 := Try.underlying112
  a72 := Try.isAgg112
  z72 := Try.sizeOf112
  v72 := Try.zeroValue112
  t75 := Try.underlying142
  a75 := Try.isAgg142
  z75 := Try.sizeOf142
  v75 := Try.zeroValue142
  t164 := Try.underlying160
  a164 := Try.isAgg160
  z164 := Try.sizeOf160
  v164 := Try.zeroValue160 }
def lays169_ren : Go.Shelf.Ren := ⟨fun | 240 => 139 | 276 => 146 | 166 => 117 | 167 => 118 | 169 => 78 | 137 => 123 | 217 => 141 | 266 => 147 | n => n, fun | 70 => 110 | 72 => 112 | 37 => 22 | 164 => 160 | 5 => 5 | 9 => 9 | 0 => 0 | 3 => 3 | 4 => 4 | 20 => 20 | 75 => 142 | 80 => 114 | 127 => 146 | n => n, fun | n => n⟩
theorem lays169 : Go.Proofs.Lays.n169 Try.prog lays169_ren := {
  mixed := by kernel_rfl
  f169 := Try.func78.trans (congrArg some (by kernel_rfl))
  t0 := Try.underlying0
  a0 := Try.isAgg0
  z0 := Try.sizeOf0
  v0 := Try.zeroValue0
  t3 := Try.underlying3
  a3 := Try.isAgg3
  z3 := Try.sizeOf3
  v3 := Try.zeroValue3
  t9 := Try.underlying9
  a9 := Try.isAgg9
  z9 := Try.sizeOf9
  v9 := Try.zeroValue9
  t37 := Try.underlying22
  a37 := Try.isAgg22
  z37 := Try.sizeOf22
  v37 := Try.zeroValue22
  t70 := Try.underlying110
  a70 := Try.isAgg110
  z70 := Try.sizeOf110
  v70 := Try.zeroValue110
  t72 := Try.underlying112
  a72 := Try.isAgg112
  z72 := Try.sizeOf112
  v72 := Try.zeroValue112
  t127 := Try.underlying146
  a127 := Try.isAgg146
  z127 := Try.sizeOf146
  v127 := Try.zeroValue146 }
def lays137_ren : Go.Shelf.Ren := ⟨fun | 240 => 139 | 276 => 146 | 166 => 117 | 167 => 118 | 169 => 78 | 137 => 123 | 217 => 141 | 266 => 147 | n => n, fun | 70 => 110 | 72 => 112 | 37 => 22 | 164 => 160 | 5 => 5 | 9 => 9 | 0 => 0 | 3 => 3 | 4 => 4 | 20 => 20 | 75 => 142 | 80 => 114 | 127 => 146 | n => n, fun | n => n⟩
theorem lays137 : Go.Proofs.Lays.n137 Try.prog lays137_ren := {
  mixed := by kernel_rfl
  f137 := Try.func123.trans (congrArg some (by kernel_rfl))
  f217 := Try.func141.trans (congrArg some (by kernel_rfl))
  f266 := Try.func147.trans (congrArg some (by kernel_rfl))
  t3 := Try.underlying3
  a3 := Try.isAgg3
  z3 := Try.sizeOf3
  v3 := Try.zeroValue3
  t5 := Try.underlying5
  a5 := Try.isAgg5
  z5 := Try.sizeOf5
  v5 := Try.zeroValue5
  t9 := Try.underlying9
  a9 := Try.isAgg9
  z9 := Try.sizeOf9
  v9 := Try.zeroValue9 }
theorem extra166 : Builder.Extra Try.prog lays166_ren := {
  sizeBuilder := by kernel_rfl
  liesBuilder := by kernel_rfl
  t5 := Try.underlying5
  a5 := Try.isAgg5
  z5 := Try.sizeOf5
  v5 := Try.zeroValue5
  infoByte := by kernel_rfl
  cellsByte := by kernel_rfl
  sizeByte := by kernel_rfl
  neB5 := by decide }
theorem extra167 : Builder.Extra Try.prog lays167_ren := {
  sizeBuilder := by kernel_rfl
  liesBuilder := by kernel_rfl
  t5 := Try.underlying5
  a5 := Try.isAgg5
  z5 := Try.sizeOf5
  v5 := Try.zeroValue5
  infoByte := by kernel_rfl
  cellsByte := by kernel_rfl
  sizeByte := by kernel_rfl
  neB5 := by decide }
theorem extra169 : Builder.Extra Try.prog lays169_ren := {
  sizeBuilder := by kernel_rfl
  liesBuilder := by kernel_rfl
  t5 := Try.underlying5
  a5 := Try.isAgg5
  z5 := Try.sizeOf5
  v5 := Try.zeroValue5
  infoByte := by kernel_rfl
  cellsByte := by kernel_rfl
  sizeByte := by kernel_rfl
  neB5 := by decide }
theorem b_WriteByte (B b : Nat) (bs : List Value) (c : Int) (w : World) (h : Lib.IsBuilderF 112 5 B b bs w) (hlen : bs.length + 1 ≤ 140737488355328) (hBw : B ≤ w.heap.size) :
    Calls Try.prog 118 #[.pointer (some ⟨b, 0, none⟩), .int .u8 c] w fun e w' => e = .returned .nilIface ∧ (Lib.BuilderAtF 112 5 B b (.pointer (some ⟨b, 0, none⟩)) (bs ++ [.int .u8 c]) w' ∧ Below B w w' ∧ Lib.OthersKept 5 (some b) w w') := Any.Builder_WriteByte_k lays167 extra167 B b bs c w h hlen hBw
theorem b_WriteString (B b : Nat) (bs : List Value) (s : ByteArray) (w : World) (h : Lib.IsBuilderF 112 5 B b bs w) (hlen : bs.length + s.size ≤ 140737488355328) (hBw : B ≤ w.heap.size) :
    Calls Try.prog 117 #[.pointer (some ⟨b, 0, none⟩), .string s] w fun e w' => e = .returned (.tuple #[.int .i64 s.size, .nilIface]) ∧ (Lib.BuilderAtF 112 5 B b (.pointer (some ⟨b, 0, none⟩)) (bs ++ Lib.strCells s) w' ∧ Below B w w' ∧ Lib.OthersKept 5 (some b) w w') := Any.Builder_WriteString_k lays166 extra166 B b bs s w h hlen hBw
theorem b_String (B b : Nat) (l : List UInt8) (w : World) (h : Lib.IsBuilderF 112 5 B b (Lib.byteCells l) w) (hBw : B ≤ w.heap.size) :
    Calls Try.prog 78 #[.pointer (some ⟨b, 0, none⟩)] w fun e w' => e = .returned (.string ⟨l.toArray⟩) ∧ (Lib.IsBuilderF 112 5 B b (Lib.byteCells l) w' ∧ Below B w w' ∧ Lib.OthersKept 5 (some b) w w') := Any.Builder_String_any_k lays169 extra169 B b l w h hBw
theorem b_IndexByte (s : ByteArray) (c : Int) (w : World) :
    Calls Try.prog 123 #[.string s, .int .u8 c] w fun e w' => e = .returned (.int .i64 (Lib.indexByte s.data.toList c.toNat.toUInt8)) ∧ w' = w := Any.strings_IndexByte lays137 s c w
end Go.Proofs.Ytmpepccpnnldoaa

namespace Go.Proofs.Ytmpepccpnnldoaa

end Go.Proofs.Ytmpepccpnnldoaa

namespace Go.Proofs.Ytmpepccpnnldoaa
open Go.RowKit Go.Proofs


end Go.Proofs.Ytmpepccpnnldoaa

namespace Go.Proofs.Ytmpepccpnnldoaa
open Go.RowKit Go.Proofs

theorem bytes_inj {a b : ByteArray} (h : a.toList = b.toList) : a = b := by
  rw [ByteArray.toList_eq, ByteArray.toList_eq] at h
  obtain ⟨⟨x⟩⟩ := a
  obtain ⟨⟨y⟩⟩ := b
  have h : x = y := h
  rw [h]
end Go.Proofs.Ytmpepccpnnldoaa

namespace Go.Proofs.Ytmpepccpnnldoaa
open Go.RowKit Go.Proofs

end Go.Proofs.Ytmpepccpnnldoaa

namespace Go.Proofs.Ytmpepccpnnldoaa
open Go.RowKit Go.Proofs

mutual
def GType.size : GType → Nat
  | .mk _ _ xs => 1 + GType.sizes xs
def GType.sizes : List GType → Nat
  | [] => 0
  | e :: r => GType.size e + GType.sizes r
end
end Go.Proofs.Ytmpepccpnnldoaa

namespace Go.Proofs.Ytmpepccpnnldoaa
open Go.RowKit

/-- A slice of strings whose row is the call's own (blocks from 'base' on). -/
def AccS (e : TypeId) (base : Nat) (w : World) (l : List ByteArray) (v : Value) : Prop := w.ownsRow base e 1 v l.length (l.map Value.string) ∧ ∀ s ∈ l, s.size ≤ maxLen

theorem AccS.nil (e : TypeId) (base : Nat) (w : World) : AccS e base w [] (.slice none 0 0) := ⟨⟨rfl, .inl ⟨rfl, rfl⟩⟩, by simp⟩
theorem AccS.keep {e : TypeId} {base : Nat} {w w' : World} {l : List ByteArray} {v : Value} (h : AccS e base w l v) (hk : ∀ b, base ≤ b → b < w.heap.size → w'.heap[b]? = w.heap[b]?) : AccS e base w' l v := by
  refine ⟨⟨h.1.1, ?_⟩, h.2⟩
  rcases h.1.2 with h1 | ⟨g, cap, cur, h1, h2, h3, h4⟩
  · exact .inl h1
  · refine .inr ⟨g, cap, cur, h1, h2, ?_, h4⟩
    rw [hk g h2 (by rcases Nat.lt_or_ge g w.heap.size with hl | hl; exact hl; rw [Array.getElem?_eq_none hl] at h3; cases h3)]
    exact h3
theorem AccS.ext {e : TypeId} {base : Nat} {w w' : World} {l : List ByteArray} {v : Value} (h : AccS e base w l v) (hx : Ext w w') : AccS e base w' l v := h.keep fun b _ hb => hx.block b hb
theorem AccS.mono {e : TypeId} {base base' : Nat} {w : World} {l : List ByteArray} {v : Value} (h : AccS e base w l v) (hb : base' ≤ base) : AccS e base' w l v := by
  refine ⟨⟨h.1.1, ?_⟩, h.2⟩
  rcases h.1.2 with h1 | ⟨g, cap, cur, h1, h2, h3⟩
  · exact .inl h1
  · exact .inr ⟨g, cap, cur, h1, by omega, h3⟩
theorem AccS.own {e : TypeId} {base : Nat} {w : World} {l : List ByteArray} {v : Value} (h : AccS e base w l v) : Own w (.row 1 (strTrs l)) v (fun x => base ≤ x ∧ x < w.heap.size) := by
  have hget : ∀ (i : Nat) (x : List Tr), (strTrs l)[i]? = some x → ∃ s, l[i]? = some s ∧ x = [Tr.leaf (.string s)] := by
    intro i x hx
    unfold strTrs at hx
    rw [List.getElem?_map] at hx
    rcases hl : l[i]? with _ | s
    · simp [hl] at hx
    · simp [hl] at hx
      exact ⟨s, rfl, hx.symm⟩
  rcases h.1.2 with ⟨rfl, h0⟩ | ⟨g, cap, cur, rfl, h2, h3, h4, h5, h6, h7⟩
  · have : l = [] := List.length_eq_zero_iff.1 h0
    subst this
    exact Own.row (es := []) (fun _ _ => undef) (fun _ _ _ => False) (by simp) (by unfold maxLen; omega) (by simp) (by simp) (by simp) (by simp)
  · have hl := strTrs_len l
    rw [← hl]
    refine Own.row (fun i _ => (l[i]?.map Value.string).getD undef) (fun _ _ _ => False) (by rw [hl]; exact h4) h5 ?_ ?_ (by simp) (by simp)
    · intro _
      refine ⟨g, 0, e, cur, rfl, h3, ⟨h2, OB.lt h3⟩, ?_⟩
      intro i x hx j d hd
      obtain ⟨s, hs, rfl⟩ := hget i x hx
      cases j with
      | zero =>
        refine ⟨?_, by simp⟩
        have h8 : (cur.toList.take (l.length * 1))[i]? = (l.map Value.string)[i]? := by rw [h7]
        have hi : i < l.length := (List.getElem?_eq_some_iff.1 hs).1
        rw [List.getElem?_take, if_pos (by omega), List.getElem?_map, hs] at h8
        simpa [hs] using h8
      | succ j => simp at hd
    · intro i x hx j d hd
      obtain ⟨s, hs, rfl⟩ := hget i x hx
      cases j with
      | zero =>
        simp at hd
        subst hd
        simp only [hs, Option.map_some, Option.getD_some]
        exact .leaf (h.2 s (List.mem_of_getElem? hs))
      | succ j => simp at hd
theorem AccS.rep {e : TypeId} {base : Nat} {w : World} {l : List ByteArray} {v : Value} (h : AccS e base w l v) : Rep w (.row 1 (strTrs l)) v := h.own.rep

end Go.Proofs.Ytmpepccpnnldoaa

namespace Go.Proofs.Ytmpepccpnnldoaa
open Go.RowKit Go.Proofs

end Go.Proofs.Ytmpepccpnnldoaa

namespace Go.Proofs.Ytmpepccpnnldoaa
open Go.RowKit Go.Proofs

/-- The state lies behind what was, and stays while only new blocks come. -/
structure InvOk {σ : Type} (w0 : World) (Inv : σ → (Nat → Prop) → World → Prop) : Prop where
  ext : ∀ s S w w', Inv s S w → Ext w w' → Inv s S w'
  lt : ∀ s S w b, Inv s S w → S b → b < w.heap.size
  ge : ∀ s S w b, Inv s S w → S b → w0.heap.size ≤ b

theorem OB.chg {S : Nat → Prop} {w w' : World} {g : Nat} {t : TypeId} {cs : Array Value} (h : OB w g t cs) (hc : Chg S w w') (hn : ¬ S g) : OB w' g t cs := (hc.block g h.lt hn).trans h
theorem Ext.chg {S : Nat → Prop} {a w w' : World} (h : Ext a w) (hc : Chg S w w') (hS : ∀ b, S b → a.heap.size ≤ b) : Ext a w' := Chg.ext h hc hS
theorem Chg.sub {S S' : Nat → Prop} {a b c : World} (h : Chg S a b) (k : Chg S' b c) (hS : ∀ x, S' x → S x ∨ a.heap.size ≤ x) : Chg S a c :=
  ⟨k.os.trans h.os, k.tape.trans h.tape, k.output.trans h.output, Nat.le_trans h.size k.size, fun x hx hn => (k.block x (Nat.lt_of_lt_of_le hx h.size) (fun hs => by rcases hS x hs with h1 | h1; exact hn h1; omega)).trans (h.block x hx hn)⟩

end Go.Proofs.Ytmpepccpnnldoaa

namespace Go.Proofs.Ytmpepccpnnldoaa
set_option linter.unusedSimpArgs false
set_option linter.unusedVariables false
open Go.RowKit Go.Proofs

mutual
def GSExpr.txt : GSExpr → List UInt8
  | .mk a l => if a = ⟨#[]⟩ then 40 :: (GSExpr.txts true l ++ [41]) else a.data.toList
def GSExpr.txts : Bool → List GSExpr → List UInt8
  | _, [] => []
  | z, x :: r => (if z then [] else [32]) ++ (GSExpr.txt x ++ GSExpr.txts false r)
end

theorem builder_lt {T e : TypeId} {B b : Nat} {bs : List Value} {w : World} (h : Lib.IsBuilderF T e B b bs w) : b < w.heap.size := by
  rcases h with ⟨_, v, hb, _⟩ | ⟨_, v, hb, _⟩ <;> exact (Array.getElem?_eq_some_iff.1 hb).1
theorem builderAt_ext {T e : TypeId} {B b : Nat} {p : Value} {bs : List Value} {w w' : World} (h : Lib.BuilderAtF T e B b p bs w) (hx : Ext w w') : Lib.BuilderAtF T e B b p bs w' := by
  obtain ⟨hB, v, hb, hown, hne⟩ := h
  have hl : ∀ g o, w.heap[g]? = some o → w'.heap[g]? = some o := fun g o hg => (hx.block g (Array.getElem?_eq_some_iff.1 hg).1).trans hg
  refine ⟨hB, v, hl _ _ hb, ⟨hown.1, ?_⟩, hne⟩
  rcases hown.2 with hn | ⟨g, cap, cur, fz, hv, hbg, hg, rest⟩
  · exact .inl hn
  · exact .inr ⟨g, cap, cur, fz, hv, hbg, hl _ _ hg, rest⟩
theorem builder_ext {T e : TypeId} {B b : Nat} {bs : List Value} {w w' : World} (h : Lib.IsBuilderF T e B b bs w) (hx : Ext w w') : Lib.IsBuilderF T e B b bs w' :=
  h.elim (fun x => .inl (builderAt_ext x hx)) (fun x => .inr (builderAt_ext x hx))
theorem kept_ext {e : TypeId} {b : Option Nat} {w w' : World} (hx : Ext w w') : Lib.OthersKept e b w w' := fun k o hk _ _ => (hx.block k (Array.getElem?_eq_some_iff.1 hk).1).trans hk
theorem kept_ob {b g : Nat} {w w' : World} {t : TypeId} {cs : Array Value} (h : Lib.OthersKept 5 (some b) w w') (ho : OB w g t cs) (hb : g ≠ b) (ht : t ≠ 5) : OB w' g t cs :=
  h g _ ho (fun e => hb (Option.some.inj e)) (fun c fz e => by injection e with e1 e2 e3; exact ht e2)
/-- What writing has done. -/
structure WrP (B b : Nat) (l : List UInt8) (w w' : World) : Prop where
  bld : Lib.IsBuilderF 112 5 B b (Lib.byteCells l) w'
  bel : Below B w w'
  kept : Lib.OthersKept 5 (some b) w w'
theorem WrP.trans {B b : Nat} {l k : List UInt8} {a c d : World} (h : WrP B b l a c) (h2 : WrP B b k c d) : WrP B b k a d := ⟨h2.bld, h.bel.trans h2.bel, h.kept.trans h2.kept⟩
theorem WrP.ext {B b : Nat} {l : List UInt8} {a w w' : World} (h : WrP B b l a w) (hx : Ext w w') (hB : B ≤ w.heap.size) : WrP B b l a w' := ⟨builder_ext h.bld hx, h.bel.trans (hx.mono hB), h.kept.trans (kept_ext hx)⟩
theorem WrP.pre {B b : Nat} {l : List UInt8} {a w w' : World} (hx : Ext a w) (hB : B ≤ a.heap.size) (h : WrP B b l w w') : WrP B b l a w' := ⟨h.bld, (hx.mono hB).trans h.bel, (kept_ext hx).trans h.kept⟩
theorem WrP.size {B b : Nat} {l : List UInt8} {w w' : World} (h : WrP B b l w w') : w.heap.size ≤ w'.heap.size := h.bel.size
theorem Ext.wr {B b : Nat} {l : List UInt8} {a w w' : World} (h : Ext a w) (k : WrP B b l w w') (hB : a.heap.size ≤ B) : Ext a w' := Below.trans h (k.bel.mono hB)
theorem wr_byte {B b : Nat} {l : List UInt8} {w : World} (c : UInt8) (h : Lib.IsBuilderF 112 5 B b (Lib.byteCells l) w) (hl : l.length + 1 ≤ 140737488355328) (hB : B ≤ w.heap.size) :
    Calls Try.prog 118 #[.pointer (some ⟨b, 0, none⟩), .int .u8 (c.toNat : Int)] w fun e w' => e = .returned .nilIface ∧ WrP B b (l ++ [c]) w w' :=
  (b_WriteByte B b (Lib.byteCells l) (c.toNat : Int) w h (by rw [Lib.byteCells_length]; exact hl) hB).mono fun e w' => by
    rintro ⟨rfl, h1, h2, h3⟩
    refine ⟨rfl, .inr ?_, h2, h3⟩
    have : Lib.byteCells (l ++ [c]) = Lib.byteCells l ++ [.int .u8 (c.toNat : Int)] := by simp [Lib.byteCells]
    rw [this]
    exact h1
theorem wr_str {B b : Nat} {l : List UInt8} {w : World} (s : ByteArray) (h : Lib.IsBuilderF 112 5 B b (Lib.byteCells l) w) (hl : (l ++ s.data.toList).length ≤ 140737488355328) (hB : B ≤ w.heap.size) :
    Calls Try.prog 117 #[.pointer (some ⟨b, 0, none⟩), .string s] w fun e w' => (∃ v, e = .returned v) ∧ WrP B b (l ++ s.data.toList) w w' :=
  (b_WriteString B b (Lib.byteCells l) s w h (by rw [Lib.byteCells_length]; rw [List.length_append] at hl; simpa using hl) hB).mono fun e w' => by
    rintro ⟨rfl, h1, h2, h3⟩
    refine ⟨⟨_, rfl⟩, .inr ?_, h2, h3⟩
    have : Lib.byteCells (l ++ s.data.toList) = Lib.byteCells l ++ Lib.strCells s := by simp [Lib.byteCells, Lib.strCells]
    rw [this]
    exact h1

theorem str_eq {v : ByteArray} (h : v.toList = []) : v = ⟨#[]⟩ := bytes_inj (by rw [h, ByteArray.toList_eq])
theorem str_ne {v : ByteArray} (h : ¬ v.toList = []) : ¬ v = ⟨#[]⟩ := fun e => h (by rw [e, ByteArray.toList_eq])
theorem GSExpr.txts_step {xs : List GSExpr} {k : Nat} (z : Bool) (h : k < xs.length) : GSExpr.txts z (xs.drop k) = (if z then [] else [32]) ++ (GSExpr.txt xs[k] ++ GSExpr.txts false (xs.drop (k + 1))) := by
  rw [List.drop_eq_getElem_cons h, GSExpr.txts]
set_option maxRecDepth 100000 in
set_option maxHeartbeats 2000000 in
theorem writeSExpr_impl : ∀ (x : GSExpr) (l : List UInt8) (B b : Nat) (cs : List Value) (w0 w : World), RepL w0 x.tr cs → Ext w0 w → w0.heap.size ≤ B → Lib.IsBuilderF 112 5 B b (Lib.byteCells l) w → (l ++ GSExpr.txt x).length ≤ 140737488355328 → B ≤ w.heap.size →
    Calls Try.prog 77 #[.pointer (some ⟨b, 0, none⟩), .agg ⟨cs⟩] w fun e w' => e = .returned (.tuple #[]) ∧ WrP B b (l ++ GSExpr.txt x) w w' := by
  refine GSExpr.ind fun v0 xs ih => ?_; intro l B b cs w0 w hr hw hwB hb hlen hB
  obtain ⟨a, c, rfl, -, h3⟩ := GSExpr.opened hr
  obtain ⟨hl, hm, -⟩ := h3.lens
  have HS := Lib.hid h3
  have IH := Lib.hid ih
  have HW := Lib.hid hw
  have HB := Lib.hid hb
  have HLB := Lib.hid (builder_lt hb)
  have HL := Lib.hid hlen
  clear hr h3 ih hw hb hlen
  simp only [List.cons_append, List.nil_append] at *
  have hB1 : B ≤ (w.alloc (.cells #[.string v0, .slice a xs.length c] 73)).heap.size := by simp; omega
  have HB1 := Lib.hid (builder_ext HB.out (.alloc (.refl w) (.cells #[.string v0, .slice a xs.length c] 73)))
  have hx1 : Ext w (w.alloc (.cells #[.string v0, .slice a xs.length c] 73)) := .alloc (.refl w) _
  have HX1 := Lib.hid hx1
  have HO1 := Lib.hid (OB.new w 73 #[.string v0, .slice a xs.length c])
  clear hx1
  go_enter Try.func77, Try.ntmps77
  go_wp2_with fail
  · have hh : (!v0.toList.isEmpty) = true := by assumption
    have hne := str_ne (v := v0) (by simpa using hh)
    have htx : GSExpr.txt (.mk v0 xs) = v0.data.toList := by rw [GSExpr.txt, if_neg hne]
    rw [htx] at HL
    have HTX := Lib.hid htx
    clear htx
    refine (wr_str v0 HB1.out HL.out hB1).mono ?_; rintro e w1 ⟨⟨v, rfl⟩, h1⟩
    have H1 := Lib.hid (WrP.pre HX1.out hB h1)
    clear h1
    go_wp2_with fail
    (try simp only [Exit.inBlock, Exit.then])
    refine bodyPost_ret (results_none rfl _ _ _) rfl ?_
    rw [HTX.out]
    exact ⟨rfl, H1.out⟩
  · have hh : (!v0.toList.isEmpty) = false := by assumption
    have he := str_eq (v := v0) (by simpa using hh)
    have htx : GSExpr.txt (.mk v0 xs) = 40 :: (GSExpr.txts true xs ++ [41]) := by rw [GSExpr.txt, if_pos he]
    rw [htx] at HL
    have HTX := Lib.hid htx
    clear htx
    have hlen := HL.out
    simp only [List.length_append, List.length_cons, List.length_nil] at hlen
    refine (wr_byte 40 HB1.out (by omega) hB1).mono ?_; rintro e w1 ⟨rfl, h1⟩
    have hb1 := kept_ob h1.kept HO1.out (by have := HLB.out; omega) (by decide)
    have hce := hb1.cell
    have H1 := Lib.hid (WrP.pre HX1.out hB h1)
    have hz1 := H1.out.size
    clear h1 hb1
    go_wp2_with fail
    go_loopw [18] (fun i wr => ∃ (k : Nat) (lk : List UInt8), k ≤ xs.length ∧ i = .int .i64 k ∧ Hid (WrP B b lk w wr) ∧ Hid (lk ++ (GSExpr.txts (k == 0) (xs.drop k) ++ [41]) = l ++ 40 :: (GSExpr.txts true xs ++ [41]))) (fun i _ => xs.length - (intOf i).toNat)
    case atStart =>
      refine ⟨0, l ++ [40], Nat.zero_le _, rfl, H1.out, ?_⟩
      show _ = _
      simp
    case round =>
      obtain ⟨k, lk, hk, rfl, HK, HE⟩ := hrel
      have hwr := Ext.wr HW.out HK.out hwB
      have hzr := HK.out.size
      by_cases hlt : k < xs.length
      · obtain ⟨bb, off, cs, rfl, hbb, hcs, hc⟩ := HS.out.at2 (k := k) (GSExpr.trs_get hlt)
        have HM := Lib.hid (List.getElem_mem hlt)
        have HCS := Lib.hid hcs
        have HC := Lib.hid (cells_ext hwr hbb hc)
        have HI3 : Hid ((Try.prog.info? 73).map (·.size) = some cs.length) := by rw [← hcs.length, GSExpr.tr_len]; exact isz73
        have HCL : Hid (cs.length = 2) := by rw [← hcs.length, GSExpr.tr_len]; rfl
        have HWR := Lib.hid hwr
        clear hcs hc hwr
        go_wp2_with (first
          | (refine wpList_load_rep rfl 73 (.tmp 21) rfl bb (off + k * 2) rfl cs _ Try.underlying73 HI3.out HC.out ?_)
          | (refine wpList_store_rep rfl 73 (.tmp 5) (.tmp 22) rfl wr.heap.size 0 rfl cs rfl 73 _ (OB.new wr _ _) HI3.out (by rw [HCL.out]; exact Nat.le_refl _) HCS.out.one ?_; intro wb hob hgb hzb; rw [splice_whole (by rw [HCL.out]; rfl)] at hob; have HOB := Lib.hid hob; have HXB := Lib.hid (grown_ext (.alloc (.refl wr) _) hgb (Nat.le_refl _)); clear hob hgb hzb)
          | (refine wpList_load_rep rfl 73 (.tmp 5) rfl wr.heap.size 0 rfl cs _ Try.underlying73 HI3.out HOB.out.cells0 ?_))
        · have h0 : 0 < k := by omega
          have hkf : (k == 0) = false := by simp; omega
          have he := HE.out
          rw [GSExpr.txts_step _ hlt, hkf] at he
          have HKB := Lib.hid (WrP.ext HK.out HXB.out (by omega))
          have hzb := HXB.out.size
          have hle := congrArg List.length he
          simp only [List.length_append, List.length_cons, List.length_nil, Bool.false_eq_true, if_false] at hle
          refine (wr_byte 32 HKB.out.bld (by omega) (by omega)).mono ?_; rintro e w2 ⟨rfl, h2⟩
          have HO2 := Lib.hid (kept_ob h2.kept HOB.out (by have := HLB.out; omega) (by decide))
          have hz2 := h2.size
          have H2 := Lib.hid (WrP.trans HKB.out h2)
          have HW2 := Lib.hid (Ext.wr (HWR.out.trans HXB.out) h2 hwB)
          have HEE := Lib.hid he
          clear h2 he
          go_wp2_with (refine wpList_load_rep rfl 73 (.tmp 5) rfl wr.heap.size 0 rfl cs _ Try.underlying73 HI3.out HO2.out.cells0 ?_)
          refine (IH.out _ HM.out (lk ++ [32]) B b cs w0 w2 HCS.out HW2.out hwB H2.out.bld (by simp only [List.length_append, List.length_cons, List.length_nil]; omega) (by omega)).mono ?_; rintro e w3 ⟨rfl, h3⟩
          have H3 := Lib.hid (WrP.trans H2.out h3)
          clear h3
          go_wp2_with fail
          go_roundw
          case rel =>
            refine ⟨k + 1, _, by omega, by go_num, H3.out, ?_⟩
            show _ = _
            rw [← HEE.out]
            simp
          case measure => simp [intOf]; omega
        · have h0 : k = 0 := by omega
          subst h0
          have he := HE.out
          rw [GSExpr.txts_step _ hlt] at he
          have HKB := Lib.hid (WrP.ext HK.out HXB.out (by omega))
          have hzb := HXB.out.size
          have hle := congrArg List.length he
          simp only [List.length_append, List.length_cons, List.length_nil, BEq.rfl, if_true] at hle
          have HW2 := Lib.hid (HWR.out.trans HXB.out)
          have HEE := Lib.hid he
          clear he
          refine (IH.out _ HM.out lk B b cs w0 _ HCS.out HW2.out hwB HKB.out.bld (by simp only [List.length_append, List.length_cons, List.length_nil]; omega) (by omega)).mono ?_; rintro e w3 ⟨rfl, h3⟩
          have H3 := Lib.hid (WrP.trans HKB.out h3)
          clear h3
          go_wp2_with fail
          go_roundw
          case rel =>
            refine ⟨0 + 1, _, by omega, by go_num, H3.out, ?_⟩
            show _ = _
            rw [← HEE.out]
            simp
          case measure => simp [intOf]; omega
      · have hkl : k = xs.length := by omega
        have he := HE.out
        rw [hkl, List.drop_length] at he
        have htn : ∀ z, GSExpr.txts z [] = [] := fun z => by rw [GSExpr.txts]
        rw [htn] at he
        have hle := congrArg List.length he
        simp only [List.length_append, List.length_cons, List.length_nil] at hle
        have HEE := Lib.hid he
        clear he
        go_wp2_with fail
        refine (wr_byte 41 HK.out.bld (by omega) (by omega)).mono ?_; rintro e w2 ⟨rfl, h2⟩
        have H2 := Lib.hid (WrP.trans HK.out h2)
        clear h2
        go_wp2_with fail
        go_end0
        rw [HTX.out, ← HEE.out]
        exact ⟨rfl, H2.out⟩
end Go.Proofs.Ytmpepccpnnldoaa

namespace Go.Proofs.Ytmpepccpnnldoaa
set_option linter.unusedSimpArgs false
set_option linter.unusedVariables false
open Go.RowKit

/-- Abstract values. -/
inductive PV where
  | t (t : Tr)
  | agg (cs : List PV)
  | tup (vs : List PV)
  | nil
  | acc (sz : Nat) (es : List (List Tr)) (r : Nat)
  | ptr (k off : Nat)
  | eptr (cs : List Tr)
  | fn (f : FuncId) (caps : List PV)
  | full (sz n r : Nat)
  | rptr (r i : Nat)
  | lit (sz : Nat) (es : List (List Tr))
  | bsl (k n : Nat)
  | gsl (k n : Nat)

structure PBox where
  ty : TypeId
  cells : List PV
structure PRow where
  E : TypeId
  sz : Nat
  es : List (List Tr)
  whole : Bool
structure Sto where
  boxes : List (Option PBox)
  rows : List PRow
structure Lay where
  ρ : Nat → Nat
  γ : Nat → Option (Nat × Nat)

/-- No box lies at this place, and no row may still grow there. -/
def Sto.ok (st : Sto) (m : Lay) (b o : Nat) : Prop :=
  (∀ k x, st.boxes[k]? = some (some x) → m.ρ k ≠ b) ∧ (∀ r row g c, st.rows[r]? = some row → m.γ r = some (g, c) → g = b → o < row.es.length * row.sz)
/-- A block of ours begins with these values. -/
def OBp (w : World) (b : Nat) (T : TypeId) (vs : List Value) : Prop := ∃ rest : List Value, OB w b T ⟨vs ++ rest⟩
theorem OBp.of {w : World} {b : Nat} {T : TypeId} {vs : List Value} (h : OB w b T ⟨vs⟩) : OBp w b T vs := ⟨[], by rw [List.append_nil]; exact h⟩
theorem OBp.lt {w : World} {b : Nat} {T : TypeId} {vs : List Value} (h : OBp w b T vs) : b < w.heap.size := by
  obtain ⟨_, h⟩ := h
  exact h.lt
theorem OBp.keep {w w' : World} {b : Nat} {T : TypeId} {vs : List Value} (h : OBp w b T vs) (k : w'.heap[b]? = w.heap[b]?) : OBp w' b T vs := by
  obtain ⟨r, h⟩ := h
  exact ⟨r, k.trans h⟩
theorem OBp.ext {w w' : World} {b : Nat} {T : TypeId} {vs : List Value} (h : OBp w b T vs) (hx : Ext w w') : OBp w' b T vs := h.keep (hx.block _ h.lt)
theorem OBp.cell {w : World} {b : Nat} {T : TypeId} {vs : List Value} (h : OBp w b T vs) {j : Nat} {v : Value} (hj : vs[j]? = some v) : w.cell? ⟨b, j, none⟩ = some v := by
  obtain ⟨r, h⟩ := h
  rw [h.cell]
  have := (List.getElem?_eq_some_iff.1 hj).1
  simp only [List.getElem?_toArray]
  rw [List.getElem?_append_left this]
  exact hj
def okA (av : Nat → Nat → Prop) (st : Sto) (m : Lay) (b o : Nat) : Prop := ¬ av b o ∧ st.ok m b o

inductive RepM (ok : Nat → Nat → Prop) (w : World) : Tr → Value → Prop
  | leaf {v : Value} : LeafOk v → RepM ok w (.leaf v) v
  | row {sz : Nat} {es : List (List Tr)} {a : Option Addr} {cap : Nat} (c : Nat → Nat → Value) : es.length ≤ cap → cap ≤ maxLen →
      (es ≠ [] → ∃ b off, a = some ⟨b, off, none⟩ ∧ b < w.heap.size ∧ ∀ i e, es[i]? = some e → ∀ j d, e[j]? = some d → ok b (off + i * sz + j) ∧ w.cell? ⟨b, off + i * sz + j, none⟩ = some (c i j)) →
      (∀ i e, es[i]? = some e → ∀ j d, e[j]? = some d → RepM ok w d (c i j)) → RepM ok w (.row sz es) (.slice a es.length cap)

theorem RepM.mono {ok ok' : Nat → Nat → Prop} {w w' : World} {t : Tr} {v : Value} (h : RepM ok w t v) (hz : w.heap.size ≤ w'.heap.size) (hk : ∀ b o, b < w.heap.size → ok b o → ok' b o)
    (hc : ∀ b o, b < w.heap.size → ok b o → w'.cell? ⟨b, o, none⟩ = w.cell? ⟨b, o, none⟩) : RepM ok' w' t v := by
  induction h with
  | leaf h => exact .leaf h
  | row c h1 h2 h3 _ ih =>
    refine .row c h1 h2 (fun hne => ?_) ih
    obtain ⟨b, off, ha, hb, h4⟩ := h3 hne
    exact ⟨b, off, ha, Nat.lt_of_lt_of_le hb hz, fun i e he j d hd => ⟨hk _ _ hb (h4 i e he j d hd).1, (hc _ _ hb (h4 i e he j d hd).1).trans (h4 i e he j d hd).2⟩⟩
theorem RepM.rep {ok : Nat → Nat → Prop} {w : World} {t : Tr} {v : Value} (h : RepM ok w t v) : Rep w t v := by
  induction h with
  | leaf h => exact .leaf h
  | row c h1 h2 h3 _ ih =>
    refine .row c h1 h2 (fun hne => ?_) ih
    obtain ⟨b, off, ha, hb, h4⟩ := h3 hne
    exact ⟨b, off, ha, hb, fun i e he j d hd => (h4 i e he j d hd).2⟩
theorem Rep.repM {ok : Nat → Nat → Prop} {w : World} {t : Tr} {v : Value} (h : Rep w t v) (hk : ∀ b o, b < w.heap.size → ok b o) : RepM ok w t v := by
  induction h with
  | leaf h => exact .leaf h
  | row c h1 h2 h3 _ ih =>
    refine .row c h1 h2 (fun hne => ?_) ih
    obtain ⟨b, off, ha, hb, h4⟩ := h3 hne
    exact ⟨b, off, ha, hb, fun i e he j d hd => ⟨hk _ _ hb, h4 i e he j d hd⟩⟩
theorem RepM.shape {ok : Nat → Nat → Prop} {w : World} {sz : Nat} {es : List (List Tr)} {v : Value} (h : RepM ok w (.row sz es) v) : ∃ a cap, v = .slice a es.length cap ∧ es.length ≤ cap ∧ cap ≤ maxLen := h.rep.shape
theorem RepM.leaf_eq {ok : Nat → Nat → Prop} {w : World} {v u : Value} (h : RepM ok w (.leaf v) u) : u = v ∧ LeafOk v := h.rep.leaf_eq

def rowVal : Option (Nat × Nat) → Nat → Value
  | none, _ => .slice none 0 0
  | some (g, c), n => .slice (some ⟨g, 0, none⟩) n c

mutual
/-- The value stands for the abstract value. -/
def RV (ok : Nat → Nat → Prop) (st : Sto) (m : Lay) (w : World) : PV → Value → Prop
  | .t t, v => RepM ok w t v
  | .agg cs, v => ∃ vs, v = .agg ⟨vs⟩ ∧ RVL ok st m w cs vs
  | .tup cs, v => ∃ vs, v = .tuple ⟨vs⟩ ∧ RVL ok st m w cs vs
  | .nil, v => v = .slice none 0 0
  | .acc sz es r, v => ∃ row, st.rows[r]? = some row ∧ row.sz = sz ∧ es.length ≤ row.es.length ∧ RepM ok w (.row sz es) v ∧ (es.length = row.es.length → v = rowVal (m.γ r) es.length)
  | .ptr k off, v => (∃ x, st.boxes[k]? = some (some x)) ∧ v = .pointer (some ⟨m.ρ k, off, none⟩)
  | .eptr cs, v => ∃ b off, v = .pointer (some ⟨b, off, none⟩) ∧ b < w.heap.size ∧ ∃ c : Nat → Value, ∀ j d, cs[j]? = some d → ok b (off + j) ∧ w.cell? ⟨b, off + j, none⟩ = some (c j) ∧ RepM ok w d (c j)
  | .fn f caps, v => ∃ vs, v = .func (.func f) #[] ⟨vs⟩ ∧ RVL ok st m w caps vs
  | .full sz n r, v => ∃ row g, st.rows[r]? = some row ∧ row.sz = sz ∧ row.whole = true ∧ m.γ r = some (g, n) ∧ v = .slice (some ⟨g, 0, none⟩) n n
  | .rptr r i, v => ∃ row g n, st.rows[r]? = some row ∧ row.whole = true ∧ m.γ r = some (g, n) ∧ v = .pointer (some ⟨g, i * row.sz, none⟩)
  | .lit sz es, v => RepM ok w (.row sz es) v ∧ ∃ a, v = .slice a es.length es.length
  | .bsl k n, v => (∃ x, st.boxes[k]? = some (some x)) ∧ v = .slice (some ⟨m.ρ k, 0, none⟩) n n
  | .gsl k n, v => (∃ x, st.boxes[k]? = some (some x)) ∧ ∃ c, n ≤ c ∧ c ≤ maxLen ∧ v = .slice (some ⟨m.ρ k, 0, none⟩) n c
def RVL (ok : Nat → Nat → Prop) (st : Sto) (m : Lay) (w : World) : List PV → List Value → Prop
  | [], [] => True
  | p :: ps, v :: vs => RV ok st m w p v ∧ RVL ok st m w ps vs
  | _, _ => False
end

def RowOk (ok : Nat → Nat → Prop) (m : Lay) (w : World) (r : Nat) (row : PRow) : Prop :=
  0 < row.sz ∧ (∀ e ∈ row.es, e.length = row.sz) ∧ ((m.γ r = none ∧ row.es = []) ∨ ∃ g c cur, m.γ r = some (g, c) ∧ OB w g row.E cur ∧ cur.size = c * row.sz ∧ row.es.length ≤ c ∧ c ≤ maxLen ∧ RepM ok w (.row row.sz row.es) (.slice (some ⟨g, 0, none⟩) row.es.length c))

structure StoOk (av : Nat → Nat → Prop) (st : Sto) (m : Lay) (w : World) : Prop where
  box : ∀ k x, st.boxes[k]? = some (some x) → ∃ vs, OBp w (m.ρ k) x.ty vs ∧ RVL (okA av st m) st m w x.cells vs
  binj : ∀ k k' x x', st.boxes[k]? = some (some x) → st.boxes[k']? = some (some x') → k ≠ k' → m.ρ k ≠ m.ρ k'
  row : ∀ r row, st.rows[r]? = some row → RowOk (okA av st m) m w r row
  rinj : ∀ r r' row row' g c c', st.rows[r]? = some row → st.rows[r']? = some row' → m.γ r = some (g, c) → m.γ r' = some (g, c') → r = r'
  br : ∀ k x r row g c, st.boxes[k]? = some (some x) → st.rows[r]? = some row → m.γ r = some (g, c) → m.ρ k ≠ g
  avlt : ∀ b o, av b o → b < w.heap.size
  avr : ∀ r row g c, st.rows[r]? = some row → m.γ r = some (g, c) → ∀ o, ¬ av g o
  avb : ∀ k x, st.boxes[k]? = some (some x) → ∀ o, ¬ av (m.ρ k) o

/-- What a run may have changed. -/
structure Ev (st : Sto) (m : Lay) (w : World) (st' : Sto) (m' : Lay) (w' : World) : Prop where
  os : w'.os = w.os
  tape : w'.tape = w.tape
  output : w'.output = w.output
  size : w.heap.size ≤ w'.heap.size
  blk : ∀ b, b < w.heap.size → (∀ k x, st.boxes[k]? = some (some x) → m.ρ k ≠ b) → (∀ r row g c, st.rows[r]? = some row → m.γ r = some (g, c) → g ≠ b) → w'.heap[b]? = w.heap[b]?
  cell : ∀ b o, b < w.heap.size → st.ok m b o → w'.cell? ⟨b, o, none⟩ = w.cell? ⟨b, o, none⟩
  okk : ∀ b o, b < w.heap.size → st.ok m b o → st'.ok m' b o
  live : ∀ k x, st.boxes[k]? = some (some x) → (∃ x', st'.boxes[k]? = some (some x')) ∧ m'.ρ k = m.ρ k
  fresh : ∀ k x', st'.boxes[k]? = some (some x') → (∃ x, st.boxes[k]? = some (some x)) ∨ w.heap.size ≤ m'.ρ k
  rowl : ∀ r row, st.rows[r]? = some row → ∃ row', st'.rows[r]? = some row' ∧ row'.sz = row.sz ∧ row.es.length ≤ row'.es.length ∧ (row.es.length = row'.es.length → m'.γ r = m.γ r) ∧ (row.whole = true → row'.whole = true ∧ m'.γ r = m.γ r)
  rfresh : ∀ r row' g c, st'.rows[r]? = some row' → m'.γ r = some (g, c) → (∃ row c0, st.rows[r]? = some row ∧ m.γ r = some (g, c0)) ∨ w.heap.size ≤ g

theorem Ev.refl (st : Sto) (m : Lay) (w : World) : Ev st m w st m w :=
  ⟨rfl, rfl, rfl, Nat.le_refl _, fun _ _ _ _ => rfl, fun _ _ _ _ => rfl, fun _ _ _ h => h, fun _ x h => ⟨⟨x, h⟩, rfl⟩, fun _ x h => .inl ⟨x, h⟩, fun _ row h => ⟨row, h, rfl, Nat.le_refl _, fun _ => rfl, fun h => ⟨h, rfl⟩⟩, fun _ row _ c h h' => .inl ⟨row, c, h, h'⟩⟩

theorem Ev.trans {st st1 st2 : Sto} {m m1 m2 : Lay} {w w1 w2 : World} (h : Ev st m w st1 m1 w1) (k : Ev st1 m1 w1 st2 m2 w2) : Ev st m w st2 m2 w2 where
  os := k.os.trans h.os
  tape := k.tape.trans h.tape
  output := k.output.trans h.output
  size := Nat.le_trans h.size k.size
  blk := fun b hb h1 h2 => (k.blk b (Nat.lt_of_lt_of_le hb h.size) (fun i x' hx' => by
      rcases h.fresh i x' hx' with ⟨x, hx⟩ | hf
      · rw [(h.live i x hx).2]; exact h1 i x hx
      · omega) (fun r row' g c hr hg => by
      rcases h.rfresh r row' g c hr hg with ⟨row, c0, hr0, hg0⟩ | hf
      · exact h2 r row g c0 hr0 hg0
      · omega)).trans (h.blk b hb h1 h2)
  cell := fun b o hb hk => (k.cell b o (Nat.lt_of_lt_of_le hb h.size) (h.okk b o hb hk)).trans (h.cell b o hb hk)
  okk := fun b o hb hk => k.okk b o (Nat.lt_of_lt_of_le hb h.size) (h.okk b o hb hk)
  live := fun i x hx => by
    obtain ⟨⟨x1, hx1⟩, e1⟩ := h.live i x hx
    obtain ⟨hx2, e2⟩ := k.live i x1 hx1
    exact ⟨hx2, e2.trans e1⟩
  fresh := fun i x' hx' => by
    rcases k.fresh i x' hx' with ⟨x1, hx1⟩ | hf
    · rcases h.fresh i x1 hx1 with hx | hf
      · exact .inl hx
      · exact .inr (by rw [(k.live i x1 hx1).2]; exact hf)
    · exact .inr (Nat.le_trans h.size hf)
  rowl := fun r row hr => by
    obtain ⟨row1, hr1, s1, l1, g1, f1⟩ := h.rowl r row hr
    obtain ⟨row2, hr2, s2, l2, g2, f2⟩ := k.rowl r row1 hr1
    refine ⟨row2, hr2, s2.trans s1, Nat.le_trans l1 l2, fun he => ?_, fun hf => ?_⟩
    · rw [g2 (by omega), g1 (by omega)]
    · obtain ⟨a1, a2⟩ := f1 hf
      obtain ⟨b1, b2⟩ := f2 a1
      exact ⟨b1, b2.trans a2⟩
  rfresh := fun r row' g c hr hg => by
    rcases k.rfresh r row' g c hr hg with ⟨row1, c1, hr1, hg1⟩ | hf
    · exact h.rfresh r row1 g c1 hr1 hg1
    · exact .inr (Nat.le_trans h.size hf)

mutual
theorem RV.mono {av : Nat → Nat → Prop} {st st' : Sto} {m m' : Lay} {w w' : World} (h : Ev st m w st' m' w') : ∀ (p : PV) (v : Value), RV (okA av st m) st m w p v → RV (okA av st' m') st' m' w' p v
  | .t t, v, hr => RepM.mono hr h.size (fun b o hb hk => ⟨hk.1, h.okk b o hb hk.2⟩) (fun b o hb hk => h.cell b o hb hk.2)
  | .agg cs, v, hr => by
    obtain ⟨vs, rfl, hl⟩ := hr
    exact ⟨vs, rfl, RVL.mono h cs vs hl⟩
  | .tup cs, v, hr => by
    obtain ⟨vs, rfl, hl⟩ := hr
    exact ⟨vs, rfl, RVL.mono h cs vs hl⟩
  | .nil, v, hr => hr
  | .acc sz es r, v, hr => by
    obtain ⟨row, h1, h2, h3, h4, h5⟩ := hr
    obtain ⟨row', k1, k2, k3, k4, -⟩ := h.rowl r row h1
    exact ⟨row', k1, k2.trans h2, Nat.le_trans h3 k3, RepM.mono h4 h.size (fun b o hb hk => ⟨hk.1, h.okk b o hb hk.2⟩) (fun b o hb hk => h.cell b o hb hk.2), fun he => by rw [k4 (by omega)]; exact h5 (by omega)⟩
  | .ptr k off, v, hr => by
    obtain ⟨⟨x, hx⟩, hv⟩ := hr
    obtain ⟨h1, h2⟩ := h.live k x hx
    exact ⟨h1, by rw [h2]; exact hv⟩
  | .eptr cs, v, hr => by
    obtain ⟨b, off, h1, hb, c, h2⟩ := hr
    refine ⟨b, off, h1, Nat.lt_of_lt_of_le hb h.size, c, fun j d hd => ?_⟩
    obtain ⟨k1, k2, k3⟩ := h2 j d hd
    exact ⟨⟨k1.1, h.okk _ _ hb k1.2⟩, (h.cell _ _ hb k1.2).trans k2, RepM.mono k3 h.size (fun b o hb hk => ⟨hk.1, h.okk b o hb hk.2⟩) (fun b o hb hk => h.cell b o hb hk.2)⟩
  | .fn f caps, v, hr => by
    obtain ⟨vs, rfl, hl⟩ := hr
    exact ⟨vs, rfl, RVL.mono h caps vs hl⟩
  | .full sz n r, v, hr => by
    obtain ⟨row, g, h1, h2, h3, h4, h5⟩ := hr
    obtain ⟨row', k1, k2, -, -, k5⟩ := h.rowl r row h1
    exact ⟨row', g, k1, k2.trans h2, (k5 h3).1, by rw [(k5 h3).2]; exact h4, h5⟩
  | .rptr r i, v, hr => by
    obtain ⟨row, g, n, h1, h3, h4, h5⟩ := hr
    obtain ⟨row', k1, k2, -, -, k5⟩ := h.rowl r row h1
    exact ⟨row', g, n, k1, (k5 h3).1, by rw [(k5 h3).2]; exact h4, by rw [k2]; exact h5⟩
  | .lit sz es, v, hr => ⟨RepM.mono hr.1 h.size (fun b o hb hk => ⟨hk.1, h.okk b o hb hk.2⟩) (fun b o hb hk => h.cell b o hb hk.2), hr.2⟩
  | .bsl k n, v, hr => by
    obtain ⟨⟨x, hx⟩, hv⟩ := hr
    obtain ⟨h1, h2⟩ := h.live k x hx
    exact ⟨h1, by rw [h2]; exact hv⟩
  | .gsl k n, v, hr => by
    obtain ⟨⟨x, hx⟩, c, hc, hm, hv⟩ := hr
    obtain ⟨h1, h2⟩ := h.live k x hx
    exact ⟨h1, c, hc, hm, by rw [h2]; exact hv⟩
theorem RVL.mono {av : Nat → Nat → Prop} {st st' : Sto} {m m' : Lay} {w w' : World} (h : Ev st m w st' m' w') : ∀ (ps : List PV) (vs : List Value), RVL (okA av st m) st m w ps vs → RVL (okA av st' m') st' m' w' ps vs
  | [], [], hr => hr
  | p :: ps, v :: vs, hr => ⟨RV.mono h p v hr.1, RVL.mono h ps vs hr.2⟩
  | [], _ :: _, hr => hr.elim
  | _ :: _, [], hr => hr.elim
end

theorem RVL.length {ok : Nat → Nat → Prop} {st : Sto} {m : Lay} {w : World} : ∀ {ps : List PV} {vs : List Value}, RVL ok st m w ps vs → ps.length = vs.length
  | [], [], _ => rfl
  | _ :: _, _ :: _, h => by simp [RVL.length h.2]
  | [], _ :: _, h => h.elim
  | _ :: _, [], h => h.elim
theorem RVL.get {ok : Nat → Nat → Prop} {st : Sto} {m : Lay} {w : World} : ∀ {ps : List PV} {vs : List Value} {j : Nat} {p : PV}, RVL ok st m w ps vs → ps[j]? = some p → ∃ v, vs[j]? = some v ∧ RV ok st m w p v
  | [], [], _, _, _, hp => by simp at hp
  | p :: ps, v :: vs, 0, q, h, hp => by simp at hp; subst hp; exact ⟨v, rfl, h.1⟩
  | p :: ps, v :: vs, j + 1, q, h, hp => by simpa using RVL.get (j := j) h.2 (by simpa using hp)
  | [], _ :: _, _, _, h, _ => h.elim
  | _ :: _, [], _, _, h, _ => h.elim
theorem RVL.take {ok : Nat → Nat → Prop} {st : Sto} {m : Lay} {w : World} : ∀ {ps : List PV} {vs : List Value} (n : Nat), RVL ok st m w ps vs → RVL ok st m w (ps.take n) (vs.take n)
  | [], [], n, _ => by simp [RVL]
  | p :: ps, v :: vs, 0, _ => by simp [RVL]
  | p :: ps, v :: vs, n + 1, h => ⟨h.1, RVL.take n h.2⟩
  | [], _ :: _, _, h => h.elim
  | _ :: _, [], _, h => h.elim
theorem RVL.drop {ok : Nat → Nat → Prop} {st : Sto} {m : Lay} {w : World} : ∀ {ps : List PV} {vs : List Value} (n : Nat), RVL ok st m w ps vs → RVL ok st m w (ps.drop n) (vs.drop n)
  | [], [], n, _ => by simp [RVL]
  | p :: ps, v :: vs, 0, h => h
  | p :: ps, v :: vs, n + 1, h => RVL.drop (ps := ps) (vs := vs) n h.2
  | [], _ :: _, _, h => h.elim
  | _ :: _, [], _, h => h.elim
theorem RVL.append {ok : Nat → Nat → Prop} {st : Sto} {m : Lay} {w : World} : ∀ {ps qs : List PV} {vs us : List Value}, RVL ok st m w ps vs → RVL ok st m w qs us → RVL ok st m w (ps ++ qs) (vs ++ us)
  | [], _, [], _, _, k => k
  | p :: ps, _, v :: vs, _, h, k => ⟨h.1, RVL.append h.2 k⟩
  | [], _, _ :: _, _, h, _ => h.elim
  | _ :: _, _, [], _, h, _ => h.elim

theorem RVL.ofTr {ok : Nat → Nat → Prop} {st : Sto} {m : Lay} {w : World} : ∀ {ts : List Tr} {vs : List Value}, RVL ok st m w (ts.map PV.t) vs → RepL w ts vs
  | [], [], _ => trivial
  | _ :: _, _ :: _, h => ⟨RepM.rep h.1, RVL.ofTr h.2⟩
  | [], _ :: _, h => h.elim
  | _ :: _, [], h => h.elim
theorem RepL.toRVL {ok : Nat → Nat → Prop} {st : Sto} {m : Lay} {w : World} (hk : ∀ b o, b < w.heap.size → ok b o) : ∀ {ts : List Tr} {vs : List Value}, RepL w ts vs → RVL ok st m w (ts.map PV.t) vs
  | [], [], _ => trivial
  | _ :: _, _ :: _, h => ⟨h.1.repM hk, RepL.toRVL hk h.2⟩
  | [], _ :: _, h => h.elim
  | _ :: _, [], h => h.elim

end Go.Proofs.Ytmpepccpnnldoaa

namespace Go.Proofs.Ytmpepccpnnldoaa
set_option linter.unusedSimpArgs false
set_option linter.unusedVariables false
open Go.RowKit

structure AS where
  env : List (Nat × PV)
  st : Sto
def AS.lk (s : AS) (i : Nat) : Option PV := s.env.lookup i
def AS.put (s : AS) (d : Nat) (p : PV) : AS := ⟨(d, p) :: s.env, s.st⟩
def AS.putO (s : AS) : Option Nat → PV → AS
  | none, _ => s
  | some d, p => s.put d p
def AS.delO (s : AS) : Option Nat → AS
  | none => s
  | some d => ⟨s.env.filter (fun x => x.1 != d), s.st⟩
def constPV : Value → Option PV
  | .int k n => if (Lit.int k n).wf then some (.t (.leaf (.int k n))) else none
  | .bool b => some (.t (.leaf (.bool b)))
  | .string s => if s.size ≤ maxLen then some (.t (.leaf (.string s))) else none
  | .slice none 0 0 => some .nil
  | _ => none
def AS.ev (s : AS) : Operand → Option PV
  | .tmp i => s.lk i
  | .const v => constPV v
  | .global _ => none
  | .func f => some (.fn f [])

/-- What stood at the entry. -/
structure Ctx where
  av : Nat → Nat → Prop
  st : Sto
  m : Lay
  w : World

structure RA (C : Ctx) (n : Nat) (s : AS) (m : Lay) (a : Act) (w : World) : Prop where
  dfr : a.defers = []
  tsz : a.tmps.size = n
  sto : StoOk C.av s.st m w
  env : ∀ i p, s.lk i = some p → ∃ v, a.tmps[i]? = some v ∧ RV (okA C.av s.st m) s.st m w p v
  ev : Ev C.st C.m C.w s.st m w

theorem constPV_rv {ok : Nat → Nat → Prop} {st : Sto} {m : Lay} {w : World} {v : Value} {p : PV} (h : constPV v = some p) : RV ok st m w p v := by
  unfold constPV at h
  split at h
  · split at h
    · rename_i hw
      cases h
      exact RepM.leaf hw
    · cases h
  · cases h
    exact RepM.leaf trivial
  · split at h
    · rename_i hw
      cases h
      exact RepM.leaf hw
    · cases h
  · cases h
    rfl
  · cases h

section
variable {C : Ctx} {n : Nat} {s : AS} {m : Lay} {a : Act} {w : World}

theorem RA.eval (h : RA C n s m a w) {x : Operand} {p : PV} (hx : s.ev x = some p) : RV (okA C.av s.st m) s.st m w p (a.eval x) := by
  cases x with
  | tmp i =>
    obtain ⟨v, hv, hr⟩ := h.env i p hx
    simpa [Act.eval, Array.getD_eq_getD_getElem?, hv] using hr
  | const v => exact constPV_rv hx
  | global g => cases hx
  | func f =>
    cases hx
    exact ⟨[], rfl, trivial⟩

theorem AS.lk_put (s : AS) (d i : Nat) (p : PV) : (s.put d p).lk i = if i = d then some p else s.lk i := by
  unfold AS.lk AS.put
  rw [List.lookup_cons]
  by_cases h : i = d
  · simp [h]
  · rw [if_neg h, show (i == d) = false by simp [h]]

theorem RA.put (h : RA C n s m a w) {d : Option Nat} {p : PV} {v : Value} (hd : ∀ x, d = some x → x < n) (hr : RV (okA C.av s.st m) s.st m w p v) : RA C n (s.putO d p) m (a.put d v) w := by
  cases d with
  | none => exact h
  | some d =>
    refine ⟨h.dfr, by simp [Act.put, h.tsz], h.sto, fun i q hq => ?_, h.ev⟩
    have hq' : (s.put d p).lk i = some q := hq
    rw [AS.lk_put] at hq'
    have hdn := hd d rfl
    by_cases hi : i = d
    · rw [if_pos hi] at hq'
      cases hq'
      subst hi
      exact ⟨v, by simp [Act.put, h.tsz, hdn], hr⟩
    · rw [if_neg hi] at hq'
      obtain ⟨u, hu, hru⟩ := h.env i q hq'
      exact ⟨u, by simp only [Act.put]; rw [Array.getElem?_setIfInBounds_ne (fun e => hi e.symm)]; exact hu, hru⟩

theorem lookup_filter_ne {d i : Nat} {q : PV} : ∀ (l : List (Nat × PV)), (l.filter (fun x => x.1 != d)).lookup i = some q → i ≠ d ∧ l.lookup i = some q
  | [], h => by simp at h
  | (k, p) :: l, h => by
    by_cases hk : k = d
    · have h' : (l.filter (fun x => x.1 != d)).lookup i = some q := by simpa [List.filter_cons, hk] using h
      obtain ⟨h1, h2⟩ := lookup_filter_ne l h'
      refine ⟨h1, ?_⟩
      rw [List.lookup_cons, show (i == k) = false by simp [hk, h1]]
      exact h2
    · have h' : ((k, p) :: l.filter (fun x => x.1 != d)).lookup i = some q := by simpa [List.filter_cons, hk] using h
      rw [List.lookup_cons] at h' ⊢
      by_cases hik : i = k
      · subst hik
        simp only [BEq.rfl] at h' ⊢
        exact ⟨hk, h'⟩
      · rw [show (i == k) = false by simp [hik]] at h' ⊢
        exact lookup_filter_ne l h'

theorem RA.del (h : RA C n s m a w) (d : Option Nat) (v : Value) : RA C n (s.delO d) m (a.put d v) w := by
  cases d with
  | none => exact h
  | some d =>
    refine ⟨h.dfr, by simp [Act.put, h.tsz], h.sto, fun i q hq => ?_, h.ev⟩
    obtain ⟨h1, h2⟩ := lookup_filter_ne s.env hq
    obtain ⟨u, hu, hru⟩ := h.env i q h2
    exact ⟨u, by simp only [Act.put]; rw [Array.getElem?_setIfInBounds_ne (fun e => h1 e.symm)]; exact hu, hru⟩

theorem RA.step (h : RA C n s m a w) {st1 : Sto} {m1 : Lay} {w1 : World} (e : Ev s.st m w st1 m1 w1) (k : StoOk C.av st1 m1 w1) : RA C n ⟨s.env, st1⟩ m1 a w1 :=
  ⟨h.dfr, h.tsz, k, fun i p hp => by obtain ⟨v, hv, hr⟩ := h.env i p hp; exact ⟨v, hv, RV.mono e p v hr⟩, h.ev.trans e⟩
end

/-- A state that says less. -/
def Wk (C : Ctx) (n : Nat) (s s' : AS) : Prop := ∀ m a w, RA C n s m a w → ∃ m', RA C n s' m' a w
theorem Wk.refl (C : Ctx) (n : Nat) (s : AS) : Wk C n s s := fun m _ _ h => ⟨m, h⟩
theorem Wk.trans {C : Ctx} {n : Nat} {s s' s'' : AS} (h : Wk C n s s') (k : Wk C n s' s'') : Wk C n s s'' := fun m a w hr => by
  obtain ⟨m', h'⟩ := h m a w hr
  exact k m' a w h'

def AWP (P : Program) (C : Ctx) (n : Nat) (c : Code) (Q : Exit → AS → Prop) (s : AS) : Prop :=
  ∀ m a w, RA C n s m a w → c.wp P (fun e a' w' => ∃ s' m', Q e s' ∧ RA C n s' m' a' w') a w
def AL (P : Program) (C : Ctx) (n : Nat) (ops : Array Oper) (l : List Oper) (Q : Exit → AS → Prop) (s : AS) : Prop :=
  ∀ m a w, RA C n s m a w → wpList P ops (fun e a' w' => ∃ s' m', Q e s' ∧ RA C n s' m' a' w') l a w
def AOp (P : Program) (C : Ctx) (n : Nat) (o : Oper) (s s1 : AS) : Prop :=
  ∀ m a w, RA C n s m a w → ∀ (K : Act → World → Prop) (Q : Exit → Act → World → Prop), (∀ m' a' w', RA C n s1 m' a' w' → K a' w') → o.wp P a w K Q

abbrev thenA (next : AS → Prop) (Q : Exit → AS → Prop) : Exit → AS → Prop
  | .normal, s => next s
  | e, s => Q e s
abbrev inBlockA (id : Nat) (Q : Exit → AS → Prop) : Exit → AS → Prop
  | .exit id', s => if id' = id then Q .normal s else Q (.exit id') s
  | e, s => Q e s

section
variable {P : Program} {C : Ctx} {n : Nat} {s : AS} {Q : Exit → AS → Prop}

theorem AWP.weak {c : Code} {s' : AS} (hw : Wk C n s s') (h : AWP P C n c Q s') : AWP P C n c Q s := fun m a w hr => by
  obtain ⟨m', h'⟩ := hw m a w hr
  exact h m' a w h'
theorem AWP.mono {c : Code} {Q' : Exit → AS → Prop} (h : AWP P C n c Q s) (hq : ∀ e s', Q e s' → Q' e s') : AWP P C n c Q' s := fun m a w hr =>
  wp_mono (h m a w hr) fun e a' w' => by rintro ⟨s', m', h1, h2⟩; exact ⟨s', m', hq e s' h1, h2⟩

theorem AWP.skip (h : Q .normal s) : AWP P C n .skip Q s := fun m _ _ hr => wp_skip ⟨s, m, h, hr⟩
theorem AWP.exit {id : Nat} (h : Q (.exit id) s) : AWP P C n (.exit id) Q s := fun m _ _ hr => wp_exit ⟨s, m, h, hr⟩
theorem AWP.ret (h : Q .ret s) : AWP P C n .ret Q s := fun m _ _ hr => wp_ret ⟨s, m, h, hr⟩
theorem AWP.seq {x y : Code} (h : AWP P C n x (thenA (AWP P C n y Q) Q) s) : AWP P C n (.seq x y) Q s := fun m a w hr =>
  wp_seq (wp_mono (h m a w hr) fun e a' w' => by
    rintro ⟨s', m', h1, h2⟩
    cases e with
    | normal => exact h1 m' a' w' h2
    | _ => exact ⟨s', m', h1, h2⟩)
theorem AWP.block {id : Nat} {c : Code} (h : AWP P C n c (inBlockA id Q) s) : AWP P C n (.block id c) Q s := fun m a w hr =>
  wp_block (wp_mono (h m a w hr) fun e a' w' => by
    rintro ⟨s', m', h1, h2⟩
    cases e with
    | exit id' =>
      simp only [inBlockA] at h1
      simp only [Exit.inBlock]
      split <;> rename_i hid
      · rw [if_pos hid] at h1; exact ⟨s', m', h1, h2⟩
      · rw [if_neg hid] at h1; exact ⟨s', m', h1, h2⟩
    | _ => exact ⟨s', m', h1, h2⟩)
theorem AWP.cond {c : Operand} {x y : Code} {b : Bool} (hc : s.ev c = some (.t (.leaf (.bool b)))) (ht : b = true → AWP P C n x Q s) (hf : b = false → AWP P C n y Q s) : AWP P C n (.cond c x y) Q s := fun m a w hr => by
  have hv := (RepM.leaf_eq (hr.eval hc)).1
  exact wp_cond_split hv (fun h => ht h m a w hr) (fun h => hf h m a w hr)

theorem wp_loop_ix {c : Code} {R : Exit → Act → World → Prop} {ι : Type} (I : ι → Act → World → Prop) (μ : ι → Nat) (i0 : ι) {a : Act} {w : World} (h₀ : I i0 a w)
    (round : ∀ i a w, I i a w → c.wp P (Exit.then (fun a' w' => ∃ j, I j a' w' ∧ μ j < μ i) R) a w) : (Code.loop c).wp P R a w := by
  intro b k cs
  have key : ∀ n i a w, μ i = n → I i a w → ∃ e a' w', R e a' w' ∧ Arrives P (lone (b.at a (.code c :: .inLoop c :: k)) cs w) b k cs e a' w' := by
    intro n
    induction n using Nat.strongRecOn with
    | _ n ih =>
      intro i a w hn hI
      obtain ⟨e, a₁, w₁, hq, harr⟩ := round i a w hI b (.inLoop c :: k) cs
      cases e with
      | normal =>
        obtain ⟨j, hI₁, hlt⟩ := hq
        obtain ⟨e₂, a₂, w₂, hq₂, harr₂⟩ := ih (μ j) (hn ▸ hlt) j a₁ w₁ rfl hI₁
        exact ⟨e₂, a₂, w₂, hq₂, .of_steps (Steps.trans harr (.one step_inLoop)) harr₂⟩
      | exit id => exact ⟨_, a₁, w₁, hq, .pass (x := .inLoop c) rfl (fun _ _ => .inl (by simp)) harr⟩
      | goto l => exact ⟨_, a₁, w₁, hq, .pass (x := .inLoop c) rfl (fun _ _ => .inl (by simp)) harr⟩
      | ret => exact ⟨_, a₁, w₁, hq, .pass (x := .inLoop c) rfl (fun _ _ => .inl (by simp)) harr⟩
      | panic ch => exact ⟨_, a₁, w₁, hq, .pass (x := .inLoop c) rfl (fun _ _ => .inl (by simp)) harr⟩
      | outgrown => exact ⟨_, a₁, w₁, hq, .pass (x := .inLoop c) rfl (fun _ _ => .inl (by simp)) harr⟩
  obtain ⟨e, a', w', hq, harr⟩ := key _ i0 a w rfl h₀
  exact ⟨e, a', w', hq, .of_steps (.one step_loop) harr⟩

/-- A loop: at its head the state is 'I i' for some i. -/
theorem AWP.loop {c : Code} {ι : Type} (I : ι → AS) (μ : ι → Nat) (i0 : ι) (h0 : Wk C n s (I i0)) (round : ∀ i, AWP P C n c (thenA (fun s' => ∃ j, Wk C n s' (I j) ∧ μ j < μ i) Q) (I i)) : AWP P C n (.loop c) Q s := fun m a w hr => by
  refine wp_loop_ix (fun i a w => ∃ m, RA C n (I i) m a w) μ i0 (h0 m a w hr) fun i a w hi => ?_
  obtain ⟨m1, h1⟩ := hi
  refine wp_mono (round i m1 a w h1) fun e a' w' => ?_; rintro ⟨s', m', h2, h3⟩
  cases e with
  | normal =>
    obtain ⟨j, hj, hlt⟩ := h2
    exact ⟨j, hj m' a' w' h3, hlt⟩
  | _ => exact ⟨s', m', h2, h3⟩

theorem AWP.region {id : Nat} {ops : Array Oper} (h : AL P C n ops ops.toList Q s) : AWP P C n (.region id ops false) Q s := fun m a w hr => wp_region_list (h m a w hr)
theorem AWP.region_lit {id : Nat} {l : List Oper} (h : AL P C n l.toArray l Q s) : AWP P C n (.region id l.toArray false) Q s := AWP.region (by simpa using h)
theorem AL.nil {ops : Array Oper} (h : Q .normal s) : AL P C n ops [] Q s := fun m _ _ hr => wpList_nil ⟨s, m, h, hr⟩
theorem AL.cons {ops : Array Oper} {o : Oper} {rest : List Oper} {s1 : AS} (hg : o.guard = none) (ho : AOp P C n o s s1) (h : AL P C n ops rest Q s1) : AL P C n ops (o :: rest) Q s := fun m a w hr =>
  wpList_plain hg fun K hK => ho m a w hr K _ fun m' a' w' h' => hK a' w' (h m' a' w' h')

theorem RA.yielded {a : Act} {m : Lay} {w : World} (hr : RA C n s m a w) {ops : Array Oper} {j d : Nat} {b : Bool} (hj : (ops[j]?).bind (·.dst) = some d) (hb : s.lk d = some (.t (.leaf (.bool b)))) : yielded ops a.tmps j = some b := by
  obtain ⟨v, hv, hrv⟩ := hr.env d _ hb
  obtain ⟨rfl, -⟩ := RepM.leaf_eq hrv
  simp [Go.yielded, hj, hv]
theorem AL.cons_g {ops : Array Oper} {o : Oper} {rest : List Oper} {s1 : AS} {j d : Nat} {b : Bool} (hg : o.guard = some (j, b)) (hj : (ops[j]?).bind (·.dst) = some d) (hb : s.lk d = some (.t (.leaf (.bool b)))) (ho : AOp P C n o s s1) (h : AL P C n ops rest Q s1) : AL P C n ops (o :: rest) Q s := fun m a w hr =>
  wpList_step fun K hK => by
    rw [if_pos (by simp [Region.wanted, hg, hr.yielded hj hb])]
    exact ho m a w hr K _ fun m' a' w' h' => hK a' w' (h m' a' w' h')
theorem AL.skip {ops : Array Oper} {o : Oper} {rest : List Oper} {j d : Nat} {b c : Bool} (hg : o.guard = some (j, c)) (hj : (ops[j]?).bind (·.dst) = some d) (hb : s.lk d = some (.t (.leaf (.bool b)))) (hbc : (b == c) = false) (h : AL P C n ops rest Q (s.delO o.dst)) : AL P C n ops (o :: rest) Q s := fun m a w hr =>
  wpList_step fun K hK => by
    rw [if_neg (by simpa [Region.wanted, hg, hr.yielded hj hb] using hbc)]
    exact hK _ _ (h m _ w (hr.del o.dst undef))

/-- An operation that yields a value and leaves the memory alone. -/
theorem AOp.quiet {o : Oper} {p : PV} (hd : ∀ x, o.dst = some x → x < n) (h : ∀ m a w, RA C n s m a w → ∃ v, (execOp a.eval o).run P w = .ok (.value v) w ∧ RV (okA C.av s.st m) s.st m w p v) : AOp P C n o s (s.putO o.dst p) := fun m a w hr K Q hK => by
  obtain ⟨v, hv, hp⟩ := h m a w hr
  unfold Oper.wp
  rw [hv]
  exact hK m _ w (hr.put hd hp)
end

/-- A call: whatever the memory, the function returns 'res', the boxes and rows that it was handed stand as in the new store. -/
def ACalls (P : Program) (f : FuncId) (args : List PV) (pre : Sto) (R : PV → Sto → Prop) : Prop :=
  ∀ av m w vals, StoOk av pre m w → RVL (okA av pre m) pre m w args vals →
    Calls P f ⟨vals⟩ w fun e w' => ∃ res st' m' v, e = .returned v ∧ R res st' ∧ StoOk av st' m' w' ∧ Ev pre m w st' m' w' ∧ RV (okA av st' m') st' m' w' res v

def argEnv : Nat → List PV → List (Nat × PV)
  | _, [] => []
  | i, p :: ps => (i, p) :: argEnv (i + 1) ps
theorem argEnv_lookup {av : Nat → Nat → Prop} {st : Sto} {m : Lay} {w : World} : ∀ (ps : List PV) (vs : List Value) (k i : Nat) (p : PV), RVL (okA av st m) st m w ps vs → (argEnv k ps).lookup i = some p → ∃ v, k ≤ i ∧ vs[i - k]? = some v ∧ RV (okA av st m) st m w p v
  | [], [], _, _, _, _, h => by simp [argEnv] at h
  | q :: ps, u :: vs, k, i, p, hr, h => by
    rw [argEnv, List.lookup_cons] at h
    by_cases hik : i = k
    · subst hik
      simp at h
      subst h
      exact ⟨u, Nat.le_refl _, by simp, hr.1⟩
    · rw [show (i == k) = false by simp [hik]] at h
      obtain ⟨v, h1, h2, h3⟩ := argEnv_lookup ps vs (k + 1) i p hr.2 h
      exact ⟨v, by omega, by rw [show i - k = (i - (k + 1)) + 1 by omega]; simpa using h2, h3⟩
  | [], _ :: _, _, _, _, hr, _ => hr.elim
  | _ :: _, [], _, _, _, hr, _ => hr.elim

/-- What a function's end says: its results, and the boxes and rows that stay. -/
def Ends (P : Program) (C : Ctx) (n : Nat) (fn : Func) (R : PV → Sto → Prop) (e : Exit) (s : AS) : Prop :=
  (e = .normal ∨ e = .ret) ∧ ∀ m a w, RA C n s m a w → ∃ res st' m' v, (results fn a.tmps).run P w = .ok v w ∧ R res st' ∧ StoOk C.av st' m' w ∧ Ev C.st C.m C.w st' m' w ∧ RV (okA C.av st' m') st' m' w res v

theorem ACalls.intro {P : Program} {f : FuncId} {fn : Func} {c : Code} {args : List PV} {pre : Sto} {R : PV → Sto → Prop} (hf : P.funcs[f]? = some fn) (hb : fn.body = some c) (hn : args.length ≤ fn.ntmps)
    (h : ∀ C : Ctx, C.st = pre → AWP P C fn.ntmps c (Ends P C fn.ntmps fn R) ⟨argEnv 0 args, pre⟩) : ACalls P f args pre R := by
  intro av m w vals hst hargs
  refine calls_of_wp hf hb ?_
  have hl : args.length = vals.length := hargs.length
  have hra : RA ⟨av, pre, m, w⟩ fn.ntmps ⟨argEnv 0 args, pre⟩ m { tmps := ⟨vals⟩ ++ Array.replicate (fn.ntmps - (⟨vals⟩ : Array Value).size) undef, defers := [] } w := by
    refine ⟨rfl, by simp; omega, hst, fun i p hp => ?_, Ev.refl _ _ _⟩
    obtain ⟨v, -, h2, h3⟩ := argEnv_lookup args vals 0 i p hargs hp
    refine ⟨v, ?_, h3⟩
    have hi : i < vals.length := (List.getElem?_eq_some_iff.1 (by simpa using h2)).1
    rw [Array.getElem?_append_left (by simpa using hi)]
    simpa using h2
  refine wp_mono (h ⟨av, pre, m, w⟩ rfl m _ w hra) fun e a' w' => ?_; rintro ⟨s', m', ⟨he, hends⟩, hr⟩
  obtain ⟨res, st', m2, v, h1, h2, h3, h4, h5⟩ := hends m' a' w' hr
  rcases he with rfl | rfl
  · exact ⟨hr.dfr, v, h1, res, st', m2, v, rfl, h2, h3, h4, h5⟩
  · exact ⟨hr.dfr, v, h1, res, st', m2, v, rfl, h2, h3, h4, h5⟩

end Go.Proofs.Ytmpepccpnnldoaa

namespace Go.Proofs.Ytmpepccpnnldoaa
set_option linter.unusedSimpArgs false
set_option linter.unusedVariables false
open Go.RowKit Go.WalkArith Go.IntWalk Go.WideShapes

def dstOk (d : Option Nat) (n : Nat) : Bool := match d with | none => true | some x => decide (x < n)
theorem dstOk_lt {d : Option Nat} {n : Nat} (h : dstOk d n = true) : ∀ x, d = some x → x < n := by
  rintro x rfl
  simpa [dstOk] using h
def aggD : TypeDesc → Bool
  | .struct _ | .array _ _ => true
  | _ => false
/-- Is it a struct (or an array), and how many cells has it? -/
def shapeOf (P : Program) (T : TypeId) : Option (Bool × Nat) :=
  match P.underlying T, P.info? T with
  | some d, some i => some (aggD d, i.size)
  | _, _ => none
def fieldOff (P : Program) (T f : Nat) : Option Nat :=
  match P.underlying T with
  | some (.struct fs) => match fs[f]? with
    | some fd => match P.info? fd.type with
      | some i => if i.size = 0 then none else some fd.offset
      | none => none
    | none => none
  | _ => none
/-- A slice's element: its type, its cells, its bytes. -/
def elemOf? (P : Program) (T : TypeId) : Option (TypeId × Nat × Nat) :=
  match P.underlying T with
  | some (.slice E) => (P.info? E).map fun i => (E, i.size, i.bytes)
  | _ => none

section
variable {P : Program}
theorem shapeOf.spec {T : TypeId} {b : Bool} {n : Nat} (h : shapeOf P T = some (b, n)) : ∃ d i, P.underlying T = some d ∧ P.info? T = some i ∧ aggD d = b ∧ i.size = n := by
  unfold shapeOf at h
  split at h
  · rename_i d i hu hi
    simp only [Option.some.injEq, Prod.mk.injEq] at h
    exact ⟨d, i, hu, hi, h.1, h.2⟩
  · cases h
theorem fieldOff.spec {T f d : Nat} (h : fieldOff P T f = some d) : ∃ fs fd i, P.underlying T = some (.struct fs) ∧ fs[f]? = some fd ∧ P.info? fd.type = some i ∧ i.size ≠ 0 ∧ fd.offset = d := by
  unfold fieldOff at h
  split at h
  · rename_i fs hu
    split at h
    · rename_i fd hf
      split at h
      · rename_i i hi
        split at h
        · cases h
        · rename_i hz
          exact ⟨fs, fd, i, hu, hf, hi, hz, by simpa using h⟩
      · cases h
    · cases h
  · cases h
theorem elemOf?.spec {T E sz by_ : Nat} (h : elemOf? P T = some (E, sz, by_)) : ∃ i, P.underlying T = some (.slice E) ∧ P.info? E = some i ∧ i.size = sz ∧ i.bytes = by_ := by
  unfold elemOf? at h
  split at h
  · rename_i E' hu
    cases hi : P.info? E' with
    | none => simp [hi] at h
    | some i =>
      simp only [hi, Option.map_some, Option.some.injEq, Prod.mk.injEq] at h
      obtain ⟨rfl, h1, h2⟩ := h
      exact ⟨i, hu, hi, h1, h2⟩
  · cases h

theorem run_isAgg {T : TypeId} {b : Bool} {n : Nat} (h : shapeOf P T = some (b, n)) (w : World) : (isAgg T).run P w = .ok b w := by
  obtain ⟨d, i, hu, -, hb, -⟩ := shapeOf.spec h
  unfold isAgg
  rw [Sem.run_bind, run_underlying hu w]
  cases d <;> simp_all [aggD]
theorem run_sizeOf' {T : TypeId} {b : Bool} {n : Nat} (h : shapeOf P T = some (b, n)) (w : World) : (Go.sizeOf T).run P w = .ok n w := by
  obtain ⟨d, i, -, hi, -, hs⟩ := shapeOf.spec h
  simp [Go.sizeOf, typeInfo, hi, hs]
theorem run_loadVar_agg {T : TypeId} {b off : Nat} {cs : List Value} {w : World} (h : shapeOf P T = some (true, cs.length)) (hc : ∀ j v, cs[j]? = some v → w.cell? ⟨b, off + j, none⟩ = some v) : (loadVar T ⟨b, off, none⟩).run P w = .ok (.agg ⟨cs⟩) w := by
  have hl : (loadCells ⟨b, off, none⟩ cs.length).run P w = .ok cs.toArray w :=
    run_loadCells_list (P := P) w ⟨b, off, none⟩ cs (fun j v hv => by
      have hadd : (⟨b, off, none⟩ : Addr).add j = ⟨b, off + j, none⟩ := by unfold Addr.add; split <;> simp_all
      rw [hadd]; exact hc j v hv)
  simp [loadVar, Sem.run_bind, run_isAgg h, run_sizeOf' h, hl]
theorem run_loadVar_one {T : TypeId} {n : Nat} {p : Addr} {v : Value} {w : World} (h : shapeOf P T = some (false, n)) (hc : w.cell? p = some v) : (loadVar T p).run P w = .ok v w := by
  simp [loadVar, Sem.run_bind, run_isAgg h, hc]
theorem run_fieldAt' {T f d b o : Nat} (h : fieldOff P T f = some d) (w : World) : (Instr.fieldAt T (.pointer (some ⟨b, o, none⟩)) f).run P w = .ok (.pointer (some ⟨b, o + d, none⟩)) w := by
  obtain ⟨fs, fd, i, hu, hf, hi, hz, rfl⟩ := fieldOff.spec h
  have hadd : ∀ n, (⟨b, o, none⟩ : Addr).add n = ⟨b, o + n, none⟩ := fun n => by unfold Addr.add; split <;> simp_all
  simp [Instr.fieldAt, Sem.run_bind, run_underlying hu, hf, Instr.sureAddr, fieldPlace, Go.sizeOf, typeInfo, hi, hz, hadd]
theorem run_indexAt' {T E sz by_ b off len cap k : Nat} (h : elemOf? P T = some (E, sz, by_)) (hk : k < len) (w : World) : (Instr.indexAt T (.slice (some ⟨b, off, none⟩) len cap) (.int .i64 (k : Int))).run P w = .ok (.pointer (some ⟨b, off + k * sz, none⟩)) w := by
  obtain ⟨i, hu, hi, hs, -⟩ := elemOf?.spec h
  have hadd : ∀ n, (⟨b, off, none⟩ : Addr).add n = ⟨b, off + n, none⟩ := fun n => by unfold Addr.add; split <;> simp_all
  simp [Instr.indexAt, asIntOf, Sem.run_bind, run_underlying hu, Go.sizeOf, typeInfo, hi, hs, hadd]
  intro h2
  omega
end

section
variable {P : Program} {C : Ctx} {n : Nat} {s : AS} {o : Oper}

theorem AOp.move {x : Operand} {p : PV} (ho : o.op = .move x ∨ o.op = .assign x) (hd : dstOk o.dst n = true) (hx : s.ev x = some p) : AOp P C n o s (s.putO o.dst p) :=
  AOp.quiet (dstOk_lt hd) fun m a w hr => ⟨a.eval x, by unfold execOp; rcases ho with ho | ho <;> simp [ho], hr.eval hx⟩

theorem AOp.bin {op : BinOp} {T yT : TypeId} {x y : Operand} {u v r : Value} (ho : o.op = .binOp op T x y yT) (hd : dstOk o.dst n = true) (hx : s.ev x = some (.t (.leaf u))) (hy : s.ev y = some (.t (.leaf v)))
    (hrun : ∀ w, ((do eqGuard op T x y u v; binOp op T u v) : Sem Value).run P w = .ok r w) (hr : LeafOk r) : AOp P C n o s (s.putO o.dst (.t (.leaf r))) :=
  AOp.quiet (dstOk_lt hd) fun m a w h => by
    have h1 := (RepM.leaf_eq (h.eval hx)).1
    have h2 := (RepM.leaf_eq (h.eval hy)).1
    refine ⟨r, ?_, RepM.leaf hr⟩
    unfold execOp
    simp only [ho, h1, h2]
    rw [Sem.run_bind, hrun w]
    rfl

theorem AOp.addI {T yT : TypeId} {x y : Operand} {a b c : Int} (ho : o.op = .binOp .add T x y yT) (hd : dstOk o.dst n = true) (hx : s.ev x = some (.t (.leaf (.int .i64 a)))) (hy : s.ev y = some (.t (.leaf (.int .i64 b))))
    (hc : a + b = c) (hb : -9223372036854775808 ≤ c ∧ c ≤ 9223372036854775807) : AOp P C n o s (s.putO o.dst (.t (.leaf (.int .i64 c)))) := by
  subst hc
  exact AOp.bin ho hd hx hy (fun w => by simp [eqGuard, binOp, Op.intArith, i64_in _ hb]) (wf_i64 hb)
theorem AOp.addW {T yT : TypeId} {x y : Operand} {k : IntKind} {a b : Int} (ho : o.op = .binOp .add T x y yT) (hd : dstOk o.dst n = true) (hx : s.ev x = some (.t (.leaf (.int k a)))) (hy : s.ev y = some (.t (.leaf (.int k b)))) :
    AOp P C n o s (s.putO o.dst (.t (.leaf (.int k (k.wrap (a + b)))))) := AOp.bin ho hd hx hy (fun w => by simp [eqGuard, binOp, Op.intArith]) (wf_wrap k _)
theorem AOp.subW {T yT : TypeId} {x y : Operand} {k : IntKind} {a b : Int} (ho : o.op = .binOp .sub T x y yT) (hd : dstOk o.dst n = true) (hx : s.ev x = some (.t (.leaf (.int k a)))) (hy : s.ev y = some (.t (.leaf (.int k b)))) :
    AOp P C n o s (s.putO o.dst (.t (.leaf (.int k (k.wrap (a - b)))))) := AOp.bin ho hd hx hy (fun w => by simp [eqGuard, binOp, Op.intArith]) (wf_wrap k _)
theorem AOp.lss {T yT : TypeId} {x y : Operand} {k : IntKind} {a b : Int} (ho : o.op = .binOp .lss T x y yT) (hd : dstOk o.dst n = true) (hx : s.ev x = some (.t (.leaf (.int k a)))) (hy : s.ev y = some (.t (.leaf (.int k b)))) :
    AOp P C n o s (s.putO o.dst (.t (.leaf (.bool (decide (a < b)))))) := AOp.bin ho hd hx hy (fun w => by simp [eqGuard, binOp, Op.intCmp]) trivial
theorem AOp.leq {T yT : TypeId} {x y : Operand} {k : IntKind} {a b : Int} (ho : o.op = .binOp .leq T x y yT) (hd : dstOk o.dst n = true) (hx : s.ev x = some (.t (.leaf (.int k a)))) (hy : s.ev y = some (.t (.leaf (.int k b)))) :
    AOp P C n o s (s.putO o.dst (.t (.leaf (.bool (decide (a ≤ b)))))) := AOp.bin ho hd hx hy (fun w => by simp [eqGuard, binOp, Op.intCmp]) trivial
theorem AOp.gtr {T yT : TypeId} {x y : Operand} {k : IntKind} {a b : Int} (ho : o.op = .binOp .gtr T x y yT) (hd : dstOk o.dst n = true) (hx : s.ev x = some (.t (.leaf (.int k a)))) (hy : s.ev y = some (.t (.leaf (.int k b)))) :
    AOp P C n o s (s.putO o.dst (.t (.leaf (.bool (decide (a > b)))))) := AOp.bin ho hd hx hy (fun w => by simp [eqGuard, binOp, Op.intCmp]) trivial
theorem AOp.geq {T yT : TypeId} {x y : Operand} {k : IntKind} {a b : Int} (ho : o.op = .binOp .geq T x y yT) (hd : dstOk o.dst n = true) (hx : s.ev x = some (.t (.leaf (.int k a)))) (hy : s.ev y = some (.t (.leaf (.int k b)))) :
    AOp P C n o s (s.putO o.dst (.t (.leaf (.bool (decide (a ≥ b)))))) := AOp.bin ho hd hx hy (fun w => by simp [eqGuard, binOp, Op.intCmp]) trivial
theorem AOp.eqlI {T yT : TypeId} {x y : Operand} {k : IntKind} {a b : Int} (ho : o.op = .binOp .eql T x y yT) (hd : dstOk o.dst n = true) (hx : s.ev x = some (.t (.leaf (.int k a)))) (hy : s.ev y = some (.t (.leaf (.int k b)))) :
    AOp P C n o s (s.putO o.dst (.t (.leaf (.bool (decide (a = b)))))) := AOp.bin ho hd hx hy (fun w => by simp [eqGuard, binOp, Op.intCmp]; rfl) trivial
theorem AOp.neqI {T yT : TypeId} {x y : Operand} {k : IntKind} {a b : Int} (ho : o.op = .binOp .neq T x y yT) (hd : dstOk o.dst n = true) (hx : s.ev x = some (.t (.leaf (.int k a)))) (hy : s.ev y = some (.t (.leaf (.int k b)))) :
    AOp P C n o s (s.putO o.dst (.t (.leaf (.bool (!decide (a = b)))))) := AOp.bin ho hd hx hy (fun w => by simp [eqGuard, binOp, Op.intCmp]; rfl) trivial
theorem bytes_toList_inj {a b : ByteArray} (h : a.toList = b.toList) : a = b := by
  rw [ByteArray.toList_eq, ByteArray.toList_eq] at h
  obtain ⟨⟨x⟩⟩ := a
  obtain ⟨⟨y⟩⟩ := b
  have h : x = y := h
  rw [h]
theorem bytes_beq (a b : ByteArray) : (a.toList == b.toList) = decide (a = b) := by
  by_cases h : a = b
  · subst h; simp
  · rw [decide_eq_false h]
    simpa using fun e => h (bytes_toList_inj e)
theorem AOp.eqlS {T yT : TypeId} {x y : Operand} {a b : ByteArray} (ho : o.op = .binOp .eql T x y yT) (hd : dstOk o.dst n = true) (hx : s.ev x = some (.t (.leaf (.string a)))) (hy : s.ev y = some (.t (.leaf (.string b)))) :
    AOp P C n o s (s.putO o.dst (.t (.leaf (.bool (decide (a = b)))))) := AOp.bin ho hd hx hy (fun w => by simp [eqGuard, binOp, Op.stringOp, bytes_beq]) trivial
theorem AOp.neqS {T yT : TypeId} {x y : Operand} {a b : ByteArray} (ho : o.op = .binOp .neq T x y yT) (hd : dstOk o.dst n = true) (hx : s.ev x = some (.t (.leaf (.string a)))) (hy : s.ev y = some (.t (.leaf (.string b)))) :
    AOp P C n o s (s.putO o.dst (.t (.leaf (.bool (!decide (a = b)))))) := AOp.bin ho hd hx hy (fun w => by simp [eqGuard, binOp, Op.stringOp, bytes_beq]) trivial
theorem AOp.addS {T yT : TypeId} {x y : Operand} {a b : ByteArray} (ho : o.op = .binOp .add T x y yT) (hd : dstOk o.dst n = true) (hx : s.ev x = some (.t (.leaf (.string a)))) (hy : s.ev y = some (.t (.leaf (.string b)))) (hb : a.size + b.size ≤ 9223372036854775807) :
    AOp P C n o s (s.putO o.dst (.t (.leaf (.string (a ++ b))))) := AOp.bin ho hd hx hy (fun w => by
      have h2 : ¬ ((a.size : Int) + (b.size : Int) > 9223372036854775807) := by omega
      have h3 : IntKind.max .i64 = 9223372036854775807 := by decide
      simp [eqGuard, binOp, Op.stringOp, h3]
      omega) (by show (a ++ b).size ≤ maxLen; rw [ByteArray.size_append]; unfold maxLen; omega)
theorem AOp.notB {T : TypeId} {x : Operand} {b : Bool} (ho : o.op = .unOp .not T x) (hd : dstOk o.dst n = true) (hx : s.ev x = some (.t (.leaf (.bool b)))) : AOp P C n o s (s.putO o.dst (.t (.leaf (.bool (!b))))) :=
  AOp.quiet (dstOk_lt hd) fun m a w h => ⟨.bool (!b), by
    have h1 := (RepM.leaf_eq (h.eval hx)).1
    unfold execOp
    simp [ho, h1, Op.unary], RepM.leaf trivial⟩
theorem AOp.pick {x y z : Operand} {b : Bool} {p q : PV} (ho : o.op = .pick x y z) (hd : dstOk o.dst n = true) (hx : s.ev x = some (.t (.leaf (.bool b)))) (hy : b = true → s.ev y = some p) (hz : b = false → s.ev z = some p) : AOp P C n o s (s.putO o.dst p) :=
  AOp.quiet (dstOk_lt hd) fun m a w h => by
    have h1 := (RepM.leaf_eq (h.eval hx)).1
    cases b with
    | true => exact ⟨a.eval y, by unfold execOp; simp [ho, h1, asBool], h.eval (hy rfl)⟩
    | false => exact ⟨a.eval z, by unfold execOp; simp [ho, h1, asBool], h.eval (hz rfl)⟩
theorem AOp.nilPtr {x : Operand} {k d : Nat} (ho : o.op = .nilCheck x) (hd : dstOk o.dst n = true) (hx : s.ev x = some (.ptr k d)) : AOp P C n o s (s.putO o.dst (.ptr k d)) :=
  AOp.quiet (dstOk_lt hd) fun m a w h => by
    have h1 := h.eval hx
    refine ⟨a.eval x, ?_, h1⟩
    have h2 := h1.2
    unfold execOp
    simp [ho, h2]
theorem AOp.fieldPtr {T : TypeId} {x : Operand} {f k d e : Nat} (ho : o.op = .fieldAddr T x f) (hd : dstOk o.dst n = true) (hx : s.ev x = some (.ptr k d)) (hf : fieldOff P T f = some e) : AOp P C n o s (s.putO o.dst (.ptr k (d + e))) :=
  AOp.quiet (dstOk_lt hd) fun m a w h => by
    obtain ⟨h1, h2⟩ := h.eval hx
    refine ⟨_, ?_, h1, rfl⟩
    unfold execOp
    simp [ho, h2, run_fieldAt' hf]
theorem AOp.fieldEptr {T : TypeId} {x : Operand} {f e : Nat} {cs : List Tr} (ho : o.op = .fieldAddr T x f) (hd : dstOk o.dst n = true) (hx : s.ev x = some (.eptr cs)) (hf : fieldOff P T f = some e) : AOp P C n o s (s.putO o.dst (.eptr (cs.drop e))) :=
  AOp.quiet (dstOk_lt hd) fun m a w h => by
    obtain ⟨b, off, h1, hb, c, h2⟩ := h.eval hx
    refine ⟨.pointer (some ⟨b, off + e, none⟩), ?_, b, off + e, rfl, hb, fun j => c (e + j), fun j d hj => ?_⟩
    · unfold execOp
      simp [ho, h1, run_fieldAt' hf]
    · rw [List.getElem?_drop] at hj
      obtain ⟨k1, k2, k3⟩ := h2 _ _ hj
      exact ⟨by rw [Nat.add_assoc]; exact k1, by rw [Nat.add_assoc]; exact k2, k3⟩
/-- The data of a slice, whichever way it is held. -/
def rowOf : PV → Option (Nat × List (List Tr))
  | .t (.row sz es) => some (sz, es)
  | .acc sz es _ => some (sz, es)
  | .lit sz es => some (sz, es)
  | _ => none
theorem rowOf_rv {ok : Nat → Nat → Prop} {st : Sto} {m : Lay} {w : World} {p : PV} {sz : Nat} {es : List (List Tr)} {v : Value} (h : rowOf p = some (sz, es)) (hr : RV ok st m w p v) : RepM ok w (.row sz es) v := by
  unfold rowOf at h
  split at h
  · cases h; exact hr
  · cases h
    obtain ⟨row, -, -, -, h4, -⟩ := hr
    exact h4
  · cases h; exact hr.1
  · cases h
theorem AOp.index {T E sz by_ : Nat} {x i : Operand} {p : PV} {es : List (List Tr)} {e : List Tr} {k : Nat} (ho : o.op = .indexAddr T x i) (hd : dstOk o.dst n = true) (hx : s.ev x = some p) (hp : rowOf p = some (sz, es)) (hi : s.ev i = some (.t (.leaf (.int .i64 (k : Int)))))
    (he : es[k]? = some e) (hT : elemOf? P T = some (E, sz, by_)) : AOp P C n o s (s.putO o.dst (.eptr e)) :=
  AOp.quiet (dstOk_lt hd) fun m a w h => by
    have h1 := rowOf_rv hp (h.eval hx)
    have h2 := (RepM.leaf_eq (h.eval hi)).1
    cases hv : a.eval x with
    | slice ad len cap =>
      rw [hv] at h1
      cases h1 with
      | row c k1 k2 k3 k4 =>
        obtain ⟨b, off, rfl, hb, k5⟩ := k3 (by rintro rfl; simp at he)
        have hk : k < es.length := (List.getElem?_eq_some_iff.1 he).1
        refine ⟨.pointer (some ⟨b, off + k * sz, none⟩), ?_, b, off + k * sz, rfl, hb, c k, fun j d hj => ⟨(k5 k e he j d hj).1, (k5 k e he j d hj).2, k4 k e he j d hj⟩⟩
        unfold execOp
        simp [ho, hv, h2, run_indexAt' hT hk]
    | _ => rw [hv] at h1; cases h1
theorem AOp.len {T ty : TypeId} {x : Operand} {p : PV} {sz : Nat} {es : List (List Tr)} {E : Nat × Nat × Nat} (ho : o.op = .call { callee := .builtin .len, args := #[x], argTypes := #[T] }) (hd : dstOk o.dst n = true) (hx : s.ev x = some p) (hp : rowOf p = some (sz, es)) (hT : elemOf? P T = some E) :
    AOp P C n o s (s.putO o.dst (.t (.leaf (.int .i64 (es.length : Int))))) :=
  AOp.quiet (dstOk_lt hd) fun m a w h => by
    obtain ⟨ad, cap, h1, h2, h3⟩ := (rowOf_rv hp (h.eval hx)).shape
    obtain ⟨E1, E2, E3⟩ := E
    obtain ⟨i, hu, -, -, -⟩ := elemOf?.spec hT
    refine ⟨.int .i64 (es.length : Int), ?_, RepM.leaf (wf_i64 (by unfold maxLen at h3; omega))⟩
    unfold execOp
    simp [ho, resolve, invoke, builtin, h1, Builtin.len_, run_underlying hu, goInt]
theorem AOp.lenS {T : TypeId} {x : Operand} {v : ByteArray} (ho : o.op = .call { callee := .builtin .len, args := #[x], argTypes := #[T] }) (hd : dstOk o.dst n = true) (hx : s.ev x = some (.t (.leaf (.string v)))) (hT : P.underlying T = some .string) :
    AOp P C n o s (s.putO o.dst (.t (.leaf (.int .i64 (v.size : Int))))) :=
  AOp.quiet (dstOk_lt hd) fun m a w h => by
    obtain ⟨h1, h3⟩ := RepM.leaf_eq (h.eval hx)
    have h4 : v.size ≤ maxLen := h3
    refine ⟨.int .i64 (v.size : Int), ?_, RepM.leaf (wf_i64 (by unfold maxLen at h4; omega))⟩
    unfold execOp
    simp [ho, resolve, invoke, builtin, h1, Builtin.len_, run_underlying hT, goInt]
theorem AOp.extract {x : Operand} {i : Nat} {ps : List PV} {p : PV} (ho : o.op = .extract x i) (hd : dstOk o.dst n = true) (hx : s.ev x = some (.tup ps)) (hi : ps[i]? = some p) : AOp P C n o s (s.putO o.dst p) :=
  AOp.quiet (dstOk_lt hd) fun m a w h => by
    obtain ⟨vs, h1, h2⟩ := h.eval hx
    obtain ⟨v, hv, hr⟩ := h2.get hi
    refine ⟨v, ?_, hr⟩
    unfold execOp
    simp [ho, h1, Instr.extract, hv]
/-- A load from one of our boxes. -/
theorem AOp.loadPtr {T : TypeId} {x : Operand} {k d z : Nat} {bx : PBox} {cs : List PV} (ho : o.op = .load T x) (hd : dstOk o.dst n = true) (hx : s.ev x = some (.ptr k d)) (hb : s.st.boxes[k]? = some (some bx)) (hT : shapeOf P T = some (true, z)) (hc : (bx.cells.drop d).take z = cs) (hl : cs.length = z) :
    AOp P C n o s (s.putO o.dst (.agg cs)) :=
  AOp.quiet (dstOk_lt hd) fun m a w h => by
    obtain ⟨-, h2⟩ := h.eval hx
    obtain ⟨vs, h3, h4⟩ := h.sto.box k bx hb
    have h5 := RVL.take z (RVL.drop d h4)
    rw [hc] at h5
    refine ⟨.agg ⟨(vs.drop d).take z⟩, ?_, _, rfl, h5⟩
    have hlen := h5.length
    have hld := run_loadVar_agg (P := P) (T := T) (b := m.ρ k) (off := d) (cs := (vs.drop d).take z) (w := w) (by rw [← hlen, hl]; exact hT) (fun j v hj => by
      have hjz : j < z := by have := (List.getElem?_eq_some_iff.1 hj).1; simp at this; omega
      rw [List.getElem?_take, if_pos hjz, List.getElem?_drop] at hj
      exact h3.cell hj)
    unfold execOp
    simp [ho, h2, Instr.loadAt, Instr.sureAddr, hld]
theorem AOp.loadPtr1 {T : TypeId} {x : Operand} {k d z : Nat} {bx : PBox} {p : PV} (ho : o.op = .load T x) (hd : dstOk o.dst n = true) (hx : s.ev x = some (.ptr k d)) (hb : s.st.boxes[k]? = some (some bx)) (hT : shapeOf P T = some (false, z)) (hc : bx.cells[d]? = some p) :
    AOp P C n o s (s.putO o.dst p) :=
  AOp.quiet (dstOk_lt hd) fun m a w h => by
    obtain ⟨-, h2⟩ := h.eval hx
    obtain ⟨vs, h3, h4⟩ := h.sto.box k bx hb
    obtain ⟨v, hv, hr⟩ := h4.get hc
    refine ⟨v, ?_, hr⟩
    have hld := run_loadVar_one (P := P) (T := T) (p := ⟨m.ρ k, d, none⟩) (v := v) (w := w) hT (h3.cell hv)
    unfold execOp
    simp [ho, h2, Instr.loadAt, Instr.sureAddr, hld]
theorem RVL.of_fn {ok : Nat → Nat → Prop} {st : Sto} {m : Lay} {w : World} {c : Nat → Value} : ∀ {ts : List Tr} (k : Nat), (∀ (j : Nat) d, ts[j]? = some d → RepM ok w d (c (k + j))) → RVL ok st m w (ts.map PV.t) ((List.range' k ts.length).map c) := by
  intro ts
  induction ts with
  | nil => intro k _; simp [RVL]
  | cons t ts ih =>
    intro k h
    refine ⟨h 0 t rfl, ?_⟩
    exact ih (k + 1) (fun j d hd => by have := h (j + 1) d (by simpa using hd); rwa [show k + 1 + j = k + (j + 1) by omega])
theorem AOp.loadEptr {T : TypeId} {x : Operand} {z : Nat} {cs ds : List Tr} (ho : o.op = .load T x) (hd : dstOk o.dst n = true) (hx : s.ev x = some (.eptr cs)) (hT : shapeOf P T = some (true, z)) (hc : cs.take z = ds) (hl : ds.length = z) :
    AOp P C n o s (s.putO o.dst (.agg (ds.map PV.t))) :=
  AOp.quiet (dstOk_lt hd) fun m a w h => by
    obtain ⟨b, off, h1, hb, c, h2⟩ := h.eval hx
    have hget : ∀ (j : Nat) d, ds[j]? = some d → cs[j]? = some d := fun j d hj => by
      rw [← hc, List.getElem?_take] at hj
      split at hj
      · exact hj
      · cases hj
    refine ⟨.agg ⟨(List.range' 0 ds.length).map c⟩, ?_, _, rfl, RVL.of_fn 0 fun j d hj => by rw [Nat.zero_add]; exact (h2 j d (hget j d hj)).2.2⟩
    have hld := run_loadVar_agg (P := P) (T := T) (b := b) (off := off) (cs := (List.range' 0 ds.length).map c) (w := w) (by simpa [hl] using hT) (fun j v hj => by
      rw [List.getElem?_map] at hj
      rcases hr : (List.range' 0 ds.length)[j]? with _ | i
      · simp [hr] at hj
      · have hjl : j < ds.length := by have := (List.getElem?_eq_some_iff.1 hr).1; simpa using this
        rw [List.getElem?_range' hjl] at hr
        simp at hr
        subst hr
        simp [List.getElem?_range' hjl] at hj
        rw [← hj]
        exact (h2 j ds[j] (hget j _ (List.getElem?_eq_getElem hjl))).2.1)
    unfold execOp
    simp [ho, h1, Instr.loadAt, Instr.sureAddr, hld]
theorem AOp.loadEptr1 {T : TypeId} {x : Operand} {z : Nat} {d : Tr} {cs : List Tr} (ho : o.op = .load T x) (hd : dstOk o.dst n = true) (hx : s.ev x = some (.eptr cs)) (hT : shapeOf P T = some (false, z)) (hc : cs[0]? = some d) :
    AOp P C n o s (s.putO o.dst (.t d)) :=
  AOp.quiet (dstOk_lt hd) fun m a w h => by
    obtain ⟨b, off, h1, hb, c, h2⟩ := h.eval hx
    obtain ⟨k1, k2, k3⟩ := h2 0 d hc
    refine ⟨c 0, ?_, k3⟩
    have hld := run_loadVar_one (P := P) (T := T) (p := ⟨b, off, none⟩) (v := c 0) (w := w) hT k2
    unfold execOp
    simp [ho, h1, Instr.loadAt, Instr.sureAddr, hld]
end
end Go.Proofs.Ytmpepccpnnldoaa
