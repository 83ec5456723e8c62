/- Words for memory, without any program: how a tree of plain data lies in the heap, and that it still lies there in every later world. No conditions. -/
import Derived.WalkKit
import Derived.WalkSpells
import Derived.WalkLawsBesides
import Derived.Lib.Hide
import Derived.Deep.Slices
import Derived.StillTailTactics
namespace Go.Proofs.YtnakkelglbcecaaGreat
open Go.RowKit

/-- What a datum looks like in cells: a plain cell, or a slice whose elements have 'sz' cells each. -/
inductive Tr where
  | leaf (v : Value)
  | row (sz : Nat) (es : List (List Tr))

def LeafOk : Value → Prop
  | .int k n => (Lit.int k n).wf = true
  | .string s => s.size ≤ maxLen
  | .bool _ => True
  | _ => False

inductive Rep (w : World) : Tr → Value → Prop
  | leaf {v : Value} : LeafOk v → Rep w (.leaf v) v
  | row {sz : Nat} {es : List (List Tr)} {a : Option Addr} {cap : Nat} (c : Nat → Nat → Value) : es.length ≤ cap → cap ≤ maxLen →
      (es ≠ [] → ∃ b off, a = some ⟨b, off, none⟩ ∧ b < w.heap.size ∧ ∀ i e, es[i]? = some e → ∀ j d, e[j]? = some d → w.cell? ⟨b, off + i * sz + j, none⟩ = some (c i j)) →
      (∀ i e, es[i]? = some e → ∀ j d, e[j]? = some d → Rep w d (c i j)) → Rep w (.row sz es) (.slice a es.length cap)

def RepL (w : World) : List Tr → List Value → Prop
  | [], [] => True
  | t :: ts, v :: vs => Rep w t v ∧ RepL w ts vs
  | _, _ => False

/-- A later world: whatever was there is there still. -/
abbrev Ext (w w' : World) : Prop := Below w.heap.size w w'

theorem Ext.refl (w : World) : Ext w w := Below.refl _ _
theorem Ext.trans {a b c : World} (h : Ext a b) (k : Ext b c) : Ext a c := Below.trans h (k.mono h.size)
theorem Ext.alloc {a w : World} (h : Ext a w) (o : Obj) : Ext a (w.alloc o) := Below.alloc h h.size o
theorem Ext.drew {a w : World} (h : Ext a w) : Ext a w.drew := Below.drew h
theorem Ext.drewN {a w : World} (h : Ext a w) (n : Nat) : Ext a (w.drewN n) := ⟨h.os, h.tape, h.output, h.size, h.block⟩
theorem Ext.set {a w : World} (h : Ext a w) {p : Addr} (hp : a.heap.size ≤ p.block) (u : Value) : Ext a (w.setCell p u) := Below.setCell h hp u

theorem Rep.ext {w w' : World} {t : Tr} {v : Value} (h : Rep w t v) (hx : Ext w w') : Rep w' t v := by
  induction h with
  | leaf h => exact .leaf h
  | row c h1 h2 h3 _ ih =>
    refine .row c h1 h2 (fun hne => ?_) ih
    obtain ⟨b, off, ha, hb, hc⟩ := h3 hne
    exact ⟨b, off, ha, Nat.lt_of_lt_of_le hb hx.size, fun i e he j d hd => (hx.cell (p := ⟨b, _, none⟩) hb).trans (hc i e he j d hd)⟩

theorem RepL.ext {w w' : World} {ts : List Tr} {vs : List Value} (h : RepL w ts vs) (hx : Ext w w') : RepL w' ts vs := by
  induction ts generalizing vs with
  | nil => cases vs <;> simp_all [RepL]
  | cons t ts ih =>
    cases vs with
    | nil => simp [RepL] at h
    | cons v vs => exact ⟨h.1.ext hx, ih h.2⟩

theorem RepL.of_fn {w : World} {c : Nat → Value} : ∀ {ts : List Tr} (k : Nat), (∀ (j : Nat) d, ts[j]? = some d → Rep w d (c (k + j))) → RepL w ts ((List.range' k ts.length).map c) := by
  intro ts
  induction ts with
  | nil => intro k _; simp [RepL]
  | cons t ts ih =>
    intro k h
    refine ⟨h 0 t rfl, ?_⟩
    exact ih (k + 1) (fun j d hd => by have := h (j + 1) d (by simpa using hd); rwa [show k + 1 + j = k + (j + 1) by omega])

/-- Element k of a slice: its address, its cells, and that these are its datum's. -/
theorem Rep.at {w : World} {sz : Nat} {es : List (List Tr)} {s : Value} {k : Nat} {e : List Tr} (h : Rep w (.row sz es) s) (hk : es[k]? = some e) :
    ∃ b off cap cs, s = .slice (some ⟨b, off, none⟩) es.length cap ∧ b < w.heap.size ∧ RepL w e cs ∧ ∀ j v, cs[j]? = some v → w.cell? ⟨b, off + k * sz + j, none⟩ = some v := by
  cases h with
  | row c h1 h2 h3 h4 =>
    obtain ⟨b, off, rfl, hb, hc⟩ := h3 (by rintro rfl; simp at hk)
    refine ⟨b, off, _, (List.range' 0 e.length).map (c k), rfl, hb, RepL.of_fn 0 (fun j d hd => by simpa using h4 k e hk j d hd), fun j v hv => ?_⟩
    rw [List.getElem?_map] at hv
    rcases hj : e[j]? with _ | d
    · rw [List.getElem?_eq_none_iff] at hj
      rw [List.getElem?_eq_none (by simpa using hj)] at hv
      simp at hv
    · have hl : j < e.length := (List.getElem?_eq_some_iff.1 hj).1
      rw [List.getElem?_range' hl] at hv
      simp at hv
      rw [hc k e hk j d hj, hv]

theorem Rep.shape {w : World} {sz : Nat} {es : List (List Tr)} {s : Value} (h : Rep w (.row sz es) s) : ∃ a cap, s = .slice a es.length cap ∧ es.length ≤ cap ∧ cap ≤ maxLen := by
  cases h with
  | row c h1 h2 h3 h4 => exact ⟨_, _, rfl, h1, h2⟩

theorem Rep.leaf_eq {w : World} {v u : Value} (h : Rep w (.leaf v) u) : u = v ∧ LeafOk v := by
  cases h with
  | leaf h => exact ⟨rfl, h⟩

theorem RepL.append {w : World} {ts us : List Tr} {vs xs : List Value} (h : RepL w ts vs) (k : RepL w us xs) : RepL w (ts ++ us) (vs ++ xs) := by
  induction ts generalizing vs with
  | nil => cases vs <;> simp_all [RepL]
  | cons t ts ih =>
    cases vs with
    | nil => simp [RepL] at h
    | cons v vs => exact ⟨h.1, ih h.2⟩

theorem RepL.length {w : World} {ts : List Tr} {vs : List Value} (h : RepL w ts vs) : ts.length = vs.length := by
  induction ts generalizing vs with
  | nil => cases vs <;> simp_all [RepL]
  | cons t ts ih =>
    cases vs with
    | nil => simp [RepL] at h
    | cons v vs => simp [ih h.2]

theorem RepL.get {w : World} {ts : List Tr} {vs : List Value} (h : RepL w ts vs) {j : Nat} {d : Tr} (hd : ts[j]? = some d) : ∃ v, vs[j]? = some v ∧ Rep w d v := by
  induction ts generalizing vs j with
  | nil => simp at hd
  | cons t ts ih =>
    cases vs with
    | nil => simp [RepL] at h
    | cons v vs =>
      cases j with
      | zero => simp at hd; exact ⟨v, rfl, hd ▸ h.1⟩
      | succ j => exact ih h.2 (by simpa using hd)

/-- Cells and marks of a world that was, seen from a later one: two rules for the walk. -/
theorem bcell {W w1 : World} (hb : Ext W w1) : (∀ b o, b < W.heap.size → w1.cell? ⟨b, o, none⟩ = W.cell? ⟨b, o, none⟩) ∧ (∀ b o, b < W.heap.size → w1.frozen? ⟨b, o, none⟩ = W.frozen? ⟨b, o, none⟩) :=
  ⟨fun b o h => hb.cell (p := ⟨b, o, none⟩) h, fun b o h => hb.frozen (p := ⟨b, o, none⟩) h⟩

/-- A block of the call's own, known whole. -/
def OB (w : World) (g : Nat) (t : TypeId) (cs : Array Value) : Prop := w.heap[g]? = some (.cells cs t (0, 0))
theorem OB.lt {w : World} {g : Nat} {t : TypeId} {cs : Array Value} (h : OB w g t cs) : g < w.heap.size := by
  rcases Nat.lt_or_ge g w.heap.size with hlt | hge
  · exact hlt
  · unfold OB at h; rw [Array.getElem?_eq_none hge] at h; cases h
theorem OB.new (w : World) (t : TypeId) (cs : Array Value) : OB (w.alloc (.cells cs t)) w.heap.size t cs := heap_alloc_new w _
theorem OB.ext {w w' : World} {g : Nat} {t : TypeId} {cs : Array Value} (h : OB w g t cs) (hx : Ext w w') : OB w' g t cs := (hx.block g h.lt).trans h
theorem OB.cell {w : World} {g : Nat} {t : TypeId} {cs : Array Value} (h : OB w g t cs) : ∀ i, w.cell? ⟨g, i, none⟩ = cs[i]? := fun i => cell_of_row w g i cs t (0, 0) h
theorem OB.frozen {w : World} {g : Nat} {t : TypeId} {cs : Array Value} (h : OB w g t cs) : ∀ i, w.frozen? ⟨g, i, none⟩ = false := fun i => by
  unfold OB at h
  simp [World.frozen?, h]

mutual
def Tr.bulk : Tr → Nat
  | .leaf (.string s) => s.size
  | .leaf _ => 0
  | .row _ es => es.length + Tr.bulkAll es
def Tr.bulkL : List Tr → Nat
  | [] => 0
  | t :: r => Tr.bulk t + Tr.bulkL r
def Tr.bulkAll : List (List Tr) → Nat
  | [] => 0
  | e :: r => Tr.bulkL e + Tr.bulkAll r
end
theorem Tr.bulkAll_take (l : List (List Tr)) : ∀ k (h : k < l.length), Tr.bulkAll (l.take (k + 1)) = Tr.bulkAll (l.take k) + Tr.bulkL l[k] := by
  induction l with
  | nil => intro k h; simp at h
  | cons a l ih =>
    intro k h
    cases k with
    | zero => simp [Tr.bulkAll]
    | succ k =>
      have := ih k (by simpa using h)
      simp [Tr.bulkAll, this]; omega

theorem Rep.at2 {w : World} {sz : Nat} {es : List (List Tr)} {a : Option Addr} {len cap : Nat} {k : Nat} {e : List Tr} (h : Rep w (.row sz es) (.slice a len cap)) (hk : es[k]? = some e) :
    ∃ b off cs, a = some ⟨b, off, none⟩ ∧ b < w.heap.size ∧ RepL w e cs ∧ ∀ j v, cs[j]? = some v → w.cell? ⟨b, off + k * sz + j, none⟩ = some v := by
  obtain ⟨b, off, cap', cs, hs, h1, h2, h3⟩ := h.at hk
  injection hs with hs
  exact ⟨b, off, cs, hs, h1, h2, h3⟩

/-- A struct of whatever number of cells, read at its address. -/
theorem run_loadVar_rep {P : Program} (w : World) (b off : Nat) (ty : TypeId) (cs : List Value) (fs : Array Field) (hu : P.underlying ty = some (.struct fs)) (hi : (P.info? ty).map (·.size) = some cs.length)
    (hc : ∀ j v, cs[j]? = some v → w.cell? ⟨b, off + j, none⟩ = some v) : (loadVar ty ⟨b, off, none⟩).run P w = .ok (.agg ⟨cs⟩) w := by
  have hl : (loadCells ⟨b, off, none⟩ cs.length).run P w = .ok cs.toArray w :=
    run_loadCells_list (P := P) w ⟨b, off, none⟩ cs (fun j v hv => by
      have hadd : (⟨b, off, none⟩ : Addr).add j = ⟨b, off + j, none⟩ := by unfold Addr.add; split <;> simp_all
      rw [hadd]; exact hc j v hv)
  cases hq : P.info? ty with
  | none => simp [hq] at hi
  | some i =>
    have hs : i.size = cs.length := by simpa [hq] using hi
    have hagg : (isAgg ty).run P w = .ok true w := by
      unfold isAgg
      rw [Sem.run_bind, run_underlying hu w]
      simp
    simp [loadVar, Sem.run_bind, hagg, Go.sizeOf, typeInfo, hq, hs, hl]

theorem wpList_load_rep {P : Program} {ops : Array Oper} {rest : List Oper} {o : Oper} {a : Act} {w : World} {Q : Exit → Act → World → Prop} (hgd : o.guard = none) (ty : TypeId) (x : Operand) (ho : o.op = .load ty x)
    (b off : Nat) (hx : a.eval x = .pointer (some ⟨b, off, none⟩)) (cs : List Value) (fs : Array Field) (hu : P.underlying ty = some (.struct fs)) (hi : (P.info? ty).map (·.size) = some cs.length)
    (hc : ∀ j v, cs[j]? = some v → w.cell? ⟨b, off + j, none⟩ = some v) (h : wpList P ops Q rest (a.put o.dst (.agg ⟨cs⟩)) w) : wpList P ops Q (o :: rest) a w :=
  wpList_plain hgd fun _ hK => by
    unfold Oper.wp execOp
    simp only [ho, hx, Instr.loadAt, Instr.sureAddr, Sem.run_bind, Sem.run_pure, Result.andThen_ok, run_loadVar_rep w b off ty cs fs hu hi hc]
    exact hK _ _ h

theorem wpStill_load_rep {P : Program} {ops : Array Oper} {rest : List Oper} {o : Oper} {a : Act} {w : World} {Q : Act → Prop} (hgd : o.guard = none) (ty : TypeId) (x : Operand) (ho : o.op = .load ty x)
    (b off : Nat) (hx : a.eval x = .pointer (some ⟨b, off, none⟩)) (cs : List Value) (fs : Array Field) (hu : P.underlying ty = some (.struct fs)) (hi : (P.info? ty).map (·.size) = some cs.length)
    (hc : ∀ j v, cs[j]? = some v → w.cell? ⟨b, off + j, none⟩ = some v) (h : wpStill P ops w Q rest (a.put o.dst (.agg ⟨cs⟩))) : wpStill P ops w Q (o :: rest) a := by
  refine wpStill_step fun K hK => ?_
  have hw : Region.wanted o (yielded ops a.tmps) = true := by simp [Region.wanted, hgd]
  rw [if_pos hw]
  unfold Oper.still execOp
  simp only [ho, hx, Instr.loadAt, Instr.sureAddr, Sem.run_bind, Sem.run_pure, Result.andThen_ok, run_loadVar_rep w b off ty cs fs hu hi hc]
  exact ⟨rfl, hK _ h⟩

theorem ret_int {k : IntKind} {a b : Int} (h : a = b) : Ending.returned (.int k a) = .returned (.int k b) := by rw [h]
theorem ret_bool {a b : Bool} (h : a = b) : Ending.returned (.bool a) = .returned (.bool b) := by rw [h]

end Go.Proofs.YtnakkelglbcecaaGreat
