/- Words, rules and walks of several kinds, laid together: Pm3, Pm4, Pm5, Pm6, Pm7, Pm8, Pm9, Pm10, PmD, PmX, PmY, PmZ, PmW, PmV, PmN, PmK, PmM, PmU, PmT, PmO, PmR, PmBool, Pma, PmDS, PmF, PmS, PmEq, PmaB, PmG, Pg, Ph, PgD, PgS, PmDraw, PmQ, MaFInt, FIntZ. No conditions but those that each theorem states. -/
import Derived.Test.YtmpepccpnnldoaaDoorQhb9697732
import Derived.WalkArith
import Derived.WideShapes4
import Derived.IntWalk
import Derived.Deep.AppendSrc
import Derived.Great.BuildSlice
import Derived.Test.YtmpepccpnnldoaaDoorProg
import Derived.Laws.MakeOwn
import Derived.Laws.BytesArg
set_option linter.unusedSimpArgs false
set_option linter.unusedVariables false
namespace Go.Proofs.YtmpepccpnnldoaaDoor
set_option linter.unusedSimpArgs false
set_option linter.unusedVariables false
open Go.RowKit Go.WalkArith Go.IntWalk Go.WideShapes

def dstOk (d : Option Nat) (n : Nat) : Bool := match d with | none => true | some x => decide (x < n)
theorem dstOk_lt {d : Option Nat} {n : Nat} (h : dstOk d n = true) : ∀ x, d = some x → x < n := by
  rintro x rfl
  simpa [dstOk] using h
def aggD : TypeDesc → Bool
  | .struct _ | .array _ _ => true
  | _ => false
/-- Is it a struct (or an array), and how many cells has it? -/
def shapeOf (P : Program) (T : TypeId) : Option (Bool × Nat) :=
  match P.underlying T, P.info? T with
  | some d, some i => some (aggD d, i.size)
  | _, _ => none
/-- A slice's element: its type, its cells, its bytes. -/
def elemOf? (P : Program) (T : TypeId) : Option (TypeId × Nat × Nat) :=
  match P.underlying T with
  | some (.slice E) => (P.info? E).map fun i => (E, i.size, i.bytes)
  | _ => none

section
variable {P : Program}
theorem shapeOf.spec {T : TypeId} {b : Bool} {n : Nat} (h : shapeOf P T = some (b, n)) : ∃ d i, P.underlying T = some d ∧ P.info? T = some i ∧ aggD d = b ∧ i.size = n := by
  unfold shapeOf at h
  split at h
  · rename_i d i hu hi
    simp only [Option.some.injEq, Prod.mk.injEq] at h
    exact ⟨d, i, hu, hi, h.1, h.2⟩
  · cases h
theorem elemOf?.spec {T E sz by_ : Nat} (h : elemOf? P T = some (E, sz, by_)) : ∃ i, P.underlying T = some (.slice E) ∧ P.info? E = some i ∧ i.size = sz ∧ i.bytes = by_ := by
  unfold elemOf? at h
  split at h
  · rename_i E' hu
    cases hi : P.info? E' with
    | none => simp [hi] at h
    | some i =>
      simp only [hi, Option.map_some, Option.some.injEq, Prod.mk.injEq] at h
      obtain ⟨rfl, h1, h2⟩ := h
      exact ⟨i, hu, hi, h1, h2⟩
  · cases h

theorem run_isAgg {T : TypeId} {b : Bool} {n : Nat} (h : shapeOf P T = some (b, n)) (w : World) : (isAgg T).run P w = .ok b w := by
  obtain ⟨d, i, hu, -, hb, -⟩ := shapeOf.spec h
  unfold isAgg
  rw [Sem.run_bind, run_underlying hu w]
  cases d <;> simp_all [aggD]
theorem run_sizeOf' {T : TypeId} {b : Bool} {n : Nat} (h : shapeOf P T = some (b, n)) (w : World) : (Go.sizeOf T).run P w = .ok n w := by
  obtain ⟨d, i, -, hi, -, hs⟩ := shapeOf.spec h
  simp [Go.sizeOf, typeInfo, hi, hs]
theorem run_loadVar_agg {T : TypeId} {b off : Nat} {cs : List Value} {w : World} (h : shapeOf P T = some (true, cs.length)) (hc : ∀ j v, cs[j]? = some v → w.cell? ⟨b, off + j, none⟩ = some v) : (loadVar T ⟨b, off, none⟩).run P w = .ok (.agg ⟨cs⟩) w := by
  have hl : (loadCells ⟨b, off, none⟩ cs.length).run P w = .ok cs.toArray w :=
    run_loadCells_list (P := P) w ⟨b, off, none⟩ cs (fun j v hv => by
      have hadd : (⟨b, off, none⟩ : Addr).add j = ⟨b, off + j, none⟩ := by unfold Addr.add; split <;> simp_all
      rw [hadd]; exact hc j v hv)
  simp [loadVar, Sem.run_bind, run_isAgg h, run_sizeOf' h, hl]
end

section
variable {P : Program} {C : Ctx} {n : Nat} {s : AS} {o : Oper}

theorem AOp.move {x : Operand} {p : PV} (ho : o.op = .move x ∨ o.op = .assign x) (hd : dstOk o.dst n = true) (hx : s.ev x = some p) : AOp P C n o s (s.putO o.dst p) :=
  AOp.quiet (dstOk_lt hd) fun m a w hr => ⟨a.eval x, by unfold execOp; rcases ho with ho | ho <;> simp [ho], hr.eval hx⟩

theorem AOp.bin {op : BinOp} {T yT : TypeId} {x y : Operand} {u v r : Value} (ho : o.op = .binOp op T x y yT) (hd : dstOk o.dst n = true) (hx : s.ev x = some (.t (.leaf u))) (hy : s.ev y = some (.t (.leaf v)))
    (hrun : ∀ w, ((do eqGuard op T x y u v; binOp op T u v) : Sem Value).run P w = .ok r w) (hr : LeafOk r) : AOp P C n o s (s.putO o.dst (.t (.leaf r))) :=
  AOp.quiet (dstOk_lt hd) fun m a w h => by
    have h1 := (RepM.leaf_eq (h.eval hx)).1
    have h2 := (RepM.leaf_eq (h.eval hy)).1
    refine ⟨r, ?_, RepM.leaf hr⟩
    unfold execOp
    simp only [ho, h1, h2]
    rw [Sem.run_bind, hrun w]
    rfl

theorem AOp.addW {T yT : TypeId} {x y : Operand} {k : IntKind} {a b : Int} (ho : o.op = .binOp .add T x y yT) (hd : dstOk o.dst n = true) (hx : s.ev x = some (.t (.leaf (.int k a)))) (hy : s.ev y = some (.t (.leaf (.int k b)))) :
    AOp P C n o s (s.putO o.dst (.t (.leaf (.int k (k.wrap (a + b)))))) := AOp.bin ho hd hx hy (fun w => by simp [eqGuard, binOp, Op.intArith]) (wf_wrap k _)
theorem AOp.subW {T yT : TypeId} {x y : Operand} {k : IntKind} {a b : Int} (ho : o.op = .binOp .sub T x y yT) (hd : dstOk o.dst n = true) (hx : s.ev x = some (.t (.leaf (.int k a)))) (hy : s.ev y = some (.t (.leaf (.int k b)))) :
    AOp P C n o s (s.putO o.dst (.t (.leaf (.int k (k.wrap (a - b)))))) := AOp.bin ho hd hx hy (fun w => by simp [eqGuard, binOp, Op.intArith]) (wf_wrap k _)
theorem AOp.lss {T yT : TypeId} {x y : Operand} {k : IntKind} {a b : Int} (ho : o.op = .binOp .lss T x y yT) (hd : dstOk o.dst n = true) (hx : s.ev x = some (.t (.leaf (.int k a)))) (hy : s.ev y = some (.t (.leaf (.int k b)))) :
    AOp P C n o s (s.putO o.dst (.t (.leaf (.bool (decide (a < b)))))) := AOp.bin ho hd hx hy (fun w => by simp [eqGuard, binOp, Op.intCmp]) trivial
theorem AOp.eqlI {T yT : TypeId} {x y : Operand} {k : IntKind} {a b : Int} (ho : o.op = .binOp .eql T x y yT) (hd : dstOk o.dst n = true) (hx : s.ev x = some (.t (.leaf (.int k a)))) (hy : s.ev y = some (.t (.leaf (.int k b)))) :
    AOp P C n o s (s.putO o.dst (.t (.leaf (.bool (decide (a = b)))))) := AOp.bin ho hd hx hy (fun w => by simp [eqGuard, binOp, Op.intCmp]; rfl) trivial
theorem AOp.neqI {T yT : TypeId} {x y : Operand} {k : IntKind} {a b : Int} (ho : o.op = .binOp .neq T x y yT) (hd : dstOk o.dst n = true) (hx : s.ev x = some (.t (.leaf (.int k a)))) (hy : s.ev y = some (.t (.leaf (.int k b)))) :
    AOp P C n o s (s.putO o.dst (.t (.leaf (.bool (!decide (a = b)))))) := AOp.bin ho hd hx hy (fun w => by simp [eqGuard, binOp, Op.intCmp]; rfl) trivial
theorem AOp.addS {T yT : TypeId} {x y : Operand} {a b : ByteArray} (ho : o.op = .binOp .add T x y yT) (hd : dstOk o.dst n = true) (hx : s.ev x = some (.t (.leaf (.string a)))) (hy : s.ev y = some (.t (.leaf (.string b)))) (hb : a.size + b.size ≤ 9223372036854775807) :
    AOp P C n o s (s.putO o.dst (.t (.leaf (.string (a ++ b))))) := AOp.bin ho hd hx hy (fun w => by
      have h2 : ¬ ((a.size : Int) + (b.size : Int) > 9223372036854775807) := by omega
      have h3 : IntKind.max .i64 = 9223372036854775807 := by decide
      simp [eqGuard, binOp, Op.stringOp, h3]
      omega) (by show (a ++ b).size ≤ maxLen; rw [ByteArray.size_append]; unfold maxLen; omega)
/-- The data of a slice, whichever way it is held. -/
def rowOf : PV → Option (Nat × List (List Tr))
  | .t (.row sz es) => some (sz, es)
  | .acc sz es _ => some (sz, es)
  | .lit sz es => some (sz, es)
  | _ => none
theorem rowOf_rv {ok : Nat → Nat → Prop} {st : Sto} {m : Lay} {w : World} {p : PV} {sz : Nat} {es : List (List Tr)} {v : Value} (h : rowOf p = some (sz, es)) (hr : RV ok st m w p v) : RepM ok w (.row sz es) v := by
  unfold rowOf at h
  split at h
  · cases h; exact hr
  · cases h
    obtain ⟨row, -, -, -, h4, -⟩ := hr
    exact h4
  · cases h; exact hr.1
  · cases h
theorem AOp.len {T ty : TypeId} {x : Operand} {p : PV} {sz : Nat} {es : List (List Tr)} {E : Nat × Nat × Nat} (ho : o.op = .call { callee := .builtin .len, args := #[x], argTypes := #[T] }) (hd : dstOk o.dst n = true) (hx : s.ev x = some p) (hp : rowOf p = some (sz, es)) (hT : elemOf? P T = some E) :
    AOp P C n o s (s.putO o.dst (.t (.leaf (.int .i64 (es.length : Int))))) :=
  AOp.quiet (dstOk_lt hd) fun m a w h => by
    obtain ⟨ad, cap, h1, h2, h3⟩ := (rowOf_rv hp (h.eval hx)).shape
    obtain ⟨E1, E2, E3⟩ := E
    obtain ⟨i, hu, -, -, -⟩ := elemOf?.spec hT
    refine ⟨.int .i64 (es.length : Int), ?_, RepM.leaf (wf_i64 (by unfold maxLen at h3; omega))⟩
    unfold execOp
    simp [ho, resolve, invoke, builtin, h1, Builtin.len_, run_underlying hu, goInt]
end
end Go.Proofs.YtmpepccpnnldoaaDoor

namespace Go.Proofs.YtmpepccpnnldoaaDoor
set_option linter.unusedSimpArgs false
set_option linter.unusedVariables false
open Go.RowKit Go.WalkArith Go.IntWalk Go.WideShapes

def upd {α : Type} (f : Nat → α) (k : Nat) (v : α) : Nat → α := fun i => if i = k then v else f i
theorem upd_same {α : Type} (f : Nat → α) (k : Nat) (v : α) : upd f k v k = v := by simp [upd]
theorem upd_ne {α : Type} {f : Nat → α} {k i : Nat} {v : α} (h : i ≠ k) : upd f k v i = f i := by simp [upd, h]

theorem getElem?_snoc {α : Type} {l : List α} {x y : α} {i : Nat} (h : (l ++ [x])[i]? = some y) : (i < l.length ∧ l[i]? = some y) ∨ (i = l.length ∧ y = x) := by
  rcases Nat.lt_or_ge i l.length with hi | hi
  · rw [List.getElem?_append_left hi] at h
    exact .inl ⟨hi, h⟩
  · rw [List.getElem?_append_right hi] at h
    rcases hk : i - l.length with _ | k
    · rw [hk] at h
      simp at h
      exact .inr ⟨by omega, h.symm⟩
    · rw [hk] at h
      simp at h
theorem get_lt {α : Type} {l : List α} {y : α} {i : Nat} (h : l[i]? = some y) : i < l.length := (List.getElem?_eq_some_iff.1 h).1

theorem heap_other_cell {w w' : World} {b o : Nat} (h : w'.heap[b]? = w.heap[b]?) : w'.cell? ⟨b, o, none⟩ = w.cell? ⟨b, o, none⟩ := World.cell?_of_block (a := ⟨b, o, none⟩) h

theorem StoOk.box_lt {av : Nat → Nat → Prop} {st : Sto} {m : Lay} {w : World} (h : StoOk av st m w) {k : Nat} {x : PBox} (hx : st.boxes[k]? = some (some x)) : m.ρ k < w.heap.size := by
  obtain ⟨vs, h1, -⟩ := h.box k x hx
  exact h1.lt
theorem StoOk.row_lt {av : Nat → Nat → Prop} {st : Sto} {m : Lay} {w : World} (h : StoOk av st m w) {r : Nat} {row : PRow} {g c : Nat} (hr : st.rows[r]? = some row) (hg : m.γ r = some (g, c)) : g < w.heap.size := by
  obtain ⟨-, -, h1⟩ := h.row r row hr
  rcases h1 with ⟨h1, -⟩ | ⟨g', c', cur, h1, h2, -⟩
  · rw [hg] at h1; cases h1
  · rw [hg] at h1
    injection h1 with h1
    injection h1 with h1 h3
    subst h1
    exact h2.lt

/-- The world may be later: what is known of stores stays. -/
theorem Ev.later {st : Sto} {m : Lay} {w w' : World} (h : Ext w w') : Ev st m w st m w' :=
  ⟨h.os, h.tape, h.output, h.size, fun b hb _ _ => h.block b hb, fun b o hb _ => heap_other_cell (h.block b hb), fun _ _ _ h => h, fun _ x h => ⟨⟨x, h⟩, rfl⟩, fun _ x h => .inl ⟨x, h⟩, fun _ row h => ⟨row, h, rfl, Nat.le_refl _, fun _ => rfl, fun h => ⟨h, rfl⟩⟩, fun _ row _ c h h' => .inl ⟨row, c, h, h'⟩⟩
theorem RepM.ext {ok : Nat → Nat → Prop} {w w' : World} {t : Tr} {v : Value} (h : RepM ok w t v) (hx : Ext w w') : RepM ok w' t v := h.mono hx.size (fun _ _ _ h => h) (fun _ _ hb _ => heap_other_cell (hx.block _ hb))
theorem StoOk.later {av : Nat → Nat → Prop} {st : Sto} {m : Lay} {w w' : World} (h : StoOk av st m w) (hx : Ext w w') : StoOk av st m w' where
  box := fun k x hk => by
    obtain ⟨vs, h1, h2⟩ := h.box k x hk
    exact ⟨vs, h1.ext hx, RVL.mono (Ev.later hx) _ _ h2⟩
  binj := h.binj
  row := fun r row hr => by
    obtain ⟨h1, h2, h3⟩ := h.row r row hr
    refine ⟨h1, h2, ?_⟩
    rcases h3 with h3 | ⟨g, c, cur, k1, k2, k3, k4, k5, k6⟩
    · exact .inl h3
    · exact .inr ⟨g, c, cur, k1, k2.ext hx, k3, k4, k5, k6.ext hx⟩
  rinj := h.rinj
  br := h.br
  avlt := fun b o hb => Nat.lt_of_lt_of_le (h.avlt b o hb) hx.size
  avr := h.avr
  avb := h.avb

/-! ### A new box -/
def Sto.addBox (st : Sto) (x : PBox) : Sto := ⟨st.boxes ++ [some x], st.rows⟩
theorem addBox_live {st : Sto} {x y : PBox} {k : Nat} (h : (st.addBox x).boxes[k]? = some (some y)) : (k < st.boxes.length ∧ st.boxes[k]? = some (some y)) ∨ (k = st.boxes.length ∧ y = x) := by
  rcases getElem?_snoc h with h | ⟨h1, h2⟩
  · exact .inl h
  · exact .inr ⟨h1, Option.some.inj h2⟩
theorem ev_addBox {st : Sto} {m : Lay} {w : World} {x : PBox} {vs : Array Value} : Ev st m w (st.addBox x) ⟨upd m.ρ st.boxes.length w.heap.size, m.γ⟩ (w.alloc (.cells vs x.ty)) := by
  have hx : Ext w (w.alloc (.cells vs x.ty)) := .alloc (.refl _) _
  refine ⟨hx.os, hx.tape, hx.output, hx.size, fun b hb _ _ => hx.block b hb, fun b o hb _ => heap_other_cell (hx.block b hb), fun b o hb h => ⟨fun k y hk => ?_, h.2⟩, fun k y hk => ⟨⟨y, ?_⟩, ?_⟩, fun k y hk => ?_, fun _ row h => ⟨row, h, rfl, Nat.le_refl _, fun _ => rfl, fun h => ⟨h, rfl⟩⟩, fun _ row _ c h h' => .inl ⟨row, c, h, h'⟩⟩
  · rcases addBox_live hk with ⟨h1, h2⟩ | ⟨rfl, rfl⟩
    · simp only [upd_ne (show k ≠ st.boxes.length by omega)]
      exact h.1 k y h2
    · simp only [upd_same]
      omega
  · show (st.boxes ++ [some x])[k]? = _
    rw [List.getElem?_append_left (get_lt hk)]; exact hk
  · exact upd_ne (by have := get_lt hk; omega)
  · rcases addBox_live hk with ⟨h1, h2⟩ | ⟨rfl, rfl⟩
    · exact .inl ⟨y, h2⟩
    · exact .inr (by simp [upd_same])
theorem sto_addBox {av : Nat → Nat → Prop} {st : Sto} {m : Lay} {w : World} {x : PBox} {vs : List Value} (h : StoOk av st m w) (hc : RVL (okA av st m) st m w x.cells vs) :
    StoOk av (st.addBox x) ⟨upd m.ρ st.boxes.length w.heap.size, m.γ⟩ (w.alloc (.cells ⟨vs⟩ x.ty)) := by
  have hx : Ext w (w.alloc (.cells ⟨vs⟩ x.ty)) := .alloc (.refl _) _
  have he : Ev st m w (st.addBox x) ⟨upd m.ρ st.boxes.length w.heap.size, m.γ⟩ (w.alloc (.cells ⟨vs⟩ x.ty)) := ev_addBox
  have hw := fun k y (hk : st.boxes[k]? = some (some y)) => h.box_lt hk
  refine ⟨fun k y hk => ?_, fun k k' y y' hk hk' hne => ?_, fun r row hr => ?_, h.rinj, fun k y r row g c hk hr hg => ?_, fun b o hb => Nat.lt_of_lt_of_le (h.avlt b o hb) hx.size, h.avr, fun k y hk o ha => ?_⟩
  · rcases addBox_live hk with ⟨h1, h2⟩ | ⟨rfl, rfl⟩
    · obtain ⟨us, k1, k2⟩ := h.box k y h2
      simp only [upd_ne (show k ≠ st.boxes.length by omega)]
      exact ⟨us, k1.ext hx, RVL.mono he _ _ k2⟩
    · simp only [upd_same]
      exact ⟨vs, .of (OB.new w _ _), RVL.mono he _ _ hc⟩
  · rcases addBox_live hk with ⟨h1, h2⟩ | ⟨rfl, rfl⟩ <;> rcases addBox_live hk' with ⟨h1', h2'⟩ | ⟨rfl, rfl⟩
    · simp only [upd_ne (show k ≠ st.boxes.length by omega), upd_ne (show k' ≠ st.boxes.length by omega)]
      exact h.binj k k' y y' h2 h2' hne
    · simp only [upd_ne (show k ≠ st.boxes.length by omega), upd_same]
      have := hw k y h2
      omega
    · simp only [upd_ne (show k' ≠ st.boxes.length by omega), upd_same]
      have := hw k' y' h2'
      omega
    · exact absurd rfl hne
  · obtain ⟨k1, k2, k3⟩ := h.row r row hr
    refine ⟨k1, k2, ?_⟩
    rcases k3 with k3 | ⟨g, c, cur, q1, q2, q3, q4, q5, q6⟩
    · exact .inl k3
    · exact .inr ⟨g, c, cur, q1, q2.ext hx, q3, q4, q5, RV.mono he (.t _) _ q6⟩
  · rcases addBox_live hk with ⟨h1, h2⟩ | ⟨rfl, rfl⟩
    · simp only [upd_ne (show k ≠ st.boxes.length by omega)]
      exact h.br k y r row g c h2 hr hg
    · simp only [upd_same]
      have := h.row_lt hr hg
      omega
  · rcases addBox_live hk with ⟨h1, h2⟩ | ⟨rfl, rfl⟩
    · simp only [upd_ne (show k ≠ st.boxes.length by omega)] at ha
      exact h.avb k y h2 o ha
    · simp only [upd_same] at ha
      have := h.avlt _ _ ha
      omega

/-! ### A box is written -/
/-! ### A row grows -/
def Sto.setRow (st : Sto) (r : Nat) (row : PRow) : Sto := ⟨st.boxes, st.rows.set r row⟩
theorem setRow_live {st : Sto} {x y : PRow} {k i : Nat} (h : (st.setRow k x).rows[i]? = some y) : (i ≠ k ∧ st.rows[i]? = some y) ∨ (i = k ∧ y = x) := by
  have h : (st.rows.set k x)[i]? = some y := h
  rw [List.getElem?_set] at h
  split at h
  · rename_i hik
    split at h
    · exact .inr ⟨hik.symm, by simpa using h.symm⟩
    · cases h
  · rename_i hik
    exact .inl ⟨fun e => hik e.symm, h⟩

/-- A row has come to hold more: at the place (g, c); the row's old place, if it had one, is the same or is left alone. -/
structure Grow (av : Nat → Nat → Prop) (st : Sto) (m : Lay) (w : World) (r : Nat) (row : PRow) (es2 : List (List Tr)) (g c : Nat) (cur : Array Value) (w1 : World) : Prop where
  live : st.rows[r]? = some row
  os : w1.os = w.os
  tape : w1.tape = w.tape
  output : w1.output = w.output
  size : w.heap.size ≤ w1.heap.size
  blk : ∀ b, b < w.heap.size → b ≠ g → w1.heap[b]? = w.heap[b]?
  ob : OB w1 g row.E cur
  csz : cur.size = c * row.sz
  fit : row.es.length + es2.length ≤ c
  max : c ≤ maxLen
  lens : ∀ e ∈ es2, e.length = row.sz
  old : ∀ i e, row.es[i]? = some e → ∀ j d, e[j]? = some d → ∃ v, cur[i * row.sz + j]? = some v ∧ RepM (okA av st m) w d v
  new : ∀ i e, es2[i]? = some e → ∀ j d, e[j]? = some d → ∃ v, cur[(row.es.length + i) * row.sz + j]? = some v ∧ RepM (okA av st m) w d v
  place : (∃ c0 cur0, m.γ r = some (g, c0) ∧ OB w g row.E cur0 ∧ ∀ o, o < row.es.length * row.sz → cur[o]? = cur0[o]?) ∨ w.heap.size ≤ g
  cap : row.whole = true ∨ es2 = [] → m.γ r = some (g, c)

theorem Grow.ev {av : Nat → Nat → Prop} {st : Sto} {m : Lay} {w : World} {r : Nat} {row : PRow} {es2 : List (List Tr)} {g c : Nat} {cur : Array Value} {w1 : World} (h : Grow av st m w r row es2 g c cur w1) (hst : StoOk av st m w) :
    Ev st m w (st.setRow r { row with es := row.es ++ es2 }) ⟨m.ρ, upd m.γ r (some (g, c))⟩ w1 := by
  have hg : ∀ b, b < w.heap.size → b = g → ∃ c0, m.γ r = some (g, c0) := fun b hb e => by
    rcases h.place with ⟨c0, cur0, h1, -⟩ | h1
    · exact ⟨c0, h1⟩
    · omega
  refine ⟨h.os, h.tape, h.output, h.size, fun b hb _ h2 => h.blk b hb fun e => ?_, fun b o hb hk => ?_, fun b o hb hk => ⟨hk.1, fun i row' g' c' hi hg' e => ?_⟩, fun k x hk => ⟨⟨x, hk⟩, rfl⟩, fun k x hk => .inl ⟨x, hk⟩, fun i row' hi => ?_, fun i row' g' c' hi hg' => ?_⟩
  · obtain ⟨c0, h1⟩ := hg b hb e
    exact h2 r row g c0 h.live h1 e.symm
  · by_cases e : b = g
    · subst e
      rcases h.place with ⟨c0, cur0, h1, h2, h3⟩ | h1
      · have ho := hk.2 r row b c0 h.live h1 rfl
        rw [h.ob.cell, h2.cell, h3 o ho]
      · omega
    · exact heap_other_cell (h.blk b hb e)
  · rcases setRow_live hi with ⟨h1, h2⟩ | ⟨rfl, rfl⟩
    · simp only [upd_ne h1] at hg'
      exact hk.2 i row' g' c' h2 hg' e
    · simp only [upd_same, Option.some.injEq, Prod.mk.injEq] at hg'
      obtain ⟨rfl, rfl⟩ := hg'
      subst e
      obtain ⟨c0, h1⟩ := hg _ hb rfl
      have := hk.2 _ row _ c0 h.live h1 rfl
      simp only [List.length_append]
      exact Nat.lt_of_lt_of_le this (Nat.mul_le_mul_right _ (by omega))
  · by_cases e : i = r
    · subst e
      rw [h.live] at hi
      cases hi
      refine ⟨{ row with es := row.es ++ es2 }, by show (st.rows.set i _)[i]? = _; simp [List.getElem?_set, get_lt h.live], rfl, by simp, fun he => ?_, fun hw => ⟨hw, ?_⟩⟩
      · simp only [upd_same]
        exact (h.cap (.inr (by simpa using he))).symm
      · simp only [upd_same]
        exact (h.cap (.inl hw)).symm
    · refine ⟨row', by show (st.rows.set r _)[i]? = _; rw [List.getElem?_set, if_neg (fun e' => e e'.symm)]; exact hi, rfl, Nat.le_refl _, fun _ => upd_ne e, fun hw => ⟨hw, upd_ne e⟩⟩
  · rcases setRow_live hi with ⟨h1, h2⟩ | ⟨rfl, rfl⟩
    · simp only [upd_ne h1] at hg'
      exact .inl ⟨row', c', h2, hg'⟩
    · simp only [upd_same, Option.some.injEq, Prod.mk.injEq] at hg'
      obtain ⟨rfl, rfl⟩ := hg'
      rcases h.place with ⟨c0, cur0, h1, -⟩ | h1
      · exact .inl ⟨row, c0, h.live, h1⟩
      · exact .inr h1

theorem Grow.sto {av : Nat → Nat → Prop} {st : Sto} {m : Lay} {w : World} {r : Nat} {row : PRow} {es2 : List (List Tr)} {g c : Nat} {cur : Array Value} {w1 : World} (h : Grow av st m w r row es2 g c cur w1) (hst : StoOk av st m w) :
    StoOk av (st.setRow r { row with es := row.es ++ es2 }) ⟨m.ρ, upd m.γ r (some (g, c))⟩ w1 := by
  have he := h.ev hst
  have hgn : ∀ i row' c', i ≠ r → st.rows[i]? = some row' → m.γ i = some (g, c') → False := fun i row' c' hne hi hg => by
    rcases h.place with ⟨c0, cur0, h1, -⟩ | h1
    · exact hne (hst.rinj i r row' row g c' c0 hi h.live hg h1)
    · have := hst.row_lt hi hg; omega
  have hbn : ∀ k x, st.boxes[k]? = some (some x) → m.ρ k ≠ g := fun k x hk e => by
    rcases h.place with ⟨c0, cur0, h1, -⟩ | h1
    · exact hst.br k x r row g c0 hk h.live h1 e
    · have := hst.box_lt hk; omega
  have hav : ∀ o, ¬ av g o := fun o ha => by
    rcases h.place with ⟨c0, cur0, h1, -⟩ | h1
    · exact hst.avr r row g c0 h.live h1 o ha
    · have := hst.avlt _ _ ha; omega
  obtain ⟨hpos, hlens, -⟩ := hst.row r row h.live
  refine ⟨fun k x hk => ?_, hst.binj, fun i row' hi => ?_, fun i i' row' row'' g' c' c'' hi hi' hg hg' => ?_, fun k x i row' g' c' hk hi hg => ?_, fun b o hb => Nat.lt_of_lt_of_le (hst.avlt b o hb) h.size, fun i row' g' c' hi hg o => ?_, hst.avb⟩
  · obtain ⟨vs, k1, k2⟩ := hst.box k x hk
    exact ⟨vs, k1.keep (h.blk _ k1.lt (hbn k x hk)), RVL.mono he _ _ k2⟩
  · rcases setRow_live hi with ⟨h1, h2⟩ | ⟨rfl, rfl⟩
    · obtain ⟨k1, k2, k3⟩ := hst.row i row' h2
      refine ⟨k1, k2, ?_⟩
      simp only [upd_ne h1]
      rcases k3 with k3 | ⟨g', c', cur', q1, q2, q3, q4, q5, q6⟩
      · exact .inl k3
      · refine .inr ⟨g', c', cur', q1, (h.blk g' q2.lt (fun e => ?_)).trans q2, q3, q4, q5, RV.mono he (.t _) _ q6⟩
        subst e
        exact hgn i row' c' h1 h2 q1
    · refine ⟨hpos, fun e he' => ?_, .inr ⟨g, c, cur, upd_same _ _ _, h.ob, h.csz, by simpa using h.fit, h.max, ?_⟩⟩
      · rcases List.mem_append.1 he' with h1 | h1
        · exact hlens e h1
        · exact h.lens e h1
      · have hget : ∀ q e, (row.es ++ es2)[q]? = some e → ∀ j d, e[j]? = some d → ∃ v, cur[q * row.sz + j]? = some v ∧ RepM (okA av st m) w d v := fun q e hq j d hd => by
          rcases Nat.lt_or_ge q row.es.length with hlt | hge
          · rw [List.getElem?_append_left hlt] at hq
            exact h.old q e hq j d hd
          · rw [List.getElem?_append_right hge] at hq
            have := h.new _ e hq j d hd
            rwa [show row.es.length + (q - row.es.length) = q by omega] at this
        have hlen2 : ∀ q e, (row.es ++ es2)[q]? = some e → q < (row.es ++ es2).length ∧ e.length = row.sz := fun q e hq => by
          refine ⟨get_lt hq, ?_⟩
          rcases List.mem_append.1 (List.mem_of_getElem? hq) with h1 | h1
          · exact hlens e h1
          · exact h.lens e h1
        refine RepM.row (es := row.es ++ es2) (fun q j => (cur[q * row.sz + j]?).getD undef) (by simpa using h.fit) h.max (fun _ => ⟨g, 0, rfl, h.ob.lt, fun q e hq j d hd => ⟨?_, ?_⟩⟩) (fun q e hq j d hd => ?_)
        · rw [Nat.zero_add]
          refine ⟨hav _, fun k x hk => hbn k x hk, fun i' row' g' c' hi' hg' e' => ?_⟩
          rcases setRow_live hi' with ⟨h1, h2⟩ | ⟨rfl, rfl⟩
          · simp only [upd_ne h1] at hg'
            subst e'
            exact (hgn i' row' c' h1 h2 hg').elim
          · obtain ⟨h1, h2⟩ := hlen2 q e hq
            have hj := get_lt hd
            show q * row.sz + j < (row.es ++ es2).length * row.sz
            have : (q + 1) * row.sz ≤ (row.es ++ es2).length * row.sz := Nat.mul_le_mul_right _ h1
            rw [Nat.succ_mul] at this
            omega
        · obtain ⟨v, hv, -⟩ := hget q e hq j d hd
          rw [Nat.zero_add, h.ob.cell, hv]
          rfl
        · obtain ⟨v, hv, hr⟩ := hget q e hq j d hd
          rw [hv]
          exact RV.mono he (.t d) _ hr
  · rcases setRow_live hi with ⟨h1, h2⟩ | ⟨rfl, rfl⟩ <;> rcases setRow_live hi' with ⟨h1', h2'⟩ | ⟨rfl, rfl⟩
    · simp only [upd_ne h1] at hg
      simp only [upd_ne h1'] at hg'
      exact hst.rinj i i' row' row'' g' c' c'' h2 h2' hg hg'
    · simp only [upd_ne h1] at hg
      simp only [upd_same, Option.some.injEq, Prod.mk.injEq] at hg'
      obtain ⟨rfl, rfl⟩ := hg'
      exact (hgn i row' c' h1 h2 hg).elim
    · simp only [upd_ne h1'] at hg'
      simp only [upd_same, Option.some.injEq, Prod.mk.injEq] at hg
      obtain ⟨rfl, rfl⟩ := hg
      exact (hgn i' row'' c'' h1' h2' hg').elim
    · rfl
  · rcases setRow_live hi with ⟨h1, h2⟩ | ⟨rfl, rfl⟩
    · simp only [upd_ne h1] at hg
      exact hst.br k x i row' g' c' hk h2 hg
    · simp only [upd_same, Option.some.injEq, Prod.mk.injEq] at hg
      obtain ⟨rfl, rfl⟩ := hg
      exact hbn k x hk
  · rcases setRow_live hi with ⟨h1, h2⟩ | ⟨rfl, rfl⟩
    · simp only [upd_ne h1] at hg
      exact hst.avr i row' g' c' h2 hg o
    · simp only [upd_same, Option.some.injEq, Prod.mk.injEq] at hg
      obtain ⟨rfl, rfl⟩ := hg
      exact hav o

/-! ### A row comes to be -/
def Sto.addRow (st : Sto) (row : PRow) : Sto := ⟨st.boxes, st.rows ++ [row]⟩
end Go.Proofs.YtmpepccpnnldoaaDoor

namespace Go.Proofs.YtmpepccpnnldoaaDoor
set_option linter.unusedSimpArgs false
set_option linter.unusedVariables false
open Go.RowKit Go.WalkArith Go.IntWalk Go.WideShapes

theorem RepM.one {ok : Nat → Nat → Prop} {w : World} {t : Tr} {v : Value} (h : RepM ok w t v) : v.oneCell' = true := h.rep.one
def zerosOf (P : Program) (T : TypeId) : Option (List PV) := match P.info? T with
  | some i => match i.zero with
    | some z => z.cells.toList.mapM constPV
    | none => none
  | none => none
theorem mapM_constPV {ok : Nat → Nat → Prop} {st : Sto} {m : Lay} {w : World} : ∀ {vs : List Value} {ps : List PV}, vs.mapM constPV = some ps → RVL ok st m w ps vs
  | [], ps, h => by
    simp at h
    subst h
    trivial
  | v :: vs, ps, h => by
    rw [List.mapM_cons] at h
    cases h1 : constPV v with
    | none => simp [h1] at h
    | some p =>
      cases h2 : vs.mapM constPV with
      | none => simp [h1, h2] at h
      | some qs =>
        simp [h1, h2] at h
        subst h
        exact ⟨constPV_rv h1, mapM_constPV h2⟩
theorem zerosOf.spec {P : Program} {T : TypeId} {ps : List PV} (h : zerosOf P T = some ps) : ∃ i z, P.info? T = some i ∧ i.zero = some z ∧ ∀ ok st m w, RVL ok st m w ps z.cells.toList := by
  unfold zerosOf at h
  split at h
  · rename_i i hi
    split at h
    · rename_i z hz
      exact ⟨i, z, hi, hz, fun _ _ _ _ => mapM_constPV h⟩
    · cases h
  · cases h

section
variable {P : Program} {C : Ctx} {n : Nat} {s : AS} {o : Oper}

theorem AOp.run {s1 : AS} {p : PV} (hd : dstOk o.dst n = true) (h : ∀ m a w, RA C n s m a w → ∃ v m1 w1, (execOp a.eval o).run P w = .ok (.value v) w1 ∧ Ev s.st m w s1.st m1 w1 ∧ StoOk C.av s1.st m1 w1 ∧ RV (okA C.av s1.st m1) s1.st m1 w1 p v)
    (he : s1.env = s.env) : AOp P C n o s (s1.putO o.dst p) := fun m a w hr K Q hK => by
  obtain ⟨v, m1, w1, h1, h2, h3, h4⟩ := h m a w hr
  unfold Oper.wp
  rw [h1]
  obtain ⟨env1, st1⟩ := s1
  cases he
  exact hK m1 _ w1 ((hr.step h2 h3).put (dstOk_lt hd) h4)
theorem AOp.alloc {T : TypeId} {ps : List PV} (ho : o.op = .alloc T) (hd : dstOk o.dst n = true) (hz : zerosOf P T = some ps) : AOp P C n o s ((⟨s.env, s.st.addBox ⟨T, ps⟩⟩ : AS).putO o.dst (.ptr s.st.boxes.length 0)) :=
  AOp.run hd (s1 := ⟨s.env, s.st.addBox ⟨T, ps⟩⟩) (fun m a w h => by
    obtain ⟨i, z, hi, hzz, hr⟩ := zerosOf.spec hz
    refine ⟨.pointer (some ⟨w.heap.size, 0, none⟩), _, w.alloc (.cells ⟨z.cells.toList⟩ T), ?_, ev_addBox (x := ⟨T, ps⟩), sto_addBox (x := ⟨T, ps⟩) h.sto (hr _ _ _ _), ⟨⟨T, ps⟩, by simp [Sto.addBox]⟩, by simp [upd_same]⟩
    unfold execOp
    simp [ho, Instr.alloc, zeroValue, typeInfo, hi, hzz, newVar, newRow]) rfl

/-- The cells that a value takes. -/
def cellsP : PV → List PV
  | .agg cs => cs
  | p => [p]
theorem cellsP_rv {ok : Nat → Nat → Prop} {st : Sto} {m : Lay} {w : World} {p : PV} {v : Value} (h : RV ok st m w p v) (ht : ∀ ps, p ≠ .tup ps) : RVL ok st m w (cellsP p) v.cells.toList := by
  cases p with
  | agg cs =>
    obtain ⟨vs, rfl, h1⟩ := h
    exact h1
  | tup ps => exact absurd rfl (ht ps)
  | t t =>
    have h0 : RepM ok w t v := h
    have hv : v.cells = #[v] := by
      cases h0 with
      | leaf hl => cases v <;> first | rfl | exact hl.elim
      | row => rfl
    rw [hv]; exact ⟨h, trivial⟩
  | nil => obtain rfl := (show v = _ from h); exact ⟨rfl, trivial⟩
  | acc sz es r =>
    obtain ⟨row, h1, h2, h3, h4, h5⟩ := h
    obtain ⟨ad, cap, rfl, -, -⟩ := h4.shape
    exact ⟨⟨row, h1, h2, h3, h4, h5⟩, trivial⟩
  | ptr k d =>
    obtain ⟨h1, rfl⟩ := h
    exact ⟨⟨h1, rfl⟩, trivial⟩
  | eptr cs =>
    obtain ⟨b, off, rfl, h2⟩ := h
    exact ⟨⟨b, off, rfl, h2⟩, trivial⟩
  | fn f cs =>
    obtain ⟨vs, rfl, h2⟩ := h
    exact ⟨⟨vs, rfl, h2⟩, trivial⟩
  | full sz k r =>
    obtain ⟨row, g, h1, h2, h3, h4, rfl⟩ := h
    exact ⟨⟨row, g, h1, h2, h3, h4, rfl⟩, trivial⟩
  | rptr r i =>
    obtain ⟨row, g, k, h1, h3, h4, rfl⟩ := h
    exact ⟨⟨row, g, k, h1, h3, h4, rfl⟩, trivial⟩
  | lit sz es =>
    obtain ⟨h1, ad, rfl⟩ := h
    exact ⟨⟨h1, ad, rfl⟩, trivial⟩
  | bsl k n =>
    obtain ⟨h1, rfl⟩ := h
    exact ⟨⟨h1, rfl⟩, trivial⟩
  | gsl k n =>
    obtain ⟨h1, c, hc, hm, rfl⟩ := h
    exact ⟨⟨h1, c, hc, hm, rfl⟩, trivial⟩
def notTup : PV → Bool
  | .tup _ => false
  | _ => true
theorem notTup.ne {p : PV} (h : notTup p = true) : ∀ ps, p ≠ .tup ps := by rintro ps rfl; cases h
theorem RV.oneCell {ok : Nat → Nat → Prop} {st : Sto} {m : Lay} {w : World} {p : PV} {v : Value} (h : RV ok st m w p v) (ht : cellsP p = [p]) (htt : notTup p = true) : v.oneCell' = true := by
  cases p with
  | agg cs =>
    exfalso
    simp only [cellsP] at ht
    have := congrArg (fun l : List PV => SizeOf.sizeOf l) ht
    simp at this
    omega
  | tup ps => cases htt
  | t t => exact RepM.one h
  | nil => obtain rfl := (show v = _ from h); rfl
  | acc sz es r =>
    obtain ⟨row, h1, h2, h3, h4, h5⟩ := h
    exact h4.one
  | ptr k d => obtain ⟨h1, rfl⟩ := h; rfl
  | eptr cs => obtain ⟨b, off, rfl, h2⟩ := h; rfl
  | fn f cs => obtain ⟨vs, rfl, h2⟩ := h; rfl
  | full sz k r => obtain ⟨row, g, h1, h2, h3, h4, rfl⟩ := h; rfl
  | rptr r i => obtain ⟨row, g, k, h1, h3, h4, rfl⟩ := h; rfl
  | lit sz es => exact RepM.one h.1
  | bsl k n => obtain ⟨h1, rfl⟩ := h; rfl
  | gsl k n => obtain ⟨h1, c, hc, hm, rfl⟩ := h; rfl
/-- Cells that are cells. -/
def flatP : List PV → Bool
  | [] => true
  | .agg _ :: _ => false
  | .tup _ :: _ => false
  | _ :: ps => flatP ps
theorem flatP.one {ok : Nat → Nat → Prop} {st : Sto} {m : Lay} {w : World} : ∀ {ps : List PV} {vs : List Value}, flatP ps = true → RVL ok st m w ps vs → ∀ v ∈ vs, v.oneCell' = true
  | [], [], _, _, v, hv => by cases hv
  | p :: ps, u :: vs, hf, h, v, hv => by
    have h2 : flatP ps = true := by cases p <;> first | exact hf | cases hf
    rcases List.mem_cons.1 hv with rfl | hv
    · cases p with
      | agg cs => cases hf
      | tup cs => cases hf
      | _ => exact h.1.oneCell rfl rfl
    · exact flatP.one h2 h.2 v hv
  | [], _ :: _, _, h, _, _ => h.elim
  | _ :: _, [], _, h, _, _ => h.elim

theorem AOp.box {T : TypeId} {x : Operand} {p : PV} {cs : List PV} (ho : o.op = .box T x) (hd : dstOk o.dst n = true) (hx : s.ev x = some p) (hc : cellsP p = cs) (ht : notTup p = true) : AOp P C n o s ((⟨s.env, s.st.addBox ⟨T, cs⟩⟩ : AS).putO o.dst (.ptr s.st.boxes.length 0)) :=
  AOp.run hd (s1 := ⟨s.env, s.st.addBox ⟨T, cs⟩⟩) (fun m a w h => by
    subst hc
    have hr := cellsP_rv (h.eval hx) (notTup.ne ht)
    refine ⟨.pointer (some ⟨w.heap.size, 0, none⟩), _, w.alloc (.cells ⟨(a.eval x).cells.toList⟩ T), ?_, ev_addBox (x := ⟨T, cellsP p⟩), sto_addBox (x := ⟨T, cellsP p⟩) h.sto hr, ⟨⟨T, cellsP p⟩, by simp [Sto.addBox]⟩, by simp [upd_same]⟩
    unfold execOp
    simp [ho, Instr.box, newVar, newRow]) rfl

theorem RVL.splice {ok : Nat → Nat → Prop} {st : Sto} {m : Lay} {w : World} {ps qs : List PV} {vs us : List Value} (h : RVL ok st m w ps vs) (k : RVL ok st m w qs us) (d : Nat) : RVL ok st m w (ps.take d ++ qs ++ ps.drop (d + qs.length)) (splice ⟨vs⟩ d us).toList := by
  have := RVL.append (RVL.append (h.take d) k) (h.drop (d + qs.length))
  rw [k.length] at this ⊢
  simpa [Go.Proofs.YtmpepccpnnldoaaDoor.splice] using this

end
end Go.Proofs.YtmpepccpnnldoaaDoor

namespace Go.Proofs.YtmpepccpnnldoaaDoor
set_option linter.unusedSimpArgs false
set_option linter.unusedVariables false
open Go.RowKit Go.WalkArith Go.IntWalk Go.WideShapes

mutual
inductive PV.Le : PV → PV → Prop
  | refl (p : PV) : PV.Le p p
  | nil (sz : Nat) : PV.Le .nil (.t (.row sz []))
  | acc (sz : Nat) (es : List (List Tr)) (r : Nat) : PV.Le (.acc sz es r) (.t (.row sz es))
  | lit (sz : Nat) (es : List (List Tr)) : PV.Le (.lit sz es) (.t (.row sz es))
  | nilLit (sz : Nat) : PV.Le .nil (.lit sz [])
  | agg {ps qs : List PV} : LeL ps qs → PV.Le (.agg ps) (.agg qs)
  | tup {ps qs : List PV} : LeL ps qs → PV.Le (.tup ps) (.tup qs)
inductive LeL : List PV → List PV → Prop
  | nil : LeL [] []
  | cons {p q : PV} {ps qs : List PV} : PV.Le p q → LeL ps qs → LeL (p :: ps) (q :: qs)
end
mutual
theorem PV.Le.rv {ok : Nat → Nat → Prop} {st : Sto} {m : Lay} {w : World} : ∀ {p q : PV} {v : Value}, PV.Le p q → RV ok st m w p v → RV ok st m w q v
  | _, _, _, .refl _, h => h
  | _, _, _, .nil _, h => by
    obtain rfl := (show _ = _ from h)
    exact RepM.row (es := []) (fun _ _ => undef) (by simp) (by unfold maxLen; omega) (by simp) (by simp)
  | _, _, _, .acc _ _ _, h => by
    obtain ⟨row, -, -, -, h4, -⟩ := h
    exact h4
  | _, _, _, .lit _ _, h => h.1
  | _, _, _, .nilLit _, h => by
    obtain rfl := (show _ = _ from h)
    exact ⟨RepM.row (es := []) (fun _ _ => undef) (by simp) (by unfold maxLen; omega) (by simp) (by simp), none, rfl⟩
  | _, _, _, .agg k, h => by
    obtain ⟨vs, hv, h1⟩ := h
    exact ⟨vs, hv, LeL.rv k h1⟩
  | _, _, _, .tup k, h => by
    obtain ⟨vs, hv, h1⟩ := h
    exact ⟨vs, hv, LeL.rv k h1⟩
theorem LeL.rv {ok : Nat → Nat → Prop} {st : Sto} {m : Lay} {w : World} : ∀ {ps qs : List PV} {vs : List Value}, LeL ps qs → RVL ok st m w ps vs → RVL ok st m w qs vs
  | _, _, [], .nil, h => h
  | _, _, _ :: _, .nil, h => h.elim
  | _, _, [], .cons _ _, h => h.elim
  | _, _, _ :: _, .cons k1 k2, h => ⟨PV.Le.rv k1 h.1, LeL.rv k2 h.2⟩
end

mutual
/-- What the value leans on is there. -/
def PV.okIn (st : Sto) : PV → Bool
  | .t _ => true
  | .agg cs => okInL st cs
  | .tup cs => okInL st cs
  | .nil => true
  | .acc _ _ r => decide (r < st.rows.length)
  | .ptr k _ => match st.boxes[k]? with | some (some _) => true | _ => false
  | .eptr _ => true
  | .fn _ cs => okInL st cs
  | .full _ _ r => decide (r < st.rows.length)
  | .rptr r _ => decide (r < st.rows.length)
  | .lit _ _ => true
  | .bsl k _ => match st.boxes[k]? with | some (some _) => true | _ => false
  | .gsl k _ => match st.boxes[k]? with | some (some _) => true | _ => false
def okInL (st : Sto) : List PV → Bool
  | [] => true
  | p :: ps => PV.okIn st p && okInL st ps
end

/-- A store that says less. -/
structure StLe (st st' : Sto) : Prop where
  boxes : ∀ (k : Nat) (x' : PBox), st'.boxes[k]? = some (some x') → ∃ x : PBox, st.boxes[k]? = some (some x) ∧ x.ty = x'.ty ∧ LeL x.cells x'.cells ∧ okInL st' x'.cells = true
  rows : ∀ (r : Nat) (row' : PRow), st'.rows[r]? = some row' → st.rows[r]? = some row'
/-- A store with fewer boxes and rows; of the boxes' contents nothing is said. -/
structure StSub (st st' : Sto) : Prop where
  boxes : ∀ (k : Nat) (x' : PBox), st'.boxes[k]? = some (some x') → ∃ x : PBox, st.boxes[k]? = some (some x)
  rows : ∀ (r : Nat) (row' : PRow), st'.rows[r]? = some row' → st.rows[r]? = some row'
theorem StLe.sub {st st' : Sto} (h : StLe st st') : StSub st st' := ⟨fun k x hk => by obtain ⟨y, hy, -⟩ := h.boxes k x hk; exact ⟨y, hy⟩, h.rows⟩
theorem StSub.ok {av : Nat → Nat → Prop} {st st' : Sto} (h : StSub st st') {m : Lay} {b o : Nat} (k : okA av st m b o) : okA av st' m b o :=
  ⟨k.1, fun i x hi => by obtain ⟨y, hy⟩ := h.boxes i x hi; exact k.2.1 i y hy, fun r row g c hr => k.2.2 r row g c (h.rows r row hr)⟩
theorem StLe.ok {av : Nat → Nat → Prop} {st st' : Sto} (h : StLe st st') {m : Lay} {b o : Nat} (k : okA av st m b o) : okA av st' m b o := h.sub.ok k
theorem get_of_lt {α : Type} {l : List α} {i : Nat} (h : i < l.length) : ∃ x, l[i]? = some x := ⟨l[i], List.getElem?_eq_getElem h⟩
mutual
theorem StSub.rv {av : Nat → Nat → Prop} {st st' : Sto} (h : StSub st st') {m : Lay} {w : World} : ∀ (p : PV) (v : Value), PV.okIn st' p = true → RV (okA av st m) st m w p v → RV (okA av st' m) st' m w p v
  | .t t, v, _, hr => RepM.mono hr (Nat.le_refl _) (fun _ _ _ k => h.ok k) (fun _ _ _ _ => rfl)
  | .agg cs, v, hk, hr => by
    obtain ⟨vs, rfl, hl⟩ := hr
    exact ⟨vs, rfl, StSub.rvL h cs vs hk hl⟩
  | .tup cs, v, hk, hr => by
    obtain ⟨vs, rfl, hl⟩ := hr
    exact ⟨vs, rfl, StSub.rvL h cs vs hk hl⟩
  | .nil, v, _, hr => hr
  | .acc sz es r, v, hk, hr => by
    obtain ⟨row, h1, h2, h3, h4, h5⟩ := hr
    obtain ⟨row', hr'⟩ := get_of_lt (of_decide_eq_true hk)
    have := h.rows r row' hr'
    rw [h1] at this
    cases this
    exact ⟨row, hr', h2, h3, RepM.mono h4 (Nat.le_refl _) (fun _ _ _ k => h.ok k) (fun _ _ _ _ => rfl), h5⟩
  | .ptr k off, v, hk, hr => by
    obtain ⟨-, hv⟩ := hr
    refine ⟨?_, hv⟩
    simp only [PV.okIn] at hk
    split at hk
    · rename_i x hx
      exact ⟨x, hx⟩
    · cases hk
  | .eptr cs, v, _, hr => by
    obtain ⟨b, off, h1, hb, c, h2⟩ := hr
    refine ⟨b, off, h1, hb, c, fun j d hd => ?_⟩
    obtain ⟨k1, k2, k3⟩ := h2 j d hd
    exact ⟨h.ok k1, k2, RepM.mono k3 (Nat.le_refl _) (fun _ _ _ k => h.ok k) (fun _ _ _ _ => rfl)⟩
  | .fn f caps, v, hk, hr => by
    obtain ⟨vs, rfl, hl⟩ := hr
    exact ⟨vs, rfl, StSub.rvL h caps vs hk hl⟩
  | .full sz n r, v, hk, hr => by
    obtain ⟨row, g, h1, h2, h3, h4, h5⟩ := hr
    obtain ⟨row', hr'⟩ := get_of_lt (of_decide_eq_true hk)
    have := h.rows r row' hr'
    rw [h1] at this
    cases this
    exact ⟨row, g, hr', h2, h3, h4, h5⟩
  | .rptr r i, v, hk, hr => by
    obtain ⟨row, g, n, h1, h3, h4, h5⟩ := hr
    obtain ⟨row', hr'⟩ := get_of_lt (of_decide_eq_true hk)
    have := h.rows r row' hr'
    rw [h1] at this
    cases this
    exact ⟨row, g, n, hr', h3, h4, h5⟩
  | .lit sz es, v, _, hr => ⟨RepM.mono hr.1 (Nat.le_refl _) (fun _ _ _ k => h.ok k) (fun _ _ _ _ => rfl), hr.2⟩
  | .bsl k n, v, hk, hr => by
    obtain ⟨-, hv⟩ := hr
    refine ⟨?_, hv⟩
    simp only [PV.okIn] at hk
    split at hk
    · rename_i x hx
      exact ⟨x, hx⟩
    · cases hk
  | .gsl k n, v, hk, hr => by
    obtain ⟨-, hv⟩ := hr
    refine ⟨?_, hv⟩
    simp only [PV.okIn] at hk
    split at hk
    · rename_i x hx
      exact ⟨x, hx⟩
    · cases hk
theorem StSub.rvL {av : Nat → Nat → Prop} {st st' : Sto} (h : StSub st st') {m : Lay} {w : World} : ∀ (ps : List PV) (vs : List Value), okInL st' ps = true → RVL (okA av st m) st m w ps vs → RVL (okA av st' m) st' m w ps vs
  | [], [], _, hr => hr
  | p :: ps, v :: vs, hk, hr => by
    simp only [okInL, Bool.and_eq_true] at hk
    exact ⟨StSub.rv h p v hk.1 hr.1, StSub.rvL h ps vs hk.2 hr.2⟩
  | [], _ :: _, _, hr => hr.elim
  | _ :: _, [], _, hr => hr.elim
end
theorem StLe.rv {av : Nat → Nat → Prop} {st st' : Sto} (h : StLe st st') {m : Lay} {w : World} (p : PV) (v : Value) : PV.okIn st' p = true → RV (okA av st m) st m w p v → RV (okA av st' m) st' m w p v := h.sub.rv p v
theorem StLe.rvL {av : Nat → Nat → Prop} {st st' : Sto} (h : StLe st st') {m : Lay} {w : World} (ps : List PV) (vs : List Value) : okInL st' ps = true → RVL (okA av st m) st m w ps vs → RVL (okA av st' m) st' m w ps vs := h.sub.rvL ps vs
theorem StLe.sto {av : Nat → Nat → Prop} {st st' : Sto} (h : StLe st st') {m : Lay} {w : World} (k : StoOk av st m w) : StoOk av st' m w where
  box := fun i x hi => by
    obtain ⟨y, hy, ht, hl, hk⟩ := h.boxes i x hi
    obtain ⟨vs, h1, h2⟩ := k.box i y hy
    exact ⟨vs, by rw [← ht]; exact h1, StLe.rvL h _ _ hk (LeL.rv hl h2)⟩
  binj := fun i i' x x' hi hi' => by
    obtain ⟨y, hy, -⟩ := h.boxes i x hi
    obtain ⟨y', hy', -⟩ := h.boxes i' x' hi'
    exact k.binj i i' y y' hy hy'
  row := fun r row hr => by
    obtain ⟨h1, h2, h3⟩ := k.row r row (h.rows r row hr)
    refine ⟨h1, h2, ?_⟩
    rcases h3 with h3 | ⟨g, c, cur, q1, q2, q3, q4, q5, q6⟩
    · exact .inl h3
    · exact .inr ⟨g, c, cur, q1, q2, q3, q4, q5, RepM.mono q6 (Nat.le_refl _) (fun _ _ _ k => h.ok k) (fun _ _ _ _ => rfl)⟩
  rinj := fun r r' row row' g c c' hr hr' => k.rinj r r' row row' g c c' (h.rows r row hr) (h.rows r' row' hr')
  br := fun i x r row g c hi hr => by
    obtain ⟨y, hy, -⟩ := h.boxes i x hi
    exact k.br i y r row g c hy (h.rows r row hr)
  avlt := k.avlt
  avr := fun r row g c hr => k.avr r row g c (h.rows r row hr)
  avb := fun i x hi => by
    obtain ⟨y, hy, -⟩ := h.boxes i x hi
    exact k.avb i y hy

/-- The boxes and rows that were handed in are still there. -/
def Keeps0 (pre st' : Sto) : Prop := (∀ (k : Nat) (x : PBox), pre.boxes[k]? = some (some x) → ∃ x' : PBox, st'.boxes[k]? = some (some x')) ∧ (∀ (r : Nat) (row : PRow), pre.rows[r]? = some row → ∃ row' : PRow, st'.rows[r]? = some row')
theorem StLe.ev {pre st st' : Sto} (h : StLe st st') {m0 m : Lay} {w0 w : World} (k : Ev pre m0 w0 st m w) (hp : Keeps0 pre st') : Ev pre m0 w0 st' m w where
  os := k.os
  tape := k.tape
  output := k.output
  size := k.size
  blk := k.blk
  cell := k.cell
  okk := fun b o hb ho => (h.ok (av := fun _ _ => False) ⟨id, k.okk b o hb ho⟩).2
  live := fun i x hi => ⟨hp.1 i x hi, (k.live i x hi).2⟩
  fresh := fun i x' hi => by
    obtain ⟨y, hy, -⟩ := h.boxes i x' hi
    exact k.fresh i y hy
  rowl := fun r row hr => by
    obtain ⟨row', hr'⟩ := hp.2 r row hr
    obtain ⟨row2, h1, h2⟩ := k.rowl r row hr
    have := h.rows r row' hr'
    rw [h1] at this
    cases this
    exact ⟨_, hr', h2⟩
  rfresh := fun r row' g c hr hg => k.rfresh r row' g c (h.rows r row' hr) hg

/-- Each entry that is kept says no more than before. -/
def EnvLe (s : AS) (st' : Sto) : List (Nat × PV) → Prop
  | [] => True
  | (i, q) :: l => (∃ p, s.lk i = some p ∧ PV.Le p q ∧ PV.okIn st' q = true) ∧ EnvLe s st' l
theorem EnvLe.get {s : AS} {st' : Sto} : ∀ {l : List (Nat × PV)} {i : Nat} {q : PV}, EnvLe s st' l → l.lookup i = some q → ∃ p, s.lk i = some p ∧ PV.Le p q ∧ PV.okIn st' q = true
  | [], _, _, _, h => by simp at h
  | (k, p) :: l, i, q, hl, h => by
    rw [List.lookup_cons] at h
    by_cases hik : i = k
    · subst hik
      simp at h
      subst h
      exact hl.1
    · rw [show (i == k) = false by simp [hik]] at h
      exact EnvLe.get hl.2 h
theorem Wk.mk {C : Ctx} {n : Nat} {s s' : AS} (hst : StLe s.st s'.st) (hp : Keeps0 C.st s'.st) (he : EnvLe s s'.st s'.env) : Wk C n s s' := fun m a w h =>
  ⟨m, h.dfr, h.tsz, hst.sto h.sto, fun i q hq => by
    obtain ⟨p, h1, h2, h3⟩ := he.get hq
    obtain ⟨v, hv, hr⟩ := h.env i p h1
    exact ⟨v, hv, hst.rv q v h3 (h2.rv hr)⟩, hst.ev h.ev hp⟩

/-- Box by box. -/
def BoxLe (st' : Sto) : List (Option PBox) → List (Option PBox) → Prop
  | _, [] => True
  | _ :: xs, none :: ys => BoxLe st' xs ys
  | some x :: xs, some y :: ys => (x.ty = y.ty ∧ LeL x.cells y.cells ∧ okInL st' y.cells = true) ∧ BoxLe st' xs ys
  | _, _ => False
theorem BoxLe.get {st' : Sto} : ∀ {xs ys : List (Option PBox)}, BoxLe st' xs ys → ∀ (k : Nat) (y : PBox), ys[k]? = some (some y) → ∃ x : PBox, xs[k]? = some (some x) ∧ x.ty = y.ty ∧ LeL x.cells y.cells ∧ okInL st' y.cells = true
  | _, [], _, k, y, h => by simp at h
  | [], none :: ys, hl, k, y, h => hl.elim
  | x :: xs, none :: ys, hl, 0, y, h => by simp at h
  | none :: xs, none :: ys, hl, k + 1, y, h => by simpa using BoxLe.get (xs := xs) hl k y (by simpa using h)
  | some _ :: xs, none :: ys, hl, k + 1, y, h => by simpa using BoxLe.get (xs := xs) hl k y (by simpa using h)
  | some x :: xs, some z :: ys, hl, 0, y, h => by
    simp at h
    subst h
    exact ⟨x, rfl, hl.1⟩
  | some x :: xs, some z :: ys, hl, k + 1, y, h => by simpa using BoxLe.get (xs := xs) hl.2 k y (by simpa using h)
  | [], some _ :: _, hl, _, _, _ => hl.elim
  | none :: _, some _ :: _, hl, _, _, _ => hl.elim
theorem StLe.mk' {st st' : Sto} (hb : BoxLe st' st.boxes st'.boxes) (hr : st.rows.take st'.rows.length = st'.rows) : StLe st st' :=
  ⟨hb.get, fun r row' h => by
    rw [← hr, List.getElem?_take] at h
    split at h
    · exact h
    · cases h⟩
theorem Keeps0.nil {st' : Sto} : Keeps0 ⟨[], []⟩ st' := ⟨fun _ _ h => by simp at h, fun _ _ h => by simp at h⟩

/-! ### Ends -/
def ResOk (P : Program) (s : AS) : ResultVar → PV → Prop
  | .tmp i, p => s.lk i = some p
  | .cell a T, p => ∃ k bx z, s.lk a = some (.ptr k 0) ∧ s.st.boxes[k]? = some (some bx) ∧ shapeOf P T = some (true, z) ∧ bx.cells.length = z ∧ p = .agg bx.cells
def ResL (P : Program) (s : AS) : List ResultVar → List PV → Prop
  | [], [] => True
  | r :: rs, p :: ps => ResOk P s r p ∧ ResL P s rs ps
  | _, _ => False
section
variable {P : Program} {C : Ctx} {n : Nat} {s : AS}
def resOne (tmps : Array Value) : ResultVar → Sem Value
  | .tmp t => pure (tmps.getD t undef)
  | .cell a t => do loadVar t (← asAddr (tmps.getD a undef))
theorem ResOk.run {m : Lay} {a : Act} {w : World} (h : RA C n s m a w) {r : ResultVar} {p : PV} (hr : ResOk P s r p) : ∃ v, (resOne a.tmps r).run P w = .ok v w ∧ RV (okA C.av s.st m) s.st m w p v := by
  cases r with
  | tmp i =>
    obtain ⟨v, hv, hr⟩ := h.env i p hr
    exact ⟨v, by simp [resOne, Array.getD_eq_getD_getElem?, hv], hr⟩
  | cell i T =>
    obtain ⟨k, bx, z, h1, h2, h3, h4, rfl⟩ := hr
    obtain ⟨v, hv, -, rfl⟩ := h.env i _ h1
    obtain ⟨vs, h5, h6⟩ := h.sto.box k bx h2
    refine ⟨.agg ⟨vs⟩, ?_, vs, rfl, h6⟩
    have hld := run_loadVar_agg (P := P) (T := T) (b := m.ρ k) (off := 0) (cs := vs) (w := w) (by rw [← h6.length, h4]; exact h3) (fun j v hj => by rw [Nat.zero_add]; exact h5.cell (by simpa using hj))
    simp [resOne, Array.getD_eq_getD_getElem?, hv, asAddr, hld]
theorem mapM_list {α : Type} (f : α → Sem Value) (w : World) : ∀ (l : List α) (vs : List Value), (∀ (i : Nat) x v, l[i]? = some x → vs[i]? = some v → (f x).run P w = .ok v w) → l.length = vs.length → (l.mapM f).run P w = .ok vs w
  | [], [], _, _ => by simp
  | x :: l, v :: vs, h, hl => by
    rw [List.mapM_cons, Sem.run_bind, h 0 x v rfl rfl, Result.andThen_ok, Sem.run_bind, mapM_list f w l vs (fun i y u hy hu => h (i + 1) y u (by simpa using hy) (by simpa using hu)) (by simpa using hl), Result.andThen_ok]
    simp
  | [], _ :: _, _, h => by simp at h
  | _ :: _, [], _, h => by simp at h
theorem ResL.run {m : Lay} {a : Act} {w : World} (h : RA C n s m a w) : ∀ {rs : List ResultVar} {ps : List PV}, ResL P s rs ps → ∃ vs, RVL (okA C.av s.st m) s.st m w ps vs ∧ vs.length = rs.length ∧ ∀ (i : Nat) r v, rs[i]? = some r → vs[i]? = some v → (resOne a.tmps r).run P w = .ok v w
  | [], [], _ => ⟨[], trivial, rfl, by simp⟩
  | r :: rs, p :: ps, hr => by
    obtain ⟨v, h1, h2⟩ := hr.1.run h
    obtain ⟨vs, k1, k2, k3⟩ := ResL.run h hr.2
    refine ⟨v :: vs, ⟨h2, k1⟩, by simp [k2], fun i x u hx hu => ?_⟩
    cases i with
    | zero => simp at hx hu; subst hx hu; exact h1
    | succ i => exact k3 i x u (by simpa using hx) (by simpa using hu)
  | [], _ :: _, h => h.elim
  | _ :: _, [], h => h.elim
theorem results_run {fn : Func} {tmps : Array Value} {vs : List Value} {w : World} (hl : vs.length = fn.results.toList.length) (h : ∀ (i : Nat) r v, fn.results.toList[i]? = some r → vs[i]? = some v → (resOne tmps r).run P w = .ok v w) :
    (results fn tmps).run P w = .ok (if h : vs.length = 1 then vs[0] else .tuple ⟨vs⟩) w := by
  have hm := mapM_list (P := P) (resOne tmps) w fn.results.toList vs h hl.symm
  have e : (fn.results.mapM (resOne tmps)).run P w = .ok ⟨vs⟩ w := by
    rw [← Array.toArray_toList (xs := fn.results), List.mapM_toArray]
    simp [hm]
  have e2 : results fn tmps = (do let vs ← fn.results.mapM (resOne tmps); pure (if h : vs.size = 1 then vs[0] else .tuple vs)) := by
    unfold results
    congr
  rw [e2, Sem.run_bind, e, Result.andThen_ok]
  simp

theorem Ends.mk {fn : Func} {R : PV → Sto → Prop} {e : Exit} {ps : List PV} {res q : PV} {st' : Sto} (he : e = .normal ∨ e = .ret) (hr : ResL P s fn.results.toList ps) (hres : (match ps with | [p] => p | ps => .tup ps) = res)
    (hst : StLe s.st st') (hp : Keeps0 C.st st') (hle : PV.Le res q) (hk : PV.okIn st' q = true) (hR : R q st') : Ends P C n fn R e s := by
  refine ⟨he, fun m a w h => ?_⟩
  obtain ⟨vs, h1, h2, h3⟩ := hr.run h
  refine ⟨q, st', m, _, results_run h2 h3, hR, hst.sto h.sto, hst.ev h.ev hp, hst.rv q _ hk (hle.rv ?_)⟩
  subst hres
  match ps, vs, h1 with
  | [p], [v], h1 => exact h1.1
  | [], [], h1 => exact ⟨[], rfl, trivial⟩
  | p :: p' :: ps, v :: v' :: vs, h1 => exact ⟨_, by simp, h1⟩
end

/-! ### Calls without boxes and rows of ours -/
theorem ACalls.mono {P : Program} {f : FuncId} {args : List PV} {pre : Sto} {R R' : PV → Sto → Prop} (h : ACalls P f args pre R) (hr : ∀ r st, R r st → R' r st) : ACalls P f args pre R' := fun av m w vals h1 h2 =>
  (h av m w vals h1 h2).mono fun e w' => by
    rintro ⟨res, st', m', v, k1, k2, k3⟩
    exact ⟨res, st', m', v, k1, hr _ _ k2, k3⟩

/-- The function computes: it is handed data, and returns 'res'. -/
def AFun (P : Program) (f : FuncId) (args : List PV) (res : PV) : Prop := ACalls P f args ⟨[], []⟩ (fun r st' => r = res ∧ st' = ⟨[], []⟩)

mutual
def PV.free : PV → Bool
  | .t _ => true
  | .agg cs => freeL cs
  | .tup cs => freeL cs
  | .nil => true
  | .eptr _ => true
  | .fn _ cs => freeL cs
  | _ => false
def freeL : List PV → Bool
  | [] => true
  | p :: ps => PV.free p && freeL ps
end
mutual
theorem PV.free.rv {ok ok' : Nat → Nat → Prop} {st st' : Sto} {m m' : Lay} {w : World} (hk : ∀ b o, b < w.heap.size → ok b o → ok' b o) : ∀ (p : PV) (v : Value), PV.free p = true → RV ok st m w p v → RV ok' st' m' w p v
  | .t t, v, _, hr => RepM.mono hr (Nat.le_refl _) hk (fun _ _ _ _ => rfl)
  | .agg cs, v, hf, hr => by
    obtain ⟨vs, rfl, hl⟩ := hr
    exact ⟨vs, rfl, freeL.rv hk cs vs hf hl⟩
  | .tup cs, v, hf, hr => by
    obtain ⟨vs, rfl, hl⟩ := hr
    exact ⟨vs, rfl, freeL.rv hk cs vs hf hl⟩
  | .nil, v, _, hr => hr
  | .eptr cs, v, _, hr => by
    obtain ⟨b, off, h1, hb, c, h2⟩ := hr
    refine ⟨b, off, h1, hb, c, fun j d hd => ?_⟩
    obtain ⟨k1, k2, k3⟩ := h2 j d hd
    exact ⟨hk _ _ hb k1, k2, RepM.mono k3 (Nat.le_refl _) hk (fun _ _ _ _ => rfl)⟩
  | .fn f cs, v, hf, hr => by
    obtain ⟨vs, rfl, hl⟩ := hr
    exact ⟨vs, rfl, freeL.rv hk cs vs hf hl⟩
  | .acc _ _ _, _, hf, _ => by cases hf
  | .ptr _ _, _, hf, _ => by cases hf
  | .full _ _ _, _, hf, _ => by cases hf
  | .rptr _ _, _, hf, _ => by cases hf
  | .lit _ _, _, hf, _ => by cases hf
  | .bsl _ _, _, hf, _ => by cases hf
  | .gsl _ _, _, hf, _ => by cases hf
theorem freeL.rv {ok ok' : Nat → Nat → Prop} {st st' : Sto} {m m' : Lay} {w : World} (hk : ∀ b o, b < w.heap.size → ok b o → ok' b o) : ∀ (ps : List PV) (vs : List Value), freeL ps = true → RVL ok st m w ps vs → RVL ok' st' m' w ps vs
  | [], [], _, hr => hr
  | p :: ps, v :: vs, hf, hr => by
    simp only [freeL, Bool.and_eq_true] at hf
    exact ⟨PV.free.rv hk p v hf.1 hr.1, freeL.rv hk ps vs hf.2 hr.2⟩
  | [], _ :: _, _, hr => hr.elim
  | _ :: _, [], _, hr => hr.elim
end
theorem StoOk.nil {av : Nat → Nat → Prop} {m : Lay} {w : World} (h : ∀ b o, av b o → b < w.heap.size) : StoOk av ⟨[], []⟩ m w :=
  ⟨fun _ _ h => by simp at h, fun _ _ _ _ h => by simp at h, fun _ _ h => by simp at h, fun _ _ _ _ _ _ _ h => by simp at h, fun _ _ _ _ _ _ h => by simp at h, h, fun _ _ _ _ h => by simp at h, fun _ _ h => by simp at h⟩
theorem okA_new {av : Nat → Nat → Prop} {st : Sto} {m : Lay} {w : World} (h : StoOk av st m w) {b : Nat} (hb : w.heap.size ≤ b) (o : Nat) : okA av st m b o :=
  ⟨fun ha => by have := h.avlt _ _ ha; omega, fun k x hk e => by have := h.box_lt hk; omega, fun r row g c hr hg e => by have := h.row_lt hr hg; omega⟩

section
variable {P : Program} {C : Ctx} {n : Nat} {s : AS} {o : Oper}
/-- The callee's view of a memory in which everything of ours is shut. -/
def shut (C : Ctx) (s : AS) (m : Lay) (w : World) (b o : Nat) : Prop := b < w.heap.size ∧ ¬ okA C.av s.st m b o
theorem AOp.enter {f : FuncId} {fn : Func} {ps qs : List PV} {res : PV} (hd : dstOk o.dst n = true) (_hf : P.funcs[f]? = some fn) (_hnm : (fn.name == "runtime.NumGoroutine") = false) (_hb : fn.body.isNone = false)
    (hrun : ∀ m a w, RA C n s m a w → ∃ vals, (execOp a.eval o).run P w = .ok (.enter f ⟨vals⟩) w ∧ RVL (okA C.av s.st m) s.st m w ps vals) (hle : LeL ps qs) (hfr : freeL qs = true) (hfr' : PV.free res = true) (hc : AFun P f qs res) :
    AOp P C n o s (s.putO o.dst res) := fun m a w h K Q hK => by
  obtain ⟨vals, h1, h2⟩ := hrun m a w h
  unfold Oper.wp
  rw [h1]
  have h3 := hc (shut C s m w) m w vals (StoOk.nil fun b o hb => hb.1) (freeL.rv (fun b o hb hk => ⟨fun hs => hs.2 hk, fun _ _ h => by simp at h, fun _ _ _ _ h => by simp at h⟩) _ _ hfr (LeL.rv hle h2))
  refine Calls.mono h3 fun e w' => ?_; rintro ⟨r, st', m', v, rfl, ⟨rfl, rfl⟩, h4, h5, h6⟩
  have hx : Ext w w' := ⟨h5.os, h5.tape, h5.output, h5.size, fun b hb => h5.blk b hb (fun _ _ h => by simp at h) (fun _ _ _ _ h => by simp at h)⟩
  have hk : ∀ b o, b < w'.heap.size → okA (shut C s m w) ⟨[], []⟩ m' b o → okA C.av s.st m b o := fun b o hb hk => by
    rcases Nat.lt_or_ge b w.heap.size with hlt | hge
    · exact Classical.byContradiction fun hn => hk.1 ⟨hlt, hn⟩
    · exact okA_new h.sto hge o
  exact hK m _ w' ((h.step (Ev.later hx) (h.sto.later hx)).put (dstOk_lt hd) (PV.free.rv hk _ _ hfr' h6))
end
/-- Views compared: found by the one tactic that finds them. -/
theorem leA {p : Prop} (h : p := by (repeat' (first | exact PV.Le.refl _ | exact LeL.nil | exact PV.Le.nil _ | exact PV.Le.acc _ _ _ | exact PV.Le.lit _ _ | exact PV.Le.nilLit _ | apply LeL.cons | apply PV.Le.agg | apply PV.Le.tup))) : p := h

end Go.Proofs.YtmpepccpnnldoaaDoor

namespace Go.Proofs.YtmpepccpnnldoaaDoor
set_option linter.unusedSimpArgs false
set_option linter.unusedVariables false
open Go.RowKit Go.WalkArith Go.IntWalk Go.WideShapes

section
variable {P : Program} {C : Ctx} {n : Nat} {s : AS} {Q : Exit → AS → Prop} {o : Oper}

theorem AWP.loopJ {c : Code} {ι : Type} (J : ι → Prop) (I : ι → AS) (μ : ι → Nat) (i0 : ι) (hj : J i0) (h0 : Wk C n s (I i0)) (round : ∀ i, J i → AWP P C n c (thenA (fun s' => ∃ j, J j ∧ Wk C n s' (I j) ∧ μ j < μ i) Q) (I i)) : AWP P C n (.loop c) Q s :=
  AWP.loop (ι := { i // J i }) (fun i => I i.1) (fun i => μ i.1) ⟨i0, hj⟩ h0 fun i => AWP.mono (round i.1 i.2) fun e s' h => by
    cases e with
    | normal =>
      obtain ⟨j, h1, h2, h3⟩ := h
      exact ⟨⟨j, h1⟩, h2, h3⟩
    | _ => exact h

theorem Grow.acc {av : Nat → Nat → Prop} {st : Sto} {m : Lay} {w : World} {r : Nat} {row : PRow} {es2 : List (List Tr)} {g c : Nat} {cur : Array Value} {w1 : World} (h : Grow av st m w r row es2 g c cur w1) (hst : StoOk av st m w) :
    RV (okA av (st.setRow r { row with es := row.es ++ es2 }) ⟨m.ρ, upd m.γ r (some (g, c))⟩) (st.setRow r { row with es := row.es ++ es2 }) ⟨m.ρ, upd m.γ r (some (g, c))⟩ w1 (.acc row.sz (row.es ++ es2) r) (.slice (some ⟨g, 0, none⟩) (row.es.length + es2.length) c) := by
  have hl : (st.setRow r { row with es := row.es ++ es2 }).rows[r]? = some { row with es := row.es ++ es2 } := by
    show (st.rows.set r _)[r]? = _
    simp [List.getElem?_set, get_lt h.live]
  obtain ⟨-, -, h3⟩ := (h.sto hst).row r _ hl
  refine ⟨_, hl, rfl, Nat.le_refl _, ?_, fun _ => by simp [upd_same, rowVal]⟩
  rcases h3 with ⟨h4, -⟩ | ⟨g', c', cur', h4, -, -, -, -, h5⟩
  · simp [upd_same] at h4
  · simp only [upd_same, Option.some.injEq, Prod.mk.injEq] at h4
    obtain ⟨rfl, rfl⟩ := h4
    simpa using h5

end
end Go.Proofs.YtmpepccpnnldoaaDoor

namespace Go.Proofs.YtmpepccpnnldoaaDoor
set_option linter.unusedSimpArgs false
set_option linter.unusedVariables false
open Go.RowKit Go.WalkArith Go.IntWalk Go.WideShapes

theorem ev_newRow {av : Nat → Nat → Prop} {st : Sto} {m : Lay} {w : World} {row : PRow} {c : Nat} {cur : Array Value} (_hst : StoOk av st m w) : Ev st m w (st.addRow row) ⟨m.ρ, upd m.γ st.rows.length (some (w.heap.size, c))⟩ (w.alloc (.cells cur row.E)) := by
  have hx : Ext w (w.alloc (.cells cur row.E)) := .alloc (.refl _) _
  refine ⟨hx.os, hx.tape, hx.output, hx.size, fun b hb _ _ => hx.block b hb, fun b o hb _ => heap_other_cell (hx.block b hb), fun b o hb h => ⟨h.1, fun i row' g c' hi hg e => ?_⟩, fun _ x h => ⟨⟨x, h⟩, rfl⟩, fun _ x h => .inl ⟨x, h⟩, fun i row' hi => ⟨row', ?_, rfl, Nat.le_refl _, fun _ => ?_, fun hw => ⟨hw, ?_⟩⟩, fun i row' g c' hi hg => ?_⟩
  · rcases getElem?_snoc hi with ⟨h1, h2⟩ | ⟨rfl, rfl⟩
    · simp only [upd_ne (show i ≠ st.rows.length by omega)] at hg
      exact h.2 i row' g c' h2 hg e
    · simp only [upd_same, Option.some.injEq, Prod.mk.injEq] at hg
      omega
  · show (st.rows ++ [row])[i]? = _
    rw [List.getElem?_append_left (get_lt hi)]; exact hi
  · exact upd_ne (by have := get_lt hi; omega)
  · exact upd_ne (by have := get_lt hi; omega)
  · rcases getElem?_snoc hi with ⟨h1, h2⟩ | ⟨rfl, rfl⟩
    · simp only [upd_ne (show i ≠ st.rows.length by omega)] at hg
      exact .inl ⟨row', c', h2, hg⟩
    · simp only [upd_same, Option.some.injEq, Prod.mk.injEq] at hg
      exact .inr (by omega)
theorem RepM.nilRow (ok : Nat → Nat → Prop) (w : World) (sz : Nat) (a : Option Addr) {c : Nat} (hc : c ≤ maxLen) : RepM ok w (.row sz []) (.slice a 0 c) := RepM.row (es := []) (fun _ _ => undef) (by simp) hc (by simp) (by simp)
theorem sto_newRow {av : Nat → Nat → Prop} {st : Sto} {m : Lay} {w : World} {row : PRow} {c : Nat} {cur : Array Value} (h : StoOk av st m w) (hp : 0 < row.sz) (he : row.es = []) (hc : cur.size = c * row.sz) (hm : c ≤ maxLen) :
    StoOk av (st.addRow row) ⟨m.ρ, upd m.γ st.rows.length (some (w.heap.size, c))⟩ (w.alloc (.cells cur row.E)) := by
  have hx : Ext w (w.alloc (.cells cur row.E)) := .alloc (.refl _) _
  have ev := ev_newRow (row := row) (c := c) (cur := cur) h
  have key : ∀ i row' g c', (st.addRow row).rows[i]? = some row' → upd m.γ st.rows.length (some (w.heap.size, c)) i = some (g, c') → (i < st.rows.length ∧ st.rows[i]? = some row' ∧ m.γ i = some (g, c')) ∨ (i = st.rows.length ∧ g = w.heap.size) := fun i row' g c' hi hg => by
    rcases getElem?_snoc hi with ⟨h1, h2⟩ | ⟨rfl, rfl⟩
    · rw [upd_ne (show i ≠ st.rows.length by omega)] at hg
      exact .inl ⟨h1, h2, hg⟩
    · simp only [upd_same, Option.some.injEq, Prod.mk.injEq] at hg
      exact .inr ⟨rfl, hg.1.symm⟩
  refine ⟨fun k x hk => ?_, h.binj, fun i row' hi => ?_, fun i i' row' row'' g c' c'' hi hi' hg hg' => ?_, fun k x i row' g c' hk hi hg => ?_, fun b o hb => Nat.lt_of_lt_of_le (h.avlt b o hb) hx.size, fun i row' g c' hi hg o => ?_, h.avb⟩
  · obtain ⟨vs, k1, k2⟩ := h.box k x hk
    exact ⟨vs, k1.ext hx, RVL.mono ev _ _ k2⟩
  · rcases getElem?_snoc hi with ⟨h1, h2⟩ | ⟨rfl, rfl⟩
    · obtain ⟨k1, k2, k3⟩ := h.row i row' h2
      refine ⟨k1, k2, ?_⟩
      simp only [upd_ne (show i ≠ st.rows.length by omega)]
      rcases k3 with k3 | ⟨g, c', cur', q1, q2, q3, q4, q5, q6⟩
      · exact .inl k3
      · exact .inr ⟨g, c', cur', q1, q2.ext hx, q3, q4, q5, RV.mono ev (.t _) _ q6⟩
    · exact ⟨hp, by rw [he]; simp, .inr ⟨w.heap.size, c, cur, upd_same _ _ _, OB.new w _ _, hc, by rw [he]; simp, hm, by rw [he]; exact RepM.nilRow _ _ _ _ hm⟩⟩
  · rcases key i row' g c' hi hg with ⟨h0, h1, h2⟩ | ⟨h1, h2⟩ <;> rcases key i' row'' g c'' hi' hg' with ⟨h0', h1', h2'⟩ | ⟨h1', h2'⟩
    · exact h.rinj i i' row' row'' g c' c'' h1 h1' h2 h2'
    · have := h.row_lt h1 h2; omega
    · have := h.row_lt h1' h2'; omega
    · omega
  · rcases key i row' g c' hi hg with ⟨h0, h1, h2⟩ | ⟨h1, h2⟩
    · exact h.br k x i row' g c' hk h1 h2
    · have := h.box_lt hk
      show m.ρ k ≠ g
      omega
  · rcases key i row' g c' hi hg with ⟨h0, h1, h2⟩ | ⟨h1, h2⟩
    · exact h.avr i row' g c' h1 h2 o
    · intro ha
      have := h.avlt _ _ ha
      omega

/-! ### Filling -/
theorem foldl_splice (off : Nat) : ∀ (l : List Value) (k : Nat) (cells : Array Value), off + k + l.length ≤ cells.size → (l.zipIdx k).foldl (fun cs (x : Value × Nat) => cs.setIfInBounds (off + x.2) x.1) cells = splice cells (off + k) l
  | [], k, cells, _ => by simp [splice]
  | x :: l, k, cells, h => by
    simp only [List.zipIdx_cons, List.foldl_cons]
    simp only [List.length_cons] at h
    rw [foldl_splice off l (k + 1) _ (by simp; omega)]
    apply Array.ext'
    apply List.ext_getElem?
    intro j
    have hk : off + k < cells.toList.length := by simp; omega
    simp only [splice, Array.toList_setIfInBounds]
    rw [List.append_assoc, List.append_assoc]
    rcases Nat.lt_trichotomy j (off + k) with hj | hj | hj
    · rw [List.getElem?_append_left (by simp at hk ⊢; omega), List.getElem?_append_left (by simp at hk ⊢; omega), List.getElem?_take, List.getElem?_take, if_pos (by omega), if_pos hj, List.getElem?_set_ne (by omega)]
    · subst hj
      have hk2 : min (off + k) cells.size = off + k := by simp at hk; omega
      rw [List.getElem?_append_left (by simp at hk ⊢; omega), List.getElem?_take, if_pos (by omega), List.getElem?_set_self hk, List.getElem?_append_right (by simp; omega)]
      simp [hk2]
    · have e1 : (List.take (off + (k + 1)) (cells.toList.set (off + k) x)).length = off + (k + 1) := by
        rw [List.length_take, List.length_set]; simp at hk ⊢; omega
      have e2 : (List.take (off + k) cells.toList).length = off + k := by
        rw [List.length_take]; simp at hk ⊢; omega
      have L : ∀ D : List Value, (List.take (off + (k + 1)) (cells.toList.set (off + k) x) ++ (l ++ D))[j]? = (l ++ D)[j - (off + (k + 1))]? := fun D => by rw [List.getElem?_append_right (by omega), e1]
      have R : ∀ D : List Value, (List.take (off + k) cells.toList ++ (x :: l ++ D))[j]? = (l ++ D)[j - (off + (k + 1))]? := fun D => by
        rw [List.getElem?_append_right (by omega), e2, show j - (off + k) = (j - (off + (k + 1))) + 1 by omega]
        simp
      rw [L, R]
      rcases Nat.lt_or_ge (j - (off + (k + 1))) l.length with h1 | h1
      · rw [List.getElem?_append_left h1, List.getElem?_append_left h1]
      · rw [List.getElem?_append_right h1, List.getElem?_append_right h1, List.getElem?_drop, List.getElem?_drop, List.getElem?_set_ne (by omega), List.length_cons]
        congr 1
        omega

def fillP (place : Nat → Option (Nat × Nat)) : List PV → List (Nat × List PV) → Option (List PV)
  | cells, [] => some cells
  | cells, (i, ps) :: rest => match place i with
    | some (off, size) => if ps.length = size ∧ off + ps.length ≤ cells.length then fillP place (cells.take off ++ ps ++ cells.drop (off + ps.length)) rest else none
    | none => none
def PartsR (ok : Nat → Nat → Prop) (st : Sto) (m : Lay) (w : World) : List (Nat × List PV) → List (Nat × Value) → Prop
  | [], [] => True
  | (i, ps) :: l, (j, v) :: k => (i = j ∧ RVL ok st m w ps v.cells.toList) ∧ PartsR ok st m w l k
  | _, _ => False
theorem fillP_ok {ok : Nat → Nat → Prop} {st : Sto} {m : Lay} {w : World} {place : Nat → Option (Nat × Nat)} : ∀ {parts : List (Nat × List PV)} {pv : List (Nat × Value)} {cells qs : List PV} {vs : List Value}, PartsR ok st m w parts pv → RVL ok st m w cells vs → fillP place cells parts = some qs →
    ∃ us, Instr.fill place ⟨vs⟩ pv = some ⟨us⟩ ∧ RVL ok st m w qs us
  | [], [], cells, qs, vs, _, hr, h => by
    simp [fillP] at h
    subst h
    exact ⟨vs, rfl, hr⟩
  | (i, ps) :: l, (j, v) :: k, cells, qs, vs, hp, hr, h => by
    obtain ⟨⟨rfl, hv⟩, hp⟩ := hp
    simp only [fillP] at h
    split at h
    · rename_i off size hpl
      split at h
      · rename_i hc
        obtain ⟨us, h1, h2⟩ := fillP_ok hp (RVL.splice hr hv off) h
        refine ⟨us, ?_, h2⟩
        have hl1 := hv.length
        have hl2 := hr.length
        unfold Instr.fill
        have hc1 : v.cells.size = size := by rw [← hc.1, hl1]; simp
        have hc2 : ¬ (off + size > vs.length) := by rw [← hc1]; simp only [← hl2]; have := hc.2; rw [hl1] at this; simp at this; omega
        simp only [hpl, hc1]
        rw [if_neg (by simpa using hc2)]
        have hf := foldl_splice off v.cells.toList 0 ⟨vs⟩ (by simp only [List.size_toArray, ← hl2]; have := hc.2; rw [hl1] at this; omega)
        have hfe : (v.cells.zipIdx.foldl (fun cs (x : Value × Nat) => cs.setIfInBounds (off + x.2) x.1) (⟨vs⟩ : Array Value)) = splice ⟨vs⟩ off v.cells.toList := by
          rw [← Array.foldl_toList, Array.toList_zipIdx]
          exact hf
        have e3 : (⟨(splice ⟨vs⟩ off v.cells.toList).toList⟩ : Array Value) = splice ⟨vs⟩ off v.cells.toList := rfl
        rw [e3] at h1
        rw [← hfe] at h1
        exact h1
      · cases h
    · cases h
  | [], _ :: _, _, _, _, h, _, _ => h.elim
  | _ :: _, [], _, _, _, h, _, _ => h.elim

section
variable {P : Program} {C : Ctx} {n : Nat} {s : AS} {Q : Exit → AS → Prop} {o : Oper}

/-- The parts of a literal: their places, and the cells that each takes. -/
def partsP (s : AS) : List (Nat × Operand) → Option (List (Nat × List PV))
  | [] => some []
  | (i, x) :: l => match s.ev x, partsP s l with
    | some p, some r => if notTup p then some ((i, cellsP p) :: r) else none
    | _, _ => none
theorem partsP_ok {m : Lay} {a : Act} {w : World} (h : RA C n s m a w) : ∀ {l : List (Nat × Operand)} {ps : List (Nat × List PV)}, partsP s l = some ps → PartsR (okA C.av s.st m) s.st m w ps (l.map fun (i, x) => (i, a.eval x))
  | [], ps, hp => by
    simp [partsP] at hp
    subst hp
    trivial
  | (i, x) :: l, ps, hp => by
    simp only [partsP] at hp
    split at hp
    · rename_i p r h1 h2
      split at hp
      · rename_i ht
        cases hp
        exact ⟨⟨rfl, cellsP_rv (h.eval h1) (notTup.ne ht)⟩, partsP_ok h h2⟩
      · cases hp
    · cases hp

theorem RVL.of_get {ok : Nat → Nat → Prop} {st : Sto} {m : Lay} {w : World} : ∀ {ps : List PV} {vs : List Value}, vs.length = ps.length → (∀ (j : Nat) (p : PV), ps[j]? = some p → ∃ v, vs[j]? = some v ∧ RV ok st m w p v) → RVL ok st m w ps vs
  | [], [], _, _ => trivial
  | [], _ :: _, h, _ => by simp at h
  | _ :: _, [], h, _ => by simp at h
  | p :: ps, v :: vs, h, k => by
    obtain ⟨u, hu, hr⟩ := k 0 p rfl
    simp at hu
    subst hu
    exact ⟨hr, RVL.of_get (by simpa using h) fun j d hd => by have := k (j + 1) d (by simpa using hd); simpa using this⟩

theorem flatten_get {α : Type} {sz : Nat} : ∀ {es : List (List α)} {i j : Nat} {e : List α} {d : α}, (∀ e ∈ es, e.length = sz) → es[i]? = some e → e[j]? = some d → es.flatten[i * sz + j]? = some d
  | [], i, j, e, d, _, h, _ => by simp at h
  | x :: es, 0, j, e, d, hl, h, hd => by
    simp at h
    subst h
    rw [List.flatten_cons, Nat.zero_mul, Nat.zero_add, List.getElem?_append_left (get_lt hd)]
    exact hd
  | x :: es, i + 1, j, e, d, hl, h, hd => by
    have hx := hl x (by simp)
    rw [List.flatten_cons, Nat.succ_mul, List.getElem?_append_right (by omega), hx, show i * sz + sz + j - sz = i * sz + j by omega]
    exact flatten_get (fun e he => hl e (by simp [he])) (by simpa using h) hd
theorem flatten_len {α : Type} {sz : Nat} : ∀ {es : List (List α)}, (∀ e ∈ es, e.length = sz) → es.flatten.length = es.length * sz
  | [], _ => by simp
  | x :: es, hl => by
    rw [List.flatten_cons, List.length_append, hl x (by simp), flatten_len (fun e he => hl e (by simp [he])), List.length_cons, Nat.succ_mul, Nat.add_comm]

theorem AOp.buildSlice {T E sz by_ len : Nat} {parts : Array (Nat × Operand)} {ps : List (Nat × List PV)} {zs cs : List PV} {es : List (List Tr)} (ho : o.op = .buildSlice T len parts) (hd : dstOk o.dst n = true) (hT : elemOf? P T = some (E, sz, by_)) (hz : zerosOf P E = some zs) (hp : partsP s parts.toList = some ps)
    (hc : fillP (fun i => some (i * sz, sz)) (List.replicate len zs).flatten ps = some cs) (hle : LeL cs (es.flatten.map PV.t)) (hel : es.length = len) (hes : ∀ e ∈ es, e.length = sz) (hsz : 0 < sz) (hzl : zs.length = sz) (hsm : len * sz ≤ 16777216) :
    AOp P C n o s ((⟨s.env, s.st.addRow ⟨E, sz, es, false⟩⟩ : AS).putO o.dst (.acc sz es s.st.rows.length)) :=
  AOp.run hd (s1 := ⟨s.env, s.st.addRow ⟨E, sz, es, false⟩⟩) (fun m a w h => by
    obtain ⟨i, hu, hi, hs, hby⟩ := elemOf?.spec hT
    obtain ⟨i', z, hi', hzz, hr⟩ := zerosOf.spec hz
    rw [hi] at hi'
    cases hi'
    have hzv := hr (okA C.av s.st m) s.st m w
    have hzs : z.cells.size = sz := by have := hzv.length; rw [hzl] at this; simpa using this.symm
    have hzero : RVL (okA C.av s.st m) s.st m w (List.replicate len zs).flatten ((List.range (len * sz)).map (fun q => z.cells[q % z.cells.size]!)) := by
      have hrl : ∀ e ∈ List.replicate len zs, e.length = sz := fun e he => by rw [(List.mem_replicate.1 he).2]; exact hzl
      refine RVL.of_get (by rw [flatten_len hrl]; simp) fun j p hj => ?_
      have hjl : j < len * sz := by have := get_lt hj; rw [flatten_len hrl] at this; simpa using this
      have hj1 : j / sz < len := by rw [Nat.div_lt_iff_lt_mul hsz]; exact hjl
      have hj2 : j % sz < zs.length := by rw [hzl]; exact Nat.mod_lt _ hsz
      have hpj := flatten_get (i := j / sz) (j := j % sz) (e := zs) (d := zs[j % sz]) hrl (by rw [List.getElem?_replicate, if_pos hj1]) (List.getElem?_eq_getElem hj2)
      rw [show j / sz * sz + j % sz = j by rw [Nat.mul_comm]; exact Nat.div_add_mod j sz, hj] at hpj
      cases hpj
      obtain ⟨v, hv, hrv⟩ := hzv.get (List.getElem?_eq_getElem hj2)
      refine ⟨v, ?_, hrv⟩
      rw [List.getElem?_map, List.getElem?_range hjl]
      simp only [Option.map_some, hzs]
      rw [Array.getElem?_toList] at hv
      obtain ⟨hlt, hve⟩ := Array.getElem?_eq_some_iff.1 hv
      rw [getElem!_pos z.cells _ hlt, hve]
    obtain ⟨us, h1, h2⟩ := fillP_ok (partsP_ok h hp) hzero hc
    have h3 := LeL.rv hle h2
    have hul : us.length = len * sz := by have := h3.length; rw [List.length_map, flatten_len hes, hel] at this; exact this.symm
    have hrun : (Instr.buildSlice T len (parts.map fun (i, x) => (i, a.eval x))).run P w = .ok (.slice (some ⟨w.heap.size, 0, none⟩) len len) (w.alloc (.cells ⟨us⟩ E)) := by
      have hfill : Instr.fill (fun i => some (i * sz, sz)) ((Array.range (len * sz)).map (z.cells[· % z.cells.size]!)) (parts.map fun (i, x) => (i, a.eval x)).toList = some ⟨us⟩ := by
        rw [Array.toList_map, ← h1]
        congr 1
        apply Array.ext'
        simp
      by_cases h0 : len * sz = 0
      · have hl0 : len = 0 := by
          rcases Nat.mul_eq_zero.1 h0 with h | h
          · exact h
          · omega
        subst hl0
        rw [Nat.zero_mul] at hfill
        simp [Instr.buildSlice, run_underlying hu, Go.sizeOf, typeInfo, hi, hs, newRow]
        have e0 : (Array.range 0).map (fun q => z.cells[q % z.cells.size]!) = #[] := by simp
        rw [e0] at hfill
        simp at hfill
        have e1 : (Array.range 0).map (fun _ => (default : Value)) = #[] := by simp
        rw [e1, hfill]
        simp
      · exact run_buildSlice w T E len _ ⟨us⟩ i z hu hi hzz (by rw [hs]; omega) (by rw [hs]; exact h0) (by rw [hs]; exact hfill)
    have hm : len ≤ maxLen := by have := Nat.le_mul_of_pos_right len hsz; unfold maxLen; omega
    have hst0 := sto_newRow (row := ⟨E, sz, [], false⟩) (c := len) (cur := ⟨us⟩) h.sto hsz rfl (by simpa using hul) hm
    have hev0 := ev_newRow (row := ⟨E, sz, [], false⟩) (c := len) (cur := (⟨us⟩ : Array Value)) h.sto
    have hG : Grow C.av (s.st.addRow ⟨E, sz, [], false⟩) ⟨m.ρ, upd m.γ s.st.rows.length (some (w.heap.size, len))⟩ (w.alloc (.cells ⟨us⟩ E)) s.st.rows.length ⟨E, sz, [], false⟩ es w.heap.size len ⟨us⟩ (w.alloc (.cells ⟨us⟩ E)) := by
      refine ⟨by show (s.st.rows ++ [_])[s.st.rows.length]? = _; simp, rfl, rfl, rfl, Nat.le_refl _, fun _ _ _ => rfl, OB.new w _ _, by simpa using hul, by simp [hel], hm, hes, fun q e hq => by simp at hq, fun q e hq j d hj => ?_, .inl ⟨len, ⟨us⟩, upd_same _ _ _, OB.new w _ _, fun _ _ => rfl⟩, fun _ => upd_same _ _ _⟩
      have hf := flatten_get (sz := sz) hes hq hj
      obtain ⟨v, hv, hrv⟩ := h3.get (j := q * sz + j) (p := .t d) (by rw [List.getElem?_map, hf]; rfl)
      exact ⟨v, by simpa using hv, RV.mono hev0 (.t d) _ hrv⟩
    have hst1 : (s.st.addRow ⟨E, sz, [], false⟩).setRow s.st.rows.length { (⟨E, sz, [], false⟩ : PRow) with es := ([] : List (List Tr)) ++ es } = s.st.addRow ⟨E, sz, es, false⟩ := by
      simp [Sto.setRow, Sto.addRow, List.set_append_right]
    have hE1 := hev0.trans (hG.ev hst0)
    have hS1 := hG.sto hst0
    have hA1 := hG.acc hst0
    rw [hst1] at hE1 hS1 hA1
    refine ⟨.slice (some ⟨w.heap.size, 0, none⟩) len len, _, _, ?_, hE1, hS1, ?_⟩
    · unfold execOp
      simp [ho, hrun]
    · simpa [hel] using hA1) rfl

end
end Go.Proofs.YtmpepccpnnldoaaDoor

namespace Go.Proofs.YtmpepccpnnldoaaDoor
set_option linter.unusedSimpArgs false
set_option linter.unusedVariables false
open Go.RowKit Go.WalkArith Go.IntWalk Go.WideShapes

/-- What an operation is: it leaves the store alone (and may run while between lo and hi of the effects have been); it makes the region's one box; it is effect number j. -/
inductive DK where
  | q (lo hi : Nat)
  | al
  | ef (j : Nat)

structure Draw where
  ops : Array Oper
  env0 : List (Nat × PV)
  F : Nat → Bool → Sto
  out : Nat → Option PV
  kind : Nat → DK
  effs : List Nat
  alloc : Option Nat
  ins : Nat → List (Nat × Option Nat)

/-- i must have come before j. -/
def ancOf (ops : Array Oper) : Nat → Nat → Nat → Bool
  | 0, _, _ => false
  | fuel + 1, i, j => match ops[j]? with
    | some o => o.after.toList.any fun e => Region.binds .any e && (e.on == i || ancOf ops fuel i e.on)
    | none => false
def writerOf (ops : Array Oper) (t : Nat) : Option Nat := (List.range ops.size).find? fun i => match ops[i]? with | some o => o.dst == some t | none => false

def Draw.anc (D : Draw) (i j : Nat) : Bool := ancOf D.ops D.ops.size i j
def Draw.okIns (D : Draw) (i : Nat) (x : Nat × Option Nat) : Bool := match x.2 with
  | some j => writerOf D.ops x.1 == some j && D.anc j i
  | none => match writerOf D.ops x.1 with
    | none => true
    | some j => j == i || D.anc i j
def Draw.okKind (D : Draw) (i : Nat) : Bool := match D.kind i with
  | .q lo hi => decide (lo ≤ hi) && decide (hi ≤ D.effs.length) && ((D.effs.take lo).all fun e => D.anc e i) && ((D.effs.drop hi).all fun e => D.anc i e) && !(D.effs.contains i) && D.alloc != some i
  | .al => D.alloc == some i && !(D.effs.contains i)
  | .ef j => D.effs[j]? == some i && ((D.effs.take j).all fun e => D.anc e i) && ((D.effs.drop (j + 1)).all fun e => D.anc i e && e != i) && D.alloc != some i
def nodupDst (ops : Array Oper) : Bool := ops.toList.zipIdx.all fun (o, i) => match o.dst with
  | some d => writerOf ops d == some i
  | none => true
/-- The whole check, on numbers alone. -/
def Draw.okOp (D : Draw) (i : Nat) : Bool := match D.ops[i]? with
  | some o => (o.after.all fun e => !Region.binds .any e || decide (e.on < i)) && (match o.guard with | some (j, _) => D.anc j i && (match D.ops[j]? with | some oj => oj.dst.isSome | none => false) | none => true)
  | none => true
def Draw.ok (D : Draw) : Bool := (List.range D.ops.size).all D.okOp && nodupDst D.ops && (List.range D.ops.size).all (fun i => D.okKind i && (D.ins i).all (D.okIns i)) && (D.effs.all fun e => decide (e < D.ops.size)) && (match D.alloc with | some i => decide (i < D.ops.size) | none => true)
def Draw.pv (D : Draw) (x : Nat × Option Nat) : Option PV := match x.2 with
  | some j => D.out j
  | none => D.env0.lookup x.1

section
variable (D : Draw)
end

section
variable {D : Draw} {X : Array Bool}
end

section
variable {P : Program} {C : Ctx} {n : Nat} {s : AS} {Q : Exit → AS → Prop}

/-- Is it carried out? Its guard's value is known. -/
def Draw.want (D : Draw) (o : Oper) : Option Bool := match o.guard with
  | none => some true
  | some (j, b) => match D.out j with
    | some (.t (.leaf (.bool v))) => some (v == b)
    | some (.tup []) => some false
    | _ => none
/-- What each operation does, in whatever state its turn comes. -/
def Draw.does (P : Program) (C : Ctx) (n : Nat) (D : Draw) (i : Nat) (o : Oper) : Prop := match D.kind i with
  | .q lo hi => ∀ (s' : AS) (j : Nat) (b : Bool), lo ≤ j → j ≤ hi → s'.st = D.F j b → (∀ t src p, (t, src) ∈ D.ins i → D.pv (t, src) = some p → s'.lk t = some p) → ∃ p, D.out i = some p ∧ AOp P C n o s' (s'.putO o.dst p)
  | .al => ∀ (s' : AS) (j : Nat), s'.st = D.F j false → ∃ p, D.out i = some p ∧ AOp P C n o s' ((⟨s'.env, D.F j true⟩ : AS).putO o.dst p)
  | .ef j => ∀ (s' : AS) (b : Bool), s'.st = D.F j b → (∀ t src p, (t, src) ∈ D.ins i → D.pv (t, src) = some p → s'.lk t = some p) →
      (∃ p, D.out i = some p ∧ AOp P C n o s' ((⟨s'.env, D.F (j + 1) b⟩ : AS).putO o.dst p)) ∨ (o.dst = none ∧ AOp P C n o s' ⟨s'.env, D.F (j + 1) b⟩)

def Draw.step (P : Program) (C : Ctx) (n : Nat) (D : Draw) (i : Nat) (o : Oper) : Prop :=
  (D.want o = some true ∧ D.does P C n i o) ∨ (D.want o = some false ∧ (∃ lo hi, D.kind i = .q lo hi) ∧ ((D.out i = none ∧ ∀ d, o.dst = some d → D.env0.lookup d = none) ∨ (D.out i = some (.tup []) ∧ dstOk o.dst n = true)))

end
end Go.Proofs.YtmpepccpnnldoaaDoor

namespace Go.Proofs.YtmpepccpnnldoaaDoor
set_option linter.unusedSimpArgs false
set_option linter.unusedVariables false
open Go.RowKit Go.WalkArith Go.IntWalk Go.WideShapes

mutual
/-- The callee's numbers, told in the caller's. -/
def PV.ren (fb fr : List Nat) : PV → PV
  | .t t => .t t
  | .agg cs => .agg (renL fb fr cs)
  | .tup cs => .tup (renL fb fr cs)
  | .nil => .nil
  | .acc sz es r => .acc sz es (fr.getD r 0)
  | .ptr k d => .ptr (fb.getD k 0) d
  | .eptr cs => .eptr cs
  | .fn f cs => .fn f (renL fb fr cs)
  | .full sz n r => .full sz n (fr.getD r 0)
  | .rptr r i => .rptr (fr.getD r 0) i
  | .lit sz es => .lit sz es
  | .bsl k n => .bsl (fb.getD k 0) n
  | .gsl k n => .gsl (fb.getD k 0) n
def renL (fb fr : List Nat) : List PV → List PV
  | [] => []
  | p :: ps => PV.ren fb fr p :: renL fb fr ps
end
def Lay.via (m : Lay) (fb fr : List Nat) : Lay := ⟨fun k => m.ρ (fb.getD k 0), fun r => m.γ (fr.getD r 0)⟩

/-- The store 'pre', as a part of ours. -/
structure Part0 (s pre : Sto) (fb fr : List Nat) : Prop where
  fbl : fb.length = pre.boxes.length
  frl : fr.length = pre.rows.length
  fbn : fb.Nodup
  frn : fr.Nodup
  all : ∀ k, k < pre.boxes.length → ∃ x, pre.boxes[k]? = some (some x)
  box : ∀ k x, pre.boxes[k]? = some (some x) → ∃ y, s.boxes[fb.getD k 0]? = some (some y) ∧ y.ty = x.ty ∧ LeL y.cells (renL fb fr x.cells) ∧ okInL pre x.cells = true
  row : ∀ r row, pre.rows[r]? = some row → s.rows[fr.getD r 0]? = some row
def idx? (l : List Nat) (i : Nat) : Option Nat := l.findIdx? (· == i)
theorem idx?_some {l : List Nat} {i j : Nat} (h : idx? l i = some j) : l[j]? = some i := by
  unfold idx? at h
  obtain ⟨h1, h2, -⟩ := List.findIdx?_eq_some_iff_getElem.1 h
  rw [List.getElem?_eq_getElem h1]
  simpa using h2
theorem idx?_none {l : List Nat} {i : Nat} (h : idx? l i = none) : ∀ (j : Nat), l[j]? ≠ some i := fun j hj => by
  unfold idx? at h
  rw [List.findIdx?_eq_none_iff] at h
  have := h i (List.mem_of_getElem? hj)
  simp at this
theorem idx?_of {l : List Nat} (hn : l.Nodup) {i j : Nat} (h : l[j]? = some i) : idx? l i = some j := by
  cases hq : idx? l i with
  | none => exact absurd h (idx?_none hq j)
  | some j' =>
    have h2 := idx?_some hq
    obtain ⟨hl, he⟩ := List.getElem?_eq_some_iff.1 h
    obtain ⟨hl', he'⟩ := List.getElem?_eq_some_iff.1 h2
    have hp := List.pairwise_iff_getElem.1 hn
    rcases Nat.lt_trichotomy j' j with hlt | heq | hgt
    · exact absurd (he'.trans he.symm) (hp j' j hl' hl hlt)
    · rw [heq]
    · exact absurd (he.trans he'.symm) (hp j j' hl hl' hgt)
theorem getD_get {l : List Nat} {k : Nat} (h : k < l.length) : l[k]? = some (l.getD k 0) := by
  simp [List.getD_eq_getElem?_getD, List.getElem?_eq_getElem h]

mutual
theorem RV.unren {ok ok' : Nat → Nat → Prop} {s pre : Sto} {m : Lay} {w : World} {fb fr : List Nat} (h : Part0 s pre fb fr) (hk : ∀ b o, b < w.heap.size → ok b o → ok' b o) : ∀ (p : PV) (v : Value), PV.okIn pre p = true → RV ok s m w (PV.ren fb fr p) v → RV ok' pre (m.via fb fr) w p v
  | .t t, v, _, hr => RepM.mono hr (Nat.le_refl _) hk (fun _ _ _ _ => rfl)
  | .agg cs, v, hi, hr => by
    obtain ⟨vs, hv, hl⟩ := hr
    exact ⟨vs, hv, RVL.unren h hk cs vs hi hl⟩
  | .tup cs, v, hi, hr => by
    obtain ⟨vs, hv, hl⟩ := hr
    exact ⟨vs, hv, RVL.unren h hk cs vs hi hl⟩
  | .nil, v, _, hr => hr
  | .acc sz es r, v, hi, hr => by
    obtain ⟨row, h1, h2, h3, h4, h5⟩ := hr
    obtain ⟨row', hr'⟩ := get_of_lt (of_decide_eq_true hi)
    have := h.row r row' hr'
    rw [h1] at this
    cases this
    exact ⟨row, hr', h2, h3, RepM.mono h4 (Nat.le_refl _) hk (fun _ _ _ _ => rfl), h5⟩
  | .ptr k d, v, hi, hr => by
    obtain ⟨-, hv⟩ := hr
    refine ⟨?_, hv⟩
    simp only [PV.okIn] at hi
    split at hi
    · rename_i x hx
      exact ⟨x, hx⟩
    · cases hi
  | .eptr cs, v, _, hr => by
    obtain ⟨b, off, h1, hb, c, h2⟩ := hr
    refine ⟨b, off, h1, hb, c, fun j d hd => ?_⟩
    obtain ⟨k1, k2, k3⟩ := h2 j d hd
    exact ⟨hk _ _ hb k1, k2, RepM.mono k3 (Nat.le_refl _) hk (fun _ _ _ _ => rfl)⟩
  | .fn f cs, v, hi, hr => by
    obtain ⟨vs, hv, hl⟩ := hr
    exact ⟨vs, hv, RVL.unren h hk cs vs hi hl⟩
  | .full sz n r, v, hi, hr => by
    obtain ⟨row, g, h1, h2, h3, h4, h5⟩ := hr
    obtain ⟨row', hr'⟩ := get_of_lt (of_decide_eq_true hi)
    have := h.row r row' hr'
    rw [h1] at this
    cases this
    exact ⟨row, g, hr', h2, h3, h4, h5⟩
  | .rptr r i, v, hi, hr => by
    obtain ⟨row, g, n, h1, h3, h4, h5⟩ := hr
    obtain ⟨row', hr'⟩ := get_of_lt (of_decide_eq_true hi)
    have := h.row r row' hr'
    rw [h1] at this
    cases this
    exact ⟨row, g, n, hr', h3, h4, h5⟩
  | .lit sz es, v, _, hr => ⟨RepM.mono hr.1 (Nat.le_refl _) hk (fun _ _ _ _ => rfl), hr.2⟩
  | .bsl k n, v, hi, hr => by
    obtain ⟨-, hv⟩ := hr
    refine ⟨?_, hv⟩
    simp only [PV.okIn] at hi
    split at hi
    · rename_i x hx
      exact ⟨x, hx⟩
    · cases hi
  | .gsl k n, v, hi, hr => by
    obtain ⟨-, hv⟩ := hr
    refine ⟨?_, hv⟩
    simp only [PV.okIn] at hi
    split at hi
    · rename_i x hx
      exact ⟨x, hx⟩
    · cases hi
theorem RVL.unren {ok ok' : Nat → Nat → Prop} {s pre : Sto} {m : Lay} {w : World} {fb fr : List Nat} (h : Part0 s pre fb fr) (hk : ∀ b o, b < w.heap.size → ok b o → ok' b o) : ∀ (ps : List PV) (vs : List Value), okInL pre ps = true → RVL ok s m w (renL fb fr ps) vs → RVL ok' pre (m.via fb fr) w ps vs
  | [], [], _, hr => hr
  | p :: ps, v :: vs, hi, hr => by
    simp only [okInL, Bool.and_eq_true] at hi
    exact ⟨RV.unren h hk p v hi.1 hr.1, RVL.unren h hk ps vs hi.2 hr.2⟩
  | [], _ :: _, _, hr => hr.elim
  | _ :: _, [], _, hr => hr.elim
end

/-- What the callee tells of its numbers holds of ours. -/
structure Back (st' s1 : Sto) (m' m1 : Lay) (fb fr : List Nat) : Prop where
  box : ∀ k x, st'.boxes[k]? = some (some x) → (∃ y, s1.boxes[fb.getD k 0]? = some (some y)) ∧ m1.ρ (fb.getD k 0) = m'.ρ k
  row : ∀ r row, st'.rows[r]? = some row → s1.rows[fr.getD r 0]? = some row ∧ m1.γ (fr.getD r 0) = m'.γ r

/-- The callee's view: what it is not handed is shut. -/
def shutP (av : Nat → Nat → Prop) (s pre : Sto) (m : Lay) (fb fr : List Nat) (w : World) (b o : Nat) : Prop :=
  b < w.heap.size ∧ ¬ okA av s m b o ∧ (∀ k x, pre.boxes[k]? = some (some x) → m.ρ (fb.getD k 0) ≠ b) ∧ (∀ r row g c, pre.rows[r]? = some row → m.γ (fr.getD r 0) = some (g, c) → g ≠ b)

section
variable {av : Nat → Nat → Prop} {s pre : Sto} {m : Lay} {fb fr : List Nat} {w : World}

theorem Part0.ok (h : Part0 s pre fb fr) {b o : Nat} (k : okA av s m b o) : okA (shutP av s pre m fb fr w) pre (m.via fb fr) b o :=
  ⟨fun hs => hs.2.1 k, fun i x hi => by obtain ⟨y, hy, -⟩ := h.box i x hi; exact k.2.1 _ y hy, fun r row g c hr hg e => k.2.2 _ row g c (h.row r row hr) hg e⟩

theorem Part0.sto (h : Part0 s pre fb fr) (hs : StoOk av s m w) : StoOk (shutP av s pre m fb fr w) pre (m.via fb fr) w where
  box := fun k x hk => by
    obtain ⟨y, hy, ht, hl, ho⟩ := h.box k x hk
    obtain ⟨vs, h1, h2⟩ := hs.box _ y hy
    exact ⟨vs, by rw [← ht]; exact h1, RVL.unren h (fun b o _ k => h.ok k) _ _ ho (LeL.rv hl h2)⟩
  binj := fun k k' x x' hk hk' hne => by
    obtain ⟨y, hy, -⟩ := h.box k x hk
    obtain ⟨y', hy', -⟩ := h.box k' x' hk'
    refine hs.binj _ _ y y' hy hy' fun e => hne ?_
    have h1 := getD_get (l := fb) (k := k) (by rw [h.fbl]; exact get_lt hk)
    have h2 := getD_get (l := fb) (k := k') (by rw [h.fbl]; exact get_lt hk')
    rw [e] at h1
    exact Option.some.inj ((idx?_of h.fbn h1).symm.trans (idx?_of h.fbn h2))
  row := fun r row hr => by
    obtain ⟨h1, h2, h3⟩ := hs.row _ row (h.row r row hr)
    refine ⟨h1, h2, ?_⟩
    rcases h3 with h3 | ⟨g, c, cur, q1, q2, q3, q4, q5, q6⟩
    · exact .inl h3
    · exact .inr ⟨g, c, cur, q1, q2, q3, q4, q5, RepM.mono q6 (Nat.le_refl _) (fun b o _ k => h.ok k) (fun _ _ _ _ => rfl)⟩
  rinj := fun r r' row row' g c c' hr hr' hg hg' => by
    have e := hs.rinj _ _ row row' g c c' (h.row r row hr) (h.row r' row' hr') hg hg'
    have h1 := getD_get (l := fr) (k := r) (by rw [h.frl]; exact get_lt hr)
    have h2 := getD_get (l := fr) (k := r') (by rw [h.frl]; exact get_lt hr')
    rw [e] at h1
    exact Option.some.inj ((idx?_of h.frn h1).symm.trans (idx?_of h.frn h2))
  br := fun k x r row g c hk hr hg => by
    obtain ⟨y, hy, -⟩ := h.box k x hk
    exact hs.br _ y _ row g c hy (h.row r row hr) hg
  avlt := fun b o hb => hb.1
  avr := fun r row g c hr hg o ho => ho.2.2.2 r row g c hr hg rfl
  avb := fun k x hk o ho => ho.2.2.1 k x hk rfl

variable {st' : Sto} {m' : Lay} {w' : World}
end

section
variable {P : Program} {C : Ctx} {n : Nat} {s : AS} {o : Oper}
end
end Go.Proofs.YtmpepccpnnldoaaDoor

namespace Go.Proofs.YtmpepccpnnldoaaDoor
open Go.RowKit

theorem LeL.refl : ∀ ps : List PV, LeL ps ps
  | [] => .nil
  | p :: ps => .cons (.refl p) (LeL.refl ps)
theorem strTrs_cs {l : List ByteArray} {k : Nat} (h : k < l.length) : (strTrs l)[k]? = some [.leaf (.string l[k])] := strTrs_get h
theorem intTrs_cs {l : List Int} {k : Nat} (h : k < l.length) : (intTrs l)[k]? = some [.leaf (.int .i64 l[k])] := intTrs_get h
def GInstanceRef.cs (x : GInstanceRef) : List Tr := [.leaf (.int .i64 x.gPackage), .leaf (.int .i64 x.gAt)]
def GInstanceRef.pv (x : GInstanceRef) : PV := .agg [.t (.leaf (.int .i64 x.gPackage)), .t (.leaf (.int .i64 x.gAt))]
theorem GInstanceRef.tr_cs (x : GInstanceRef) : x.tr = x.cs := by
  obtain ⟨v0, v1⟩ := x
  simp [GInstanceRef.tr, GInstanceRef.cs]
theorem GInstanceRef.trs_cs {l : List GInstanceRef} {k : Nat} (h : k < l.length) : (GInstanceRef.trs l)[k]? = some (l[k]).cs := by rw [← GInstanceRef.tr_cs]; exact GInstanceRef.trs_get h
def GSExpr.cs (x : GSExpr) : List Tr := [.leaf (.string x.gAtom), .row 2 (GSExpr.trs (x.gList))]
def GSExpr.pv (x : GSExpr) : PV := .agg [.t (.leaf (.string x.gAtom)), .t (.row 2 (GSExpr.trs (x.gList)))]
def GType.cs (x : GType) : List Tr := [.leaf (.int .i64 x.gKind), .leaf (.string x.gName), .row 3 (GType.trs (x.gArgs))]
def GType.pv (x : GType) : PV := .agg [.t (.leaf (.int .i64 x.gKind)), .t (.leaf (.string x.gName)), .t (.row 3 (GType.trs (x.gArgs)))]
def GBinding.cs (x : GBinding) : List Tr := [.leaf (.string x.gVar), .leaf (.int .i64 x.gType.gKind), .leaf (.string x.gType.gName), .row 3 (GType.trs (x.gType.gArgs))]
def GBinding.pv (x : GBinding) : PV := .agg [.t (.leaf (.string x.gVar)), .t (.leaf (.int .i64 x.gType.gKind)), .t (.leaf (.string x.gType.gName)), .t (.row 3 (GType.trs (x.gType.gArgs)))]
def GExpr.cs (x : GExpr) : List Tr := [.leaf (.int .i64 x.gKind), .leaf (.string x.gTrait), .leaf (.string x.gName), .leaf (.int .i64 x.gN), .leaf (.int .i64 x.gType.gKind), .leaf (.string x.gType.gName), .row 3 (GType.trs (x.gType.gArgs)), .row 9 (GExpr.trs (x.gArgs)), .row 11 (GArm.trs (x.gArms))]
def GExpr.pv (x : GExpr) : PV := .agg [.t (.leaf (.int .i64 x.gKind)), .t (.leaf (.string x.gTrait)), .t (.leaf (.string x.gName)), .t (.leaf (.int .i64 x.gN)), .t (.leaf (.int .i64 x.gType.gKind)), .t (.leaf (.string x.gType.gName)), .t (.row 3 (GType.trs (x.gType.gArgs))), .t (.row 9 (GExpr.trs (x.gArgs))), .t (.row 11 (GArm.trs (x.gArms)))]
def GArm.cs (x : GArm) : List Tr := [.leaf (.string x.gConstructor), .row 1 (strTrs (x.gVars)), .leaf (.int .i64 x.gBody.gKind), .leaf (.string x.gBody.gTrait), .leaf (.string x.gBody.gName), .leaf (.int .i64 x.gBody.gN), .leaf (.int .i64 x.gBody.gType.gKind), .leaf (.string x.gBody.gType.gName), .row 3 (GType.trs (x.gBody.gType.gArgs)), .row 9 (GExpr.trs (x.gBody.gArgs)), .row 11 (GArm.trs (x.gBody.gArms))]
def GArm.pv (x : GArm) : PV := .agg [.t (.leaf (.string x.gConstructor)), .t (.row 1 (strTrs (x.gVars))), .t (.leaf (.int .i64 x.gBody.gKind)), .t (.leaf (.string x.gBody.gTrait)), .t (.leaf (.string x.gBody.gName)), .t (.leaf (.int .i64 x.gBody.gN)), .t (.leaf (.int .i64 x.gBody.gType.gKind)), .t (.leaf (.string x.gBody.gType.gName)), .t (.row 3 (GType.trs (x.gBody.gType.gArgs))), .t (.row 9 (GExpr.trs (x.gBody.gArgs))), .t (.row 11 (GArm.trs (x.gBody.gArms)))]
def GSignature.cs (x : GSignature) : List Tr := [.leaf (.string x.gName), .row 3 (GType.trs (x.gParams)), .leaf (.int .i64 x.gResult.gKind), .leaf (.string x.gResult.gName), .row 3 (GType.trs (x.gResult.gArgs)), .leaf (.bool x.gHasDefault), .row 1 (strTrs (x.gVars)), .leaf (.int .i64 x.gBody.gKind), .leaf (.string x.gBody.gTrait), .leaf (.string x.gBody.gName), .leaf (.int .i64 x.gBody.gN), .leaf (.int .i64 x.gBody.gType.gKind), .leaf (.string x.gBody.gType.gName), .row 3 (GType.trs (x.gBody.gType.gArgs)), .row 9 (GExpr.trs (x.gBody.gArgs)), .row 11 (GArm.trs (x.gBody.gArms))]
def GSignature.pv (x : GSignature) : PV := .agg [.t (.leaf (.string x.gName)), .t (.row 3 (GType.trs (x.gParams))), .t (.leaf (.int .i64 x.gResult.gKind)), .t (.leaf (.string x.gResult.gName)), .t (.row 3 (GType.trs (x.gResult.gArgs))), .t (.leaf (.bool x.gHasDefault)), .t (.row 1 (strTrs (x.gVars))), .t (.leaf (.int .i64 x.gBody.gKind)), .t (.leaf (.string x.gBody.gTrait)), .t (.leaf (.string x.gBody.gName)), .t (.leaf (.int .i64 x.gBody.gN)), .t (.leaf (.int .i64 x.gBody.gType.gKind)), .t (.leaf (.string x.gBody.gType.gName)), .t (.row 3 (GType.trs (x.gBody.gType.gArgs))), .t (.row 9 (GExpr.trs (x.gBody.gArgs))), .t (.row 11 (GArm.trs (x.gBody.gArms)))]
def GTrait.cs (x : GTrait) : List Tr := [.leaf (.string x.gName), .row 1 (strTrs (x.gSupertraits)), .leaf (.bool x.gAuto), .leaf (.bool x.gAssoc), .row 16 (GSignature.trs (x.gSignatures))]
def GTrait.pv (x : GTrait) : PV := .agg [.t (.leaf (.string x.gName)), .t (.row 1 (strTrs (x.gSupertraits))), .t (.leaf (.bool x.gAuto)), .t (.leaf (.bool x.gAssoc)), .t (.row 16 (GSignature.trs (x.gSignatures)))]
def GConstructor.cs (x : GConstructor) : List Tr := [.leaf (.string x.gName), .row 3 (GType.trs (x.gFields))]
def GConstructor.pv (x : GConstructor) : PV := .agg [.t (.leaf (.string x.gName)), .t (.row 3 (GType.trs (x.gFields)))]
def GDataType.cs (x : GDataType) : List Tr := [.leaf (.string x.gName), .row 1 (strTrs (x.gVars)), .row 2 (GConstructor.trs (x.gConstructors))]
def GDataType.pv (x : GDataType) : PV := .agg [.t (.leaf (.string x.gName)), .t (.row 1 (strTrs (x.gVars))), .t (.row 2 (GConstructor.trs (x.gConstructors)))]
def GBound.cs (x : GBound) : List Tr := [.leaf (.string x.gTrait), .leaf (.int .i64 x.gType.gKind), .leaf (.string x.gType.gName), .row 3 (GType.trs (x.gType.gArgs))]
def GBound.pv (x : GBound) : PV := .agg [.t (.leaf (.string x.gTrait)), .t (.leaf (.int .i64 x.gType.gKind)), .t (.leaf (.string x.gType.gName)), .t (.row 3 (GType.trs (x.gType.gArgs)))]
def GMethod.cs (x : GMethod) : List Tr := [.leaf (.string x.gName), .row 1 (strTrs (x.gVars)), .leaf (.int .i64 x.gBody.gKind), .leaf (.string x.gBody.gTrait), .leaf (.string x.gBody.gName), .leaf (.int .i64 x.gBody.gN), .leaf (.int .i64 x.gBody.gType.gKind), .leaf (.string x.gBody.gType.gName), .row 3 (GType.trs (x.gBody.gType.gArgs)), .row 9 (GExpr.trs (x.gBody.gArgs)), .row 11 (GArm.trs (x.gBody.gArms))]
def GMethod.pv (x : GMethod) : PV := .agg [.t (.leaf (.string x.gName)), .t (.row 1 (strTrs (x.gVars))), .t (.leaf (.int .i64 x.gBody.gKind)), .t (.leaf (.string x.gBody.gTrait)), .t (.leaf (.string x.gBody.gName)), .t (.leaf (.int .i64 x.gBody.gN)), .t (.leaf (.int .i64 x.gBody.gType.gKind)), .t (.leaf (.string x.gBody.gType.gName)), .t (.row 3 (GType.trs (x.gBody.gType.gArgs))), .t (.row 9 (GExpr.trs (x.gBody.gArgs))), .t (.row 11 (GArm.trs (x.gBody.gArms)))]
def GInstance.cs (x : GInstance) : List Tr := [.leaf (.string x.gTrait), .row 1 (strTrs (x.gVars)), .leaf (.int .i64 x.gHead.gKind), .leaf (.string x.gHead.gName), .row 3 (GType.trs (x.gHead.gArgs)), .row 4 (GBound.trs (x.gWhere)), .leaf (.bool x.gDefault), .leaf (.bool x.gHasAssoc), .leaf (.int .i64 x.gAssoc.gKind), .leaf (.string x.gAssoc.gName), .row 3 (GType.trs (x.gAssoc.gArgs)), .row 11 (GMethod.trs (x.gMethods))]
def GInstance.pv (x : GInstance) : PV := .agg [.t (.leaf (.string x.gTrait)), .t (.row 1 (strTrs (x.gVars))), .t (.leaf (.int .i64 x.gHead.gKind)), .t (.leaf (.string x.gHead.gName)), .t (.row 3 (GType.trs (x.gHead.gArgs))), .t (.row 4 (GBound.trs (x.gWhere))), .t (.leaf (.bool x.gDefault)), .t (.leaf (.bool x.gHasAssoc)), .t (.leaf (.int .i64 x.gAssoc.gKind)), .t (.leaf (.string x.gAssoc.gName)), .t (.row 3 (GType.trs (x.gAssoc.gArgs))), .t (.row 11 (GMethod.trs (x.gMethods)))]
def GParam.cs (x : GParam) : List Tr := [.leaf (.string x.gName), .leaf (.int .i64 x.gType.gKind), .leaf (.string x.gType.gName), .row 3 (GType.trs (x.gType.gArgs))]
def GParam.pv (x : GParam) : PV := .agg [.t (.leaf (.string x.gName)), .t (.leaf (.int .i64 x.gType.gKind)), .t (.leaf (.string x.gType.gName)), .t (.row 3 (GType.trs (x.gType.gArgs)))]
def GFunction.cs (x : GFunction) : List Tr := [.leaf (.string x.gName), .row 1 (strTrs (x.gVars)), .row 4 (GBound.trs (x.gWhere)), .row 4 (GParam.trs (x.gParams)), .leaf (.int .i64 x.gResult.gKind), .leaf (.string x.gResult.gName), .row 3 (GType.trs (x.gResult.gArgs)), .leaf (.int .i64 x.gBody.gKind), .leaf (.string x.gBody.gTrait), .leaf (.string x.gBody.gName), .leaf (.int .i64 x.gBody.gN), .leaf (.int .i64 x.gBody.gType.gKind), .leaf (.string x.gBody.gType.gName), .row 3 (GType.trs (x.gBody.gType.gArgs)), .row 9 (GExpr.trs (x.gBody.gArgs)), .row 11 (GArm.trs (x.gBody.gArms))]
def GFunction.pv (x : GFunction) : PV := .agg [.t (.leaf (.string x.gName)), .t (.row 1 (strTrs (x.gVars))), .t (.row 4 (GBound.trs (x.gWhere))), .t (.row 4 (GParam.trs (x.gParams))), .t (.leaf (.int .i64 x.gResult.gKind)), .t (.leaf (.string x.gResult.gName)), .t (.row 3 (GType.trs (x.gResult.gArgs))), .t (.leaf (.int .i64 x.gBody.gKind)), .t (.leaf (.string x.gBody.gTrait)), .t (.leaf (.string x.gBody.gName)), .t (.leaf (.int .i64 x.gBody.gN)), .t (.leaf (.int .i64 x.gBody.gType.gKind)), .t (.leaf (.string x.gBody.gType.gName)), .t (.row 3 (GType.trs (x.gBody.gType.gArgs))), .t (.row 9 (GExpr.trs (x.gBody.gArgs))), .t (.row 11 (GArm.trs (x.gBody.gArms)))]
def GPackage.cs (x : GPackage) : List Tr := [.leaf (.string x.gName), .row 1 (strTrs (x.gDeps)), .row 5 (GTrait.trs (x.gTraits)), .row 3 (GDataType.trs (x.gDataTypes)), .row 12 (GInstance.trs (x.gInstances)), .row 16 (GFunction.trs (x.gFunctions))]
def GPackage.pv (x : GPackage) : PV := .agg [.t (.leaf (.string x.gName)), .t (.row 1 (strTrs (x.gDeps))), .t (.row 5 (GTrait.trs (x.gTraits))), .t (.row 3 (GDataType.trs (x.gDataTypes))), .t (.row 12 (GInstance.trs (x.gInstances))), .t (.row 16 (GFunction.trs (x.gFunctions)))]
def GProgram.cs (x : GProgram) : List Tr := [.row 6 (GPackage.trs (x.gPackages))]
def GProgram.pv (x : GProgram) : PV := .agg [.t (.row 6 (GPackage.trs (x.gPackages)))]
def Gview.cs (x : Gview) : List Tr := [.row 6 (GPackage.trs (x.gw.gPackages)), .row 1 (intTrs (x.gvisible))]
def Gview.pv (x : Gview) : PV := .agg [.t (.row 6 (GPackage.trs (x.gw.gPackages))), .t (.row 1 (intTrs (x.gvisible)))]
def GEvidence.cs (x : GEvidence) : List Tr := [.leaf (.int .i64 x.gKind), .leaf (.int .i64 x.gN), .leaf (.int .i64 x.gAt.gPackage), .leaf (.int .i64 x.gAt.gAt), .row 5 (GEvidence.trs (x.gArgs))]
def GEvidence.pv (x : GEvidence) : PV := .agg [.t (.leaf (.int .i64 x.gKind)), .t (.leaf (.int .i64 x.gN)), .t (.leaf (.int .i64 x.gAt.gPackage)), .t (.leaf (.int .i64 x.gAt.gAt)), .t (.row 5 (GEvidence.trs (x.gArgs)))]
theorem GEvidence.tr_cs (x : GEvidence) : x.tr = x.cs := by
  obtain ⟨v0, v1, v2, v3⟩ := x
  simp [GEvidence.tr, GEvidence.cs, GInstanceRef.tr_cs, GInstanceRef.cs]
theorem GEvidence.trs_cs {l : List GEvidence} {k : Nat} (h : k < l.length) : (GEvidence.trs l)[k]? = some (l[k]).cs := by rw [← GEvidence.tr_cs]; exact GEvidence.trs_get h
def GAssumption.cs (x : GAssumption) : List Tr := [.leaf (.string x.gGoal.gTrait), .leaf (.int .i64 x.gGoal.gType.gKind), .leaf (.string x.gGoal.gType.gName), .row 3 (GType.trs (x.gGoal.gType.gArgs)), .leaf (.int .i64 x.gFrom), .row 1 (intTrs (x.gSteps))]
def GAssumption.pv (x : GAssumption) : PV := .agg [.t (.leaf (.string x.gGoal.gTrait)), .t (.leaf (.int .i64 x.gGoal.gType.gKind)), .t (.leaf (.string x.gGoal.gType.gName)), .t (.row 3 (GType.trs (x.gGoal.gType.gArgs))), .t (.leaf (.int .i64 x.gFrom)), .t (.row 1 (intTrs (x.gSteps)))]
def Gl2In.cs (x : Gl2In) : List Tr := [.leaf (.string x.gs), .leaf (.int .i64 x.gat), .leaf (.int .i64 x.gdeep), .leaf (.int .i64 x.gsize), .leaf (.bool x.gbad)]
def Gl2In.pv (x : Gl2In) : PV := .agg [.t (.leaf (.string x.gs)), .t (.leaf (.int .i64 x.gat)), .t (.leaf (.int .i64 x.gdeep)), .t (.leaf (.int .i64 x.gsize)), .t (.leaf (.bool x.gbad))]
def GCache.cs (x : GCache) : List Tr := [.row 4 (GBound.trs (x.gGoals)), .row 1 (intTrs (x.gCodes)), .row 5 (GEvidence.trs (x.gEvidence))]
def GCache.pv (x : GCache) : PV := .agg [.t (.row 4 (GBound.trs (x.gGoals))), .t (.row 1 (intTrs (x.gCodes))), .t (.row 5 (GEvidence.trs (x.gEvidence)))]
end Go.Proofs.YtmpepccpnnldoaaDoor

namespace Go.Proofs.YtmpepccpnnldoaaDoor
set_option linter.unusedSimpArgs false
set_option linter.unusedVariables false
open Go.RowKit Go.WalkArith Go.IntWalk Go.WideShapes

section
variable {P : Program} {C : Ctx} {n : Nat} {s : AS} {Q : Exit → AS → Prop} {o : Oper} {ops : Array Oper} {rest : List Oper}
theorem keeps_nil {st' : Sto} (h : C.st = ⟨[], []⟩) : Keeps0 C.st st' := by rw [h]; exact Keeps0.nil
end
end Go.Proofs.YtmpepccpnnldoaaDoor

namespace Go.Proofs.YtmpepccpnnldoaaDoor
set_option linter.unusedSimpArgs false
set_option linter.unusedVariables false
open Go.RowKit Go.WalkArith Go.IntWalk Go.WideShapes

section
variable {P : Program} {C : Ctx} {n : Nat} {s : AS} {Q : Exit → AS → Prop} {o : Oper}
theorem AOp.quietX {p : PV} (hd : dstOk o.dst n = true) (h : ∀ m a w, RA C n s m a w → ∃ v w1, (execOp a.eval o).run P w = .ok (.value v) w1 ∧ Ext w w1 ∧ RV (okA C.av s.st m) s.st m w1 p v) : AOp P C n o s (s.putO o.dst p) :=
  AOp.run hd (s1 := s) (fun m a w hr => by
    obtain ⟨v, w1, h1, h2, h3⟩ := h m a w hr
    exact ⟨v, m, w1, h1, Ev.later h2, hr.sto.later h2, h3⟩) rfl
theorem AOp.buildSlice_run {T E sz by_ len : Nat} {parts : Array (Nat × Operand)} {ps : List (Nat × List PV)} {zs cs : List PV} (ho : o.op = .buildSlice T len parts) (hT : elemOf? P T = some (E, sz, by_)) (hz : zerosOf P E = some zs) (hp : partsP s parts.toList = some ps)
    (hc : fillP (fun i => some (i * sz, sz)) (List.replicate len zs).flatten ps = some cs) (hcl : cs.length = len * sz) (hsz : 0 < sz) (hzl : zs.length = sz) (hsm : len * sz ≤ 16777216) {m : Lay} {a : Act} {w : World} (h : RA C n s m a w) :
    ∃ us, (execOp a.eval o).run P w = .ok (.value (.slice (some ⟨w.heap.size, 0, none⟩) len len)) (w.alloc (.cells ⟨us⟩ E)) ∧ RVL (okA C.av s.st m) s.st m w cs us ∧ len ≤ maxLen := by
  obtain ⟨i, hu, hi, hs, hby⟩ := elemOf?.spec hT
  obtain ⟨i', z, hi', hzz, hr⟩ := zerosOf.spec hz
  rw [hi] at hi'
  cases hi'
  have hzv := hr (okA C.av s.st m) s.st m w
  have hzs : z.cells.size = sz := by have := hzv.length; rw [hzl] at this; simpa using this.symm
  have hrl : ∀ e ∈ List.replicate len zs, e.length = sz := fun e he => by rw [(List.mem_replicate.1 he).2]; exact hzl
  have hzero : RVL (okA C.av s.st m) s.st m w (List.replicate len zs).flatten ((List.range (len * sz)).map (fun q => z.cells[q % z.cells.size]!)) := by
    refine RVL.of_get (by rw [flatten_len hrl]; simp) fun j p hj => ?_
    have hjl : j < len * sz := by have := get_lt hj; rw [flatten_len hrl] at this; simpa using this
    have hj1 : j / sz < len := by rw [Nat.div_lt_iff_lt_mul hsz]; exact hjl
    have hj2 : j % sz < zs.length := by rw [hzl]; exact Nat.mod_lt _ hsz
    have hpj := flatten_get (i := j / sz) (j := j % sz) (e := zs) (d := zs[j % sz]) hrl (by rw [List.getElem?_replicate, if_pos hj1]) (List.getElem?_eq_getElem hj2)
    rw [show j / sz * sz + j % sz = j by rw [Nat.mul_comm]; exact Nat.div_add_mod j sz, hj] at hpj
    cases hpj
    obtain ⟨v, hv, hrv⟩ := hzv.get (List.getElem?_eq_getElem hj2)
    refine ⟨v, ?_, hrv⟩
    rw [List.getElem?_map, List.getElem?_range hjl]
    simp only [Option.map_some, hzs]
    rw [Array.getElem?_toList] at hv
    obtain ⟨hlt, hve⟩ := Array.getElem?_eq_some_iff.1 hv
    rw [getElem!_pos z.cells _ hlt, hve]
  obtain ⟨us, h2, h3⟩ := fillP_ok (partsP_ok h hp) hzero hc
  have hul : us.length = len * sz := by have := h3.length; rw [hcl] at this; exact this.symm
  have hrun : (Instr.buildSlice T len (parts.map fun (i, x) => (i, a.eval x))).run P w = .ok (.slice (some ⟨w.heap.size, 0, none⟩) len len) (w.alloc (.cells ⟨us⟩ E)) := by
    have hfill : Instr.fill (fun i => some (i * sz, sz)) ((Array.range (len * sz)).map (z.cells[· % z.cells.size]!)) (parts.map fun (i, x) => (i, a.eval x)).toList = some ⟨us⟩ := by
      rw [Array.toList_map, ← h2]
      congr 1
      apply Array.ext'
      simp
    by_cases h0 : len * sz = 0
    · have hl0 : len = 0 := by
        rcases Nat.mul_eq_zero.1 h0 with h | h
        · exact h
        · omega
      subst hl0
      rw [Nat.zero_mul] at hfill
      simp [Instr.buildSlice, run_underlying hu, Go.sizeOf, typeInfo, hi, hs, newRow]
      have e0 : (Array.range 0).map (fun q => z.cells[q % z.cells.size]!) = #[] := by simp
      rw [e0] at hfill
      simp at hfill
      have e1 : (Array.range 0).map (fun _ => (default : Value)) = #[] := by simp
      rw [e1, hfill]
      simp
    · exact run_buildSlice w T E len _ ⟨us⟩ i z hu hi hzz (by rw [hs]; omega) (by rw [hs]; exact h0) (by rw [hs]; exact hfill)
  refine ⟨us, ?_, h3, by have := Nat.le_mul_of_pos_right len hsz; unfold maxLen; omega⟩
  unfold execOp
  simp [ho, hrun]
theorem LeL.length {ps qs : List PV} (h : LeL ps qs) : ps.length = qs.length := by
  induction ps generalizing qs with
  | nil => cases h; rfl
  | cons p ps ih => cases h with | cons _ k => rw [List.length_cons, List.length_cons, ih k]
theorem AOp.buildSlice_lit {T E sz by_ len : Nat} {parts : Array (Nat × Operand)} {ps : List (Nat × List PV)} {zs cs : List PV} {es : List (List Tr)} (ho : o.op = .buildSlice T len parts) (hT : elemOf? P T = some (E, sz, by_)) (hz : zerosOf P E = some zs) (hp : partsP s parts.toList = some ps)
    (hc : fillP (fun i => some (i * sz, sz)) (List.replicate len zs).flatten ps = some cs) (hle : LeL cs (es.flatten.map PV.t)) (hel : es.length = len) (hes : ∀ e ∈ es, e.length = sz) (hsz : 0 < sz) (hzl : zs.length = sz) (hsm : len * sz ≤ 16777216) :
    ∀ m a w, RA C n s m a w → ∃ v w1, (execOp a.eval o).run P w = .ok (.value v) w1 ∧ Ext w w1 ∧ RV (okA C.av s.st m) s.st m w1 (.lit sz es) v := by
  intro m a w h
  obtain ⟨us, h1, h3, hm⟩ := AOp.buildSlice_run ho hT hz hp hc (by rw [hle.length, List.length_map, flatten_len hes, hel]) hsz hzl hsm h
  have h4 := LeL.rv hle h3
  have hx : Ext w (w.alloc (.cells ⟨us⟩ E)) := .alloc (.refl _) _
  refine ⟨.slice (some ⟨w.heap.size, 0, none⟩) len len, w.alloc (.cells ⟨us⟩ E), h1, hx, ?_⟩
  have hget : ∀ q e, es[q]? = some e → ∀ j d, e[j]? = some d → ∃ v, us[q * sz + j]? = some v ∧ RepM (okA C.av s.st m) (w.alloc (.cells ⟨us⟩ E)) d v := fun q e hq j d hj => by
    have hf := flatten_get (sz := sz) hes hq hj
    obtain ⟨v, hv, hrv⟩ := h4.get (j := q * sz + j) (p := .t d) (by rw [List.getElem?_map, hf]; rfl)
    exact ⟨v, hv, RepM.ext hrv hx⟩
  have := RepM.row (ok := okA C.av s.st m) (w := w.alloc (.cells ⟨us⟩ E)) (es := es) (sz := sz) (a := some ⟨w.heap.size, 0, none⟩) (cap := len) (fun q j => (us[q * sz + j]?).getD undef) (by omega) hm (fun _ => ⟨w.heap.size, 0, rfl, by simp, fun q e hq j d hd => ⟨okA_new h.sto (Nat.le_refl _) _, ?_⟩⟩) (fun q e hq j d hd => ?_)
  · subst hel
    exact ⟨this, _, rfl⟩
  · obtain ⟨v, hv, -⟩ := hget q e hq j d hd
    rw [Nat.zero_add, (OB.new w E ⟨us⟩).cell, hv]
    simpa using hv
  · obtain ⟨v, hv, hr⟩ := hget q e hq j d hd
    rw [hv]
    exact hr
/-- The operation's outcome, told by less. -/
theorem AOp.less {p q : PV} (hle : PV.Le p q) (hdl : dstOk o.dst n = true) (h : ∀ m a w, RA C n s m a w → ∃ v w1, (execOp a.eval o).run P w = .ok (.value v) w1 ∧ Ext w w1 ∧ RV (okA C.av s.st m) s.st m w1 p v) : AOp P C n o s (s.putO o.dst q) :=
  AOp.quietX hdl fun m a w hr => by
    obtain ⟨v, w1, h1, h2, h3⟩ := h m a w hr
    exact ⟨v, w1, h1, h2, hle.rv h3⟩
/-- A literal of data, its row forgotten. -/
theorem AOp.buildSliceQ {T E sz by_ len : Nat} {parts : Array (Nat × Operand)} {ps : List (Nat × List PV)} {zs cs : List PV} {es : List (List Tr)} (ho : o.op = .buildSlice T len parts) (hd : dstOk o.dst n = true) (hT : elemOf? P T = some (E, sz, by_)) (hz : zerosOf P E = some zs) (hp : partsP s parts.toList = some ps)
    (hc : fillP (fun i => some (i * sz, sz)) (List.replicate len zs).flatten ps = some cs) (hle : LeL cs (es.flatten.map PV.t)) (hel : es.length = len) (hes : ∀ e ∈ es, e.length = sz) (hsz : 0 < sz) (hzl : zs.length = sz) (hsm : len * sz ≤ 16777216) :
    AOp P C n o s (s.putO o.dst (.t (.row sz es))) :=
  AOp.less (.lit sz es) hd (AOp.buildSlice_lit ho hT hz hp hc hle hel hes hsz hzl hsm)

end
end Go.Proofs.YtmpepccpnnldoaaDoor

namespace Go.Proofs.YtmpepccpnnldoaaDoor
set_option linter.unusedSimpArgs false
set_option linter.unusedVariables false
open Go.RowKit

def lay0 : Lay := ⟨fun _ => 0, fun _ => none⟩
def av0 : Nat → Nat → Prop := fun _ _ => False
theorem ok0 (b o : Nat) : okA av0 ⟨[], []⟩ lay0 b o := ⟨fun h => h, fun k x h => by simp at h, fun r row g c h => by simp at h⟩
theorem sto0 (w : World) : StoOk av0 ⟨[], []⟩ lay0 w where
  box := fun k x h => by simp at h
  binj := fun k k' x x' h => by simp at h
  row := fun r row h => by simp at h
  rinj := fun r r' row row' g c c' h => by simp at h
  br := fun k x r row g c h => by simp at h
  avlt := fun b o h => h.elim
  avr := fun r row g c h => by simp at h
  avb := fun k x h => by simp at h
theorem Ev.ext {m m' : Lay} {w w' : World} {st' : Sto} (h : Ev ⟨[], []⟩ m w st' m' w') : Ext w w' where
  os := h.os
  tape := h.tape
  output := h.output
  size := h.size
  block := fun b hb => h.blk b hb (fun k x h => by simp at h) (fun r row g c h => by simp at h)
/-- The values stand for plain data. -/
abbrev RVL0 (w : World) (ps : List PV) (vs : List Value) : Prop := RVL (okA av0 ⟨[], []⟩ lay0) ⟨[], []⟩ lay0 w ps vs
abbrev RV0 (w : World) (p : PV) (v : Value) : Prop := RV (okA av0 ⟨[], []⟩ lay0) ⟨[], []⟩ lay0 w p v
theorem RV0.agg {w : World} {ts : List Tr} {cs : List Value} (h : RepL w ts cs) : RV0 w (.agg (ts.map PV.t)) (.agg ⟨cs⟩) := ⟨cs, rfl, h.toRVL fun b o _ => ok0 b o⟩
theorem RV0.t {w : World} {t : Tr} {v : Value} (h : Rep w t v) : RV0 w (.t t) v := h.repM fun b o _ => ok0 b o
theorem AFun.plain {P : Program} {f : FuncId} {args : List PV} {d : Value} (h : AFun P f args (.t (.leaf d))) {w : World} {vals : List Value} (hv : RVL0 w args vals) : Calls P f ⟨vals⟩ w fun e w' => e = .returned d ∧ Ext w w' :=
  (h av0 lay0 w vals (sto0 w) hv).mono fun e w' => by
    rintro ⟨res, st', m', v, rfl, ⟨rfl, rfl⟩, -, he, hr⟩
    exact ⟨by rw [(RepM.leaf_eq hr).1], he.ext⟩

end Go.Proofs.YtmpepccpnnldoaaDoor

namespace Go.Proofs.YtmpepccpnnldoaaDoor
set_option linter.unusedSimpArgs false
set_option linter.unusedVariables false
open Go.RowKit Go.WalkArith Go.IntWalk Go.WideShapes

section
variable {P : Program} {C : Ctx} {n : Nat} {s : AS} {Q : Exit → AS → Prop} {o : Oper}
end

end Go.Proofs.YtmpepccpnnldoaaDoor

namespace Go.Proofs.YtmpepccpnnldoaaDoor
set_option linter.unusedSimpArgs false
set_option linter.unusedVariables false
open Go.RowKit Go.WalkArith Go.IntWalk Go.WideShapes

section
variable {P : Program} {C : Ctx} {n : Nat} {s : AS} {o : Oper}
end
end Go.Proofs.YtmpepccpnnldoaaDoor

namespace Go.Proofs.YtmpepccpnnldoaaDoor
set_option linter.unusedSimpArgs false
set_option linter.unusedVariables false
open Go.RowKit Go.WalkArith Go.IntWalk Go.WideShapes

section
variable {P : Program} {C : Ctx} {n : Nat} {s : AS} {o : Oper}
end
end Go.Proofs.YtmpepccpnnldoaaDoor

namespace Go.Proofs.YtmpepccpnnldoaaDoor
set_option linter.unusedSimpArgs false
set_option linter.unusedVariables false
open Go.RowKit Go.WalkArith Go.IntWalk Go.WideShapes

section
variable {P : Program} {C : Ctx} {n : Nat} {s : AS} {o : Oper}
end

end Go.Proofs.YtmpepccpnnldoaaDoor

namespace Go.Proofs.YtmpepccpnnldoaaDoor
set_option linter.unusedSimpArgs false
set_option linter.unusedVariables false
open Go.RowKit Go.WalkArith Go.IntWalk Go.WideShapes

mutual
/-- The value, the one slice of ours in it told by another number. -/
inductive Mv (sz : Nat) (es : List (List Tr)) (k k' : Nat) : PV → PV → Prop
  | acc : Mv sz es k k' (.acc sz es k) (.acc sz es k')
  | free (p : PV) : PV.free p = true → Mv sz es k k' p p
  | agg {ps qs : List PV} : MvL sz es k k' ps qs → Mv sz es k k' (.agg ps) (.agg qs)
  | tup {ps qs : List PV} : MvL sz es k k' ps qs → Mv sz es k k' (.tup ps) (.tup qs)
inductive MvL (sz : Nat) (es : List (List Tr)) (k k' : Nat) : List PV → List PV → Prop
  | nil : MvL sz es k k' [] []
  | cons {p q : PV} {ps qs : List PV} : Mv sz es k k' p q → MvL sz es k k' ps qs → MvL sz es k k' (p :: ps) (q :: qs)
end
section
variable {ok ok' : Nat → Nat → Prop} {st st' : Sto} {m m' : Lay} {w : World} {sz k k' : Nat} {es : List (List Tr)}
mutual
theorem Mv.rv (hk : ∀ b o, b < w.heap.size → ok b o → ok' b o) (hrow : ∀ row, st.rows[k]? = some row → st'.rows[k']? = some row ∧ m'.γ k' = m.γ k) : ∀ {p q : PV} {v : Value}, Mv sz es k k' p q → RV ok st m w p v → RV ok' st' m' w q v
  | _, _, _, .acc, h => by
    obtain ⟨row, h1, h2, h3, h4, h5⟩ := h
    obtain ⟨k1, k2⟩ := hrow row h1
    exact ⟨row, k1, h2, h3, RepM.mono h4 (Nat.le_refl _) hk (fun _ _ _ _ => rfl), fun e => by rw [k2]; exact h5 e⟩
  | _, _, _, .free p hf, h => PV.free.rv hk p _ hf h
  | _, _, _, .agg hl, h => by
    obtain ⟨vs, hv, h1⟩ := h
    exact ⟨vs, hv, MvL.rv hk hrow hl h1⟩
  | _, _, _, .tup hl, h => by
    obtain ⟨vs, hv, h1⟩ := h
    exact ⟨vs, hv, MvL.rv hk hrow hl h1⟩
theorem MvL.rv (hk : ∀ b o, b < w.heap.size → ok b o → ok' b o) (hrow : ∀ row, st.rows[k]? = some row → st'.rows[k']? = some row ∧ m'.γ k' = m.γ k) : ∀ {ps qs : List PV} {vs : List Value}, MvL sz es k k' ps qs → RVL ok st m w ps vs → RVL ok' st' m' w qs vs
  | _, _, [], .nil, h => h
  | _, _, _ :: _, .nil, h => h.elim
  | _, _, [], .cons _ _, h => h.elim
  | _, _, _ :: _, .cons h1 h2, h => ⟨Mv.rv hk hrow h1 h.1, MvL.rv hk hrow h2 h.2⟩
end
end

section
variable {av : Nat → Nat → Prop} {s pre st' : Sto} {m m' : Lay} {fb : List Nat} {w w' : World} {k : Nat} {row : PRow}
end

def freeBoxes : List (Option PBox) → Bool
  | [] => true
  | none :: l => freeBoxes l
  | some x :: l => freeL x.cells && freeBoxes l
theorem freeBoxes.get : ∀ {l : List (Option PBox)} {j : Nat} {x : PBox}, freeBoxes l = true → l[j]? = some (some x) → freeL x.cells = true
  | [], _, _, _, h => by simp at h
  | none :: l, 0, _, _, h => by simp at h
  | none :: l, j + 1, x, hf, h => freeBoxes.get (l := l) (j := j) hf (by simpa using h)
  | some y :: l, 0, x, hf, h => by
    simp at h
    subst h
    simp only [freeBoxes, Bool.and_eq_true] at hf
    exact hf.1
  | some y :: l, j + 1, x, hf, h => by
    simp only [freeBoxes, Bool.and_eq_true] at hf
    exact freeBoxes.get (l := l) (j := j) hf.2 (by simpa using h)
/-- The same, the slice told as data. -/
theorem BoxLe.refl {st : Sto} : ∀ {B : List (Option PBox)}, (∀ x, some x ∈ B → okInL st x.cells = true) → BoxLe st B B
  | [], _ => trivial
  | none :: B, h => BoxLe.refl (B := B) fun x hx => h x (List.mem_cons_of_mem _ hx)
  | some x :: B, h => ⟨⟨rfl, LeL.refl _, h x (by simp)⟩, BoxLe.refl (B := B) fun y hy => h y (List.mem_cons_of_mem _ hy)⟩
section
variable {P : Program} {C : Ctx} {n : Nat} {s : AS} {o : Oper}
end
end Go.Proofs.YtmpepccpnnldoaaDoor

namespace Go.Proofs.YtmpepccpnnldoaaDoor
set_option linter.unusedSimpArgs false
set_option linter.unusedVariables false
open Go.RowKit Go.WalkArith Go.IntWalk Go.WideShapes

section
variable {P : Program} {C : Ctx} {n : Nat} {s : AS} {o : Oper}
end
end Go.Proofs.YtmpepccpnnldoaaDoor

namespace Go.Proofs.YtmpepccpnnldoaaDoor
open Go.RowKit Go.Proofs

theorem zr2 : zerosOf Tryd.prog 2 = some [.t (.leaf (.int .i64 0))] := by kernel_rfl
theorem zr3 : zerosOf Tryd.prog 3 = some [.t (.leaf (.int .i64 0))] := by kernel_rfl
theorem zr5 : zerosOf Tryd.prog 5 = some [.t (.leaf (.int .u8 0))] := by kernel_rfl
theorem el36 : elemOf? Tryd.prog 36 = some (5, 1, 1) := by kernel_rfl
theorem mixed : Tryd.prog.follows .mixedOrders = true := by kernel_rfl
end Go.Proofs.YtmpepccpnnldoaaDoor

namespace Go.Proofs.YtmpepccpnnldoaaDoor
set_option linter.unusedSimpArgs false
set_option linter.unusedVariables false
open Go.RowKit Go.WalkArith Go.IntWalk Go.WideShapes

def wrap64 (x : Int) : Int := IntKind.wrap .i64 x

section
variable {P : Program} {C : Ctx} {n : Nat} {s : AS} {o : Oper}
end
end Go.Proofs.YtmpepccpnnldoaaDoor

namespace Go.Proofs.YtmpepccpnnldoaaDoor
set_option linter.unusedSimpArgs false
set_option linter.unusedVariables false
open Go.RowKit Go.WalkArith Go.IntWalk Go.WideShapes

theorem RVL.set {ok : Nat → Nat → Prop} {st : Sto} {m : Lay} {w : World} {q : PV} : ∀ {ps : List PV} {vs : List Value} {j : Nat}, RVL ok st m w ps vs → (∀ v, vs[j]? = some v → RV ok st m w q v) → RVL ok st m w (ps.set j q) vs
  | [], [], j, _, _ => by simp [RVL]
  | p :: ps, v :: vs, 0, h, k => ⟨k v rfl, h.2⟩
  | p :: ps, v :: vs, j + 1, h, k => ⟨h.1, RVL.set h.2 fun u hu => k u (by simpa using hu)⟩
  | [], _ :: _, _, h, _ => h.elim
  | _ :: _, [], _, h, _ => h.elim
section
variable {P : Program} {C : Ctx} {n : Nat} {s : AS}
end
end Go.Proofs.YtmpepccpnnldoaaDoor

namespace Go.Proofs.YtmpepccpnnldoaaDoor
open Go.RowKit Go.WalkArith Go.IntWalk Go.WideShapes
section
variable {P : Program} {C : Ctx} {n : Nat} {s : AS} {o : Oper}
end
end Go.Proofs.YtmpepccpnnldoaaDoor

namespace Go.Proofs.YtmpepccpnnldoaaDoor
set_option linter.unusedSimpArgs false
set_option linter.unusedVariables false
open Go.RowKit Go.WalkArith Go.IntWalk Go.WideShapes

/-- What a round of a loop says: on with s, out with s, or out of more than the loop. -/
inductive LR (σ β : Type) where
  | next (s : σ)
  | brk (s : σ)
  | ret (x : β)

def sw {α : Type} (b : Bool) (x y : α) : α := match b with
  | true => x
  | false => y
theorem swT {α : Type} {b : Bool} {x y z : α} (h : b = true) (k : x = z) : sw b x y = z := by rw [h]; exact k
theorem swF {α : Type} {b : Bool} {x y z : α} (h : b = false) (k : y = z) : sw b x y = z := by rw [h]; exact k
def lt {α β : Type} (x : α) (f : α → β) : β := f x
noncomputable def gd {α : Type} (p : Prop) (x : Option α) : Option α := @ite _ p (Classical.propDecidable p) x none
theorem gdT {α : Type} {p : Prop} {x z : Option α} (h : p) (k : x = z) : gd p x = z := by unfold gd; rw [if_pos h]; exact k
theorem gdF {α : Type} {p : Prop} {x : Option α} (h : ¬ p) : gd p x = none := by unfold gd; rw [if_neg h]
def so {σ β : Type} (m : Option (β ⊕ σ)) (f : σ → Option β) : Option β := match m with
  | none => none
  | some (.inl x) => some x
  | some (.inr s) => f s
def loopN {σ β : Type} (f : Nat → σ → Option (LR σ β)) : Nat → Nat → σ → Option (β ⊕ σ)
  | 0, _, s => some (.inr s)
  | k + 1, i, s => match f i s with
    | none => none
    | some (.next s') => loopN f k (i + 1) s'
    | some (.brk s') => some (.inr s')
    | some (.ret x) => some (.inl x)
def loopW {σ β : Type} (f : σ → Option (LR σ β)) : Nat → σ → Option (β ⊕ σ)
  | 0, _ => none
  | k + 1, s => match f s with
    | none => none
    | some (.next s') => loopW f k s'
    | some (.brk s') => some (.inr s')
    | some (.ret x) => some (.inl x)
section
variable {σ β : Type} {f : Nat → σ → Option (LR σ β)} {n i : Nat} {s s' : σ} {x : β} {R : Option (β ⊕ σ)}
end
section
variable {σ β : Type} {f : σ → Option (LR σ β)} {k : Nat} {s s' : σ} {x : β} {R : Option (β ⊕ σ)}
theorem loopW_next (hJ : R = loopW f (k + 1) s) (e : f s = some (.next s')) : R = loopW f k s' := by rw [hJ, loopW, e]
theorem loopW_brk (hJ : R = loopW f (k + 1) s) (e : f s = some (.brk s')) : R = some (.inr s') := by rw [hJ, loopW, e]
end
/-! ### Ways that meet again -/
section
variable {P : Program} {C : Ctx} {n : Nat} {s : AS} {Q : Exit → AS → Prop}
def QC (C : Ctx) (n : Nat) (Q : Exit → AS → Prop) : Prop := ∀ e s s', Wk C n s s' → Q e s' → Q e s
def NC (C : Ctx) (n : Nat) (N : AS → Prop) : Prop := ∀ s s', Wk C n s s' → N s' → N s
theorem ncAWP {c : Code} : NC C n (AWP P C n c Q) := fun _ _ h k => AWP.weak h k
theorem qcThen {N : AS → Prop} (hn : NC C n N) (hq : QC C n Q) : QC C n (thenA N Q) := fun e s s' h k => by
  cases e with
  | normal => exact hn s s' h k
  | _ => exact hq _ s s' h k
theorem qcBlock {id : Nat} (hq : QC C n Q) : QC C n (inBlockA id Q) := fun e s s' h k => by
  cases e with
  | exit i =>
    simp only [inBlockA] at k ⊢
    split
    · rename_i hi; rw [if_pos hi] at k; exact hq _ s s' h k
    · rename_i hi; rw [if_neg hi] at k; exact hq _ s s' h k
  | _ => exact hq _ s s' h k
theorem qcEnds {fn : Func} {R : PV → Sto → Prop} : QC C n (Ends P C n fn R) := fun e s s' h k => ⟨k.1, fun m a w hr => by
  obtain ⟨m', h'⟩ := h m a w hr
  exact k.2 m' a w h'⟩
end
end Go.Proofs.YtmpepccpnnldoaaDoor

namespace Go.Proofs.YtmpepccpnnldoaaDoor
open Go.RowKit Go.Proofs
set_option linter.unusedSimpArgs false
set_option linter.unusedVariables false


def byteTrs (l : List UInt8) : List (List Tr) := l.map fun b => [.leaf (.int .u8 (b.toNat : Int))]
theorem byteTrs_len (l : List UInt8) : (byteTrs l).length = l.length := by simp [byteTrs]
theorem byteTrs_cs {l : List UInt8} {k : Nat} (h : k < l.length) : (byteTrs l)[k]? = some [.leaf (.int .u8 ((l[k]).toNat : Int))] := by simp [byteTrs, h]
/-- The state of the source: the bytes, the place, the number. -/
structure DS where
  code : List UInt8
  p : Nat
  h : Int
def DS.cells (d : DS) : List PV := [.t (.row 1 (byteTrs d.code)), .t (.leaf (.int .i64 (d.p : Int))), .t (.leaf (.int .i64 d.h))]
abbrev DS.box (T : TypeId) (d : DS) : Sto := ⟨[some ⟨T, d.cells⟩], []⟩
def nextH (h : Int) : Int := wrap64 (wrap64 (h * 6364136223846793005) + 1442695040888963407)
def DS.next (d : DS) : DS := ⟨d.code, if d.p < d.code.length then d.p + 1 else d.p, nextH d.h⟩
def DS.after (d : DS) (n : Nat) : DS := if n = 0 then d else if n ≤ 256 then d.next else d.next.next.next.next
end Go.Proofs.YtmpepccpnnldoaaDoor

namespace Go.Proofs.YtmpepccpnnldoaaDoor
set_option linter.unusedSimpArgs false
set_option linter.unusedVariables false
open Go.RowKit Go.WalkArith Go.IntWalk Go.WideShapes

section
variable {P : Program} {C : Ctx} {n : Nat} {s : AS} {o : Oper}
theorem AOp.makeSlice {T E sz by_ N : Nat} {x y : Operand} (ho : o.op = .makeSlice T x y) (hd : dstOk o.dst n = true) (hx : s.ev x = some (.t (.leaf (.int .i64 (N : Int))))) (hy : s.ev y = some (.t (.leaf (.int .i64 (N : Int)))))
    (hT : elemOf? P T = some (E, sz, by_)) (hz : (P.info? E).bind (fun i => i.zero.map (fun z => z.cells.size)) = some sz) (hsz : 0 < sz) (hb : by_ * N ≤ 281474976710656) (hN : N ≤ 9223372036854775807) :
    AOp P C n o s ((⟨s.env, s.st.addRow ⟨E, sz, [], true⟩⟩ : AS).putO o.dst (.full sz N s.st.rows.length)) :=
  AOp.run hd (s1 := ⟨s.env, s.st.addRow ⟨E, sz, [], true⟩⟩) (fun m a w h => by
    obtain ⟨i, hu, hi, hs, hby⟩ := elemOf?.spec hT
    have h1 := (RepM.leaf_eq (h.eval hx)).1
    have h2 := (RepM.leaf_eq (h.eval hy)).1
    cases hzz : i.zero with
    | none => simp [hi, hzz] at hz
    | some z =>
      have hb' : (i.bytes : Int) * (N : Int) ≤ 281474976710656 := by
        rw [hby]
        have : ((by_ * N : Nat) : Int) ≤ 281474976710656 := by omega
        rwa [Int.natCast_mul] at this
      have hr := run_make (P := P) w T E i z hu hi hzz .i64 .i64 N N (by omega) (Int.le_refl _) hb' (by omega)
      simp only [Int.toNat_natCast] at hr
      refine ⟨.slice (some ⟨w.heap.size, 0, none⟩) N N, ⟨m.ρ, upd m.γ s.st.rows.length (some (w.heap.size, N))⟩, _, ?_, ev_newRow (row := ⟨E, sz, [], true⟩) (c := N) (cur := madeCells z.cells (N * i.size)) h.sto, sto_newRow (row := ⟨E, sz, [], true⟩) h.sto hsz rfl (by rw [size_madeCells, hs]) (by unfold maxLen; omega), ?_⟩
      · unfold execOp
        simp only [ho, h1, h2, Sem.run_bind, hr, Result.andThen_ok]
        rfl
      · exact ⟨⟨E, sz, [], true⟩, w.heap.size, by show (s.st.rows ++ [_])[s.st.rows.length]? = _; simp, rfl, rfl, upd_same _ _ _, rfl⟩) rfl
/-- What has been filled to its end is plain data. -/
theorem Wk.full {i E sz N r : Nat} {es : List (List Tr)} {b : Bool} (hx : s.lk i = some (.full sz N r)) (hrow : s.st.rows[r]? = some ⟨E, sz, es, b⟩) (hl : es.length = N) : Wk C n s (s.put i (.t (.row sz es))) := fun m a w h => by
  refine ⟨m, h.dfr, h.tsz, h.sto, fun j q hq => ?_, h.ev⟩
  rw [AS.lk_put] at hq
  split at hq
  · rename_i e
    subst e
    cases hq
    obtain ⟨v, hv, row, g, q1, q2, q3, q4, q5⟩ := h.env j _ hx
    refine ⟨v, hv, ?_⟩
    rw [hrow] at q1
    cases q1
    obtain ⟨-, -, hplace⟩ := h.sto.row r _ hrow
    rcases hplace with ⟨z1, -⟩ | ⟨g', c', cur, z1, hob, hcs, hfit, hmax, hrep⟩
    · rw [q4] at z1; cases z1
    rw [q4] at z1
    injection z1 with z1
    injection z1 with e1 e2
    subst e1 e2
    subst q5
    show RepM _ _ (.row sz es) _
    have : RepM (okA C.av s.st m) w (.row sz es) (.slice (some ⟨g, 0, none⟩) es.length N) := hrep
    rw [hl] at this
    exact this
  · exact h.env j q hq
end
end Go.Proofs.YtmpepccpnnldoaaDoor

namespace Go.Proofs.YtmpepccpnnldoaaDoor
set_option linter.unusedSimpArgs false
set_option linter.unusedVariables false
open Go.RowKit Go.WalkArith Go.IntWalk Go.WideShapes

section
variable {P : Program} {C : Ctx} {n : Nat} {s : AS} {o : Oper}
end
end Go.Proofs.YtmpepccpnnldoaaDoor

namespace Go.Proofs.YtmpepccpnnldoaaDoor
open Go.RowKit Go.Proofs
end Go.Proofs.YtmpepccpnnldoaaDoor

namespace Go.Proofs.YtmpepccpnnldoaaDoor
set_option linter.unusedSimpArgs false
set_option linter.unusedVariables false
open Go.RowKit Go.WalkArith Go.IntWalk Go.WideShapes

instance : Inhabited ByteArray := ⟨⟨#[]⟩⟩
def atD {α : Type} [Inhabited α] (l : List α) (k : Nat) : α := (l[k]?).getD default
theorem atD_eq {α : Type} [Inhabited α] {l : List α} {k : Nat} (h : k < l.length) : atD l k = l[k] := by simp [atD, h]
theorem strTrs_at {l : List ByteArray} {k : Nat} (h : k < l.length) : (strTrs l)[k]? = some [.leaf (.string (atD l k))] := by rw [atD_eq h]; exact strTrs_cs h
theorem intTrs_at {l : List Int} {k : Nat} (h : k < l.length) : (intTrs l)[k]? = some [.leaf (.int .i64 (atD l k))] := by rw [atD_eq h]; exact intTrs_cs h
theorem byteTrs_at {l : List UInt8} {k : Nat} (h : k < l.length) : (byteTrs l)[k]? = some [.leaf (.int .u8 ((atD l k).toNat : Int))] := by rw [atD_eq h]; exact byteTrs_cs h
/-- Box by box, row by row: what is handed over. -/
def PartBoxes (s : Sto) (fb0 fr0 : List Nat) (pre : Sto) : List Nat → List (Option PBox) → Prop
  | [], [] => True
  | k :: fb, some x :: bs => (∃ y, s.boxes[k]? = some (some y) ∧ y.ty = x.ty ∧ LeL y.cells (renL fb0 fr0 x.cells) ∧ okInL pre x.cells = true) ∧ PartBoxes s fb0 fr0 pre fb bs
  | _, _ => False
def PartRows (s : Sto) : List Nat → List PRow → Prop
  | [], [] => True
  | r :: fr, row :: rs => s.rows[r]? = some row ∧ PartRows s fr rs
  | _, _ => False
theorem PartBoxes.len {s pre : Sto} {fb0 fr0 : List Nat} : ∀ {fb : List Nat} {bs : List (Option PBox)}, PartBoxes s fb0 fr0 pre fb bs → fb.length = bs.length
  | [], [], _ => rfl
  | _ :: _, some _ :: _, h => by simp [PartBoxes.len h.2]
  | _ :: _, none :: _, h => h.elim
  | [], _ :: _, h => h.elim
  | _ :: _, [], h => h.elim
theorem PartBoxes.get {s pre : Sto} {fb0 fr0 : List Nat} : ∀ {fb : List Nat} {bs : List (Option PBox)}, PartBoxes s fb0 fr0 pre fb bs → ∀ k, k < bs.length → ∃ x, bs[k]? = some (some x) ∧ ∃ y, s.boxes[fb.getD k 0]? = some (some y) ∧ y.ty = x.ty ∧ LeL y.cells (renL fb0 fr0 x.cells) ∧ okInL pre x.cells = true
  | [], [], _, k, h => by simp at h
  | _ :: _, some x :: _, h, 0, _ => ⟨x, rfl, h.1⟩
  | _ :: _, some _ :: _, h, k + 1, hk => by simpa using PartBoxes.get h.2 k (by simpa using hk)
  | _ :: _, none :: _, h, _, _ => h.elim
  | [], _ :: _, h, _, _ => h.elim
  | _ :: _, [], h, _, _ => h.elim
theorem PartRows.len {s : Sto} : ∀ {fr : List Nat} {rs : List PRow}, PartRows s fr rs → fr.length = rs.length
  | [], [], _ => rfl
  | _ :: _, _ :: _, h => by simp [PartRows.len h.2]
  | [], _ :: _, h => h.elim
  | _ :: _, [], h => h.elim
theorem PartRows.get {s : Sto} : ∀ {fr : List Nat} {rs : List PRow}, PartRows s fr rs → ∀ k row, rs[k]? = some row → s.rows[fr.getD k 0]? = some row
  | [], [], _, k, _, h => by simp at h
  | _ :: _, _ :: _, h, 0, row, hr => by simp at hr; subst hr; exact h.1
  | _ :: _, _ :: _, h, k + 1, row, hr => by simpa using PartRows.get h.2 k row (by simpa using hr)
  | [], _ :: _, h, _, _, _ => h.elim
  | _ :: _, [], h, _, _, _ => h.elim
theorem Part0.of {s pre : Sto} {fb fr : List Nat} (hb : PartBoxes s fb fr pre fb pre.boxes) (hr : PartRows s fr pre.rows) (n1 : fb.Nodup) (n2 : fr.Nodup) : Part0 s pre fb fr where
  fbl := hb.len
  frl := hr.len
  fbn := n1
  frn := n2
  all := fun k hk => by
    obtain ⟨x, hx, -⟩ := hb.get k hk
    exact ⟨x, hx⟩
  box := fun k x hx => by
    obtain ⟨x', hx', h⟩ := hb.get k (List.getElem?_eq_some_iff.1 hx).1
    rw [hx] at hx'
    cases hx'
    exact h
  row := hr.get
section
variable {P : Program} {C : Ctx} {n : Nat} {s : AS} {o : Oper}
theorem AOp.buildSliceE {T E sz by_ len : Nat} {parts : Array (Nat × Operand)} {ps : List (Nat × List PV)} {zs cs : List PV} {es es' : List (List Tr)} (ho : o.op = .buildSlice T len parts) (hd : dstOk o.dst n = true) (hT : elemOf? P T = some (E, sz, by_)) (hz : zerosOf P E = some zs) (hp : partsP s parts.toList = some ps)
    (hc : fillP (fun i => some (i * sz, sz)) (List.replicate len zs).flatten ps = some cs) (hle : LeL cs (es.flatten.map PV.t)) (hel : es.length = len) (hes : ∀ e ∈ es, e.length = sz) (hsz : 0 < sz) (hzl : zs.length = sz) (hsm : len * sz ≤ 16777216) (he : es = es') :
    AOp P C n o s (s.putO o.dst (.t (.row sz es'))) := he ▸ AOp.buildSliceQ ho hd hT hz hp hc hle hel hes hsz hzl hsm
end
theorem keeps_all {C : Ctx} {bs : List (Option PBox)} {rs : List PRow} {S : Sto} (h : C.st = ⟨bs, rs⟩) (hb : ∀ k, k < bs.length → ∃ y, S.boxes[k]? = some (some y)) (hl : rs.length ≤ S.rows.length) : Keeps0 C.st S := by
  rw [h]
  exact ⟨fun k x hx => hb k (List.getElem?_eq_some_iff.1 hx).1, fun k row hk => ⟨S.rows[k]'(Nat.lt_of_lt_of_le (List.getElem?_eq_some_iff.1 hk).1 hl), List.getElem?_eq_getElem _⟩⟩
theorem boxes1 {S : Sto} {x : PBox} {bs : List (Option PBox)} (h : S.boxes = some x :: bs) : ∀ k, k < 1 → ∃ y, S.boxes[k]? = some (some y) := fun k hk => by
  obtain rfl : k = 0 := by omega
  exact ⟨x, by rw [h]; rfl⟩
theorem boxes2 {S : Sto} {x y : PBox} {bs : List (Option PBox)} (h : S.boxes = some x :: some y :: bs) : ∀ k, k < 2 → ∃ y, S.boxes[k]? = some (some y) := fun k hk => by
  rcases (by omega : k = 0 ∨ k = 1) with rfl | rfl
  · exact ⟨x, by rw [h]; rfl⟩
  · exact ⟨y, by rw [h]; rfl⟩
theorem boxes3 {S : Sto} {x y z : PBox} {bs : List (Option PBox)} (h : S.boxes = some x :: some y :: some z :: bs) : ∀ k, k < 3 → ∃ y, S.boxes[k]? = some (some y) := fun k hk => by
  rcases (by omega : k = 0 ∨ k = 1 ∨ k = 2) with rfl | rfl | rfl
  · exact ⟨x, by rw [h]; rfl⟩
  · exact ⟨y, by rw [h]; rfl⟩
  · exact ⟨z, by rw [h]; rfl⟩
theorem boxes0 {S : Sto} : ∀ k, k < 0 → ∃ y, S.boxes[k]? = some (some y) := fun k hk => absurd hk (Nat.not_lt_zero _)
instance : Inhabited GInstanceRef := ⟨.mk 0 0⟩
theorem GInstanceRef.trs_at {l : List GInstanceRef} {k : Nat} (h : k < l.length) : (GInstanceRef.trs l)[k]? = some (atD l k).cs := by rw [atD_eq h]; exact GInstanceRef.trs_cs h
instance : Inhabited GSExpr := ⟨.mk ⟨#[]⟩ []⟩
instance : Inhabited GType := ⟨.mk 0 ⟨#[]⟩ []⟩
instance : Inhabited GBinding := ⟨.mk ⟨#[]⟩ default⟩
instance : Inhabited GExpr := ⟨.mk 0 ⟨#[]⟩ ⟨#[]⟩ 0 default [] []⟩
instance : Inhabited GArm := ⟨.mk ⟨#[]⟩ [] default⟩
instance : Inhabited GSignature := ⟨.mk ⟨#[]⟩ [] default false [] default⟩
instance : Inhabited GTrait := ⟨.mk ⟨#[]⟩ [] false false []⟩
instance : Inhabited GConstructor := ⟨.mk ⟨#[]⟩ []⟩
instance : Inhabited GDataType := ⟨.mk ⟨#[]⟩ [] []⟩
instance : Inhabited GBound := ⟨.mk ⟨#[]⟩ default⟩
instance : Inhabited GMethod := ⟨.mk ⟨#[]⟩ [] default⟩
instance : Inhabited GInstance := ⟨.mk ⟨#[]⟩ [] default [] false false default []⟩
instance : Inhabited GParam := ⟨.mk ⟨#[]⟩ default⟩
instance : Inhabited GFunction := ⟨.mk ⟨#[]⟩ [] [] [] default default⟩
instance : Inhabited GPackage := ⟨.mk ⟨#[]⟩ [] [] [] [] []⟩
instance : Inhabited GProgram := ⟨.mk []⟩
instance : Inhabited Gview := ⟨.mk default []⟩
instance : Inhabited GEvidence := ⟨.mk 0 0 default []⟩
theorem GEvidence.trs_at {l : List GEvidence} {k : Nat} (h : k < l.length) : (GEvidence.trs l)[k]? = some (atD l k).cs := by rw [atD_eq h]; exact GEvidence.trs_cs h
instance : Inhabited GAssumption := ⟨.mk default 0 []⟩
instance : Inhabited Gl2In := ⟨.mk ⟨#[]⟩ 0 0 0 false⟩
instance : Inhabited GCache := ⟨.mk [] [] []⟩
end Go.Proofs.YtmpepccpnnldoaaDoor

namespace Go.Proofs.YtmpepccpnnldoaaDoor
set_option linter.unusedSimpArgs false
set_option linter.unusedVariables false
open Go.RowKit Go.WalkArith Go.IntWalk Go.WideShapes

section
variable {P : Program} {C : Ctx} {n : Nat} {s : AS} {o : Oper}
/-! ### A box that is written no more -/
mutual
inductive FLe (k sz : Nat) (es : List (List Tr)) : PV → PV → Prop
  | le {p q : PV} : PV.Le p q → FLe k sz es p q
  | bsl {n : Nat} : es.length = n → FLe k sz es (.bsl k n) (.t (.row sz es))
  | bslL {n : Nat} : es.length = n → FLe k sz es (.bsl k n) (.lit sz es)
  | gsl {n : Nat} : es.length = n → FLe k sz es (.gsl k n) (.t (.row sz es))
  | agg {ps qs : List PV} : FLeL k sz es ps qs → FLe k sz es (.agg ps) (.agg qs)
inductive FLeL (k sz : Nat) (es : List (List Tr)) : List PV → List PV → Prop
  | nil : FLeL k sz es [] []
  | cons {p q : PV} {ps qs : List PV} : FLe k sz es p q → FLeL k sz es ps qs → FLeL k sz es (p :: ps) (q :: qs)
end
def FBox (k sz : Nat) (es : List (List Tr)) (st' : Sto) : List (Option PBox) → List (Option PBox) → Prop
  | _, [] => True
  | _ :: xs, none :: ys => FBox k sz es st' xs ys
  | some x :: xs, some y :: ys => (x.ty = y.ty ∧ FLeL k sz es x.cells y.cells ∧ okInL st' y.cells = true) ∧ FBox k sz es st' xs ys
  | _, _ => False
theorem FBox.get {k sz : Nat} {es : List (List Tr)} {st' : Sto} : ∀ {xs ys : List (Option PBox)}, FBox k sz es st' xs ys → ∀ (i : Nat) (y : PBox), ys[i]? = some (some y) → ∃ x : PBox, xs[i]? = some (some x) ∧ x.ty = y.ty ∧ FLeL k sz es x.cells y.cells ∧ okInL st' y.cells = true
  | _, [], _, i, y, h => by simp at h
  | [], none :: ys, hl, i, y, h => hl.elim
  | x :: xs, none :: ys, hl, 0, y, h => by simp at h
  | none :: xs, none :: ys, hl, i + 1, y, h => by simpa using FBox.get (xs := xs) hl i y (by simpa using h)
  | some _ :: xs, none :: ys, hl, i + 1, y, h => by simpa using FBox.get (xs := xs) hl i y (by simpa using h)
  | some x :: xs, some z :: ys, hl, 0, y, h => by
    simp at h
    subst h
    exact ⟨x, rfl, hl.1⟩
  | some x :: xs, some z :: ys, hl, i + 1, y, h => by simpa using FBox.get (xs := xs) hl.2 i y (by simpa using h)
  | [], some _ :: _, hl, _, _, _ => hl.elim
  | none :: _, some _ :: _, hl, _, _, _ => hl.elim
def FEnv (k sz : Nat) (es : List (List Tr)) (s : AS) (st' : Sto) : List (Nat × PV) → Prop
  | [] => True
  | (i, q) :: l => (∃ p, s.lk i = some p ∧ FLe k sz es p q ∧ PV.okIn st' q = true) ∧ FEnv k sz es s st' l
theorem FEnv.get {k sz : Nat} {es : List (List Tr)} {s : AS} {st' : Sto} : ∀ {l : List (Nat × PV)} {i : Nat} {q : PV}, FEnv k sz es s st' l → l.lookup i = some q → ∃ p, s.lk i = some p ∧ FLe k sz es p q ∧ PV.okIn st' q = true
  | [], _, _, _, h => by simp at h
  | (j, p) :: l, i, q, hl, h => by
    rw [List.lookup_cons] at h
    by_cases hik : i = j
    · subst hik
      simp at h
      subst h
      exact hl.1
    · rw [show (i == j) = false by simp [hik]] at h
      exact FEnv.get hl.2 h
mutual
theorem FLe.rv {k sz : Nat} {es : List (List Tr)} {ok ok' : Nat → Nat → Prop} {st st' : Sto} {m : Lay} {w : World} (hle : ∀ p v, PV.okIn st' p = true → RV ok st m w p v → RV ok' st' m w p v) (hb : ∀ v c, es.length ≤ c → c ≤ maxLen → v = .slice (some ⟨m.ρ k, 0, none⟩) es.length c → RepM ok' w (.row sz es) v) (hm : es.length ≤ maxLen) :
    ∀ {p q : PV} {v : Value}, FLe k sz es p q → PV.okIn st' q = true → RV ok st m w p v → RV ok' st' m w q v
  | _, _, _, .le h, hk, hr => hle _ _ hk (h.rv hr)
  | _, _, _, .bsl h, _, hr => hb _ _ (Nat.le_refl _) hm (h ▸ hr.2)
  | _, _, _, .bslL h, _, hr => ⟨hb _ _ (Nat.le_refl _) hm (h ▸ hr.2), _, h ▸ hr.2⟩
  | _, _, _, .gsl h, _, hr => by
    obtain ⟨-, c, hc, hcm, hv⟩ := hr
    subst h
    exact hb _ c hc hcm hv
  | _, _, _, .agg h, hk, hr => by
    obtain ⟨vs, hv, h1⟩ := hr
    exact ⟨vs, hv, FLeL.rv hle hb hm h hk h1⟩
theorem FLeL.rv {k sz : Nat} {es : List (List Tr)} {ok ok' : Nat → Nat → Prop} {st st' : Sto} {m : Lay} {w : World} (hle : ∀ p v, PV.okIn st' p = true → RV ok st m w p v → RV ok' st' m w p v) (hb : ∀ v c, es.length ≤ c → c ≤ maxLen → v = .slice (some ⟨m.ρ k, 0, none⟩) es.length c → RepM ok' w (.row sz es) v) (hm : es.length ≤ maxLen) :
    ∀ {ps qs : List PV} {vs : List Value}, FLeL k sz es ps qs → okInL st' qs = true → RVL ok st m w ps vs → RVL ok' st' m w qs vs
  | _, _, [], .nil, _, h => trivial
  | _, _, _ :: _, .nil, _, h => h.elim
  | _, _, [], .cons _ _, _, h => h.elim
  | _, _, _ :: _, .cons k1 k2, hk, h => by
    simp only [okInL, Bool.and_eq_true] at hk
    exact ⟨FLe.rv hle hb hm k1 hk.1 h.1, FLeL.rv hle hb hm k2 hk.2 h.2⟩
end
end
end Go.Proofs.YtmpepccpnnldoaaDoor

namespace Go.Proofs.YtmpepccpnnldoaaDoor
set_option linter.unusedSimpArgs false
set_option linter.unusedVariables false
open Go.RowKit Go.WalkArith Go.IntWalk Go.WideShapes

/-! ### Values -/
abbrev pI (x : Int) : PV := .t (.leaf (.int .i64 x))
abbrev pS (x : ByteArray) : PV := .t (.leaf (.string x))
abbrev pB (x : Bool) : PV := .t (.leaf (.bool x))
/-- Elements of lists, told as data. -/
class TC (α : Type) [Inhabited α] where
  cs : α → List Tr
  trs : List α → List (List Tr)
  sz : Nat
  at_ : ∀ {l : List α} {k : Nat}, k < l.length → (trs l)[k]? = some (cs (atD l k))
  len : ∀ l : List α, (trs l).length = l.length
  map : ∀ l : List α, trs l = l.map cs
  csz : ∀ a, (cs a).length = sz
instance : TC ByteArray := ⟨fun x => [.leaf (.string x)], strTrs, 1, strTrs_at, strTrs_len, fun _ => rfl, fun _ => rfl⟩
instance : TC Int := ⟨fun x => [.leaf (.int .i64 x)], intTrs, 1, intTrs_at, intTrs_len, fun _ => rfl, fun _ => rfl⟩
instance : TC UInt8 := ⟨fun x => [.leaf (.int .u8 (x.toNat : Int))], byteTrs, 1, byteTrs_at, byteTrs_len, fun _ => rfl, fun _ => rfl⟩
section
variable {α : Type} [Inhabited α] [TC α]
theorem TC.all (l : List α) : ∀ e ∈ TC.trs l, e.length = TC.sz α := fun e he => by
  rw [TC.map] at he
  obtain ⟨x, _, rfl⟩ := List.mem_map.1 he
  exact TC.csz x
end

/-! ### Models taken apart -/
def Hd {β : Type} (m : Option β) (K : β → Prop) : Prop := ∃ v, m = some v ∧ K v
section
variable {α β σ : Type} {K : β → Prop} {r : β}
theorem hd0 {m : Option β} (h : m = some r) : Hd m (fun v => v = r) := ⟨r, h, rfl⟩
theorem gdI {p : Prop} {x : Option β} (h : Hd (gd p x) K) : p ∧ Hd x K := by
  obtain ⟨v, h1, h2⟩ := h
  by_cases hp : p
  · rw [gdT hp rfl] at h1; exact ⟨hp, v, h1, h2⟩
  · rw [gdF hp] at h1; cases h1
theorem gdE {G p : Prop} {x : Option β} (h : Hd (gd p x) K) (k : p → Hd x K → G) : G := k (gdI h).1 (gdI h).2
theorem swI1 {b : Bool} {x y : Option β} (h : Hd (sw b x y) K) (e : b = true) : Hd x K := by subst e; exact h
theorem swI0 {b : Bool} {x y : Option β} (h : Hd (sw b x y) K) (e : b = false) : Hd y K := by subst e; exact h
theorem smI {v : β} (h : Hd (some v) K) : K v := by
  obtain ⟨u, h1, h2⟩ := h
  cases h1
  exact h2
def SK (f : σ → Option β) (K : β → Prop) : β ⊕ σ → Prop
  | .inl x => K x
  | .inr s => Hd (f s) K
theorem soI {m : Option (β ⊕ σ)} {f : σ → Option β} (h : Hd (so m f) K) : Hd m (SK f K) := by
  obtain ⟨v, h1, h2⟩ := h
  cases m with
  | none => cases h1
  | some a =>
    refine ⟨a, rfl, ?_⟩
    cases a with
    | inl x => cases h1; exact h2
    | inr s => exact ⟨v, h1, h2⟩
def LW (f : σ → Option (LR σ β)) (k : Nat) (K : β ⊕ σ → Prop) : LR σ β → Prop
  | .next s => Hd (loopW f k s) K
  | .brk s => K (.inr s)
  | .ret x => K (.inl x)
theorem lwT {f : σ → Option (LR σ β)} {k : Nat} {s : σ} {K : β ⊕ σ → Prop} (h : Hd (loopW f k s) K) : ∃ k', k = k' + 1 ∧ Hd (f s) (LW f k' K) := by
  obtain ⟨v, h1, h2⟩ := h
  cases k with
  | zero => cases h1
  | succ k =>
    rw [loopW] at h1
    refine ⟨k, rfl, ?_⟩
    cases hf : f s with
    | none => rw [hf] at h1; cases h1
    | some x =>
      rw [hf] at h1
      refine ⟨x, rfl, ?_⟩
      cases x with
      | next s' => exact ⟨v, h1, h2⟩
      | brk s' => cases h1; exact h2
      | ret x => cases h1; exact h2
end

/-! ### States that say less, found by themselves -/
section
variable {P : Program} {C : Ctx} {n : Nat} {s s' : AS}
theorem keepA {st' : Sto} (h : Keeps0 C.st st' := by first | exact keeps_nil (by assumption) | (refine keeps_all (by assumption) ?_ ?_; (first | exact boxes0 | exact boxes1 rfl | exact boxes2 rfl | exact boxes3 rfl); exact Nat.le_of_ble_eq_true rfl)) : Keeps0 C.st st' := h
theorem stleA {st st' : Sto} (hb : BoxLe st' st.boxes st'.boxes := by repeat' (first | exact trivial | refine ⟨⟨rfl, leA, rfl⟩, ?_⟩)) (hr : st.rows.take st'.rows.length = st'.rows := by first | rfl | simp) : StLe st st' := StLe.mk' hb hr
theorem wkA (hst : StLe s.st s'.st := by exact stleA) (hp : Keeps0 C.st s'.st := by exact keepA) (he : EnvLe s s'.st s'.env := by repeat' (first | exact trivial | refine ⟨⟨_, rfl, leA, rfl⟩, ?_⟩)) : Wk C n s s' := Wk.mk hst hp he
end

/-! ### Ways that meet, loops, ends -/
def cutQ {β σ : Type} (C : Ctx) (n : Nat) (I : σ → AS) (K : β ⊕ σ → Prop) (Q : Exit → AS → Prop) : Exit → AS → Prop
  | .normal, s => ∃ v, K (.inr v) ∧ Wk C n s (I v)
  | e, s => Q e s
def lpQ {β σ : Type} (C : Ctx) (n : Nat) (id : Nat) (I : Nat → σ → AS) (O : σ → AS) (f : Nat → σ → Option (LR σ β)) (m i : Nat) (K : β ⊕ σ → Prop) (Q : Exit → AS → Prop) : Exit → AS → Prop
  | .normal, s => i < m ∧ ∃ v, Hd (loopN f (m - (i + 1)) (i + 1) v) K ∧ Wk C n s (I (i + 1) v)
  | .exit j, s => if j = id then ∃ v, K (.inr v) ∧ Wk C n s (O v) else Q (.exit j) s
  | e, s => Q e s
def lwQ {β σ : Type} (C : Ctx) (n : Nat) (id : Nat) (I : σ → AS) (O : σ → AS) (f : σ → Option (LR σ β)) (k : Nat) (K : β ⊕ σ → Prop) (Q : Exit → AS → Prop) : Exit → AS → Prop
  | .normal, s => ∃ v, Hd (loopW f k v) K ∧ Wk C n s (I v)
  | .exit j, s => if j = id then ∃ v, K (.inr v) ∧ Wk C n s (O v) else Q (.exit j) s
  | e, s => Q e s
section
variable {P : Program} {C : Ctx} {n : Nat} {s : AS} {Q : Exit → AS → Prop} {β σ : Type}
theorem qcCutQ {I : σ → AS} {K : β ⊕ σ → Prop} (hq : QC C n Q) : QC C n (cutQ C n I K Q) := fun e s s' h k => by
  cases e with
  | normal => obtain ⟨v, h1, h2⟩ := k; exact ⟨v, h1, h.trans h2⟩
  | _ => exact hq _ s s' h k
theorem qcLpQ {id : Nat} {I : Nat → σ → AS} {O : σ → AS} {f : Nat → σ → Option (LR σ β)} {m i : Nat} {K : β ⊕ σ → Prop} (hq : QC C n Q) : QC C n (lpQ C n id I O f m i K Q) := fun e s s' h k => by
  cases e with
  | normal => obtain ⟨h0, v, h1, h2⟩ := k; exact ⟨h0, v, h1, h.trans h2⟩
  | exit j =>
    simp only [lpQ] at k ⊢
    split
    · rename_i hj; rw [if_pos hj] at k; obtain ⟨v, h1, h2⟩ := k; exact ⟨v, h1, h.trans h2⟩
    · rename_i hj; rw [if_neg hj] at k; exact hq _ s s' h k
  | _ => exact hq _ s s' h k
theorem qcLwQ {id : Nat} {I : σ → AS} {O : σ → AS} {f : σ → Option (LR σ β)} {m : Nat} {K : β ⊕ σ → Prop} (hq : QC C n Q) : QC C n (lwQ C n id I O f m K Q) := fun e s s' h k => by
  cases e with
  | normal => obtain ⟨v, h1, h2⟩ := k; exact ⟨v, h1, h.trans h2⟩
  | exit j =>
    simp only [lwQ] at k ⊢
    split
    · rename_i hj; rw [if_pos hj] at k; obtain ⟨v, h1, h2⟩ := k; exact ⟨v, h1, h.trans h2⟩
    · rename_i hj; rw [if_neg hj] at k; exact hq _ s s' h k
  | _ => exact hq _ s s' h k
theorem qcA (h : QC C n Q := by repeat' (first | exact qcEnds | exact ncAWP | apply qcCutQ | apply qcLpQ | apply qcLwQ | apply qcThen | apply qcBlock)) : QC C n Q := h
theorem loopV {c : Code} {id : Nat} {f : σ → Option (LR σ β)} {k0 : Nat} {v0 : σ} {K : β ⊕ σ → Prop} (I : σ → AS) (O : σ → AS) (H : Hd (loopW f k0 v0) K)
    (round : ∀ k v, Hd (f v) (LW f k K) → AWP P C n c (lwQ C n id I O f k K Q) (I v)) (k : ∀ v, K (.inr v) → Q .normal (O v)) (h0 : Wk C n s (I v0) := by exact wkA) (hq : QC C n Q := by exact qcA) : AWP P C n (.block id (.loop c)) Q s := by
  refine AWP.block ?_; refine AWP.loopJ (ι := Nat × σ) (fun x => Hd (loopW f x.1 x.2) K) (fun x => I x.2) (fun x => x.1) (k0, v0) H h0 ?_; rintro ⟨i, v⟩ hj
  obtain ⟨i', rfl, hj'⟩ := lwT (f := f) (k := i) (s := v) hj
  refine AWP.mono (round i' v hj') fun e s' h => ?_
  cases e with
  | normal =>
    obtain ⟨v', h2, h3⟩ := h
    exact ⟨(i', v'), h2, h3, by show i' < i' + 1; omega⟩
  | exit j =>
    simp only [lwQ] at h
    show inBlockA id Q (.exit j) s'
    simp only [inBlockA]
    split
    · rename_i hj; rw [if_pos hj] at h; obtain ⟨v', h1, h2⟩ := h; exact hq _ _ _ h2 (k v' h1)
    · rename_i hj; rw [if_neg hj] at h; exact h
  | _ => exact h
theorem lwN {id : Nat} {I : σ → AS} {O : σ → AS} {f : σ → Option (LR σ β)} {k : Nat} {K : β ⊕ σ → Prop} {e : Exit} (h : ∃ v, LW f k K (.next v) ∧ Wk C n s (I v)) (he : e = .normal := by exact rfl) : lwQ C n id I O f k K Q e s := by subst he; exact h
theorem lwB {id : Nat} {I : σ → AS} {O : σ → AS} {f : σ → Option (LR σ β)} {k : Nat} {K : β ⊕ σ → Prop} {e : Exit} (h : ∃ v, LW f k K (.brk v) ∧ Wk C n s (O v)) (he : e = .exit id := by exact rfl) : lwQ C n id I O f k K Q e s := by
  subst he
  simp only [lwQ, if_pos]
  exact h
theorem cndB {K : β → Prop} {c : Operand} {b : Bool} {x y : Option β} {cx cy : Code} (H : Hd (sw b x y) K) (ht : b = true → Hd x K → AWP P C n cx Q s) (hf : b = false → Hd y K → AWP P C n cy Q s) (hc : s.ev c = some (.t (.leaf (.bool b))) := by exact rfl) : AWP P C n (.cond c cx cy) Q s :=
  AWP.cond hc (fun h => ht h (swI1 H h)) fun h => hf h (swI0 H h)
theorem qI {f : FuncId} {fn : Func} {c : Code} {args : List PV} {pre : Sto} {R : PV → Sto → Prop} (hf : P.funcs[f]? = some fn) (h : ∀ C : Ctx, C.st = pre → AWP P C fn.ntmps c (Ends P C fn.ntmps fn R) ⟨argEnv 0 args, pre⟩) (hb : fn.body = some c := by exact rfl) (hn : args.length ≤ fn.ntmps := by first | decide | (simp; done) | (simp; decide)) : ACalls P f args pre R := ACalls.intro hf hb hn h
theorem qS {x y : Code} (h : AWP P C n x (thenA (AWP P C n y Q) Q) s) : AWP P C n (.seq x y) Q s := AWP.seq h
theorem qR {id : Nat} {l : List Oper} (h : AL P C n l.toArray l Q s) : AWP P C n (.region id l.toArray false) Q s := AWP.region_lit h
theorem qN {ops : Array Oper} (h : Q .normal s) : AL P C n ops [] Q s := AL.nil h
theorem q1 {ops : Array Oper} {o : Oper} {rest : List Oper} {s1 : AS} (ho : AOp P C n o s s1) (h : AL P C n ops rest Q s1) (hg : o.guard = none := by exact rfl) : AL P C n ops (o :: rest) Q s := AL.cons hg ho h
theorem qe1 {fn : Func} {R : PV → Sto → Prop} {e : Exit} {p q : PV} {st' : Sto} (hR : R q st' := by exact ⟨rfl, rfl⟩) (hr : ResL P s fn.results.toList [p] := by exact ⟨rfl, trivial⟩) (he : e = .normal ∨ e = .ret := by first | exact .inr rfl | exact .inl rfl)
    (hst : StLe s.st st' := by exact stleA) (hp : Keeps0 C.st st' := by exact keepA) (hle : PV.Le p q := by exact leA) (hk : PV.okIn st' q = true := by exact rfl) : Ends P C n fn R e s := Ends.mk he hr rfl hst hp hle hk hR
end

section
variable {P : Program} {C : Ctx} {n : Nat}
end
/-! ### Operations -/
instance : Inhabited DS := ⟨⟨[], 0, 0⟩⟩
instance : Inhabited PV := ⟨.nil⟩
instance : Inhabited Sto := ⟨⟨[], []⟩⟩
instance : Inhabited PRow := ⟨⟨0, 0, [], false⟩⟩
section
variable {P : Program} {C : Ctx} {n : Nat} {s : AS} {o : Oper}
theorem rMv {x : Operand} {p : PV} (ho : o.op = .move x ∨ o.op = .assign x := by first | exact .inl rfl | exact .inr rfl) (hd : dstOk o.dst n = true := by exact rfl) (hx : s.ev x = some p := by exact rfl) : AOp P C n o s (s.putO o.dst p) := AOp.move ho hd hx
theorem rEq {T yT : TypeId} {x y : Operand} {k : IntKind} {a b : Int} (ho : o.op = .binOp .eql T x y yT := by exact rfl) (hd : dstOk o.dst n = true := by exact rfl) (hx : s.ev x = some (.t (.leaf (.int k a))) := by exact rfl) (hy : s.ev y = some (.t (.leaf (.int k b))) := by exact rfl) : AOp P C n o s (s.putO o.dst (.t (.leaf (.bool (decide (a = b)))))) := AOp.eqlI ho hd hx hy
theorem rNe {T yT : TypeId} {x y : Operand} {k : IntKind} {a b : Int} (ho : o.op = .binOp .neq T x y yT := by exact rfl) (hd : dstOk o.dst n = true := by exact rfl) (hx : s.ev x = some (.t (.leaf (.int k a))) := by exact rfl) (hy : s.ev y = some (.t (.leaf (.int k b))) := by exact rfl) : AOp P C n o s (s.putO o.dst (.t (.leaf (.bool (!decide (a = b)))))) := AOp.neqI ho hd hx hy
theorem rLt {T yT : TypeId} {x y : Operand} {k : IntKind} {a b : Int} (ho : o.op = .binOp .lss T x y yT := by exact rfl) (hd : dstOk o.dst n = true := by exact rfl) (hx : s.ev x = some (.t (.leaf (.int k a))) := by exact rfl) (hy : s.ev y = some (.t (.leaf (.int k b))) := by exact rfl) : AOp P C n o s (s.putO o.dst (.t (.leaf (.bool (decide (a < b)))))) := AOp.lss ho hd hx hy
theorem rAw {T yT : TypeId} {x y : Operand} {k : IntKind} {a b : Int} (ho : o.op = .binOp .add T x y yT := by exact rfl) (hd : dstOk o.dst n = true := by exact rfl) (hx : s.ev x = some (.t (.leaf (.int k a))) := by exact rfl) (hy : s.ev y = some (.t (.leaf (.int k b))) := by exact rfl) : AOp P C n o s (s.putO o.dst (.t (.leaf (.int k (k.wrap (a + b)))))) := AOp.addW ho hd hx hy
theorem rSw {T yT : TypeId} {x y : Operand} {k : IntKind} {a b : Int} (ho : o.op = .binOp .sub T x y yT := by exact rfl) (hd : dstOk o.dst n = true := by exact rfl) (hx : s.ev x = some (.t (.leaf (.int k a))) := by exact rfl) (hy : s.ev y = some (.t (.leaf (.int k b))) := by exact rfl) : AOp P C n o s (s.putO o.dst (.t (.leaf (.int k (k.wrap (a - b)))))) := AOp.subW ho hd hx hy
theorem rBs {α : Type} [Inhabited α] [TC α] {T E by_ len : Nat} {parts : Array (Nat × Operand)} {ps : List (Nat × List PV)} {zs cs : List PV} (l : List α) (hT : elemOf? P T = some (E, TC.sz α, by_)) (hz : zerosOf P E = some zs) (ho : o.op = .buildSlice T len parts := by exact rfl) (hd : dstOk o.dst n = true := by exact rfl) (hp : partsP s parts.toList = some ps := by exact rfl)
    (hc : fillP (fun i => some (i * TC.sz α, TC.sz α)) (List.replicate len zs).flatten ps = some cs := by exact rfl) (hle : LeL cs ((l.map TC.cs).flatten.map PV.t) := by exact leA) (hel : l.length = len := by exact rfl) (hsz : 0 < TC.sz α := by decide) (hzl : zs.length = TC.sz α := by exact rfl) (hsm : len * TC.sz α ≤ 16777216 := by decide) : AOp P C n o s (s.putO o.dst (.t (.row (TC.sz α) (TC.trs l)))) :=
  AOp.buildSliceE (es := l.map TC.cs) ho hd hT hz hp hc hle (by rw [List.length_map]; exact hel) (fun e he => TC.all l e (by rw [TC.map]; exact he)) hsz hzl hsm (TC.map l).symm
end
end Go.Proofs.YtmpepccpnnldoaaDoor

namespace Go.Proofs.YtmpepccpnnldoaaDoor
set_option linter.unusedSimpArgs false
set_option linter.unusedVariables false
open Go.RowKit Go.WalkArith Go.IntWalk Go.WideShapes

section
variable {P : Program} {C : Ctx} {n : Nat} {o : Oper}
theorem upon_mono {a : Act} {K1 K : Act → World → Prop} {Q : Exit → Act → World → Prop} (hv : ∀ v w', K1 (a.put o.dst v) w' → K (a.put o.dst v) w')
    (hd : ∀ d w', K1 (({ a with defers := d :: a.defers } : Act).put o.dst undef) w' → K (({ a with defers := d :: a.defers } : Act).put o.dst undef) w') : ∀ r, o.upon P a K1 Q r → o.upon P a K Q r := by
  intro r h
  cases r with
  | ok x w' =>
    cases x with
    | value v => exact hv v w' h
    | skip => exact hv undef w' h
    | defer d => exact hd d w' h
    | enter f args =>
      refine Calls.mono h fun e w'' he => ?_
      cases e with
      | returned v => exact hv v w'' he
      | panicked c => exact he
      | outgrown => exact he
    | row r args => exact Rows.mono h fun v w'' he => hv v w'' he
    | _ => exact h
  | halt x w' =>
    cases x with
    | panic v => exact h
    | _ => exact h
theorem lk_putO (s : AS) (d : Nat) (p : PV) (i : Nat) : (s.putO (some d) p).lk i = if i = d then some p else s.lk i := AS.lk_put s d i p
/-- What was shown of an operation on what it leans on holds in every state that has as much. -/
theorem AOp.frame {E : List (Nat × PV)} {st st1 : Sto} {p : PV} {s' : AS} (h : ∀ C', AOp P C' n o ⟨E, st⟩ ((⟨E, st1⟩ : AS).putO o.dst p)) (hst : s'.st = st) (hl : ∀ t q, E.lookup t = some q → s'.lk t = some q) :
    AOp P C n o s' ((⟨s'.env, st1⟩ : AS).putO o.dst p) := fun m a w hr K Q hK => by
  subst hst
  have hr' : RA ⟨C.av, s'.st, m, w⟩ n ⟨E, s'.st⟩ m a w := ⟨hr.dfr, hr.tsz, hr.sto, fun i q hq => hr.env i q (hl i q hq), Ev.refl _ _ _⟩
  have h1 := h ⟨C.av, s'.st, m, w⟩ m a w hr' (fun a' w' => ∃ m', RA ⟨C.av, s'.st, m, w⟩ n ((⟨E, st1⟩ : AS).putO o.dst p) m' a' w') Q (fun m' a' w' h => ⟨m', h⟩)
  unfold Oper.wp at h1 ⊢
  refine upon_mono (fun v w' => ?_) (fun d w' => ?_) _ h1
  · rintro ⟨m', h2⟩
    refine hK m' _ w' ?_
    have key : ∀ (dst : Option Nat), dst = o.dst → RA C n ((⟨s'.env, st1⟩ : AS).putO dst p) m' (a.put dst v) w' := fun dst hdst => by
      rw [← hdst] at h2
      cases dst with
      | none =>
        have hE : Ev s'.st m w st1 m' w' := h2.ev
        exact ⟨h2.dfr, h2.tsz, h2.sto, fun i q hq => by
          obtain ⟨v', hv', hrv⟩ := hr.env i q hq
          exact ⟨v', hv', RV.mono hE q v' hrv⟩, hr.ev.trans hE⟩
      | some d =>
        have hE : Ev s'.st m w st1 m' w' := h2.ev
        refine ⟨h2.dfr, h2.tsz, h2.sto, fun i q hq => ?_, hr.ev.trans hE⟩
        rw [lk_putO] at hq
        by_cases hi : i = d
        · rw [if_pos hi] at hq
          cases hq
          exact h2.env i _ (by rw [lk_putO, if_pos hi])
        · rw [if_neg hi] at hq
          obtain ⟨v', hv', hrv⟩ := hr.env i q hq
          exact ⟨v', by simp only [Act.put]; rw [Array.getElem?_setIfInBounds_ne (fun e => hi e.symm)]; exact hv', RV.mono hE q v' hrv⟩
    exact key o.dst rfl
  · rintro ⟨m', h2⟩
    have h3 := h2.dfr
    have h4 : (({ a with defers := d :: a.defers } : Act).put o.dst undef).defers = d :: a.defers := by
      cases o.dst <;> rfl
    rw [h4] at h3
    cases h3
/-- What is gathered on the way. A kind '.al' stands for an operation that does not look at the store. -/
structure DD where
  outs : List (Option PV)
  ks : List (Option DK)
  ins : List (List Nat)
  effs : List Nat
  fs : List (Option PBox → Sto)
  rds : List ((Nat × Nat) × Nat × Option (Option PBox))
  az : Option (Nat × PBox)
def DD.cz (g : DD) : Option PBox := g.az.map (·.2)
/-- A store with the region's own box, or without it. -/
def ab : Option PBox → Sto → Sto
  | none, st => st
  | some z, st => st.addBox z
/-- No store at all. -/
def badSto : Sto := ⟨[], [⟨0, 0, [], false⟩]⟩
def rs (s : AS) : List Nat → List (Nat × PV)
  | [] => []
  | t :: ts => match s.lk t with
    | some p => (t, p) :: rs s ts
    | none => rs s ts
def DSrc (l : List Oper) (e0 : List (Nat × PV)) (outs : List (Option PV)) (i t : Nat) (p : PV) : Prop :=
  (∃ (j : Nat) (o : Oper), j < i ∧ l[j]? = some o ∧ o.dst = some t ∧ outs[j]? = some (some p)) ∨ (e0.lookup t = some p ∧ ∀ (j : Nat) (o : Oper), j < i → l[j]? = some o → o.dst ≠ some t)
/-- Is it carried out? -/
inductive WD (l : List Oper) (e0 : List (Nat × PV)) (outs : List (Option PV)) (i : Nat) (o : Oper) : Bool → Prop
  | n : o.guard = none → WD l e0 outs i o true
  | y {j d : Nat} {b c : Bool} : o.guard = some (j, c) → (l[j]?).bind (·.dst) = some d → DSrc l e0 outs i d (.t (.leaf (.bool b))) → WD l e0 outs i o (b == c)
  | u {j d : Nat} {c : Bool} : o.guard = some (j, c) → (l[j]?).bind (·.dst) = some d → DSrc l e0 outs i d (.tup []) → WD l e0 outs i o false
inductive WS (l : List Oper) (s : AS) (o : Oper) : Bool → Prop
  | n : o.guard = none → WS l s o true
  | y {j d : Nat} {b c : Bool} : o.guard = some (j, c) → (l[j]?).bind (·.dst) = some d → s.lk d = some (.t (.leaf (.bool b))) → WS l s o (b == c)
  | u {j d : Nat} {c : Bool} : o.guard = some (j, c) → (l[j]?).bind (·.dst) = some d → s.lk d = some (.tup []) → WS l s o false
/-- What an operation has been shown to do (N boxes stood before the region; md: it makes a box at a time of its own). -/
inductive DDoes (P : Program) (n N : Nat) (md : Bool) (g : DD) (i : Nat) (o : Oper) (E : List (Nat × PV)) : Prop
  | q {p : PV} : g.ks[i]? = some none → g.outs[i]? = some (some p) → (∀ C' st, AOp P C' n o ⟨E, st⟩ ((⟨E, st⟩ : AS).putO o.dst p)) → DDoes P n N md g i o E
  | r {lo hi k : Nat} {X : Option (Option PBox)} {p : PV} : g.ks[i]? = some (some (.q lo hi)) → g.outs[i]? = some (some p) → ((lo, hi), k, X) ∈ g.rds → (md = true → k < N) → (∀ C' (st : Sto), st.boxes[k]? = X → AOp P C' n o ⟨E, st⟩ ((⟨E, st⟩ : AS).putO o.dst p)) → DDoes P n N md g i o E
  | c {j : Nat} {f : Option PBox → Sto} {p : PV} : g.ks[i]? = some (some (.q j j)) → g.outs[i]? = some (some p) → g.fs[j]? = some f → (∀ C' z, AOp P C' n o ⟨E, f z⟩ ((⟨E, f z⟩ : AS).putO o.dst p)) → DDoes P n N md g i o E
  | e {j : Nat} {f f1 : Option PBox → Sto} {p : PV} : g.ks[i]? = some (some (.ef j)) → g.outs[i]? = some (some p) → g.fs[j]? = some f → g.fs[j + 1]? = some f1 → (∀ C' z, AOp P C' n o ⟨E, f z⟩ ((⟨E, f1 z⟩ : AS).putO o.dst p)) → DDoes P n N md g i o E
  | e0 {j : Nat} {f f1 : Option PBox → Sto} : g.ks[i]? = some (some (.ef j)) → o.dst = none → g.fs[j]? = some f → g.fs[j + 1]? = some f1 → (∀ C' z, AOp P C' n o ⟨E, f z⟩ ⟨E, f1 z⟩) → DDoes P n N md g i o E
  | ea {j a t off : Nat} {zb : PBox} {f f1 : Option PBox → Sto} : g.az = some (a, zb) → g.ks[i]? = some (some (.ef j)) → o.dst = none → g.fs[j]? = some f → g.fs[j + 1]? = some f1 → E.lookup t = some (.ptr N off) → (f none = badSto ∨ (f none).boxes.length = N) → (∀ C', AOp P C' n o ⟨E, f (some zb)⟩ ⟨E, f1 (some zb)⟩) → DDoes P n N md g i o E
  | al {zb : PBox} : md = true → g.az = some (i, zb) → g.ks[i]? = some (some .al) → g.outs[i]? = some (some (.ptr N 0)) → (∀ C' st, st.boxes.length = N → AOp P C' n o ⟨[], st⟩ ((⟨[], st.addBox zb⟩ : AS).putO o.dst (.ptr N 0))) → DDoes P n N md g i o E
inductive DFact (P : Program) (n N : Nat) (md : Bool) (l : List Oper) (e0 : List (Nat × PV)) (g : DD) (i : Nat) (o : Oper) : Prop
  | does {E : List (Nat × PV)} {I : List Nat} : WD l e0 g.outs i o true → g.ins[i]? = some I → (∀ t q, E.lookup t = some q → t ∈ I ∧ DSrc l e0 g.outs i t q) → DDoes P n N md g i o E → DFact P n N md l e0 g i o
  | skip : WD l e0 g.outs i o false → g.ks[i]? = some none → g.outs[i]? = some (some (.tup [])) → dstOk o.dst n = true → DFact P n N md l e0 g i o
structure DD.le (g g' : DD) : Prop where
  outs : ∀ (i : Nat) (x : Option PV), g.outs[i]? = some x → g'.outs[i]? = some x
  ks : ∀ (i : Nat) (x : Option DK), g.ks[i]? = some x → g'.ks[i]? = some x
  ins : ∀ (i : Nat) (x : List Nat), g.ins[i]? = some x → g'.ins[i]? = some x
  fs : ∀ (i : Nat) (x : Option PBox → Sto), g.fs[i]? = some x → g'.fs[i]? = some x
  rds : ∀ x ∈ g.rds, x ∈ g'.rds
  az : ∀ x, g.az = some x → g'.az = some x
theorem src_le {g g' : DD} (h : g.le g') {l : List Oper} {e0 : List (Nat × PV)} {i t : Nat} {p : PV} (k : DSrc l e0 g.outs i t p) : DSrc l e0 g'.outs i t p := by
  rcases k with ⟨j, o, h1, h2, h3, h4⟩ | k
  · exact .inl ⟨j, o, h1, h2, h3, h.outs _ _ h4⟩
  · exact .inr k
theorem want_le {g g' : DD} (h : g.le g') {l : List Oper} {e0 : List (Nat × PV)} {i : Nat} {o : Oper} {b : Bool} (k : WD l e0 g.outs i o b) : WD l e0 g'.outs i o b := by
  cases k with
  | n a => exact .n a
  | y a b c => exact .y a b (src_le h c)
  | u a b c => exact .u a b (src_le h c)
theorem DFact.mono {N : Nat} {md : Bool} {l : List Oper} {e0 : List (Nat × PV)} {g g' : DD} {i : Nat} {o : Oper} (h : g.le g') (k : DFact P n N md l e0 g i o) : DFact P n N md l e0 g' i o := by
  cases k with
  | does h1 h2 h3 h4 =>
    refine .does (want_le h h1) (h.ins _ _ h2) (fun t q ht => ⟨(h3 t q ht).1, src_le h (h3 t q ht).2⟩) ?_
    cases h4 with
    | q a b c => exact .q (h.ks _ _ a) (h.outs _ _ b) c
    | r a b c d e => exact .r (h.ks _ _ a) (h.outs _ _ b) (h.rds _ c) d e
    | c a b c d => exact .c (h.ks _ _ a) (h.outs _ _ b) (h.fs _ _ c) d
    | e a b c d e => exact .e (h.ks _ _ a) (h.outs _ _ b) (h.fs _ _ c) (h.fs _ _ d) e
    | e0 a b c d e => exact .e0 (h.ks _ _ a) b (h.fs _ _ c) (h.fs _ _ d) e
    | ea z a b c d e f q => exact .ea (h.az _ z) (h.ks _ _ a) b (h.fs _ _ c) (h.fs _ _ d) e f q
    | al md z a b c => exact .al md (h.az _ z) (h.ks _ _ a) (h.outs _ _ b) c
  | skip h1 h2 h3 h4 => exact .skip (want_le h h1) (h.ks _ _ h2) (h.outs _ _ h3) h4
structure DInv (P : Program) (n : Nat) (md : Bool) (l : List Oper) (s0 : AS) (g : DD) (s : AS) : Prop where
  hs0 : ∃ f, g.fs[0]? = some f ∧ f none = s0.st
  hfl : g.fs.length = g.effs.length + 1
  hlast : ∃ f, g.fs[g.effs.length]? = some f ∧ f g.cz = s.st ∧ (md = false → f = fun _ => s.st) ∧ (md = true → g.az = none → f = fun z => ab z s.st)
  hk : g.ks.length = g.outs.length
  hi : g.ins.length = g.outs.length
  hz : md = true → ∀ f ∈ g.fs, f none = badSto ∨ ((f none).boxes.length = s0.st.boxes.length ∧ ∀ z, f (some z) = (f none).addBox z)
  hm : md = false → g.az = none
  hlk : ∀ t p, s.lk t = some p → DSrc l s0.env g.outs g.outs.length t p
  hf : ∀ (i : Nat) (o : Oper), l[i]? = some o → i < g.outs.length → DFact P n s0.st.boxes.length md l s0.env g i o
variable {id : Nat} {l : List Oper} {Q : Exit → AS → Prop} {s0 s : AS} {g : DD} {rest : List Oper} {md : Bool}
/-- One operation more. -/
theorem DInv.next {g' : DD} {s' : AS} (hv : DInv P n md l s0 g s) (ho : l[g.outs.length]? = some o) (hle : g.le g') (h0 : g'.outs.length = g.outs.length + 1) (hk : g'.ks.length = g.ks.length + 1) (hi : g'.ins.length = g.ins.length + 1) (hfl : g'.fs.length = g'.effs.length + 1)
    (hlast : ∃ f, g'.fs[g'.effs.length]? = some f ∧ f g'.cz = s'.st ∧ (md = false → f = fun _ => s'.st) ∧ (md = true → g'.az = none → f = fun z => ab z s'.st)) (hz : md = true → ∀ f ∈ g'.fs, f none = badSto ∨ ((f none).boxes.length = s0.st.boxes.length ∧ ∀ z, f (some z) = (f none).addBox z)) (hm : md = false → g'.az = none)
    (hlk : ∀ t p, s'.lk t = some p → (o.dst = some t ∧ g'.outs[g.outs.length]? = some (some p)) ∨ (o.dst ≠ some t ∧ s.lk t = some p)) (hf : DFact P n s0.st.boxes.length md l s0.env g' g.outs.length o) : DInv P n md l s0 g' s' where
  hs0 := by obtain ⟨f, h1, h2⟩ := hv.hs0; exact ⟨f, hle.fs _ _ h1, h2⟩
  hfl := hfl
  hlast := hlast
  hk := by rw [hk, h0, hv.hk]
  hi := by rw [hi, h0, hv.hi]
  hz := hz
  hm := hm
  hlk := fun t p ht => by
    rcases hlk t p ht with ⟨h1, h2⟩ | ⟨h1, h2⟩
    · exact .inl ⟨_, o, by omega, ho, h1, h2⟩
    · rcases hv.hlk t p h2 with ⟨j, oj, a, b, c, d⟩ | ⟨a, b⟩
      · exact .inl ⟨j, oj, by omega, b, c, hle.outs _ _ d⟩
      · refine .inr ⟨a, fun j oj hj hoj => ?_⟩
        rcases Nat.lt_or_ge j g.outs.length with hlt | hge
        · exact b j oj hlt hoj
        · obtain rfl : j = g.outs.length := by omega
          rw [ho] at hoj
          cases hoj
          exact h1
  hf := fun i oi hoi hi' => by
    rcases Nat.lt_or_ge i g.outs.length with hlt | hge
    · exact (hv.hf i oi hoi hlt).mono hle
    · obtain rfl : i = g.outs.length := by omega
      rw [ho] at hoi
      cases hoi
      exact hf
end
end Go.Proofs.YtmpepccpnnldoaaDoor

namespace Go.Proofs.YtmpepccpnnldoaaDoor

instance : TC GInstanceRef := ⟨GInstanceRef.cs, GInstanceRef.trs, 2, GInstanceRef.trs_at, GInstanceRef.trs_len, fun l => by rw [GInstanceRef.trs_map]; exact List.map_congr_left fun x _ => GInstanceRef.tr_cs x, fun _ => rfl⟩
instance : TC GEvidence := ⟨GEvidence.cs, GEvidence.trs, 5, GEvidence.trs_at, GEvidence.trs_len, fun l => by rw [GEvidence.trs_map]; exact List.map_congr_left fun x _ => GEvidence.tr_cs x, fun _ => rfl⟩
end Go.Proofs.YtmpepccpnnldoaaDoor

namespace Go.Proofs.YtmpepccpnnldoaaDoor

abbrev s_ : ByteArray := ⟨#[]⟩
abbrev s_0 : ByteArray := ⟨#[48]⟩
abbrev x_2d : ByteArray := ⟨#[45]⟩
end Go.Proofs.YtmpepccpnnldoaaDoor

namespace Go.Proofs.YtmpepccpnnldoaaDoor
open Go.RowKit Go.Proofs
set_option linter.unusedSimpArgs false
set_option linter.unusedVariables false

end Go.Proofs.YtmpepccpnnldoaaDoor

namespace Go.Proofs.YtmpepccpnnldoaaDoor
set_option linter.unusedSimpArgs false
set_option linter.unusedVariables false
open Go.RowKit Go.WalkArith Go.IntWalk Go.WideShapes

def toU8 (a : Int) : UInt8 := UInt8.ofNat (a % 256).toNat
theorem wrap_u8 (a : Int) : IntKind.wrap .u8 a = ((toU8 a).toNat : Int) := by
  unfold toU8 IntKind.wrap
  simp [IntKind.bits, IntKind.signed]
  omega
def bytesStr (l : List UInt8) : ByteArray := ⟨l.toArray⟩
theorem bytesStr_size (l : List UInt8) : (bytesStr l).size = l.length := by simp [bytesStr, ByteArray.size]
theorem bytesStr_nums (l : List UInt8) : strOfNums (l.map fun b => (b.toNat : Int)) = bytesStr l := by
  unfold strOfNums bytesStr
  congr 2
  rw [List.map_map]
  conv => rhs; rw [← List.map_id l]
  apply List.map_congr_left
  intro b _
  simp
section
variable {P : Program} {C : Ctx} {n : Nat} {s : AS} {o : Oper}
theorem AOp.quoI {T yT : TypeId} {x y : Operand} {a b : Int} (ho : o.op = .binOp .quo T x y yT) (hd : dstOk o.dst n = true) (hx : s.ev x = some (.t (.leaf (.int .i64 a)))) (hy : s.ev y = some (.t (.leaf (.int .i64 b)))) (hb : b ≠ 0) :
    AOp P C n o s (s.putO o.dst (.t (.leaf (.int .i64 (wrap64 (a.tdiv b)))))) := AOp.bin ho hd hx hy (fun w => by simp [eqGuard, binOp, Op.intDiv, hb, wrap64]) (wf_wrap .i64 _)
theorem AOp.remI {T yT : TypeId} {x y : Operand} {a b : Int} (ho : o.op = .binOp .rem T x y yT) (hd : dstOk o.dst n = true) (hx : s.ev x = some (.t (.leaf (.int .i64 a)))) (hy : s.ev y = some (.t (.leaf (.int .i64 b)))) (hb : b ≠ 0) :
    AOp P C n o s (s.putO o.dst (.t (.leaf (.int .i64 (a.tmod b))))) :=
  AOp.quiet (dstOk_lt hd) fun m ac w h => by
    obtain ⟨h1, h3⟩ := RepM.leaf_eq (h.eval hx)
    have h2 := (RepM.leaf_eq (h.eval hy)).1
    have h4 : -9223372036854775808 ≤ a ∧ a ≤ 9223372036854775807 := by
      have h5 : (Lit.int .i64 a).wf = true := h3
      simpa [Lit.wf, IntKind.min, IntKind.max, IntKind.bits, IntKind.signed] using h5
    have h6 : (a.tmod b).natAbs ≤ a.natAbs := by rw [Int.natAbs_tmod]; exact Nat.mod_le _ _
    have h7 : 0 ≤ a → 0 ≤ a.tmod b := fun h => Int.tmod_nonneg b h
    have h8 : a ≤ 0 → a.tmod b ≤ 0 := fun h => by have := Int.tmod_nonneg b (show 0 ≤ -a by omega); rw [Int.neg_tmod] at this; omega
    refine ⟨.int .i64 (a.tmod b), ?_, RepM.leaf (wf_i64 (by omega))⟩
    unfold execOp
    simp [ho, h1, h2, eqGuard, binOp, Op.intDiv, hb]
theorem AOp.convU8 {S T : TypeId} {x : Operand} {k : IntKind} {a : Int} (ho : o.op = .convert S T x) (hd : dstOk o.dst n = true) (hx : s.ev x = some (.t (.leaf (.int k a)))) (hS : ∃ k', P.underlying S = some (.int k')) (hT : P.underlying T = some (.int .u8)) :
    AOp P C n o s (s.putO o.dst (.t (.leaf (.int .u8 ((toU8 a).toNat : Int))))) :=
  AOp.quiet (dstOk_lt hd) fun m ac w h => ⟨.int .u8 ((toU8 a).toNat : Int), by
    have h3 := (RepM.leaf_eq (h.eval hx)).1
    obtain ⟨k', hS⟩ := hS
    unfold execOp
    simp [ho, h3, convert, run_underlying hS, run_underlying hT, Conv.intToInt, wrap_u8], RepM.leaf (by rw [← wrap_u8]; exact wf_wrap .u8 a)⟩
theorem AOp.bytesStr {S T e : TypeId} {x : Operand} {p : PV} {l : List UInt8} (ho : o.op = .convert S T x) (hd : dstOk o.dst n = true) (hx : s.ev x = some p) (hp : rowOf p = some (1, byteTrs l)) (hS : P.underlying S = some (.slice e)) (he : P.underlying e = some (.int .u8)) (hT : P.underlying T = some .string) :
    AOp P C n o s (s.putO o.dst (.t (.leaf (.string (bytesStr l))))) :=
  AOp.quiet (dstOk_lt hd) fun m ac w h => by
    have h1 := rowOf_rv hp (h.eval hx)
    obtain ⟨a0, cap0, hv0, hl0, hm0⟩ := h1.shape
    rw [byteTrs_len] at hl0
    have hsz : LeafOk (.string (Go.Proofs.YtmpepccpnnldoaaDoor.bytesStr l)) := by show (Go.Proofs.YtmpepccpnnldoaaDoor.bytesStr l).size ≤ maxLen; rw [bytesStr_size]; omega
    refine ⟨.string (Go.Proofs.YtmpepccpnnldoaaDoor.bytesStr l), ?_, RepM.leaf hsz⟩
    generalize hv : ac.eval x = v at *
    cases h1 with
    | row c q1 q2 q3 q4 =>
      have keyAll : ∀ (a : Option Addr) (cap : Nat) (q3 : byteTrs l ≠ [] → ∃ b off, a = some ⟨b, off, none⟩ ∧ b < w.heap.size ∧ ∀ (i : Nat) (e : List Tr), (byteTrs l)[i]? = some e → ∀ (j : Nat) (d : Tr), e[j]? = some d → okA C.av s.st m b (off + i * 1 + j) ∧ w.cell? ⟨b, off + i * 1 + j, none⟩ = some (c i j)), (convert S T (.slice a (byteTrs l).length cap)).run P w = .ok (.string (Go.Proofs.YtmpepccpnnldoaaDoor.bytesStr l)) w := fun a cap q3 => by
        by_cases hne : l = []
        · subst hne
          have hlen : (byteTrs []).length = 0 := rfl
          rw [hlen]
          cases a with
          | none => exact run_convert_bytes_nil (P := P) w S e hS he 0 cap T hT
          | some a =>
            obtain ⟨b, off, sp⟩ := a
            have hld : (loadCells ⟨b, off, sp⟩ 0).run P w = .ok (([] : List Int).map (Value.int .u8)).toArray w := by simp [loadCells, loadCellsFrom]
            rw [run_convert_bytes_string w S T e _ 0 cap hS he hT, run_bytesToString w _ 0 cap [] hld]
            rfl
        · obtain ⟨b, off, ha, hb, hc⟩ := q3 (by intro h0; apply hne; have := congrArg List.length h0; rw [byteTrs_len] at this; exact List.eq_nil_of_length_eq_zero this)
          subst ha
          have := run_convert_bytes_arg (P := P) w S e hS he b off (byteTrs l).length cap (l.map fun b => (b.toNat : Int)) (by simp [byteTrs_len]) (fun i hi => by
            rw [byteTrs_len] at hi
            have h4 := (hc i _ (byteTrs_cs hi) 0 (.leaf (.int .u8 ((l[i]).toNat : Int))) rfl).2
            have h5 := (q4 i _ (byteTrs_cs hi) 0 (.leaf (.int .u8 ((l[i]).toNat : Int))) rfl).rep.leaf_eq.1
            rw [Nat.mul_one, Nat.add_zero] at h4
            rw [h4, h5]
            simp [hi]) T hT
          rw [bytesStr_nums] at this
          exact this
      unfold execOp
      simp only [ho, hv]
      rw [Sem.run_bind, keyAll _ _ q3]
      rfl
end
end Go.Proofs.YtmpepccpnnldoaaDoor

namespace Go.Proofs.YtmpepccpnnldoaaDoor
set_option maxRecDepth 100000
set_option maxHeartbeats 40000000
noncomputable section
open Go.RowKit Go.Proofs
set_option linter.unusedSimpArgs false
set_option linter.unusedVariables false

attribute [local irreducible] lt

def sFormatInt_T (m : Int → Option ByteArray) : Prop := ∀ (pn : Int) (r : ByteArray), m pn = some r → AFun Tryd.prog 36 [pI pn] (pS r : PV)
def sFormatInt_F1 (fu : Nat) (pn : Int) : (Int × ByteArray) → Option (LR (Int × ByteArray) ByteArray) :=
 fun (v2, v3) => sw (!decide ((v2 : Int) = 0))
 (sw (decide (((v2).tmod 10 : Int) < 0))
 (gd ((bytesStr ([(toU8 (wrap64 (48 + (wrap64 (0 - ((v2).tmod 10))))))] : List UInt8)).size + (v3).size ≤ 1099511627776)
 (some (.next ((wrap64 ((v2).tdiv 10)), ((bytesStr ([(toU8 (wrap64 (48 + (wrap64 (0 - ((v2).tmod 10))))))] : List UInt8)) ++ v3)))))
 (gd ((bytesStr ([(toU8 (wrap64 (48 + ((v2).tmod 10))))] : List UInt8)).size + (v3).size ≤ 1099511627776)
 (some (.next ((wrap64 ((v2).tdiv 10)), ((bytesStr ([(toU8 (wrap64 (48 + ((v2).tmod 10))))] : List UInt8)) ++ v3))))))
 (some (.brk (v2, v3)))
def sFormatInt_R1 (fu : Nat) (pn : Int) : Option (ByteArray ⊕ (Int × ByteArray)) :=
 loopW (sFormatInt_F1 fu pn) fu (pn, s_)
def sFormatInt_M (fu : Nat) (pn : Int) : Option ByteArray :=
 sw (decide ((pn : Int) = 0))
 (some s_0)
 (so (sFormatInt_R1 fu pn) (fun (v2, v3) =>
 sw (decide ((pn : Int) < 0))
 (gd ((x_2d).size + (v3).size ≤ 1099511627776)
 (some (x_2d ++ v3)))
 (some v3)))
theorem sFormatInt_ok (fu : Nat)   : sFormatInt_T (sFormatInt_M fu) := by
  intro pn r H
  have H := hd0 H
  refine qI Tryd.func36 (fun C hC => ?_)
  refine qS (qR (q1 rMv (qN ?_)))
  iterate 2 refine qS ?_
  refine qR (q1 rMv (q1 rEq (qN ?_)))
  refine cndB H (fun h1 H => ?_) (fun h1 H => ?_)
  · refine qS (qR (q1 rMv (qN (AWP.ret ?_))))
    obtain rfl : _ = r := (smI H :)
    exact qe1
  refine AWP.skip (qS (qR (q1 rMv (q1 rLt (q1 rMv (qN (qS (qR (q1 rMv (qN (qS ?_)))))))))))
  refine loopV (σ := Int × ByteArray) (fun (v2, v3) => ⟨[(0, pI v2), (2, pS s_), (3, pB (decide ((pn : Int) < 0))), (4, pS v3)], ⟨[], []⟩⟩) (fun (v2, v3) => ⟨[(2, pS s_), (3, pB (decide ((pn : Int) < 0))), (4, pS v3)], ⟨[], []⟩⟩) (soI H) ?_ ?_
  · rintro k4 ⟨v2, v3⟩ H
    iterate 2 refine qS ?_
    refine qR (q1 rMv (q1 rNe (qN ?_)))
    refine cndB H (fun h5 H => ?_) (fun h5 H => ?_)
    · refine AWP.skip (AWP.block (qS (qR (q1 rMv (q1 (AOp.remI (a := v2) (b := 10) rfl rfl rfl rfl (by decide)) (q1 rMv (qN ?_)))))))
      iterate 2 refine qS ?_
      refine qR (q1 rMv (q1 rLt (qN ?_)))
      refine cndB H (fun h6 H => ?_) (fun h6 H => ?_)
      · refine qR (q1 rMv (q1 rSw (q1 rMv (qN (qS (qR (q1 rMv (q1 rAw (q1 (AOp.convU8 (a := wrap64 (48 + (wrap64 (0 - ((v2).tmod 10))))) rfl rfl rfl ⟨_, Tryd.underlying3⟩ Tryd.underlying5) (q1 (rBs ([(toU8 (wrap64 (48 + (wrap64 (0 - ((v2).tmod 10))))))] : List UInt8) el36 zr5) (q1 (AOp.bytesStr rfl rfl rfl rfl Tryd.underlying36 Tryd.underlying5 Tryd.underlying9) (q1 rMv (gdE H fun z7 H => ?_)))))))))))))
        refine q1 (AOp.addS rfl rfl rfl rfl (Nat.le_trans z7 (by decide))) (q1 rMv (qN (qR (q1 rMv (q1 (AOp.quoI (a := v2) (b := 10) rfl rfl rfl rfl (by decide)) (q1 rMv (qN ?_)))))))
        exact lwN ⟨_, (smI H :), wkA⟩
      refine AWP.skip (qS (qR (q1 rMv (q1 rAw (q1 (AOp.convU8 (a := wrap64 (48 + ((v2).tmod 10))) rfl rfl rfl ⟨_, Tryd.underlying3⟩ Tryd.underlying5) (q1 (rBs ([(toU8 (wrap64 (48 + ((v2).tmod 10))))] : List UInt8) el36 zr5) (q1 (AOp.bytesStr rfl rfl rfl rfl Tryd.underlying36 Tryd.underlying5 Tryd.underlying9) (q1 rMv (gdE H fun z8 H => (q1 (AOp.addS rfl rfl rfl rfl (Nat.le_trans z8 (by decide))) (q1 rMv (qN (qR ?_)))))))))))))
      refine q1 rMv (q1 (AOp.quoI (a := v2) (b := 10) rfl rfl rfl rfl (by decide)) (q1 rMv (qN ?_)))
      exact lwN ⟨_, (smI H :), wkA⟩
    refine AWP.exit ?_; exact lwB ⟨_, (smI H :), wkA⟩
  rintro ⟨v2, v3⟩ H
  iterate 2 refine qS ?_
  refine qR (q1 rMv (qN ?_))
  refine cndB H (fun h9 H => ?_) (fun h9 H => ?_)
  · refine qS (qR (q1 rMv (gdE H fun z10 H => (q1 (AOp.addS rfl rfl rfl rfl (Nat.le_trans z10 (by decide))) (q1 rMv (qN (AWP.ret ?_)))))))
    obtain rfl : _ = r := (smI H :)
    exact qe1
  refine AWP.skip (qS (qR ?_))
  iterate 2 refine q1 rMv ?_
  refine qN (AWP.ret ?_)
  obtain rfl : _ = r := (smI H :)
  exact qe1

end
end Go.Proofs.YtmpepccpnnldoaaDoor

namespace Go.Proofs.YtmpepccpnnldoaaDoor
open Go.RowKit Go.Proofs

/-- The digits of a number; none of nought. -/
def dgs (m : Nat) : List UInt8 := if m = 0 then [] else Lib.decDigits m
theorem dgs_step {m : Nat} (h : m ≠ 0) : dgs m = dgs (m / 10) ++ [UInt8.ofNat (48 + m % 10)] := by
  unfold dgs
  rw [if_neg h]
  by_cases h10 : m < 10
  · rw [Lib.decDigits_one h10, if_pos (by omega), Nat.mod_eq_of_lt h10]
    rfl
  · rw [if_neg (by omega), Lib.decDigits, dif_neg h10]
theorem dgs_len (m : Nat) (h : m ≤ 9223372036854775807) : (dgs m).length ≤ 21 := by
  unfold dgs
  split
  · exact Nat.zero_le _
  · have := Lib.itoa_length_le (m : Int) (by omega) (by omega)
    rwa [Lib.itoa_nonneg] at this
theorem wrap_fine {x : Int} (h0 : 0 ≤ x) (h1 : x ≤ 9223372036854775807) : wrap64 x = x := by
  unfold wrap64 IntKind.wrap
  simp [IntKind.bits, IntKind.signed]
  omega
theorem ba_cat (a b : List UInt8) : (⟨a.toArray⟩ : ByteArray) ++ (⟨b.toArray⟩ : ByteArray) = ⟨(a ++ b).toArray⟩ := by
  apply ByteArray.ext
  simp [ByteArray.data_append]
theorem digit_u8 {m : Nat} : toU8 (wrap64 (48 + ((m : Int).tmod 10))) = UInt8.ofNat (48 + m % 10) := by
  rw [Int.tmod_eq_emod_of_nonneg (by omega), wrap_fine (by omega) (by omega)]
  unfold toU8
  congr 1
  omega
theorem fmt_loop (fu0 : Nat) (pn : Int) : ∀ (k m : Nat) (l : List UInt8), m < k → l.length + (dgs m).length ≤ 1000 → m ≤ 9223372036854775807 → loopW (sFormatInt_F1 fu0 pn) k ((m : Int), (⟨l.toArray⟩ : ByteArray)) = some (.inr ((0 : Int), (⟨(dgs m ++ l).toArray⟩ : ByteArray)))
  | 0, m, l, h, _, _ => by omega
  | k + 1, m, l, h, h2, h3 => by
    by_cases h0 : m = 0
    · subst h0
      exact loopW_brk rfl rfl
    · have hs := dgs_step h0
      have hl : (dgs m).length = (dgs (m / 10)).length + 1 := by rw [hs]; simp
      have e : sFormatInt_F1 fu0 pn ((m : Int), (⟨l.toArray⟩ : ByteArray)) = some (.next (((m / 10 : Nat) : Int), (⟨(UInt8.ofNat (48 + m % 10) :: l).toArray⟩ : ByteArray))) := by
        unfold sFormatInt_F1
        have hz : (bytesStr ([(toU8 (wrap64 (48 + (((m : Int)).tmod 10))))] : List UInt8)).size + (⟨l.toArray⟩ : ByteArray).size ≤ 1099511627776 := by
          simp only [bytesStr, ByteArray.size, List.size_toArray, List.length_cons, List.length_nil]
          omega
        refine swT (by simp; omega) (swF (by rw [Int.tmod_eq_emod_of_nonneg (by omega)]; simp; omega) (gdT hz ?_))
        rw [digit_u8, Int.tdiv_eq_ediv_of_nonneg (by omega), wrap_fine (by omega) (by omega)]
        have := ba_cat [UInt8.ofNat (48 + m % 10)] l
        unfold bytesStr
        rw [this]
        rfl
      rw [loopW_next rfl e, fmt_loop fu0 pn k (m / 10) _ (by omega) (by simp only [List.length_cons]; omega) (by omega), hs]
      simp
theorem sFmt_val {n : Int} (h : fine n) : ∃ fu, sFormatInt_M fu n = some (fmtI n) := by
  obtain ⟨m, rfl⟩ := Int.eq_ofNat_of_zero_le h.1
  have hm : m ≤ 9223372036854775807 := by have := h.2; omega
  by_cases h0 : m = 0
  · subst h0
    refine ⟨0, ?_⟩
    unfold sFormatInt_M
    refine swT (by rfl) ?_
    rw [fmtI, Lib.itoa_nonneg, Lib.decDigits_one (by omega)]
    rfl
  · refine ⟨m + 1, ?_⟩
    have hl := dgs_len m hm
    unfold sFormatInt_M
    refine swF (by simp; omega) ?_
    have e : sFormatInt_R1 (m + 1) (m : Int) = some (.inr ((0 : Int), (⟨(dgs m ++ []).toArray⟩ : ByteArray))) := fmt_loop (m + 1) (m : Int) (m + 1) m [] (by omega) (by simp only [List.length_nil]; omega) hm
    rw [e]
    simp only [so]
    refine swF (by simp) ?_
    rw [fmtI, Lib.itoa_nonneg]
    simp [dgs, h0]
theorem formatInt_spec : NumT 36 fine (fun _ => True) where
  fine := fun _ h => h
  ext := fun _ _ _ _ => trivial
  call := fun n hn w _ => by
    obtain ⟨fu, e⟩ := sFmt_val hn
    refine AFun.plain (sFormatInt_ok fu n _ e) (vals := [.int .i64 n]) ⟨?_, trivial⟩
    exact RV0.t (.leaf (by
      have h0 := hn.1
      have h1 := hn.2
      have e1 : IntKind.i64.max = 9223372036854775807 := by decide
      have e2 : IntKind.i64.min = -9223372036854775808 := by decide
      show Lit.wf (.int .i64 n) = true
      simp only [Lit.wf, Bool.and_eq_true, decide_eq_true_eq]
      omega))
end Go.Proofs.YtmpepccpnnldoaaDoor
