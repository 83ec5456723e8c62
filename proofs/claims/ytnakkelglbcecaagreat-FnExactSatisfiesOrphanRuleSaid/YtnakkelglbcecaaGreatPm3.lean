/- Operations that leave the memory alone, told on abstract states. No conditions. -/
import Derived.Test.YtnakkelglbcecaaGreatPm2
import Derived.WalkArith
import Derived.WideShapes4
import Derived.IntWalk
namespace Go.Proofs.YtnakkelglbcecaaGreat
set_option linter.unusedSimpArgs false
set_option linter.unusedVariables false
open Go.RowKit Go.WalkArith Go.IntWalk Go.WideShapes

def dstOk (d : Option Nat) (n : Nat) : Bool := match d with | none => true | some x => decide (x < n)
theorem dstOk_lt {d : Option Nat} {n : Nat} (h : dstOk d n = true) : ∀ x, d = some x → x < n := by
  rintro x rfl
  simpa [dstOk] using h
def aggD : TypeDesc → Bool
  | .struct _ | .array _ _ => true
  | _ => false
/-- Is it a struct (or an array), and how many cells has it? -/
def shapeOf (P : Program) (T : TypeId) : Option (Bool × Nat) :=
  match P.underlying T, P.info? T with
  | some d, some i => some (aggD d, i.size)
  | _, _ => none
def fieldOff (P : Program) (T f : Nat) : Option Nat :=
  match P.underlying T with
  | some (.struct fs) => match fs[f]? with
    | some fd => match P.info? fd.type with
      | some i => if i.size = 0 then none else some fd.offset
      | none => none
    | none => none
  | _ => none
/-- A slice's element: its type, its cells, its bytes. -/
def elemOf? (P : Program) (T : TypeId) : Option (TypeId × Nat × Nat) :=
  match P.underlying T with
  | some (.slice E) => (P.info? E).map fun i => (E, i.size, i.bytes)
  | _ => none

section
variable {P : Program}
theorem shapeOf.spec {T : TypeId} {b : Bool} {n : Nat} (h : shapeOf P T = some (b, n)) : ∃ d i, P.underlying T = some d ∧ P.info? T = some i ∧ aggD d = b ∧ i.size = n := by
  unfold shapeOf at h
  split at h
  · rename_i d i hu hi
    simp only [Option.some.injEq, Prod.mk.injEq] at h
    exact ⟨d, i, hu, hi, h.1, h.2⟩
  · cases h
theorem fieldOff.spec {T f d : Nat} (h : fieldOff P T f = some d) : ∃ fs fd i, P.underlying T = some (.struct fs) ∧ fs[f]? = some fd ∧ P.info? fd.type = some i ∧ i.size ≠ 0 ∧ fd.offset = d := by
  unfold fieldOff at h
  split at h
  · rename_i fs hu
    split at h
    · rename_i fd hf
      split at h
      · rename_i i hi
        split at h
        · cases h
        · rename_i hz
          exact ⟨fs, fd, i, hu, hf, hi, hz, by simpa using h⟩
      · cases h
    · cases h
  · cases h
theorem elemOf?.spec {T E sz by_ : Nat} (h : elemOf? P T = some (E, sz, by_)) : ∃ i, P.underlying T = some (.slice E) ∧ P.info? E = some i ∧ i.size = sz ∧ i.bytes = by_ := by
  unfold elemOf? at h
  split at h
  · rename_i E' hu
    cases hi : P.info? E' with
    | none => simp [hi] at h
    | some i =>
      simp only [hi, Option.map_some, Option.some.injEq, Prod.mk.injEq] at h
      obtain ⟨rfl, h1, h2⟩ := h
      exact ⟨i, hu, hi, h1, h2⟩
  · cases h

theorem run_isAgg {T : TypeId} {b : Bool} {n : Nat} (h : shapeOf P T = some (b, n)) (w : World) : (isAgg T).run P w = .ok b w := by
  obtain ⟨d, i, hu, -, hb, -⟩ := shapeOf.spec h
  unfold isAgg
  rw [Sem.run_bind, run_underlying hu w]
  cases d <;> simp_all [aggD]
theorem run_sizeOf' {T : TypeId} {b : Bool} {n : Nat} (h : shapeOf P T = some (b, n)) (w : World) : (Go.sizeOf T).run P w = .ok n w := by
  obtain ⟨d, i, -, hi, -, hs⟩ := shapeOf.spec h
  simp [Go.sizeOf, typeInfo, hi, hs]
theorem run_loadVar_agg {T : TypeId} {b off : Nat} {cs : List Value} {w : World} (h : shapeOf P T = some (true, cs.length)) (hc : ∀ j v, cs[j]? = some v → w.cell? ⟨b, off + j, none⟩ = some v) : (loadVar T ⟨b, off, none⟩).run P w = .ok (.agg ⟨cs⟩) w := by
  have hl : (loadCells ⟨b, off, none⟩ cs.length).run P w = .ok cs.toArray w :=
    run_loadCells_list (P := P) w ⟨b, off, none⟩ cs (fun j v hv => by
      have hadd : (⟨b, off, none⟩ : Addr).add j = ⟨b, off + j, none⟩ := by unfold Addr.add; split <;> simp_all
      rw [hadd]; exact hc j v hv)
  simp [loadVar, Sem.run_bind, run_isAgg h, run_sizeOf' h, hl]
theorem run_loadVar_one {T : TypeId} {n : Nat} {p : Addr} {v : Value} {w : World} (h : shapeOf P T = some (false, n)) (hc : w.cell? p = some v) : (loadVar T p).run P w = .ok v w := by
  simp [loadVar, Sem.run_bind, run_isAgg h, hc]
theorem run_fieldAt' {T f d b o : Nat} (h : fieldOff P T f = some d) (w : World) : (Instr.fieldAt T (.pointer (some ⟨b, o, none⟩)) f).run P w = .ok (.pointer (some ⟨b, o + d, none⟩)) w := by
  obtain ⟨fs, fd, i, hu, hf, hi, hz, rfl⟩ := fieldOff.spec h
  have hadd : ∀ n, (⟨b, o, none⟩ : Addr).add n = ⟨b, o + n, none⟩ := fun n => by unfold Addr.add; split <;> simp_all
  simp [Instr.fieldAt, Sem.run_bind, run_underlying hu, hf, Instr.sureAddr, fieldPlace, Go.sizeOf, typeInfo, hi, hz, hadd]
theorem run_indexAt' {T E sz by_ b off len cap k : Nat} (h : elemOf? P T = some (E, sz, by_)) (hk : k < len) (w : World) : (Instr.indexAt T (.slice (some ⟨b, off, none⟩) len cap) (.int .i64 (k : Int))).run P w = .ok (.pointer (some ⟨b, off + k * sz, none⟩)) w := by
  obtain ⟨i, hu, hi, hs, -⟩ := elemOf?.spec h
  have hadd : ∀ n, (⟨b, off, none⟩ : Addr).add n = ⟨b, off + n, none⟩ := fun n => by unfold Addr.add; split <;> simp_all
  simp [Instr.indexAt, asIntOf, Sem.run_bind, run_underlying hu, Go.sizeOf, typeInfo, hi, hs, hadd]
  intro h2
  omega
end

section
variable {P : Program} {C : Ctx} {n : Nat} {s : AS} {o : Oper}

theorem AOp.move {x : Operand} {p : PV} (ho : o.op = .move x ∨ o.op = .assign x) (hd : dstOk o.dst n = true) (hx : s.ev x = some p) : AOp P C n o s (s.putO o.dst p) :=
  AOp.quiet (dstOk_lt hd) fun m a w hr => ⟨a.eval x, by unfold execOp; rcases ho with ho | ho <;> simp [ho], hr.eval hx⟩

theorem AOp.bin {op : BinOp} {T yT : TypeId} {x y : Operand} {u v r : Value} (ho : o.op = .binOp op T x y yT) (hd : dstOk o.dst n = true) (hx : s.ev x = some (.t (.leaf u))) (hy : s.ev y = some (.t (.leaf v)))
    (hrun : ∀ w, ((do eqGuard op T x y u v; binOp op T u v) : Sem Value).run P w = .ok r w) (hr : LeafOk r) : AOp P C n o s (s.putO o.dst (.t (.leaf r))) :=
  AOp.quiet (dstOk_lt hd) fun m a w h => by
    have h1 := (RepM.leaf_eq (h.eval hx)).1
    have h2 := (RepM.leaf_eq (h.eval hy)).1
    refine ⟨r, ?_, RepM.leaf hr⟩
    unfold execOp
    simp only [ho, h1, h2]
    rw [Sem.run_bind, hrun w]
    rfl

theorem AOp.addI {T yT : TypeId} {x y : Operand} {a b c : Int} (ho : o.op = .binOp .add T x y yT) (hd : dstOk o.dst n = true) (hx : s.ev x = some (.t (.leaf (.int .i64 a)))) (hy : s.ev y = some (.t (.leaf (.int .i64 b))))
    (hc : a + b = c) (hb : -9223372036854775808 ≤ c ∧ c ≤ 9223372036854775807) : AOp P C n o s (s.putO o.dst (.t (.leaf (.int .i64 c)))) := by
  subst hc
  exact AOp.bin ho hd hx hy (fun w => by simp [eqGuard, binOp, Op.intArith, i64_in _ hb]) (wf_i64 hb)
theorem AOp.subI {T yT : TypeId} {x y : Operand} {a b c : Int} (ho : o.op = .binOp .sub T x y yT) (hd : dstOk o.dst n = true) (hx : s.ev x = some (.t (.leaf (.int .i64 a)))) (hy : s.ev y = some (.t (.leaf (.int .i64 b))))
    (hc : a - b = c) (hb : -9223372036854775808 ≤ c ∧ c ≤ 9223372036854775807) : AOp P C n o s (s.putO o.dst (.t (.leaf (.int .i64 c)))) := by
  subst hc
  exact AOp.bin ho hd hx hy (fun w => by simp [eqGuard, binOp, Op.intArith, i64_in _ hb]) (wf_i64 hb)
theorem AOp.mulI {T yT : TypeId} {x y : Operand} {a b c : Int} (ho : o.op = .binOp .mul T x y yT) (hd : dstOk o.dst n = true) (hx : s.ev x = some (.t (.leaf (.int .i64 a)))) (hy : s.ev y = some (.t (.leaf (.int .i64 b))))
    (hc : a * b = c) (hb : -9223372036854775808 ≤ c ∧ c ≤ 9223372036854775807) : AOp P C n o s (s.putO o.dst (.t (.leaf (.int .i64 c)))) := by
  subst hc
  exact AOp.bin ho hd hx hy (fun w => by simp [eqGuard, binOp, Op.intArith, i64_in _ hb]) (wf_i64 hb)
theorem AOp.addW {T yT : TypeId} {x y : Operand} {k : IntKind} {a b : Int} (ho : o.op = .binOp .add T x y yT) (hd : dstOk o.dst n = true) (hx : s.ev x = some (.t (.leaf (.int k a)))) (hy : s.ev y = some (.t (.leaf (.int k b)))) :
    AOp P C n o s (s.putO o.dst (.t (.leaf (.int k (k.wrap (a + b)))))) := AOp.bin ho hd hx hy (fun w => by simp [eqGuard, binOp, Op.intArith]) (wf_wrap k _)
theorem AOp.subW {T yT : TypeId} {x y : Operand} {k : IntKind} {a b : Int} (ho : o.op = .binOp .sub T x y yT) (hd : dstOk o.dst n = true) (hx : s.ev x = some (.t (.leaf (.int k a)))) (hy : s.ev y = some (.t (.leaf (.int k b)))) :
    AOp P C n o s (s.putO o.dst (.t (.leaf (.int k (k.wrap (a - b)))))) := AOp.bin ho hd hx hy (fun w => by simp [eqGuard, binOp, Op.intArith]) (wf_wrap k _)
theorem AOp.mulW {T yT : TypeId} {x y : Operand} {k : IntKind} {a b : Int} (ho : o.op = .binOp .mul T x y yT) (hd : dstOk o.dst n = true) (hx : s.ev x = some (.t (.leaf (.int k a)))) (hy : s.ev y = some (.t (.leaf (.int k b)))) :
    AOp P C n o s (s.putO o.dst (.t (.leaf (.int k (k.wrap (a * b)))))) := AOp.bin ho hd hx hy (fun w => by simp [eqGuard, binOp, Op.intArith]) (wf_wrap k _)
theorem AOp.lss {T yT : TypeId} {x y : Operand} {k : IntKind} {a b : Int} (ho : o.op = .binOp .lss T x y yT) (hd : dstOk o.dst n = true) (hx : s.ev x = some (.t (.leaf (.int k a)))) (hy : s.ev y = some (.t (.leaf (.int k b)))) :
    AOp P C n o s (s.putO o.dst (.t (.leaf (.bool (decide (a < b)))))) := AOp.bin ho hd hx hy (fun w => by simp [eqGuard, binOp, Op.intCmp]) trivial
theorem AOp.leq {T yT : TypeId} {x y : Operand} {k : IntKind} {a b : Int} (ho : o.op = .binOp .leq T x y yT) (hd : dstOk o.dst n = true) (hx : s.ev x = some (.t (.leaf (.int k a)))) (hy : s.ev y = some (.t (.leaf (.int k b)))) :
    AOp P C n o s (s.putO o.dst (.t (.leaf (.bool (decide (a ≤ b)))))) := AOp.bin ho hd hx hy (fun w => by simp [eqGuard, binOp, Op.intCmp]) trivial
theorem AOp.gtr {T yT : TypeId} {x y : Operand} {k : IntKind} {a b : Int} (ho : o.op = .binOp .gtr T x y yT) (hd : dstOk o.dst n = true) (hx : s.ev x = some (.t (.leaf (.int k a)))) (hy : s.ev y = some (.t (.leaf (.int k b)))) :
    AOp P C n o s (s.putO o.dst (.t (.leaf (.bool (decide (a > b)))))) := AOp.bin ho hd hx hy (fun w => by simp [eqGuard, binOp, Op.intCmp]) trivial
theorem AOp.geq {T yT : TypeId} {x y : Operand} {k : IntKind} {a b : Int} (ho : o.op = .binOp .geq T x y yT) (hd : dstOk o.dst n = true) (hx : s.ev x = some (.t (.leaf (.int k a)))) (hy : s.ev y = some (.t (.leaf (.int k b)))) :
    AOp P C n o s (s.putO o.dst (.t (.leaf (.bool (decide (a ≥ b)))))) := AOp.bin ho hd hx hy (fun w => by simp [eqGuard, binOp, Op.intCmp]) trivial
theorem AOp.eqlI {T yT : TypeId} {x y : Operand} {k : IntKind} {a b : Int} (ho : o.op = .binOp .eql T x y yT) (hd : dstOk o.dst n = true) (hx : s.ev x = some (.t (.leaf (.int k a)))) (hy : s.ev y = some (.t (.leaf (.int k b)))) :
    AOp P C n o s (s.putO o.dst (.t (.leaf (.bool (decide (a = b)))))) := AOp.bin ho hd hx hy (fun w => by simp [eqGuard, binOp, Op.intCmp]; rfl) trivial
theorem AOp.neqI {T yT : TypeId} {x y : Operand} {k : IntKind} {a b : Int} (ho : o.op = .binOp .neq T x y yT) (hd : dstOk o.dst n = true) (hx : s.ev x = some (.t (.leaf (.int k a)))) (hy : s.ev y = some (.t (.leaf (.int k b)))) :
    AOp P C n o s (s.putO o.dst (.t (.leaf (.bool (!decide (a = b)))))) := AOp.bin ho hd hx hy (fun w => by simp [eqGuard, binOp, Op.intCmp]; rfl) trivial
theorem bytes_toList_inj {a b : ByteArray} (h : a.toList = b.toList) : a = b := by
  rw [ByteArray.toList_eq, ByteArray.toList_eq] at h
  obtain ⟨⟨x⟩⟩ := a
  obtain ⟨⟨y⟩⟩ := b
  have h : x = y := h
  rw [h]
theorem bytes_beq (a b : ByteArray) : (a.toList == b.toList) = decide (a = b) := by
  by_cases h : a = b
  · subst h; simp
  · rw [decide_eq_false h]
    simpa using fun e => h (bytes_toList_inj e)
theorem AOp.eqlS {T yT : TypeId} {x y : Operand} {a b : ByteArray} (ho : o.op = .binOp .eql T x y yT) (hd : dstOk o.dst n = true) (hx : s.ev x = some (.t (.leaf (.string a)))) (hy : s.ev y = some (.t (.leaf (.string b)))) :
    AOp P C n o s (s.putO o.dst (.t (.leaf (.bool (decide (a = b)))))) := AOp.bin ho hd hx hy (fun w => by simp [eqGuard, binOp, Op.stringOp, bytes_beq]) trivial
theorem AOp.neqS {T yT : TypeId} {x y : Operand} {a b : ByteArray} (ho : o.op = .binOp .neq T x y yT) (hd : dstOk o.dst n = true) (hx : s.ev x = some (.t (.leaf (.string a)))) (hy : s.ev y = some (.t (.leaf (.string b)))) :
    AOp P C n o s (s.putO o.dst (.t (.leaf (.bool (!decide (a = b)))))) := AOp.bin ho hd hx hy (fun w => by simp [eqGuard, binOp, Op.stringOp, bytes_beq]) trivial
theorem AOp.addS {T yT : TypeId} {x y : Operand} {a b : ByteArray} (ho : o.op = .binOp .add T x y yT) (hd : dstOk o.dst n = true) (hx : s.ev x = some (.t (.leaf (.string a)))) (hy : s.ev y = some (.t (.leaf (.string b)))) (hb : a.size + b.size ≤ 9223372036854775807) :
    AOp P C n o s (s.putO o.dst (.t (.leaf (.string (a ++ b))))) := AOp.bin ho hd hx hy (fun w => by
      have h2 : ¬ ((a.size : Int) + (b.size : Int) > 9223372036854775807) := by omega
      have h3 : IntKind.max .i64 = 9223372036854775807 := by decide
      simp [eqGuard, binOp, Op.stringOp, h3]
      omega) (by show (a ++ b).size ≤ maxLen; rw [ByteArray.size_append]; unfold maxLen; omega)
theorem AOp.notB {T : TypeId} {x : Operand} {b : Bool} (ho : o.op = .unOp .not T x) (hd : dstOk o.dst n = true) (hx : s.ev x = some (.t (.leaf (.bool b)))) : AOp P C n o s (s.putO o.dst (.t (.leaf (.bool (!b))))) :=
  AOp.quiet (dstOk_lt hd) fun m a w h => ⟨.bool (!b), by
    have h1 := (RepM.leaf_eq (h.eval hx)).1
    unfold execOp
    simp [ho, h1, Op.unary], RepM.leaf trivial⟩
theorem AOp.pick {x y z : Operand} {b : Bool} {p q : PV} (ho : o.op = .pick x y z) (hd : dstOk o.dst n = true) (hx : s.ev x = some (.t (.leaf (.bool b)))) (hy : b = true → s.ev y = some p) (hz : b = false → s.ev z = some p) : AOp P C n o s (s.putO o.dst p) :=
  AOp.quiet (dstOk_lt hd) fun m a w h => by
    have h1 := (RepM.leaf_eq (h.eval hx)).1
    cases b with
    | true => exact ⟨a.eval y, by unfold execOp; simp [ho, h1, asBool], h.eval (hy rfl)⟩
    | false => exact ⟨a.eval z, by unfold execOp; simp [ho, h1, asBool], h.eval (hz rfl)⟩
theorem AOp.nilPtr {x : Operand} {k d : Nat} (ho : o.op = .nilCheck x) (hd : dstOk o.dst n = true) (hx : s.ev x = some (.ptr k d)) : AOp P C n o s (s.putO o.dst (.ptr k d)) :=
  AOp.quiet (dstOk_lt hd) fun m a w h => by
    have h1 := h.eval hx
    refine ⟨a.eval x, ?_, h1⟩
    have h2 := h1.2
    unfold execOp
    simp [ho, h2]
theorem AOp.nilFn {x : Operand} {f : FuncId} {cs : List PV} (ho : o.op = .nilCheck x) (hd : dstOk o.dst n = true) (hx : s.ev x = some (.fn f cs)) : AOp P C n o s (s.putO o.dst (.fn f cs)) :=
  AOp.quiet (dstOk_lt hd) fun m a w h => by
    have h1 := h.eval hx
    refine ⟨a.eval x, ?_, h1⟩
    obtain ⟨vs, h2, -⟩ := h1
    unfold execOp
    simp [ho, h2]
theorem AOp.fieldPtr {T : TypeId} {x : Operand} {f k d e : Nat} (ho : o.op = .fieldAddr T x f) (hd : dstOk o.dst n = true) (hx : s.ev x = some (.ptr k d)) (hf : fieldOff P T f = some e) : AOp P C n o s (s.putO o.dst (.ptr k (d + e))) :=
  AOp.quiet (dstOk_lt hd) fun m a w h => by
    obtain ⟨h1, h2⟩ := h.eval hx
    refine ⟨_, ?_, h1, rfl⟩
    unfold execOp
    simp [ho, h2, run_fieldAt' hf]
theorem AOp.fieldEptr {T : TypeId} {x : Operand} {f e : Nat} {cs : List Tr} (ho : o.op = .fieldAddr T x f) (hd : dstOk o.dst n = true) (hx : s.ev x = some (.eptr cs)) (hf : fieldOff P T f = some e) : AOp P C n o s (s.putO o.dst (.eptr (cs.drop e))) :=
  AOp.quiet (dstOk_lt hd) fun m a w h => by
    obtain ⟨b, off, h1, hb, c, h2⟩ := h.eval hx
    refine ⟨.pointer (some ⟨b, off + e, none⟩), ?_, b, off + e, rfl, hb, fun j => c (e + j), fun j d hj => ?_⟩
    · unfold execOp
      simp [ho, h1, run_fieldAt' hf]
    · rw [List.getElem?_drop] at hj
      obtain ⟨k1, k2, k3⟩ := h2 _ _ hj
      exact ⟨by rw [Nat.add_assoc]; exact k1, by rw [Nat.add_assoc]; exact k2, k3⟩
/-- The data of a slice, whichever way it is held. -/
def rowOf : PV → Option (Nat × List (List Tr))
  | .t (.row sz es) => some (sz, es)
  | .acc sz es _ => some (sz, es)
  | _ => none
theorem rowOf_rv {ok : Nat → Nat → Prop} {st : Sto} {m : Lay} {w : World} {p : PV} {sz : Nat} {es : List (List Tr)} {v : Value} (h : rowOf p = some (sz, es)) (hr : RV ok st m w p v) : RepM ok w (.row sz es) v := by
  unfold rowOf at h
  split at h
  · cases h; exact hr
  · cases h
    obtain ⟨row, -, -, -, h4, -⟩ := hr
    exact h4
  · cases h
theorem AOp.index {T E sz by_ : Nat} {x i : Operand} {p : PV} {es : List (List Tr)} {e : List Tr} {k : Nat} (ho : o.op = .indexAddr T x i) (hd : dstOk o.dst n = true) (hx : s.ev x = some p) (hp : rowOf p = some (sz, es)) (hi : s.ev i = some (.t (.leaf (.int .i64 (k : Int)))))
    (he : es[k]? = some e) (hT : elemOf? P T = some (E, sz, by_)) : AOp P C n o s (s.putO o.dst (.eptr e)) :=
  AOp.quiet (dstOk_lt hd) fun m a w h => by
    have h1 := rowOf_rv hp (h.eval hx)
    have h2 := (RepM.leaf_eq (h.eval hi)).1
    cases hv : a.eval x with
    | slice ad len cap =>
      rw [hv] at h1
      cases h1 with
      | row c k1 k2 k3 k4 =>
        obtain ⟨b, off, rfl, hb, k5⟩ := k3 (by rintro rfl; simp at he)
        have hk : k < es.length := (List.getElem?_eq_some_iff.1 he).1
        refine ⟨.pointer (some ⟨b, off + k * sz, none⟩), ?_, b, off + k * sz, rfl, hb, c k, fun j d hj => ⟨(k5 k e he j d hj).1, (k5 k e he j d hj).2, k4 k e he j d hj⟩⟩
        unfold execOp
        simp [ho, hv, h2, run_indexAt' hT hk]
    | _ => rw [hv] at h1; cases h1
theorem AOp.len {T ty : TypeId} {x : Operand} {p : PV} {sz : Nat} {es : List (List Tr)} {E : Nat × Nat × Nat} (ho : o.op = .call { callee := .builtin .len, args := #[x], argTypes := #[T] }) (hd : dstOk o.dst n = true) (hx : s.ev x = some p) (hp : rowOf p = some (sz, es)) (hT : elemOf? P T = some E) :
    AOp P C n o s (s.putO o.dst (.t (.leaf (.int .i64 (es.length : Int))))) :=
  AOp.quiet (dstOk_lt hd) fun m a w h => by
    obtain ⟨ad, cap, h1, h2, h3⟩ := (rowOf_rv hp (h.eval hx)).shape
    obtain ⟨E1, E2, E3⟩ := E
    obtain ⟨i, hu, -, -, -⟩ := elemOf?.spec hT
    refine ⟨.int .i64 (es.length : Int), ?_, RepM.leaf (wf_i64 (by unfold maxLen at h3; omega))⟩
    unfold execOp
    simp [ho, resolve, invoke, builtin, h1, Builtin.len_, run_underlying hu, goInt]
theorem AOp.lenNil {T : TypeId} {x : Operand} {E : Nat × Nat × Nat} (ho : o.op = .call { callee := .builtin .len, args := #[x], argTypes := #[T] }) (hd : dstOk o.dst n = true) (hx : s.ev x = some .nil) (hT : elemOf? P T = some E) :
    AOp P C n o s (s.putO o.dst (.t (.leaf (.int .i64 0)))) :=
  AOp.quiet (dstOk_lt hd) fun m a w h => by
    have h1 : a.eval x = .slice none 0 0 := h.eval hx
    obtain ⟨E1, E2, E3⟩ := E
    obtain ⟨i, hu, -, -, -⟩ := elemOf?.spec hT
    refine ⟨.int .i64 0, ?_, RepM.leaf (wf_i64 (by omega))⟩
    unfold execOp
    simp [ho, resolve, invoke, builtin, h1, Builtin.len_, run_underlying hu, goInt]
theorem AOp.lenS {T : TypeId} {x : Operand} {v : ByteArray} (ho : o.op = .call { callee := .builtin .len, args := #[x], argTypes := #[T] }) (hd : dstOk o.dst n = true) (hx : s.ev x = some (.t (.leaf (.string v)))) (hT : P.underlying T = some .string) :
    AOp P C n o s (s.putO o.dst (.t (.leaf (.int .i64 (v.size : Int))))) :=
  AOp.quiet (dstOk_lt hd) fun m a w h => by
    obtain ⟨h1, h3⟩ := RepM.leaf_eq (h.eval hx)
    have h4 : v.size ≤ maxLen := h3
    refine ⟨.int .i64 (v.size : Int), ?_, RepM.leaf (wf_i64 (by unfold maxLen at h4; omega))⟩
    unfold execOp
    simp [ho, resolve, invoke, builtin, h1, Builtin.len_, run_underlying hT, goInt]
theorem AOp.extract {x : Operand} {i : Nat} {ps : List PV} {p : PV} (ho : o.op = .extract x i) (hd : dstOk o.dst n = true) (hx : s.ev x = some (.tup ps)) (hi : ps[i]? = some p) : AOp P C n o s (s.putO o.dst p) :=
  AOp.quiet (dstOk_lt hd) fun m a w h => by
    obtain ⟨vs, h1, h2⟩ := h.eval hx
    obtain ⟨v, hv, hr⟩ := h2.get hi
    refine ⟨v, ?_, hr⟩
    unfold execOp
    simp [ho, h1, Instr.extract, hv]
theorem AOp.makeFunc {f : FuncId} {cap : Array Operand} {ps : List PV} (ho : o.op = .makeFunc (.func f) #[] cap) (hd : dstOk o.dst n = true) (hc : cap.toList.map s.ev = ps.map some) : AOp P C n o s (s.putO o.dst (.fn f ps)) :=
  AOp.quiet (dstOk_lt hd) fun m a w h => by
    have key : ∀ (l : List Operand) (qs : List PV), l.map s.ev = qs.map some → RVL (okA C.av s.st m) s.st m w qs (l.map a.eval) := by
      intro l
      induction l with
      | nil => intro qs hq; cases qs <;> simp_all [RVL]
      | cons x l ih =>
        intro qs hq
        cases qs with
        | nil => simp at hq
        | cons q qs =>
          simp only [List.map_cons, List.cons.injEq] at hq
          exact ⟨h.eval hq.1, ih qs hq.2⟩
    refine ⟨.func (.func f) #[] ⟨cap.toList.map a.eval⟩, ?_, _, rfl, key _ _ hc⟩
    unfold execOp
    simp only [ho, Instr.makeFunc]
    have e : cap.map a.eval = ⟨cap.toList.map a.eval⟩ := by apply Array.ext'; simp
    simp [e]
/-- A load from one of our boxes. -/
theorem AOp.loadPtr {T : TypeId} {x : Operand} {k d z : Nat} {bx : PBox} {cs : List PV} (ho : o.op = .load T x) (hd : dstOk o.dst n = true) (hx : s.ev x = some (.ptr k d)) (hb : s.st.boxes[k]? = some (some bx)) (hT : shapeOf P T = some (true, z)) (hc : (bx.cells.drop d).take z = cs) (hl : cs.length = z) :
    AOp P C n o s (s.putO o.dst (.agg cs)) :=
  AOp.quiet (dstOk_lt hd) fun m a w h => by
    obtain ⟨-, h2⟩ := h.eval hx
    obtain ⟨vs, h3, h4⟩ := h.sto.box k bx hb
    have h5 := RVL.take z (RVL.drop d h4)
    rw [hc] at h5
    refine ⟨.agg ⟨(vs.drop d).take z⟩, ?_, _, rfl, h5⟩
    have hlen := h5.length
    have hld := run_loadVar_agg (P := P) (T := T) (b := m.ρ k) (off := d) (cs := (vs.drop d).take z) (w := w) (by rw [← hlen, hl]; exact hT) (fun j v hj => by
      have hjz : j < z := by have := (List.getElem?_eq_some_iff.1 hj).1; simp at this; omega
      rw [List.getElem?_take, if_pos hjz, List.getElem?_drop] at hj
      rw [h3.cell]
      simpa using hj)
    unfold execOp
    simp [ho, h2, Instr.loadAt, Instr.sureAddr, hld]
theorem AOp.loadPtr1 {T : TypeId} {x : Operand} {k d z : Nat} {bx : PBox} {p : PV} (ho : o.op = .load T x) (hd : dstOk o.dst n = true) (hx : s.ev x = some (.ptr k d)) (hb : s.st.boxes[k]? = some (some bx)) (hT : shapeOf P T = some (false, z)) (hc : bx.cells[d]? = some p) :
    AOp P C n o s (s.putO o.dst p) :=
  AOp.quiet (dstOk_lt hd) fun m a w h => by
    obtain ⟨-, h2⟩ := h.eval hx
    obtain ⟨vs, h3, h4⟩ := h.sto.box k bx hb
    obtain ⟨v, hv, hr⟩ := h4.get hc
    refine ⟨v, ?_, hr⟩
    have hld := run_loadVar_one (P := P) (T := T) (p := ⟨m.ρ k, d, none⟩) (v := v) (w := w) hT (by rw [h3.cell]; simpa using hv)
    unfold execOp
    simp [ho, h2, Instr.loadAt, Instr.sureAddr, hld]
theorem RVL.of_fn {ok : Nat → Nat → Prop} {st : Sto} {m : Lay} {w : World} {c : Nat → Value} : ∀ {ts : List Tr} (k : Nat), (∀ (j : Nat) d, ts[j]? = some d → RepM ok w d (c (k + j))) → RVL ok st m w (ts.map PV.t) ((List.range' k ts.length).map c) := by
  intro ts
  induction ts with
  | nil => intro k _; simp [RVL]
  | cons t ts ih =>
    intro k h
    refine ⟨h 0 t rfl, ?_⟩
    exact ih (k + 1) (fun j d hd => by have := h (j + 1) d (by simpa using hd); rwa [show k + 1 + j = k + (j + 1) by omega])
theorem AOp.loadEptr {T : TypeId} {x : Operand} {z : Nat} {cs ds : List Tr} (ho : o.op = .load T x) (hd : dstOk o.dst n = true) (hx : s.ev x = some (.eptr cs)) (hT : shapeOf P T = some (true, z)) (hc : cs.take z = ds) (hl : ds.length = z) :
    AOp P C n o s (s.putO o.dst (.agg (ds.map PV.t))) :=
  AOp.quiet (dstOk_lt hd) fun m a w h => by
    obtain ⟨b, off, h1, hb, c, h2⟩ := h.eval hx
    have hget : ∀ (j : Nat) d, ds[j]? = some d → cs[j]? = some d := fun j d hj => by
      rw [← hc, List.getElem?_take] at hj
      split at hj
      · exact hj
      · cases hj
    refine ⟨.agg ⟨(List.range' 0 ds.length).map c⟩, ?_, _, rfl, RVL.of_fn 0 fun j d hj => by rw [Nat.zero_add]; exact (h2 j d (hget j d hj)).2.2⟩
    have hld := run_loadVar_agg (P := P) (T := T) (b := b) (off := off) (cs := (List.range' 0 ds.length).map c) (w := w) (by simpa [hl] using hT) (fun j v hj => by
      rw [List.getElem?_map] at hj
      rcases hr : (List.range' 0 ds.length)[j]? with _ | i
      · simp [hr] at hj
      · have hjl : j < ds.length := by have := (List.getElem?_eq_some_iff.1 hr).1; simpa using this
        rw [List.getElem?_range' hjl] at hr
        simp at hr
        subst hr
        simp [List.getElem?_range' hjl] at hj
        rw [← hj]
        exact (h2 j ds[j] (hget j _ (List.getElem?_eq_getElem hjl))).2.1)
    unfold execOp
    simp [ho, h1, Instr.loadAt, Instr.sureAddr, hld]
theorem AOp.loadEptr1 {T : TypeId} {x : Operand} {z : Nat} {d : Tr} {cs : List Tr} (ho : o.op = .load T x) (hd : dstOk o.dst n = true) (hx : s.ev x = some (.eptr cs)) (hT : shapeOf P T = some (false, z)) (hc : cs[0]? = some d) :
    AOp P C n o s (s.putO o.dst (.t d)) :=
  AOp.quiet (dstOk_lt hd) fun m a w h => by
    obtain ⟨b, off, h1, hb, c, h2⟩ := h.eval hx
    obtain ⟨k1, k2, k3⟩ := h2 0 d hc
    refine ⟨c 0, ?_, k3⟩
    have hld := run_loadVar_one (P := P) (T := T) (p := ⟨b, off, none⟩) (v := c 0) (w := w) hT k2
    unfold execOp
    simp [ho, h1, Instr.loadAt, Instr.sureAddr, hld]
end
end Go.Proofs.YtnakkelglbcecaaGreat
