/- Words, rules and walks of several kinds, laid together: PmY, PmZ, PmW, PmV, PmN, PmO, PmR, PmBool, Pma, PmT, PmDraw, PmaB, Pl, MaTy, Plain, SL, TyEq, PlTy. No conditions but those that each theorem states. -/
import Derived.Test.YtoifjkggpanceaaQ3LExactProjectionsIn
import Derived.Test.YtoifjkggpanceaaProg
import Derived.Test.YtoifjkggpanceaaQ1LExactProjectionsIn
import Derived.Test.YtoifjkggpanceaaQ2LExactProjectionsIn
set_option linter.unusedSimpArgs false
set_option linter.unusedVariables false
namespace Go.Proofs.Ytoifjkggpanceaa
set_option linter.unusedSimpArgs false
set_option linter.unusedVariables false
open Go.RowKit Go.WalkArith Go.IntWalk Go.WideShapes

section
variable {P : Program} {C : Ctx} {n : Nat} {s : AS} {Q : Exit → AS → Prop} {o : Oper}
theorem AOp.congr {s1 s2 : AS} (h : AOp P C n o s s1) (e : s1 = s2) : AOp P C n o s s2 := e ▸ h
theorem AOp.quietX {p : PV} (hd : dstOk o.dst n = true) (h : ∀ m a w, RA C n s m a w → ∃ v w1, (execOp a.eval o).run P w = .ok (.value v) w1 ∧ Ext w w1 ∧ RV (okA C.av s.st m) s.st m w1 p v) : AOp P C n o s (s.putO o.dst p) :=
  AOp.run hd (s1 := s) (fun m a w hr => by
    obtain ⟨v, w1, h1, h2, h3⟩ := h m a w hr
    exact ⟨v, m, w1, h1, Ev.later h2, hr.sto.later h2, h3⟩) rfl
theorem evs_cons {x : Operand} {p : PV} {xs : List Operand} {ps : List PV} (h : s.ev x = some p) (k : xs.map s.ev = ps.map some) : (x :: xs).map s.ev = (p :: ps).map some := by simp [h, k]
theorem parts_cons {i : Nat} {x : Operand} {p : PV} {l : List (Nat × Operand)} {r : List (Nat × List PV)} {cs : List PV} (h : s.ev x = some p) (ht : notTup p = true) (hc : cellsP p = cs) (k : partsP s l = some r) : partsP s ((i, x) :: l) = some ((i, cs) :: r) := by
  subst hc
  simp [partsP, h, k, ht]

/-- A literal of data, its row forgotten. -/
theorem AOp.buildSliceQ {T E sz by_ len : Nat} {parts : Array (Nat × Operand)} {ps : List (Nat × List PV)} {zs cs : List PV} {es : List (List Tr)} (ho : o.op = .buildSlice T len parts) (hd : dstOk o.dst n = true) (hT : elemOf? P T = some (E, sz, by_)) (hz : zerosOf P E = some zs) (hp : partsP s parts.toList = some ps)
    (hc : fillP (fun i => some (i * sz, sz)) (List.replicate len zs).flatten ps = some cs) (hle : LeL cs (es.flatten.map PV.t)) (hel : es.length = len) (hes : ∀ e ∈ es, e.length = sz) (hsz : 0 < sz) (hzl : zs.length = sz) (hsm : len * sz ≤ 16777216) :
    AOp P C n o s (s.putO o.dst (.t (.row sz es))) := by
  refine AOp.quietX hd fun m a w h => ?_
  have h1 := AOp.buildSlice (P := P) (C := C) (n := n) (s := s) ho hd hT hz hp hc hle hel hes hsz hzl hsm m a w h
  -- the operation itself
  obtain ⟨i, hu, hi, hs, hby⟩ := elemOf?.spec hT
  obtain ⟨i', z, hi', hzz, hr⟩ := zerosOf.spec hz
  rw [hi] at hi'
  cases hi'
  have hzv := hr (okA C.av s.st m) s.st m w
  have hzs : z.cells.size = sz := by have := hzv.length; rw [hzl] at this; simpa using this.symm
  have hrl : ∀ e ∈ List.replicate len zs, e.length = sz := fun e he => by rw [(List.mem_replicate.1 he).2]; exact hzl
  have hzero : RVL (okA C.av s.st m) s.st m w (List.replicate len zs).flatten ((List.range (len * sz)).map (fun q => z.cells[q % z.cells.size]!)) := by
    refine RVL.of_get (by rw [flatten_len hrl]; simp) fun j p hj => ?_
    have hjl : j < len * sz := by have := get_lt hj; rw [flatten_len hrl] at this; simpa using this
    have hj1 : j / sz < len := by rw [Nat.div_lt_iff_lt_mul hsz]; exact hjl
    have hj2 : j % sz < zs.length := by rw [hzl]; exact Nat.mod_lt _ hsz
    have hpj := flatten_get (i := j / sz) (j := j % sz) (e := zs) (d := zs[j % sz]) hrl (by rw [List.getElem?_replicate, if_pos hj1]) (List.getElem?_eq_getElem hj2)
    rw [show j / sz * sz + j % sz = j by rw [Nat.mul_comm]; exact Nat.div_add_mod j sz, hj] at hpj
    cases hpj
    obtain ⟨v, hv, hrv⟩ := hzv.get (List.getElem?_eq_getElem hj2)
    refine ⟨v, ?_, hrv⟩
    rw [List.getElem?_map, List.getElem?_range hjl]
    simp only [Option.map_some, hzs]
    rw [Array.getElem?_toList] at hv
    obtain ⟨hlt, hve⟩ := Array.getElem?_eq_some_iff.1 hv
    rw [getElem!_pos z.cells _ hlt, hve]
  obtain ⟨us, h2, h3⟩ := fillP_ok (partsP_ok h hp) hzero hc
  have h4 := LeL.rv hle h3
  have hul : us.length = len * sz := by have := h4.length; rw [List.length_map, flatten_len hes, hel] at this; exact this.symm
  have hrun : (Instr.buildSlice T len (parts.map fun (i, x) => (i, a.eval x))).run P w = .ok (.slice (some ⟨w.heap.size, 0, none⟩) len len) (w.alloc (.cells ⟨us⟩ E)) := by
    have hfill : Instr.fill (fun i => some (i * sz, sz)) ((Array.range (len * sz)).map (z.cells[· % z.cells.size]!)) (parts.map fun (i, x) => (i, a.eval x)).toList = some ⟨us⟩ := by
      rw [Array.toList_map, ← h2]
      congr 1
      apply Array.ext'
      simp
    by_cases h0 : len * sz = 0
    · have hl0 : len = 0 := by
        rcases Nat.mul_eq_zero.1 h0 with h | h
        · exact h
        · omega
      subst hl0
      rw [Nat.zero_mul] at hfill
      simp [Instr.buildSlice, run_underlying hu, Go.sizeOf, typeInfo, hi, hs, newRow]
      have e0 : (Array.range 0).map (fun q => z.cells[q % z.cells.size]!) = #[] := by simp
      rw [e0] at hfill
      simp at hfill
      have e1 : (Array.range 0).map (fun _ => (default : Value)) = #[] := by simp
      rw [e1, hfill]
      simp
    · exact run_buildSlice w T E len _ ⟨us⟩ i z hu hi hzz (by rw [hs]; omega) (by rw [hs]; exact h0) (by rw [hs]; exact hfill)
  have hx : Ext w (w.alloc (.cells ⟨us⟩ E)) := .alloc (.refl _) _
  have hm : len ≤ maxLen := by have := Nat.le_mul_of_pos_right len hsz; unfold maxLen; omega
  refine ⟨.slice (some ⟨w.heap.size, 0, none⟩) len len, w.alloc (.cells ⟨us⟩ E), ?_, hx, ?_⟩
  · unfold execOp
    simp [ho, hrun]
  have hget : ∀ q e, es[q]? = some e → ∀ j d, e[j]? = some d → ∃ v, us[q * sz + j]? = some v ∧ RepM (okA C.av s.st m) (w.alloc (.cells ⟨us⟩ E)) d v := fun q e hq j d hj => by
    have hf := flatten_get (sz := sz) hes hq hj
    obtain ⟨v, hv, hrv⟩ := h4.get (j := q * sz + j) (p := .t d) (by rw [List.getElem?_map, hf]; rfl)
    exact ⟨v, hv, RepM.ext hrv hx⟩
  have := RepM.row (ok := okA C.av s.st m) (w := w.alloc (.cells ⟨us⟩ E)) (es := es) (sz := sz) (a := some ⟨w.heap.size, 0, none⟩) (cap := len) (fun q j => (us[q * sz + j]?).getD undef) (by omega) hm (fun _ => ⟨w.heap.size, 0, rfl, by simp, fun q e hq j d hd => ⟨okA_new h.sto (Nat.le_refl _) _, ?_⟩⟩) (fun q e hq j d hd => ?_)
  · rw [hel] at this
    exact this
  · obtain ⟨v, hv, -⟩ := hget q e hq j d hd
    rw [Nat.zero_add, (OB.new w E ⟨us⟩).cell, hv]
    simpa using hv
  · obtain ⟨v, hv, hr⟩ := hget q e hq j d hd
    rw [hv]
    exact hr

def Draw.steps (P : Program) (C : Ctx) (n : Nat) (D : Draw) : Nat → List Oper → Prop
  | _, [] => True
  | i, o :: l => D.step P C n i o ∧ Draw.steps P C n D (i + 1) l
theorem Draw.steps_get {D : Draw} : ∀ {l : List Oper} {k : Nat}, D.steps P C n k l → ∀ (i : Nat) (o : Oper), l[i]? = some o → D.step P C n (k + i) o
  | [], _, _, i, o, h => by simp at h
  | x :: l, k, hs, 0, o, h => by simp at h; subst h; exact hs.1
  | x :: l, k, hs, i + 1, o, h => by
    have := Draw.steps_get (l := l) (k := k + 1) hs.2 i o (by simpa using h)
    rwa [show k + 1 + i = k + (i + 1) by omega] at this
/-- The region as a list; the state behind it told by the caller. -/
theorem AWP.drawnL {id : Nat} {l : List Oper} {s1 : AS} (D : Draw) (hD : D.ops = l.toArray) (hm : P.follows .mixedOrders = true) (hok : D.ok = true) (henv : s.env = D.env0) (hst : s.st = D.F 0 false) (hsteps : D.steps P C n 0 l)
    (h1 : (⟨((List.range D.ops.size).filterMap (D.gX (Array.replicate D.ops.size true))) ++ D.env0, D.F D.effs.length D.alloc.isSome⟩ : AS) = s1) (h : Q .normal s1) : AWP P C n (.region id l.toArray true) Q s := by
  subst h1
  rw [← hD]
  refine AWP.drawn D hm hok henv hst (fun i o ho => ?_) h
  have := Draw.steps_get hsteps i o (by rw [hD] at ho; simpa using ho)
  rwa [Nat.zero_add] at this
end
end Go.Proofs.Ytoifjkggpanceaa

namespace Go.Proofs.Ytoifjkggpanceaa
set_option linter.unusedSimpArgs false
set_option linter.unusedVariables false
open Go.RowKit

def lay0 : Lay := ⟨fun _ => 0, fun _ => none⟩
def av0 : Nat → Nat → Prop := fun _ _ => False
theorem ok0 (b o : Nat) : okA av0 ⟨[], []⟩ lay0 b o := ⟨fun h => h, fun k x h => by simp at h, fun r row g c h => by simp at h⟩
theorem sto0 (w : World) : StoOk av0 ⟨[], []⟩ lay0 w where
  box := fun k x h => by simp at h
  binj := fun k k' x x' h => by simp at h
  row := fun r row h => by simp at h
  rinj := fun r r' row row' g c c' h => by simp at h
  br := fun k x r row g c h => by simp at h
  avlt := fun b o h => h.elim
  avr := fun r row g c h => by simp at h
theorem Ev.ext {m m' : Lay} {w w' : World} {st' : Sto} (h : Ev ⟨[], []⟩ m w st' m' w') : Ext w w' where
  os := h.os
  tape := h.tape
  output := h.output
  size := h.size
  block := fun b hb => h.blk b hb (fun k x h => by simp at h) (fun r row g c h => by simp at h)
/-- The values stand for plain data. -/
abbrev RVL0 (w : World) (ps : List PV) (vs : List Value) : Prop := RVL (okA av0 ⟨[], []⟩ lay0) ⟨[], []⟩ lay0 w ps vs
abbrev RV0 (w : World) (p : PV) (v : Value) : Prop := RV (okA av0 ⟨[], []⟩ lay0) ⟨[], []⟩ lay0 w p v
theorem RV0.agg {w : World} {ts : List Tr} {cs : List Value} (h : RepL w ts cs) : RV0 w (.agg (ts.map PV.t)) (.agg ⟨cs⟩) := ⟨cs, rfl, h.toRVL fun b o _ => ok0 b o⟩
theorem RV0.t {w : World} {t : Tr} {v : Value} (h : Rep w t v) : RV0 w (.t t) v := h.repM fun b o _ => ok0 b o
theorem AFun.plain {P : Program} {f : FuncId} {args : List PV} {d : Value} (h : AFun P f args (.t (.leaf d))) {w : World} {vals : List Value} (hv : RVL0 w args vals) : Calls P f ⟨vals⟩ w fun e w' => e = .returned d ∧ Ext w w' :=
  (h av0 lay0 w vals (sto0 w) hv).mono fun e w' => by
    rintro ⟨res, st', m', v, rfl, ⟨rfl, rfl⟩, -, he, hr⟩
    exact ⟨by rw [(RepM.leaf_eq hr).1], he.ext⟩

end Go.Proofs.Ytoifjkggpanceaa

namespace Go.Proofs.Ytoifjkggpanceaa
set_option linter.unusedSimpArgs false
set_option linter.unusedVariables false
open Go.RowKit Go.WalkArith Go.IntWalk Go.WideShapes

theorem strTrs_all (l : List ByteArray) : ∀ e ∈ strTrs l, e.length = 1 := fun e he => by
  unfold strTrs at he
  obtain ⟨x, _, rfl⟩ := List.mem_map.1 he
  rfl
theorem intTrs_all (l : List Int) : ∀ e ∈ intTrs l, e.length = 1 := fun e he => by
  unfold intTrs at he
  obtain ⟨x, _, rfl⟩ := List.mem_map.1 he
  rfl
theorem strTrs_append (a b : List ByteArray) : strTrs a ++ strTrs b = strTrs (a ++ b) := by simp [strTrs]
theorem intTrs_append (a b : List Int) : intTrs a ++ intTrs b = intTrs (a ++ b) := by simp [intTrs]

section
variable {P : Program} {C : Ctx} {n : Nat} {s : AS} {Q : Exit → AS → Prop} {o : Oper}
theorem AWP.wk {s' : AS} {c : Code} (hw : Wk C n s s') (h : AWP P C n c Q s') : AWP P C n c Q s := fun m a w hr => by
  obtain ⟨m', h'⟩ := hw m a w hr
  exact h m' a w h'
theorem AOp.appendE {T E sz by_ : Nat} {x y : Operand} {es es2 es3 : List (List Tr)} {r : Nat} {row : PRow} {p : PV} (ho : o.op = .call { callee := .builtin .append, args := #[x, y], argTypes := #[T, T] }) (hd : dstOk o.dst n = true)
    (hx : s.ev x = some (.acc sz es r)) (hrow : s.st.rows[r]? = some row) (hes : row.es = es) (hE : row.E = E) (hw : row.whole = false) (hy : s.ev y = some p) (hp : rowOf p = some (sz, es2)) (h2 : ∀ e ∈ es2, e.length = sz)
    (hT : elemOf? P T = some (E, sz, by_)) (hz : (P.info? E).bind (fun i => i.zero.map (fun z => z.cells.size)) = some sz) (hb : 0 < by_) (hlen : (es.length + es2.length) * by_ ≤ 140737488355328) (h3 : es ++ es2 = es3) :
    AOp P C n o s ((⟨s.env, s.st.setRow r { row with es := es3 }⟩ : AS).putO o.dst (.acc sz es3 r)) := by
  subst h3
  exact AOp.append ho hd hx hrow hes hE hw hy hp h2 hT hz hb hlen
theorem AOp.callPE {f : FuncId} {fn : Func} {xs : List Operand} {ts : Array TypeId} {ps qs : List PV} {res : PV} {pre st' S : Sto} (fb fr : List Nat) (ho : o.op = .call { callee := .value (.func f), args := ⟨xs⟩, argTypes := ts }) (hd : dstOk o.dst n = true) (hf : P.funcs[f]? = some fn) (hnm : (fn.name == "runtime.NumGoroutine") = false) (hb : fn.body.isNone = false)
    (hx : xs.map s.ev = ps.map some) (hS : s.st = S) (hp : Part0 S pre fb fr) (hle : LeL ps (renL fb fr qs)) (hok : okInL pre qs = true) (hbl : st'.boxes.length = pre.boxes.length) (hrl : st'.rows.length = pre.rows.length) (hc : ACalls P f qs pre (fun r t => r = res ∧ t = st')) :
    AOp P C n o s ((⟨s.env, S.over st' fb fr⟩ : AS).putO o.dst (PV.ren fb fr res)) := by
  subst hS
  exact AOp.callP fb fr ho hd hf hnm hb hx hp hle hok hbl hrl hc
end

/-- A nil slice is a slice of ours that has not grown yet. -/
theorem ACalls.regNil {P : Program} {f : FuncId} {l1 l2 : List PV} {E sz : Nat} {q res : PV} {t : Sto} (hsz : 0 < sz) (h : ACalls P f (l1 ++ .acc sz [] 0 :: l2) ⟨[], [⟨E, sz, [], false⟩]⟩ (fun r st' => r = res ∧ st' = t)) (hle : PV.Le res q) (hk : PV.okIn ⟨[], []⟩ q = true) : AFun P f (l1 ++ .nil :: l2) q := fun av m w vals hst hv => by
  have hE := ev_addRow (row := ⟨E, sz, [], false⟩) hst
  have hS := sto_addRow (row := ⟨E, sz, [], false⟩) hst hsz rfl
  have hargs : RVL (okA av (Sto.addRow ⟨[], []⟩ ⟨E, sz, [], false⟩) ⟨m.ρ, upd m.γ 0 none⟩) (Sto.addRow ⟨[], []⟩ ⟨E, sz, [], false⟩) ⟨m.ρ, upd m.γ 0 none⟩ w (l1 ++ .acc sz [] 0 :: l2) vals := by
    have h0 := RVL.mono hE _ _ hv
    have hlen := h0.length
    have key : ∀ (l : List PV) (vs : List Value), RVL (okA av (Sto.addRow ⟨[], []⟩ ⟨E, sz, [], false⟩) ⟨m.ρ, upd m.γ 0 none⟩) (Sto.addRow ⟨[], []⟩ ⟨E, sz, [], false⟩) ⟨m.ρ, upd m.γ 0 none⟩ w (l ++ .nil :: l2) vs →
        RVL (okA av (Sto.addRow ⟨[], []⟩ ⟨E, sz, [], false⟩) ⟨m.ρ, upd m.γ 0 none⟩) (Sto.addRow ⟨[], []⟩ ⟨E, sz, [], false⟩) ⟨m.ρ, upd m.γ 0 none⟩ w (l ++ .acc sz [] 0 :: l2) vs := by
      intro l
      induction l with
      | nil =>
        intro vs hh
        match vs, hh with
        | v :: vs, hh =>
          refine ⟨?_, hh.2⟩
          obtain rfl := (show v = _ from hh.1)
          exact ⟨⟨E, sz, [], false⟩, rfl, rfl, Nat.le_refl _, RepM.row (es := []) (fun _ _ => undef) (by simp) (by unfold maxLen; omega) (by simp) (by simp), fun _ => by simp [upd, rowVal]⟩
        | [], hh => exact hh.elim
      | cons p l ih =>
        intro vs hh
        match vs, hh with
        | v :: vs, hh => exact ⟨hh.1, ih vs hh.2⟩
        | [], hh => exact hh.elim
    exact key l1 vals h0
  refine (h av _ w vals hS hargs).mono fun e w' => ?_
  rintro ⟨r, st', m', v, k1, ⟨rfl, rfl⟩, k3, k4, k5⟩
  have hl : StLe st' ⟨[], []⟩ := ⟨fun k x' hx => by simp at hx, fun r row' hr => by simp at hr⟩
  exact ⟨q, ⟨[], []⟩, m', v, k1, ⟨rfl, rfl⟩, hl.sto k3, hl.ev (hE.trans k4) Keeps0.nil, hl.rv q _ hk (hle.rv k5)⟩
end Go.Proofs.Ytoifjkggpanceaa

namespace Go.Proofs.Ytoifjkggpanceaa
set_option linter.unusedSimpArgs false
set_option linter.unusedVariables false
open Go.RowKit Go.WalkArith Go.IntWalk Go.WideShapes

theorem bool2 (b : Bool) : b = true ∨ b = false := by cases b <;> simp
section
variable {P : Program} {C : Ctx} {n : Nat} {s : AS} {o : Oper}
theorem box_lenN (k j : Nat) {bx : PBox} {p : PV} {sz N : Nat} {es : List (List Tr)} (hb : s.st.boxes[k]? = some (some bx)) (hx : bx.cells[j]? = some p) (hp : rowOf p = some (sz, es)) (hl : es.length = N) : ∀ m a w, RA C n s m a w → N ≤ 9223372036854775807 := by
  subst hl
  exact box_len k j hb hx hp
theorem box_len2 (k j : Nat) {bx : PBox} {p : PV} {sz sz2 i j2 N : Nat} {es es2 : List (List Tr)} {e : List Tr} (hb : s.st.boxes[k]? = some (some bx)) (hx : bx.cells[j]? = some p) (hp : rowOf p = some (sz, es)) (he : es[i]? = some e) (h2 : e[j2]? = some (.row sz2 es2)) (hl : es2.length = N) : ∀ m a w, RA C n s m a w → N ≤ 9223372036854775807 := fun m a w h => by
  subst hl
  obtain ⟨vs, -, h1⟩ := h.sto.box k bx hb
  obtain ⟨v, -, hr⟩ := h1.get hx
  have hr := rowOf_rv hp hr
  cases hr with
  | row c h3 h4 h5 h6 =>
    obtain ⟨ad, cap, -, k2, k3⟩ := (h6 i e he j2 _ h2).shape
    unfold maxLen at k3
    omega
theorem AOp.indexI {T E sz by_ : Nat} {x i : Operand} {p : PV} {es : List (List Tr)} {e : List Tr} {y : Int} (ho : o.op = .indexAddr T x i) (hd : dstOk o.dst n = true) (hx : s.ev x = some p) (hp : rowOf p = some (sz, es)) (hi : s.ev i = some (.t (.leaf (.int .i64 y)))) (h0 : 0 ≤ y)
    (he : es[y.toNat]? = some e) (hT : elemOf? P T = some (E, sz, by_)) : AOp P C n o s (s.putO o.dst (.eptr e)) :=
  AOp.index (k := y.toNat) ho hd hx hp (by rw [hi, Int.toNat_of_nonneg h0]) he hT
end
end Go.Proofs.Ytoifjkggpanceaa

namespace Go.Proofs.Ytoifjkggpanceaa
set_option linter.unusedSimpArgs false
set_option linter.unusedVariables false
open Go.RowKit Go.WalkArith Go.IntWalk Go.WideShapes

theorem ev_newBox {st : Sto} {m : Lay} {w w' : World} {x : PBox} {b : Nat} (hx : Ext w w') (hb : w.heap.size ≤ b) : Ev st m w (st.addBox x) ⟨upd m.ρ st.boxes.length b, m.γ⟩ w' := by
  refine ⟨hx.os, hx.tape, hx.output, hx.size, fun b hb _ _ => hx.block b hb, fun b o hb _ => heap_other_cell (hx.block b hb), fun c o hc h => ⟨fun k y hk => ?_, h.2⟩, fun k y hk => ⟨⟨y, ?_⟩, ?_⟩, fun k y hk => ?_, fun _ row h => ⟨row, h, rfl, Nat.le_refl _, fun _ => rfl, fun h => ⟨h, rfl⟩⟩, fun _ row _ c h h' => .inl ⟨row, c, h, h'⟩⟩
  · rcases addBox_live hk with ⟨h1, h2⟩ | ⟨rfl, rfl⟩
    · simp only [upd_ne (show k ≠ st.boxes.length by omega)]
      exact h.1 k y h2
    · simp only [upd_same]
      omega
  · show (st.boxes ++ [some x])[k]? = _
    rw [List.getElem?_append_left (get_lt hk)]; exact hk
  · exact upd_ne (by have := get_lt hk; omega)
  · rcases addBox_live hk with ⟨h1, h2⟩ | ⟨rfl, rfl⟩
    · exact .inl ⟨y, h2⟩
    · exact .inr (by simpa [upd_same] using hb)
theorem sto_newBox {av : Nat → Nat → Prop} {st : Sto} {m : Lay} {w w' : World} {x : PBox} {b : Nat} {vs : List Value} (h : StoOk av st m w) (hx : Ext w w') (hb : w.heap.size ≤ b) (ho : OB w' b x.ty ⟨vs⟩)
    (hc : RVL (okA av (st.addBox x) ⟨upd m.ρ st.boxes.length b, m.γ⟩) (st.addBox x) ⟨upd m.ρ st.boxes.length b, m.γ⟩ w' x.cells vs) : StoOk av (st.addBox x) ⟨upd m.ρ st.boxes.length b, m.γ⟩ w' := by
  have he : Ev st m w (st.addBox x) ⟨upd m.ρ st.boxes.length b, m.γ⟩ w' := ev_newBox hx hb
  have hw := fun k y (hk : st.boxes[k]? = some (some y)) => h.box_lt hk
  refine ⟨fun k y hk => ?_, fun k k' y y' hk hk' hne => ?_, fun r row hr => ?_, h.rinj, fun k y r row g c hk hr hg => ?_, fun b o hb => Nat.lt_of_lt_of_le (h.avlt b o hb) hx.size, h.avr⟩
  · rcases addBox_live hk with ⟨h1, h2⟩ | ⟨rfl, rfl⟩
    · obtain ⟨us, k1, k2⟩ := h.box k y h2
      simp only [upd_ne (show k ≠ st.boxes.length by omega)]
      exact ⟨us, k1.ext hx, RVL.mono he _ _ k2⟩
    · simp only [upd_same]
      exact ⟨vs, ho, hc⟩
  · rcases addBox_live hk with ⟨h1, h2⟩ | ⟨rfl, rfl⟩ <;> rcases addBox_live hk' with ⟨h1', h2'⟩ | ⟨rfl, rfl⟩
    · simp only [upd_ne (show k ≠ st.boxes.length by omega), upd_ne (show k' ≠ st.boxes.length by omega)]
      exact h.binj k k' y y' h2 h2' hne
    · simp only [upd_ne (show k ≠ st.boxes.length by omega), upd_same]
      have := hw k y h2
      omega
    · simp only [upd_ne (show k' ≠ st.boxes.length by omega), upd_same]
      have := hw k' y' h2'
      omega
    · exact absurd rfl hne
  · obtain ⟨k1, k2, k3⟩ := h.row r row hr
    refine ⟨k1, k2, ?_⟩
    rcases k3 with k3 | ⟨g, c, cur, q1, q2, q3, q4, q5, q6⟩
    · exact .inl k3
    · exact .inr ⟨g, c, cur, q1, q2.ext hx, q3, q4, q5, RV.mono he (.t _) _ q6⟩
  · rcases addBox_live hk with ⟨h1, h2⟩ | ⟨rfl, rfl⟩
    · simp only [upd_ne (show k ≠ st.boxes.length by omega)]
      exact h.br k y r row g c h2 hr hg
    · simp only [upd_same]
      have := h.row_lt hr hg
      omega

/-- The function is handed data, and returns a pointer to a box of its own making, of type T, that holds cs. -/
def ANew (P : Program) (f : FuncId) (args : List PV) (T : TypeId) (cs : List PV) : Prop := ACalls P f args ⟨[], []⟩ (fun r st' => ∃ k, r = .ptr k 0 ∧ st'.rows = [] ∧ (∀ i x, st'.boxes[i]? = some (some x) → i = k) ∧ st'.boxes[k]? = some (some ⟨T, cs⟩))

section
variable {P : Program} {C : Ctx} {n : Nat} {s : AS} {o : Oper}
theorem AOp.callNew {f : FuncId} {fn : Func} {xs : List Operand} {ts : Array TypeId} {ps qs cs : List PV} {T : TypeId} (ho : o.op = .call { callee := .value (.func f), args := ⟨xs⟩, argTypes := ts }) (hd : dstOk o.dst n = true) (hf : P.funcs[f]? = some fn) (hnm : (fn.name == "runtime.NumGoroutine") = false) (hb : fn.body.isNone = false)
    (hx : xs.map s.ev = ps.map some) (hle : LeL ps qs) (hfr : freeL qs = true) (hfr' : freeL cs = true) (hc : ANew P f qs T cs) : AOp P C n o s ((⟨s.env, s.st.addBox ⟨T, cs⟩⟩ : AS).putO o.dst (.ptr s.st.boxes.length 0)) := fun m a w h K Q hK => by
  have h2 := evL h hx
  have h1 : (execOp a.eval o).run P w = .ok (.enter f ⟨xs.map a.eval⟩) w := by
    have hcf := run_callFunc_body (P := P) hf hnm hb
    unfold execOp
    simp only [ho]
    simp [resolve, invoke, Deferred.ofValue, Act.eval, hcf]
  unfold Oper.wp
  rw [h1]
  have h3 := hc (shut C s m w) m w _ (StoOk.nil fun b o hb => hb.1) (freeL.rv (fun b o hb hk => ⟨fun hs => hs.2 hk, fun _ _ h => by simp at h, fun _ _ _ _ h => by simp at h⟩) _ _ hfr (LeL.rv hle h2))
  refine Calls.mono h3 fun e w' => ?_
  rintro ⟨r, st', m', v, rfl, ⟨k, rfl, hrows, honly, hbox⟩, h4, h5, h6⟩
  have hx : Ext w w' := ⟨h5.os, h5.tape, h5.output, h5.size, fun b hb => h5.blk b hb (fun _ _ h => by simp at h) (fun _ _ _ _ h => by simp at h)⟩
  have hfresh : w.heap.size ≤ m'.ρ k := by
    rcases h5.fresh k _ hbox with ⟨x, hx0⟩ | hf
    · simp at hx0
    · exact hf
  obtain ⟨vs, hob, hcs⟩ := h4.box k _ hbox
  have hk : ∀ b o, b < w'.heap.size → okA (shut C s m w) st' m' b o → okA C.av (s.st.addBox ⟨T, cs⟩) ⟨upd m.ρ s.st.boxes.length (m'.ρ k), m.γ⟩ b o := fun b o hb hk => by
    have hnew : m'.ρ k ≠ b := hk.2.1 k _ hbox
    have h0 : okA C.av s.st m b o := by
      rcases Nat.lt_or_ge b w.heap.size with hlt | hge
      · exact Classical.byContradiction fun hn => hk.1 ⟨hlt, hn⟩
      · exact okA_new h.sto hge o
    refine ⟨h0.1, fun i y hi => ?_, h0.2.2⟩
    rcases addBox_live hi with ⟨q1, q2⟩ | ⟨rfl, rfl⟩
    · simp only [upd_ne (show i ≠ s.st.boxes.length by omega)]
      exact h0.2.1 i y q2
    · simp only [upd_same]
      exact hnew
  have hE : Ev s.st m w (s.st.addBox ⟨T, cs⟩) ⟨upd m.ρ s.st.boxes.length (m'.ρ k), m.γ⟩ w' := ev_newBox hx hfresh
  have hS : StoOk C.av (s.st.addBox ⟨T, cs⟩) ⟨upd m.ρ s.st.boxes.length (m'.ρ k), m.γ⟩ w' := sto_newBox h.sto hx hfresh hob (freeL.rv hk _ _ hfr' hcs)
  have hv : v = .pointer (some ⟨m'.ρ k, 0, none⟩) := h6.2
  exact hK _ _ w' ((h.step hE hS).put (dstOk_lt hd) ⟨⟨⟨T, cs⟩, by simp [Sto.addBox]⟩, by simp [upd_same, hv]⟩)
end
end Go.Proofs.Ytoifjkggpanceaa

namespace Go.Proofs.Ytoifjkggpanceaa
set_option linter.unusedSimpArgs false
set_option linter.unusedVariables false
open Go.RowKit Go.WalkArith Go.IntWalk Go.WideShapes

def iAnd (x y : Int) : Int := IntKind.wrap .i64 ((BitVec.ofInt 64 x &&& BitVec.ofInt 64 y).toNat : Int)
def iXor (x y : Int) : Int := IntKind.wrap .i64 ((BitVec.ofInt 64 x ^^^ BitVec.ofInt 64 y).toNat : Int)
def iShr (x y : Int) : Int := x.fdiv (2 ^ (min y.toNat 64))
def wrap64 (x : Int) : Int := IntKind.wrap .i64 x

section
variable {P : Program} {C : Ctx} {n : Nat} {s : AS} {o : Oper}
/-- A constant of which nothing is said. -/
theorem AOp.moveAny {v : Value} (ho : o.op = .assign (.const v) ∨ o.op = .move (.const v)) : AOp P C n o s (s.delO o.dst) := fun m a w h K Q hK => by
  have h1 : (execOp a.eval o).run P w = .ok (.value v) w := by
    unfold execOp
    rcases ho with ho | ho <;> simp [ho, Act.eval]
  unfold Oper.wp
  rw [h1]
  exact hK m _ w (h.del o.dst v)
theorem AOp.andI {T yT : TypeId} {x y : Operand} {a b : Int} (ho : o.op = .binOp .and T x y yT) (hd : dstOk o.dst n = true) (hx : s.ev x = some (.t (.leaf (.int .i64 a)))) (hy : s.ev y = some (.t (.leaf (.int .i64 b)))) :
    AOp P C n o s (s.putO o.dst (.t (.leaf (.int .i64 (iAnd a b))))) := AOp.bin ho hd hx hy (fun w => by rfl) (wf_wrap .i64 _)
theorem AOp.xorI {T yT : TypeId} {x y : Operand} {a b : Int} (ho : o.op = .binOp .xor T x y yT) (hd : dstOk o.dst n = true) (hx : s.ev x = some (.t (.leaf (.int .i64 a)))) (hy : s.ev y = some (.t (.leaf (.int .i64 b)))) :
    AOp P C n o s (s.putO o.dst (.t (.leaf (.int .i64 (iXor a b))))) := AOp.bin ho hd hx hy (fun w => by rfl) (wf_wrap .i64 _)
theorem AOp.shrI {T yT : TypeId} {x y : Operand} {a b : Int} {k : IntKind} (ho : o.op = .binOp .shr T x y yT) (hd : dstOk o.dst n = true) (hx : s.ev x = some (.t (.leaf (.int .i64 a)))) (hy : s.ev y = some (.t (.leaf (.int k b)))) (hb : 0 ≤ b) (h1 : -9223372036854775808 ≤ iShr a b) (h2 : iShr a b ≤ 9223372036854775807) :
    AOp P C n o s (s.putO o.dst (.t (.leaf (.int .i64 (iShr a b))))) := AOp.bin ho hd hx hy (fun w => by
      have : ¬ b < 0 := by omega
      simp [eqGuard, binOp, Op.shift, iShr, IntKind.bits, this]) (wf_i64 (by omega))
theorem AOp.remN {T yT : TypeId} {x y : Operand} {a b : Nat} (ho : o.op = .binOp .rem T x y yT) (hd : dstOk o.dst n = true) (hx : s.ev x = some (.t (.leaf (.int .i64 (a : Int))))) (hy : s.ev y = some (.t (.leaf (.int .i64 (b : Int))))) (hb : 0 < b) (ha : a ≤ 9223372036854775807) :
    AOp P C n o s (s.putO o.dst (.t (.leaf (.int .i64 ((a % b : Nat) : Int))))) := AOp.bin ho hd hx hy (fun w => by
      have : ¬ (b : Int) = 0 := by omega
      have : ¬ b = 0 := by omega
      simp [eqGuard, binOp, Op.intDiv, this, Int.tmod_eq_emod_of_nonneg]) (wf_i64 (by have := Nat.mod_le a b; omega))
theorem AOp.convI {S T : TypeId} {x : Operand} {k : IntKind} {a : Int} (ho : o.op = .convert S T x) (hd : dstOk o.dst n = true) (hx : s.ev x = some (.t (.leaf (.int k a)))) (hS : ∃ k', P.underlying S = some (.int k')) (hT : P.underlying T = some (.int .i64)) (h1 : -9223372036854775808 ≤ a) (h2 : a ≤ 9223372036854775807) :
    AOp P C n o s (s.putO o.dst (.t (.leaf (.int .i64 a)))) :=
  AOp.quiet (dstOk_lt hd) fun m ac w h => ⟨.int .i64 a, by
    have h3 := (RepM.leaf_eq (h.eval hx)).1
    obtain ⟨k', hS⟩ := hS
    have hw : IntKind.wrap .i64 a = a := by unfold IntKind.wrap; simp [IntKind.bits, IntKind.signed]; omega
    unfold execOp
    simp [ho, h3, convert, run_underlying hS, run_underlying hT, Conv.intToInt, hw], RepM.leaf (wf_i64 (by omega))⟩
end
end Go.Proofs.Ytoifjkggpanceaa

namespace Go.Proofs.Ytoifjkggpanceaa
set_option linter.unusedSimpArgs false
set_option linter.unusedVariables false
open Go.RowKit Go.WalkArith Go.IntWalk Go.WideShapes

theorem RVL.set {ok : Nat → Nat → Prop} {st : Sto} {m : Lay} {w : World} {q : PV} : ∀ {ps : List PV} {vs : List Value} {j : Nat}, RVL ok st m w ps vs → (∀ v, vs[j]? = some v → RV ok st m w q v) → RVL ok st m w (ps.set j q) vs
  | [], [], j, _, _ => by simp [RVL]
  | p :: ps, v :: vs, 0, h, k => ⟨k v rfl, h.2⟩
  | p :: ps, v :: vs, j + 1, h, k => ⟨h.1, RVL.set h.2 fun u hu => k u (by simpa using hu)⟩
  | [], _ :: _, _, h, _ => h.elim
  | _ :: _, [], _, h, _ => h.elim
section
variable {P : Program} {C : Ctx} {n : Nat} {s : AS}
theorem Wk.regBox {k j : Nat} {bx : PBox} (E sz : Nat) (hsz : 0 < sz) (hb : s.st.boxes[k]? = some (some bx)) (hj : bx.cells[j]? = some .nil) :
    Wk C n s ⟨s.env, (s.st.addRow ⟨E, sz, [], false⟩).setBox k ⟨bx.ty, bx.cells.set j (.acc sz [] s.st.rows.length)⟩⟩ := fun m a w h => by
  have hE := ev_addRow (row := ⟨E, sz, [], false⟩) h.sto
  have hS := sto_addRow (row := ⟨E, sz, [], false⟩) h.sto hsz rfl
  have h1 := h.step hE hS
  have hb1 : (s.st.addRow ⟨E, sz, [], false⟩).boxes[k]? = some (some bx) := hb
  obtain ⟨vs, hob, hcs⟩ := hS.box k bx hb1
  have hc : RVL (okA C.av (s.st.addRow ⟨E, sz, [], false⟩) ⟨m.ρ, upd m.γ s.st.rows.length none⟩) (s.st.addRow ⟨E, sz, [], false⟩) ⟨m.ρ, upd m.γ s.st.rows.length none⟩ w (bx.cells.set j (.acc sz [] s.st.rows.length)) vs := by
    refine RVL.set hcs fun v hv => ?_
    obtain ⟨u, hu, hr⟩ := hcs.get hj
    rw [hv] at hu
    cases hu
    obtain rfl := (show v = _ from hr)
    exact ⟨⟨E, sz, [], false⟩, by show (s.st.rows ++ [_])[s.st.rows.length]? = _; simp, rfl, Nat.le_refl _, RepM.nilRow _ _ _ _ (by unfold maxLen; omega), fun _ => by simp [upd_same, rowVal]⟩
  exact ⟨_, h1.step (ev_setBox hS hb1 rfl rfl rfl rfl fun _ _ => rfl) (sto_setBox hS hb1 rfl rfl rfl rfl (fun _ _ => rfl) hob hc)⟩
end
end Go.Proofs.Ytoifjkggpanceaa

namespace Go.Proofs.Ytoifjkggpanceaa
open Go.RowKit Go.WalkArith Go.IntWalk Go.WideShapes
section
variable {P : Program} {C : Ctx} {n : Nat} {s : AS} {o : Oper}
theorem run_eqB {T : TypeId} (hT : P.underlying T = some .bool) (a b : Bool) (w : World) : (Op.equalIn Op.maxDepth T (.bool a) (.bool b)).run P w = .ok (a == b) w := by
  unfold Op.maxDepth Op.equalIn
  simp [run_underlying hT]
theorem AOp.eqlB {T yT : TypeId} {x y : Operand} {a b : Bool} (ho : o.op = .binOp .eql T x y yT) (hd : dstOk o.dst n = true) (hx : s.ev x = some (.t (.leaf (.bool a)))) (hy : s.ev y = some (.t (.leaf (.bool b)))) (hT : P.underlying T = some .bool) :
    AOp P C n o s (s.putO o.dst (.t (.leaf (.bool (decide (a = b)))))) := AOp.bin ho hd hx hy (fun w => by
      simp [eqGuard, binOp, Op.equal, run_eqB hT]
      cases a <;> cases b <;> rfl) trivial
theorem AOp.neqB {T yT : TypeId} {x y : Operand} {a b : Bool} (ho : o.op = .binOp .neq T x y yT) (hd : dstOk o.dst n = true) (hx : s.ev x = some (.t (.leaf (.bool a)))) (hy : s.ev y = some (.t (.leaf (.bool b)))) (hT : P.underlying T = some .bool) :
    AOp P C n o s (s.putO o.dst (.t (.leaf (.bool (!decide (a = b)))))) := AOp.bin ho hd hx hy (fun w => by
      simp [eqGuard, binOp, Op.equal, run_eqB hT]
      cases a <;> cases b <;> rfl) trivial
end
end Go.Proofs.Ytoifjkggpanceaa

namespace Go.Proofs.Ytoifjkggpanceaa
set_option linter.unusedSimpArgs false
set_option linter.unusedVariables false
open Go.RowKit Go.WalkArith Go.IntWalk Go.WideShapes

/-- What a round of a loop says: on with s, out with s, or out of more than the loop. -/
inductive LR (σ β : Type) where
  | next (s : σ)
  | brk (s : σ)
  | ret (x : β)

def sw {α : Type} (b : Bool) (x y : α) : α := match b with
  | true => x
  | false => y
theorem swT {α : Type} {b : Bool} {x y z : α} (h : b = true) (k : x = z) : sw b x y = z := by rw [h]; exact k
theorem swF {α : Type} {b : Bool} {x y z : α} (h : b = false) (k : y = z) : sw b x y = z := by rw [h]; exact k
noncomputable def gd {α : Type} (p : Prop) (x : Option α) : Option α := @ite _ p (Classical.propDecidable p) x none
theorem gdT {α : Type} {p : Prop} {x z : Option α} (h : p) (k : x = z) : gd p x = z := by unfold gd; rw [if_pos h]; exact k
theorem gdF {α : Type} {p : Prop} {x : Option α} (h : ¬ p) : gd p x = none := by unfold gd; rw [if_neg h]
def bd {α β : Type} (m : Option α) (f : α → Option β) : Option β := match m with
  | none => none
  | some a => f a
theorem bdS {α β : Type} {m : Option α} {f : α → Option β} {a : α} {z : Option β} (h : m = some a) (k : f a = z) : bd m f = z := by rw [h]; exact k
theorem bdN {α β : Type} {m : Option α} {f : α → Option β} (h : m = none) : bd m f = none := by rw [h]; rfl
def so {σ β : Type} (m : Option (β ⊕ σ)) (f : σ → Option β) : Option β := match m with
  | none => none
  | some (.inl x) => some x
  | some (.inr s) => f s
theorem soR {σ β : Type} {m : Option (β ⊕ σ)} {f : σ → Option β} {s : σ} {z : Option β} (h : m = some (.inr s)) (k : f s = z) : so m f = z := by rw [h]; exact k
theorem soL {σ β : Type} {m : Option (β ⊕ σ)} {f : σ → Option β} {x : β} (h : m = some (.inl x)) : so m f = some x := by rw [h]; rfl
theorem soN {σ β : Type} {m : Option (β ⊕ σ)} {f : σ → Option β} (h : m = none) : so m f = none := by rw [h]; rfl

def loopN {σ β : Type} (f : Nat → σ → Option (LR σ β)) : Nat → Nat → σ → Option (β ⊕ σ)
  | 0, _, s => some (.inr s)
  | k + 1, i, s => match f i s with
    | none => none
    | some (.next s') => loopN f k (i + 1) s'
    | some (.brk s') => some (.inr s')
    | some (.ret x) => some (.inl x)
def loopW {σ β : Type} (f : σ → Option (LR σ β)) : Nat → σ → Option (β ⊕ σ)
  | 0, _ => none
  | k + 1, s => match f s with
    | none => none
    | some (.next s') => loopW f k s'
    | some (.brk s') => some (.inr s')
    | some (.ret x) => some (.inl x)
section
variable {σ β : Type} {f : Nat → σ → Option (LR σ β)} {n i : Nat} {s s' : σ} {x : β} {R : Option (β ⊕ σ)}
theorem loopN_next (h : i < n) (hJ : R = loopN f (n - i) i s) (e : f i s = some (.next s')) : R = loopN f (n - (i + 1)) (i + 1) s' := by
  rw [hJ, show n - i = (n - (i + 1)) + 1 by omega, loopN, e]
theorem loopN_brk (h : i < n) (hJ : R = loopN f (n - i) i s) (e : f i s = some (.brk s')) : R = some (.inr s') := by
  rw [hJ, show n - i = (n - (i + 1)) + 1 by omega, loopN, e]
theorem loopN_ret (h : i < n) (hJ : R = loopN f (n - i) i s) (e : f i s = some (.ret x)) : R = some (.inl x) := by
  rw [hJ, show n - i = (n - (i + 1)) + 1 by omega, loopN, e]
theorem loopN_non (h : i < n) (hJ : R = loopN f (n - i) i s) (e : f i s = none) : R = none := by
  rw [hJ, show n - i = (n - (i + 1)) + 1 by omega, loopN, e]
theorem loopN_end (h : n ≤ i) (hJ : R = loopN f (n - i) i s) : R = some (.inr s) := by
  rw [hJ, show n - i = 0 by omega, loopN]
end
section
variable {σ β : Type} {f : σ → Option (LR σ β)} {k : Nat} {s s' : σ} {x : β} {R : Option (β ⊕ σ)}
theorem loopW_next (hJ : R = loopW f (k + 1) s) (e : f s = some (.next s')) : R = loopW f k s' := by rw [hJ, loopW, e]
theorem loopW_brk (hJ : R = loopW f (k + 1) s) (e : f s = some (.brk s')) : R = some (.inr s') := by rw [hJ, loopW, e]
theorem loopW_ret (hJ : R = loopW f (k + 1) s) (e : f s = some (.ret x)) : R = some (.inl x) := by rw [hJ, loopW, e]
theorem loopW_non (hJ : R = loopW f (k + 1) s) (e : f s = none) : R = none := by rw [hJ, loopW, e]
theorem loopW_zero (hJ : R = loopW f 0 s) : R = none := by rw [hJ, loopW]
end
theorem none_some {α : Type} {m : Option α} {x : α} {F : Prop} (h : m = some x) (e : m = none) : F := by rw [e] at h; cases h

/-! ### Ways that meet again -/
section
variable {P : Program} {C : Ctx} {n : Nat} {s : AS} {Q : Exit → AS → Prop}
def QC (C : Ctx) (n : Nat) (Q : Exit → AS → Prop) : Prop := ∀ e s s', Wk C n s s' → Q e s' → Q e s
def NC (C : Ctx) (n : Nat) (N : AS → Prop) : Prop := ∀ s s', Wk C n s s' → N s' → N s
def roundA {ι : Type} (C : Ctx) (n : Nat) (J : ι → Prop) (I : ι → AS) (μ : ι → Nat) (i : ι) : AS → Prop := fun s' => ∃ j, J j ∧ Wk C n s' (I j) ∧ μ j < μ i
def cutA {ι : Type} (C : Ctx) (n : Nat) (J : ι → Prop) (I : ι → AS) (Q : Exit → AS → Prop) : Exit → AS → Prop
  | .normal, s => ∃ i, J i ∧ Wk C n s (I i)
  | e, s => Q e s
theorem ncAWP {c : Code} : NC C n (AWP P C n c Q) := fun _ _ h k => AWP.weak h k
theorem ncRound {ι : Type} {J : ι → Prop} {I : ι → AS} {μ : ι → Nat} {i : ι} : NC C n (roundA C n J I μ i) := fun _ _ h => by
  rintro ⟨j, h1, h2, h3⟩
  exact ⟨j, h1, h.trans h2, h3⟩
theorem ncEx {ι : Type} {J : ι → Prop} {I : ι → AS} : NC C n (fun s => ∃ i, J i ∧ Wk C n s (I i)) := fun _ _ h => by
  rintro ⟨j, h1, h2⟩
  exact ⟨j, h1, h.trans h2⟩
theorem qcThen {N : AS → Prop} (hn : NC C n N) (hq : QC C n Q) : QC C n (thenA N Q) := fun e s s' h k => by
  cases e with
  | normal => exact hn s s' h k
  | _ => exact hq _ s s' h k
theorem qcBlock {id : Nat} (hq : QC C n Q) : QC C n (inBlockA id Q) := fun e s s' h k => by
  cases e with
  | exit i =>
    simp only [inBlockA] at k ⊢
    split
    · rename_i hi; rw [if_pos hi] at k; exact hq _ s s' h k
    · rename_i hi; rw [if_neg hi] at k; exact hq _ s s' h k
  | _ => exact hq _ s s' h k
theorem qcCut {ι : Type} {J : ι → Prop} {I : ι → AS} (hq : QC C n Q) : QC C n (cutA C n J I Q) := fun e s s' h k => by
  cases e with
  | normal =>
    obtain ⟨j, h1, h2⟩ := k
    exact ⟨j, h1, h.trans h2⟩
  | _ => exact hq _ s s' h k
theorem qcEnds {fn : Func} {R : PV → Sto → Prop} : QC C n (Ends P C n fn R) := fun e s s' h k => ⟨k.1, fun m a w hr => by
  obtain ⟨m', h'⟩ := h m a w hr
  exact k.2 m' a w h'⟩
theorem AWP.cut {c : Code} {ι : Type} (J : ι → Prop) (I : ι → AS) (hq : QC C n Q) (h : AWP P C n c (cutA C n J I Q) s) (k : ∀ i, J i → Q .normal (I i)) : AWP P C n c Q s :=
  AWP.mono h fun e s' hc => by
    cases e with
    | normal =>
      obtain ⟨i, hj, hw⟩ := hc
      exact hq _ _ _ hw (k i hj)
    | _ => exact hc
theorem AWP.loopR {c : Code} {ι : Type} (J : ι → Prop) (I : ι → AS) (μ : ι → Nat) (i0 : ι) (hj : J i0) (h0 : Wk C n s (I i0)) (round : ∀ i, J i → AWP P C n c (thenA (roundA C n J I μ i) Q) (I i)) : AWP P C n (.loop c) Q s :=
  AWP.loopJ J I μ i0 hj h0 fun i hi => AWP.mono (round i hi) fun e s' h => by cases e <;> exact h
end
end Go.Proofs.Ytoifjkggpanceaa

namespace Go.Proofs.Ytoifjkggpanceaa
open Go.RowKit Go.Proofs

theorem sh3 : shapeOf Try.prog 3 = some (false, 1) := by kernel_rfl
theorem sz3 : (Try.prog.info? 3).map (·.size) = some 1 := by kernel_rfl
theorem zr3 : zerosOf Try.prog 3 = some [.t (.leaf (.int .i64 0))] := by kernel_rfl
theorem sh4 : shapeOf Try.prog 4 = some (false, 1) := by kernel_rfl
theorem sz4 : (Try.prog.info? 4).map (·.size) = some 1 := by kernel_rfl
theorem zr4 : zerosOf Try.prog 4 = some [.t (.leaf (.bool false))] := by kernel_rfl
theorem sh5 : shapeOf Try.prog 5 = some (false, 1) := by kernel_rfl
theorem sz5 : (Try.prog.info? 5).map (·.size) = some 1 := by kernel_rfl
theorem zr5 : zerosOf Try.prog 5 = some [.t (.leaf (.int .u8 0))] := by kernel_rfl
theorem sh9 : shapeOf Try.prog 9 = some (false, 1) := by kernel_rfl
theorem sz9 : (Try.prog.info? 9).map (·.size) = some 1 := by kernel_rfl
theorem zr9 : zerosOf Try.prog 9 = some [.t (.leaf (.string ⟨#[]⟩))] := by kernel_rfl
theorem sh22 : shapeOf Try.prog 22 = some (false, 1) := by kernel_rfl
theorem sz22 : (Try.prog.info? 22).map (·.size) = some 1 := by kernel_rfl
theorem el22 : elemOf? Try.prog 22 = some (24, 3, 48) := by kernel_rfl
theorem ze22 : (Try.prog.info? 24).bind (fun i => i.zero.map (fun z => z.cells.size)) = some 3 := by kernel_rfl
theorem zr22 : zerosOf Try.prog 22 = some [.nil] := by kernel_rfl
theorem sh24 : shapeOf Try.prog 24 = some (true, 3) := by kernel_rfl
theorem sz24 : (Try.prog.info? 24).map (·.size) = some 3 := by kernel_rfl
theorem zr24 : zerosOf Try.prog 24 = some [.t (.leaf (.int .i64 0)), .t (.leaf (.string ⟨#[]⟩)), .nil] := by kernel_rfl
theorem sh26 : shapeOf Try.prog 26 = some (true, 4) := by kernel_rfl
theorem sz26 : (Try.prog.info? 26).map (·.size) = some 4 := by kernel_rfl
theorem zr26 : zerosOf Try.prog 26 = some [.t (.leaf (.string ⟨#[]⟩)), .t (.leaf (.int .i64 0)), .t (.leaf (.string ⟨#[]⟩)), .nil] := by kernel_rfl
theorem sh30 : shapeOf Try.prog 30 = some (false, 1) := by kernel_rfl
theorem sz30 : (Try.prog.info? 30).map (·.size) = some 1 := by kernel_rfl
theorem el30 : elemOf? Try.prog 30 = some (32, 3, 48) := by kernel_rfl
theorem ze30 : (Try.prog.info? 32).bind (fun i => i.zero.map (fun z => z.cells.size)) = some 3 := by kernel_rfl
theorem zr30 : zerosOf Try.prog 30 = some [.nil] := by kernel_rfl
theorem sh32 : shapeOf Try.prog 32 = some (true, 3) := by kernel_rfl
theorem sz32 : (Try.prog.info? 32).map (·.size) = some 3 := by kernel_rfl
theorem zr32 : zerosOf Try.prog 32 = some [.t (.leaf (.int .i64 0)), .t (.leaf (.string ⟨#[]⟩)), .nil] := by kernel_rfl
theorem pl32 : placesOf Try.prog 32 = some [(0, 1), (1, 1), (2, 1)] := by kernel_rfl
theorem sh34 : shapeOf Try.prog 34 = some (true, 4) := by kernel_rfl
theorem sz34 : (Try.prog.info? 34).map (·.size) = some 4 := by kernel_rfl
theorem zr34 : zerosOf Try.prog 34 = some [.t (.leaf (.string ⟨#[]⟩)), .t (.leaf (.int .i64 0)), .t (.leaf (.string ⟨#[]⟩)), .nil] := by kernel_rfl
theorem pl34 : placesOf Try.prog 34 = some [(0, 1), (1, 3)] := by kernel_rfl
theorem sh38 : shapeOf Try.prog 38 = some (false, 1) := by kernel_rfl
theorem sz38 : (Try.prog.info? 38).map (·.size) = some 1 := by kernel_rfl
theorem sh41 : shapeOf Try.prog 41 = some (true, 2) := by kernel_rfl
theorem sz41 : (Try.prog.info? 41).map (·.size) = some 2 := by kernel_rfl
theorem zr41 : zerosOf Try.prog 41 = some [.t (.leaf (.int .i64 0)), .t (.leaf (.int .i64 0))] := by kernel_rfl
theorem sh42 : shapeOf Try.prog 42 = some (false, 1) := by kernel_rfl
theorem sz42 : (Try.prog.info? 42).map (·.size) = some 1 := by kernel_rfl
theorem el42 : elemOf? Try.prog 42 = some (44, 5, 56) := by kernel_rfl
theorem ze42 : (Try.prog.info? 44).bind (fun i => i.zero.map (fun z => z.cells.size)) = some 5 := by kernel_rfl
theorem zr42 : zerosOf Try.prog 42 = some [.nil] := by kernel_rfl
theorem sh44 : shapeOf Try.prog 44 = some (true, 5) := by kernel_rfl
theorem sz44 : (Try.prog.info? 44).map (·.size) = some 5 := by kernel_rfl
theorem zr44 : zerosOf Try.prog 44 = some [.t (.leaf (.int .i64 0)), .t (.leaf (.int .i64 0)), .t (.leaf (.int .i64 0)), .t (.leaf (.int .i64 0)), .nil] := by kernel_rfl
theorem sh45 : shapeOf Try.prog 45 = some (false, 1) := by kernel_rfl
theorem sz45 : (Try.prog.info? 45).map (·.size) = some 1 := by kernel_rfl
theorem el45 : elemOf? Try.prog 45 = some (3, 1, 8) := by kernel_rfl
theorem ze45 : (Try.prog.info? 3).bind (fun i => i.zero.map (fun z => z.cells.size)) = some 1 := by kernel_rfl
theorem zr45 : zerosOf Try.prog 45 = some [.nil] := by kernel_rfl
theorem sh47 : shapeOf Try.prog 47 = some (true, 2) := by kernel_rfl
theorem sz47 : (Try.prog.info? 47).map (·.size) = some 2 := by kernel_rfl
theorem zr47 : zerosOf Try.prog 47 = some [.t (.leaf (.int .i64 0)), .t (.leaf (.int .i64 0))] := by kernel_rfl
theorem sh48 : shapeOf Try.prog 48 = some (false, 1) := by kernel_rfl
theorem sz48 : (Try.prog.info? 48).map (·.size) = some 1 := by kernel_rfl
theorem el48 : elemOf? Try.prog 48 = some (50, 5, 56) := by kernel_rfl
theorem ze48 : (Try.prog.info? 50).bind (fun i => i.zero.map (fun z => z.cells.size)) = some 5 := by kernel_rfl
theorem zr48 : zerosOf Try.prog 48 = some [.nil] := by kernel_rfl
theorem sh50 : shapeOf Try.prog 50 = some (true, 5) := by kernel_rfl
theorem sz50 : (Try.prog.info? 50).map (·.size) = some 5 := by kernel_rfl
theorem zr50 : zerosOf Try.prog 50 = some [.t (.leaf (.int .i64 0)), .t (.leaf (.int .i64 0)), .t (.leaf (.int .i64 0)), .t (.leaf (.int .i64 0)), .nil] := by kernel_rfl
theorem pl50 : placesOf Try.prog 50 = some [(0, 1), (1, 1), (2, 2), (4, 1)] := by kernel_rfl
theorem sh59 : shapeOf Try.prog 59 = some (false, 1) := by kernel_rfl
theorem sz59 : (Try.prog.info? 59).map (·.size) = some 1 := by kernel_rfl
theorem el59 : elemOf? Try.prog 59 = some (5, 1, 1) := by kernel_rfl
theorem ze59 : (Try.prog.info? 5).bind (fun i => i.zero.map (fun z => z.cells.size)) = some 1 := by kernel_rfl
theorem zr59 : zerosOf Try.prog 59 = some [.nil] := by kernel_rfl
theorem sh61 : shapeOf Try.prog 61 = some (false, 1) := by kernel_rfl
theorem sz61 : (Try.prog.info? 61).map (·.size) = some 1 := by kernel_rfl
theorem el61 : elemOf? Try.prog 61 = some (151, 6, 136) := by kernel_rfl
theorem ze61 : (Try.prog.info? 151).bind (fun i => i.zero.map (fun z => z.cells.size)) = some 6 := by kernel_rfl
theorem zr61 : zerosOf Try.prog 61 = some [.nil] := by kernel_rfl
theorem sh63 : shapeOf Try.prog 63 = some (true, 1) := by kernel_rfl
theorem sz63 : (Try.prog.info? 63).map (·.size) = some 1 := by kernel_rfl
theorem zr63 : zerosOf Try.prog 63 = some [.nil] := by kernel_rfl
theorem pl63 : placesOf Try.prog 63 = some [(0, 1)] := by kernel_rfl
theorem sh66 : shapeOf Try.prog 66 = some (false, 1) := by kernel_rfl
theorem sz66 : (Try.prog.info? 66).map (·.size) = some 1 := by kernel_rfl
theorem el66 : elemOf? Try.prog 66 = some (9, 1, 16) := by kernel_rfl
theorem ze66 : (Try.prog.info? 9).bind (fun i => i.zero.map (fun z => z.cells.size)) = some 1 := by kernel_rfl
theorem zr66 : zerosOf Try.prog 66 = some [.nil] := by kernel_rfl
theorem sh73 : shapeOf Try.prog 73 = some (false, 1) := by kernel_rfl
theorem sz73 : (Try.prog.info? 73).map (·.size) = some 1 := by kernel_rfl
theorem el73 : elemOf? Try.prog 73 = some (214, 16, 264) := by kernel_rfl
theorem ze73 : (Try.prog.info? 214).bind (fun i => i.zero.map (fun z => z.cells.size)) = some 16 := by kernel_rfl
theorem zr73 : zerosOf Try.prog 73 = some [.nil] := by kernel_rfl
theorem sh75 : shapeOf Try.prog 75 = some (true, 5) := by kernel_rfl
theorem sz75 : (Try.prog.info? 75).map (·.size) = some 5 := by kernel_rfl
theorem zr75 : zerosOf Try.prog 75 = some [.t (.leaf (.string ⟨#[]⟩)), .nil, .t (.leaf (.bool false)), .t (.leaf (.bool false)), .nil] := by kernel_rfl
theorem pl75 : placesOf Try.prog 75 = some [(0, 1), (1, 1), (2, 1), (3, 1), (4, 1)] := by kernel_rfl
theorem sh79 : shapeOf Try.prog 79 = some (false, 1) := by kernel_rfl
theorem sz79 : (Try.prog.info? 79).map (·.size) = some 1 := by kernel_rfl
theorem el79 : elemOf? Try.prog 79 = some (157, 6, 96) := by kernel_rfl
theorem ze79 : (Try.prog.info? 157).bind (fun i => i.zero.map (fun z => z.cells.size)) = some 6 := by kernel_rfl
theorem zr79 : zerosOf Try.prog 79 = some [.nil] := by kernel_rfl
theorem sh82 : shapeOf Try.prog 82 = some (false, 1) := by kernel_rfl
theorem sz82 : (Try.prog.info? 82).map (·.size) = some 1 := by kernel_rfl
theorem el82 : elemOf? Try.prog 82 = some (159, 6, 96) := by kernel_rfl
theorem ze82 : (Try.prog.info? 159).bind (fun i => i.zero.map (fun z => z.cells.size)) = some 6 := by kernel_rfl
theorem zr82 : zerosOf Try.prog 82 = some [.nil] := by kernel_rfl
theorem sh86 : shapeOf Try.prog 86 = some (false, 1) := by kernel_rfl
theorem sz86 : (Try.prog.info? 86).map (·.size) = some 1 := by kernel_rfl
theorem el86 : elemOf? Try.prog 86 = some (34, 4, 64) := by kernel_rfl
theorem ze86 : (Try.prog.info? 34).bind (fun i => i.zero.map (fun z => z.cells.size)) = some 4 := by kernel_rfl
theorem zr86 : zerosOf Try.prog 86 = some [.nil] := by kernel_rfl
theorem sh92 : shapeOf Try.prog 92 = some (false, 1) := by kernel_rfl
theorem sz92 : (Try.prog.info? 92).map (·.size) = some 1 := by kernel_rfl
theorem el92 : elemOf? Try.prog 92 = some (219, 11, 184) := by kernel_rfl
theorem ze92 : (Try.prog.info? 219).bind (fun i => i.zero.map (fun z => z.cells.size)) = some 11 := by kernel_rfl
theorem zr92 : zerosOf Try.prog 92 = some [.nil] := by kernel_rfl
theorem sh94 : shapeOf Try.prog 94 = some (true, 12) := by kernel_rfl
theorem sz94 : (Try.prog.info? 94).map (·.size) = some 12 := by kernel_rfl
theorem zr94 : zerosOf Try.prog 94 = some [.t (.leaf (.string ⟨#[]⟩)), .nil, .t (.leaf (.int .i64 0)), .t (.leaf (.string ⟨#[]⟩)), .nil, .nil, .t (.leaf (.bool false)), .t (.leaf (.bool false)), .t (.leaf (.int .i64 0)), .t (.leaf (.string ⟨#[]⟩)), .nil, .nil] := by kernel_rfl
theorem pl94 : placesOf Try.prog 94 = some [(0, 1), (1, 1), (2, 3), (5, 1), (6, 1), (7, 1), (8, 3), (11, 1)] := by kernel_rfl
theorem sh97 : shapeOf Try.prog 97 = some (false, 1) := by kernel_rfl
theorem sz97 : (Try.prog.info? 97).map (·.size) = some 1 := by kernel_rfl
theorem sh98 : shapeOf Try.prog 98 = some (false, 1) := by kernel_rfl
theorem sz98 : (Try.prog.info? 98).map (·.size) = some 1 := by kernel_rfl
theorem el98 : elemOf? Try.prog 98 = some (26, 4, 64) := by kernel_rfl
theorem ze98 : (Try.prog.info? 26).bind (fun i => i.zero.map (fun z => z.cells.size)) = some 4 := by kernel_rfl
theorem zr98 : zerosOf Try.prog 98 = some [.nil] := by kernel_rfl
theorem sh100 : shapeOf Try.prog 100 = some (true, 3) := by kernel_rfl
theorem sz100 : (Try.prog.info? 100).map (·.size) = some 3 := by kernel_rfl
theorem zr100 : zerosOf Try.prog 100 = some [.nil, .nil, .nil] := by kernel_rfl
theorem sh104 : shapeOf Try.prog 104 = some (true, 3) := by kernel_rfl
theorem sz104 : (Try.prog.info? 104).map (·.size) = some 3 := by kernel_rfl
theorem zr104 : zerosOf Try.prog 104 = some [.nil, .nil, .nil] := by kernel_rfl
theorem sh108 : shapeOf Try.prog 108 = some (false, 1) := by kernel_rfl
theorem sz108 : (Try.prog.info? 108).map (·.size) = some 1 := by kernel_rfl
theorem el108 : elemOf? Try.prog 108 = some (226, 4, 64) := by kernel_rfl
theorem ze108 : (Try.prog.info? 226).bind (fun i => i.zero.map (fun z => z.cells.size)) = some 4 := by kernel_rfl
theorem zr108 : zerosOf Try.prog 108 = some [.nil] := by kernel_rfl
theorem sh116 : shapeOf Try.prog 116 = some (false, 1) := by kernel_rfl
theorem sz116 : (Try.prog.info? 116).map (·.size) = some 1 := by kernel_rfl
theorem el116 : elemOf? Try.prog 116 = some (240, 11, 184) := by kernel_rfl
theorem ze116 : (Try.prog.info? 240).bind (fun i => i.zero.map (fun z => z.cells.size)) = some 11 := by kernel_rfl
theorem zr116 : zerosOf Try.prog 116 = some [.nil] := by kernel_rfl
theorem sh118 : shapeOf Try.prog 118 = some (true, 12) := by kernel_rfl
theorem sz118 : (Try.prog.info? 118).map (·.size) = some 12 := by kernel_rfl
theorem zr118 : zerosOf Try.prog 118 = some [.t (.leaf (.string ⟨#[]⟩)), .nil, .t (.leaf (.int .i64 0)), .t (.leaf (.string ⟨#[]⟩)), .nil, .nil, .t (.leaf (.bool false)), .t (.leaf (.bool false)), .t (.leaf (.int .i64 0)), .t (.leaf (.string ⟨#[]⟩)), .nil, .nil] := by kernel_rfl
theorem sh139 : shapeOf Try.prog 139 = some (false, 1) := by kernel_rfl
theorem sz139 : (Try.prog.info? 139).map (·.size) = some 1 := by kernel_rfl
theorem sh146 : shapeOf Try.prog 146 = some (false, 1) := by kernel_rfl
theorem sz146 : (Try.prog.info? 146).map (·.size) = some 1 := by kernel_rfl
theorem el146 : elemOf? Try.prog 146 = some (75, 5, 72) := by kernel_rfl
theorem ze146 : (Try.prog.info? 75).bind (fun i => i.zero.map (fun z => z.cells.size)) = some 5 := by kernel_rfl
theorem zr146 : zerosOf Try.prog 146 = some [.nil] := by kernel_rfl
theorem sh151 : shapeOf Try.prog 151 = some (true, 6) := by kernel_rfl
theorem sz151 : (Try.prog.info? 151).map (·.size) = some 6 := by kernel_rfl
theorem zr151 : zerosOf Try.prog 151 = some [.t (.leaf (.string ⟨#[]⟩)), .nil, .nil, .nil, .nil, .nil] := by kernel_rfl
theorem pl151 : placesOf Try.prog 151 = some [(0, 1), (1, 1), (2, 1), (3, 1), (4, 1), (5, 1)] := by kernel_rfl
theorem sh157 : shapeOf Try.prog 157 = some (true, 6) := by kernel_rfl
theorem sz157 : (Try.prog.info? 157).map (·.size) = some 6 := by kernel_rfl
theorem zr157 : zerosOf Try.prog 157 = some [.t (.leaf (.string ⟨#[]⟩)), .t (.leaf (.int .i64 0)), .t (.leaf (.string ⟨#[]⟩)), .nil, .t (.leaf (.int .i64 0)), .nil] := by kernel_rfl
theorem sh159 : shapeOf Try.prog 159 = some (true, 6) := by kernel_rfl
theorem sz159 : (Try.prog.info? 159).map (·.size) = some 6 := by kernel_rfl
theorem zr159 : zerosOf Try.prog 159 = some [.t (.leaf (.string ⟨#[]⟩)), .t (.leaf (.int .i64 0)), .t (.leaf (.string ⟨#[]⟩)), .nil, .t (.leaf (.int .i64 0)), .nil] := by kernel_rfl
theorem sh162 : shapeOf Try.prog 162 = some (false, 1) := by kernel_rfl
theorem sz162 : (Try.prog.info? 162).map (·.size) = some 1 := by kernel_rfl
theorem sh168 : shapeOf Try.prog 168 = some (false, 1) := by kernel_rfl
theorem sz168 : (Try.prog.info? 168).map (·.size) = some 1 := by kernel_rfl
theorem sh177 : shapeOf Try.prog 177 = some (false, 1) := by kernel_rfl
theorem sz177 : (Try.prog.info? 177).map (·.size) = some 1 := by kernel_rfl
theorem sh188 : shapeOf Try.prog 188 = some (false, 1) := by kernel_rfl
theorem sz188 : (Try.prog.info? 188).map (·.size) = some 1 := by kernel_rfl
theorem el188 : elemOf? Try.prog 188 = some (190, 2, 40) := by kernel_rfl
theorem ze188 : (Try.prog.info? 190).bind (fun i => i.zero.map (fun z => z.cells.size)) = some 2 := by kernel_rfl
theorem zr188 : zerosOf Try.prog 188 = some [.nil] := by kernel_rfl
theorem sh190 : shapeOf Try.prog 190 = some (true, 2) := by kernel_rfl
theorem sz190 : (Try.prog.info? 190).map (·.size) = some 2 := by kernel_rfl
theorem zr190 : zerosOf Try.prog 190 = some [.t (.leaf (.string ⟨#[]⟩)), .nil] := by kernel_rfl
theorem pl190 : placesOf Try.prog 190 = some [(0, 1), (1, 1)] := by kernel_rfl
theorem sh206 : shapeOf Try.prog 206 = some (true, 3) := by kernel_rfl
theorem sz206 : (Try.prog.info? 206).map (·.size) = some 3 := by kernel_rfl
theorem zr206 : zerosOf Try.prog 206 = some [.nil, .t (.leaf (.int .i64 0)), .t (.leaf (.int .i64 0))] := by kernel_rfl
theorem pl206 : placesOf Try.prog 206 = some [(0, 1), (1, 1), (2, 1)] := by kernel_rfl
theorem sh209 : shapeOf Try.prog 209 = some (false, 1) := by kernel_rfl
theorem sz209 : (Try.prog.info? 209).map (·.size) = some 1 := by kernel_rfl
theorem el209 : elemOf? Try.prog 209 = some (212, 9, 144) := by kernel_rfl
theorem ze209 : (Try.prog.info? 212).bind (fun i => i.zero.map (fun z => z.cells.size)) = some 9 := by kernel_rfl
theorem zr209 : zerosOf Try.prog 209 = some [.nil] := by kernel_rfl
theorem sh210 : shapeOf Try.prog 210 = some (false, 1) := by kernel_rfl
theorem sz210 : (Try.prog.info? 210).map (·.size) = some 1 := by kernel_rfl
theorem el210 : elemOf? Try.prog 210 = some (258, 11, 184) := by kernel_rfl
theorem ze210 : (Try.prog.info? 258).bind (fun i => i.zero.map (fun z => z.cells.size)) = some 11 := by kernel_rfl
theorem zr210 : zerosOf Try.prog 210 = some [.nil] := by kernel_rfl
theorem sh212 : shapeOf Try.prog 212 = some (true, 9) := by kernel_rfl
theorem sz212 : (Try.prog.info? 212).map (·.size) = some 9 := by kernel_rfl
theorem zr212 : zerosOf Try.prog 212 = some [.t (.leaf (.int .i64 0)), .t (.leaf (.string ⟨#[]⟩)), .t (.leaf (.string ⟨#[]⟩)), .t (.leaf (.int .i64 0)), .t (.leaf (.int .i64 0)), .t (.leaf (.string ⟨#[]⟩)), .nil, .nil, .nil] := by kernel_rfl
theorem pl212 : placesOf Try.prog 212 = some [(0, 1), (1, 1), (2, 1), (3, 1), (4, 3), (7, 1), (8, 1)] := by kernel_rfl
theorem sh214 : shapeOf Try.prog 214 = some (true, 16) := by kernel_rfl
theorem sz214 : (Try.prog.info? 214).map (·.size) = some 16 := by kernel_rfl
theorem zr214 : zerosOf Try.prog 214 = some [.t (.leaf (.string ⟨#[]⟩)), .nil, .t (.leaf (.int .i64 0)), .t (.leaf (.string ⟨#[]⟩)), .nil, .t (.leaf (.bool false)), .nil, .t (.leaf (.int .i64 0)), .t (.leaf (.string ⟨#[]⟩)), .t (.leaf (.string ⟨#[]⟩)), .t (.leaf (.int .i64 0)), .t (.leaf (.int .i64 0)), .t (.leaf (.string ⟨#[]⟩)), .nil, .nil, .nil] := by kernel_rfl
theorem sh219 : shapeOf Try.prog 219 = some (true, 11) := by kernel_rfl
theorem sz219 : (Try.prog.info? 219).map (·.size) = some 11 := by kernel_rfl
theorem zr219 : zerosOf Try.prog 219 = some [.t (.leaf (.string ⟨#[]⟩)), .nil, .t (.leaf (.int .i64 0)), .t (.leaf (.string ⟨#[]⟩)), .t (.leaf (.string ⟨#[]⟩)), .t (.leaf (.int .i64 0)), .t (.leaf (.int .i64 0)), .t (.leaf (.string ⟨#[]⟩)), .nil, .nil, .nil] := by kernel_rfl
theorem pl219 : placesOf Try.prog 219 = some [(0, 1), (1, 1), (2, 9)] := by kernel_rfl
theorem sh226 : shapeOf Try.prog 226 = some (true, 4) := by kernel_rfl
theorem sz226 : (Try.prog.info? 226).map (·.size) = some 4 := by kernel_rfl
theorem zr226 : zerosOf Try.prog 226 = some [.t (.leaf (.string ⟨#[]⟩)), .t (.leaf (.int .i64 0)), .t (.leaf (.string ⟨#[]⟩)), .nil] := by kernel_rfl
theorem pl226 : placesOf Try.prog 226 = some [(0, 1), (1, 3)] := by kernel_rfl
theorem sh227 : shapeOf Try.prog 227 = some (false, 1) := by kernel_rfl
theorem sz227 : (Try.prog.info? 227).map (·.size) = some 1 := by kernel_rfl
theorem sh228 : shapeOf Try.prog 228 = some (false, 1) := by kernel_rfl
theorem sz228 : (Try.prog.info? 228).map (·.size) = some 1 := by kernel_rfl
theorem sh230 : shapeOf Try.prog 230 = some (true, 2) := by kernel_rfl
theorem sz230 : (Try.prog.info? 230).map (·.size) = some 2 := by kernel_rfl
theorem pl230 : placesOf Try.prog 230 = some [(0, 1), (1, 1)] := by kernel_rfl
theorem sh235 : shapeOf Try.prog 235 = some (false, 1) := by kernel_rfl
theorem sz235 : (Try.prog.info? 235).map (·.size) = some 1 := by kernel_rfl
theorem el235 : elemOf? Try.prog 235 = some (238, 9, 144) := by kernel_rfl
theorem ze235 : (Try.prog.info? 238).bind (fun i => i.zero.map (fun z => z.cells.size)) = some 9 := by kernel_rfl
theorem zr235 : zerosOf Try.prog 235 = some [.nil] := by kernel_rfl
theorem sh236 : shapeOf Try.prog 236 = some (false, 1) := by kernel_rfl
theorem sz236 : (Try.prog.info? 236).map (·.size) = some 1 := by kernel_rfl
theorem el236 : elemOf? Try.prog 236 = some (290, 11, 184) := by kernel_rfl
theorem ze236 : (Try.prog.info? 290).bind (fun i => i.zero.map (fun z => z.cells.size)) = some 11 := by kernel_rfl
theorem zr236 : zerosOf Try.prog 236 = some [.nil] := by kernel_rfl
theorem sh238 : shapeOf Try.prog 238 = some (true, 9) := by kernel_rfl
theorem sz238 : (Try.prog.info? 238).map (·.size) = some 9 := by kernel_rfl
theorem zr238 : zerosOf Try.prog 238 = some [.t (.leaf (.int .i64 0)), .t (.leaf (.string ⟨#[]⟩)), .t (.leaf (.string ⟨#[]⟩)), .t (.leaf (.int .i64 0)), .t (.leaf (.int .i64 0)), .t (.leaf (.string ⟨#[]⟩)), .nil, .nil, .nil] := by kernel_rfl
theorem sh240 : shapeOf Try.prog 240 = some (true, 11) := by kernel_rfl
theorem sz240 : (Try.prog.info? 240).map (·.size) = some 11 := by kernel_rfl
theorem zr240 : zerosOf Try.prog 240 = some [.t (.leaf (.string ⟨#[]⟩)), .nil, .t (.leaf (.int .i64 0)), .t (.leaf (.string ⟨#[]⟩)), .t (.leaf (.string ⟨#[]⟩)), .t (.leaf (.int .i64 0)), .t (.leaf (.int .i64 0)), .t (.leaf (.string ⟨#[]⟩)), .nil, .nil, .nil] := by kernel_rfl
theorem sh243 : shapeOf Try.prog 243 = some (false, 1) := by kernel_rfl
theorem sz243 : (Try.prog.info? 243).map (·.size) = some 1 := by kernel_rfl
theorem sh245 : shapeOf Try.prog 245 = some (true, 5) := by kernel_rfl
theorem sz245 : (Try.prog.info? 245).map (·.size) = some 5 := by kernel_rfl
theorem zr245 : zerosOf Try.prog 245 = some [.t (.leaf (.string ⟨#[]⟩)), .t (.leaf (.int .i64 0)), .t (.leaf (.int .i64 0)), .t (.leaf (.int .i64 0)), .t (.leaf (.bool false))] := by kernel_rfl
theorem pl245 : placesOf Try.prog 245 = some [(0, 1), (1, 1), (2, 1), (3, 1), (4, 1)] := by kernel_rfl
theorem sh248 : shapeOf Try.prog 248 = some (false, 1) := by kernel_rfl
theorem sz248 : (Try.prog.info? 248).map (·.size) = some 1 := by kernel_rfl
theorem el248 : elemOf? Try.prog 248 = some (188, 1, 24) := by kernel_rfl
theorem ze248 : (Try.prog.info? 188).bind (fun i => i.zero.map (fun z => z.cells.size)) = some 1 := by kernel_rfl
theorem zr248 : zerosOf Try.prog 248 = some [.nil] := by kernel_rfl
theorem sh258 : shapeOf Try.prog 258 = some (true, 11) := by kernel_rfl
theorem sz258 : (Try.prog.info? 258).map (·.size) = some 11 := by kernel_rfl
theorem zr258 : zerosOf Try.prog 258 = some [.t (.leaf (.string ⟨#[]⟩)), .nil, .t (.leaf (.int .i64 0)), .t (.leaf (.string ⟨#[]⟩)), .t (.leaf (.string ⟨#[]⟩)), .t (.leaf (.int .i64 0)), .t (.leaf (.int .i64 0)), .t (.leaf (.string ⟨#[]⟩)), .nil, .nil, .nil] := by kernel_rfl
theorem pl258 : placesOf Try.prog 258 = some [(0, 1), (1, 1), (2, 9)] := by kernel_rfl
theorem sh266 : shapeOf Try.prog 266 = some (false, 1) := by kernel_rfl
theorem sz266 : (Try.prog.info? 266).map (·.size) = some 1 := by kernel_rfl
theorem sh286 : shapeOf Try.prog 286 = some (false, 1) := by kernel_rfl
theorem sz286 : (Try.prog.info? 286).map (·.size) = some 1 := by kernel_rfl
theorem sh290 : shapeOf Try.prog 290 = some (true, 11) := by kernel_rfl
theorem sz290 : (Try.prog.info? 290).map (·.size) = some 11 := by kernel_rfl
theorem zr290 : zerosOf Try.prog 290 = some [.t (.leaf (.string ⟨#[]⟩)), .nil, .t (.leaf (.int .i64 0)), .t (.leaf (.string ⟨#[]⟩)), .t (.leaf (.string ⟨#[]⟩)), .t (.leaf (.int .i64 0)), .t (.leaf (.int .i64 0)), .t (.leaf (.string ⟨#[]⟩)), .nil, .nil, .nil] := by kernel_rfl
theorem fo24_0 : fieldOff Try.prog 24 0 = some 0 := by kernel_rfl
theorem fo24_1 : fieldOff Try.prog 24 1 = some 1 := by kernel_rfl
theorem fo24_2 : fieldOff Try.prog 24 2 = some 2 := by kernel_rfl
theorem fo26_0 : fieldOff Try.prog 26 0 = some 0 := by kernel_rfl
theorem fo26_1 : fieldOff Try.prog 26 1 = some 1 := by kernel_rfl
theorem fo32_0 : fieldOff Try.prog 32 0 = some 0 := by kernel_rfl
theorem fo32_1 : fieldOff Try.prog 32 1 = some 1 := by kernel_rfl
theorem fo32_2 : fieldOff Try.prog 32 2 = some 2 := by kernel_rfl
theorem fo34_0 : fieldOff Try.prog 34 0 = some 0 := by kernel_rfl
theorem fo34_1 : fieldOff Try.prog 34 1 = some 1 := by kernel_rfl
theorem fo41_0 : fieldOff Try.prog 41 0 = some 0 := by kernel_rfl
theorem fo41_1 : fieldOff Try.prog 41 1 = some 1 := by kernel_rfl
theorem fo44_0 : fieldOff Try.prog 44 0 = some 0 := by kernel_rfl
theorem fo44_1 : fieldOff Try.prog 44 1 = some 1 := by kernel_rfl
theorem fo44_2 : fieldOff Try.prog 44 2 = some 2 := by kernel_rfl
theorem fo44_3 : fieldOff Try.prog 44 3 = some 4 := by kernel_rfl
theorem fo47_0 : fieldOff Try.prog 47 0 = some 0 := by kernel_rfl
theorem fo47_1 : fieldOff Try.prog 47 1 = some 1 := by kernel_rfl
theorem fo50_0 : fieldOff Try.prog 50 0 = some 0 := by kernel_rfl
theorem fo50_1 : fieldOff Try.prog 50 1 = some 1 := by kernel_rfl
theorem fo50_2 : fieldOff Try.prog 50 2 = some 2 := by kernel_rfl
theorem fo50_3 : fieldOff Try.prog 50 3 = some 4 := by kernel_rfl
theorem fo63_0 : fieldOff Try.prog 63 0 = some 0 := by kernel_rfl
theorem fo75_0 : fieldOff Try.prog 75 0 = some 0 := by kernel_rfl
theorem fo75_1 : fieldOff Try.prog 75 1 = some 1 := by kernel_rfl
theorem fo75_4 : fieldOff Try.prog 75 4 = some 4 := by kernel_rfl
theorem fo94_0 : fieldOff Try.prog 94 0 = some 0 := by kernel_rfl
theorem fo94_1 : fieldOff Try.prog 94 1 = some 1 := by kernel_rfl
theorem fo94_2 : fieldOff Try.prog 94 2 = some 2 := by kernel_rfl
theorem fo94_3 : fieldOff Try.prog 94 3 = some 5 := by kernel_rfl
theorem fo94_4 : fieldOff Try.prog 94 4 = some 6 := by kernel_rfl
theorem fo94_5 : fieldOff Try.prog 94 5 = some 7 := by kernel_rfl
theorem fo94_6 : fieldOff Try.prog 94 6 = some 8 := by kernel_rfl
theorem fo94_7 : fieldOff Try.prog 94 7 = some 11 := by kernel_rfl
theorem fo100_0 : fieldOff Try.prog 100 0 = some 0 := by kernel_rfl
theorem fo100_1 : fieldOff Try.prog 100 1 = some 1 := by kernel_rfl
theorem fo100_2 : fieldOff Try.prog 100 2 = some 2 := by kernel_rfl
theorem fo104_0 : fieldOff Try.prog 104 0 = some 0 := by kernel_rfl
theorem fo104_1 : fieldOff Try.prog 104 1 = some 1 := by kernel_rfl
theorem fo104_2 : fieldOff Try.prog 104 2 = some 2 := by kernel_rfl
theorem fo118_0 : fieldOff Try.prog 118 0 = some 0 := by kernel_rfl
theorem fo118_1 : fieldOff Try.prog 118 1 = some 1 := by kernel_rfl
theorem fo118_2 : fieldOff Try.prog 118 2 = some 2 := by kernel_rfl
theorem fo118_3 : fieldOff Try.prog 118 3 = some 5 := by kernel_rfl
theorem fo118_4 : fieldOff Try.prog 118 4 = some 6 := by kernel_rfl
theorem fo118_5 : fieldOff Try.prog 118 5 = some 7 := by kernel_rfl
theorem fo118_6 : fieldOff Try.prog 118 6 = some 8 := by kernel_rfl
theorem fo118_7 : fieldOff Try.prog 118 7 = some 11 := by kernel_rfl
theorem fo151_2 : fieldOff Try.prog 151 2 = some 2 := by kernel_rfl
theorem fo157_0 : fieldOff Try.prog 157 0 = some 0 := by kernel_rfl
theorem fo157_1 : fieldOff Try.prog 157 1 = some 4 := by kernel_rfl
theorem fo157_2 : fieldOff Try.prog 157 2 = some 5 := by kernel_rfl
theorem fo159_0 : fieldOff Try.prog 159 0 = some 0 := by kernel_rfl
theorem fo159_1 : fieldOff Try.prog 159 1 = some 4 := by kernel_rfl
theorem fo159_2 : fieldOff Try.prog 159 2 = some 5 := by kernel_rfl
theorem fo190_0 : fieldOff Try.prog 190 0 = some 0 := by kernel_rfl
theorem fo190_1 : fieldOff Try.prog 190 1 = some 1 := by kernel_rfl
theorem fo206_0 : fieldOff Try.prog 206 0 = some 0 := by kernel_rfl
theorem fo206_1 : fieldOff Try.prog 206 1 = some 1 := by kernel_rfl
theorem fo206_2 : fieldOff Try.prog 206 2 = some 2 := by kernel_rfl
theorem fo212_0 : fieldOff Try.prog 212 0 = some 0 := by kernel_rfl
theorem fo212_1 : fieldOff Try.prog 212 1 = some 1 := by kernel_rfl
theorem fo212_2 : fieldOff Try.prog 212 2 = some 2 := by kernel_rfl
theorem fo212_3 : fieldOff Try.prog 212 3 = some 3 := by kernel_rfl
theorem fo212_4 : fieldOff Try.prog 212 4 = some 4 := by kernel_rfl
theorem fo212_5 : fieldOff Try.prog 212 5 = some 7 := by kernel_rfl
theorem fo212_6 : fieldOff Try.prog 212 6 = some 8 := by kernel_rfl
theorem fo214_1 : fieldOff Try.prog 214 1 = some 1 := by kernel_rfl
theorem fo214_2 : fieldOff Try.prog 214 2 = some 2 := by kernel_rfl
theorem fo214_4 : fieldOff Try.prog 214 4 = some 6 := by kernel_rfl
theorem fo214_5 : fieldOff Try.prog 214 5 = some 7 := by kernel_rfl
theorem fo219_0 : fieldOff Try.prog 219 0 = some 0 := by kernel_rfl
theorem fo219_1 : fieldOff Try.prog 219 1 = some 1 := by kernel_rfl
theorem fo219_2 : fieldOff Try.prog 219 2 = some 2 := by kernel_rfl
theorem fo226_0 : fieldOff Try.prog 226 0 = some 0 := by kernel_rfl
theorem fo226_1 : fieldOff Try.prog 226 1 = some 1 := by kernel_rfl
theorem fo230_0 : fieldOff Try.prog 230 0 = some 0 := by kernel_rfl
theorem fo230_1 : fieldOff Try.prog 230 1 = some 1 := by kernel_rfl
theorem fo238_0 : fieldOff Try.prog 238 0 = some 0 := by kernel_rfl
theorem fo238_1 : fieldOff Try.prog 238 1 = some 1 := by kernel_rfl
theorem fo238_2 : fieldOff Try.prog 238 2 = some 2 := by kernel_rfl
theorem fo238_3 : fieldOff Try.prog 238 3 = some 3 := by kernel_rfl
theorem fo238_4 : fieldOff Try.prog 238 4 = some 4 := by kernel_rfl
theorem fo238_5 : fieldOff Try.prog 238 5 = some 7 := by kernel_rfl
theorem fo238_6 : fieldOff Try.prog 238 6 = some 8 := by kernel_rfl
theorem fo240_0 : fieldOff Try.prog 240 0 = some 0 := by kernel_rfl
theorem fo240_1 : fieldOff Try.prog 240 1 = some 1 := by kernel_rfl
theorem fo240_2 : fieldOff Try.prog 240 2 = some 2 := by kernel_rfl
theorem fo245_0 : fieldOff Try.prog 245 0 = some 0 := by kernel_rfl
theorem fo245_1 : fieldOff Try.prog 245 1 = some 1 := by kernel_rfl
theorem fo245_2 : fieldOff Try.prog 245 2 = some 2 := by kernel_rfl
theorem fo245_3 : fieldOff Try.prog 245 3 = some 3 := by kernel_rfl
theorem fo245_4 : fieldOff Try.prog 245 4 = some 4 := by kernel_rfl
theorem fo258_0 : fieldOff Try.prog 258 0 = some 0 := by kernel_rfl
theorem fo258_1 : fieldOff Try.prog 258 1 = some 1 := by kernel_rfl
theorem fo258_2 : fieldOff Try.prog 258 2 = some 2 := by kernel_rfl
theorem fo290_0 : fieldOff Try.prog 290 0 = some 0 := by kernel_rfl
theorem fo290_1 : fieldOff Try.prog 290 1 = some 1 := by kernel_rfl
theorem fo290_2 : fieldOff Try.prog 290 2 = some 2 := by kernel_rfl
theorem mixed : Try.prog.follows .mixedOrders = true := by kernel_rfl
end Go.Proofs.Ytoifjkggpanceaa

namespace Go.Proofs.Ytoifjkggpanceaa
open Go.RowKit Go.Proofs
set_option linter.unusedSimpArgs false
set_option linter.unusedVariables false


def byteTrs (l : List UInt8) : List (List Tr) := l.map fun b => [.leaf (.int .u8 (b.toNat : Int))]
theorem byteTrs_len (l : List UInt8) : (byteTrs l).length = l.length := by simp [byteTrs]
theorem byteTrs_cs {l : List UInt8} {k : Nat} (h : k < l.length) : (byteTrs l)[k]? = some [.leaf (.int .u8 ((l[k]).toNat : Int))] := by simp [byteTrs, h]
/-- The state of the source: the bytes, the place, the number. -/
structure DS where
  code : List UInt8
  p : Nat
  h : Int
def DS.cells (d : DS) : List PV := [.t (.row 1 (byteTrs d.code)), .t (.leaf (.int .i64 (d.p : Int))), .t (.leaf (.int .i64 d.h))]
abbrev DS.box (T : TypeId) (d : DS) : Sto := ⟨[some ⟨T, d.cells⟩], []⟩
def nextH (h : Int) : Int := wrap64 (wrap64 (h * 6364136223846793005) + 1442695040888963407)
theorem wrap64_in (x : Int) : -9223372036854775808 ≤ wrap64 x ∧ wrap64 x ≤ 9223372036854775807 := by
  unfold wrap64 IntKind.wrap
  simp [IntKind.bits, IntKind.signed]
  omega
theorem iShr_in {x y : Int} (h : -9223372036854775808 ≤ x ∧ x ≤ 9223372036854775807) : -9223372036854775808 ≤ iShr x y ∧ iShr x y ≤ 9223372036854775807 := by
  unfold iShr
  generalize min y.toNat 64 = k
  have hp : (1 : Int) ≤ 2 ^ k := by
    have := Nat.one_le_two_pow (n := k)
    exact_mod_cast this
  generalize (2 : Int) ^ k = d at hp
  rw [Int.fdiv_eq_ediv_of_nonneg _ (by omega)]
  have h1 : x / d ≤ 9223372036854775807 := by
    have : x / d ≤ 9223372036854775807 / d := Int.ediv_le_ediv (by omega) h.2
    have : (9223372036854775807 : Int) / d ≤ 9223372036854775807 := Int.ediv_le_self _ (by omega)
    omega
  have h2 : -9223372036854775808 ≤ x / d := by
    rw [Int.le_ediv_iff_mul_le (by omega)]
    omega
  exact ⟨h2, h1⟩
def DS.byte (d : DS) : Int := let x := iAnd (iXor (iShr (nextH d.h) 33) (iShr (nextH d.h) 45)) 255; if h : d.p < d.code.length then iAnd (wrap64 (x + (d.code[d.p].toNat : Int))) 255 else x
def DS.next (d : DS) : DS := ⟨d.code, if d.p < d.code.length then d.p + 1 else d.p, nextH d.h⟩
theorem iAnd_255 (x : Int) : 0 ≤ iAnd x 255 ∧ iAnd x 255 ≤ 255 := by
  unfold iAnd
  have h : (BitVec.ofInt 64 x &&& BitVec.ofInt 64 255).toNat ≤ 255 := by
    rw [BitVec.toNat_and]
    exact Nat.le_trans Nat.and_le_right (by decide)
  generalize (BitVec.ofInt 64 x &&& BitVec.ofInt 64 255).toNat = k at h
  unfold IntKind.wrap
  simp [IntKind.bits, IntKind.signed]
  omega
theorem DS.byte_in (d : DS) : 0 ≤ d.byte ∧ d.byte ≤ 255 := by
  unfold DS.byte
  split
  · exact iAnd_255 _
  · exact iAnd_255 _
def DS.byteN (d : DS) : Nat := d.byte.toNat
theorem DS.byteN_le (d : DS) : d.byteN ≤ 255 := by have := d.byte_in; unfold DS.byteN; omega
theorem DS.byteN_eq (d : DS) : ((d.byteN : Nat) : Int) = d.byte := by have := d.byte_in; unfold DS.byteN; omega
def DS.below (d : DS) (n : Nat) : Nat := if n = 0 then 0 else if n ≤ 256 then d.byteN % n else (d.byteN * 16777216 + d.next.byteN * 65536 + d.next.next.byteN * 256 + d.next.next.next.byteN) % n
def DS.after (d : DS) (n : Nat) : DS := if n = 0 then d else if n ≤ 256 then d.next else d.next.next.next.next
theorem DS.below_lt (d : DS) {n : Nat} (h : 0 < n) : d.below n < n := by
  unfold DS.below
  rw [if_neg (by omega)]
  split
  · exact Nat.mod_lt _ h
  · exact Nat.mod_lt _ h
def DS.pick (d : DS) (l : List ByteArray) : ByteArray := (l[d.below l.length]?).getD ⟨#[]⟩
theorem DS.pick_eq {d : DS} {l : List ByteArray} (h : d.below l.length < l.length) : d.pick l = l[d.below l.length] := by simp [DS.pick, h]
def newStep (h : Int) (b : UInt8) : Int := iAnd (wrap64 (wrap64 (wrap64 (h * 131) + (b.toNat : Int)) + 7)) 1073741823
def newH (code : List UInt8) : Int := (code.take 4000).foldl newStep (28803 + (code.length : Int))
def DS.start (code : List UInt8) : DS := ⟨code, 0, newH code⟩
theorem newH_next {code : List UInt8} {i : Nat} {h h' r : Int} (h1 : i < code.length) (h2 : i < 4000) (hr : r = ((code.take 4000).drop i).foldl newStep h) (hs : newStep h code[i] = h') : r = ((code.take 4000).drop (i + 1)).foldl newStep h' := by
  have hl : i < (code.take 4000).length := by simp; omega
  rw [hr, List.drop_eq_getElem_cons hl, List.foldl_cons, List.getElem_take, hs]
theorem newH_end {code : List UInt8} {i : Nat} {h r : Int} (h1 : code.length ≤ i ∨ 4000 ≤ i) (hr : r = ((code.take 4000).drop i).foldl newStep h) : r = h := by
  rw [hr, List.drop_of_length_le (by simp; omega), List.foldl_nil]
theorem keeps_box {C : Ctx} {x : PBox} {S : Sto} (h : C.st = ⟨[some x], []⟩) (hs : ∃ y, S.boxes[0]? = some (some y)) : Keeps0 C.st S := by
  rw [h]
  exact ⟨fun k z hz => by
    rcases k with _ | k
    · exact hs
    · simp at hz, fun r row hr => by simp at hr⟩

set_option maxRecDepth 100000 in
set_option maxHeartbeats 4000000 in
theorem byte_ok (d : DS) : ACalls Try.prog 203 [.ptr 0 0] (d.box 206) (fun r t => r = .t (.leaf (.int .i64 d.byte)) ∧ t = d.next.box 206) := by
  refine ACalls.intro Try.func203 rfl (by first | decide | (simp; done) | (simp; decide)) ?_
  intro C hC
  refine AWP.fact (box_lenN 0 0 rfl rfl rfl (byteTrs_len d.code)) (fun hl0 => ?_)
  refine AWP.seq ?_
  refine AWP.region_lit ?_
  refine AL.cons rfl (AOp.move (.inr rfl) rfl rfl) ?_
  refine AL.nil ?_
  refine AWP.seq ?_
  refine AWP.region_lit ?_
  refine AL.cons rfl (AOp.move (.inl rfl) rfl rfl) ?_
  refine AL.cons rfl (AOp.move (.inl rfl) rfl rfl) ?_
  refine AL.cons rfl (AOp.nilPtr rfl rfl rfl) ?_
  refine AL.cons rfl (AOp.fieldPtr (k := 0) (d := 0) (e := 2) rfl rfl rfl fo206_2) ?_
  refine AL.cons rfl (AOp.loadPtr1 rfl rfl rfl rfl sh3 rfl) ?_
  refine AL.cons rfl (AOp.mulW rfl rfl rfl rfl) ?_
  refine AL.cons rfl (AOp.addW rfl rfl rfl rfl) ?_
  refine AL.cons rfl (AOp.nilPtr rfl rfl rfl) ?_
  refine AL.cons rfl (AOp.fieldPtr (k := 0) (d := 0) (e := 2) rfl rfl rfl fo206_2) ?_
  refine AL.cons rfl (AOp.storePtr (cs := [.t (.leaf (.int .i64 (wrap64 ((wrap64 (d.h * 6364136223846793005)) + 1442695040888963407))))]) (ds := [.t (.row 1 (byteTrs (d.code))), .t (.leaf (.int .i64 (((d.p : Nat) : Int)))), .t (.leaf (.int .i64 (wrap64 ((wrap64 (d.h * 6364136223846793005)) + 1442695040888963407))))]) rfl rfl rfl rfl rfl rfl rfl sz3 (Nat.le_of_ble_eq_true rfl) rfl) ?_
  refine AL.nil ?_
  refine AWP.seq ?_
  refine AWP.drawnL ⟨_, _, fun _ _ => (⟨[some ⟨206, [.t (.row 1 (byteTrs (d.code))), .t (.leaf (.int .i64 (((d.p : Nat) : Int)))), .t (.leaf (.int .i64 (wrap64 ((wrap64 (d.h * 6364136223846793005)) + 1442695040888963407))))]⟩], []⟩ : Sto), fun q' => ([some (.ptr 0 0), some (.ptr 0 0), some (.ptr 0 2), some (.t (.leaf (.int .i64 (wrap64 ((wrap64 (d.h * 6364136223846793005)) + 1442695040888963407))))), some (.t (.leaf (.int .i64 (iShr (wrap64 ((wrap64 (d.h * 6364136223846793005)) + 1442695040888963407)) 33)))), some (.ptr 0 0), some (.ptr 0 0), some (.ptr 0 2), some (.t (.leaf (.int .i64 (wrap64 ((wrap64 (d.h * 6364136223846793005)) + 1442695040888963407))))), some (.t (.leaf (.int .i64 (iShr (wrap64 ((wrap64 (d.h * 6364136223846793005)) + 1442695040888963407)) 45)))), some (.t (.leaf (.int .i64 (iXor (iShr (wrap64 ((wrap64 (d.h * 6364136223846793005)) + 1442695040888963407)) 33) (iShr (wrap64 ((wrap64 (d.h * 6364136223846793005)) + 1442695040888963407)) 45))))), some (.t (.leaf (.int .i64 (iAnd (iXor (iShr (wrap64 ((wrap64 (d.h * 6364136223846793005)) + 1442695040888963407)) 33) (iShr (wrap64 ((wrap64 (d.h * 6364136223846793005)) + 1442695040888963407)) 45)) 255)))), some (.t (.leaf (.int .i64 (iAnd (iXor (iShr (wrap64 ((wrap64 (d.h * 6364136223846793005)) + 1442695040888963407)) 33) (iShr (wrap64 ((wrap64 (d.h * 6364136223846793005)) + 1442695040888963407)) 45)) 255))))] : List (Option PV)).getD q' none, fun q' => ([.q 0 0, .q 0 0, .q 0 0, .q 0 0, .q 0 0, .q 0 0, .q 0 0, .q 0 0, .q 0 0, .q 0 0, .q 0 0, .q 0 0, .q 0 0] : List DK).getD q' (.q 0 0), [], none, fun q' => ([[(0, none)], [(13, some 0)], [(14, some 1)], [(15, some 2)], [(16, some 3)], [(0, none)], [(18, some 5)], [(19, some 6)], [(20, some 7)], [(21, some 8)], [(17, some 4), (22, some 9)], [(23, some 10)], [(24, some 11)]] : List (List (Nat × Option Nat))).getD q' []⟩ rfl mixed (by kernel_rfl) rfl rfl ⟨?_, ?_, ?_, ?_, ?_, ?_, ?_, ?_, ?_, ?_, ?_, ?_, ?_, trivial⟩ rfl ?_
  · refine .inl ⟨rfl, fun s' jj bb (h1 : 0 ≤ jj) (h2 : jj ≤ 0) hs hl => ?_⟩
    obtain rfl : jj = 0 := by omega
    exact ⟨_, rfl, AOp.move (.inl rfl) rfl (hl 0 none _ (.head _) rfl)⟩
  · refine .inl ⟨rfl, fun s' jj bb (h1 : 0 ≤ jj) (h2 : jj ≤ 0) hs hl => ?_⟩
    obtain rfl : jj = 0 := by omega
    exact ⟨_, rfl, AOp.nilPtr rfl rfl (hl 13 (some 0) _ (.head _) rfl)⟩
  · refine .inl ⟨rfl, fun s' jj bb (h1 : 0 ≤ jj) (h2 : jj ≤ 0) hs hl => ?_⟩
    obtain rfl : jj = 0 := by omega
    exact ⟨_, rfl, AOp.fieldPtr (k := 0) (d := 0) (e := 2) rfl rfl (hl 14 (some 1) _ (.head _) rfl) fo206_2⟩
  · refine .inl ⟨rfl, fun s' jj bb (h1 : 0 ≤ jj) (h2 : jj ≤ 0) hs hl => ?_⟩
    obtain rfl : jj = 0 := by omega
    exact ⟨_, rfl, AOp.loadPtr1 rfl rfl (hl 15 (some 2) _ (.head _) rfl) (by rw [hs]; rfl) sh3 rfl⟩
  · refine .inl ⟨rfl, fun s' jj bb (h1 : 0 ≤ jj) (h2 : jj ≤ 0) hs hl => ?_⟩
    obtain rfl : jj = 0 := by omega
    exact ⟨_, rfl, AOp.shrI (a := wrap64 ((wrap64 (d.h * 6364136223846793005)) + 1442695040888963407)) (b := 33) rfl rfl (hl 16 (some 3) _ (.head _) rfl) rfl (by decide) (iShr_in (wrap64_in _)).1 (iShr_in (wrap64_in _)).2⟩
  · refine .inl ⟨rfl, fun s' jj bb (h1 : 0 ≤ jj) (h2 : jj ≤ 0) hs hl => ?_⟩
    obtain rfl : jj = 0 := by omega
    exact ⟨_, rfl, AOp.move (.inl rfl) rfl (hl 0 none _ (.head _) rfl)⟩
  · refine .inl ⟨rfl, fun s' jj bb (h1 : 0 ≤ jj) (h2 : jj ≤ 0) hs hl => ?_⟩
    obtain rfl : jj = 0 := by omega
    exact ⟨_, rfl, AOp.nilPtr rfl rfl (hl 18 (some 5) _ (.head _) rfl)⟩
  · refine .inl ⟨rfl, fun s' jj bb (h1 : 0 ≤ jj) (h2 : jj ≤ 0) hs hl => ?_⟩
    obtain rfl : jj = 0 := by omega
    exact ⟨_, rfl, AOp.fieldPtr (k := 0) (d := 0) (e := 2) rfl rfl (hl 19 (some 6) _ (.head _) rfl) fo206_2⟩
  · refine .inl ⟨rfl, fun s' jj bb (h1 : 0 ≤ jj) (h2 : jj ≤ 0) hs hl => ?_⟩
    obtain rfl : jj = 0 := by omega
    exact ⟨_, rfl, AOp.loadPtr1 rfl rfl (hl 20 (some 7) _ (.head _) rfl) (by rw [hs]; rfl) sh3 rfl⟩
  · refine .inl ⟨rfl, fun s' jj bb (h1 : 0 ≤ jj) (h2 : jj ≤ 0) hs hl => ?_⟩
    obtain rfl : jj = 0 := by omega
    exact ⟨_, rfl, AOp.shrI (a := wrap64 ((wrap64 (d.h * 6364136223846793005)) + 1442695040888963407)) (b := 45) rfl rfl (hl 21 (some 8) _ (.head _) rfl) rfl (by decide) (iShr_in (wrap64_in _)).1 (iShr_in (wrap64_in _)).2⟩
  · refine .inl ⟨rfl, fun s' jj bb (h1 : 0 ≤ jj) (h2 : jj ≤ 0) hs hl => ?_⟩
    obtain rfl : jj = 0 := by omega
    exact ⟨_, rfl, AOp.xorI rfl rfl (hl 17 (some 4) _ (.head _) rfl) (hl 22 (some 9) _ (.tail _ (.head _)) rfl)⟩
  · refine .inl ⟨rfl, fun s' jj bb (h1 : 0 ≤ jj) (h2 : jj ≤ 0) hs hl => ?_⟩
    obtain rfl : jj = 0 := by omega
    exact ⟨_, rfl, AOp.andI rfl rfl (hl 23 (some 10) _ (.head _) rfl) rfl⟩
  · refine .inl ⟨rfl, fun s' jj bb (h1 : 0 ≤ jj) (h2 : jj ≤ 0) hs hl => ?_⟩
    obtain rfl : jj = 0 := by omega
    exact ⟨_, rfl, AOp.move (.inr rfl) rfl (hl 24 (some 11) _ (.head _) rfl)⟩
  refine AWP.seq ?_
  refine AWP.seq ?_
  refine AWP.drawnL ⟨_, _, fun _ _ => (⟨[some ⟨206, [.t (.row 1 (byteTrs (d.code))), .t (.leaf (.int .i64 (((d.p : Nat) : Int)))), .t (.leaf (.int .i64 (wrap64 ((wrap64 (d.h * 6364136223846793005)) + 1442695040888963407))))]⟩], []⟩ : Sto), fun q' => ([some (.ptr 0 0), some (.ptr 0 0), some (.ptr 0 1), some (.t (.leaf (.int .i64 (((d.p : Nat) : Int))))), some (.ptr 0 0), some (.ptr 0 0), some (.ptr 0 0), some (.t (.row 1 (byteTrs (d.code)))), some (.t (.leaf (.int .i64 (((d.code.length : Nat) : Int))))), some (.t (.leaf (.bool (decide ((((d.p : Nat) : Int) : Int) < ((d.code.length : Nat) : Int))))))] : List (Option PV)).getD q' none, fun q' => ([.q 0 0, .q 0 0, .q 0 0, .q 0 0, .q 0 0, .q 0 0, .q 0 0, .q 0 0, .q 0 0, .q 0 0] : List DK).getD q' (.q 0 0), [], none, fun q' => ([[(0, none)], [(25, some 0)], [(26, some 1)], [(27, some 2)], [(0, none)], [(29, some 4)], [(30, some 5)], [(31, some 6)], [(32, some 7)], [(28, some 3), (33, some 8)]] : List (List (Nat × Option Nat))).getD q' []⟩ rfl mixed (by kernel_rfl) rfl rfl ⟨?_, ?_, ?_, ?_, ?_, ?_, ?_, ?_, ?_, ?_, trivial⟩ rfl ?_
  · refine .inl ⟨rfl, fun s' jj bb (h1 : 0 ≤ jj) (h2 : jj ≤ 0) hs hl => ?_⟩
    obtain rfl : jj = 0 := by omega
    exact ⟨_, rfl, AOp.move (.inl rfl) rfl (hl 0 none _ (.head _) rfl)⟩
  · refine .inl ⟨rfl, fun s' jj bb (h1 : 0 ≤ jj) (h2 : jj ≤ 0) hs hl => ?_⟩
    obtain rfl : jj = 0 := by omega
    exact ⟨_, rfl, AOp.nilPtr rfl rfl (hl 25 (some 0) _ (.head _) rfl)⟩
  · refine .inl ⟨rfl, fun s' jj bb (h1 : 0 ≤ jj) (h2 : jj ≤ 0) hs hl => ?_⟩
    obtain rfl : jj = 0 := by omega
    exact ⟨_, rfl, AOp.fieldPtr (k := 0) (d := 0) (e := 1) rfl rfl (hl 26 (some 1) _ (.head _) rfl) fo206_1⟩
  · refine .inl ⟨rfl, fun s' jj bb (h1 : 0 ≤ jj) (h2 : jj ≤ 0) hs hl => ?_⟩
    obtain rfl : jj = 0 := by omega
    exact ⟨_, rfl, AOp.loadPtr1 rfl rfl (hl 27 (some 2) _ (.head _) rfl) (by rw [hs]; rfl) sh3 rfl⟩
  · refine .inl ⟨rfl, fun s' jj bb (h1 : 0 ≤ jj) (h2 : jj ≤ 0) hs hl => ?_⟩
    obtain rfl : jj = 0 := by omega
    exact ⟨_, rfl, AOp.move (.inl rfl) rfl (hl 0 none _ (.head _) rfl)⟩
  · refine .inl ⟨rfl, fun s' jj bb (h1 : 0 ≤ jj) (h2 : jj ≤ 0) hs hl => ?_⟩
    obtain rfl : jj = 0 := by omega
    exact ⟨_, rfl, AOp.nilPtr rfl rfl (hl 29 (some 4) _ (.head _) rfl)⟩
  · refine .inl ⟨rfl, fun s' jj bb (h1 : 0 ≤ jj) (h2 : jj ≤ 0) hs hl => ?_⟩
    obtain rfl : jj = 0 := by omega
    exact ⟨_, rfl, AOp.fieldPtr (k := 0) (d := 0) (e := 0) rfl rfl (hl 30 (some 5) _ (.head _) rfl) fo206_0⟩
  · refine .inl ⟨rfl, fun s' jj bb (h1 : 0 ≤ jj) (h2 : jj ≤ 0) hs hl => ?_⟩
    obtain rfl : jj = 0 := by omega
    exact ⟨_, rfl, AOp.loadPtr1 rfl rfl (hl 31 (some 6) _ (.head _) rfl) (by rw [hs]; rfl) sh59 rfl⟩
  · refine .inl ⟨rfl, fun s' jj bb (h1 : 0 ≤ jj) (h2 : jj ≤ 0) hs hl => ?_⟩
    obtain rfl : jj = 0 := by omega
    exact ⟨_, rfl, AOp.lenN rfl rfl (hl 32 (some 7) _ (.head _) rfl) rfl el59 (byteTrs_len _)⟩
  · refine .inl ⟨rfl, fun s' jj bb (h1 : 0 ≤ jj) (h2 : jj ≤ 0) hs hl => ?_⟩
    obtain rfl : jj = 0 := by omega
    exact ⟨_, rfl, AOp.lss rfl rfl (hl 28 (some 3) _ (.head _) rfl) (hl 33 (some 8) _ (.tail _ (.head _)) rfl)⟩
  refine AWP.cond rfl (fun h1 => ?_) (fun h1 => ?_)
  · skip
    have h1b := h1
    try simp only [Bool.and_eq_true, Bool.or_eq_true, Bool.and_eq_false_iff, Bool.or_eq_false_iff, decide_eq_true_eq, decide_eq_false_iff_not, Bool.not_eq_true', Bool.not_eq_false', Bool.not_eq_eq_eq_not, Bool.not_true, Bool.not_false, ge_iff_le, gt_iff_lt, Int.not_lt, Int.not_le] at h1b
    have h1n : d.p < d.code.length := by omega
    refine AWP.seq ?_
    refine AWP.drawnL ⟨_, _, fun _ _ => (⟨[some ⟨206, [.t (.row 1 (byteTrs (d.code))), .t (.leaf (.int .i64 (((d.p : Nat) : Int)))), .t (.leaf (.int .i64 (wrap64 ((wrap64 (d.h * 6364136223846793005)) + 1442695040888963407))))]⟩], []⟩ : Sto), fun q' => ([some (.t (.leaf (.int .i64 (iAnd (iXor (iShr (wrap64 ((wrap64 (d.h * 6364136223846793005)) + 1442695040888963407)) 33) (iShr (wrap64 ((wrap64 (d.h * 6364136223846793005)) + 1442695040888963407)) 45)) 255)))), some (.ptr 0 0), some (.ptr 0 0), some (.ptr 0 0), some (.t (.row 1 (byteTrs (d.code)))), some (.ptr 0 0), some (.ptr 0 0), some (.ptr 0 1), some (.t (.leaf (.int .i64 (((d.p : Nat) : Int))))), some (.eptr ([.leaf (.int .u8 ((d.code[d.p]).toNat : Int))])), some (.t (.leaf (.int .u8 (((d.code[d.p]).toNat : Int))))), some (.t (.leaf (.int .i64 (((d.code[d.p]).toNat : Int))))), some (.t (.leaf (.int .i64 (wrap64 ((iAnd (iXor (iShr (wrap64 ((wrap64 (d.h * 6364136223846793005)) + 1442695040888963407)) 33) (iShr (wrap64 ((wrap64 (d.h * 6364136223846793005)) + 1442695040888963407)) 45)) 255) + ((d.code[d.p]).toNat : Int)))))), some (.t (.leaf (.int .i64 (iAnd (wrap64 ((iAnd (iXor (iShr (wrap64 ((wrap64 (d.h * 6364136223846793005)) + 1442695040888963407)) 33) (iShr (wrap64 ((wrap64 (d.h * 6364136223846793005)) + 1442695040888963407)) 45)) 255) + ((d.code[d.p]).toNat : Int))) 255)))), some (.t (.leaf (.int .i64 (iAnd (wrap64 ((iAnd (iXor (iShr (wrap64 ((wrap64 (d.h * 6364136223846793005)) + 1442695040888963407)) 33) (iShr (wrap64 ((wrap64 (d.h * 6364136223846793005)) + 1442695040888963407)) 45)) 255) + ((d.code[d.p]).toNat : Int))) 255))))] : List (Option PV)).getD q' none, fun q' => ([.q 0 0, .q 0 0, .q 0 0, .q 0 0, .q 0 0, .q 0 0, .q 0 0, .q 0 0, .q 0 0, .q 0 0, .q 0 0, .q 0 0, .q 0 0, .q 0 0, .q 0 0] : List DK).getD q' (.q 0 0), [], none, fun q' => ([[(3, none)], [(0, none)], [(36, some 1)], [(37, some 2)], [(38, some 3)], [(0, none)], [(40, some 5)], [(41, some 6)], [(42, some 7)], [(39, some 4), (43, some 8)], [(44, some 9)], [(45, some 10)], [(35, some 0), (46, some 11)], [(47, some 12)], [(48, some 13)]] : List (List (Nat × Option Nat))).getD q' []⟩ rfl mixed (by kernel_rfl) rfl rfl ⟨?_, ?_, ?_, ?_, ?_, ?_, ?_, ?_, ?_, ?_, ?_, ?_, ?_, ?_, ?_, trivial⟩ rfl ?_
    · refine .inl ⟨rfl, fun s' jj bb (h1 : 0 ≤ jj) (h2 : jj ≤ 0) hs hl => ?_⟩
      obtain rfl : jj = 0 := by omega
      exact ⟨_, rfl, AOp.move (.inl rfl) rfl (hl 3 none _ (.head _) rfl)⟩
    · refine .inl ⟨rfl, fun s' jj bb (h1 : 0 ≤ jj) (h2 : jj ≤ 0) hs hl => ?_⟩
      obtain rfl : jj = 0 := by omega
      exact ⟨_, rfl, AOp.move (.inl rfl) rfl (hl 0 none _ (.head _) rfl)⟩
    · refine .inl ⟨rfl, fun s' jj bb (h1 : 0 ≤ jj) (h2 : jj ≤ 0) hs hl => ?_⟩
      obtain rfl : jj = 0 := by omega
      exact ⟨_, rfl, AOp.nilPtr rfl rfl (hl 36 (some 1) _ (.head _) rfl)⟩
    · refine .inl ⟨rfl, fun s' jj bb (h1 : 0 ≤ jj) (h2 : jj ≤ 0) hs hl => ?_⟩
      obtain rfl : jj = 0 := by omega
      exact ⟨_, rfl, AOp.fieldPtr (k := 0) (d := 0) (e := 0) rfl rfl (hl 37 (some 2) _ (.head _) rfl) fo206_0⟩
    · refine .inl ⟨rfl, fun s' jj bb (h1 : 0 ≤ jj) (h2 : jj ≤ 0) hs hl => ?_⟩
      obtain rfl : jj = 0 := by omega
      exact ⟨_, rfl, AOp.loadPtr1 rfl rfl (hl 38 (some 3) _ (.head _) rfl) (by rw [hs]; rfl) sh59 rfl⟩
    · refine .inl ⟨rfl, fun s' jj bb (h1 : 0 ≤ jj) (h2 : jj ≤ 0) hs hl => ?_⟩
      obtain rfl : jj = 0 := by omega
      exact ⟨_, rfl, AOp.move (.inl rfl) rfl (hl 0 none _ (.head _) rfl)⟩
    · refine .inl ⟨rfl, fun s' jj bb (h1 : 0 ≤ jj) (h2 : jj ≤ 0) hs hl => ?_⟩
      obtain rfl : jj = 0 := by omega
      exact ⟨_, rfl, AOp.nilPtr rfl rfl (hl 40 (some 5) _ (.head _) rfl)⟩
    · refine .inl ⟨rfl, fun s' jj bb (h1 : 0 ≤ jj) (h2 : jj ≤ 0) hs hl => ?_⟩
      obtain rfl : jj = 0 := by omega
      exact ⟨_, rfl, AOp.fieldPtr (k := 0) (d := 0) (e := 1) rfl rfl (hl 41 (some 6) _ (.head _) rfl) fo206_1⟩
    · refine .inl ⟨rfl, fun s' jj bb (h1 : 0 ≤ jj) (h2 : jj ≤ 0) hs hl => ?_⟩
      obtain rfl : jj = 0 := by omega
      exact ⟨_, rfl, AOp.loadPtr1 rfl rfl (hl 42 (some 7) _ (.head _) rfl) (by rw [hs]; rfl) sh3 rfl⟩
    · refine .inl ⟨rfl, fun s' jj bb (h1 : 0 ≤ jj) (h2 : jj ≤ 0) hs hl => ?_⟩
      obtain rfl : jj = 0 := by omega
      exact ⟨_, rfl, AOp.index (k := d.p) rfl rfl (hl 39 (some 4) _ (.head _) rfl) rfl (hl 43 (some 8) _ (.tail _ (.head _)) rfl) (byteTrs_cs h1n) el59⟩
    · refine .inl ⟨rfl, fun s' jj bb (h1 : 0 ≤ jj) (h2 : jj ≤ 0) hs hl => ?_⟩
      obtain rfl : jj = 0 := by omega
      exact ⟨_, rfl, AOp.loadEptr1 (d := .leaf (.int .u8 (((d.code[d.p]).toNat : Int)))) rfl rfl (hl 44 (some 9) _ (.head _) rfl) sh5 rfl⟩
    · refine .inl ⟨rfl, fun s' jj bb (h1 : 0 ≤ jj) (h2 : jj ≤ 0) hs hl => ?_⟩
      obtain rfl : jj = 0 := by omega
      exact ⟨_, rfl, AOp.convI rfl rfl (hl 45 (some 10) _ (.head _) rfl) ⟨_, Try.underlying5⟩ Try.underlying3 (by first | omega | (have := UInt8.toNat_lt (d.code[d.p]); omega)) (by first | omega | (have := UInt8.toNat_lt (d.code[d.p]); omega))⟩
    · refine .inl ⟨rfl, fun s' jj bb (h1 : 0 ≤ jj) (h2 : jj ≤ 0) hs hl => ?_⟩
      obtain rfl : jj = 0 := by omega
      exact ⟨_, rfl, AOp.addW rfl rfl (hl 35 (some 0) _ (.head _) rfl) (hl 46 (some 11) _ (.tail _ (.head _)) rfl)⟩
    · refine .inl ⟨rfl, fun s' jj bb (h1 : 0 ≤ jj) (h2 : jj ≤ 0) hs hl => ?_⟩
      obtain rfl : jj = 0 := by omega
      exact ⟨_, rfl, AOp.andI rfl rfl (hl 47 (some 12) _ (.head _) rfl) rfl⟩
    · refine .inl ⟨rfl, fun s' jj bb (h1 : 0 ≤ jj) (h2 : jj ≤ 0) hs hl => ?_⟩
      obtain rfl : jj = 0 := by omega
      exact ⟨_, rfl, AOp.move (.inr rfl) rfl (hl 48 (some 13) _ (.head _) rfl)⟩
    refine AWP.region_lit ?_
    refine AL.cons rfl (AOp.move (.inl rfl) rfl rfl) ?_
    refine AL.cons rfl (AOp.move (.inl rfl) rfl rfl) ?_
    refine AL.cons rfl (AOp.nilPtr rfl rfl rfl) ?_
    refine AL.cons rfl (AOp.fieldPtr (k := 0) (d := 0) (e := 1) rfl rfl rfl fo206_1) ?_
    refine AL.cons rfl (AOp.loadPtr1 rfl rfl rfl rfl sh3 rfl) ?_
    refine AL.cons rfl (AOp.addI rfl rfl rfl rfl (c := ((d.p + 1 : Nat) : Int)) (by omega) (by omega)) ?_
    refine AL.cons rfl (AOp.nilPtr rfl rfl rfl) ?_
    refine AL.cons rfl (AOp.fieldPtr (k := 0) (d := 0) (e := 1) rfl rfl rfl fo206_1) ?_
    refine AL.cons rfl (AOp.storePtr (cs := [.t (.leaf (.int .i64 (((d.p + 1 : Nat) : Int))))]) (ds := [.t (.row 1 (byteTrs (d.code))), .t (.leaf (.int .i64 (((d.p + 1 : Nat) : Int)))), .t (.leaf (.int .i64 (wrap64 ((wrap64 (d.h * 6364136223846793005)) + 1442695040888963407))))]) rfl rfl rfl rfl rfl rfl rfl sz3 (Nat.le_of_ble_eq_true rfl) rfl) ?_
    refine AL.nil ?_
    refine AWP.seq ?_
    refine AWP.region_lit ?_
    refine AL.cons rfl (AOp.move (.inl rfl) rfl rfl) ?_
    refine AL.cons rfl (AOp.move (.inr rfl) rfl rfl) ?_
    refine AL.nil ?_
    refine AWP.ret ?_
    exact Ends.mk (ps := [_]) (.inr rfl) ⟨rfl, trivial⟩ rfl (StLe.mk' (st' := ⟨[some ⟨206, [.t (.row 1 (byteTrs (d.code))), .t (.leaf (.int .i64 (((d.p + 1 : Nat) : Int)))), .t (.leaf (.int .i64 (wrap64 ((wrap64 (d.h * 6364136223846793005)) + 1442695040888963407))))]⟩], []⟩) ⟨⟨rfl, by (repeat' (first | exact PV.Le.refl _ | exact LeL.nil | exact PV.Le.nil _ | exact PV.Le.acc _ _ _ | apply LeL.cons | apply PV.Le.agg | apply PV.Le.tup)), rfl⟩, trivial⟩ rfl) (keeps_box hC ⟨_, rfl⟩) (q := .t (.leaf (.int .i64 (iAnd (wrap64 ((iAnd (iXor (iShr (wrap64 ((wrap64 (d.h * 6364136223846793005)) + 1442695040888963407)) 33) (iShr (wrap64 ((wrap64 (d.h * 6364136223846793005)) + 1442695040888963407)) 45)) 255) + ((d.code[d.p]).toNat : Int))) 255)))) (.refl _) rfl ⟨by first | (simp_all [DS.byte, nextH]; done) | (have hq : ¬ d.p < d.code.length := (by omega); simp [DS.byte, nextH, hq]), by first | (simp_all [DS.box, DS.cells, DS.next, nextH]; done) | (have hq : ¬ d.p < d.code.length := (by omega); simp [DS.box, DS.cells, DS.next, nextH, hq])⟩
  · skip
    have h1b := h1
    try simp only [Bool.and_eq_true, Bool.or_eq_true, Bool.and_eq_false_iff, Bool.or_eq_false_iff, decide_eq_true_eq, decide_eq_false_iff_not, Bool.not_eq_true', Bool.not_eq_false', Bool.not_eq_eq_eq_not, Bool.not_true, Bool.not_false, ge_iff_le, gt_iff_lt, Int.not_lt, Int.not_le] at h1b
    have h1n : d.p ≥ d.code.length := by omega
    refine AWP.skip ?_
    refine AWP.seq ?_
    refine AWP.region_lit ?_
    refine AL.cons rfl (AOp.move (.inl rfl) rfl rfl) ?_
    refine AL.cons rfl (AOp.move (.inr rfl) rfl rfl) ?_
    refine AL.nil ?_
    refine AWP.ret ?_
    exact Ends.mk (ps := [_]) (.inr rfl) ⟨rfl, trivial⟩ rfl (StLe.mk' (st' := ⟨[some ⟨206, [.t (.row 1 (byteTrs (d.code))), .t (.leaf (.int .i64 (((d.p : Nat) : Int)))), .t (.leaf (.int .i64 (wrap64 ((wrap64 (d.h * 6364136223846793005)) + 1442695040888963407))))]⟩], []⟩) ⟨⟨rfl, by (repeat' (first | exact PV.Le.refl _ | exact LeL.nil | exact PV.Le.nil _ | exact PV.Le.acc _ _ _ | apply LeL.cons | apply PV.Le.agg | apply PV.Le.tup)), rfl⟩, trivial⟩ rfl) (keeps_box hC ⟨_, rfl⟩) (q := .t (.leaf (.int .i64 (iAnd (iXor (iShr (wrap64 ((wrap64 (d.h * 6364136223846793005)) + 1442695040888963407)) 33) (iShr (wrap64 ((wrap64 (d.h * 6364136223846793005)) + 1442695040888963407)) 45)) 255)))) (.refl _) rfl ⟨by first | (simp_all [DS.byte, nextH]; done) | (have hq : ¬ d.p < d.code.length := (by omega); simp [DS.byte, nextH, hq]), by first | (simp_all [DS.box, DS.cells, DS.next, nextH]; done) | (have hq : ¬ d.p < d.code.length := (by omega); simp [DS.box, DS.cells, DS.next, nextH, hq])⟩

theorem byteN_ok (d : DS) : ACalls Try.prog 203 [.ptr 0 0] (d.box 206) (fun r t => r = .t (.leaf (.int .i64 ((d.byteN : Nat) : Int))) ∧ t = d.next.box 206) := by rw [d.byteN_eq]; exact byte_ok d
set_option maxRecDepth 100000 in
set_option maxHeartbeats 4000000 in
theorem below_ok (d : DS) (n : Nat)  : ACalls Try.prog 165 [.ptr 0 0, .t (.leaf (.int .i64 (((n : Nat) : Int))))] (d.box 206) (fun r t => r = .t (.leaf (.int .i64 (((d.below n : Nat) : Int)))) ∧ t = (d.after n).box 206) := by
  refine ACalls.intro Try.func165 rfl (by first | decide | (simp; done) | (simp; decide)) ?_
  intro C hC
  refine AWP.fact (box_lenN 0 0 rfl rfl rfl (byteTrs_len d.code)) (fun hl0 => ?_)
  have hb0 := d.byteN_le
  have hb1 := d.next.byteN_le
  have hb2 := d.next.next.byteN_le
  have hb3 := d.next.next.next.byteN_le
  refine AWP.seq ?_
  refine AWP.region_lit ?_
  refine AL.cons rfl (AOp.move (.inr rfl) rfl rfl) ?_
  refine AL.nil ?_
  refine AWP.seq ?_
  refine AWP.seq ?_
  refine AWP.region_lit ?_
  refine AL.cons rfl (AOp.move (.inl rfl) rfl rfl) ?_
  refine AL.cons rfl (AOp.leq rfl rfl rfl rfl) ?_
  refine AL.nil ?_
  refine AWP.cond rfl (fun h1 => ?_) (fun h1 => ?_)
  · skip
    have h1b := h1
    try simp only [Bool.and_eq_true, Bool.or_eq_true, Bool.and_eq_false_iff, Bool.or_eq_false_iff, decide_eq_true_eq, decide_eq_false_iff_not, Bool.not_eq_true', Bool.not_eq_false', Bool.not_eq_eq_eq_not, Bool.not_true, Bool.not_false, ge_iff_le, gt_iff_lt, Int.not_lt, Int.not_le] at h1b
    refine AWP.seq ?_
    refine AWP.region_lit ?_
    refine AL.cons rfl (AOp.move (.inr rfl) rfl rfl) ?_
    refine AL.nil ?_
    refine AWP.ret ?_
    exact Ends.mk (ps := [_]) (.inr rfl) ⟨rfl, trivial⟩ rfl (StLe.mk' (st' := ⟨[some ⟨206, [.t (.row 1 (byteTrs (d.code))), .t (.leaf (.int .i64 (((d.p : Nat) : Int)))), .t (.leaf (.int .i64 (d.h)))]⟩], []⟩) ⟨⟨rfl, by (repeat' (first | exact PV.Le.refl _ | exact LeL.nil | exact PV.Le.nil _ | exact PV.Le.acc _ _ _ | apply LeL.cons | apply PV.Le.agg | apply PV.Le.tup)), rfl⟩, trivial⟩ rfl) (keeps_box hC ⟨_, rfl⟩) (q := .t (.leaf (.int .i64 (0)))) (by (repeat' (first | exact PV.Le.refl _ | exact LeL.nil | exact PV.Le.nil _ | exact PV.Le.acc _ _ _ | apply LeL.cons | apply PV.Le.agg | apply PV.Le.tup))) rfl ⟨by first | (have hq : n = 0 := (by omega); simp [DS.below, hq]; done) | (have hq : ¬ n = 0 := (by omega); have hr : n ≤ 256 := (by omega); simp [DS.below, hq, hr]; done) | (have hq : ¬ n = 0 := (by omega); have hr : ¬ n ≤ 256 := (by omega); simp [DS.below, hq, hr]), by first | (have hq : n = 0 := (by omega); simp [DS.after, DS.box, DS.cells, hq]; done) | (have hq : ¬ n = 0 := (by omega); have hr : n ≤ 256 := (by omega); simp [DS.after, DS.box, DS.cells, hq, hr]; done) | (have hq : ¬ n = 0 := (by omega); have hr : ¬ n ≤ 256 := (by omega); simp [DS.after, DS.box, DS.cells, hq, hr])⟩
  · skip
    have h1b := h1
    try simp only [Bool.and_eq_true, Bool.or_eq_true, Bool.and_eq_false_iff, Bool.or_eq_false_iff, decide_eq_true_eq, decide_eq_false_iff_not, Bool.not_eq_true', Bool.not_eq_false', Bool.not_eq_eq_eq_not, Bool.not_true, Bool.not_false, ge_iff_le, gt_iff_lt, Int.not_lt, Int.not_le] at h1b
    refine AWP.skip ?_
    refine AWP.seq ?_
    refine AWP.seq ?_
    refine AWP.region_lit ?_
    refine AL.cons rfl (AOp.move (.inl rfl) rfl rfl) ?_
    refine AL.cons rfl (AOp.leq rfl rfl rfl rfl) ?_
    refine AL.nil ?_
    refine AWP.cond rfl (fun h2 => ?_) (fun h2 => ?_)
    · skip
      have h2b := h2
      try simp only [Bool.and_eq_true, Bool.or_eq_true, Bool.and_eq_false_iff, Bool.or_eq_false_iff, decide_eq_true_eq, decide_eq_false_iff_not, Bool.not_eq_true', Bool.not_eq_false', Bool.not_eq_eq_eq_not, Bool.not_true, Bool.not_false, ge_iff_le, gt_iff_lt, Int.not_lt, Int.not_le] at h2b
      refine AWP.seq ?_
      refine AWP.region_lit ?_
      refine AL.cons rfl (AOp.move (.inl rfl) rfl rfl) ?_
      refine AL.cons rfl (AOp.callPE (pre := ⟨[some ⟨206, [.t (.row 1 (byteTrs (d.code))), .t (.leaf (.int .i64 (((d.p : Nat) : Int)))), .t (.leaf (.int .i64 (d.h)))]⟩], []⟩) (st' := ⟨[some ⟨206, [.t (.row 1 (byteTrs (d.next.code))), .t (.leaf (.int .i64 (((d.next.p : Nat) : Int)))), .t (.leaf (.int .i64 (d.next.h)))]⟩], []⟩) (ps := [_]) (qs := [.ptr 0 0]) [0] [] rfl rfl Try.func203 (by kernel_rfl) rfl rfl rfl (by (try rw [hs]); exact ⟨rfl, rfl, by decide, by decide, fun k h => by rcases k with _ | k <;> simp at h; exact ⟨_, rfl⟩, fun k x h => by rcases k with _ | k <;> simp at h; subst h; exact ⟨_, rfl, rfl, by (repeat' (first | exact PV.Le.refl _ | exact LeL.nil | exact PV.Le.nil _ | exact PV.Le.acc _ _ _ | apply LeL.cons | apply PV.Le.agg | apply PV.Le.tup)), rfl⟩, fun r row h => by simp at h⟩) (by (repeat' (first | exact PV.Le.refl _ | exact LeL.nil | exact PV.Le.nil _ | exact PV.Le.acc _ _ _ | apply LeL.cons | apply PV.Le.agg | apply PV.Le.tup))) rfl rfl rfl (byteN_ok d )) ?_
      refine AL.cons rfl (AOp.move (.inl rfl) rfl rfl) ?_
      refine AL.cons rfl (AOp.remN (a := d.byteN) (b := n) rfl rfl rfl rfl (by omega) (by omega)) ?_
      refine AL.cons rfl (AOp.move (.inr rfl) rfl rfl) ?_
      refine AL.nil ?_
      refine AWP.ret ?_
      exact Ends.mk (ps := [_]) (.inr rfl) ⟨rfl, trivial⟩ rfl (StLe.mk' (st' := ⟨[some ⟨206, [.t (.row 1 (byteTrs (d.next.code))), .t (.leaf (.int .i64 (((d.next.p : Nat) : Int)))), .t (.leaf (.int .i64 (d.next.h)))]⟩], []⟩) ⟨⟨rfl, by (repeat' (first | exact PV.Le.refl _ | exact LeL.nil | exact PV.Le.nil _ | exact PV.Le.acc _ _ _ | apply LeL.cons | apply PV.Le.agg | apply PV.Le.tup)), rfl⟩, trivial⟩ rfl) (keeps_box hC ⟨_, rfl⟩) (q := .t (.leaf (.int .i64 (((d.byteN % n : Nat) : Int))))) (by (repeat' (first | exact PV.Le.refl _ | exact LeL.nil | exact PV.Le.nil _ | exact PV.Le.acc _ _ _ | apply LeL.cons | apply PV.Le.agg | apply PV.Le.tup))) rfl ⟨by first | (have hq : n = 0 := (by omega); simp [DS.below, hq]; done) | (have hq : ¬ n = 0 := (by omega); have hr : n ≤ 256 := (by omega); simp [DS.below, hq, hr]; done) | (have hq : ¬ n = 0 := (by omega); have hr : ¬ n ≤ 256 := (by omega); simp [DS.below, hq, hr]), by first | (have hq : n = 0 := (by omega); simp [DS.after, DS.box, DS.cells, hq]; done) | (have hq : ¬ n = 0 := (by omega); have hr : n ≤ 256 := (by omega); simp [DS.after, DS.box, DS.cells, hq, hr]; done) | (have hq : ¬ n = 0 := (by omega); have hr : ¬ n ≤ 256 := (by omega); simp [DS.after, DS.box, DS.cells, hq, hr])⟩
    · skip
      have h2b := h2
      try simp only [Bool.and_eq_true, Bool.or_eq_true, Bool.and_eq_false_iff, Bool.or_eq_false_iff, decide_eq_true_eq, decide_eq_false_iff_not, Bool.not_eq_true', Bool.not_eq_false', Bool.not_eq_eq_eq_not, Bool.not_true, Bool.not_false, ge_iff_le, gt_iff_lt, Int.not_lt, Int.not_le] at h2b
      refine AWP.skip ?_
      refine AWP.seq ?_
      refine AWP.region_lit ?_
      refine AL.cons rfl (AOp.move (.inl rfl) rfl rfl) ?_
      refine AL.cons rfl (AOp.callPE (pre := ⟨[some ⟨206, [.t (.row 1 (byteTrs (d.code))), .t (.leaf (.int .i64 (((d.p : Nat) : Int)))), .t (.leaf (.int .i64 (d.h)))]⟩], []⟩) (st' := ⟨[some ⟨206, [.t (.row 1 (byteTrs (d.next.code))), .t (.leaf (.int .i64 (((d.next.p : Nat) : Int)))), .t (.leaf (.int .i64 (d.next.h)))]⟩], []⟩) (ps := [_]) (qs := [.ptr 0 0]) [0] [] rfl rfl Try.func203 (by kernel_rfl) rfl rfl rfl (by (try rw [hs]); exact ⟨rfl, rfl, by decide, by decide, fun k h => by rcases k with _ | k <;> simp at h; exact ⟨_, rfl⟩, fun k x h => by rcases k with _ | k <;> simp at h; subst h; exact ⟨_, rfl, rfl, by (repeat' (first | exact PV.Le.refl _ | exact LeL.nil | exact PV.Le.nil _ | exact PV.Le.acc _ _ _ | apply LeL.cons | apply PV.Le.agg | apply PV.Le.tup)), rfl⟩, fun r row h => by simp at h⟩) (by (repeat' (first | exact PV.Le.refl _ | exact LeL.nil | exact PV.Le.nil _ | exact PV.Le.acc _ _ _ | apply LeL.cons | apply PV.Le.agg | apply PV.Le.tup))) rfl rfl rfl (byteN_ok d )) ?_
      refine AL.cons rfl (AOp.move (.inr rfl) rfl rfl) ?_
      refine AL.nil ?_
      refine AWP.seq ?_
      refine AWP.region_lit ?_
      refine AL.cons rfl (AOp.move (.inl rfl) rfl rfl) ?_
      refine AL.cons rfl (AOp.callPE (pre := ⟨[some ⟨206, [.t (.row 1 (byteTrs (d.next.code))), .t (.leaf (.int .i64 (((d.next.p : Nat) : Int)))), .t (.leaf (.int .i64 (d.next.h)))]⟩], []⟩) (st' := ⟨[some ⟨206, [.t (.row 1 (byteTrs (d.next.next.code))), .t (.leaf (.int .i64 (((d.next.next.p : Nat) : Int)))), .t (.leaf (.int .i64 (d.next.next.h)))]⟩], []⟩) (ps := [_]) (qs := [.ptr 0 0]) [0] [] rfl rfl Try.func203 (by kernel_rfl) rfl rfl rfl (by (try rw [hs]); exact ⟨rfl, rfl, by decide, by decide, fun k h => by rcases k with _ | k <;> simp at h; exact ⟨_, rfl⟩, fun k x h => by rcases k with _ | k <;> simp at h; subst h; exact ⟨_, rfl, rfl, by (repeat' (first | exact PV.Le.refl _ | exact LeL.nil | exact PV.Le.nil _ | exact PV.Le.acc _ _ _ | apply LeL.cons | apply PV.Le.agg | apply PV.Le.tup)), rfl⟩, fun r row h => by simp at h⟩) (by (repeat' (first | exact PV.Le.refl _ | exact LeL.nil | exact PV.Le.nil _ | exact PV.Le.acc _ _ _ | apply LeL.cons | apply PV.Le.agg | apply PV.Le.tup))) rfl rfl rfl (byteN_ok d.next )) ?_
      refine AL.cons rfl (AOp.move (.inr rfl) rfl rfl) ?_
      refine AL.nil ?_
      refine AWP.seq ?_
      refine AWP.region_lit ?_
      refine AL.cons rfl (AOp.move (.inl rfl) rfl rfl) ?_
      refine AL.cons rfl (AOp.callPE (pre := ⟨[some ⟨206, [.t (.row 1 (byteTrs (d.next.next.code))), .t (.leaf (.int .i64 (((d.next.next.p : Nat) : Int)))), .t (.leaf (.int .i64 (d.next.next.h)))]⟩], []⟩) (st' := ⟨[some ⟨206, [.t (.row 1 (byteTrs (d.next.next.next.code))), .t (.leaf (.int .i64 (((d.next.next.next.p : Nat) : Int)))), .t (.leaf (.int .i64 (d.next.next.next.h)))]⟩], []⟩) (ps := [_]) (qs := [.ptr 0 0]) [0] [] rfl rfl Try.func203 (by kernel_rfl) rfl rfl rfl (by (try rw [hs]); exact ⟨rfl, rfl, by decide, by decide, fun k h => by rcases k with _ | k <;> simp at h; exact ⟨_, rfl⟩, fun k x h => by rcases k with _ | k <;> simp at h; subst h; exact ⟨_, rfl, rfl, by (repeat' (first | exact PV.Le.refl _ | exact LeL.nil | exact PV.Le.nil _ | exact PV.Le.acc _ _ _ | apply LeL.cons | apply PV.Le.agg | apply PV.Le.tup)), rfl⟩, fun r row h => by simp at h⟩) (by (repeat' (first | exact PV.Le.refl _ | exact LeL.nil | exact PV.Le.nil _ | exact PV.Le.acc _ _ _ | apply LeL.cons | apply PV.Le.agg | apply PV.Le.tup))) rfl rfl rfl (byteN_ok d.next.next )) ?_
      refine AL.cons rfl (AOp.move (.inr rfl) rfl rfl) ?_
      refine AL.nil ?_
      refine AWP.seq ?_
      refine AWP.region_lit ?_
      refine AL.cons rfl (AOp.move (.inl rfl) rfl rfl) ?_
      refine AL.cons rfl (AOp.callPE (pre := ⟨[some ⟨206, [.t (.row 1 (byteTrs (d.next.next.next.code))), .t (.leaf (.int .i64 (((d.next.next.next.p : Nat) : Int)))), .t (.leaf (.int .i64 (d.next.next.next.h)))]⟩], []⟩) (st' := ⟨[some ⟨206, [.t (.row 1 (byteTrs (d.next.next.next.next.code))), .t (.leaf (.int .i64 (((d.next.next.next.next.p : Nat) : Int)))), .t (.leaf (.int .i64 (d.next.next.next.next.h)))]⟩], []⟩) (ps := [_]) (qs := [.ptr 0 0]) [0] [] rfl rfl Try.func203 (by kernel_rfl) rfl rfl rfl (by (try rw [hs]); exact ⟨rfl, rfl, by decide, by decide, fun k h => by rcases k with _ | k <;> simp at h; exact ⟨_, rfl⟩, fun k x h => by rcases k with _ | k <;> simp at h; subst h; exact ⟨_, rfl, rfl, by (repeat' (first | exact PV.Le.refl _ | exact LeL.nil | exact PV.Le.nil _ | exact PV.Le.acc _ _ _ | apply LeL.cons | apply PV.Le.agg | apply PV.Le.tup)), rfl⟩, fun r row h => by simp at h⟩) (by (repeat' (first | exact PV.Le.refl _ | exact LeL.nil | exact PV.Le.nil _ | exact PV.Le.acc _ _ _ | apply LeL.cons | apply PV.Le.agg | apply PV.Le.tup))) rfl rfl rfl (byteN_ok d.next.next.next )) ?_
      refine AL.cons rfl (AOp.move (.inr rfl) rfl rfl) ?_
      refine AL.nil ?_
      refine AWP.seq ?_
      refine AWP.region_lit ?_
      refine AL.cons rfl (AOp.move (.inl rfl) rfl rfl) ?_
      refine AL.cons rfl (AOp.mulI rfl rfl rfl rfl (c := ((d.byteN * 16777216 : Nat) : Int)) (by omega) (by omega)) ?_
      refine AL.cons rfl (AOp.move (.inl rfl) rfl rfl) ?_
      refine AL.cons rfl (AOp.mulI rfl rfl rfl rfl (c := ((d.next.byteN * 65536 : Nat) : Int)) (by omega) (by omega)) ?_
      refine AL.cons rfl (AOp.addI rfl rfl rfl rfl (c := (((d.byteN * 16777216) + (d.next.byteN * 65536) : Nat) : Int)) (by omega) (by omega)) ?_
      refine AL.cons rfl (AOp.move (.inl rfl) rfl rfl) ?_
      refine AL.cons rfl (AOp.mulI rfl rfl rfl rfl (c := ((d.next.next.byteN * 256 : Nat) : Int)) (by omega) (by omega)) ?_
      refine AL.cons rfl (AOp.addI rfl rfl rfl rfl (c := ((((d.byteN * 16777216) + (d.next.byteN * 65536)) + (d.next.next.byteN * 256) : Nat) : Int)) (by omega) (by omega)) ?_
      refine AL.cons rfl (AOp.move (.inl rfl) rfl rfl) ?_
      refine AL.cons rfl (AOp.addI rfl rfl rfl rfl (c := (((((d.byteN * 16777216) + (d.next.byteN * 65536)) + (d.next.next.byteN * 256)) + d.next.next.next.byteN : Nat) : Int)) (by omega) (by omega)) ?_
      refine AL.cons rfl (AOp.move (.inl rfl) rfl rfl) ?_
      refine AL.cons rfl (AOp.remN (a := (((d.byteN * 16777216) + (d.next.byteN * 65536)) + (d.next.next.byteN * 256)) + d.next.next.next.byteN) (b := n) rfl rfl rfl rfl (by omega) (by omega)) ?_
      refine AL.cons rfl (AOp.move (.inr rfl) rfl rfl) ?_
      refine AL.nil ?_
      refine AWP.ret ?_
      exact Ends.mk (ps := [_]) (.inr rfl) ⟨rfl, trivial⟩ rfl (StLe.mk' (st' := ⟨[some ⟨206, [.t (.row 1 (byteTrs (d.next.next.next.next.code))), .t (.leaf (.int .i64 (((d.next.next.next.next.p : Nat) : Int)))), .t (.leaf (.int .i64 (d.next.next.next.next.h)))]⟩], []⟩) ⟨⟨rfl, by (repeat' (first | exact PV.Le.refl _ | exact LeL.nil | exact PV.Le.nil _ | exact PV.Le.acc _ _ _ | apply LeL.cons | apply PV.Le.agg | apply PV.Le.tup)), rfl⟩, trivial⟩ rfl) (keeps_box hC ⟨_, rfl⟩) (q := .t (.leaf (.int .i64 (((((((d.byteN * 16777216) + (d.next.byteN * 65536)) + (d.next.next.byteN * 256)) + d.next.next.next.byteN) % n : Nat) : Int))))) (by (repeat' (first | exact PV.Le.refl _ | exact LeL.nil | exact PV.Le.nil _ | exact PV.Le.acc _ _ _ | apply LeL.cons | apply PV.Le.agg | apply PV.Le.tup))) rfl ⟨by first | (have hq : n = 0 := (by omega); simp [DS.below, hq]; done) | (have hq : ¬ n = 0 := (by omega); have hr : n ≤ 256 := (by omega); simp [DS.below, hq, hr]; done) | (have hq : ¬ n = 0 := (by omega); have hr : ¬ n ≤ 256 := (by omega); simp [DS.below, hq, hr]), by first | (have hq : n = 0 := (by omega); simp [DS.after, DS.box, DS.cells, hq]; done) | (have hq : ¬ n = 0 := (by omega); have hr : n ≤ 256 := (by omega); simp [DS.after, DS.box, DS.cells, hq, hr]; done) | (have hq : ¬ n = 0 := (by omega); have hr : ¬ n ≤ 256 := (by omega); simp [DS.after, DS.box, DS.cells, hq, hr])⟩

set_option maxRecDepth 100000 in
set_option maxHeartbeats 4000000 in
theorem once_ok (d : DS) (n : Nat)  : ACalls Try.prog 124 [.ptr 0 0, .t (.leaf (.int .i64 (((n : Nat) : Int))))] (d.box 206) (fun r t => r = .t (.leaf (.bool (decide (d.below n = 0)))) ∧ t = (d.after n).box 206) := by
  refine ACalls.intro Try.func124 rfl (by first | decide | (simp; done) | (simp; decide)) ?_
  intro C hC
  refine AWP.fact (box_lenN 0 0 rfl rfl rfl (byteTrs_len d.code)) (fun hl0 => ?_)
  refine AWP.seq ?_
  refine AWP.region_lit ?_
  refine AL.cons rfl (AOp.move (.inr rfl) rfl rfl) ?_
  refine AL.nil ?_
  refine AWP.seq ?_
  refine AWP.region_lit ?_
  refine AL.cons rfl (AOp.move (.inl rfl) rfl rfl) ?_
  refine AL.cons rfl (AOp.move (.inl rfl) rfl rfl) ?_
  refine AL.cons rfl (AOp.callPE (pre := ⟨[some ⟨206, [.t (.row 1 (byteTrs (d.code))), .t (.leaf (.int .i64 (((d.p : Nat) : Int)))), .t (.leaf (.int .i64 (d.h)))]⟩], []⟩) (st' := ⟨[some ⟨206, [.t (.row 1 (byteTrs ((d.after n).code))), .t (.leaf (.int .i64 ((((d.after n).p : Nat) : Int)))), .t (.leaf (.int .i64 ((d.after n).h)))]⟩], []⟩) (ps := [_, _]) (qs := [.ptr 0 0, .t (.leaf (.int .i64 (((n : Nat) : Int))))]) [0] [] rfl rfl Try.func165 (by kernel_rfl) rfl rfl rfl (by (try rw [hs]); exact ⟨rfl, rfl, by decide, by decide, fun k h => by rcases k with _ | k <;> simp at h; exact ⟨_, rfl⟩, fun k x h => by rcases k with _ | k <;> simp at h; subst h; exact ⟨_, rfl, rfl, by (repeat' (first | exact PV.Le.refl _ | exact LeL.nil | exact PV.Le.nil _ | exact PV.Le.acc _ _ _ | apply LeL.cons | apply PV.Le.agg | apply PV.Le.tup)), rfl⟩, fun r row h => by simp at h⟩) (by (repeat' (first | exact PV.Le.refl _ | exact LeL.nil | exact PV.Le.nil _ | exact PV.Le.acc _ _ _ | apply LeL.cons | apply PV.Le.agg | apply PV.Le.tup))) rfl rfl rfl (below_ok d n)) ?_
  refine AL.cons rfl (AOp.eqlI rfl rfl rfl rfl) ?_
  refine AL.cons rfl (AOp.move (.inr rfl) rfl rfl) ?_
  refine AL.nil ?_
  refine AWP.ret ?_
  exact Ends.mk (ps := [_]) (.inr rfl) ⟨rfl, trivial⟩ rfl (StLe.mk' (st' := ⟨[some ⟨206, [.t (.row 1 (byteTrs ((d.after n).code))), .t (.leaf (.int .i64 ((((d.after n).p : Nat) : Int)))), .t (.leaf (.int .i64 ((d.after n).h)))]⟩], []⟩) ⟨⟨rfl, by (repeat' (first | exact PV.Le.refl _ | exact LeL.nil | exact PV.Le.nil _ | exact PV.Le.acc _ _ _ | apply LeL.cons | apply PV.Le.agg | apply PV.Le.tup)), rfl⟩, trivial⟩ rfl) (keeps_box hC ⟨_, rfl⟩) (q := .t (.leaf (.bool (decide ((((d.below n : Nat) : Int) : Int) = 0))))) (by (repeat' (first | exact PV.Le.refl _ | exact LeL.nil | exact PV.Le.nil _ | exact PV.Le.acc _ _ _ | apply LeL.cons | apply PV.Le.agg | apply PV.Le.tup))) rfl ⟨by first | rfl | (congr 4; simp), by rfl⟩

set_option maxRecDepth 100000 in
set_option maxHeartbeats 4000000 in
theorem pick_ok (d : DS) (l : List ByteArray) (hl : 0 < l.length) : ACalls Try.prog 100 [.ptr 0 0, .t (.row 1 (strTrs (l)))] (d.box 206) (fun r t => r = .t (.leaf (.string (d.pick l))) ∧ t = (d.after l.length).box 206) := by
  refine ACalls.intro Try.func100 rfl (by first | decide | (simp; done) | (simp; decide)) ?_
  intro C hC
  refine AWP.fact (box_lenN 0 0 rfl rfl rfl (byteTrs_len d.code)) (fun hl0 => ?_)
  refine AWP.fact (lk_lenN 1 rfl rfl (strTrs_len _)) (fun hl1 => ?_)
  have hx : d.below l.length < l.length := d.below_lt hl
  refine AWP.seq ?_
  refine AWP.region_lit ?_
  refine AL.cons rfl (AOp.move (.inr rfl) rfl rfl) ?_
  refine AL.nil ?_
  refine AWP.seq ?_
  refine AWP.region_lit ?_
  refine AL.cons rfl (AOp.move (.inl rfl) rfl rfl) ?_
  refine AL.cons rfl (AOp.move (.inl rfl) rfl rfl) ?_
  refine AL.cons rfl (AOp.move (.inl rfl) rfl rfl) ?_
  refine AL.cons rfl (AOp.lenN rfl rfl rfl rfl el66 (strTrs_len _)) ?_
  refine AL.cons rfl (AOp.callPE (pre := ⟨[some ⟨206, [.t (.row 1 (byteTrs (d.code))), .t (.leaf (.int .i64 (((d.p : Nat) : Int)))), .t (.leaf (.int .i64 (d.h)))]⟩], []⟩) (st' := ⟨[some ⟨206, [.t (.row 1 (byteTrs ((d.after l.length).code))), .t (.leaf (.int .i64 ((((d.after l.length).p : Nat) : Int)))), .t (.leaf (.int .i64 ((d.after l.length).h)))]⟩], []⟩) (ps := [_, _]) (qs := [.ptr 0 0, .t (.leaf (.int .i64 (((l.length : Nat) : Int))))]) [0] [] rfl rfl Try.func165 (by kernel_rfl) rfl rfl rfl (by (try rw [hs]); exact ⟨rfl, rfl, by decide, by decide, fun k h => by rcases k with _ | k <;> simp at h; exact ⟨_, rfl⟩, fun k x h => by rcases k with _ | k <;> simp at h; subst h; exact ⟨_, rfl, rfl, by (repeat' (first | exact PV.Le.refl _ | exact LeL.nil | exact PV.Le.nil _ | exact PV.Le.acc _ _ _ | apply LeL.cons | apply PV.Le.agg | apply PV.Le.tup)), rfl⟩, fun r row h => by simp at h⟩) (by (repeat' (first | exact PV.Le.refl _ | exact LeL.nil | exact PV.Le.nil _ | exact PV.Le.acc _ _ _ | apply LeL.cons | apply PV.Le.agg | apply PV.Le.tup))) rfl rfl rfl (below_ok d l.length)) ?_
  refine AL.cons rfl (AOp.index (k := d.below l.length) rfl rfl rfl rfl rfl (strTrs_cs hx) el66) ?_
  refine AL.cons rfl (AOp.loadEptr1 (d := .leaf (.string (l[d.below l.length]))) rfl rfl rfl sh9 rfl) ?_
  refine AL.cons rfl (AOp.move (.inr rfl) rfl rfl) ?_
  refine AL.nil ?_
  refine AWP.ret ?_
  exact Ends.mk (ps := [_]) (.inr rfl) ⟨rfl, trivial⟩ rfl (StLe.mk' (st' := ⟨[some ⟨206, [.t (.row 1 (byteTrs ((d.after l.length).code))), .t (.leaf (.int .i64 ((((d.after l.length).p : Nat) : Int)))), .t (.leaf (.int .i64 ((d.after l.length).h)))]⟩], []⟩) ⟨⟨rfl, by (repeat' (first | exact PV.Le.refl _ | exact LeL.nil | exact PV.Le.nil _ | exact PV.Le.acc _ _ _ | apply LeL.cons | apply PV.Le.agg | apply PV.Le.tup)), rfl⟩, trivial⟩ rfl) (keeps_box hC ⟨_, rfl⟩) (q := .t (.leaf (.string (l[d.below l.length])))) (by (repeat' (first | exact PV.Le.refl _ | exact LeL.nil | exact PV.Le.nil _ | exact PV.Le.acc _ _ _ | apply LeL.cons | apply PV.Le.agg | apply PV.Le.tup))) rfl ⟨by rw [DS.pick_eq hx], by rfl⟩

set_option maxRecDepth 100000 in
set_option maxHeartbeats 4000000 in
theorem new_ok (code : List UInt8) (hb : code.length ≤ 1048576) : ANew Try.prog 98 [.t (.row 1 (byteTrs code))] 206 (DS.start code).cells := by
  refine ACalls.intro Try.func98 rfl (by first | decide | (simp; done) | (simp; decide)) ?_
  intro C hC
  refine AWP.fact (lk_lenN 0 rfl rfl (byteTrs_len _)) (fun hl1 => ?_)
  refine AWP.seq ?_
  refine AWP.region_lit ?_
  refine AL.cons rfl (AOp.moveAny (.inl rfl)) ?_
  refine AL.nil ?_
  refine AWP.seq ?_
  refine AWP.region_lit ?_
  refine AL.cons rfl (AOp.move (.inl rfl) rfl rfl) ?_
  refine AL.cons rfl (AOp.lenN rfl rfl rfl rfl el59 (byteTrs_len _)) ?_
  refine AL.cons rfl (AOp.addI rfl rfl rfl rfl (c := ((28803 + code.length : Nat) : Int)) (by omega) (by omega)) ?_
  refine AL.cons rfl (AOp.move (.inr rfl) rfl rfl) ?_
  refine AL.nil ?_
  refine AWP.seq ?_
  refine AWP.seq ?_
  refine AWP.region_lit ?_
  refine AL.cons rfl (AOp.move (.inr rfl) rfl rfl) ?_
  refine AL.nil ?_
  refine AWP.block ?_
  refine AWP.loopJ (ι := Nat × Int) (fun ⟨i, h⟩ => i ≤ code.length ∧ i ≤ 4000 ∧ newH code = ((code.take 4000).drop i).foldl newStep h) (fun ⟨i, h⟩ => ⟨[(0, .t (.row 1 (byteTrs (code)))), (3, .t (.leaf (.int .i64 (h)))), (4, .t (.leaf (.int .i64 (((i : Nat) : Int)))))], ⟨[], []⟩⟩) (fun ⟨i, h⟩ => code.length - i) (0, (28803 + (code.length : Int))) ?_ ?_ ?_
  · exact ⟨Nat.zero_le _, Nat.zero_le _, rfl⟩
  · skip
    exact Wk.mk (StLe.mk' trivial rfl) (keeps_nil hC) ⟨⟨_, rfl, .refl _, rfl⟩, ⟨⟨_, rfl, by (repeat' (first | exact PV.Le.refl _ | exact LeL.nil | exact PV.Le.nil _ | exact PV.Le.acc _ _ _ | apply LeL.cons | apply PV.Le.agg | apply PV.Le.tup)), rfl⟩, ⟨⟨_, rfl, by (repeat' (first | exact PV.Le.refl _ | exact LeL.nil | exact PV.Le.nil _ | exact PV.Le.acc _ _ _ | apply LeL.cons | apply PV.Le.agg | apply PV.Le.tup)), rfl⟩, trivial⟩⟩⟩
  rintro ⟨i, h⟩ hJ2
  obtain ⟨hi1, hi2, hi3⟩ := hJ2
  refine AWP.seq ?_
  refine AWP.seq ?_
  refine AWP.region_lit ?_
  refine AL.cons rfl (AOp.move (.inl rfl) rfl rfl) ?_
  refine AL.cons rfl (AOp.move (.inl rfl) rfl rfl) ?_
  refine AL.cons rfl (AOp.lenN rfl rfl rfl rfl el59 (byteTrs_len _)) ?_
  refine AL.cons rfl (AOp.lss rfl rfl rfl rfl) ?_
  refine AL.cons rfl (AOp.move (.inl rfl) rfl rfl) ?_
  refine AL.splitB 12 rfl (fun g3 => ?_) (fun g3 => ?_)
  · skip
    have g3b := g3
    try simp only [Bool.and_eq_true, Bool.or_eq_true, Bool.and_eq_false_iff, Bool.or_eq_false_iff, decide_eq_true_eq, decide_eq_false_iff_not, Bool.not_eq_true', Bool.not_eq_false', Bool.not_eq_eq_eq_not, Bool.not_true, Bool.not_false, ge_iff_le, gt_iff_lt, Int.not_lt, Int.not_le] at g3b
    have g3n : i < code.length := by omega
    refine AL.cons_gv rfl rfl rfl g3 (AOp.move (.inl rfl) rfl rfl) ?_
    refine AL.cons_gv rfl rfl rfl g3 (AOp.lss rfl rfl rfl rfl) ?_
    refine AL.cons rfl (AOp.pickT rfl rfl rfl g3 rfl) ?_
    refine AL.nil ?_
    refine AWP.cond rfl (fun h4 => ?_) (fun h4 => ?_)
    · skip
      have h4b := h4
      try simp only [Bool.and_eq_true, Bool.or_eq_true, Bool.and_eq_false_iff, Bool.or_eq_false_iff, decide_eq_true_eq, decide_eq_false_iff_not, Bool.not_eq_true', Bool.not_eq_false', Bool.not_eq_eq_eq_not, Bool.not_true, Bool.not_false, ge_iff_le, gt_iff_lt, Int.not_lt, Int.not_le] at h4b
      refine AWP.skip ?_
      refine AWP.seq ?_
      refine AWP.block ?_
      refine AWP.region_lit ?_
      refine AL.cons rfl (AOp.move (.inl rfl) rfl rfl) ?_
      refine AL.cons rfl (AOp.mulW rfl rfl rfl rfl) ?_
      refine AL.cons rfl (AOp.move (.inl rfl) rfl rfl) ?_
      refine AL.cons rfl (AOp.move (.inl rfl) rfl rfl) ?_
      refine AL.cons rfl (AOp.index (k := i) rfl rfl rfl rfl rfl (byteTrs_cs g3n) el59) ?_
      refine AL.cons rfl (AOp.loadEptr1 (d := .leaf (.int .u8 (((code[i]).toNat : Int)))) rfl rfl rfl sh5 rfl) ?_
      refine AL.cons rfl (AOp.convI rfl rfl rfl ⟨_, Try.underlying5⟩ Try.underlying3 (by first | omega | (have := UInt8.toNat_lt (code[i]); omega)) (by first | omega | (have := UInt8.toNat_lt (code[i]); omega))) ?_
      refine AL.cons rfl (AOp.addW rfl rfl rfl rfl) ?_
      refine AL.cons rfl (AOp.addW rfl rfl rfl rfl) ?_
      refine AL.cons rfl (AOp.andI rfl rfl rfl rfl) ?_
      refine AL.cons rfl (AOp.move (.inr rfl) rfl rfl) ?_
      refine AL.nil ?_
      refine AWP.region_lit ?_
      refine AL.cons rfl (AOp.move (.inl rfl) rfl rfl) ?_
      refine AL.cons rfl (AOp.addI rfl rfl rfl rfl (c := ((i + 1 : Nat) : Int)) (by omega) (by omega)) ?_
      refine AL.cons rfl (AOp.move (.inr rfl) rfl rfl) ?_
      refine AL.nil ?_
      refine ⟨(i + 1, iAnd (wrap64 ((wrap64 ((wrap64 (h * 131)) + ((code[i]).toNat : Int))) + 7)) 1073741823), ?_, ?_, ?_⟩
      · exact ⟨by omega, by omega, newH_next (by omega) (by omega) hi3 rfl⟩
      · skip
        exact Wk.mk (StLe.mk' trivial rfl) (keeps_nil hC) ⟨⟨_, rfl, .refl _, rfl⟩, ⟨⟨_, rfl, by (repeat' (first | exact PV.Le.refl _ | exact LeL.nil | exact PV.Le.nil _ | exact PV.Le.acc _ _ _ | apply LeL.cons | apply PV.Le.agg | apply PV.Le.tup)), rfl⟩, ⟨⟨_, rfl, by (repeat' (first | exact PV.Le.refl _ | exact LeL.nil | exact PV.Le.nil _ | exact PV.Le.acc _ _ _ | apply LeL.cons | apply PV.Le.agg | apply PV.Le.tup)), rfl⟩, trivial⟩⟩⟩
      · dsimp only; omega
    · skip
      have h4b := h4
      try simp only [Bool.and_eq_true, Bool.or_eq_true, Bool.and_eq_false_iff, Bool.or_eq_false_iff, decide_eq_true_eq, decide_eq_false_iff_not, Bool.not_eq_true', Bool.not_eq_false', Bool.not_eq_eq_eq_not, Bool.not_true, Bool.not_false, ge_iff_le, gt_iff_lt, Int.not_lt, Int.not_le] at h4b
      refine AWP.exit ?_
      refine AWP.seq ?_
      refine AWP.region_lit ?_
      refine AL.cons rfl (AOp.move (.inl rfl) rfl rfl) ?_
      refine AL.cons rfl (AOp.move (.inl rfl) rfl rfl) ?_
      refine AL.cons rfl (AOp.build rfl rfl zr206 pl206 rfl rfl) ?_
      refine AL.cons rfl (AOp.box (cs := [.t (.row 1 (byteTrs (code))), .t (.leaf (.int .i64 (0))), .t (.leaf (.int .i64 (h)))]) rfl rfl rfl rfl rfl) ?_
      refine AL.cons rfl (AOp.move (.inr rfl) rfl rfl) ?_
      refine AL.nil ?_
      refine AWP.ret ?_
      obtain rfl := newH_end (by omega) hi3
      exact Ends.mk (ps := [_]) (.inr rfl) ⟨rfl, trivial⟩ rfl (StLe.mk' (st' := ⟨[some ⟨206, (DS.start code).cells⟩], []⟩) ⟨⟨rfl, by (repeat' (first | exact PV.Le.refl _ | exact LeL.nil | exact PV.Le.nil _ | exact PV.Le.acc _ _ _ | apply LeL.cons | apply PV.Le.agg | apply PV.Le.tup)), rfl⟩, trivial⟩ rfl) (keeps_nil hC) (q := .ptr 0 0) (.refl _) rfl ⟨0, rfl, rfl, fun i x hx => by rcases i with _ | i <;> simp at hx <;> simp, rfl⟩
  · skip
    have g3b := g3
    try simp only [Bool.and_eq_true, Bool.or_eq_true, Bool.and_eq_false_iff, Bool.or_eq_false_iff, decide_eq_true_eq, decide_eq_false_iff_not, Bool.not_eq_true', Bool.not_eq_false', Bool.not_eq_eq_eq_not, Bool.not_true, Bool.not_false, ge_iff_le, gt_iff_lt, Int.not_lt, Int.not_le] at g3b
    have g3n : i ≥ code.length := by omega
    refine AL.skip_v rfl rfl rfl g3 rfl ?_
    refine AL.skip_v rfl rfl rfl g3 rfl ?_
    refine AL.cons rfl (AOp.pickF rfl rfl rfl g3 rfl) ?_
    refine AL.nil ?_
    refine AWP.cond rfl (fun h5 => ?_) (fun h5 => ?_)
    · skip
      exact absurd (h5.symm.trans rfl) (by decide)
    · skip
      have h5b := h5
      try simp only [Bool.and_eq_true, Bool.or_eq_true, Bool.and_eq_false_iff, Bool.or_eq_false_iff, decide_eq_true_eq, decide_eq_false_iff_not, Bool.not_eq_true', Bool.not_eq_false', Bool.not_eq_eq_eq_not, Bool.not_true, Bool.not_false, ge_iff_le, gt_iff_lt, Int.not_lt, Int.not_le] at h5b
      refine AWP.exit ?_
      refine AWP.seq ?_
      refine AWP.region_lit ?_
      refine AL.cons rfl (AOp.move (.inl rfl) rfl rfl) ?_
      refine AL.cons rfl (AOp.move (.inl rfl) rfl rfl) ?_
      refine AL.cons rfl (AOp.build rfl rfl zr206 pl206 rfl rfl) ?_
      refine AL.cons rfl (AOp.box (cs := [.t (.row 1 (byteTrs (code))), .t (.leaf (.int .i64 (0))), .t (.leaf (.int .i64 (h)))]) rfl rfl rfl rfl rfl) ?_
      refine AL.cons rfl (AOp.move (.inr rfl) rfl rfl) ?_
      refine AL.nil ?_
      refine AWP.ret ?_
      obtain rfl := newH_end (by omega) hi3
      exact Ends.mk (ps := [_]) (.inr rfl) ⟨rfl, trivial⟩ rfl (StLe.mk' (st' := ⟨[some ⟨206, (DS.start code).cells⟩], []⟩) ⟨⟨rfl, by (repeat' (first | exact PV.Le.refl _ | exact LeL.nil | exact PV.Le.nil _ | exact PV.Le.acc _ _ _ | apply LeL.cons | apply PV.Le.agg | apply PV.Le.tup)), rfl⟩, trivial⟩ rfl) (keeps_nil hC) (q := .ptr 0 0) (.refl _) rfl ⟨0, rfl, rfl, fun i x hx => by rcases i with _ | i <;> simp at hx <;> simp, rfl⟩

end Go.Proofs.Ytoifjkggpanceaa

namespace Go.Proofs.Ytoifjkggpanceaa
set_option linter.unusedSimpArgs false
set_option linter.unusedVariables false
open Go.RowKit Go.WalkArith Go.IntWalk Go.WideShapes

instance : Inhabited ByteArray := ⟨⟨#[]⟩⟩
def atD {α : Type} [Inhabited α] (l : List α) (k : Nat) : α := (l[k]?).getD default
theorem atD_eq {α : Type} [Inhabited α] {l : List α} {k : Nat} (h : k < l.length) : atD l k = l[k] := by simp [atD, h]
theorem strTrs_at {l : List ByteArray} {k : Nat} (h : k < l.length) : (strTrs l)[k]? = some [.leaf (.string (atD l k))] := by rw [atD_eq h]; exact strTrs_cs h
theorem intTrs_at {l : List Int} {k : Nat} (h : k < l.length) : (intTrs l)[k]? = some [.leaf (.int .i64 (atD l k))] := by rw [atD_eq h]; exact intTrs_cs h
theorem byteTrs_at {l : List UInt8} {k : Nat} (h : k < l.length) : (byteTrs l)[k]? = some [.leaf (.int .u8 ((atD l k).toNat : Int))] := by rw [atD_eq h]; exact byteTrs_cs h
theorem trs0 : True := trivial
theorem room_le {a b c : Nat} (h : a + b ≤ 68719476736) (hc : c ≤ 2048) : (a + b) * c ≤ 140737488355328 := by
  have := Nat.mul_le_mul h hc
  omega
theorem nat_lt_of2 {a b : Nat} (h : decide ((a : Int) < (b : Int)) = true) : a < b := nat_lt_of h
theorem nat_ge_of2 {a b : Nat} (h : decide ((a : Int) < (b : Int)) = false) : b ≤ a := nat_ge_of h
theorem nat_lt_of3 {a : Nat} {b : Int} (h : decide ((a : Int) < b) = true) : a < b.toNat := by have := of_decide_eq_true h; omega
theorem nat_ge_of3 {a : Nat} {b : Int} (h : decide ((a : Int) < b) = false) : b.toNat ≤ a := by have := of_decide_eq_false h; omega
section
variable {P : Program} {C : Ctx} {n : Nat} {s : AS} {o : Oper}
theorem AOp.buildSliceE {T E sz by_ len : Nat} {parts : Array (Nat × Operand)} {ps : List (Nat × List PV)} {zs cs : List PV} {es es' : List (List Tr)} (ho : o.op = .buildSlice T len parts) (hd : dstOk o.dst n = true) (hT : elemOf? P T = some (E, sz, by_)) (hz : zerosOf P E = some zs) (hp : partsP s parts.toList = some ps)
    (hc : fillP (fun i => some (i * sz, sz)) (List.replicate len zs).flatten ps = some cs) (hle : LeL cs (es.flatten.map PV.t)) (hel : es.length = len) (hes : ∀ e ∈ es, e.length = sz) (hsz : 0 < sz) (hzl : zs.length = sz) (hsm : len * sz ≤ 16777216) (he : es = es') :
    AOp P C n o s (s.putO o.dst (.t (.row sz es'))) := he ▸ AOp.buildSliceQ ho hd hT hz hp hc hle hel hes hsz hzl hsm
theorem AOp.buildSliceA {T E sz by_ len : Nat} {parts : Array (Nat × Operand)} {ps : List (Nat × List PV)} {zs cs : List PV} {es es' : List (List Tr)} (ho : o.op = .buildSlice T len parts) (hd : dstOk o.dst n = true) (hT : elemOf? P T = some (E, sz, by_)) (hz : zerosOf P E = some zs) (hp : partsP s parts.toList = some ps)
    (hc : fillP (fun i => some (i * sz, sz)) (List.replicate len zs).flatten ps = some cs) (hle : LeL cs (es.flatten.map PV.t)) (hel : es.length = len) (hes : ∀ e ∈ es, e.length = sz) (hsz : 0 < sz) (hzl : zs.length = sz) (hsm : len * sz ≤ 16777216) (he : es = es') :
    AOp P C n o s ((⟨s.env, s.st.addRow ⟨E, sz, es', false⟩⟩ : AS).putO o.dst (.acc sz es' s.st.rows.length)) := he ▸ AOp.buildSlice ho hd hT hz hp hc hle hel hes hsz hzl hsm
end
theorem keeps_rowsN {C : Ctx} {rs : List PRow} {S : Sto} (h : C.st = ⟨[], rs⟩) (hl : rs.length ≤ S.rows.length) : Keeps0 C.st S := by
  rw [h]
  exact ⟨fun k x hx => by simp at hx, fun k row hk => ⟨S.rows[k]'(Nat.lt_of_lt_of_le (List.getElem?_eq_some_iff.1 hk).1 hl), List.getElem?_eq_getElem _⟩⟩

instance : Inhabited GInstanceRef := ⟨.mk 0 0⟩
theorem GInstanceRef.trs_at {l : List GInstanceRef} {k : Nat} (h : k < l.length) : (GInstanceRef.trs l)[k]? = some (atD l k).cs := by rw [atD_eq h]; exact GInstanceRef.trs_cs h
instance : Inhabited GSExpr := ⟨.mk ⟨#[]⟩ []⟩
theorem GSExpr.trs_at {l : List GSExpr} {k : Nat} (h : k < l.length) : (GSExpr.trs l)[k]? = some (atD l k).cs := by rw [atD_eq h]; exact GSExpr.trs_cs h
instance : Inhabited GType := ⟨.mk 0 ⟨#[]⟩ []⟩
theorem GType.trs_at {l : List GType} {k : Nat} (h : k < l.length) : (GType.trs l)[k]? = some (atD l k).cs := by rw [atD_eq h]; exact GType.trs_cs h
instance : Inhabited GBinding := ⟨.mk ⟨#[]⟩ default⟩
theorem GBinding.trs_at {l : List GBinding} {k : Nat} (h : k < l.length) : (GBinding.trs l)[k]? = some (atD l k).cs := by rw [atD_eq h]; exact GBinding.trs_cs h
instance : Inhabited GExpr := ⟨.mk 0 ⟨#[]⟩ ⟨#[]⟩ 0 default [] []⟩
theorem GExpr.trs_at {l : List GExpr} {k : Nat} (h : k < l.length) : (GExpr.trs l)[k]? = some (atD l k).cs := by rw [atD_eq h]; exact GExpr.trs_cs h
instance : Inhabited GArm := ⟨.mk ⟨#[]⟩ [] default⟩
theorem GArm.trs_at {l : List GArm} {k : Nat} (h : k < l.length) : (GArm.trs l)[k]? = some (atD l k).cs := by rw [atD_eq h]; exact GArm.trs_cs h
instance : Inhabited GSignature := ⟨.mk ⟨#[]⟩ [] default false [] default⟩
theorem GSignature.trs_at {l : List GSignature} {k : Nat} (h : k < l.length) : (GSignature.trs l)[k]? = some (atD l k).cs := by rw [atD_eq h]; exact GSignature.trs_cs h
instance : Inhabited GTrait := ⟨.mk ⟨#[]⟩ [] false false []⟩
theorem GTrait.trs_at {l : List GTrait} {k : Nat} (h : k < l.length) : (GTrait.trs l)[k]? = some (atD l k).cs := by rw [atD_eq h]; exact GTrait.trs_cs h
instance : Inhabited GConstructor := ⟨.mk ⟨#[]⟩ []⟩
theorem GConstructor.trs_at {l : List GConstructor} {k : Nat} (h : k < l.length) : (GConstructor.trs l)[k]? = some (atD l k).cs := by rw [atD_eq h]; exact GConstructor.trs_cs h
instance : Inhabited GDataType := ⟨.mk ⟨#[]⟩ [] []⟩
theorem GDataType.trs_at {l : List GDataType} {k : Nat} (h : k < l.length) : (GDataType.trs l)[k]? = some (atD l k).cs := by rw [atD_eq h]; exact GDataType.trs_cs h
instance : Inhabited GBound := ⟨.mk ⟨#[]⟩ default⟩
theorem GBound.trs_at {l : List GBound} {k : Nat} (h : k < l.length) : (GBound.trs l)[k]? = some (atD l k).cs := by rw [atD_eq h]; exact GBound.trs_cs h
instance : Inhabited GMethod := ⟨.mk ⟨#[]⟩ [] default⟩
theorem GMethod.trs_at {l : List GMethod} {k : Nat} (h : k < l.length) : (GMethod.trs l)[k]? = some (atD l k).cs := by rw [atD_eq h]; exact GMethod.trs_cs h
instance : Inhabited GInstance := ⟨.mk ⟨#[]⟩ [] default [] false false default []⟩
theorem GInstance.trs_at {l : List GInstance} {k : Nat} (h : k < l.length) : (GInstance.trs l)[k]? = some (atD l k).cs := by rw [atD_eq h]; exact GInstance.trs_cs h
instance : Inhabited GParam := ⟨.mk ⟨#[]⟩ default⟩
theorem GParam.trs_at {l : List GParam} {k : Nat} (h : k < l.length) : (GParam.trs l)[k]? = some (atD l k).cs := by rw [atD_eq h]; exact GParam.trs_cs h
instance : Inhabited GFunction := ⟨.mk ⟨#[]⟩ [] [] [] default default⟩
theorem GFunction.trs_at {l : List GFunction} {k : Nat} (h : k < l.length) : (GFunction.trs l)[k]? = some (atD l k).cs := by rw [atD_eq h]; exact GFunction.trs_cs h
instance : Inhabited GPackage := ⟨.mk ⟨#[]⟩ [] [] [] [] []⟩
theorem GPackage.trs_at {l : List GPackage} {k : Nat} (h : k < l.length) : (GPackage.trs l)[k]? = some (atD l k).cs := by rw [atD_eq h]; exact GPackage.trs_cs h
instance : Inhabited GProgram := ⟨.mk []⟩
theorem GProgram.trs_at {l : List GProgram} {k : Nat} (h : k < l.length) : (GProgram.trs l)[k]? = some (atD l k).cs := by rw [atD_eq h]; exact GProgram.trs_cs h
instance : Inhabited GEvidence := ⟨.mk 0 0 default []⟩
theorem GEvidence.trs_at {l : List GEvidence} {k : Nat} (h : k < l.length) : (GEvidence.trs l)[k]? = some (atD l k).cs := by rw [atD_eq h]; exact GEvidence.trs_cs h
instance : Inhabited GAssumption := ⟨.mk default 0 []⟩
theorem GAssumption.trs_at {l : List GAssumption} {k : Nat} (h : k < l.length) : (GAssumption.trs l)[k]? = some (atD l k).cs := by rw [atD_eq h]; exact GAssumption.trs_cs h
instance : Inhabited GCache := ⟨.mk [] [] []⟩
theorem GCache.trs_at {l : List GCache} {k : Nat} (h : k < l.length) : (GCache.trs l)[k]? = some (atD l k).cs := by rw [atD_eq h]; exact GCache.trs_cs h
end Go.Proofs.Ytoifjkggpanceaa

namespace Go.Proofs.Ytoifjkggpanceaa
set_option linter.unusedSimpArgs false
set_option linter.unusedVariables false

/-- It holds of all great enough numbers. -/
def Evt (P : Nat → Prop) : Prop := ∃ N, ∀ n, N ≤ n → P n
theorem Evt.all {P : Nat → Prop} (h : ∀ n, P n) : Evt P := ⟨0, fun n _ => h n⟩
theorem Evt.and {P Q : Nat → Prop} (h : Evt P) (k : Evt Q) : Evt fun n => P n ∧ Q n := by
  obtain ⟨a, h⟩ := h
  obtain ⟨b, k⟩ := k
  exact ⟨max a b, fun n hn => ⟨h n (by omega), k n (by omega)⟩⟩
theorem Evt.imp {P Q : Nat → Prop} (h : Evt P) (k : ∀ n, P n → Q n) : Evt Q := by
  obtain ⟨a, h⟩ := h
  exact ⟨a, fun n hn => k n (h n hn)⟩
theorem Evt.imp2 {P Q R : Nat → Prop} (h : Evt P) (h2 : Evt Q) (k : ∀ n, P n → Q n → R n) : Evt R := (h.and h2).imp fun n hn => k n hn.1 hn.2
theorem Evt.succ {P : Nat → Prop} (h : Evt fun n => P (n + 1)) : Evt P := by
  obtain ⟨a, h⟩ := h
  exact ⟨a + 1, fun n hn => by
    obtain ⟨m, rfl⟩ : ∃ m, n = m + 1 := ⟨n - 1, by omega⟩
    exact h m (by omega)⟩
theorem Evt.list {α : Type} {P : α → Nat → Prop} : ∀ {l : List α}, (∀ x ∈ l, Evt (P x)) → Evt fun n => ∀ x ∈ l, P x n
  | [], _ => .all fun n x hx => by simp at hx
  | a :: l, h => ((h a (by simp)).and (Evt.list (l := l) fun x hx => h x (List.mem_cons_of_mem _ hx))).imp fun n hn x hx => by
    rcases List.mem_cons.1 hx with rfl | hx
    · exact hn.1
    · exact hn.2 x hx
/-- .. of each index below n. -/
theorem Evt.below {P : Nat → Nat → Prop} : ∀ {k : Nat}, (∀ i, i < k → Evt (P i)) → Evt fun n => ∀ i, i < k → P i n
  | 0, _ => .all fun n i hi => by omega
  | k + 1, h => ((h k (by omega)).and (Evt.below (k := k) fun i hi => h i (Nat.lt_succ_of_lt hi))).imp fun n hn i hi => by
    rcases Nat.lt_or_ge i k with h1 | h1
    · exact hn.2 i h1
    · obtain rfl : i = k := by omega
      exact hn.1
theorem Evt.get {P : Nat → Prop} (h : Evt P) : ∃ n, P n := by
  obtain ⟨a, h⟩ := h
  exact ⟨a, h a (Nat.le_refl _)⟩

section
variable {α σ β : Type} [Inhabited α] {f : Nat → σ → Option (LR σ β)}
theorem atD_mem {l : List α} {i : Nat} (h : i < l.length) : atD l i ∈ l := by rw [atD_eq h]; exact List.getElem_mem h
theorem drop_atD {l : List α} {i : Nat} (h : i < l.length) : l.drop i = atD l i :: l.drop (i + 1) := by rw [atD_eq h]; exact List.drop_eq_getElem_cons h
theorem take_atD {l : List α} {i : Nat} (h : i < l.length) : l.take (i + 1) = l.take i ++ [atD l i] := by rw [atD_eq h]; exact List.take_succ_eq_append_getElem h
/-- One round that goes on. -/
theorem loopN_step {n i : Nat} {s s' : σ} (h : i < n) (e : f i s = some (.next s')) : loopN f (n - i) i s = loopN f (n - (i + 1)) (i + 1) s' := loopN_next h rfl e
theorem loopN_out {n i : Nat} {s : σ} {x : β} (h : i < n) (e : f i s = some (.ret x)) : loopN f (n - i) i s = some (.inl x) := loopN_ret h rfl e
theorem loopN_off {n i : Nat} {s s' : σ} (h : i < n) (e : f i s = some (.brk s')) : loopN f (n - i) i s = some (.inr s') := loopN_brk h rfl e
theorem loopN_all {n i : Nat} {s : σ} (h : n ≤ i) : loopN f (n - i) i s = some (.inr s) := loopN_end h rfl
/-- A loop over a list, as a fold; P: what holds at the head of each round. -/
theorem loopN_fold {l : List α} {g : σ → α → σ} (P : Nat → σ → Prop) (hs : ∀ i s, i < l.length → P i s → f i s = some (.next (g s (atD l i))) ∧ P (i + 1) (g s (atD l i))) :
    ∀ (k i : Nat) (s : σ), l.length - i = k → P i s → loopN f (l.length - i) i s = some (.inr ((l.drop i).foldl g s))
  | 0, i, s, hk, _ => by
    rw [loopN_all (by omega), List.drop_of_length_le (by omega), List.foldl_nil]
  | k + 1, i, s, hk, hp => by
    have hi : i < l.length := by omega
    obtain ⟨h1, h2⟩ := hs i s hi hp
    rw [loopN_step hi h1, drop_atD hi, List.foldl_cons]
    exact loopN_fold P hs k (i + 1) _ (by omega) h2
theorem loopN_fold0 {l : List α} {g : σ → α → σ} (P : Nat → σ → Prop) (hs : ∀ i s, i < l.length → P i s → f i s = some (.next (g s (atD l i))) ∧ P (i + 1) (g s (atD l i))) {s : σ} (h0 : P 0 s) : loopN f (l.length - 0) 0 s = some (.inr (l.foldl g s)) := by
  have := loopN_fold P hs l.length 0 s (by omega) h0
  rwa [List.drop_zero] at this
/-- A loop over a list that leaves at the first element of a kind. -/
theorem loopN_find {l : List α} {p : α → Bool} {r : α → β} {s : σ} (hs : ∀ i, i < l.length → f i s = if p (atD l i) then some (.ret (r (atD l i))) else some (.next s)) :
    ∀ (k i : Nat), l.length - i = k → loopN f (l.length - i) i s = some (match (l.drop i).find? p with | some x => .inl (r x) | none => .inr s)
  | 0, i, hk => by
    rw [loopN_all (by omega), List.drop_of_length_le (by omega), List.find?_nil]
  | k + 1, i, hk => by
    have hi : i < l.length := by omega
    have h1 := hs i hi
    rw [drop_atD hi, List.find?_cons]
    cases hp : p (atD l i)
    · rw [hp] at h1
      rw [loopN_step hi (by simpa using h1)]
      exact loopN_find hs k (i + 1) (by omega)
    · rw [hp] at h1
      rw [loopN_out hi (by simpa using h1)]
theorem loopN_find0 {l : List α} {p : α → Bool} {r : α → β} {s : σ} (hs : ∀ i, i < l.length → f i s = if p (atD l i) then some (.ret (r (atD l i))) else some (.next s)) : loopN f (l.length - 0) 0 s = some (match l.find? p with | some x => .inl (r x) | none => .inr s) := by
  have := loopN_find hs l.length 0 (by omega)
  rwa [List.drop_zero] at this
/-- A loop over a list whose every element must pass; what is returned where one does not hangs on nothing. -/
theorem loopN_every {l : List α} {p : α → Bool} {r : β} {s : σ} (hs : ∀ i, i < l.length → f i s = if p (atD l i) then some (.next s) else some (.ret r)) : loopN f (l.length - 0) 0 s = some (if l.all p then .inr s else .inl r) := by
  rw [loopN_find0 (p := fun x => !p x) (r := fun _ => r) (fun i hi => by rw [hs i hi]; cases p (atD l i) <;> rfl)]
  cases h : l.find? (fun x => !p x) with
  | none =>
    rw [List.find?_eq_none] at h
    rw [if_pos (by rw [List.all_eq_true]; intro x hx; have := h x hx; simpa using this)]
  | some x =>
    have h1 := List.find?_some h
    have h2 := List.mem_of_find?_eq_some h
    rw [if_neg (by rw [List.all_eq_true]; intro hc; have := hc x h2; simp [this] at h1)]
end
end Go.Proofs.Ytoifjkggpanceaa

namespace Go.Proofs.Ytoifjkggpanceaa
open Go.RowKit Go.Proofs
set_option linter.unusedSimpArgs false
set_option linter.unusedVariables false

noncomputable def sEqualType_G (fu : Nat) (r_sEqualType : GType → GType → Option Bool) (r_sl4Same : (List GType) → (List GType) → Option Bool) (pa : GType) (pb : GType) : Option Bool :=
 sw (decide ((pa.gKind : Int) = pb.gKind))
 (sw (decide (pa.gName = pb.gName))
 (bd (r_sl4Same pa.gArgs pb.gArgs) (fun x6 =>
 some x6))
 (some false))
 (some false)
set_option maxRecDepth 100000 in
set_option maxHeartbeats 4000000 in
theorem sEqualType_step (r_sEqualType : GType → GType → Option Bool) (r_sl4Same : (List GType) → (List GType) → Option Bool) (fu : Nat) (h_sEqualType : ∀ (pa : GType) (pb : GType) (r : Bool), r_sEqualType pa pb = some r → AFun Try.prog 169 [(GType.pv pa), (GType.pv pb)] (.t (.leaf (.bool (r))) : PV)) (h_sl4Same : ∀ (pa : List GType) (pb : List GType) (r : Bool), r_sl4Same pa pb = some r → AFun Try.prog 206 [.t (.row 3 (GType.trs (pa))), .t (.row 3 (GType.trs (pb)))] (.t (.leaf (.bool (r))) : PV)) (pa : GType) (pb : GType) (r : Bool) (H : sEqualType_G fu r_sEqualType r_sl4Same pa pb = some r) : AFun Try.prog 169 [(GType.pv pa), (GType.pv pb)] (.t (.leaf (.bool (r))) : PV) := by
  refine ACalls.intro Try.func169 rfl (by first | decide | (simp; done) | (simp; decide)) ?_
  intro C hC
  refine AWP.seq ?_
  refine AWP.region_lit ?_
  refine AL.cons rfl (AOp.box (cs := [.t (.leaf (.int .i64 (pa.gKind))), .t (.leaf (.string (pa.gName))), .t (.row 3 (GType.trs (pa.gArgs)))]) rfl rfl rfl rfl rfl) ?_
  refine AL.cons rfl (AOp.box (cs := [.t (.leaf (.int .i64 (pb.gKind))), .t (.leaf (.string (pb.gName))), .t (.row 3 (GType.trs (pb.gArgs)))]) rfl rfl rfl rfl rfl) ?_
  refine AL.cons rfl (AOp.move (.inr rfl) rfl rfl) ?_
  refine AL.nil ?_
  refine AWP.seq ?_
  refine AWP.region_lit ?_
  refine AL.cons rfl (AOp.fieldPtr (k := 0) (d := 0) (e := 0) rfl rfl rfl fo32_0) ?_
  refine AL.cons rfl (AOp.loadPtr1 rfl rfl rfl rfl sh3 rfl) ?_
  refine AL.cons rfl (AOp.fieldPtr (k := 1) (d := 0) (e := 0) rfl rfl rfl fo32_0) ?_
  refine AL.cons rfl (AOp.loadPtr1 rfl rfl rfl rfl sh3 rfl) ?_
  refine AL.cons rfl (AOp.eqlI rfl rfl rfl rfl) ?_
  refine AL.cons rfl (AOp.move (.inl rfl) rfl rfl) ?_
  refine AL.splitB 10 rfl (fun g1 => ?_) (fun g1 => ?_)
  · skip
    refine AL.cons_gv rfl rfl rfl g1 (AOp.fieldPtr (k := 0) (d := 0) (e := 1) rfl rfl rfl fo32_1) ?_
    refine AL.cons_gv rfl rfl rfl g1 (AOp.loadPtr1 rfl rfl rfl rfl sh9 rfl) ?_
    refine AL.cons_gv rfl rfl rfl g1 (AOp.fieldPtr (k := 1) (d := 0) (e := 1) rfl rfl rfl fo32_1) ?_
    refine AL.cons_gv rfl rfl rfl g1 (AOp.loadPtr1 rfl rfl rfl rfl sh9 rfl) ?_
    refine AL.cons_gv rfl rfl rfl g1 (AOp.eqlS rfl rfl rfl rfl) ?_
    refine AL.cons rfl (AOp.pickT rfl rfl rfl g1 rfl) ?_
    refine AL.cons rfl (AOp.move (.inl rfl) rfl rfl) ?_
    refine AL.splitB 17 rfl (fun g2 => ?_) (fun g2 => ?_)
    · skip
      refine AL.cons_gv rfl rfl rfl g2 (AOp.fieldPtr (k := 0) (d := 0) (e := 2) rfl rfl rfl fo32_2) ?_
      refine AL.cons_gv rfl rfl rfl g2 (AOp.loadPtr1 rfl rfl rfl rfl sh30 rfl) ?_
      refine AL.fact (lk_lenN 19 rfl rfl (GType.trs_len _)) (fun hl3 => ?_)
      refine AL.cons_gv rfl rfl rfl g2 (AOp.fieldPtr (k := 1) (d := 0) (e := 2) rfl rfl rfl fo32_2) ?_
      refine AL.cons_gv rfl rfl rfl g2 (AOp.loadPtr1 rfl rfl rfl rfl sh30 rfl) ?_
      refine AL.fact (lk_lenN 21 rfl rfl (GType.trs_len _)) (fun hl4 => ?_)
      rcases hq5 : r_sl4Same pa.gArgs pb.gArgs with _ | x6
      · skip
        have e7 : sEqualType_G fu r_sEqualType r_sl4Same pa pb = none := swT g1 (swT g2 (bdN hq5))
        exact none_some H e7
      · skip
        refine AL.cons_gv rfl rfl rfl g2 (AOp.callF (ps := [_, _]) rfl rfl Try.func206 (by kernel_rfl) rfl rfl (by (repeat' (first | exact PV.Le.refl _ | exact LeL.nil | exact PV.Le.nil _ | exact PV.Le.acc _ _ _ | apply LeL.cons | apply PV.Le.agg | apply PV.Le.tup))) rfl rfl (h_sl4Same pa.gArgs pb.gArgs _ hq5)) ?_
        refine AL.cons rfl (AOp.pickT rfl rfl rfl g2 rfl) ?_
        refine AL.cons rfl (AOp.move (.inr rfl) rfl rfl) ?_
        refine AL.nil ?_
        refine AWP.ret ?_
        have e8 : sEqualType_G fu r_sEqualType r_sl4Same pa pb = some x6 := swT g1 (swT g2 (bdS hq5 (rfl)))
        have hz : x6 = r := Option.some.inj (e8.symm.trans H)
        subst hz
        exact Ends.mk (ps := [_]) (.inr rfl) ⟨rfl, trivial⟩ rfl (StLe.mk' (st' := ⟨[], []⟩) trivial rfl) (keeps_nil hC) (q := (.t (.leaf (.bool (x6))) : PV)) (by (repeat' (first | exact PV.Le.refl _ | exact LeL.nil | exact PV.Le.nil _ | exact PV.Le.acc _ _ _ | apply LeL.cons | apply PV.Le.agg | apply PV.Le.tup))) rfl ⟨rfl, rfl⟩
    · skip
      refine AL.skip_v rfl rfl rfl g2 rfl ?_
      refine AL.skip_v rfl rfl rfl g2 rfl ?_
      refine AL.skip_v rfl rfl rfl g2 rfl ?_
      refine AL.skip_v rfl rfl rfl g2 rfl ?_
      refine AL.skip_v rfl rfl rfl g2 rfl ?_
      refine AL.cons rfl (AOp.pickF rfl rfl rfl g2 rfl) ?_
      refine AL.cons rfl (AOp.move (.inr rfl) rfl rfl) ?_
      refine AL.nil ?_
      refine AWP.ret ?_
      have e9 : sEqualType_G fu r_sEqualType r_sl4Same pa pb = some false := swT g1 (swF g2 (rfl))
      have hz : false = r := Option.some.inj (e9.symm.trans H)
      subst hz
      exact Ends.mk (ps := [_]) (.inr rfl) ⟨rfl, trivial⟩ rfl (StLe.mk' (st' := ⟨[], []⟩) trivial rfl) (keeps_nil hC) (q := (.t (.leaf (.bool (false))) : PV)) (by (repeat' (first | exact PV.Le.refl _ | exact LeL.nil | exact PV.Le.nil _ | exact PV.Le.acc _ _ _ | apply LeL.cons | apply PV.Le.agg | apply PV.Le.tup))) rfl ⟨rfl, rfl⟩
  · skip
    refine AL.skip_v rfl rfl rfl g1 rfl ?_
    refine AL.skip_v rfl rfl rfl g1 rfl ?_
    refine AL.skip_v rfl rfl rfl g1 rfl ?_
    refine AL.skip_v rfl rfl rfl g1 rfl ?_
    refine AL.skip_v rfl rfl rfl g1 rfl ?_
    refine AL.cons rfl (AOp.pickF rfl rfl rfl g1 rfl) ?_
    refine AL.cons rfl (AOp.move (.inl rfl) rfl rfl) ?_
    refine AL.skip_v rfl rfl rfl rfl rfl ?_
    refine AL.skip_v rfl rfl rfl rfl rfl ?_
    refine AL.skip_v rfl rfl rfl rfl rfl ?_
    refine AL.skip_v rfl rfl rfl rfl rfl ?_
    refine AL.skip_v rfl rfl rfl rfl rfl ?_
    refine AL.cons rfl (AOp.pickF rfl rfl rfl rfl rfl) ?_
    refine AL.cons rfl (AOp.move (.inr rfl) rfl rfl) ?_
    refine AL.nil ?_
    refine AWP.ret ?_
    have e10 : sEqualType_G fu r_sEqualType r_sl4Same pa pb = some false := swF g1 (rfl)
    have hz : false = r := Option.some.inj (e10.symm.trans H)
    subst hz
    exact Ends.mk (ps := [_]) (.inr rfl) ⟨rfl, trivial⟩ rfl (StLe.mk' (st' := ⟨[], []⟩) trivial rfl) (keeps_nil hC) (q := (.t (.leaf (.bool (false))) : PV)) (by (repeat' (first | exact PV.Le.refl _ | exact LeL.nil | exact PV.Le.nil _ | exact PV.Le.acc _ _ _ | apply LeL.cons | apply PV.Le.agg | apply PV.Le.tup))) rfl ⟨rfl, rfl⟩
noncomputable def sl4Same_F1 (fu : Nat) (r_sEqualType : GType → GType → Option Bool) (r_sl4Same : (List GType) → (List GType) → Option Bool) (pa : List GType) (pb : List GType) : Nat → Unit → Option (LR Unit Bool) :=
 fun i5 _ => gd (i5 < (pb).length)
 (bd (r_sEqualType (atD pa i5) (atD pb i5)) (fun x10 =>
 sw (!(x10))
 (some (.ret false))
 (some (.next ()))))
noncomputable def sl4Same_R1 (fu : Nat) (r_sEqualType : GType → GType → Option Bool) (r_sl4Same : (List GType) → (List GType) → Option Bool) (pa : List GType) (pb : List GType) : Option (Bool ⊕ Unit) :=
 loopN (sl4Same_F1 fu r_sEqualType r_sl4Same pa pb) (pa.length - 0) 0 ()
noncomputable def sl4Same_G (fu : Nat) (r_sEqualType : GType → GType → Option Bool) (r_sl4Same : (List GType) → (List GType) → Option Bool) (pa : List GType) (pb : List GType) : Option Bool :=
 sw (!decide ((((pa.length : Nat) : Int) : Int) = ((pb.length : Nat) : Int)))
 (some false)
 (so (sl4Same_R1 fu r_sEqualType r_sl4Same pa pb) (fun _ =>
 some true))
set_option maxRecDepth 100000 in
set_option maxHeartbeats 4000000 in
theorem sl4Same_step (r_sEqualType : GType → GType → Option Bool) (r_sl4Same : (List GType) → (List GType) → Option Bool) (fu : Nat) (h_sEqualType : ∀ (pa : GType) (pb : GType) (r : Bool), r_sEqualType pa pb = some r → AFun Try.prog 169 [(GType.pv pa), (GType.pv pb)] (.t (.leaf (.bool (r))) : PV)) (h_sl4Same : ∀ (pa : List GType) (pb : List GType) (r : Bool), r_sl4Same pa pb = some r → AFun Try.prog 206 [.t (.row 3 (GType.trs (pa))), .t (.row 3 (GType.trs (pb)))] (.t (.leaf (.bool (r))) : PV)) (pa : List GType) (pb : List GType) (r : Bool) (H : sl4Same_G fu r_sEqualType r_sl4Same pa pb = some r) : AFun Try.prog 206 [.t (.row 3 (GType.trs (pa))), .t (.row 3 (GType.trs (pb)))] (.t (.leaf (.bool (r))) : PV) := by
  refine ACalls.intro Try.func206 rfl (by first | decide | (simp; done) | (simp; decide)) ?_
  intro C hC
  refine AWP.fact (lk_lenN 0 rfl rfl (GType.trs_len _)) (fun hl1 => ?_)
  refine AWP.fact (lk_lenN 1 rfl rfl (GType.trs_len _)) (fun hl2 => ?_)
  refine AWP.seq ?_
  refine AWP.region_lit ?_
  refine AL.cons rfl (AOp.move (.inr rfl) rfl rfl) ?_
  refine AL.nil ?_
  refine AWP.seq ?_
  refine AWP.seq ?_
  refine AWP.region_lit ?_
  refine AL.cons rfl (AOp.move (.inl rfl) rfl rfl) ?_
  refine AL.cons rfl (AOp.lenN rfl rfl rfl rfl el30 (GType.trs_len _)) ?_
  refine AL.cons rfl (AOp.move (.inl rfl) rfl rfl) ?_
  refine AL.cons rfl (AOp.lenN rfl rfl rfl rfl el30 (GType.trs_len _)) ?_
  refine AL.cons rfl (AOp.neqI rfl rfl rfl rfl) ?_
  refine AL.nil ?_
  refine AWP.cond rfl (fun h3 => ?_) (fun h3 => ?_)
  · skip
    refine AWP.seq ?_
    refine AWP.region_lit ?_
    refine AL.cons rfl (AOp.move (.inr rfl) rfl rfl) ?_
    refine AL.nil ?_
    refine AWP.ret ?_
    have e4 : sl4Same_G fu r_sEqualType r_sl4Same pa pb = some false := swT h3 (rfl)
    have hz : false = r := Option.some.inj (e4.symm.trans H)
    subst hz
    exact Ends.mk (ps := [_]) (.inr rfl) ⟨rfl, trivial⟩ rfl (StLe.mk' (st' := ⟨[], []⟩) trivial rfl) (keeps_nil hC) (q := (.t (.leaf (.bool (false))) : PV)) (by (repeat' (first | exact PV.Le.refl _ | exact LeL.nil | exact PV.Le.nil _ | exact PV.Le.acc _ _ _ | apply LeL.cons | apply PV.Le.agg | apply PV.Le.tup))) rfl ⟨rfl, rfl⟩
  · skip
    refine AWP.skip ?_
    refine AWP.seq ?_
    refine AWP.seq ?_
    refine AWP.region_lit ?_
    refine AL.cons rfl (AOp.move (.inr rfl) rfl rfl) ?_
    refine AL.nil ?_
    refine AWP.cut (ι := Unit) (fun _ => sl4Same_R1 fu r_sEqualType r_sl4Same pa pb = some (.inr ())) (fun _ => ⟨[(4, .t (.leaf (.bool (false))))], ⟨[], []⟩⟩) (by repeat' (first | exact qcEnds | exact ncAWP | exact ncRound | exact ncEx | apply qcThen | apply qcBlock | apply qcCut)) ?_ ?_
    · skip
      refine AWP.block ?_
      refine AWP.loopR (ι := Nat × Unit) (fun (i5, _) => sl4Same_R1 fu r_sEqualType r_sl4Same pa pb = loopN (sl4Same_F1 fu r_sEqualType r_sl4Same pa pb) (pa.length - i5) i5 ()) (fun (i5, _) => ⟨[(0, .t (.row 3 (GType.trs (pa)))), (1, .t (.row 3 (GType.trs (pb)))), (4, .t (.leaf (.bool (false)))), (5, .t (.leaf (.int .i64 (((i5 : Nat) : Int)))))], ⟨[], []⟩⟩) (fun (i5, _) => pa.length - i5) (0, ()) ?_ ?_ ?_
      · exact rfl
      · skip
        exact Wk.mk (StLe.mk' trivial rfl) (keeps_nil hC) ⟨⟨_, rfl, .refl _, rfl⟩, ⟨⟨_, rfl, .refl _, rfl⟩, ⟨⟨_, rfl, .refl _, rfl⟩, ⟨⟨_, rfl, by (repeat' (first | exact PV.Le.refl _ | exact LeL.nil | exact PV.Le.nil _ | exact PV.Le.acc _ _ _ | apply LeL.cons | apply PV.Le.agg | apply PV.Le.tup)), rfl⟩, trivial⟩⟩⟩⟩
      · rintro ⟨i5, ⟨⟩⟩ hJ6
        refine AWP.seq ?_
        refine AWP.seq ?_
        refine AWP.region_lit ?_
        refine AL.cons rfl (AOp.move (.inl rfl) rfl rfl) ?_
        refine AL.cons rfl (AOp.move (.inl rfl) rfl rfl) ?_
        refine AL.cons rfl (AOp.lenN rfl rfl rfl rfl el30 (GType.trs_len _)) ?_
        refine AL.cons rfl (AOp.lss rfl rfl rfl rfl) ?_
        refine AL.nil ?_
        refine AWP.cond rfl (fun h7 => ?_) (fun h7 => ?_)
        · skip
          have h7l : i5 < pa.length := nat_lt_of2 h7
          have h7n := nat_lt_of h7
          refine AWP.skip ?_
          refine AWP.seq ?_
          refine AWP.block ?_
          refine AWP.seq ?_
          rcases Classical.em (i5 < (pb).length) with hg8 | hg8
          · skip
            rcases hq9 : r_sEqualType (atD pa i5) (atD pb i5) with _ | x10
            · skip
              have e11 : (sl4Same_F1 fu r_sEqualType r_sl4Same pa pb) i5 () = none := gdT hg8 (bdN hq9)
              have e12 : sl4Same_R1 fu r_sEqualType r_sl4Same pa pb = none := loopN_non h7l hJ6 e11
              have e13 : sl4Same_G fu r_sEqualType r_sl4Same pa pb = none := swF h3 (soN e12)
              exact none_some H e13
            · skip
              refine AWP.drawnL ⟨_, _, fun _ _ => (⟨[], []⟩ : Sto), fun q' => ([some (.t (.row 3 (GType.trs (pa)))), some (.t (.leaf (.int .i64 (((i5 : Nat) : Int))))), some (.eptr (GType.cs (atD pa i5))), some ((GType.pv (atD pa i5))), some (.t (.row 3 (GType.trs (pb)))), some (.t (.leaf (.int .i64 (((i5 : Nat) : Int))))), some (.eptr (GType.cs (atD pb i5))), some ((GType.pv (atD pb i5))), some (.t (.leaf (.bool (x10)))), some (.t (.leaf (.bool (!(x10)))))] : List (Option PV)).getD q' none, fun q' => ([.q 0 0, .q 0 0, .q 0 0, .q 0 0, .q 0 0, .q 0 0, .q 0 0, .q 0 0, .q 0 0, .q 0 0] : List DK).getD q' (.q 0 0), [], none, fun q' => ([[(0, none)], [(5, none)], [(17, some 0), (18, some 1)], [(19, some 2)], [(1, none)], [(5, none)], [(21, some 4), (22, some 5)], [(23, some 6)], [(24, some 7), (20, some 3)], [(25, some 8)]] : List (List (Nat × Option Nat))).getD q' []⟩ rfl mixed (by kernel_rfl) rfl rfl ⟨?_, ?_, ?_, ?_, ?_, ?_, ?_, ?_, ?_, ?_, trivial⟩ rfl ?_
              · refine .inl ⟨rfl, fun s' jj bb (h1 : 0 ≤ jj) (h2 : jj ≤ 0) hs hl => ?_⟩
                obtain rfl : jj = 0 := by omega
                exact ⟨_, rfl, AOp.move (.inl rfl) rfl (hl 0 none _ (.head _) rfl)⟩
              · refine .inl ⟨rfl, fun s' jj bb (h1 : 0 ≤ jj) (h2 : jj ≤ 0) hs hl => ?_⟩
                obtain rfl : jj = 0 := by omega
                exact ⟨_, rfl, AOp.move (.inl rfl) rfl (hl 5 none _ (.head _) rfl)⟩
              · refine .inl ⟨rfl, fun s' jj bb (h1 : 0 ≤ jj) (h2 : jj ≤ 0) hs hl => ?_⟩
                obtain rfl : jj = 0 := by omega
                exact ⟨_, rfl, AOp.index (k := i5) rfl rfl (hl 17 (some 0) _ (.head _) rfl) rfl (hl 18 (some 1) _ (.tail _ (.head _)) rfl) (GType.trs_at h7n) el30⟩
              · refine .inl ⟨rfl, fun s' jj bb (h1 : 0 ≤ jj) (h2 : jj ≤ 0) hs hl => ?_⟩
                obtain rfl : jj = 0 := by omega
                exact ⟨_, rfl, AOp.loadEptr (ds := [.leaf (.int .i64 ((atD pa i5).gKind)), .leaf (.string ((atD pa i5).gName)), .row 3 (GType.trs ((atD pa i5).gArgs))]) rfl rfl (hl 19 (some 2) _ (.head _) rfl) sh32 rfl rfl⟩
              · refine .inl ⟨rfl, fun s' jj bb (h1 : 0 ≤ jj) (h2 : jj ≤ 0) hs hl => ?_⟩
                obtain rfl : jj = 0 := by omega
                exact ⟨_, rfl, AOp.move (.inl rfl) rfl (hl 1 none _ (.head _) rfl)⟩
              · refine .inl ⟨rfl, fun s' jj bb (h1 : 0 ≤ jj) (h2 : jj ≤ 0) hs hl => ?_⟩
                obtain rfl : jj = 0 := by omega
                exact ⟨_, rfl, AOp.move (.inl rfl) rfl (hl 5 none _ (.head _) rfl)⟩
              · refine .inl ⟨rfl, fun s' jj bb (h1 : 0 ≤ jj) (h2 : jj ≤ 0) hs hl => ?_⟩
                obtain rfl : jj = 0 := by omega
                exact ⟨_, rfl, AOp.index (k := i5) rfl rfl (hl 21 (some 4) _ (.head _) rfl) rfl (hl 22 (some 5) _ (.tail _ (.head _)) rfl) (GType.trs_at hg8) el30⟩
              · refine .inl ⟨rfl, fun s' jj bb (h1 : 0 ≤ jj) (h2 : jj ≤ 0) hs hl => ?_⟩
                obtain rfl : jj = 0 := by omega
                exact ⟨_, rfl, AOp.loadEptr (ds := [.leaf (.int .i64 ((atD pb i5).gKind)), .leaf (.string ((atD pb i5).gName)), .row 3 (GType.trs ((atD pb i5).gArgs))]) rfl rfl (hl 23 (some 6) _ (.head _) rfl) sh32 rfl rfl⟩
              · refine .inl ⟨rfl, fun s' jj bb (h1 : 0 ≤ jj) (h2 : jj ≤ 0) hs hl => ?_⟩
                obtain rfl : jj = 0 := by omega
                exact ⟨_, rfl, AOp.callF (ps := [_, _]) rfl rfl Try.func169 (by kernel_rfl) rfl (evs_cons (hl 20 (some 3) _ (.tail _ (.head _)) rfl) (evs_cons (hl 24 (some 7) _ (.head _) rfl) rfl)) (by (repeat' (first | exact PV.Le.refl _ | exact LeL.nil | exact PV.Le.nil _ | exact PV.Le.acc _ _ _ | apply LeL.cons | apply PV.Le.agg | apply PV.Le.tup))) rfl rfl (h_sEqualType (atD pa i5) (atD pb i5) _ hq9)⟩
              · refine .inl ⟨rfl, fun s' jj bb (h1 : 0 ≤ jj) (h2 : jj ≤ 0) hs hl => ?_⟩
                obtain rfl : jj = 0 := by omega
                exact ⟨_, rfl, AOp.notB rfl rfl (hl 25 (some 8) _ (.head _) rfl)⟩
              refine AWP.cond rfl (fun h14 => ?_) (fun h14 => ?_)
              · skip
                refine AWP.seq ?_
                refine AWP.region_lit ?_
                refine AL.cons rfl (AOp.move (.inr rfl) rfl rfl) ?_
                refine AL.nil ?_
                refine AWP.ret ?_
                have e15 : (sl4Same_F1 fu r_sEqualType r_sl4Same pa pb) i5 () = some (.ret false) := gdT hg8 (bdS hq9 (swT h14 (rfl)))
                have e16 : sl4Same_R1 fu r_sEqualType r_sl4Same pa pb = some (.inl false) := loopN_ret h7l hJ6 e15
                have e17 : sl4Same_G fu r_sEqualType r_sl4Same pa pb = some false := swF h3 (soL e16)
                have hz : false = r := Option.some.inj (e17.symm.trans H)
                subst hz
                exact Ends.mk (ps := [_]) (.inr rfl) ⟨rfl, trivial⟩ rfl (StLe.mk' (st' := ⟨[], []⟩) trivial rfl) (keeps_nil hC) (q := (.t (.leaf (.bool (false))) : PV)) (by (repeat' (first | exact PV.Le.refl _ | exact LeL.nil | exact PV.Le.nil _ | exact PV.Le.acc _ _ _ | apply LeL.cons | apply PV.Le.agg | apply PV.Le.tup))) rfl ⟨rfl, rfl⟩
              · skip
                refine AWP.skip ?_
                refine AWP.region_lit ?_
                refine AL.cons rfl (AOp.move (.inl rfl) rfl rfl) ?_
                refine AL.cons rfl (AOp.addI rfl rfl rfl rfl (c := ((i5 + 1 : Nat) : Int)) (by omega) (by omega)) ?_
                refine AL.cons rfl (AOp.move (.inr rfl) rfl rfl) ?_
                refine AL.nil ?_
                have e18 : (sl4Same_F1 fu r_sEqualType r_sl4Same pa pb) i5 () = some (.next ()) := gdT hg8 (bdS hq9 (swF h14 (rfl)))
                refine ⟨(i5 + 1, ()), loopN_next h7l hJ6 e18, ?_, ?_⟩
                · skip
                  exact Wk.mk (StLe.mk' trivial rfl) (keeps_nil hC) ⟨⟨_, rfl, .refl _, rfl⟩, ⟨⟨_, rfl, .refl _, rfl⟩, ⟨⟨_, rfl, .refl _, rfl⟩, ⟨⟨_, rfl, by (repeat' (first | exact PV.Le.refl _ | exact LeL.nil | exact PV.Le.nil _ | exact PV.Le.acc _ _ _ | apply LeL.cons | apply PV.Le.agg | apply PV.Le.tup)), rfl⟩, trivial⟩⟩⟩⟩
                · dsimp only; omega
          · skip
            have e19 : (sl4Same_F1 fu r_sEqualType r_sl4Same pa pb) i5 () = none := gdF hg8
            have e20 : sl4Same_R1 fu r_sEqualType r_sl4Same pa pb = none := loopN_non h7l hJ6 e19
            have e21 : sl4Same_G fu r_sEqualType r_sl4Same pa pb = none := swF h3 (soN e20)
            exact none_some H e21
        · skip
          have h7l : pa.length ≤ i5 := nat_ge_of2 h7
          refine AWP.exit ?_
          refine ⟨(), loopN_end h7l hJ6, ?_⟩
          exact Wk.mk (StLe.mk' trivial rfl) (keeps_nil hC) ⟨⟨_, rfl, .refl _, rfl⟩, trivial⟩
    · rintro ⟨⟩ hR22
      refine AWP.seq ?_
      refine AWP.region_lit ?_
      refine AL.cons rfl (AOp.move (.inr rfl) rfl rfl) ?_
      refine AL.nil ?_
      refine AWP.ret ?_
      have e23 : sl4Same_G fu r_sEqualType r_sl4Same pa pb = some true := swF h3 (soR hR22 (rfl))
      have hz : true = r := Option.some.inj (e23.symm.trans H)
      subst hz
      exact Ends.mk (ps := [_]) (.inr rfl) ⟨rfl, trivial⟩ rfl (StLe.mk' (st' := ⟨[], []⟩) trivial rfl) (keeps_nil hC) (q := (.t (.leaf (.bool (true))) : PV)) (by (repeat' (first | exact PV.Le.refl _ | exact LeL.nil | exact PV.Le.nil _ | exact PV.Le.acc _ _ _ | apply LeL.cons | apply PV.Le.agg | apply PV.Le.tup))) rfl ⟨rfl, rfl⟩
mutual
noncomputable def sEqualType_M : Nat → GType → GType → Option Bool
  | 0, _, _ => none
  | fu + 1, pa, pb => sEqualType_G fu (sEqualType_M fu) (sl4Same_M fu) pa pb
noncomputable def sl4Same_M : Nat → (List GType) → (List GType) → Option Bool
  | 0, _, _ => none
  | fu + 1, pa, pb => sl4Same_G fu (sEqualType_M fu) (sl4Same_M fu) pa pb
end
theorem sEqualType_all (fu : Nat) : (∀ (pa : GType) (pb : GType) (r : Bool), sEqualType_M fu pa pb = some r → AFun Try.prog 169 [(GType.pv pa), (GType.pv pb)] (.t (.leaf (.bool (r))) : PV)) ∧ (∀ (pa : List GType) (pb : List GType) (r : Bool), sl4Same_M fu pa pb = some r → AFun Try.prog 206 [.t (.row 3 (GType.trs (pa))), .t (.row 3 (GType.trs (pb)))] (.t (.leaf (.bool (r))) : PV)) := by
  induction fu with
  | zero => exact ⟨(fun pa pb r H => by simp only [sEqualType_M] at H; cases H), (fun pa pb r H => by simp only [sl4Same_M] at H; cases H)⟩
  | succ fu ih => exact ⟨(fun pa pb r H => by simp only [sEqualType_M] at H; exact sEqualType_step (sEqualType_M fu) (sl4Same_M fu) fu ih.1 ih.2 pa pb r H), (fun pa pb r H => by simp only [sl4Same_M] at H; exact sl4Same_step (sEqualType_M fu) (sl4Same_M fu) fu ih.1 ih.2 pa pb r H)⟩
theorem sEqualType_ok (fu : Nat) (pa : GType) (pb : GType) (r : Bool) (H : sEqualType_M fu pa pb = some r) : AFun Try.prog 169 [(GType.pv pa), (GType.pv pb)] (.t (.leaf (.bool (r))) : PV) := (sEqualType_all fu).1 pa pb r H
theorem sl4Same_ok (fu : Nat) (pa : List GType) (pb : List GType) (r : Bool) (H : sl4Same_M fu pa pb = some r) : AFun Try.prog 206 [.t (.row 3 (GType.trs (pa))), .t (.row 3 (GType.trs (pb)))] (.t (.leaf (.bool (r))) : PV) := (sEqualType_all fu).2 pa pb r H

noncomputable def sl4Copy_G (fu : Nat) (r_sl4Copy : GType → Option GType) (r_sl4Copies : (List GType) → Option ((List GType))) (pt : GType) : Option GType :=
 bd (r_sl4Copies pt.gArgs) (fun x2 =>
 some (GType.mk pt.gKind pt.gName x2))
set_option maxRecDepth 100000 in
set_option maxHeartbeats 4000000 in
theorem sl4Copy_step (r_sl4Copy : GType → Option GType) (r_sl4Copies : (List GType) → Option ((List GType))) (fu : Nat) (h_sl4Copy : ∀ (pt : GType) (r : GType), r_sl4Copy pt = some r → AFun Try.prog 170 [(GType.pv pt)] ((GType.pv r) : PV)) (h_sl4Copies : ∀ (plist : List GType) (r : (List GType)), r_sl4Copies plist = some r → AFun Try.prog 204 [.t (.row 3 (GType.trs (plist)))] (.t (.row 3 (GType.trs (r))) : PV)) (pt : GType) (r : GType) (H : sl4Copy_G fu r_sl4Copy r_sl4Copies pt = some r) : AFun Try.prog 170 [(GType.pv pt)] ((GType.pv r) : PV) := by
  refine ACalls.intro Try.func170 rfl (by first | decide | (simp; done) | (simp; decide)) ?_
  intro C hC
  refine AWP.seq ?_
  refine AWP.region_lit ?_
  refine AL.cons rfl (AOp.box (cs := [.t (.leaf (.int .i64 (pt.gKind))), .t (.leaf (.string (pt.gName))), .t (.row 3 (GType.trs (pt.gArgs)))]) rfl rfl rfl rfl rfl) ?_
  refine AL.cons rfl (AOp.alloc rfl rfl zr32) ?_
  refine AL.nil ?_
  refine AWP.seq ?_
  rcases hq1 : r_sl4Copies pt.gArgs with _ | x2
  · skip
    have e3 : sl4Copy_G fu r_sl4Copy r_sl4Copies pt = none := bdN hq1
    exact none_some H e3
  · skip
    refine AWP.drawnL ⟨_, _, fun j' _ => ([(⟨[some ⟨32, [.t (.leaf (.int .i64 (pt.gKind))), .t (.leaf (.string (pt.gName))), .t (.row 3 (GType.trs (pt.gArgs)))]⟩, some ⟨32, [.t (.leaf (.int .i64 (0))), .t (.leaf (.string (⟨#[]⟩))), .nil]⟩], []⟩ : Sto), (⟨[some ⟨32, [.t (.leaf (.int .i64 (pt.gKind))), .t (.leaf (.string (pt.gName))), .t (.row 3 (GType.trs (pt.gArgs)))]⟩, some ⟨32, [.t (.leaf (.int .i64 (pt.gKind))), .t (.leaf (.string (pt.gName))), .t (.row 3 (GType.trs (x2)))]⟩], []⟩ : Sto)] : List Sto).getD j' (⟨[some ⟨32, [.t (.leaf (.int .i64 (pt.gKind))), .t (.leaf (.string (pt.gName))), .t (.row 3 (GType.trs (pt.gArgs)))]⟩, some ⟨32, [.t (.leaf (.int .i64 (pt.gKind))), .t (.leaf (.string (pt.gName))), .t (.row 3 (GType.trs (x2)))]⟩], []⟩ : Sto), fun q' => ([some (.ptr 0 0), some (.t (.leaf (.int .i64 (pt.gKind)))), some (.ptr 0 1), some (.t (.leaf (.string (pt.gName)))), some (.ptr 0 2), some (.t (.row 3 (GType.trs (pt.gArgs)))), some (.t (.row 3 (GType.trs (x2)))), some (.agg [.t (.leaf (.int .i64 (pt.gKind))), .t (.leaf (.string (pt.gName))), .t (.row 3 (GType.trs (x2)))]), none] : List (Option PV)).getD q' none, fun q' => ([.q 0 0, .q 0 0, .q 0 0, .q 0 0, .q 0 0, .q 0 0, .q 0 0, .q 0 0, .ef 0] : List DK).getD q' (.q 0 0), [8], none, fun q' => ([[(1, none)], [(3, some 0)], [(1, none)], [(5, some 2)], [(1, none)], [(7, some 4)], [(8, some 5)], [(9, some 6), (6, some 3), (4, some 1)], [(2, none), (10, some 7)]] : List (List (Nat × Option Nat))).getD q' []⟩ rfl mixed (by kernel_rfl) rfl rfl ⟨?_, ?_, ?_, ?_, ?_, ?_, ?_, ?_, ?_, trivial⟩ rfl ?_
    · refine .inl ⟨rfl, fun s' jj bb (h1 : 0 ≤ jj) (h2 : jj ≤ 0) hs hl => ?_⟩
      obtain rfl : jj = 0 := by omega
      exact ⟨_, rfl, AOp.fieldPtr (k := 0) (d := 0) (e := 0) rfl rfl (hl 1 none _ (.head _) rfl) fo32_0⟩
    · refine .inl ⟨rfl, fun s' jj bb (h1 : 0 ≤ jj) (h2 : jj ≤ 0) hs hl => ?_⟩
      obtain rfl : jj = 0 := by omega
      exact ⟨_, rfl, AOp.loadPtr1 rfl rfl (hl 3 (some 0) _ (.head _) rfl) (by rw [hs]; rfl) sh3 rfl⟩
    · refine .inl ⟨rfl, fun s' jj bb (h1 : 0 ≤ jj) (h2 : jj ≤ 0) hs hl => ?_⟩
      obtain rfl : jj = 0 := by omega
      exact ⟨_, rfl, AOp.fieldPtr (k := 0) (d := 0) (e := 1) rfl rfl (hl 1 none _ (.head _) rfl) fo32_1⟩
    · refine .inl ⟨rfl, fun s' jj bb (h1 : 0 ≤ jj) (h2 : jj ≤ 0) hs hl => ?_⟩
      obtain rfl : jj = 0 := by omega
      exact ⟨_, rfl, AOp.loadPtr1 rfl rfl (hl 5 (some 2) _ (.head _) rfl) (by rw [hs]; rfl) sh9 rfl⟩
    · refine .inl ⟨rfl, fun s' jj bb (h1 : 0 ≤ jj) (h2 : jj ≤ 0) hs hl => ?_⟩
      obtain rfl : jj = 0 := by omega
      exact ⟨_, rfl, AOp.fieldPtr (k := 0) (d := 0) (e := 2) rfl rfl (hl 1 none _ (.head _) rfl) fo32_2⟩
    · refine .inl ⟨rfl, fun s' jj bb (h1 : 0 ≤ jj) (h2 : jj ≤ 0) hs hl => ?_⟩
      obtain rfl : jj = 0 := by omega
      exact ⟨_, rfl, AOp.loadPtr1 rfl rfl (hl 7 (some 4) _ (.head _) rfl) (by rw [hs]; rfl) sh30 rfl⟩
    · refine .inl ⟨rfl, fun s' jj bb (h1 : 0 ≤ jj) (h2 : jj ≤ 0) hs hl => ?_⟩
      obtain rfl : jj = 0 := by omega
      exact ⟨_, rfl, AOp.callF (ps := [_]) rfl rfl Try.func204 (by kernel_rfl) rfl (evs_cons (hl 8 (some 5) _ (.head _) rfl) rfl) (by (repeat' (first | exact PV.Le.refl _ | exact LeL.nil | exact PV.Le.nil _ | exact PV.Le.acc _ _ _ | apply LeL.cons | apply PV.Le.agg | apply PV.Le.tup))) rfl rfl (h_sl4Copies pt.gArgs _ hq1)⟩
    · refine .inl ⟨rfl, fun s' jj bb (h1 : 0 ≤ jj) (h2 : jj ≤ 0) hs hl => ?_⟩
      obtain rfl : jj = 0 := by omega
      exact ⟨_, rfl, AOp.build rfl rfl zr32 pl32 (parts_cons (hl 4 (some 1) _ (.tail _ (.tail _ (.head _))) rfl) rfl rfl (parts_cons (hl 6 (some 3) _ (.tail _ (.head _)) rfl) rfl rfl (parts_cons (hl 9 (some 6) _ (.head _) rfl) rfl rfl rfl))) rfl⟩
    · refine .inl ⟨rfl, fun s' bb hs hl => ?_⟩
      refine .inr ⟨rfl, AOp.congr (AOp.storePtr (cs := [.t (.leaf (.int .i64 (pt.gKind))), .t (.leaf (.string (pt.gName))), .t (.row 3 (GType.trs (x2)))]) (ds := [.t (.leaf (.int .i64 (pt.gKind))), .t (.leaf (.string (pt.gName))), .t (.row 3 (GType.trs (x2)))]) rfl (hl 2 none _ (.head _) rfl) (by rw [hs]; rfl) (hl 10 (some 7) _ (.tail _ (.head _)) rfl) rfl rfl rfl sz32 (Nat.le_of_ble_eq_true rfl) rfl) ?_⟩
      first | (rw [hs]; rfl) | rfl
    refine AWP.ret ?_
    have e4 : sl4Copy_G fu r_sl4Copy r_sl4Copies pt = some (GType.mk pt.gKind pt.gName x2) := bdS hq1 (rfl)
    have hz : (GType.mk pt.gKind pt.gName x2) = r := Option.some.inj (e4.symm.trans H)
    subst hz
    exact Ends.mk (ps := [_]) (.inr rfl) ⟨⟨_, _, _, rfl, rfl, sh32, rfl, rfl⟩, trivial⟩ rfl (StLe.mk' (st' := ⟨[], []⟩) trivial rfl) (keeps_nil hC) (q := ((GType.pv (GType.mk pt.gKind pt.gName x2)) : PV)) (by (repeat' (first | exact PV.Le.refl _ | exact LeL.nil | exact PV.Le.nil _ | exact PV.Le.acc _ _ _ | apply LeL.cons | apply PV.Le.agg | apply PV.Le.tup))) rfl ⟨rfl, rfl⟩
noncomputable def sl4Copies_F1 (fu : Nat) (r_sl4Copy : GType → Option GType) (r_sl4Copies : (List GType) → Option ((List GType))) (plist : List GType) : Nat → ((List GType)) → Option (LR ((List GType)) ((List GType))) :=
 fun i2 v4 => bd (r_sl4Copy (atD plist i2)) (fun x9 =>
 gd ((v4).length + (([x9] : List GType)).length ≤ 68719476736)
 (some (.next (v4 ++ ([x9] : List GType)))))
noncomputable def sl4Copies_R1 (fu : Nat) (r_sl4Copy : GType → Option GType) (r_sl4Copies : (List GType) → Option ((List GType))) (plist : List GType) : Option (((List GType)) ⊕ ((List GType))) :=
 loopN (sl4Copies_F1 fu r_sl4Copy r_sl4Copies plist) (plist.length - 0) 0 ([])
noncomputable def sl4Copies_G (fu : Nat) (r_sl4Copy : GType → Option GType) (r_sl4Copies : (List GType) → Option ((List GType))) (plist : List GType) : Option ((List GType)) :=
 so (sl4Copies_R1 fu r_sl4Copy r_sl4Copies plist) (fun v4 =>
 some v4)
set_option maxRecDepth 100000 in
set_option maxHeartbeats 4000000 in
theorem sl4Copies_step (r_sl4Copy : GType → Option GType) (r_sl4Copies : (List GType) → Option ((List GType))) (fu : Nat) (h_sl4Copy : ∀ (pt : GType) (r : GType), r_sl4Copy pt = some r → AFun Try.prog 170 [(GType.pv pt)] ((GType.pv r) : PV)) (h_sl4Copies : ∀ (plist : List GType) (r : (List GType)), r_sl4Copies plist = some r → AFun Try.prog 204 [.t (.row 3 (GType.trs (plist)))] (.t (.row 3 (GType.trs (r))) : PV)) (plist : List GType) (r : (List GType)) (H : sl4Copies_G fu r_sl4Copy r_sl4Copies plist = some r) : AFun Try.prog 204 [.t (.row 3 (GType.trs (plist)))] (.t (.row 3 (GType.trs (r))) : PV) := by
  refine ACalls.intro Try.func204 rfl (by first | decide | (simp; done) | (simp; decide)) ?_
  intro C hC
  refine AWP.fact (lk_lenN 0 rfl rfl (GType.trs_len _)) (fun hl1 => ?_)
  refine AWP.seq ?_
  refine AWP.region_lit ?_
  refine AL.cons rfl (AOp.move (.inr rfl) rfl rfl) ?_
  refine AL.nil ?_
  refine AWP.seq ?_
  refine AWP.region_lit ?_
  refine AL.cons rfl (AOp.buildSliceA (es := []) (es' := GType.trs ([])) (cs := []) rfl rfl el30 zr32 rfl rfl (by (repeat' (first | exact PV.Le.refl _ | exact LeL.nil | exact PV.Le.nil _ | exact PV.Le.acc _ _ _ | apply LeL.cons | apply PV.Le.agg | apply PV.Le.tup))) rfl (by simp [GType.cs]) (by decide) rfl (by decide) (by simp [GType.trs_map, GType.tr_cs])) ?_
  refine AL.cons rfl (AOp.move (.inr rfl) rfl rfl) ?_
  refine AL.nil ?_
  refine AWP.seq ?_
  refine AWP.seq ?_
  refine AWP.region_lit ?_
  refine AL.cons rfl (AOp.move (.inr rfl) rfl rfl) ?_
  refine AL.nil ?_
  refine AWP.fact (lk_lenN 3 rfl rfl (GType.trs_len _)) (fun hl5 => ?_)
  refine AWP.cut (ι := (List GType)) (fun v4 => sl4Copies_R1 fu r_sl4Copy r_sl4Copies plist = some (.inr v4)) (fun v4 => ⟨[(2, .nil), (3, .acc 3 (GType.trs (v4)) 0)], ⟨[], [⟨32, 3, GType.trs (v4), false⟩]⟩⟩) (by repeat' (first | exact qcEnds | exact ncAWP | exact ncRound | exact ncEx | apply qcThen | apply qcBlock | apply qcCut)) ?_ ?_
  · skip
    refine AWP.block ?_
    refine AWP.loopR (ι := Nat × ((List GType))) (fun (i2, v4) => sl4Copies_R1 fu r_sl4Copy r_sl4Copies plist = loopN (sl4Copies_F1 fu r_sl4Copy r_sl4Copies plist) (plist.length - i2) i2 v4) (fun (i2, v4) => ⟨[(0, .t (.row 3 (GType.trs (plist)))), (2, .nil), (3, .acc 3 (GType.trs (v4)) 0), (4, .t (.leaf (.int .i64 (((i2 : Nat) : Int)))))], ⟨[], [⟨32, 3, GType.trs (v4), false⟩]⟩⟩) (fun (i2, v4) => plist.length - i2) (0, ([])) ?_ ?_ ?_
    · exact rfl
    · skip
      exact Wk.mk (StLe.mk' trivial (by first | rfl | simp)) (keeps_nil hC) ⟨⟨_, rfl, .refl _, rfl⟩, ⟨⟨_, rfl, .refl _, rfl⟩, ⟨⟨_, rfl, by (repeat' (first | exact PV.Le.refl _ | exact LeL.nil | exact PV.Le.nil _ | exact PV.Le.acc _ _ _ | apply LeL.cons | apply PV.Le.agg | apply PV.Le.tup)), rfl⟩, ⟨⟨_, rfl, by (repeat' (first | exact PV.Le.refl _ | exact LeL.nil | exact PV.Le.nil _ | exact PV.Le.acc _ _ _ | apply LeL.cons | apply PV.Le.agg | apply PV.Le.tup)), rfl⟩, trivial⟩⟩⟩⟩
    · rintro ⟨i2, v4⟩ hJ6
      refine AWP.seq ?_
      refine AWP.seq ?_
      refine AWP.region_lit ?_
      refine AL.cons rfl (AOp.move (.inl rfl) rfl rfl) ?_
      refine AL.cons rfl (AOp.move (.inl rfl) rfl rfl) ?_
      refine AL.cons rfl (AOp.lenN rfl rfl rfl rfl el30 (GType.trs_len _)) ?_
      refine AL.cons rfl (AOp.lss rfl rfl rfl rfl) ?_
      refine AL.nil ?_
      refine AWP.cond rfl (fun h7 => ?_) (fun h7 => ?_)
      · skip
        have h7l : i2 < plist.length := nat_lt_of2 h7
        have h7n := nat_lt_of h7
        refine AWP.skip ?_
        refine AWP.seq ?_
        refine AWP.block ?_
        refine AWP.region_lit ?_
        refine AL.cons rfl (AOp.move (.inl rfl) rfl rfl) ?_
        refine AL.cons rfl (AOp.move (.inl rfl) rfl rfl) ?_
        refine AL.cons rfl (AOp.move (.inl rfl) rfl rfl) ?_
        refine AL.cons rfl (AOp.index (k := i2) rfl rfl rfl rfl rfl (GType.trs_at h7n) el30) ?_
        refine AL.cons rfl (AOp.loadEptr (ds := [.leaf (.int .i64 ((atD plist i2).gKind)), .leaf (.string ((atD plist i2).gName)), .row 3 (GType.trs ((atD plist i2).gArgs))]) rfl rfl rfl sh32 rfl rfl) ?_
        rcases hq8 : r_sl4Copy (atD plist i2) with _ | x9
        · skip
          have e10 : (sl4Copies_F1 fu r_sl4Copy r_sl4Copies plist) i2 v4 = none := bdN hq8
          have e11 : sl4Copies_R1 fu r_sl4Copy r_sl4Copies plist = none := loopN_non h7l hJ6 e10
          have e12 : sl4Copies_G fu r_sl4Copy r_sl4Copies plist = none := soN e11
          exact none_some H e12
        · skip
          refine AL.cons rfl (AOp.callF (ps := [_]) rfl rfl Try.func170 (by kernel_rfl) rfl rfl (by (repeat' (first | exact PV.Le.refl _ | exact LeL.nil | exact PV.Le.nil _ | exact PV.Le.acc _ _ _ | apply LeL.cons | apply PV.Le.agg | apply PV.Le.tup))) rfl rfl (h_sl4Copy (atD plist i2) _ hq8)) ?_
          refine AL.cons rfl (AOp.buildSliceE (es := [GType.cs x9]) (es' := GType.trs (([x9] : List GType))) (cs := [.t (.leaf (.int .i64 (x9.gKind))), .t (.leaf (.string (x9.gName))), .t (.row 3 (GType.trs (x9.gArgs)))]) rfl rfl el30 zr32 rfl rfl (by (repeat' (first | exact PV.Le.refl _ | exact LeL.nil | exact PV.Le.nil _ | exact PV.Le.acc _ _ _ | apply LeL.cons | apply PV.Le.agg | apply PV.Le.tup))) rfl (by simp [GType.cs]) (by decide) rfl (by decide) (by simp [GType.trs_map, GType.tr_cs])) ?_
          rcases Classical.em ((v4).length + (([x9] : List GType)).length ≤ 68719476736) with hg13 | hg13
          · skip
            refine AL.cons rfl (AOp.appendE (es3 := GType.trs (v4 ++ ([x9] : List GType))) rfl rfl rfl rfl rfl rfl rfl rfl rfl (fun e he => by rw [GType.trs_map] at he; obtain ⟨x, _, rfl⟩ := List.mem_map.1 he; rw [GType.tr_cs]; rfl) el30 ze30 (by decide) (by rw [GType.trs_len, GType.trs_len]; exact room_le hg13 (by decide)) (by rw [GType.trs_map, GType.trs_map, GType.trs_map, List.map_append])) ?_
            refine AL.cons rfl (AOp.move (.inr rfl) rfl rfl) ?_
            refine AL.nil ?_
            refine AWP.region_lit ?_
            refine AL.cons rfl (AOp.move (.inl rfl) rfl rfl) ?_
            refine AL.cons rfl (AOp.addI rfl rfl rfl rfl (c := ((i2 + 1 : Nat) : Int)) (by omega) (by omega)) ?_
            refine AL.cons rfl (AOp.move (.inr rfl) rfl rfl) ?_
            refine AL.nil ?_
            have e14 : (sl4Copies_F1 fu r_sl4Copy r_sl4Copies plist) i2 v4 = some (.next (v4 ++ ([x9] : List GType))) := bdS hq8 (gdT hg13 (rfl))
            refine ⟨(i2 + 1, (v4 ++ ([x9] : List GType))), loopN_next h7l hJ6 e14, ?_, ?_⟩
            · skip
              exact Wk.mk (StLe.mk' trivial (by first | rfl | simp)) (keeps_nil hC) ⟨⟨_, rfl, .refl _, rfl⟩, ⟨⟨_, rfl, .refl _, rfl⟩, ⟨⟨_, rfl, by (repeat' (first | exact PV.Le.refl _ | exact LeL.nil | exact PV.Le.nil _ | exact PV.Le.acc _ _ _ | apply LeL.cons | apply PV.Le.agg | apply PV.Le.tup)), rfl⟩, ⟨⟨_, rfl, by (repeat' (first | exact PV.Le.refl _ | exact LeL.nil | exact PV.Le.nil _ | exact PV.Le.acc _ _ _ | apply LeL.cons | apply PV.Le.agg | apply PV.Le.tup)), rfl⟩, trivial⟩⟩⟩⟩
            · dsimp only; omega
          · skip
            have e15 : (sl4Copies_F1 fu r_sl4Copy r_sl4Copies plist) i2 v4 = none := bdS hq8 (gdF hg13)
            have e16 : sl4Copies_R1 fu r_sl4Copy r_sl4Copies plist = none := loopN_non h7l hJ6 e15
            have e17 : sl4Copies_G fu r_sl4Copy r_sl4Copies plist = none := soN e16
            exact none_some H e17
      · skip
        have h7l : plist.length ≤ i2 := nat_ge_of2 h7
        refine AWP.exit ?_
        refine ⟨v4, loopN_end h7l hJ6, ?_⟩
        exact Wk.mk (StLe.mk' trivial (by first | rfl | simp)) (keeps_nil hC) ⟨⟨_, rfl, .refl _, rfl⟩, ⟨⟨_, rfl, .refl _, rfl⟩, trivial⟩⟩
  · rintro v4 hR18
    refine AWP.seq ?_
    refine AWP.region_lit ?_
    refine AL.cons rfl (AOp.move (.inl rfl) rfl rfl) ?_
    refine AL.cons rfl (AOp.move (.inr rfl) rfl rfl) ?_
    refine AL.nil ?_
    refine AWP.ret ?_
    have e19 : sl4Copies_G fu r_sl4Copy r_sl4Copies plist = some v4 := soR hR18 (rfl)
    have hz : v4 = r := Option.some.inj (e19.symm.trans H)
    subst hz
    exact Ends.mk (ps := [_]) (.inr rfl) ⟨rfl, trivial⟩ rfl (StLe.mk' (st' := ⟨[], []⟩) trivial rfl) (keeps_nil hC) (q := (.t (.row 3 (GType.trs (v4))) : PV)) (by (repeat' (first | exact PV.Le.refl _ | exact LeL.nil | exact PV.Le.nil _ | exact PV.Le.acc _ _ _ | apply LeL.cons | apply PV.Le.agg | apply PV.Le.tup))) rfl ⟨rfl, rfl⟩
mutual
noncomputable def sl4Copy_M : Nat → GType → Option GType
  | 0, _ => none
  | fu + 1, pt => sl4Copy_G fu (sl4Copy_M fu) (sl4Copies_M fu) pt
noncomputable def sl4Copies_M : Nat → (List GType) → Option ((List GType))
  | 0, _ => none
  | fu + 1, plist => sl4Copies_G fu (sl4Copy_M fu) (sl4Copies_M fu) plist
end
theorem sl4Copy_all (fu : Nat) : (∀ (pt : GType) (r : GType), sl4Copy_M fu pt = some r → AFun Try.prog 170 [(GType.pv pt)] ((GType.pv r) : PV)) ∧ (∀ (plist : List GType) (r : (List GType)), sl4Copies_M fu plist = some r → AFun Try.prog 204 [.t (.row 3 (GType.trs (plist)))] (.t (.row 3 (GType.trs (r))) : PV)) := by
  induction fu with
  | zero => exact ⟨(fun pt r H => by simp only [sl4Copy_M] at H; cases H), (fun plist r H => by simp only [sl4Copies_M] at H; cases H)⟩
  | succ fu ih => exact ⟨(fun pt r H => by simp only [sl4Copy_M] at H; exact sl4Copy_step (sl4Copy_M fu) (sl4Copies_M fu) fu ih.1 ih.2 pt r H), (fun plist r H => by simp only [sl4Copies_M] at H; exact sl4Copies_step (sl4Copy_M fu) (sl4Copies_M fu) fu ih.1 ih.2 plist r H)⟩
theorem sl4Copy_ok (fu : Nat) (pt : GType) (r : GType) (H : sl4Copy_M fu pt = some r) : AFun Try.prog 170 [(GType.pv pt)] ((GType.pv r) : PV) := (sl4Copy_all fu).1 pt r H
theorem sl4Copies_ok (fu : Nat) (plist : List GType) (r : (List GType)) (H : sl4Copies_M fu plist = some r) : AFun Try.prog 204 [.t (.row 3 (GType.trs (plist)))] (.t (.row 3 (GType.trs (r))) : PV) := (sl4Copy_all fu).2 plist r H

end Go.Proofs.Ytoifjkggpanceaa

namespace Go.Proofs.Ytoifjkggpanceaa

def eqL {α : Type} (p : α → α → Bool) : List α → List α → Bool
  | [], [] => true
  | a :: l, b :: r => p a b && eqL p l r
  | _, _ => false
theorem eqL_len {α : Type} {p : α → α → Bool} : ∀ {l r : List α}, l.length ≠ r.length → eqL p l r = false
  | [], [], h => absurd rfl h
  | [], _ :: _, _ => rfl
  | _ :: _, [], _ => rfl
  | a :: l, b :: r, h => by simp [eqL, eqL_len (l := l) (r := r) (by simpa using h)]
theorem eqL_step {α : Type} {p : α → α → Bool} {l r : List α} {k : Nat} (h : k < l.length) (h' : k < r.length) : eqL p (l.drop k) (r.drop k) = (p l[k] r[k] && eqL p (l.drop (k + 1)) (r.drop (k + 1))) := by
  rw [List.drop_eq_getElem_cons h, List.drop_eq_getElem_cons h', eqL]
theorem eqL_end {α : Type} {p : α → α → Bool} {l r : List α} (h : l.length = r.length) : eqL p (l.drop l.length) (r.drop l.length) = true := by
  rw [List.drop_length, h, List.drop_length, eqL]

/-- The index of the first element that meets p, counted from i; -1 if there is none. -/
def idxL {α : Type} (p : α → Bool) : List α → Nat → Int
  | [], _ => -1
  | a :: l, i => if p a then i else idxL p l (i + 1)
theorem idxL_step {α : Type} {p : α → Bool} {l : List α} {k : Nat} (h : k < l.length) : idxL p (l.drop k) k = if p l[k] then (k : Int) else idxL p (l.drop (k + 1)) (k + 1) := by
  rw [List.drop_eq_getElem_cons h, idxL]
theorem idxL_any {α : Type} {p : α → Bool} : ∀ (l : List α) (i : Nat), decide (0 ≤ idxL p l i) = l.any p
  | [], i => by simp [idxL]
  | a :: l, i => by
    unfold idxL
    by_cases h : p a
    · simp [h]
    · simp [h, idxL_any l (i + 1)]
theorem idxL_le {α : Type} {p : α → Bool} : ∀ (l : List α) (i : Nat), -1 ≤ idxL p l i ∧ idxL p l i < i + l.length
  | [], i => by simp [idxL]; omega
  | a :: l, i => by
    unfold idxL
    have := idxL_le (p := p) l (i + 1)
    simp only [List.length_cons]
    split <;> omega
end Go.Proofs.Ytoifjkggpanceaa

namespace Go.Proofs.Ytoifjkggpanceaa
open Go.RowKit Go.Proofs


set_option maxRecDepth 100000 in
set_option maxHeartbeats 1000000 in
theorem same_206 {α : Type} (tr : α → List Tr) (p : α → α → Bool) (xs ys : List α) (hl : ∀ x, (tr x).length = 3)
    (H : ∀ x ∈ xs, ∀ y ∈ ys, ∀ cs ds w, RepL w (tr x) cs → RepL w (tr y) ds → Calls Try.prog 169 #[.agg ⟨cs⟩, .agg ⟨ds⟩] w fun e w' => e = .returned (.bool (p x y)) ∧ Ext w w')
    (s u : Value) (w : World) (hs : Rep w (.row 3 (xs.map tr)) s) (hu : Rep w (.row 3 (ys.map tr)) u) :
    Calls Try.prog 206 #[s, u] w fun e w' => e = .returned (.bool (eqL p xs ys)) ∧ Ext w w' := by
  obtain ⟨a, cap, rfl, hlc, hm⟩ := hs.shape
  obtain ⟨a', cap', rfl, hlc', hm'⟩ := hu.shape
  unfold maxLen at hm hm'
  rw [List.length_map] at hlc hlc' ⊢
  rw [List.length_map] at *
  by_cases hlen : xs.length = ys.length
  · have HS := Lib.hid hs
    have HU := Lib.hid hu
    have HH := Lib.hid H
    have HL := Lib.hid hl
    rw [← hlen] at hlc' ⊢
    have HLEN := Lib.hid hlen
    clear hs hu H hl hlen
    go_enter Try.func206, Try.ntmps206
    go_wp2_with fail
    go_loopw [5] (fun i wr => ∃ k : Nat, k ≤ xs.length ∧ i = .int .i64 k ∧ Ext w wr ∧ Hid (eqL p xs ys = eqL p (xs.drop k) (ys.drop k))) (fun i _ => xs.length - (intOf i).toNat)
    case atStart => exact ⟨0, Nat.zero_le _, rfl, .refl _, rfl⟩
    case round =>
      obtain ⟨k, hk, rfl, hw, HE⟩ := hrel
      by_cases hlt : k < xs.length
      · have hlt' : k < ys.length := HLEN.out ▸ hlt
        obtain ⟨b, off, cs, rfl, hb, hcs, hc⟩ := (HS.out.ext hw).at2 (k := k) (e := tr xs[k]) (by rw [List.getElem?_map, List.getElem?_eq_getElem hlt]; rfl)
        obtain ⟨b', off', ds, rfl, hb', hds, hd⟩ := (HU.out.ext hw).at2 (k := k) (e := tr ys[k]) (by rw [List.getElem?_map, List.getElem?_eq_getElem hlt']; rfl)
        have HST := Lib.hid (eqL_step (p := p) hlt hlt')
        have HM := Lib.hid (List.getElem_mem hlt)
        have HM' := Lib.hid (List.getElem_mem hlt')
        have HCS := Lib.hid hcs
        have HDS := Lib.hid hds
        have HC := Lib.hid hc
        have HD := Lib.hid hd
        have HI : Hid ((Try.prog.info? 32).map (·.size) = some cs.length) := by rw [← hcs.length, HL.out]; exact isz32
        have HJ : Hid ((Try.prog.info? 32).map (·.size) = some ds.length) := by rw [← hds.length, HL.out]; exact isz32
        clear hcs hds hc hd
        go_wp2_with fail
        have ki : (k : Int) < (xs.length : Int) := by omega
        have k0 : (0 : Int) ≤ (k : Int) := by omega
        refine wp_region_still_tail 8 (by kernel_rfl) (by kernel_rfl) ?_
        simp only [List.take_succ_cons, List.take_zero, List.drop_succ_cons, List.drop_zero]
        change wpStill _ _ wr.drew _ _ _
        repeat (first
          | (refine wpStill_load_rep rfl 32 (.tmp 19) rfl b (off + k * 3) rfl cs _ Try.underlying32 HI.out HC.out ?_; simp only [Act.put])
          | (refine wpStill_load_rep rfl 32 (.tmp 23) rfl b' (off' + k * 3) rfl ds _ Try.underlying32 HJ.out HD.out ?_; simp only [Act.put])
          | still_step)
        refine wpStill_nil ?_
        change wpList _ _ _ _ _ wr.drew
        go_wp2_with fail
        refine (HH.out _ HM.out _ HM'.out _ _ _ (HCS.out.ext (.drew (.refl _))) (HDS.out.ext (.drew (.refl _)))).mono ?_
        rintro e w1 ⟨rfl, hw1⟩
        have HW1 := Lib.hid (hw.trans (.trans (.drew (.refl _)) hw1))
        clear hw1
        cases hp : p xs[k] ys[k]
        · have HP := Lib.hid hp
          clear hp
          go_wp2_with fail
          go_ret
          exact ⟨ret_bool (by rw [HE.out, HST.out, HP.out]; rfl), HW1.out⟩
        · have HP := Lib.hid hp
          clear hp
          go_wp2_with fail
          go_roundw
          case rel => exact ⟨k + 1, by omega, by go_num, HW1.out, by rw [HE.out, HST.out, HP.out]; rfl⟩
          case measure => simp [intOf]; omega
      · have hkl : k = xs.length := by omega
        go_wp2_with fail
        go_ret
        exact ⟨ret_bool (by rw [HE.out, hkl]; exact (eqL_end HLEN.out).symm), hw⟩
  · have hne : ((xs.length : Int) == (ys.length : Int)) = false := by simp; omega
    have hr := Lib.hid (eqL_len (p := p) hlen)
    clear hlen
    go_enter Try.func206, Try.ntmps206
    go_wp2_with fail
    go_ret
    exact ⟨ret_bool hr.out.symm, .refl _⟩


set_option maxRecDepth 100000 in
set_option maxHeartbeats 1000000 in
theorem equalFunc_178 {α : Type} (tr : α → List Tr) (p : α → α → Bool) (xs ys : List α) (g : FuncId) (hg : ∀ (args : Array Value) (w : World), (callFunc g args).run Try.prog w = .ok (.enter g args) w) (hl : ∀ x, (tr x).length = 3)
    (H : ∀ x ∈ xs, ∀ y ∈ ys, ∀ cs ds w, RepL w (tr x) cs → RepL w (tr y) ds → Calls Try.prog g #[.agg ⟨cs⟩, .agg ⟨ds⟩] w fun e w' => e = .returned (.bool (p x y)) ∧ Ext w w')
    (s u : Value) (w : World) (hs : Rep w (.row 3 (xs.map tr)) s) (hu : Rep w (.row 3 (ys.map tr)) u) :
    Calls Try.prog 178 #[s, u, .func (.func g) #[] #[]] w fun e w' => e = .returned (.bool (eqL p xs ys)) ∧ Ext w w' := by
  obtain ⟨a, cap, rfl, hlc, hm⟩ := hs.shape
  obtain ⟨a', cap', rfl, hlc', hm'⟩ := hu.shape
  unfold maxLen at hm hm'
  rw [List.length_map] at hlc hlc' ⊢
  rw [List.length_map] at *
  by_cases hlen : xs.length = ys.length
  · have HS := Lib.hid hs
    have HU := Lib.hid hu
    have HH := Lib.hid H
    have HL := Lib.hid hl
    rw [← hlen] at hlc' ⊢
    have HLEN := Lib.hid hlen
    clear hs hu H hl hlen
    go_enter Try.func178, Try.ntmps178
    go_wp2_with fail
    go_loopw [7, 17] (fun _ i wr => ∃ k : Nat, k ≤ xs.length ∧ i = .int .i64 k ∧ Ext w wr ∧ Hid (eqL p xs ys = eqL p (xs.drop k) (ys.drop k))) (fun _ i _ => xs.length - (intOf i).toNat)
    case atStart => exact ⟨0, Nat.zero_le _, rfl, .refl _, rfl⟩
    case round =>
      obtain ⟨k, hk, rfl, hw, HE⟩ := hrel
      by_cases hlt : k < xs.length
      · have hlt' : k < ys.length := HLEN.out ▸ hlt
        obtain ⟨b, off, cs, rfl, hb, hcs, hc⟩ := (HS.out.ext hw).at2 (k := k) (e := tr xs[k]) (by rw [List.getElem?_map, List.getElem?_eq_getElem hlt]; rfl)
        obtain ⟨b', off', ds, rfl, hb', hds, hd⟩ := (HU.out.ext hw).at2 (k := k) (e := tr ys[k]) (by rw [List.getElem?_map, List.getElem?_eq_getElem hlt']; rfl)
        have HST := Lib.hid (eqL_step (p := p) hlt hlt')
        have HM := Lib.hid (List.getElem_mem hlt)
        have HM' := Lib.hid (List.getElem_mem hlt')
        have HCS := Lib.hid hcs
        have HDS := Lib.hid hds
        have HC := Lib.hid hc
        have HD := Lib.hid hd
        have HCL : Hid (cs.length = 3) := by rw [← hcs.length, HL.out]; rfl
        have HDL : Hid (ds.length = 3) := by rw [← hds.length, HL.out]; rfl
        have HI : Hid ((Try.prog.info? 32).map (·.size) = some cs.length) := by rw [HCL.out]; exact isz32
        have HJ : Hid ((Try.prog.info? 32).map (·.size) = some ds.length) := by rw [HDL.out]; exact isz32
        clear hcs hds hc hd
        go_wp2_with (first
          | (refine wpList_load_rep rfl 32 (.tmp 20) rfl b (off + k * 3) rfl cs _ Try.underlying32 HI.out HC.out ?_)
          | (refine wpList_store_rep rfl 32 (.tmp 8) (.tmp 21) rfl wr.heap.size 0 rfl cs rfl 32 _ (OB.new wr _ _) HI.out (by rw [HCL.out]; exact Nat.le_refl _) HCS.out.one ?_; intro wb hob hgb hzb; rw [splice_whole (by rw [HCL.out]; rfl)] at hob; have HOB := Lib.hid hob; have HXB := Lib.hid (grown_ext (.alloc (.refl wr) _) hgb (Nat.le_refl _)); have HZB : Hid (wr.heap.size < wb.heap.size) := hob.lt; clear hob hgb hzb)
          | (refine wpList_load_rep rfl 32 (.tmp 24) rfl b' (off' + k * 3) rfl ds _ Try.underlying32 HJ.out (cells_ext HXB.out hb' HD.out) ?_)
          | (refine wpList_store_rep rfl 32 (.tmp 9) (.tmp 25) rfl wb.heap.size 0 rfl ds rfl 32 _ (OB.new wb _ _) HJ.out (by rw [HDL.out]; exact Nat.le_refl _) HDS.out.one ?_; intro wc hoc hgc hzc; rw [splice_whole (by rw [HDL.out]; rfl)] at hoc; have HOC := Lib.hid hoc; have HXC := Lib.hid (HXB.out.trans (grown_ext (.alloc (.refl wb) _) hgc (Nat.le_refl _))); have HOD := Lib.hid (HOB.out.ext (grown_ext (.alloc (.refl wb) _) hgc (Nat.le_refl _))); clear hoc hgc hzc)
          | (refine wpList_load_rep rfl 32 (.tmp 8) rfl wr.heap.size 0 rfl cs _ Try.underlying32 HI.out HOD.out.cells0 ?_)
          | (refine wpList_load_rep rfl 32 (.tmp 9) rfl wb.heap.size 0 rfl ds _ Try.underlying32 HJ.out HOC.out.cells0 ?_))
        refine (HH.out _ HM.out _ HM'.out _ _ _ (HCS.out.ext HXC.out) (HDS.out.ext HXC.out)).mono ?_
        rintro e w1 ⟨rfl, hw1⟩
        have HW1 := Lib.hid (hw.trans (HXC.out.trans hw1))
        clear hw1
        cases hp : p xs[k] ys[k]
        · have HP := Lib.hid hp
          clear hp
          go_wp2_with fail
          go_ret
          exact ⟨ret_bool (by rw [HE.out, HST.out, HP.out]; rfl), HW1.out⟩
        · have HP := Lib.hid hp
          clear hp
          go_wp2_with fail
          go_roundw
          case rel => exact ⟨k + 1, by omega, by go_num, HW1.out, by rw [HE.out, HST.out, HP.out]; rfl⟩
          case measure => simp [intOf]; omega
      · have hkl : k = xs.length := by omega
        go_wp2_with fail
        go_ret
        exact ⟨ret_bool (by rw [HE.out, hkl]; exact (eqL_end HLEN.out).symm), hw⟩
  · have hne : ((xs.length : Int) == (ys.length : Int)) = false := by simp; omega
    have hr := Lib.hid (eqL_len (p := p) hlen)
    clear hlen
    go_enter Try.func178, Try.ntmps178
    go_wp2_with fail
    go_ret
    exact ⟨ret_bool hr.out.symm, .refl _⟩


set_option maxRecDepth 100000 in
set_option maxHeartbeats 1000000 in
theorem indexFunc_112 {α : Type} (tr : α → List Tr) (p : α → Bool) (xs : List α) (g : FuncId) (caps : Array Value) (hg : ∀ (args : Array Value) (w : World), (callFunc g args).run Try.prog w = .ok (.enter g args) w) (hl : ∀ x, (tr x).length = 6) (s : Value) (w : World)
    (H : ∀ x ∈ xs, ∀ cs w', Ext w w' → RepL w' (tr x) cs → Calls Try.prog g (#[.agg ⟨cs⟩] ++ caps) w' fun e w'' => e = .returned (.bool (p x)) ∧ Ext w' w'')
    (hs : Rep w (.row 6 (xs.map tr)) s) :
    Calls Try.prog 112 #[s, .func (.func g) #[] caps] w fun e w' => e = .returned (.int .i64 (idxL p xs 0)) ∧ Ext w w' := by
  obtain ⟨a, cap, rfl, hlc, hm⟩ := hs.shape
  unfold maxLen at hm
  rw [List.length_map] at hlc ⊢
  rw [List.length_map] at hs
  have HS := Lib.hid hs
  have HH := Lib.hid H
  have HL := Lib.hid hl
  clear hs H hl
  go_enter Try.func112, Try.ntmps112
  go_wp2_with fail
  go_loopw [5, 8] (fun _ i wr => ∃ k : Nat, k ≤ xs.length ∧ i = .int .i64 k ∧ Ext w wr ∧ Hid (idxL p xs 0 = idxL p (xs.drop k) k)) (fun _ i _ => xs.length - (intOf i).toNat)
  case atStart => exact ⟨0, Nat.zero_le _, rfl, .refl _, rfl⟩
  case round =>
    obtain ⟨k, hk, rfl, hw, HE⟩ := hrel
    by_cases hlt : k < xs.length
    · obtain ⟨b, off, cs, rfl, hb, hcs, hc⟩ := (HS.out.ext hw).at2 (k := k) (e := tr xs[k]) (by rw [List.getElem?_map, List.getElem?_eq_getElem hlt]; rfl)
      have HST := Lib.hid (idxL_step (p := p) hlt)
      have HM := Lib.hid (List.getElem_mem hlt)
      have HCS := Lib.hid hcs
      have HC := Lib.hid hc
      have HI : Hid ((Try.prog.info? 159).map (·.size) = some cs.length) := by rw [← hcs.length, HL.out]; exact isz159
      clear hcs hc
      go_wp2_with (refine wpList_load_rep rfl 159 (.tmp 14) rfl b (off + k * 6) rfl cs _ Try.underlying159 HI.out HC.out ?_)
      refine (HH.out _ HM.out _ _ hw HCS.out).mono ?_
      rintro e w1 ⟨rfl, hw1⟩
      have HW1 := Lib.hid (hw.trans hw1)
      clear hw1
      cases hp : p xs[k]
      · have HP := Lib.hid hp
        clear hp
        go_wp2_with fail
        go_roundw
        case rel => exact ⟨k + 1, by omega, by go_num, HW1.out, by rw [HE.out, HST.out, HP.out]; rfl⟩
        case measure => simp [intOf]; omega
      · have HP := Lib.hid hp
        clear hp
        go_wp2_with fail
        go_ret
        exact ⟨ret_int (by rw [HE.out, HST.out, HP.out]; rfl), HW1.out⟩
    · have hkl : k = xs.length := by omega
      go_wp2_with fail
      go_ret
      exact ⟨ret_int (by rw [HE.out, hkl, List.drop_length]; rfl), hw⟩


set_option maxRecDepth 100000 in
set_option maxHeartbeats 1000000 in
theorem indexFunc_135 {α : Type} (tr : α → List Tr) (p : α → Bool) (xs : List α) (g : FuncId) (caps : Array Value) (hg : ∀ (args : Array Value) (w : World), (callFunc g args).run Try.prog w = .ok (.enter g args) w) (hl : ∀ x, (tr x).length = 4) (s : Value) (w : World)
    (H : ∀ x ∈ xs, ∀ cs w', Ext w w' → RepL w' (tr x) cs → Calls Try.prog g (#[.agg ⟨cs⟩] ++ caps) w' fun e w'' => e = .returned (.bool (p x)) ∧ Ext w' w'')
    (hs : Rep w (.row 4 (xs.map tr)) s) :
    Calls Try.prog 135 #[s, .func (.func g) #[] caps] w fun e w' => e = .returned (.int .i64 (idxL p xs 0)) ∧ Ext w w' := by
  obtain ⟨a, cap, rfl, hlc, hm⟩ := hs.shape
  unfold maxLen at hm
  rw [List.length_map] at hlc ⊢
  rw [List.length_map] at hs
  have HS := Lib.hid hs
  have HH := Lib.hid H
  have HL := Lib.hid hl
  clear hs H hl
  go_enter Try.func135, Try.ntmps135
  go_wp2_with fail
  go_loopw [5, 8] (fun _ i wr => ∃ k : Nat, k ≤ xs.length ∧ i = .int .i64 k ∧ Ext w wr ∧ Hid (idxL p xs 0 = idxL p (xs.drop k) k)) (fun _ i _ => xs.length - (intOf i).toNat)
  case atStart => exact ⟨0, Nat.zero_le _, rfl, .refl _, rfl⟩
  case round =>
    obtain ⟨k, hk, rfl, hw, HE⟩ := hrel
    by_cases hlt : k < xs.length
    · obtain ⟨b, off, cs, rfl, hb, hcs, hc⟩ := (HS.out.ext hw).at2 (k := k) (e := tr xs[k]) (by rw [List.getElem?_map, List.getElem?_eq_getElem hlt]; rfl)
      have HST := Lib.hid (idxL_step (p := p) hlt)
      have HM := Lib.hid (List.getElem_mem hlt)
      have HCS := Lib.hid hcs
      have HC := Lib.hid hc
      have HI : Hid ((Try.prog.info? 34).map (·.size) = some cs.length) := by rw [← hcs.length, HL.out]; exact isz34
      clear hcs hc
      go_wp2_with (refine wpList_load_rep rfl 34 (.tmp 14) rfl b (off + k * 4) rfl cs _ Try.underlying34 HI.out HC.out ?_)
      refine (HH.out _ HM.out _ _ hw HCS.out).mono ?_
      rintro e w1 ⟨rfl, hw1⟩
      have HW1 := Lib.hid (hw.trans hw1)
      clear hw1
      cases hp : p xs[k]
      · have HP := Lib.hid hp
        clear hp
        go_wp2_with fail
        go_roundw
        case rel => exact ⟨k + 1, by omega, by go_num, HW1.out, by rw [HE.out, HST.out, HP.out]; rfl⟩
        case measure => simp [intOf]; omega
      · have HP := Lib.hid hp
        clear hp
        go_wp2_with fail
        go_ret
        exact ⟨ret_int (by rw [HE.out, HST.out, HP.out]; rfl), HW1.out⟩
    · have hkl : k = xs.length := by omega
      go_wp2_with fail
      go_ret
      exact ⟨ret_int (by rw [HE.out, hkl, List.drop_length]; rfl), hw⟩


set_option maxRecDepth 100000 in
set_option maxHeartbeats 1000000 in
theorem containsFunc_128 {α : Type} (tr : α → List Tr) (p : α → Bool) (xs : List α) (g : FuncId) (caps : Array Value) (hg : ∀ (args : Array Value) (w : World), (callFunc g args).run Try.prog w = .ok (.enter g args) w) (hl : ∀ x, (tr x).length = 4) (s : Value) (w : World)
    (H : ∀ x ∈ xs, ∀ cs w', Ext w w' → RepL w' (tr x) cs → Calls Try.prog g (#[.agg ⟨cs⟩] ++ caps) w' fun e w'' => e = .returned (.bool (p x)) ∧ Ext w' w'')
    (hs : Rep w (.row 4 (xs.map tr)) s) :
    Calls Try.prog 128 #[s, .func (.func g) #[] caps] w fun e w' => e = .returned (.bool (xs.any p)) ∧ Ext w w' := by
  have hc := Lib.hid (indexFunc_135 tr p xs g caps hg hl s w H hs)
  have hb := Lib.hid (idxL_any (p := p) xs 0)
  clear H hs hl hg
  go_enter Try.func128, Try.ntmps128
  go_wp2_with fail
  refine hc.out.mono ?_
  rintro e w1 ⟨rfl, hw1⟩
  have HW1 := Lib.hid hw1
  clear hw1
  generalize idxL p xs 0 = q at *
  go_wp2_with fail
  go_ret
  exact ⟨ret_bool hb.out, HW1.out⟩


set_option maxRecDepth 100000 in
set_option maxHeartbeats 1000000 in
theorem indexFunc_255 {α : Type} (tr : α → List Tr) (p : α → Bool) (xs : List α) (g : FuncId) (caps : Array Value) (hg : ∀ (args : Array Value) (w : World), (callFunc g args).run Try.prog w = .ok (.enter g args) w) (hl : ∀ x, (tr x).length = 3) (s : Value) (w : World)
    (H : ∀ x ∈ xs, ∀ cs w', Ext w w' → RepL w' (tr x) cs → Calls Try.prog g (#[.agg ⟨cs⟩] ++ caps) w' fun e w'' => e = .returned (.bool (p x)) ∧ Ext w' w'')
    (hs : Rep w (.row 3 (xs.map tr)) s) :
    Calls Try.prog 255 #[s, .func (.func g) #[] caps] w fun e w' => e = .returned (.int .i64 (idxL p xs 0)) ∧ Ext w w' := by
  obtain ⟨a, cap, rfl, hlc, hm⟩ := hs.shape
  unfold maxLen at hm
  rw [List.length_map] at hlc ⊢
  rw [List.length_map] at hs
  have HS := Lib.hid hs
  have HH := Lib.hid H
  have HL := Lib.hid hl
  clear hs H hl
  go_enter Try.func255, Try.ntmps255
  go_wp2_with fail
  go_loopw [5, 8] (fun _ i wr => ∃ k : Nat, k ≤ xs.length ∧ i = .int .i64 k ∧ Ext w wr ∧ Hid (idxL p xs 0 = idxL p (xs.drop k) k)) (fun _ i _ => xs.length - (intOf i).toNat)
  case atStart => exact ⟨0, Nat.zero_le _, rfl, .refl _, rfl⟩
  case round =>
    obtain ⟨k, hk, rfl, hw, HE⟩ := hrel
    by_cases hlt : k < xs.length
    · obtain ⟨b, off, cs, rfl, hb, hcs, hc⟩ := (HS.out.ext hw).at2 (k := k) (e := tr xs[k]) (by rw [List.getElem?_map, List.getElem?_eq_getElem hlt]; rfl)
      have HST := Lib.hid (idxL_step (p := p) hlt)
      have HM := Lib.hid (List.getElem_mem hlt)
      have HCS := Lib.hid hcs
      have HC := Lib.hid hc
      have HI : Hid ((Try.prog.info? 32).map (·.size) = some cs.length) := by rw [← hcs.length, HL.out]; exact isz32
      clear hcs hc
      go_wp2_with (refine wpList_load_rep rfl 32 (.tmp 14) rfl b (off + k * 3) rfl cs _ Try.underlying32 HI.out HC.out ?_)
      refine (HH.out _ HM.out _ _ hw HCS.out).mono ?_
      rintro e w1 ⟨rfl, hw1⟩
      have HW1 := Lib.hid (hw.trans hw1)
      clear hw1
      cases hp : p xs[k]
      · have HP := Lib.hid hp
        clear hp
        go_wp2_with fail
        go_roundw
        case rel => exact ⟨k + 1, by omega, by go_num, HW1.out, by rw [HE.out, HST.out, HP.out]; rfl⟩
        case measure => simp [intOf]; omega
      · have HP := Lib.hid hp
        clear hp
        go_wp2_with fail
        go_ret
        exact ⟨ret_int (by rw [HE.out, HST.out, HP.out]; rfl), HW1.out⟩
    · have hkl : k = xs.length := by omega
      go_wp2_with fail
      go_ret
      exact ⟨ret_int (by rw [HE.out, hkl, List.drop_length]; rfl), hw⟩


set_option maxRecDepth 100000 in
set_option maxHeartbeats 1000000 in
theorem containsFunc_240 {α : Type} (tr : α → List Tr) (p : α → Bool) (xs : List α) (g : FuncId) (caps : Array Value) (hg : ∀ (args : Array Value) (w : World), (callFunc g args).run Try.prog w = .ok (.enter g args) w) (hl : ∀ x, (tr x).length = 3) (s : Value) (w : World)
    (H : ∀ x ∈ xs, ∀ cs w', Ext w w' → RepL w' (tr x) cs → Calls Try.prog g (#[.agg ⟨cs⟩] ++ caps) w' fun e w'' => e = .returned (.bool (p x)) ∧ Ext w' w'')
    (hs : Rep w (.row 3 (xs.map tr)) s) :
    Calls Try.prog 240 #[s, .func (.func g) #[] caps] w fun e w' => e = .returned (.bool (xs.any p)) ∧ Ext w w' := by
  have hc := Lib.hid (indexFunc_255 tr p xs g caps hg hl s w H hs)
  have hb := Lib.hid (idxL_any (p := p) xs 0)
  clear H hs hl hg
  go_enter Try.func240, Try.ntmps240
  go_wp2_with fail
  refine hc.out.mono ?_
  rintro e w1 ⟨rfl, hw1⟩
  have HW1 := Lib.hid hw1
  clear hw1
  generalize idxL p xs 0 = q at *
  go_wp2_with fail
  go_ret
  exact ⟨ret_bool hb.out, HW1.out⟩

end Go.Proofs.Ytoifjkggpanceaa

namespace Go.Proofs.Ytoifjkggpanceaa
open Go.RowKit Go.Proofs

theorem bytes_beq_self (a : ByteArray) : (a == a) = true := by
  obtain ⟨x⟩ := a
  show (x == x) = true
  simp
theorem bytes_inj {a b : ByteArray} (h : a.toList = b.toList) : a = b := by
  rw [ByteArray.toList_eq, ByteArray.toList_eq] at h
  obtain ⟨⟨x⟩⟩ := a
  obtain ⟨⟨y⟩⟩ := b
  have h : x = y := h
  rw [h]
theorem bytes_beq_ne {a b : ByteArray} (h : ¬ a = b) : (a == b) = false := by
  obtain ⟨x⟩ := a
  obtain ⟨y⟩ := b
  show (x == y) = false
  simp only [beq_eq_false_iff_ne, ne_eq]
  rintro rfl
  exact h rfl

mutual
def GType.eq : GType → GType → Bool
  | .mk k n xs, .mk l m ys => k == l && (n == m && GType.eqs xs ys)
def GType.eqs : List GType → List GType → Bool
  | [], [] => true
  | a :: l, b :: r => GType.eq a b && GType.eqs l r
  | _, _ => false
end
theorem GType.eqs_eqL : ∀ (l r : List GType), GType.eqs l r = eqL GType.eq l r
  | [], [] => rfl
  | [], _ :: _ => rfl
  | _ :: _, [] => rfl
  | a :: l, b :: r => by rw [GType.eqs, eqL, GType.eqs_eqL l r]
def GBound.eq : GBound → GBound → Bool
  | .mk n x, .mk m y => n == m && GType.eq x y

def EqTyC (f : FuncId) (x y : GType) : Prop := ∀ (cs ds : List Value) (w : World), RepL w x.tr cs → RepL w y.tr ds →
  Calls Try.prog f #[.agg ⟨cs⟩, .agg ⟨ds⟩] w fun e w' => e = .returned (.bool (GType.eq x y)) ∧ Ext w w'

set_option maxHeartbeats 2000000 in
theorem eqTy_spec_of (k : Int) (n : ByteArray) (xs : List GType) (H : ∀ x ∈ xs, ∀ y, EqTyC 169 x y) : ∀ y, EqTyC 169 (.mk k n xs) y := by
  intro y cs ds w hr hs
  obtain ⟨l, m, ys⟩ := y
  obtain ⟨a, c, rfl, -, -, h3⟩ := GType.opened hr
  obtain ⟨a', c', rfl, -, -, h3'⟩ := GType.opened hs
  rw [GType.trs_map] at h3 h3'
  have hcall := Lib.hid (fun w' hx => same_206 GType.tr GType.eq xs ys GType.tr_len (fun x hx y _ cs ds w h1 h2 => H x hx y cs ds w h1 h2) _ _ w' (h3.ext hx) (h3'.ext hx))
  clear H hr hs h3 h3'
  simp only [GType.eq, GType.eqs_eqL, List.cons_append, List.nil_append]
  by_cases h1 : k = l
  · subst h1
    by_cases h2 : n = m
    · subst h2
      go_enter Try.func169, Try.ntmps169
      go_wp2_with fail
      refine (hcall.out _ (.alloc (.alloc (.refl _) _) _)).mono ?_
      rintro e w1 ⟨rfl, hw1⟩
      have HW1 := Lib.hid hw1
      clear hw1
      generalize hz : eqL GType.eq xs ys = z at *
      have HZ := Lib.hid hz
      clear hz
      go_wp2_with fail
      go_ret
      exact ⟨ret_bool (by simp [HZ.out, bytes_beq_self]), .trans (.alloc (.alloc (.refl _) _) _) HW1.out⟩
    · have e2 : ¬ n.toList = m.toList := fun h => h2 (bytes_inj h)
      go_enter Try.func169, Try.ntmps169
      go_wp2_with fail
      go_ret
      exact ⟨ret_bool (by simp [bytes_beq_ne h2]), .alloc (.alloc (.refl _) _) _⟩
  · have e1 : (k == l) = false := by simpa using h1
    have E1 := Lib.hid e1
    go_enter Try.func169, Try.ntmps169
    go_wp2_with fail
    go_ret
    exact ⟨ret_bool (by rw [E1.out]; simp), .alloc (.alloc (.refl _) _) _⟩
theorem eqTy_spec : ∀ x y, EqTyC 169 x y := by
  refine GType.ind fun v0 v1 xs ih => ?_
  exact eqTy_spec_of v0 v1 xs ih

set_option maxHeartbeats 2000000 in
theorem eqGoal_spec (x y : GBound) (cs ds : List Value) (w : World) (hr : RepL w x.tr cs) (hs : RepL w y.tr ds) :
    Calls Try.prog 110 #[.agg ⟨cs⟩, .agg ⟨ds⟩] w fun e w' => e = .returned (.bool (GBound.eq x y)) ∧ Ext w w' := by
  obtain ⟨n, ⟨k, s, xs⟩⟩ := x
  obtain ⟨m, ⟨l, u, ys⟩⟩ := y
  obtain ⟨x1, rfl, -, h1⟩ := GBound.opened hr
  obtain ⟨y1, rfl, -, h1'⟩ := GBound.opened hs
  have hcall := Lib.hid (fun w' hx => eqTy_spec _ _ _ _ w' (h1.ext hx) (h1'.ext hx))
  obtain ⟨a, c, rfl, -, -, -⟩ := GType.opened h1
  obtain ⟨a', c', rfl, -, -, -⟩ := GType.opened h1'
  clear hr hs h1 h1'
  simp only [GBound.eq, List.cons_append, List.nil_append] at *
  by_cases h2 : n = m
  · subst h2
    go_enter Try.func110, Try.ntmps110
    go_wp2_with fail
    refine (hcall.out _ (.alloc (.alloc (.refl _) _) _)).mono ?_
    rintro e w1 ⟨rfl, hw1⟩
    have HW1 := Lib.hid hw1
    clear hw1
    generalize hz : GType.eq (.mk k s xs) (.mk l u ys) = z at *
    have HZ := Lib.hid hz
    clear hz
    go_wp2_with fail
    go_ret
    exact ⟨ret_bool (by simp [HZ.out, bytes_beq_self]), .trans (.alloc (.alloc (.refl _) _) _) HW1.out⟩
  · have e2 : ¬ n.toList = m.toList := fun h => h2 (bytes_inj h)
    go_enter Try.func110, Try.ntmps110
    go_wp2_with fail
    go_ret
    exact ⟨ret_bool (by simp [bytes_beq_ne h2]), .alloc (.alloc (.refl _) _) _⟩

set_option maxHeartbeats 2000000 in
theorem eqTy_impl_of (k : Int) (n : ByteArray) (xs : List GType) (H : ∀ x ∈ xs, ∀ y, EqTyC 130 x y) : ∀ y, EqTyC 130 (.mk k n xs) y := by
  intro y cs ds w hr hs
  obtain ⟨l, m, ys⟩ := y
  obtain ⟨a, c, rfl, -, -, h3⟩ := GType.opened hr
  obtain ⟨a', c', rfl, -, -, h3'⟩ := GType.opened hs
  rw [GType.trs_map] at h3 h3'
  have hcall := Lib.hid (fun w' hx => equalFunc_178 GType.tr GType.eq xs ys 130 (run_callFunc_body Try.func130 (by kernel_rfl) (by kernel_rfl)) GType.tr_len (fun x hx y _ cs ds w h1 h2 => H x hx y cs ds w h1 h2) _ _ w' (h3.ext hx) (h3'.ext hx))
  clear H hr hs h3 h3'
  simp only [GType.eq, GType.eqs_eqL, List.cons_append, List.nil_append]
  by_cases h1 : k = l
  · subst h1
    by_cases h2 : n = m
    · subst h2
      go_enter Try.func130, Try.ntmps130
      go_wp2_with fail
      refine (hcall.out _ (.alloc (.alloc (.refl _) _) _)).mono ?_
      rintro e w1 ⟨rfl, hw1⟩
      have HW1 := Lib.hid hw1
      clear hw1
      generalize hz : eqL GType.eq xs ys = z at *
      have HZ := Lib.hid hz
      clear hz
      go_wp2_with fail
      go_ret
      exact ⟨ret_bool (by simp [HZ.out, bytes_beq_self]), .trans (.alloc (.alloc (.refl _) _) _) HW1.out⟩
    · have e2 : ¬ n.toList = m.toList := fun h => h2 (bytes_inj h)
      go_enter Try.func130, Try.ntmps130
      go_wp2_with fail
      go_ret
      exact ⟨ret_bool (by simp [bytes_beq_ne h2]), .alloc (.alloc (.refl _) _) _⟩
  · have e1 : (k == l) = false := by simpa using h1
    have E1 := Lib.hid e1
    go_enter Try.func130, Try.ntmps130
    go_wp2_with fail
    go_ret
    exact ⟨ret_bool (by rw [E1.out]; simp), .alloc (.alloc (.refl _) _) _⟩
theorem eqTy_impl : ∀ x y, EqTyC 130 x y := by
  refine GType.ind fun v0 v1 xs ih => ?_
  exact eqTy_impl_of v0 v1 xs ih

set_option maxHeartbeats 2000000 in
theorem eqGoal_impl (x y : GBound) (cs ds : List Value) (w : World) (hr : RepL w x.tr cs) (hs : RepL w y.tr ds) :
    Calls Try.prog 58 #[.agg ⟨cs⟩, .agg ⟨ds⟩] w fun e w' => e = .returned (.bool (GBound.eq x y)) ∧ Ext w w' := by
  obtain ⟨n, ⟨k, s, xs⟩⟩ := x
  obtain ⟨m, ⟨l, u, ys⟩⟩ := y
  obtain ⟨x1, rfl, -, h1⟩ := GBound.opened hr
  obtain ⟨y1, rfl, -, h1'⟩ := GBound.opened hs
  have hcall := Lib.hid (fun w' hx => eqTy_impl _ _ _ _ w' (h1.ext hx) (h1'.ext hx))
  obtain ⟨a, c, rfl, -, -, -⟩ := GType.opened h1
  obtain ⟨a', c', rfl, -, -, -⟩ := GType.opened h1'
  clear hr hs h1 h1'
  simp only [GBound.eq, List.cons_append, List.nil_append] at *
  by_cases h2 : n = m
  · subst h2
    go_enter Try.func58, Try.ntmps58
    go_wp2_with fail
    refine (hcall.out _ (.alloc (.alloc (.refl _) _) _)).mono ?_
    rintro e w1 ⟨rfl, hw1⟩
    have HW1 := Lib.hid hw1
    clear hw1
    generalize hz : GType.eq (.mk k s xs) (.mk l u ys) = z at *
    have HZ := Lib.hid hz
    clear hz
    go_wp2_with fail
    go_ret
    exact ⟨ret_bool (by simp [HZ.out, bytes_beq_self]), .trans (.alloc (.alloc (.refl _) _) _) HW1.out⟩
  · have e2 : ¬ n.toList = m.toList := fun h => h2 (bytes_inj h)
    go_enter Try.func58, Try.ntmps58
    go_wp2_with fail
    go_ret
    exact ⟨ret_bool (by simp [bytes_beq_ne h2]), .alloc (.alloc (.refl _) _) _⟩

end Go.Proofs.Ytoifjkggpanceaa

namespace Go.Proofs.Ytoifjkggpanceaa
set_option linter.unusedSimpArgs false
set_option linter.unusedVariables false
open Go.RowKit Go.Proofs

theorem atD_range {n i : Nat} (h : i < n) : atD (List.range n) i = i := by rw [atD_eq (by simpa using h)]; simp
theorem eqs_len : ∀ {l r : List GType}, GType.eqs l r = true → l.length = r.length
  | [], [], _ => rfl
  | [], _ :: _, h => by simp [GType.eqs] at h
  | _ :: _, [], h => by simp [GType.eqs] at h
  | a :: l, b :: r, h => by
    simp only [GType.eqs, Bool.and_eq_true] at h
    simp [eqs_len h.2]
theorem eqs_range : ∀ {l r : List GType}, l.length = r.length → GType.eqs l r = (List.range l.length).all fun i => GType.eq (atD l i) (atD r i)
  | [], [], _ => rfl
  | [], _ :: _, h => by simp at h
  | _ :: _, [], h => by simp at h
  | a :: l, b :: r, h => by
    rw [GType.eqs, List.length_cons, List.range_succ_eq_map, List.all_cons, List.all_map, eqs_range (l := l) (r := r) (by simpa using h)]
    rfl
theorem sl4Same_ev {xs ys : List GType} (h : ∀ i, i < xs.length → i < ys.length → Evt fun fu => sEqualType_M fu (atD xs i) (atD ys i) = some (GType.eq (atD xs i) (atD ys i))) : Evt fun fu => sl4Same_M fu xs ys = some (GType.eqs xs ys) := by
  refine Evt.succ ?_
  by_cases hl : xs.length = ys.length
  · refine (Evt.below (k := xs.length) fun i hi => h i hi (by omega)).imp fun fu hf => ?_
    simp only [sl4Same_M, sl4Same_G]
    have hd : (!decide ((((xs.length : Nat) : Int) : Int) = ((ys.length : Nat) : Int))) = false := by simp [hl]
    rw [hd]
    have hr : ∀ fu', ∀ (r1 : GType → GType → Option Bool), (∀ i, i < xs.length → r1 (atD xs i) (atD ys i) = some (GType.eq (atD xs i) (atD ys i))) → sl4Same_R1 fu' r1 (sl4Same_M fu) xs ys = some (if (List.range xs.length).all (fun i => GType.eq (atD xs i) (atD ys i)) then .inr () else .inl false) := by
      intro fu' r1 h1
      unfold sl4Same_R1
      have := loopN_every (l := List.range xs.length) (f := sl4Same_F1 fu' r1 (sl4Same_M fu) xs ys) (p := fun i => GType.eq (atD xs i) (atD ys i)) (r := false) (s := ()) fun i hi => by
        have hi' : i < xs.length := by simpa using hi
        rw [atD_range hi', sl4Same_F1]
        rw [gdT (by omega) rfl, bdS (h1 i hi') rfl]
        cases GType.eq (atD xs i) (atD ys i) <;> rfl
      rwa [List.length_range] at this
    rw [hr fu _ hf, eqs_range hl]
    cases (List.range xs.length).all fun i => GType.eq (atD xs i) (atD ys i) <;> rfl
  · refine .all fun fu => ?_
    simp only [sl4Same_M, sl4Same_G]
    have hd : (!decide ((((xs.length : Nat) : Int) : Int) = ((ys.length : Nat) : Int))) = true := by simp; omega
    rw [hd]
    cases hq : GType.eqs xs ys
    · rfl
    · exact absurd (eqs_len hq) hl
theorem sEqualType_ev : ∀ a b : GType, Evt fun fu => sEqualType_M fu a b = some (GType.eq a b) := by
  refine GType.ind fun k n xs ih => ?_
  rintro ⟨l, m, ys⟩
  refine Evt.succ ((sl4Same_ev (xs := xs) (ys := ys) fun i hi hj => ih _ (atD_mem hi) _).imp fun fu hf => ?_)
  simp only [sEqualType_M, sEqualType_G, GType.gKind_mk, GType.gName_mk, GType.gArgs_mk, hf, GType.eq]
  by_cases h1 : k = l
  · subst h1
    by_cases h2 : n = m
    · subst h2
      simp [sw, bd, bytes_beq_self]
    · simp [sw, h2, bytes_beq_ne]
  · have : (k == l) = false := by simpa using h1
    simp [sw, h1, this]
theorem sEqualType_fn (a b : GType) : AFun Try.prog 169 [(GType.pv a), (GType.pv b)] (.t (.leaf (.bool (GType.eq a b)))) := by
  obtain ⟨fu, h⟩ := (sEqualType_ev a b).get
  exact sEqualType_ok fu a b _ h
theorem sl4Same_fn (a b : List GType) : AFun Try.prog 206 [.t (.row 3 (GType.trs a)), .t (.row 3 (GType.trs b))] (.t (.leaf (.bool (GType.eqs a b)))) := by
  obtain ⟨fu, h⟩ := (sl4Same_ev (xs := a) (ys := b) fun i hi hj => sEqualType_ev _ _).get
  exact sl4Same_ok fu a b _ h
theorem foldl_snoc {α : Type} : ∀ (l a : List α), l.foldl (fun s x => s ++ [x]) a = a ++ l
  | [], a => by simp
  | x :: l, a => by rw [List.foldl_cons, foldl_snoc l]; simp
theorem bulk_mem {xs : List GType} : ∀ {x : GType}, x ∈ xs → Tr.bulkL x.tr ≤ Tr.bulkAll (GType.trs xs) := by
  induction xs with
  | nil => intro x hx; simp at hx
  | cons a l ih =>
    intro x hx
    simp only [GType.trs, Tr.bulkAll]
    rcases List.mem_cons.1 hx with rfl | hx
    · omega
    · have := ih hx; omega
theorem bulk_args (k : Int) (n : ByteArray) (xs : List GType) : xs.length + Tr.bulkAll (GType.trs xs) ≤ Tr.bulkL (GType.mk k n xs).tr := by
  simp only [GType.tr, Tr.bulkL_append, Tr.bulkL, Tr.bulk, GType.trs_len]
  omega
theorem sl4Copies_ev {xs : List GType} (hb : xs.length ≤ 68719476735) (h : ∀ x ∈ xs, Evt fun fu => sl4Copy_M fu x = some x) : Evt fun fu => sl4Copies_M fu xs = some xs := by
  refine Evt.succ ((Evt.list h).imp fun fu hf => ?_)
  simp only [sl4Copies_M, sl4Copies_G, sl4Copies_R1]
  rw [loopN_fold0 (l := xs) (g := fun s x => s ++ [x]) (fun i s => s.length = i) (fun i s hi hp => ⟨?_, by simp [hp]⟩) rfl, foldl_snoc]
  · rfl
  · rw [sl4Copies_F1, bdS (hf _ (atD_mem hi)) rfl, gdT (by simp; omega) rfl]
theorem sl4Copy_ev : ∀ t : GType, Tr.bulkL t.tr ≤ 68719476735 → Evt fun fu => sl4Copy_M fu t = some t := by
  refine GType.ind fun k n xs ih hb => ?_
  have h1 := bulk_args k n xs
  refine Evt.succ ((sl4Copies_ev (xs := xs) (by omega) fun x hx => ih x hx (by have := bulk_mem hx; omega)).imp fun fu hf => ?_)
  simp only [sl4Copy_M, sl4Copy_G, GType.gKind_mk, GType.gName_mk, GType.gArgs_mk, hf, bd]
theorem sl4Copy_fn (t : GType) (hb : Tr.bulkL t.tr ≤ 68719476735) : AFun Try.prog 170 [(GType.pv t)] (GType.pv t) := by
  obtain ⟨fu, h⟩ := (sl4Copy_ev t hb).get
  exact sl4Copy_ok fu t _ h
theorem sl4Copies_fn (l : List GType) (hb : l.length + Tr.bulkAll (GType.trs l) ≤ 68719476735) : AFun Try.prog 204 [.t (.row 3 (GType.trs l))] (.t (.row 3 (GType.trs l))) := by
  obtain ⟨fu, h⟩ := (sl4Copies_ev (xs := l) (by omega) fun x hx => sl4Copy_ev x (by have := bulk_mem hx; omega)).get
  exact sl4Copies_ok fu l _ h
end Go.Proofs.Ytoifjkggpanceaa
