/- Regions whose order is drawn, where loads of structs stand beside calls that make memory: the loads first, then the calls in their forced order. No conditions. -/
import Derived.Test.YtnakkelglbcecaaGreatOwn
import Derived.Deep.RegionHeld3
import Derived.Laws.IdiomStrings
namespace Go.Proofs.YtnakkelglbcecaaGreat
open Go.RowKit

section
variable {P : Program} {ops : Array Oper} {Q : Exit → Act → World → Prop} {md : Region.Mode} {S : World → Prop}

theorem wpAnyH_load_rep {i : Nat} {oi : Oper} {fuel : Nat} {listed : Array Bool} {a : Act} {w : World} (hi : ops[i]? = some oi)
    (hs : Region.noSelect ops = true) (hf : Region.free md ops listed i = true) (hr : (Region.ready md ops listed).contains i = true)
    (_hQ : ∀ c a w, Q (.panic c) (a.put oi.dst (.bool true)) w → Q (.panic c) a w) (hgd : oi.guard = none) (ty : TypeId) (x : Operand) (ho : oi.op = .load ty x)
    (b off : Nat) (hx : a.eval x = .pointer (some ⟨b, off, none⟩)) (cs : List Value) (fs : Array Field) (hu : P.underlying ty = some (.struct fs)) (hinfo : (P.info? ty).map (·.size) = some cs.length)
    (hS : ∀ w, S w → ∀ (j : Nat) (v : Value), cs[j]? = some v → w.cell? ⟨b, off + j, none⟩ = some v) (hw : S w) (hQ2 : ∀ c a w v, Q (.panic c) (a.put oi.dst v) w → Q (.panic c) a w)
    (h : wpAnyH P md ops Q S fuel (listed.setIfInBounds i true) (a.put oi.dst (.agg ⟨cs⟩)) w) : wpAnyH P md ops Q S (fuel + 1) listed a w :=
  wpAnyH_take hi hs hf hr (fun c a w => hQ2 c a w _) (.inl ⟨by simp [Region.wanted, hgd], fun w1 hw1 => by
    unfold execOp
    simp only [ho, hx, Instr.loadAt, Instr.sureAddr, Sem.run_bind, Sem.run_pure, Result.andThen_ok, run_loadVar_rep w1 b off ty cs fs hu hinfo (hS w1 hw1)]⟩) hw h

theorem run_call_func {o : Oper} {ev : Operand → Value} {f : FuncId} {fn : Func} {as : Array Operand} {ts : Array TypeId} (ho : o.op = .call { callee := .value (.func f), args := as, argTypes := ts })
    (hev : ev (.func f) = .func (.func f) #[] #[]) (vals : Array Value) (hv : as.map ev = vals) (hf : P.funcs[f]? = some fn) (hname : (fn.name == "runtime.NumGoroutine") = false) (hb : fn.body.isNone = false) (w : World) :
    (execOp ev o).run P w = .ok (.enter f vals) w := by
  have hc := run_callFunc_body (P := P) hf hname hb
  unfold execOp
  simp only [ho]
  simp [resolve, invoke, Deferred.ofValue, hev, hv, hc]

theorem wpAnyH_call {i : Nat} {o : Oper} {fuel : Nat} {listed : Array Bool} {a : Act} {w : World} {f : FuncId} {vals : Array Value} {R : Ending → World → Prop} (hr : Region.ready md ops listed = [i]) (ho : ops[i]? = some o) (hgd : o.guard = none)
    (hrun : (execOp a.eval o).run P w = .ok (.enter f vals) w) (hc : Calls P f vals w R)
    (h : ∀ e w', R e w' → ∃ v, e = .returned v ∧ S w' ∧ wpAnyH P md ops Q S fuel (listed.setIfInBounds i true) (a.put o.dst v) w') : wpAnyH P md ops Q S (fuel + 1) listed a w := by
  refine wpAnyH_all hr (by simp) fun j hj => ?_
  obtain rfl : j = i := by simpa using hj
  have hw : Region.wanted o (yielded ops a.tmps) = true := by simp [Region.wanted, hgd]
  unfold wpOp
  simp only [ho]
  rw [if_pos hw]
  refine .inl ?_
  unfold Oper.wp
  rw [hrun]
  refine hc.mono fun e w' hR => ?_
  obtain ⟨v, rfl, h1, h2⟩ := h e w' hR
  exact ⟨h1, h2⟩

theorem run_loadVar_cell {w : World} {p : Addr} {ty : TypeId} {v : Value} {d : TypeDesc} (hu : P.underlying ty = some d) (hd : (match d with | .struct _ | .array _ _ => true | _ => false) = false) (hc : w.cell? p = some v) :
    (loadVar ty p).run P w = .ok v w := by
  have hagg : (isAgg ty).run P w = .ok false w := by
    unfold isAgg
    rw [Sem.run_bind, run_underlying hu w]
    cases d <;> simp_all
  simp [loadVar, Sem.run_bind, hagg, hc]

theorem wpAnyH_cell {i : Nat} {oi : Oper} {fuel : Nat} {listed : Array Bool} {a : Act} {w : World} (hi : ops[i]? = some oi)
    (hs : Region.noSelect ops = true) (hf : Region.free md ops listed i = true) (hr : (Region.ready md ops listed).contains i = true) (hgd : oi.guard = none) (ty : TypeId) (x : Operand) (ho : oi.op = .load ty x)
    (b off : Nat) (hx : a.eval x = .pointer (some ⟨b, off, none⟩)) (v : Value) (d : TypeDesc) (hu : P.underlying ty = some d) (hd : (match d with | .struct _ | .array _ _ => true | _ => false) = false)
    (hS : ∀ w, S w → w.cell? ⟨b, off, none⟩ = some v) (hw : S w) (hQ2 : ∀ c a w v, Q (.panic c) (a.put oi.dst v) w → Q (.panic c) a w)
    (h : wpAnyH P md ops Q S fuel (listed.setIfInBounds i true) (a.put oi.dst v) w) : wpAnyH P md ops Q S (fuel + 1) listed a w :=
  wpAnyH_take hi hs hf hr (fun c a w => hQ2 c a w _) (.inl ⟨by simp [Region.wanted, hgd], fun w1 hw1 => by
    unfold execOp
    simp only [ho, hx, Instr.loadAt, Instr.sureAddr, Sem.run_bind, Sem.run_pure, Result.andThen_ok, run_loadVar_cell hu hd (hS w1 hw1)]⟩) hw h

theorem wpAnyH_index {i : Nat} {oi : Oper} {fuel : Nat} {listed : Array Bool} {a : Act} {w : World} (hi : ops[i]? = some oi)
    (hs : Region.noSelect ops = true) (hf : Region.free md ops listed i = true) (hr : (Region.ready md ops listed).contains i = true) (hgd : oi.guard = none) (ty : TypeId) (x y : Operand) (ho : oi.op = .indexAddr ty x y)
    (b off len cap k sz : Nat) (hx : a.eval x = .slice (some ⟨b, off, none⟩) len cap) (hy : a.eval y = .int .i64 (k : Int)) (hk : k < len) (hu : P.underlying ty = some (.slice (P.elem ty))) (hinfo : (P.info? (P.elem ty)).map (·.size) = some sz)
    (hw : S w) (hQ2 : ∀ c a w v, Q (.panic c) (a.put oi.dst v) w → Q (.panic c) a w)
    (h : wpAnyH P md ops Q S fuel (listed.setIfInBounds i true) (a.put oi.dst (.pointer (some ⟨b, off + k * sz, none⟩))) w) : wpAnyH P md ops Q S (fuel + 1) listed a w :=
  wpAnyH_take hi hs hf hr (fun c a w => hQ2 c a w _) (.inl ⟨by simp [Region.wanted, hgd], fun w1 _ => by
    have hsz : (Go.sizeOf (P.elem ty)).run P w1 = .ok sz w1 := by
      cases hq : P.info? (P.elem ty) with
      | none => simp [hq] at hinfo
      | some j => have : j.size = sz := by simpa [hq] using hinfo
                  simp [Go.sizeOf, typeInfo, hq, this]
    have hadd : ∀ n, (⟨b, off, none⟩ : Addr).add n = ⟨b, off + n, none⟩ := fun n => by unfold Addr.add; split <;> simp_all
    unfold execOp
    simp only [ho, hx, hy, run_indexAt_slice _ _ _ _ _ _ _ hu, Sem.run_bind, hsz, Result.andThen_ok]
    rw [if_pos ⟨by omega, by omega⟩]
    simp [hadd]⟩) hw h

/-- The one operation that may come up now, carried out: it yields a value, in another world. -/
theorem wpAnyH_run {i : Nat} {o : Oper} {fuel : Nat} {listed : Array Bool} {a : Act} {w w' : World} {v : Value} (hr : Region.ready md ops listed = [i]) (ho : ops[i]? = some o) (hgd : o.guard = none)
    (hrun : (execOp a.eval o).run P w = .ok (.value v) w') (hS : S w') (h : wpAnyH P md ops Q S fuel (listed.setIfInBounds i true) (a.put o.dst v) w') : wpAnyH P md ops Q S (fuel + 1) listed a w := by
  refine wpAnyH_all hr (by simp) fun j hj => ?_
  obtain rfl : j = i := by simpa using hj
  have hw : Region.wanted o (yielded ops a.tmps) = true := by simp [Region.wanted, hgd]
  unfold wpOp
  simp only [ho]
  rw [if_pos hw]
  refine .inl ?_
  unfold Oper.wp
  rw [hrun]
  exact ⟨hS, h⟩
/-- The one operation that may come up now is a store of a struct into a block of our own. -/
theorem wpAnyH_store_rep {i : Nat} {o : Oper} {fuel : Nat} {listed : Array Bool} {a : Act} {w : World} (hr : Region.ready md ops listed = [i]) (ho0 : ops[i]? = some o) (hgd : o.guard = none) (ty : TypeId) (x y : Operand) (ho : o.op = .store ty x y)
    (B off : Nat) (hx : a.eval x = .pointer (some ⟨B, off, none⟩)) (cs : List Value) (hy : a.eval y = .agg ⟨cs⟩) (T : TypeId) (arr : Array Value) (hob : OB w B T arr) (hi : (P.info? ty).map (·.size) = some cs.length)
    (hfit : off + cs.length ≤ arr.size) (h1 : ∀ v ∈ cs, v.oneCell' = true)
    (h : ∀ w', OB w' B T (splice arr off cs) → w.grownBy w' (some B) → w'.heap.size = w.heap.size → S w' ∧ wpAnyH P md ops Q S fuel (listed.setIfInBounds i true) (a.put o.dst undef) w') : wpAnyH P md ops Q S (fuel + 1) listed a w := by
  refine wpAnyH_all hr (by simp) fun j hj => ?_
  obtain rfl : j = i := by simpa using hj
  have hw : Region.wanted o (yielded ops a.tmps) = true := by simp [Region.wanted, hgd]
  have hst := run_storeCells_at P B off T cs 0 arr w hob (by simpa using hfit) h1
  cases hq : P.info? ty with
  | none => simp [hq] at hi
  | some inf =>
    have hs : inf.size = cs.length := by simpa [hq] using hi
    have hrun : (storeVar ty ⟨B, off, none⟩ (.agg ⟨cs⟩)).run P w = .ok () (w.setRow B (splice arr off cs)) := by
      simp [storeVar, Go.sizeOf, typeInfo, hq, Value.cells, hs, hst, splice]
    unfold wpOp
    simp only [ho0]
    rw [if_pos hw]
    refine .inl ?_
    unfold Oper.wp execOp
    simp only [ho, hx, hy, Instr.storeAt, Instr.sureAddr, Sem.run_bind, Sem.run_pure, Result.andThen_ok, hrun]
    exact h _ (setRow_heap w B arr _ T _ hob) ⟨rfl, rfl, rfl, by simp, fun k _ hk => setRow_other w B k _ (fun e => hk (by rw [e]))⟩ (by simp)

theorem wpOp_call {i : Nat} {o : Oper} {a : Act} {w : World} {f : FuncId} {vals : Array Value} {R : Ending → World → Prop} {K : Act → World → Prop} (ho : ops[i]? = some o) (hgd : o.guard = none)
    (hrun : (execOp a.eval o).run P w = .ok (.enter f vals) w) (hc : Calls P f vals w R) (h : ∀ e w', R e w' → ∃ v, e = .returned v ∧ K (a.put o.dst v) w') : wpOp P ops Q i K a w := by
  have hw : Region.wanted o (yielded ops a.tmps) = true := by simp [Region.wanted, hgd]
  unfold wpOp
  simp only [ho]
  rw [if_pos hw]
  refine .inl ?_
  unfold Oper.wp
  rw [hrun]
  refine hc.mono fun e w' hR => ?_
  obtain ⟨v, rfl, h1⟩ := h e w' hR
  exact h1
theorem wpOp_run {i : Nat} {o : Oper} {a : Act} {w w' : World} {v : Value} {K : Act → World → Prop} (ho : ops[i]? = some o) (hgd : o.guard = none) (hrun : (execOp a.eval o).run P w = .ok (.value v) w') (h : K (a.put o.dst v) w') : wpOp P ops Q i K a w := by
  have hw : Region.wanted o (yielded ops a.tmps) = true := by simp [Region.wanted, hgd]
  unfold wpOp
  simp only [ho]
  rw [if_pos hw]
  refine .inl ?_
  unfold Oper.wp
  rw [hrun]
  exact h

theorem run_op_load_rep {o : Oper} {ev : Operand → Value} {w : World} (ty : TypeId) (x : Operand) (ho : o.op = .load ty x) (b off : Nat) (hx : ev x = .pointer (some ⟨b, off, none⟩)) (cs : List Value) (fs : Array Field) (hu : P.underlying ty = some (.struct fs)) (hi : (P.info? ty).map (·.size) = some cs.length)
    (hc : ∀ j v, cs[j]? = some v → w.cell? ⟨b, off + j, none⟩ = some v) : (execOp ev o).run P w = .ok (.value (.agg ⟨cs⟩)) w := by
  unfold execOp
  simp only [ho, hx, Instr.loadAt, Instr.sureAddr, Sem.run_bind, Sem.run_pure, Result.andThen_ok, run_loadVar_rep w b off ty cs fs hu hi hc]

theorem wpList_load_rep_g {rest : List Oper} {o : Oper} {a : Act} {w : World} (hwd : Region.wanted o (yielded ops a.tmps) = true) (ty : TypeId) (x : Operand) (ho : o.op = .load ty x)
    (b off : Nat) (hx : a.eval x = .pointer (some ⟨b, off, none⟩)) (cs : List Value) (fs : Array Field) (hu : P.underlying ty = some (.struct fs)) (hi : (P.info? ty).map (·.size) = some cs.length)
    (hc : ∀ j v, cs[j]? = some v → w.cell? ⟨b, off + j, none⟩ = some v) (h : wpList P ops Q rest (a.put o.dst (.agg ⟨cs⟩)) w) : wpList P ops Q (o :: rest) a w :=
  wpList_step fun _ hK => by
    rw [if_pos hwd]
    unfold Oper.wp execOp
    simp only [ho, hx, Instr.loadAt, Instr.sureAddr, Sem.run_bind, Sem.run_pure, Result.andThen_ok, run_loadVar_rep w b off ty cs fs hu hi hc]
    exact hK _ _ h

theorem wpAnyH_load_rep_g {i : Nat} {oi : Oper} {fuel : Nat} {listed : Array Bool} {a : Act} {w : World} (hi : ops[i]? = some oi)
    (hs : Region.noSelect ops = true) (hf : Region.free md ops listed i = true) (hr : (Region.ready md ops listed).contains i = true)
    (_hQ : ∀ c a w, Q (.panic c) (a.put oi.dst (.bool true)) w → Q (.panic c) a w) (hwd : Region.wanted oi (yielded ops a.tmps) = true) (ty : TypeId) (x : Operand) (ho : oi.op = .load ty x)
    (b off : Nat) (hx : a.eval x = .pointer (some ⟨b, off, none⟩)) (cs : List Value) (fs : Array Field) (hu : P.underlying ty = some (.struct fs)) (hinfo : (P.info? ty).map (·.size) = some cs.length)
    (hS : ∀ w, S w → ∀ (j : Nat) (v : Value), cs[j]? = some v → w.cell? ⟨b, off + j, none⟩ = some v) (hw : S w) (hQ2 : ∀ c a w v, Q (.panic c) (a.put oi.dst v) w → Q (.panic c) a w)
    (h : wpAnyH P md ops Q S fuel (listed.setIfInBounds i true) (a.put oi.dst (.agg ⟨cs⟩)) w) : wpAnyH P md ops Q S (fuel + 1) listed a w :=
  wpAnyH_take hi hs hf hr (fun c a w => hQ2 c a w _) (.inl ⟨hwd, fun w1 hw1 => by
    unfold execOp
    simp only [ho, hx, Instr.loadAt, Instr.sureAddr, Sem.run_bind, Sem.run_pure, Result.andThen_ok, run_loadVar_rep w1 b off ty cs fs hu hinfo (hS w1 hw1)]⟩) hw h

theorem wpAnyH_cell_g {i : Nat} {oi : Oper} {fuel : Nat} {listed : Array Bool} {a : Act} {w : World} (hi : ops[i]? = some oi)
    (hs : Region.noSelect ops = true) (hf : Region.free md ops listed i = true) (hr : (Region.ready md ops listed).contains i = true) (hwd : Region.wanted oi (yielded ops a.tmps) = true) (ty : TypeId) (x : Operand) (ho : oi.op = .load ty x)
    (b off : Nat) (hx : a.eval x = .pointer (some ⟨b, off, none⟩)) (v : Value) (d : TypeDesc) (hu : P.underlying ty = some d) (hd : (match d with | .struct _ | .array _ _ => true | _ => false) = false)
    (hS : ∀ w, S w → w.cell? ⟨b, off, none⟩ = some v) (hw : S w) (hQ2 : ∀ c a w v, Q (.panic c) (a.put oi.dst v) w → Q (.panic c) a w)
    (h : wpAnyH P md ops Q S fuel (listed.setIfInBounds i true) (a.put oi.dst v) w) : wpAnyH P md ops Q S (fuel + 1) listed a w :=
  wpAnyH_take hi hs hf hr (fun c a w => hQ2 c a w _) (.inl ⟨hwd, fun w1 hw1 => by
    unfold execOp
    simp only [ho, hx, Instr.loadAt, Instr.sureAddr, Sem.run_bind, Sem.run_pure, Result.andThen_ok, run_loadVar_cell hu hd (hS w1 hw1)]⟩) hw h

theorem wpAnyH_index_g {i : Nat} {oi : Oper} {fuel : Nat} {listed : Array Bool} {a : Act} {w : World} (hi : ops[i]? = some oi)
    (hs : Region.noSelect ops = true) (hf : Region.free md ops listed i = true) (hr : (Region.ready md ops listed).contains i = true) (hwd : Region.wanted oi (yielded ops a.tmps) = true) (ty : TypeId) (x y : Operand) (ho : oi.op = .indexAddr ty x y)
    (b off len cap k sz : Nat) (hx : a.eval x = .slice (some ⟨b, off, none⟩) len cap) (hy : a.eval y = .int .i64 (k : Int)) (hk : k < len) (hu : P.underlying ty = some (.slice (P.elem ty))) (hinfo : (P.info? (P.elem ty)).map (·.size) = some sz)
    (hw : S w) (hQ2 : ∀ c a w v, Q (.panic c) (a.put oi.dst v) w → Q (.panic c) a w)
    (h : wpAnyH P md ops Q S fuel (listed.setIfInBounds i true) (a.put oi.dst (.pointer (some ⟨b, off + k * sz, none⟩))) w) : wpAnyH P md ops Q S (fuel + 1) listed a w :=
  wpAnyH_take hi hs hf hr (fun c a w => hQ2 c a w _) (.inl ⟨hwd, fun w1 _ => by
    have hsz : (Go.sizeOf (P.elem ty)).run P w1 = .ok sz w1 := by
      cases hq : P.info? (P.elem ty) with
      | none => simp [hq] at hinfo
      | some j => have : j.size = sz := by simpa [hq] using hinfo
                  simp [Go.sizeOf, typeInfo, hq, this]
    have hadd : ∀ n, (⟨b, off, none⟩ : Addr).add n = ⟨b, off + n, none⟩ := fun n => by unfold Addr.add; split <;> simp_all
    unfold execOp
    simp only [ho, hx, hy, run_indexAt_slice _ _ _ _ _ _ _ hu, Sem.run_bind, hsz, Result.andThen_ok]
    rw [if_pos ⟨by omega, by omega⟩]
    simp [hadd]⟩) hw h

theorem wpAnyH_call_g {i : Nat} {o : Oper} {fuel : Nat} {listed : Array Bool} {a : Act} {w : World} {f : FuncId} {vals : Array Value} {R : Ending → World → Prop} (hr : Region.ready md ops listed = [i]) (ho : ops[i]? = some o) (hwd : Region.wanted o (yielded ops a.tmps) = true)
    (hrun : (execOp a.eval o).run P w = .ok (.enter f vals) w) (hc : Calls P f vals w R)
    (h : ∀ e w', R e w' → ∃ v, e = .returned v ∧ S w' ∧ wpAnyH P md ops Q S fuel (listed.setIfInBounds i true) (a.put o.dst v) w') : wpAnyH P md ops Q S (fuel + 1) listed a w := by
  refine wpAnyH_all hr (by simp) fun j hj => ?_
  obtain rfl : j = i := by simpa using hj
  unfold wpOp
  simp only [ho]
  rw [if_pos hwd]
  refine .inl ?_
  unfold Oper.wp
  rw [hrun]
  refine hc.mono fun e w' hR => ?_
  obtain ⟨v, rfl, h1, h2⟩ := h e w' hR
  exact ⟨h1, h2⟩

/-- string(b), b's cells the bytes l. -/
theorem wpList_bytes_back {rest : List Oper} {o : Oper} {a : Act} {w : World} (hgd : o.guard = none) (src dst e : TypeId) (x : Operand) (ho : o.op = .convert src dst x) (hs : P.underlying src = some (.slice e)) (he : P.underlying e = some (.int .u8)) (hd : P.underlying dst = some .string)
    (b cap n : Nat) (l : List UInt8) (hn : l.length = n) (hx : a.eval x = .slice (some ⟨b, 0, none⟩) n cap) (hc : ∀ j (hj : j < l.length), w.cell? ⟨b, j, none⟩ = some (.int .u8 (l[j].toNat : Int)))
    (h : wpList P ops Q rest (a.put o.dst (.string ⟨l.toArray⟩)) w) : wpList P ops Q (o :: rest) a w :=
  wpList_plain hgd fun _ hK => by
    subst hn
    have hadd : ∀ n, (⟨b, 0, none⟩ : Addr).add n = ⟨b, n, none⟩ := fun n => by unfold Addr.add; split <;> simp_all
    have hr := run_convert_bytes_back (P := P) w src dst e ⟨b, 0, none⟩ cap l hs he hd (fun j hj => by rw [hadd]; exact hc j hj)
    unfold Oper.wp execOp
    simp only [ho, hx, Sem.run_bind, hr, Result.andThen_ok, Sem.run_pure]
    exact hK _ _ h
theorem bytes_cons (x : UInt8) (l : List UInt8) : (⟨#[x]⟩ : ByteArray) ++ ⟨l.toArray⟩ = ⟨(x :: l).toArray⟩ := by
  apply ByteArray.ext
  simp [ByteArray.data_append]
end
end Go.Proofs.YtnakkelglbcecaaGreat
