/- Loops over a condition; facts that a state carries; append, slices and structs that are built. Conditions: what grows stays below 2^40 elements. -/
import Derived.Test.YtnakkelglbcecaaGreatPm6
namespace Go.Proofs.YtnakkelglbcecaaGreat
set_option linter.unusedSimpArgs false
set_option linter.unusedVariables false
open Go.RowKit Go.WalkArith Go.IntWalk Go.WideShapes

section
variable {P : Program} {C : Ctx} {n : Nat} {s : AS} {Q : Exit → AS → Prop} {o : Oper}

theorem AWP.loopJ {c : Code} {ι : Type} (J : ι → Prop) (I : ι → AS) (μ : ι → Nat) (i0 : ι) (hj : J i0) (h0 : Wk C n s (I i0)) (round : ∀ i, J i → AWP P C n c (thenA (fun s' => ∃ j, J j ∧ Wk C n s' (I j) ∧ μ j < μ i) Q) (I i)) : AWP P C n (.loop c) Q s :=
  AWP.loop (ι := { i // J i }) (fun i => I i.1) (fun i => μ i.1) ⟨i0, hj⟩ h0 fun i => AWP.mono (round i.1 i.2) fun e s' h => by
    cases e with
    | normal =>
      obtain ⟨j, h1, h2, h3⟩ := h
      exact ⟨⟨j, h1⟩, h2, h3⟩
    | _ => exact h

theorem AWP.fact {c : Code} {F : Prop} (h : ∀ m a w, RA C n s m a w → F) (k : F → AWP P C n c Q s) : AWP P C n c Q s := fun m a w hr => k (h m a w hr) m a w hr
theorem AL.fact {ops : Array Oper} {l : List Oper} {F : Prop} (h : ∀ m a w, RA C n s m a w → F) (k : F → AL P C n ops l Q s) : AL P C n ops l Q s := fun m a w hr => k (h m a w hr) m a w hr
theorem lk_len (i : Nat) {p : PV} {sz : Nat} {es : List (List Tr)} (hx : s.lk i = some p) (hp : rowOf p = some (sz, es)) : ∀ m a w, RA C n s m a w → es.length ≤ 9223372036854775807 := fun m a w h => by
  obtain ⟨v, -, hr⟩ := h.env i p hx
  obtain ⟨ad, cap, -, h2, h3⟩ := (rowOf_rv hp hr).shape
  unfold maxLen at h3
  omega
theorem box_len (k j : Nat) {bx : PBox} {p : PV} {sz : Nat} {es : List (List Tr)} (hb : s.st.boxes[k]? = some (some bx)) (hx : bx.cells[j]? = some p) (hp : rowOf p = some (sz, es)) : ∀ m a w, RA C n s m a w → es.length ≤ 9223372036854775807 := fun m a w h => by
  obtain ⟨vs, -, h1⟩ := h.sto.box k bx hb
  obtain ⟨v, -, hr⟩ := h1.get hx
  obtain ⟨ad, cap, -, h2, h3⟩ := (rowOf_rv hp hr).shape
  unfold maxLen at h3
  omega
theorem lk_str (i : Nat) {v : ByteArray} (hx : s.lk i = some (.t (.leaf (.string v)))) : ∀ m a w, RA C n s m a w → v.size ≤ 9223372036854775807 := fun m a w h => by
  obtain ⟨u, -, hr⟩ := h.env i _ hx
  have := (RepM.leaf_eq hr).2
  exact this
theorem lk_int (i : Nat) {v : Int} (hx : s.lk i = some (.t (.leaf (.int .i64 v)))) : ∀ m a w, RA C n s m a w → -9223372036854775808 ≤ v ∧ v ≤ 9223372036854775807 := fun m a w h => by
  obtain ⟨u, -, hr⟩ := h.env i _ hx
  have := (RepM.leaf_eq hr).2
  exact by simpa [LeafOk, Lit.wf, IntKind.min, IntKind.max, IntKind.signed, IntKind.bits] using this

theorem Grow.acc {av : Nat → Nat → Prop} {st : Sto} {m : Lay} {w : World} {r : Nat} {row : PRow} {es2 : List (List Tr)} {g c : Nat} {cur : Array Value} {w1 : World} (h : Grow av st m w r row es2 g c cur w1) (hst : StoOk av st m w) :
    RV (okA av (st.setRow r { row with es := row.es ++ es2 }) ⟨m.ρ, upd m.γ r (some (g, c))⟩) (st.setRow r { row with es := row.es ++ es2 }) ⟨m.ρ, upd m.γ r (some (g, c))⟩ w1 (.acc row.sz (row.es ++ es2) r) (.slice (some ⟨g, 0, none⟩) (row.es.length + es2.length) c) := by
  have hl : (st.setRow r { row with es := row.es ++ es2 }).rows[r]? = some { row with es := row.es ++ es2 } := by
    show (st.rows.set r _)[r]? = _
    simp [List.getElem?_set, get_lt h.live]
  obtain ⟨-, -, h3⟩ := (h.sto hst).row r _ hl
  refine ⟨_, hl, rfl, Nat.le_refl _, ?_, fun _ => by simp [upd_same, rowVal]⟩
  rcases h3 with ⟨h4, -⟩ | ⟨g', c', cur', h4, -, -, -, -, h5⟩
  · simp [upd_same] at h4
  · simp only [upd_same, Option.some.injEq, Prod.mk.injEq] at h4
    obtain ⟨rfl, rfl⟩ := h4
    simpa using h5

/-- What 'append' puts into a row that grows. -/
theorem AOp.append {T E sz by_ : Nat} {x y : Operand} {es es2 : List (List Tr)} {r : Nat} {row : PRow} {p : PV} (ho : o.op = .call { callee := .builtin .append, args := #[x, y], argTypes := #[T, T] }) (hd : dstOk o.dst n = true)
    (hx : s.ev x = some (.acc sz es r)) (hrow : s.st.rows[r]? = some row) (hes : row.es = es) (hE : row.E = E) (hw : row.whole = false) (hy : s.ev y = some p) (hp : rowOf p = some (sz, es2)) (h2 : ∀ e ∈ es2, e.length = sz)
    (hT : elemOf? P T = some (E, sz, by_)) (hz : (P.info? E).bind (fun i => i.zero.map (fun z => z.cells.size)) = some sz) (hb : 0 < by_) (hlen : (es.length + es2.length) * by_ ≤ 140737488355328) :
    AOp P C n o s ((⟨s.env, s.st.setRow r { row with es := es ++ es2 }⟩ : AS).putO o.dst (.acc sz (es ++ es2) r)) :=
  AOp.run hd (s1 := ⟨s.env, s.st.setRow r { row with es := es ++ es2 }⟩) (fun m a w h => by
    subst hes hE
    obtain ⟨i, hu, hi, hs, hby⟩ := elemOf?.spec hT
    obtain ⟨row', k1, k2, k3, k4, k5⟩ := h.eval hx
    rw [hrow] at k1
    cases k1
    subst k2
    have k2 : row.sz = row.sz := rfl
    have k5 := k5 rfl
    have h3 := rowOf_rv hp (h.eval hy)
    obtain ⟨hpos, hlens, hplace⟩ := h.sto.row r row hrow
    rw [k2] at hpos
    by_cases hne : es2 = []
    · -- nothing is appended
      subst hne
      have hst : s.st.setRow r { row with es := row.es ++ [] } = s.st := by
        have e1 : ({ row with es := row.es ++ [] } : PRow) = row := by simp
        rw [e1]
        unfold Sto.setRow
        have e2 : s.st.rows.set r row = s.st.rows := by
          apply List.ext_getElem?
          intro j
          rw [List.getElem?_set]
          split
          · rename_i e; subst e; rw [if_pos (get_lt hrow), hrow]
          · rfl
        rw [e2]
      obtain ⟨ad, cap, hv, hlc, hcm⟩ := k4.shape
      obtain ⟨ad2, cap2, hv2, -, -⟩ := h3.shape
      refine ⟨a.eval x, m, w, ?_, by rw [hst]; exact Ev.refl _ _ _, by rw [hst]; exact h.sto, ?_⟩
      · unfold execOp
        simp only [ho, resolve, invoke, builtin, Sem.run_bind, Sem.run_pure, Result.andThen_ok, List.map_toArray, List.map_cons, List.map_nil, hv, hv2]
        have hfc : ∀ W, (Builtin.firstCells i.size 0 (.slice ad2 0 cap2)).run P W = .ok #[] W := fun W => by
          cases ad2 with
          | none => simp [Builtin.firstCells]
          | some q => simp [Builtin.firstCells, loadCells, loadCellsFrom]
        cases ad with
        | none => simp [Builtin.append_, run_underlying hu, Go.sizeOf, typeInfo, hi, Builtin.lenOf, hlc, hfc]
        | some q => simp [Builtin.append_, run_underlying hu, Go.sizeOf, typeInfo, hi, Builtin.lenOf, hlc, hfc, storeCells]
      · rw [hst, List.append_nil]
        exact ⟨row, hrow, k2, Nat.le_refl _, k4, fun _ => k5⟩
    · obtain ⟨b, off, c2, news, hv2, hnl, hnews, hone, hnd⟩ := h3.news h2 hne hpos
      have hpos2 : 0 < es2.length := List.length_pos_iff.2 hne
      have hlen : (row.es.length + es2.length) * i.bytes ≤ 140737488355328 := by rw [hby]; exact hlen
      have h63 : row.es.length + es2.length ≤ 140737488355328 := Nat.le_trans (Nat.le_mul_of_pos_right _ (by omega)) hlen
      cases hzz : i.zero with
      | none => simp [hi, hzz] at hz
      | some z =>
        have hzs : z.cells.size = row.sz := by simpa [hi, hzz] using hz
        have hrun : ∀ v w1, (Builtin.append_ #[T, T] o.type #[a.eval x, a.eval y]).run P w = .ok v w1 → (execOp a.eval o).run P w = .ok (.value v) w1 := fun v w1 hr => by
          unfold execOp
          simp only [ho, resolve, invoke, builtin, Sem.run_bind, Sem.run_pure, Result.andThen_ok, List.map_toArray, List.map_cons, List.map_nil, hr]
        have hnew : ∀ (cur : Array Value) (pre post : List Value), cur.toList = pre ++ (news ++ post) → pre.length = row.es.length * row.sz → ∀ q e, es2[q]? = some e → ∀ j d, e[j]? = some d → ∃ v, cur[(row.es.length + q) * row.sz + j]? = some v ∧ RepM (okA C.av s.st m) w d v := fun cur pre post hcur hpl q e hq j d hd => by
          obtain ⟨v, hv, hr⟩ := hnd q e hq j d hd
          refine ⟨v, ?_, hr⟩
          rw [← Array.getElem?_toList, hcur, Nat.add_mul, Nat.add_assoc, ← hpl, List.getElem?_append_right (by omega), Nat.add_sub_cancel_left, k2, List.getElem?_append_left (get_lt hv), hv]
        rcases hplace with ⟨hg0, he0⟩ | ⟨g, c, cur, hg, hob, hcs, hfit, hmax, hrep⟩
        · -- nil
          have hx0 : a.eval x = .slice none 0 0 := by rw [k5, hg0]; rfl
          have hl0 : row.es.length = 0 := by rw [he0]; rfl
          have happ := run_append_nil (P := P) w T o.type row.E i z hu hi hzz ⟨b, off, none⟩ es2.length c2 news (by rw [hnl, hs]) hnews (by omega) (by omega) (by rw [hl0, Nat.zero_add] at hlen; omega)
          rw [← hv2, ← hx0] at happ
          have hG : Grow C.av s.st m w r row es2 w.heap.size (grownCap w es2.length 0 row.E) (news.toArray ++ Builtin.zeroCells z.cells (grownCap w es2.length 0 row.E - es2.length)) (w.drew.alloc (.cells (news.toArray ++ Builtin.zeroCells z.cells (grownCap w es2.length 0 row.E - es2.length)) row.E)) := by
            have hge := grownCap_ge w es2.length 0 row.E
            refine ⟨hrow, rfl, rfl, rfl, by simp, fun b hb _ => Below.heap_alloc w.drew _ b hb, heap_alloc_new w.drew _, ?_, by omega, grownCap_le_maxLen w _ _ _ (by unfold maxLen; omega), fun e he => by rw [k2]; exact h2 e he, fun q e hq => by rw [he0] at hq; simp at hq, hnew _ [] (Builtin.zeroCells z.cells (grownCap w es2.length 0 row.E - es2.length)).toList (by simp) (by rw [hl0]; simp), .inr (Nat.le_refl _), fun hc => ?_⟩
            · rw [Array.size_append, size_zeroCells, hzs, k2]
              simp only [List.size_toArray, hnl]
              rw [← Nat.add_mul]
              congr 1
              omega
            · rcases hc with hc | hc
              · rw [hw] at hc; cases hc
              · exact absurd hc hne
          refine ⟨_, _, _, hrun _ _ happ, hG.ev h.sto, hG.sto h.sto, ?_⟩
          have := hG.acc h.sto
          rw [hl0, Nat.zero_add, k2] at this
          exact this
        · have hx0 : a.eval x = .slice (some ⟨g, 0, none⟩) row.es.length c := by rw [k5, hg]; rfl
          have hold : ∀ q e, row.es[q]? = some e → ∀ j d, e[j]? = some d → ∃ v, cur[q * row.sz + j]? = some v ∧ RepM (okA C.av s.st m) w d v := fun q e hq j d hd => by
            cases hrep with
            | row cf q1 q2 q3 q4 =>
              obtain ⟨b', off', hbo, hb', q5⟩ := q3 (by rintro e0; rw [e0] at hq; simp at hq)
              injection hbo with hbo
              injection hbo with e1 e2 e3
              subst e1 e2
              have := (q5 q e hq j d hd).2
              rw [hob.cell, Nat.zero_add] at this
              exact ⟨cf q j, this, q4 q e hq j d hd⟩
          have hfitc : row.es.length * row.sz ≤ cur.size := by rw [hcs]; exact Nat.mul_le_mul_right _ hfit
          by_cases hroom : row.es.length + es2.length ≤ c
          · have hcap : row.es.length * i.size + news.length ≤ cur.size := by rw [hnl, hcs, hs, k2, ← Nat.add_mul]; exact Nat.mul_le_mul_right _ hroom
            have happ := run_append_room (P := P) w T o.type row.E i hu hi g row.es.length c cur hob ⟨b, off, none⟩ es2.length c2 news (by rw [hnl, hs]) hnews hone hroom hcap
            rw [← hv2, ← hx0] at happ
            rw [hs, ← k2] at happ
            have hcl : (cur.toList.take (row.es.length * row.sz)).length = row.es.length * row.sz := by simp; omega
            have hG : Grow C.av s.st m w r row es2 g c (cur.toList.take (row.es.length * row.sz) ++ news ++ cur.toList.drop (row.es.length * row.sz + news.length)).toArray (w.setRow g (cur.toList.take (row.es.length * row.sz) ++ news ++ cur.toList.drop (row.es.length * row.sz + news.length)).toArray) := by
              refine ⟨hrow, rfl, rfl, rfl, by simp, fun b hb hne => setRow_other w g b _ hne, setRow_heap w g cur _ _ _ hob, ?_, hroom, hmax, fun e he => by rw [k2]; exact h2 e he, fun q e hq j d hd => ?_, hnew _ _ _ (by simp [List.append_assoc]; rfl) hcl, .inl ⟨c, cur, hg, hob, fun o ho => ?_⟩, fun _ => hg⟩
              · rw [hs, k2.symm] at hcap
                simp only [List.size_toArray, List.length_append, hcl, List.length_drop, Array.length_toList]
                omega
              · obtain ⟨v, hv, hr⟩ := hold q e hq j d hd
                refine ⟨v, ?_, hr⟩
                have hq1 := get_lt hq
                have hj1 : j < row.sz := by rw [← hlens e (List.mem_of_getElem? hq)]; exact get_lt hd
                have hlt : q * row.sz + j < row.es.length * row.sz := by
                  have : (q + 1) * row.sz ≤ row.es.length * row.sz := Nat.mul_le_mul_right _ hq1
                  rw [Nat.succ_mul] at this
                  omega
                rw [List.getElem?_toArray, List.append_assoc, List.getElem?_append_left (by rw [hcl]; exact hlt), List.getElem?_take, if_pos hlt, Array.getElem?_toList, hv]
              · rw [List.getElem?_toArray, List.append_assoc, List.getElem?_append_left (by rw [hcl]; exact ho), List.getElem?_take, if_pos ho, Array.getElem?_toList]
            have hgm : upd m.γ r (some (g, c)) = m.γ := by
              funext q
              by_cases hqr : q = r
              · subst hqr; rw [upd_same, hg]
              · rw [upd_ne hqr]
            refine ⟨_, _, _, hrun _ _ happ, hG.ev h.sto, hG.sto h.sto, ?_⟩
            have := hG.acc h.sto
            rw [k2] at this
            exact this
          · have happ := run_append_grow (P := P) w T o.type row.E i z hu hi hzz ⟨g, 0, none⟩ row.es.length c (cur.toList.take (row.es.length * row.sz)) (by rw [hs, ← k2]; simp; omega) (fun j v hj => by
              have hjl := get_lt hj
              rw [List.getElem?_take] at hj
              split at hj
              · rename_i hjl2
                have hadd : (⟨g, 0, none⟩ : Addr).add j = ⟨g, j, none⟩ := by unfold Addr.add; split <;> simp_all
                rw [hadd, hob.cell]
                simpa using hj
              · cases hj) ⟨b, off, none⟩ es2.length c2 news (by rw [hnl, hs]) hnews (by omega) (by omega) (growslice_fits (by omega) hlen)
            rw [← hv2, ← hx0] at happ
            have hcl : (cur.toList.take (row.es.length * row.sz)).length = row.es.length * row.sz := by simp; omega
            have hG : Grow C.av s.st m w r row es2 w.heap.size (grownCap w (row.es.length + es2.length) c row.E) ((cur.toList.take (row.es.length * row.sz)).toArray ++ news.toArray ++ Builtin.zeroCells z.cells (grownCap w (row.es.length + es2.length) c row.E - (row.es.length + es2.length))) (w.drew.alloc (.cells ((cur.toList.take (row.es.length * row.sz)).toArray ++ news.toArray ++ Builtin.zeroCells z.cells (grownCap w (row.es.length + es2.length) c row.E - (row.es.length + es2.length))) row.E)) := by
              have hge := grownCap_ge w (row.es.length + es2.length) c row.E
              refine ⟨hrow, rfl, rfl, rfl, by simp, fun b hb _ => Below.heap_alloc w.drew _ b hb, heap_alloc_new w.drew _, ?_, hge, grownCap_le_maxLen w _ _ _ (by unfold maxLen; omega), fun e he => by rw [k2]; exact h2 e he, fun q e hq j d hd => ?_, hnew _ _ _ (by simp [List.append_assoc]; rfl) hcl, .inr (Nat.le_refl _), fun hc => ?_⟩
              · rw [Array.size_append, Array.size_append, size_zeroCells, hzs]
                simp only [List.size_toArray, hcl, hnl, ← k2]
                rw [← Nat.add_mul, ← Nat.add_mul]
                congr 1
                omega
              · obtain ⟨v, hv, hr⟩ := hold q e hq j d hd
                refine ⟨v, ?_, hr⟩
                have hq1 := get_lt hq
                have hj1 : j < row.sz := by rw [← hlens e (List.mem_of_getElem? hq)]; exact get_lt hd
                have hlt : q * row.sz + j < row.es.length * row.sz := by
                  have : (q + 1) * row.sz ≤ row.es.length * row.sz := Nat.mul_le_mul_right _ hq1
                  rw [Nat.succ_mul] at this
                  omega
                rw [Array.append_assoc, Array.getElem?_append_left (by rw [List.size_toArray, hcl]; exact hlt), List.getElem?_toArray, List.getElem?_take, if_pos hlt, Array.getElem?_toList, hv]
              · rcases hc with hc | hc
                · rw [hw] at hc; cases hc
                · exact absurd hc hne
            refine ⟨_, _, _, hrun _ _ happ, hG.ev h.sto, hG.sto h.sto, ?_⟩
            have := hG.acc h.sto
            rw [k2] at this
            exact this) rfl
end
end Go.Proofs.YtnakkelglbcecaaGreat
