/- Words, rules and walks of several kinds, laid together: PmG, Pg, Ph, PgD, PgS, PmQ, MaDrE, MaLookB, Reg, Cur, Mark, AccT, Fresh, OfL, Ctr. No conditions but those that each theorem states. -/
import Derived.Test.YtmpepccpnnldoaaQh806d8a02
import Derived.Test.YtmpepccpnnldoaaQh8478a53f
import Derived.Laws.BytesArg
import Derived.Deep.RegionHeld3
import Derived.Laws.IdiomStrings
import Derived.Deep.AppendLies
import Derived.Test.YtmpepccpnnldoaaProg
set_option linter.unusedSimpArgs false
set_option linter.unusedVariables false
namespace Go.Proofs.Ytmpepccpnnldoaa
set_option linter.unusedSimpArgs false
set_option linter.unusedVariables false
open Go.RowKit Go.WalkArith Go.IntWalk Go.WideShapes

section
variable {P : Program} {C : Ctx} {n : Nat} {s : AS} {o : Oper}
/-- A literal whose elements will be written to: a new box. -/
theorem AOp.buildSliceB {T E sz by_ len : Nat} {parts : Array (Nat × Operand)} {ps : List (Nat × List PV)} {zs cs : List PV} (ho : o.op = .buildSlice T len parts) (hd : dstOk o.dst n = true) (hT : elemOf? P T = some (E, sz, by_)) (hz : zerosOf P E = some zs) (hp : partsP s parts.toList = some ps)
    (hc : fillP (fun i => some (i * sz, sz)) (List.replicate len zs).flatten ps = some cs) (hcl : cs.length = len * sz) (hsz : 0 < sz) (hzl : zs.length = sz) (hsm : len * sz ≤ 16777216) :
    AOp P C n o s ((⟨s.env, s.st.addBox ⟨E, cs⟩⟩ : AS).putO o.dst (.bsl s.st.boxes.length len)) :=
  AOp.run hd (s1 := ⟨s.env, s.st.addBox ⟨E, cs⟩⟩) (fun m a w h => by
    obtain ⟨us, h1, h2, h3⟩ := AOp.buildSlice_run ho hT hz hp hc hcl hsz hzl hsm h
    exact ⟨_, _, _, h1, ev_addBox (x := ⟨E, cs⟩), sto_addBox (x := ⟨E, cs⟩) h.sto h2, ⟨⟨E, cs⟩, by simp [Sto.addBox]⟩, by simp [upd_same]⟩) rfl
theorem AOp.buildSliceLE {T E sz by_ len : Nat} {parts : Array (Nat × Operand)} {ps : List (Nat × List PV)} {zs cs : List PV} {es es' : List (List Tr)} (ho : o.op = .buildSlice T len parts) (hd : dstOk o.dst n = true) (hT : elemOf? P T = some (E, sz, by_)) (hz : zerosOf P E = some zs) (hp : partsP s parts.toList = some ps)
    (hc : fillP (fun i => some (i * sz, sz)) (List.replicate len zs).flatten ps = some cs) (hle : LeL cs (es.flatten.map PV.t)) (hel : es.length = len) (hes : ∀ e ∈ es, e.length = sz) (hsz : 0 < sz) (hzl : zs.length = sz) (hsm : len * sz ≤ 16777216) (he : es = es') :
    AOp P C n o s (s.putO o.dst (.lit sz es')) := he ▸ AOp.buildSliceL ho hd hT hz hp hc hle hel hes hsz hzl hsm
/-- An element of such a slice: a place in its box. -/
theorem AOp.indexB {T E sz by_ k N i : Nat} {x y : Operand} (ho : o.op = .indexAddr T x y) (hd : dstOk o.dst n = true) (hx : s.ev x = some (.bsl k N)) (hy : s.ev y = some (.t (.leaf (.int .i64 (i : Int))))) (hi : i < N) (hT : elemOf? P T = some (E, sz, by_)) :
    AOp P C n o s (s.putO o.dst (.ptr k (i * sz))) :=
  AOp.quiet (dstOk_lt hd) fun m a w h => by
    obtain ⟨hb, hv⟩ := h.eval hx
    have h6 := (RepM.leaf_eq (h.eval hy)).1
    refine ⟨.pointer (some ⟨m.ρ k, 0 + i * sz, none⟩), ?_, hb, by rw [Nat.zero_add]⟩
    unfold execOp
    simp only [ho, hv, h6, Sem.run_bind, run_indexAt' hT hi, Result.andThen_ok]
    rfl
/-- 'append' to a slice that has no room: new memory. -/
theorem appendLit_run {T E sz by_ : Nat} {x y : Operand} {es1 es2 : List (List Tr)} {p : PV} (ho : o.op = .call { callee := .builtin .append, args := #[x, y], argTypes := #[T, T] })
    (hx : s.ev x = some (.lit sz es1)) (hy : s.ev y = some p) (hp : rowOf p = some (sz, es2)) (h1 : ∀ e ∈ es1, e.length = sz) (h2 : ∀ e ∈ es2, e.length = sz) (hne : es2 ≠ []) (hsz : 0 < sz)
    (hT : elemOf? P T = some (E, sz, by_)) (hz : (P.info? E).bind (fun i => i.zero.map (fun z => z.cells.size)) = some sz) (hb : 0 < by_) (hlen : (es1.length + es2.length) * by_ ≤ 140737488355328) {m : Lay} {a : Act} {w : World} (h : RA C n s m a w) :
    ∃ c cur w1, (execOp a.eval o).run P w = .ok (.value (.slice (some ⟨w.heap.size, 0, none⟩) (es1.length + es2.length) c)) w1 ∧ Ext w w1 ∧ OB w1 w.heap.size E cur ∧ es1.length + es2.length ≤ c ∧ c ≤ maxLen ∧
      (∀ q e, (es1 ++ es2)[q]? = some e → ∀ j d, e[j]? = some d → ∃ v, cur[q * sz + j]? = some v ∧ RepM (okA C.av s.st m) w d v) := by
  obtain ⟨i, hu, hi, hs, hby⟩ := elemOf?.spec hT
  obtain ⟨hr1, ad, hv1⟩ := h.eval hx
  have hr2 := rowOf_rv hp (h.eval hy)
  obtain ⟨b, off, c2, news, hv2, hnl, hnews, hone, hnd⟩ := hr2.news h2 hne hsz
  have hpos2 : 0 < es2.length := List.length_pos_iff.2 hne
  have hlen : (es1.length + es2.length) * i.bytes ≤ 140737488355328 := by rw [hby]; exact hlen
  have h63 : es1.length + es2.length ≤ 140737488355328 := Nat.le_trans (Nat.le_mul_of_pos_right _ (by omega)) hlen
  have hrun : ∀ v w1, (Builtin.append_ #[T, T] o.type #[a.eval x, a.eval y]).run P w = .ok v w1 → (execOp a.eval o).run P w = .ok (.value v) w1 := fun v w1 hr => by
    unfold execOp
    simp only [ho, resolve, invoke, builtin, Sem.run_bind, Sem.run_pure, Result.andThen_ok, List.map_toArray, List.map_cons, List.map_nil, hr]
  cases hzz : i.zero with
  | none => simp [hi, hzz] at hz
  | some z =>
    have fin : ∀ (olds : List Value) (cur : Array Value) (Z : List Value), cur.toList = olds ++ news ++ Z → olds.length = es1.length * sz → (∀ i e, es1[i]? = some e → ∀ j d, e[j]? = some d → ∃ v, olds[i * sz + j]? = some v ∧ RepM (okA C.av s.st m) w d v) →
        ∀ q e, (es1 ++ es2)[q]? = some e → ∀ j d, e[j]? = some d → ∃ v, cur[q * sz + j]? = some v ∧ RepM (okA C.av s.st m) w d v := fun olds cur Z hcur hol hod q e hq j d hj => by
      rw [← Array.getElem?_toList, hcur, List.append_assoc]
      by_cases hlt : q < es1.length
      · rw [List.getElem?_append_left hlt] at hq
        obtain ⟨v, hv, hr⟩ := hod q e hq j d hj
        exact ⟨v, by rw [List.getElem?_append_left (get_lt hv)]; exact hv, hr⟩
      · rw [List.getElem?_append_right (by omega)] at hq
        obtain ⟨v, hv, hr⟩ := hnd _ e hq j d hj
        refine ⟨v, ?_, hr⟩
        have e1 : q * sz + j = es1.length * sz + ((q - es1.length) * sz + j) := by
          rw [← Nat.add_assoc, ← Nat.add_mul]
          congr 2
          omega
        rw [e1, ← hol, List.getElem?_append_right (by omega), Nat.add_sub_cancel_left, List.getElem?_append_left (get_lt hv)]
        exact hv
    have grow : ∀ (A : Addr) (olds : List Value), ad = some A → olds.length = es1.length * sz → (∀ j v, olds[j]? = some v → w.cell? (A.add j) = some v) → (∀ i e, es1[i]? = some e → ∀ j d, e[j]? = some d → ∃ v, olds[i * sz + j]? = some v ∧ RepM (okA C.av s.st m) w d v) →
        ∃ c cur w1, (execOp a.eval o).run P w = .ok (.value (.slice (some ⟨w.heap.size, 0, none⟩) (es1.length + es2.length) c)) w1 ∧ Ext w w1 ∧ OB w1 w.heap.size E cur ∧ es1.length + es2.length ≤ c ∧ c ≤ maxLen ∧
          (∀ q e, (es1 ++ es2)[q]? = some e → ∀ j d, e[j]? = some d → ∃ v, cur[q * sz + j]? = some v ∧ RepM (okA C.av s.st m) w d v) := fun A olds hA hol hold hod => by
      subst hA
      have happ := run_append_grow (P := P) w T o.type E i z hu hi hzz A es1.length es1.length olds (by rw [hs]; exact hol) hold ⟨b, off, none⟩ es2.length c2 news (by rw [hnl, hs]) hnews (by omega) (by omega) (growslice_fits (by omega) hlen)
      rw [← hv2, ← hv1] at happ
      have hge := grownCap_ge w (es1.length + es2.length) es1.length E
      exact ⟨_, _, _, hrun _ _ happ, .alloc (.drew (.refl _)) _, OB.new w.drew E _, hge, grownCap_le_maxLen w _ _ _ (by unfold maxLen; omega), fin olds _ _ (by simp; rfl) hol hod⟩
    by_cases he : es1 = []
    · cases ad with
      | none =>
        subst he
        have happ := run_append_nil (P := P) w T o.type E i z hu hi hzz ⟨b, off, none⟩ es2.length c2 news (by rw [hnl, hs]) hnews (by omega) (by omega) (by simp only [List.length_nil, Nat.zero_add] at hlen; omega)
        have hv1' : a.eval x = .slice none 0 0 := hv1
        rw [← hv2, ← hv1'] at happ
        have hge := grownCap_ge w es2.length 0 E
        have hf := fin [] (news.toArray ++ Builtin.zeroCells z.cells (grownCap w es2.length 0 E - es2.length)) (Builtin.zeroCells z.cells (grownCap w es2.length 0 E - es2.length)).toList (by simp) (by simp) (fun i e h => by simp at h)
        have hcm : grownCap w es2.length 0 E ≤ maxLen := grownCap_le_maxLen w _ _ _ (by unfold maxLen; omega)
        simp only [List.length_nil, Nat.zero_add, List.nil_append] at hf ⊢
        exact ⟨_, _, _, hrun _ _ happ, .alloc (.drew (.refl _)) _, OB.new w.drew E _, by simpa using hge, hcm, hf⟩
      | some A =>
        subst he
        exact grow A [] rfl (by simp) (fun j v h => by simp at h) (fun i e h => by simp at h)
    · obtain ⟨b1, off1, c1, olds, hv1', hol, hold, -, hod⟩ := hr1.news h1 he hsz
      have hva := hv1.symm.trans hv1'
      injection hva with e1 e2 e3
      exact grow _ olds e1 hol hold hod

theorem AOp.appendLit {T E sz by_ : Nat} {x y : Operand} {es1 es2 es3 : List (List Tr)} {p : PV} (ho : o.op = .call { callee := .builtin .append, args := #[x, y], argTypes := #[T, T] }) (hd : dstOk o.dst n = true)
    (hx : s.ev x = some (.lit sz es1)) (hy : s.ev y = some p) (hp : rowOf p = some (sz, es2)) (h1 : ∀ e ∈ es1, e.length = sz) (h2 : ∀ e ∈ es2, e.length = sz) (hne : es2 ≠ []) (hsz : 0 < sz)
    (hT : elemOf? P T = some (E, sz, by_)) (hz : (P.info? E).bind (fun i => i.zero.map (fun z => z.cells.size)) = some sz) (hb : 0 < by_) (hlen : (es1.length + es2.length) * by_ ≤ 140737488355328) (h3 : es1 ++ es2 = es3) :
    AOp P C n o s (s.putO o.dst (.t (.row sz es3))) := by
  subst h3
  refine AOp.quietX hd fun m a w h => ?_
  obtain ⟨c, cur, w1, hr, hX, hob, hc, hm, hget⟩ := appendLit_run ho hx hy hp h1 h2 hne hsz hT hz hb hlen h
  refine ⟨_, w1, hr, hX, ?_⟩
  have := RepM.row (ok := okA C.av s.st m) (w := w1) (es := es1 ++ es2) (sz := sz) (a := some ⟨w.heap.size, 0, none⟩) (cap := c) (fun q j => (cur[q * sz + j]?).getD undef) (by rw [List.length_append]; exact hc) hm (fun _ => ⟨w.heap.size, 0, rfl, hob.lt, fun q e hq j d hd => ⟨okA_new h.sto (Nat.le_refl _) _, ?_⟩⟩) (fun q e hq j d hd => ?_)
  · rw [List.length_append] at this
    exact this
  · obtain ⟨v, hv, -⟩ := hget q e hq j d hd
    rw [Nat.zero_add, hob.cell, hv]
    rfl
  · obtain ⟨v, hv, hr⟩ := hget q e hq j d hd
    rw [hv]
    exact RepM.ext hr hX
/-! ### A box that is written no more -/
mutual
inductive FLe (k sz : Nat) (es : List (List Tr)) : PV → PV → Prop
  | le {p q : PV} : PV.Le p q → FLe k sz es p q
  | bsl {n : Nat} : es.length = n → FLe k sz es (.bsl k n) (.t (.row sz es))
  | bslL {n : Nat} : es.length = n → FLe k sz es (.bsl k n) (.lit sz es)
  | gsl {n : Nat} : es.length = n → FLe k sz es (.gsl k n) (.t (.row sz es))
  | agg {ps qs : List PV} : FLeL k sz es ps qs → FLe k sz es (.agg ps) (.agg qs)
inductive FLeL (k sz : Nat) (es : List (List Tr)) : List PV → List PV → Prop
  | nil : FLeL k sz es [] []
  | cons {p q : PV} {ps qs : List PV} : FLe k sz es p q → FLeL k sz es ps qs → FLeL k sz es (p :: ps) (q :: qs)
end
def FBox (k sz : Nat) (es : List (List Tr)) (st' : Sto) : List (Option PBox) → List (Option PBox) → Prop
  | _, [] => True
  | _ :: xs, none :: ys => FBox k sz es st' xs ys
  | some x :: xs, some y :: ys => (x.ty = y.ty ∧ FLeL k sz es x.cells y.cells ∧ okInL st' y.cells = true) ∧ FBox k sz es st' xs ys
  | _, _ => False
theorem FBox.get {k sz : Nat} {es : List (List Tr)} {st' : Sto} : ∀ {xs ys : List (Option PBox)}, FBox k sz es st' xs ys → ∀ (i : Nat) (y : PBox), ys[i]? = some (some y) → ∃ x : PBox, xs[i]? = some (some x) ∧ x.ty = y.ty ∧ FLeL k sz es x.cells y.cells ∧ okInL st' y.cells = true
  | _, [], _, i, y, h => by simp at h
  | [], none :: ys, hl, i, y, h => hl.elim
  | x :: xs, none :: ys, hl, 0, y, h => by simp at h
  | none :: xs, none :: ys, hl, i + 1, y, h => by simpa using FBox.get (xs := xs) hl i y (by simpa using h)
  | some _ :: xs, none :: ys, hl, i + 1, y, h => by simpa using FBox.get (xs := xs) hl i y (by simpa using h)
  | some x :: xs, some z :: ys, hl, 0, y, h => by
    simp at h
    subst h
    exact ⟨x, rfl, hl.1⟩
  | some x :: xs, some z :: ys, hl, i + 1, y, h => by simpa using FBox.get (xs := xs) hl.2 i y (by simpa using h)
  | [], some _ :: _, hl, _, _, _ => hl.elim
  | none :: _, some _ :: _, hl, _, _, _ => hl.elim
def FEnv (k sz : Nat) (es : List (List Tr)) (s : AS) (st' : Sto) : List (Nat × PV) → Prop
  | [] => True
  | (i, q) :: l => (∃ p, s.lk i = some p ∧ FLe k sz es p q ∧ PV.okIn st' q = true) ∧ FEnv k sz es s st' l
theorem FEnv.get {k sz : Nat} {es : List (List Tr)} {s : AS} {st' : Sto} : ∀ {l : List (Nat × PV)} {i : Nat} {q : PV}, FEnv k sz es s st' l → l.lookup i = some q → ∃ p, s.lk i = some p ∧ FLe k sz es p q ∧ PV.okIn st' q = true
  | [], _, _, _, h => by simp at h
  | (j, p) :: l, i, q, hl, h => by
    rw [List.lookup_cons] at h
    by_cases hik : i = j
    · subst hik
      simp at h
      subst h
      exact hl.1
    · rw [show (i == j) = false by simp [hik]] at h
      exact FEnv.get hl.2 h
mutual
theorem FLe.rv {k sz : Nat} {es : List (List Tr)} {ok ok' : Nat → Nat → Prop} {st st' : Sto} {m : Lay} {w : World} (hle : ∀ p v, PV.okIn st' p = true → RV ok st m w p v → RV ok' st' m w p v) (hb : ∀ v c, es.length ≤ c → c ≤ maxLen → v = .slice (some ⟨m.ρ k, 0, none⟩) es.length c → RepM ok' w (.row sz es) v) (hm : es.length ≤ maxLen) :
    ∀ {p q : PV} {v : Value}, FLe k sz es p q → PV.okIn st' q = true → RV ok st m w p v → RV ok' st' m w q v
  | _, _, _, .le h, hk, hr => hle _ _ hk (h.rv hr)
  | _, _, _, .bsl h, _, hr => hb _ _ (Nat.le_refl _) hm (h ▸ hr.2)
  | _, _, _, .bslL h, _, hr => ⟨hb _ _ (Nat.le_refl _) hm (h ▸ hr.2), _, h ▸ hr.2⟩
  | _, _, _, .gsl h, _, hr => by
    obtain ⟨-, c, hc, hcm, hv⟩ := hr
    subst h
    exact hb _ c hc hcm hv
  | _, _, _, .agg h, hk, hr => by
    obtain ⟨vs, hv, h1⟩ := hr
    exact ⟨vs, hv, FLeL.rv hle hb hm h hk h1⟩
theorem FLeL.rv {k sz : Nat} {es : List (List Tr)} {ok ok' : Nat → Nat → Prop} {st st' : Sto} {m : Lay} {w : World} (hle : ∀ p v, PV.okIn st' p = true → RV ok st m w p v → RV ok' st' m w p v) (hb : ∀ v c, es.length ≤ c → c ≤ maxLen → v = .slice (some ⟨m.ρ k, 0, none⟩) es.length c → RepM ok' w (.row sz es) v) (hm : es.length ≤ maxLen) :
    ∀ {ps qs : List PV} {vs : List Value}, FLeL k sz es ps qs → okInL st' qs = true → RVL ok st m w ps vs → RVL ok' st' m w qs vs
  | _, _, [], .nil, _, h => trivial
  | _, _, _ :: _, .nil, _, h => h.elim
  | _, _, [], .cons _ _, _, h => h.elim
  | _, _, _ :: _, .cons k1 k2, hk, h => by
    simp only [okInL, Bool.and_eq_true] at hk
    exact ⟨FLe.rv hle hb hm k1 hk.1 h.1, FLeL.rv hle hb hm k2 hk.2 h.2⟩
end
/-- The slice over box k is plain data from here on. -/
theorem Wk.freeze {k sz : Nat} {bx : PBox} {es : List (List Tr)} {s' : AS} (hb : s.st.boxes[k]? = some (some bx)) (hc : LeL bx.cells (es.flatten.map PV.t)) (hes : ∀ e ∈ es, e.length = sz) (hm : es.length ≤ 16777216)
    (hbox : FBox k sz es s'.st s.st.boxes s'.st.boxes) (hnone : s'.st.boxes[k]? = some none) (hr : s'.st.rows = s.st.rows) (hp : Keeps0 C.st s'.st) (he : FEnv k sz es s s'.st s'.env) : Wk C n s s' := fun m a w h => by
  have hsub : StSub s.st s'.st := ⟨fun i x hi => by obtain ⟨y, hy, -⟩ := hbox.get i x hi; exact ⟨y, hy⟩, fun r row hrow => by rw [hr] at hrow; exact hrow⟩
  obtain ⟨vs, hob, hvs⟩ := h.sto.box k bx hb
  have hts := LeL.rv hc hvs
  have hokk : ∀ o, okA C.av s'.st m (m.ρ k) o := fun o => ⟨h.sto.avb k bx hb o, fun i x hi => by
    obtain ⟨y, hy, -⟩ := hbox.get i x hi
    by_cases hik : i = k
    · subst hik
      rw [hnone] at hi
      cases hi
    · exact h.sto.binj i k y bx hy hb hik, fun r row g c hrow hg e => absurd e.symm (h.sto.br k bx r row g c hb (hsub.rows r row hrow) hg)⟩
  have hmm : es.length ≤ maxLen := by unfold maxLen; omega
  have hRep : ∀ v c, es.length ≤ c → c ≤ maxLen → v = .slice (some ⟨m.ρ k, 0, none⟩) es.length c → RepM (okA C.av s'.st m) w (.row sz es) v := by
    rintro _ c hc hcm rfl
    have hget : ∀ q e, es[q]? = some e → ∀ j d, e[j]? = some d → ∃ v, vs[q * sz + j]? = some v ∧ RepM (okA C.av s.st m) w d v := fun q e hq j d hj => by
      have hf := flatten_get (sz := sz) hes hq hj
      obtain ⟨v, hv, hrv⟩ := hts.get (j := q * sz + j) (p := .t d) (by rw [List.getElem?_map, hf]; rfl)
      exact ⟨v, hv, hrv⟩
    refine RepM.row (fun q j => (vs[q * sz + j]?).getD undef) hc hcm (fun _ => ⟨m.ρ k, 0, rfl, hob.lt, fun q e hq j d hd => ⟨hokk _, ?_⟩⟩) (fun q e hq j d hd => ?_)
    · obtain ⟨v, hv, -⟩ := hget q e hq j d hd
      rw [Nat.zero_add, hob.cell hv, hv]
      rfl
    · obtain ⟨v, hv, hrr⟩ := hget q e hq j d hd
      rw [hv]
      exact RepM.mono hrr (Nat.le_refl _) (fun _ _ _ k => hsub.ok k) (fun _ _ _ _ => rfl)
  have hle : ∀ p v, PV.okIn s'.st p = true → RV (okA C.av s.st m) s.st m w p v → RV (okA C.av s'.st m) s'.st m w p v := fun p v => hsub.rv p v
  refine ⟨m, h.dfr, h.tsz, ?_, fun i q hq => ?_, ?_⟩
  · exact {
      box := fun i x hi => by
        obtain ⟨y, hy, ht, hl, hk⟩ := hbox.get i x hi
        obtain ⟨us, k1, k2⟩ := h.sto.box i y hy
        exact ⟨us, by rw [← ht]; exact k1, FLeL.rv hle hRep hmm hl hk k2⟩
      binj := fun i i' x x' hi hi' => by
        obtain ⟨y, hy, -⟩ := hbox.get i x hi
        obtain ⟨y', hy', -⟩ := hbox.get i' x' hi'
        exact h.sto.binj i i' y y' hy hy'
      row := fun r row hrow => by
        obtain ⟨k1, k2, k3⟩ := h.sto.row r row (hsub.rows r row hrow)
        refine ⟨k1, k2, ?_⟩
        rcases k3 with k3 | ⟨g, c, cur, q1, q2, q3, q4, q5, q6⟩
        · exact .inl k3
        · exact .inr ⟨g, c, cur, q1, q2, q3, q4, q5, RepM.mono q6 (Nat.le_refl _) (fun _ _ _ k => hsub.ok k) (fun _ _ _ _ => rfl)⟩
      rinj := fun r r' row row' g c c' hi hi' => h.sto.rinj r r' row row' g c c' (hsub.rows r row hi) (hsub.rows r' row' hi')
      br := fun i x r row g c hi hrow => by
        obtain ⟨y, hy, -⟩ := hbox.get i x hi
        exact h.sto.br i y r row g c hy (hsub.rows r row hrow)
      avlt := h.sto.avlt
      avr := fun r row g c hrow => h.sto.avr r row g c (hsub.rows r row hrow)
      avb := fun i x hi => by
        obtain ⟨y, hy, -⟩ := hbox.get i x hi
        exact h.sto.avb i y hy }
  · obtain ⟨p, h1, h2, h3⟩ := he.get hq
    obtain ⟨v, hv, hrv⟩ := h.env i p h1
    exact ⟨v, hv, FLe.rv hle hRep hmm h2 h3 hrv⟩
  · exact {
      os := h.ev.os
      tape := h.ev.tape
      output := h.ev.output
      size := h.ev.size
      blk := h.ev.blk
      cell := h.ev.cell
      okk := fun b o hb ho => (hsub.ok (av := fun _ _ => False) ⟨id, h.ev.okk b o hb ho⟩).2
      live := fun i x hi => ⟨hp.1 i x hi, (h.ev.live i x hi).2⟩
      fresh := fun i x' hi => by
        obtain ⟨y, hy, -⟩ := hbox.get i x' hi
        exact h.ev.fresh i y hy
      rowl := fun r row hrow => by
        obtain ⟨row', hr'⟩ := hp.2 r row hrow
        obtain ⟨row2, h1, h2⟩ := h.ev.rowl r row hrow
        have := hsub.rows r row' hr'
        rw [h1] at this
        cases this
        exact ⟨_, hr', h2⟩
      rfresh := fun r row' g c hrow hg => h.ev.rfresh r row' g c (hsub.rows r row' hrow) hg }
end
theorem Wk.freezeE {C : Ctx} {n : Nat} {s : AS} {k sz : Nat} {bx : PBox} {es es' : List (List Tr)} {s' : AS} (heq : es = es') (hb : s.st.boxes[k]? = some (some bx)) (hc : LeL bx.cells (es.flatten.map PV.t)) (hes : ∀ e ∈ es, e.length = sz) (hm : es.length ≤ 16777216)
    (hbox : FBox k sz es' s'.st s.st.boxes s'.st.boxes) (hnone : s'.st.boxes[k]? = some none) (hr : s'.st.rows = s.st.rows) (hp : Keeps0 C.st s'.st) (he : FEnv k sz es' s s'.st s'.env) : Wk C n s s' := by
  subst heq
  exact Wk.freeze hb hc hes hm hbox hnone hr hp he
/-- Compares views where a box is given up. -/
theorem fleA {p : Prop} (h : p := by (repeat' (first | exact FLe.bsl rfl | exact FLe.bslL rfl | exact FLe.gsl rfl | exact FLeL.nil | apply FLeL.cons | exact FLe.le (PV.Le.refl _) | exact FLe.le (PV.Le.acc _ _ _) | exact FLe.le (PV.Le.nil _) | exact FLe.le (PV.Le.lit _ _) | exact FLe.le (PV.Le.nilLit _) | apply FLe.agg))) : p := h
end Go.Proofs.Ytmpepccpnnldoaa

namespace Go.Proofs.Ytmpepccpnnldoaa
set_option linter.unusedSimpArgs false
set_option linter.unusedVariables false
open Go.RowKit Go.WalkArith Go.IntWalk Go.WideShapes

/-! ### Values -/
abbrev pI (x : Int) : PV := .t (.leaf (.int .i64 x))
abbrev pN (x : Nat) : PV := .t (.leaf (.int .i64 (x : Int)))
abbrev pS (x : ByteArray) : PV := .t (.leaf (.string x))
abbrev pB (x : Bool) : PV := .t (.leaf (.bool x))
abbrev rS (l : List ByteArray) : PV := .t (.row 1 (strTrs l))
abbrev rU (l : List UInt8) : PV := .t (.row 1 (byteTrs l))
abbrev dC (d : DS) : List PV := [.t (.row 1 (byteTrs d.code)), .t (.leaf (.int .i64 (d.p : Int))), .t (.leaf (.int .i64 d.h))]

/-- Elements of lists, told as data. -/
class TC (α : Type) [Inhabited α] where
  cs : α → List Tr
  trs : List α → List (List Tr)
  sz : Nat
  at_ : ∀ {l : List α} {k : Nat}, k < l.length → (trs l)[k]? = some (cs (atD l k))
  len : ∀ l : List α, (trs l).length = l.length
  map : ∀ l : List α, trs l = l.map cs
  csz : ∀ a, (cs a).length = sz
instance : TC ByteArray := ⟨fun x => [.leaf (.string x)], strTrs, 1, strTrs_at, strTrs_len, fun _ => rfl, fun _ => rfl⟩
instance : TC Int := ⟨fun x => [.leaf (.int .i64 x)], intTrs, 1, intTrs_at, intTrs_len, fun _ => rfl, fun _ => rfl⟩
instance : TC UInt8 := ⟨fun x => [.leaf (.int .u8 (x.toNat : Int))], byteTrs, 1, byteTrs_at, byteTrs_len, fun _ => rfl, fun _ => rfl⟩
section
variable {α : Type} [Inhabited α] [TC α]
theorem TC.all (l : List α) : ∀ e ∈ TC.trs l, e.length = TC.sz α := fun e he => by
  rw [TC.map] at he
  obtain ⟨x, _, rfl⟩ := List.mem_map.1 he
  exact TC.csz x
theorem TC.app (a b : List α) : TC.trs a ++ TC.trs b = TC.trs (a ++ b) := by rw [TC.map, TC.map, TC.map, List.map_append]
end

/-! ### Models taken apart -/
def Hd {β : Type} (m : Option β) (K : β → Prop) : Prop := ∃ v, m = some v ∧ K v
section
variable {α β σ : Type} {K : β → Prop} {r : β}
theorem hd0 {m : Option β} (h : m = some r) : Hd m (fun v => v = r) := ⟨r, h, rfl⟩
theorem gdI {p : Prop} {x : Option β} (h : Hd (gd p x) K) : p ∧ Hd x K := by
  obtain ⟨v, h1, h2⟩ := h
  by_cases hp : p
  · rw [gdT hp rfl] at h1; exact ⟨hp, v, h1, h2⟩
  · rw [gdF hp] at h1; cases h1
theorem bdI {o : Option α} {f : α → Option β} (h : Hd (bd o f) K) : ∃ a, o = some a ∧ Hd (f a) K := by
  obtain ⟨v, h1, h2⟩ := h
  cases o with
  | none => cases h1
  | some a => exact ⟨a, rfl, v, h1, h2⟩
theorem gdE {G p : Prop} {x : Option β} (h : Hd (gd p x) K) (k : p → Hd x K → G) : G := k (gdI h).1 (gdI h).2
theorem bdE {G : Prop} {o : Option α} {f : α → Option β} (h : Hd (bd o f) K) (k : ∀ a, o = some a → Hd (f a) K → G) : G := by
  obtain ⟨a, h1, h2⟩ := bdI h
  exact k a h1 h2
theorem bdE2 {G : Prop} {A B : Type} {o : Option (A × B)} {f : A × B → Option β} (h : Hd (bd o f) K) (k : ∀ a b, o = some (a, b) → Hd (f (a, b)) K → G) : G := bdE h fun _ => k _ _
theorem ltQ {G : Prop} {x : α} {f : α → Option β} (h : Hd (lt x f) K) (k : ∀ y, y = x → Hd (f y) K → G) : G := k x rfl h
theorem swI1 {b : Bool} {x y : Option β} (h : Hd (sw b x y) K) (e : b = true) : Hd x K := by subst e; exact h
theorem swI0 {b : Bool} {x y : Option β} (h : Hd (sw b x y) K) (e : b = false) : Hd y K := by subst e; exact h
theorem smI {v : β} (h : Hd (some v) K) : K v := by
  obtain ⟨u, h1, h2⟩ := h
  cases h1
  exact h2
def SK (f : σ → Option β) (K : β → Prop) : β ⊕ σ → Prop
  | .inl x => K x
  | .inr s => Hd (f s) K
theorem soI {m : Option (β ⊕ σ)} {f : σ → Option β} (h : Hd (so m f) K) : Hd m (SK f K) := by
  obtain ⟨v, h1, h2⟩ := h
  cases m with
  | none => cases h1
  | some a =>
    refine ⟨a, rfl, ?_⟩
    cases a with
    | inl x => cases h1; exact h2
    | inr s => exact ⟨v, h1, h2⟩
def LK (f : Nat → σ → Option (LR σ β)) (n i : Nat) (K : β ⊕ σ → Prop) : LR σ β → Prop
  | .next s => Hd (loopN f (n - (i + 1)) (i + 1) s) K
  | .brk s => K (.inr s)
  | .ret x => K (.inl x)
theorem lkR {f : Nat → σ → Option (LR σ β)} {n i : Nat} {K : β ⊕ σ → Prop} {x : β} (h : LK f n i K (.ret x)) : K (.inl x) := h
theorem lnT {f : Nat → σ → Option (LR σ β)} {n i : Nat} {s : σ} {K : β ⊕ σ → Prop} (hl : i < n) (h : Hd (loopN f (n - i) i s) K) : Hd (f i s) (LK f n i K) := by
  obtain ⟨v, h1, h2⟩ := h
  rw [show n - i = (n - (i + 1)) + 1 by omega, loopN] at h1
  cases hf : f i s with
  | none => rw [hf] at h1; cases h1
  | some x =>
    rw [hf] at h1
    refine ⟨x, rfl, ?_⟩
    cases x with
    | next s' => exact ⟨v, h1, h2⟩
    | brk s' => cases h1; exact h2
    | ret x => cases h1; exact h2
theorem lnE {f : Nat → σ → Option (LR σ β)} {n i : Nat} {s : σ} {K : β ⊕ σ → Prop} (hl : n ≤ i) (h : Hd (loopN f (n - i) i s) K) : K (.inr s) := by
  obtain ⟨v, h1, h2⟩ := h
  rw [show n - i = 0 by omega, loopN] at h1
  cases h1
  exact h2
end

/-! ### States that say less, found by themselves -/
section
variable {P : Program} {C : Ctx} {n : Nat} {s s' : AS}
theorem keepA {st' : Sto} (h : Keeps0 C.st st' := by first | exact keeps_nil (by assumption) | (refine keeps_all (by assumption) ?_ ?_; (first | exact boxes0 | exact boxes1 rfl | exact boxes2 rfl | exact boxes3 rfl); exact Nat.le_of_ble_eq_true rfl)) : Keeps0 C.st st' := h
theorem stleA {st st' : Sto} (hb : BoxLe st' st.boxes st'.boxes := by repeat' (first | exact trivial | refine ⟨⟨rfl, leA, rfl⟩, ?_⟩)) (hr : st.rows.take st'.rows.length = st'.rows := by first | rfl | simp) : StLe st st' := StLe.mk' hb hr
theorem wkA (hst : StLe s.st s'.st := by exact stleA) (hp : Keeps0 C.st s'.st := by exact keepA) (he : EnvLe s s'.st s'.env := by repeat' (first | exact trivial | refine ⟨⟨_, rfl, leA, rfl⟩, ?_⟩)) : Wk C n s s' := Wk.mk hst hp he
end

theorem nmD {P : Program} {f : FuncId} {args : List PV} {pre : Sto} {q : PV} {y d : DS} {T : TypeId} (hy : y = d) (h : ACalls P f args pre (fun r t => r = q ∧ t = DS.box T d)) : ACalls P f args pre (fun r t => r = q ∧ t = DS.box T y) := by subst hy; exact h
theorem nmP {P : Program} {f : FuncId} {args : List PV} {pre : Sto} {x z : ByteArray} {y d : DS} {T : TypeId} (hy : y = d) (hx : x = z) (h : ACalls P f args pre (fun r t => r = pS z ∧ t = DS.box T d)) : ACalls P f args pre (fun r t => r = pS x ∧ t = DS.box T y) := by subst hy hx; exact h
/-! ### Ways that meet, loops, ends -/
def cutQ {β σ : Type} (C : Ctx) (n : Nat) (I : σ → AS) (K : β ⊕ σ → Prop) (Q : Exit → AS → Prop) : Exit → AS → Prop
  | .normal, s => ∃ v, K (.inr v) ∧ Wk C n s (I v)
  | e, s => Q e s
def lpQ {β σ : Type} (C : Ctx) (n : Nat) (id : Nat) (I : Nat → σ → AS) (O : σ → AS) (f : Nat → σ → Option (LR σ β)) (m i : Nat) (K : β ⊕ σ → Prop) (Q : Exit → AS → Prop) : Exit → AS → Prop
  | .normal, s => i < m ∧ ∃ v, Hd (loopN f (m - (i + 1)) (i + 1) v) K ∧ Wk C n s (I (i + 1) v)
  | .exit j, s => if j = id then ∃ v, K (.inr v) ∧ Wk C n s (O v) else Q (.exit j) s
  | e, s => Q e s
def lwQ {β σ : Type} (C : Ctx) (n : Nat) (id : Nat) (I : σ → AS) (O : σ → AS) (f : σ → Option (LR σ β)) (k : Nat) (K : β ⊕ σ → Prop) (Q : Exit → AS → Prop) : Exit → AS → Prop
  | .normal, s => ∃ v, Hd (loopW f k v) K ∧ Wk C n s (I v)
  | .exit j, s => if j = id then ∃ v, K (.inr v) ∧ Wk C n s (O v) else Q (.exit j) s
  | e, s => Q e s
section
variable {P : Program} {C : Ctx} {n : Nat} {s : AS} {Q : Exit → AS → Prop} {β σ : Type}
theorem qcCutQ {I : σ → AS} {K : β ⊕ σ → Prop} (hq : QC C n Q) : QC C n (cutQ C n I K Q) := fun e s s' h k => by
  cases e with
  | normal => obtain ⟨v, h1, h2⟩ := k; exact ⟨v, h1, h.trans h2⟩
  | _ => exact hq _ s s' h k
theorem qcLpQ {id : Nat} {I : Nat → σ → AS} {O : σ → AS} {f : Nat → σ → Option (LR σ β)} {m i : Nat} {K : β ⊕ σ → Prop} (hq : QC C n Q) : QC C n (lpQ C n id I O f m i K Q) := fun e s s' h k => by
  cases e with
  | normal => obtain ⟨h0, v, h1, h2⟩ := k; exact ⟨h0, v, h1, h.trans h2⟩
  | exit j =>
    simp only [lpQ] at k ⊢
    split
    · rename_i hj; rw [if_pos hj] at k; obtain ⟨v, h1, h2⟩ := k; exact ⟨v, h1, h.trans h2⟩
    · rename_i hj; rw [if_neg hj] at k; exact hq _ s s' h k
  | _ => exact hq _ s s' h k
theorem qcLwQ {id : Nat} {I : σ → AS} {O : σ → AS} {f : σ → Option (LR σ β)} {m : Nat} {K : β ⊕ σ → Prop} (hq : QC C n Q) : QC C n (lwQ C n id I O f m K Q) := fun e s s' h k => by
  cases e with
  | normal => obtain ⟨v, h1, h2⟩ := k; exact ⟨v, h1, h.trans h2⟩
  | exit j =>
    simp only [lwQ] at k ⊢
    split
    · rename_i hj; rw [if_pos hj] at k; obtain ⟨v, h1, h2⟩ := k; exact ⟨v, h1, h.trans h2⟩
    · rename_i hj; rw [if_neg hj] at k; exact hq _ s s' h k
  | _ => exact hq _ s s' h k
theorem qcA (h : QC C n Q := by repeat' (first | exact qcEnds | exact ncAWP | apply qcCutQ | apply qcLpQ | apply qcLwQ | apply qcThen | apply qcBlock)) : QC C n Q := h
theorem cutB {c : Code} {m : Option (β ⊕ σ)} {K : β ⊕ σ → Prop} (I : σ → AS) (H : Hd m K) (h : Hd m K → AWP P C n c (cutQ C n I K Q) s) (k : ∀ v, K (.inr v) → Q .normal (I v)) (hq : QC C n Q := by exact qcA) : AWP P C n c Q s :=
  AWP.mono (h H) fun e s' hc => by
    cases e with
    | normal =>
      obtain ⟨v, h1, h2⟩ := hc
      exact hq _ _ _ h2 (k v h1)
    | _ => exact hc
theorem cutX {I : σ → AS} {K : β ⊕ σ → Prop} {e : Exit} (h : ∃ v, K (.inr v) ∧ Wk C n s (I v)) (he : e = .normal := by exact rfl) : cutQ C n I K Q e s := by subst he; exact h
theorem loopB {c : Code} {id : Nat} {f : Nat → σ → Option (LR σ β)} {m i0 : Nat} {v0 : σ} {K : β ⊕ σ → Prop} (I : Nat → σ → AS) (O : σ → AS) (H : Hd (loopN f (m - i0) i0 v0) K)
    (round : ∀ i v, Hd (loopN f (m - i) i v) K → AWP P C n c (lpQ C n id I O f m i K Q) (I i v)) (k : ∀ v, K (.inr v) → Q .normal (O v)) (h0 : Wk C n s (I i0 v0) := by exact wkA) (hq : QC C n Q := by exact qcA) : AWP P C n (.block id (.loop c)) Q s := by
  refine AWP.block ?_; refine AWP.loopJ (ι := Nat × σ) (fun x => Hd (loopN f (m - x.1) x.1 x.2) K) (fun x => I x.1 x.2) (fun x => m - x.1) (i0, v0) H h0 ?_; rintro ⟨i, v⟩ hj
  refine AWP.mono (round i v hj) fun e s' h => ?_
  cases e with
  | normal =>
    obtain ⟨h1, v', h2, h3⟩ := h
    exact ⟨(i + 1, v'), h2, h3, by show m - (i + 1) < m - i; omega⟩
  | exit j =>
    simp only [lpQ] at h
    show inBlockA id Q (.exit j) s'
    simp only [inBlockA]
    split
    · rename_i hj; rw [if_pos hj] at h; obtain ⟨v', h1, h2⟩ := h; exact hq _ _ _ h2 (k v' h1)
    · rename_i hj; rw [if_neg hj] at h; exact h
  | _ => exact h
theorem lpN {id : Nat} {I : Nat → σ → AS} {O : σ → AS} {f : Nat → σ → Option (LR σ β)} {m i : Nat} {K : β ⊕ σ → Prop} {e : Exit} (hi : i < m) (h : ∃ v, LK f m i K (.next v) ∧ Wk C n s (I (i + 1) v)) (he : e = .normal := by exact rfl) : lpQ C n id I O f m i K Q e s := by subst he; exact ⟨hi, h⟩
theorem lpX {id : Nat} {I : Nat → σ → AS} {O : σ → AS} {f : Nat → σ → Option (LR σ β)} {m i : Nat} {K : β ⊕ σ → Prop} {e : Exit} (h : ∃ v, K (.inr v) ∧ Wk C n s (O v)) (he : e = .exit id := by exact rfl) : lpQ C n id I O f m i K Q e s := by
  subst he
  simp only [lpQ, if_pos]
  exact h
/-- A branch, the model's branch beside it. -/
theorem spB {β : Type} {K : β → Prop} {x y : Option β} {ops : Array Oper} {l : List Oper} (d : Nat) {b : Bool} (H : Hd (sw b x y) K) (h1 : b = true → Hd x K → AL P C n ops l Q s) (h0 : b = false → Hd y K → AL P C n ops l Q s) (hb : s.lk d = some (.t (.leaf (.bool b))) := by exact rfl) : AL P C n ops l Q s := AL.splitB d hb (fun h => h1 h (swI1 H h)) (fun h => h0 h (swI0 H h))
theorem cndB {K : β → Prop} {c : Operand} {b : Bool} {x y : Option β} {cx cy : Code} (H : Hd (sw b x y) K) (ht : b = true → Hd x K → AWP P C n cx Q s) (hf : b = false → Hd y K → AWP P C n cy Q s) (hc : s.ev c = some (.t (.leaf (.bool b))) := by exact rfl) : AWP P C n (.cond c cx cy) Q s :=
  AWP.cond hc (fun h => ht h (swI1 H h)) fun h => hf h (swI0 H h)
theorem cndT {c : Operand} {b : Bool} {cx cy : Code} (e : b = true) (h : AWP P C n cx Q s) (hc : s.ev c = some (.t (.leaf (.bool b))) := by exact rfl) : AWP P C n (.cond c cx cy) Q s := AWP.cond hc (fun _ => h) fun h => absurd (e.symm.trans h) (by decide)
theorem cndF {c : Operand} {b : Bool} {cx cy : Code} (e : b = false) (h : AWP P C n cy Q s) (hc : s.ev c = some (.t (.leaf (.bool b))) := by exact rfl) : AWP P C n (.cond c cx cy) Q s := AWP.cond hc (fun h => absurd (e.symm.trans h) (by decide)) fun _ => h
/-- The loop's own test. -/
theorem cndL {K : β ⊕ σ → Prop} {f : Nat → σ → Option (LR σ β)} {m i : Nat} {v : σ} {c : Operand} {b : Bool} {cx cy : Code} (H : Hd (loopN f (m - i) i v) K) (ht : b = true → i < m → Hd (f i v) (LK f m i K) → AWP P C n cx Q s) (hf : b = false → K (.inr v) → AWP P C n cy Q s) (h1 : b = true → i < m := by first | exact nat_lt_of2 | exact nat_lt_of3) (h0 : b = false → m ≤ i := by first | exact nat_ge_of2 | exact nat_ge_of3) (hc : s.ev c = some (.t (.leaf (.bool b))) := by exact rfl) : AWP P C n (.cond c cx cy) Q s :=
  AWP.cond hc (fun h => ht h (h1 h) (lnT (h1 h) H)) fun h => hf h (lnE (h0 h) H)
theorem qI {f : FuncId} {fn : Func} {c : Code} {args : List PV} {pre : Sto} {R : PV → Sto → Prop} (hf : P.funcs[f]? = some fn) (h : ∀ C : Ctx, C.st = pre → AWP P C fn.ntmps c (Ends P C fn.ntmps fn R) ⟨argEnv 0 args, pre⟩) (hb : fn.body = some c := by exact rfl) (hn : args.length ≤ fn.ntmps := by first | decide | (simp; done) | (simp; decide)) : ACalls P f args pre R := ACalls.intro hf hb hn h
theorem qS {x y : Code} (h : AWP P C n x (thenA (AWP P C n y Q) Q) s) : AWP P C n (.seq x y) Q s := AWP.seq h
theorem qR {id : Nat} {l : List Oper} (h : AL P C n l.toArray l Q s) : AWP P C n (.region id l.toArray false) Q s := AWP.region_lit h
theorem qN {ops : Array Oper} (h : Q .normal s) : AL P C n ops [] Q s := AL.nil h
theorem q1 {ops : Array Oper} {o : Oper} {rest : List Oper} {s1 : AS} (ho : AOp P C n o s s1) (h : AL P C n ops rest Q s1) (hg : o.guard = none := by exact rfl) : AL P C n ops (o :: rest) Q s := AL.cons hg ho h
theorem qg {ops : Array Oper} {o : Oper} {rest : List Oper} {s1 : AS} {j d : Nat} {b c : Bool} (hv : b = c) (ho : AOp P C n o s s1) (h : AL P C n ops rest Q s1) (hg : o.guard = some (j, c) := by exact rfl) (hj : (ops[j]?).bind (·.dst) = some d := by exact rfl) (hb : s.lk d = some (.t (.leaf (.bool b))) := by exact rfl) : AL P C n ops (o :: rest) Q s := AL.cons_gv hg hj hb hv ho h
theorem qk {ops : Array Oper} {o : Oper} {rest : List Oper} {j d : Nat} {b c e : Bool} (hv : b = e) (h : AL P C n ops rest Q (s.putO o.dst (.tup []))) (hg : o.guard = some (j, c) := by exact rfl) (hj : (ops[j]?).bind (·.dst) = some d := by exact rfl) (hb : s.lk d = some (.t (.leaf (.bool b))) := by exact rfl) (hne : (e == c) = false := by exact rfl) (hd : dstOk o.dst n = true := by exact rfl) : AL P C n ops (o :: rest) Q s := AL.skipP hg hj hb hv hne hd h
theorem qe1 {fn : Func} {R : PV → Sto → Prop} {e : Exit} {p q : PV} {st' : Sto} (hR : R q st' := by exact ⟨rfl, rfl⟩) (hr : ResL P s fn.results.toList [p] := by exact ⟨rfl, trivial⟩) (he : e = .normal ∨ e = .ret := by first | exact .inr rfl | exact .inl rfl)
    (hst : StLe s.st st' := by exact stleA) (hp : Keeps0 C.st st' := by exact keepA) (hle : PV.Le p q := by exact leA) (hk : PV.okIn st' q = true := by exact rfl) : Ends P C n fn R e s := Ends.mk he hr rfl hst hp hle hk hR
theorem qe2 {fn : Func} {R : PV → Sto → Prop} {e : Exit} {p1 p2 q : PV} {st' : Sto} (hR : R q st' := by exact ⟨rfl, rfl⟩) (hr : ResL P s fn.results.toList [p1, p2] := by exact ⟨rfl, rfl, trivial⟩) (he : e = .normal ∨ e = .ret := by first | exact .inr rfl | exact .inl rfl)
    (hst : StLe s.st st' := by exact stleA) (hp : Keeps0 C.st st' := by exact keepA) (hle : PV.Le (.tup [p1, p2]) q := by exact leA) (hk : PV.okIn st' q = true := by exact rfl) : Ends P C n fn R e s := Ends.mk he hr rfl hst hp hle hk hR
theorem lenF (i : Nat) {p : PV} {sz : Nat} {es : List (List Tr)} {N : Nat} {c : Code} (hl : es.length = N) (k : N ≤ 9223372036854775807 → AWP P C n c Q s) (hx : s.lk i = some p := by exact rfl) (hp : rowOf p = some (sz, es) := by exact rfl) : AWP P C n c Q s := AWP.fact (lk_lenN i hx hp hl) k
end

section
variable {P : Program} {C : Ctx} {n : Nat}
end
/-! ### Operations -/
def pk {α : Type} [Inhabited α] (l : List α) (j : Nat) : α := l.getD j (l.getLastD default)
instance : Inhabited DS := ⟨⟨[], 0, 0⟩⟩
instance : Inhabited PV := ⟨.nil⟩
instance : Inhabited Sto := ⟨⟨[], []⟩⟩
instance : Inhabited PRow := ⟨⟨0, 0, [], false⟩⟩
def evA (s : AS) : List Operand → Option (List PV)
  | [] => some []
  | x :: xs => match s.ev x with
    | some p => match evA s xs with
      | some ps => some (p :: ps)
      | none => none
    | none => none
theorem evA_map {s : AS} : ∀ {xs : List Operand} {ps : List PV}, evA s xs = some ps → xs.map s.ev = ps.map some
  | [], ps, h => by cases h; rfl
  | x :: xs, ps, h => by
    unfold evA at h
    split at h
    · rename_i p hp
      split at h
      · rename_i qs hq
        cases h
        rw [List.map_cons, List.map_cons, hp, evA_map hq]
      · cases h
    · cases h
section
variable {P : Program} {C : Ctx} {n : Nat} {s : AS} {o : Oper}
theorem rMv {x : Operand} {p : PV} (ho : o.op = .move x ∨ o.op = .assign x := by first | exact .inl rfl | exact .inr rfl) (hd : dstOk o.dst n = true := by exact rfl) (hx : s.ev x = some p := by exact rfl) : AOp P C n o s (s.putO o.dst p) := AOp.move ho hd hx
theorem rL1 {T : TypeId} {x : Operand} {k d z : Nat} {bx : PBox} {p : PV} (hT : shapeOf P T = some (false, z)) (ho : o.op = .load T x := by exact rfl) (hd : dstOk o.dst n = true := by exact rfl) (hx : s.ev x = some (.ptr k d) := by exact rfl) (hb : s.st.boxes[k]? = some (some bx) := by exact rfl) (hc : bx.cells[d]? = some p := by exact rfl) : AOp P C n o s (s.putO o.dst p) := AOp.loadPtr1 ho hd hx hb hT hc
theorem rLp {T : TypeId} {x : Operand} {k d z : Nat} {bx : PBox} (cs : List PV) (hT : shapeOf P T = some (true, z)) (ho : o.op = .load T x := by exact rfl) (hd : dstOk o.dst n = true := by exact rfl) (hx : s.ev x = some (.ptr k d) := by exact rfl) (hb : s.st.boxes[k]? = some (some bx) := by exact rfl) (hc : (bx.cells.drop d).take z = cs := by exact rfl) (hl : cs.length = z := by exact rfl) : AOp P C n o s (s.putO o.dst (.agg cs)) := AOp.loadPtr ho hd hx hb hT hc hl
theorem rK1 {T : TypeId} {x : Operand} {z : Nat} {d : Tr} {cs : List Tr} (hT : shapeOf P T = some (false, z)) (ho : o.op = .load T x := by exact rfl) (hd : dstOk o.dst n = true := by exact rfl) (hx : s.ev x = some (.eptr cs) := by exact rfl) (hc : cs[0]? = some d := by exact rfl) : AOp P C n o s (s.putO o.dst (.t d)) := AOp.loadEptr1 ho hd hx hT hc
theorem rKe {T : TypeId} {x : Operand} {z : Nat} {cs : List Tr} (ds : List Tr) (hT : shapeOf P T = some (true, z)) (ho : o.op = .load T x := by exact rfl) (hd : dstOk o.dst n = true := by exact rfl) (hx : s.ev x = some (.eptr cs) := by exact rfl) (hc : cs.take z = ds := by exact rfl) (hl : ds.length = z := by exact rfl) : AOp P C n o s (s.putO o.dst (.agg (ds.map PV.t))) := AOp.loadEptr ho hd hx hT hc hl
theorem rFp {T : TypeId} {x : Operand} {f k d e : Nat} (hf : fieldOff P T f = some e) (ho : o.op = .fieldAddr T x f := by exact rfl) (hd : dstOk o.dst n = true := by exact rfl) (hx : s.ev x = some (.ptr k d) := by exact rfl) : AOp P C n o s (s.putO o.dst (.ptr k (d + e))) := AOp.fieldPtr ho hd hx hf
theorem rFe {T : TypeId} {x : Operand} {f e : Nat} {cs : List Tr} (hf : fieldOff P T f = some e) (ho : o.op = .fieldAddr T x f := by exact rfl) (hd : dstOk o.dst n = true := by exact rfl) (hx : s.ev x = some (.eptr cs) := by exact rfl) : AOp P C n o s (s.putO o.dst (.eptr (cs.drop e))) := AOp.fieldEptr ho hd hx hf
theorem rAl {T : TypeId} {ps : List PV} (hz : zerosOf P T = some ps) (ho : o.op = .alloc T := by exact rfl) (hd : dstOk o.dst n = true := by exact rfl) : AOp P C n o s ((⟨s.env, s.st.addBox ⟨T, ps⟩⟩ : AS).putO o.dst (.ptr s.st.boxes.length 0)) := AOp.alloc ho hd hz
theorem rBx {T : TypeId} {x : Operand} {p : PV} (cs : List PV) (ho : o.op = .box T x := by exact rfl) (hd : dstOk o.dst n = true := by exact rfl) (hx : s.ev x = some p := by exact rfl) (hc : cellsP p = cs := by exact rfl) (ht : notTup p = true := by exact rfl) : AOp P C n o s ((⟨s.env, s.st.addBox ⟨T, cs⟩⟩ : AS).putO o.dst (.ptr s.st.boxes.length 0)) := AOp.box ho hd hx hc ht
theorem rSu {T : TypeId} {x y : Operand} {k d : Nat} {bx : PBox} {p : PV} {cs ds : List PV} (hT : (P.info? T).map (·.size) = some cs.length) (ho : o.op = .store T x y := by exact rfl) (hx : s.ev x = some (.ptr k d) := by exact rfl) (hb : s.st.boxes[k]? = some (some bx) := by exact rfl) (hy : s.ev y = some p := by exact rfl) (hc : cellsP p = cs := by exact rfl) (ht : notTup p = true := by exact rfl) (hf : flatP cs = true := by exact rfl)
    (hfit : d + cs.length ≤ bx.cells.length := by exact Nat.le_of_ble_eq_true rfl) (hds : bx.cells.take d ++ cs ++ bx.cells.drop (d + cs.length) = ds := by exact rfl) : AOp P C n o s ((⟨s.env, s.st.setBox k ⟨bx.ty, ds⟩⟩ : AS).delO o.dst) := AOp.storePtr ho hx hb hy hc ht hf hT hfit hds
theorem rLn {T : TypeId} {x : Operand} {p : PV} {sz N : Nat} {es : List (List Tr)} {E : Nat × Nat × Nat} (hT : elemOf? P T = some E) (hl : es.length = N) (ho : o.op = .call { callee := .builtin .len, args := #[x], argTypes := #[T] } := by exact rfl) (hd : dstOk o.dst n = true := by exact rfl) (hx : s.ev x = some p := by exact rfl) (hp : rowOf p = some (sz, es) := by exact rfl) : AOp P C n o s (s.putO o.dst (.t (.leaf (.int .i64 (N : Int))))) := AOp.lenN ho hd hx hp hT hl
theorem rEq {T yT : TypeId} {x y : Operand} {k : IntKind} {a b : Int} (ho : o.op = .binOp .eql T x y yT := by exact rfl) (hd : dstOk o.dst n = true := by exact rfl) (hx : s.ev x = some (.t (.leaf (.int k a))) := by exact rfl) (hy : s.ev y = some (.t (.leaf (.int k b))) := by exact rfl) : AOp P C n o s (s.putO o.dst (.t (.leaf (.bool (decide (a = b)))))) := AOp.eqlI ho hd hx hy
theorem rLt {T yT : TypeId} {x y : Operand} {k : IntKind} {a b : Int} (ho : o.op = .binOp .lss T x y yT := by exact rfl) (hd : dstOk o.dst n = true := by exact rfl) (hx : s.ev x = some (.t (.leaf (.int k a))) := by exact rfl) (hy : s.ev y = some (.t (.leaf (.int k b))) := by exact rfl) : AOp P C n o s (s.putO o.dst (.t (.leaf (.bool (decide (a < b)))))) := AOp.lss ho hd hx hy
theorem rLe {T yT : TypeId} {x y : Operand} {k : IntKind} {a b : Int} (ho : o.op = .binOp .leq T x y yT := by exact rfl) (hd : dstOk o.dst n = true := by exact rfl) (hx : s.ev x = some (.t (.leaf (.int k a))) := by exact rfl) (hy : s.ev y = some (.t (.leaf (.int k b))) := by exact rfl) : AOp P C n o s (s.putO o.dst (.t (.leaf (.bool (decide (a ≤ b)))))) := AOp.leq ho hd hx hy
theorem rGt {T yT : TypeId} {x y : Operand} {k : IntKind} {a b : Int} (ho : o.op = .binOp .gtr T x y yT := by exact rfl) (hd : dstOk o.dst n = true := by exact rfl) (hx : s.ev x = some (.t (.leaf (.int k a))) := by exact rfl) (hy : s.ev y = some (.t (.leaf (.int k b))) := by exact rfl) : AOp P C n o s (s.putO o.dst (.t (.leaf (.bool (decide (a > b)))))) := AOp.gtr ho hd hx hy
theorem rGe {T yT : TypeId} {x y : Operand} {k : IntKind} {a b : Int} (ho : o.op = .binOp .geq T x y yT := by exact rfl) (hd : dstOk o.dst n = true := by exact rfl) (hx : s.ev x = some (.t (.leaf (.int k a))) := by exact rfl) (hy : s.ev y = some (.t (.leaf (.int k b))) := by exact rfl) : AOp P C n o s (s.putO o.dst (.t (.leaf (.bool (decide (a ≥ b)))))) := AOp.geq ho hd hx hy
theorem rSe {T yT : TypeId} {x y : Operand} {a b : ByteArray} (ho : o.op = .binOp .eql T x y yT := by exact rfl) (hd : dstOk o.dst n = true := by exact rfl) (hx : s.ev x = some (.t (.leaf (.string a))) := by exact rfl) (hy : s.ev y = some (.t (.leaf (.string b))) := by exact rfl) : AOp P C n o s (s.putO o.dst (.t (.leaf (.bool (decide (a = b)))))) := AOp.eqlS ho hd hx hy
theorem rNo {T : TypeId} {x : Operand} {b : Bool} (ho : o.op = .unOp .not T x := by exact rfl) (hd : dstOk o.dst n = true := by exact rfl) (hx : s.ev x = some (.t (.leaf (.bool b))) := by exact rfl) : AOp P C n o s (s.putO o.dst (.t (.leaf (.bool (!b))))) := AOp.notB ho hd hx
theorem rSw {T yT : TypeId} {x y : Operand} {k : IntKind} {a b : Int} (ho : o.op = .binOp .sub T x y yT := by exact rfl) (hd : dstOk o.dst n = true := by exact rfl) (hx : s.ev x = some (.t (.leaf (.int k a))) := by exact rfl) (hy : s.ev y = some (.t (.leaf (.int k b))) := by exact rfl) : AOp P C n o s (s.putO o.dst (.t (.leaf (.int k (k.wrap (a - b)))))) := AOp.subW ho hd hx hy
theorem rIx {α : Type} [Inhabited α] [TC α] {l : List α} {T E sz by_ : Nat} {x i : Operand} {p : PV} {k : Nat} (h : k < l.length) (hT : elemOf? P T = some (E, sz, by_)) (ho : o.op = .indexAddr T x i := by exact rfl) (hd : dstOk o.dst n = true := by exact rfl) (hx : s.ev x = some p := by exact rfl) (hp : rowOf p = some (sz, TC.trs l) := by exact rfl) (hi : s.ev i = some (.t (.leaf (.int .i64 (k : Int)))) := by exact rfl) : AOp P C n o s (s.putO o.dst (.eptr (TC.cs (atD l k)))) := AOp.index ho hd hx hp hi (TC.at_ h) hT
theorem rEx {x : Operand} {i : Nat} {ps : List PV} {p : PV} (ho : o.op = .extract x i := by exact rfl) (hd : dstOk o.dst n = true := by exact rfl) (hx : s.ev x = some (.tup ps) := by exact rfl) (hi : ps[i]? = some p := by exact rfl) : AOp P C n o s (s.putO o.dst p) := AOp.extract ho hd hx hi
theorem rBd {T : TypeId} {parts : Array (Nat × Operand)} {ps : List (Nat × List PV)} {zs cs : List PV} {places : List (Nat × Nat)} (hz : zerosOf P T = some zs) (hpl : placesOf P T = some places) (ho : o.op = .build T parts := by exact rfl) (hd : dstOk o.dst n = true := by exact rfl) (hp : partsP s parts.toList = some ps := by exact rfl) (hc : fillP (fun i => places.toArray[i]?) zs ps = some cs := by exact rfl) : AOp P C n o s (s.putO o.dst (.agg cs)) := AOp.build ho hd hz hpl hp hc
theorem rBs {α : Type} [Inhabited α] [TC α] {T E by_ len : Nat} {parts : Array (Nat × Operand)} {ps : List (Nat × List PV)} {zs cs : List PV} (l : List α) (hT : elemOf? P T = some (E, TC.sz α, by_)) (hz : zerosOf P E = some zs) (ho : o.op = .buildSlice T len parts := by exact rfl) (hd : dstOk o.dst n = true := by exact rfl) (hp : partsP s parts.toList = some ps := by exact rfl)
    (hc : fillP (fun i => some (i * TC.sz α, TC.sz α)) (List.replicate len zs).flatten ps = some cs := by exact rfl) (hle : LeL cs ((l.map TC.cs).flatten.map PV.t) := by exact leA) (hel : l.length = len := by exact rfl) (hsz : 0 < TC.sz α := by decide) (hzl : zs.length = TC.sz α := by exact rfl) (hsm : len * TC.sz α ≤ 16777216 := by decide) : AOp P C n o s (s.putO o.dst (.t (.row (TC.sz α) (TC.trs l)))) :=
  AOp.buildSliceE (es := l.map TC.cs) ho hd hT hz hp hc hle (by rw [List.length_map]; exact hel) (fun e he => TC.all l e (by rw [TC.map]; exact he)) hsz hzl hsm (TC.map l).symm
theorem rBl {α : Type} [Inhabited α] [TC α] {T E by_ len : Nat} {parts : Array (Nat × Operand)} {ps : List (Nat × List PV)} {zs cs : List PV} (l : List α) (hT : elemOf? P T = some (E, TC.sz α, by_)) (hz : zerosOf P E = some zs) (ho : o.op = .buildSlice T len parts := by exact rfl) (hd : dstOk o.dst n = true := by exact rfl) (hp : partsP s parts.toList = some ps := by exact rfl)
    (hc : fillP (fun i => some (i * TC.sz α, TC.sz α)) (List.replicate len zs).flatten ps = some cs := by exact rfl) (hle : LeL cs ((l.map TC.cs).flatten.map PV.t) := by exact leA) (hel : l.length = len := by exact rfl) (hsz : 0 < TC.sz α := by decide) (hzl : zs.length = TC.sz α := by exact rfl) (hsm : len * TC.sz α ≤ 16777216 := by decide) : AOp P C n o s (s.putO o.dst (.lit (TC.sz α) (TC.trs l))) :=
  AOp.buildSliceLE (es := l.map TC.cs) ho hd hT hz hp hc hle (by rw [List.length_map]; exact hel) (fun e he => TC.all l e (by rw [TC.map]; exact he)) hsz hzl hsm (TC.map l).symm
theorem rBa {α : Type} [Inhabited α] [TC α] {T E by_ len : Nat} {parts : Array (Nat × Operand)} {ps : List (Nat × List PV)} {zs cs : List PV} (l : List α) (hT : elemOf? P T = some (E, TC.sz α, by_)) (hz : zerosOf P E = some zs) (ho : o.op = .buildSlice T len parts := by exact rfl) (hd : dstOk o.dst n = true := by exact rfl) (hp : partsP s parts.toList = some ps := by exact rfl)
    (hc : fillP (fun i => some (i * TC.sz α, TC.sz α)) (List.replicate len zs).flatten ps = some cs := by exact rfl) (hle : LeL cs ((l.map TC.cs).flatten.map PV.t) := by exact leA) (hel : l.length = len := by exact rfl) (hsz : 0 < TC.sz α := by decide) (hzl : zs.length = TC.sz α := by exact rfl) (hsm : len * TC.sz α ≤ 16777216 := by decide) : AOp P C n o s ((⟨s.env, s.st.addRow ⟨E, TC.sz α, TC.trs l, false⟩⟩ : AS).putO o.dst (.acc (TC.sz α) (TC.trs l) s.st.rows.length)) :=
  AOp.buildSliceA (es := l.map TC.cs) ho hd hT hz hp hc hle (by rw [List.length_map]; exact hel) (fun e he => TC.all l e (by rw [TC.map]; exact he)) hsz hzl hsm (TC.map l).symm
theorem rAp {α : Type} [Inhabited α] [TC α] {T E by_ : Nat} {x y : Operand} {a b : List α} {r : Nat} {row : PRow} {p : PV} (h : a.length + b.length ≤ 68719476736) (hT : elemOf? P T = some (E, TC.sz α, by_)) (hz : (P.info? E).bind (fun i => i.zero.map (fun z => z.cells.size)) = some (TC.sz α)) (ho : o.op = .call { callee := .builtin .append, args := #[x, y], argTypes := #[T, T] } := by exact rfl) (hd : dstOk o.dst n = true := by exact rfl)
    (hx : s.ev x = some (.acc (TC.sz α) (TC.trs a) r) := by exact rfl) (hrow : s.st.rows[r]? = some row := by exact rfl) (hes : row.es = TC.trs a := by exact rfl) (hE : row.E = E := by exact rfl) (hw : row.whole = false := by exact rfl) (hy : s.ev y = some p := by exact rfl) (hp : rowOf p = some (TC.sz α, TC.trs b) := by exact rfl)
    (hb : 0 < by_ := by decide) (hb2 : by_ ≤ 2048 := by decide) : AOp P C n o s ((⟨s.env, s.st.setRow r { row with es := TC.trs (a ++ b) }⟩ : AS).putO o.dst (.acc (TC.sz α) (TC.trs (a ++ b)) r)) :=
  AOp.appendE ho hd hx hrow hes hE hw hy hp (TC.all b) hT hz hb (by rw [TC.len, TC.len]; exact room_le h hb2) (TC.app a b)
theorem rPt {x y z : Operand} {b : Bool} {p : PV} (hb : b = true) (ho : o.op = .pick x y z := by exact rfl) (hd : dstOk o.dst n = true := by exact rfl) (hx : s.ev x = some (.t (.leaf (.bool b))) := by exact rfl) (hy : s.ev y = some p := by exact rfl) : AOp P C n o s (s.putO o.dst p) := AOp.pickT ho hd hx hb hy
theorem rPf {x y z : Operand} {b : Bool} {p : PV} (hb : b = false) (ho : o.op = .pick x y z := by exact rfl) (hd : dstOk o.dst n = true := by exact rfl) (hx : s.ev x = some (.t (.leaf (.bool b))) := by exact rfl) (hy : s.ev z = some p := by exact rfl) : AOp P C n o s (s.putO o.dst p) := AOp.pickF ho hd hx hb hy
theorem rCf {f : FuncId} {fn : Func} {xs : List Operand} {ts : Array TypeId} {ps qs : List PV} {res : PV} (hf : P.funcs[f]? = some fn) (hc : AFun P f qs res) (ho : o.op = .call { callee := .value (.func f), args := ⟨xs⟩, argTypes := ts } := by exact rfl) (hd : dstOk o.dst n = true := by exact rfl) (hnm : (fn.name == "runtime.NumGoroutine") = false := by kernel_rfl) (hb : fn.body.isNone = false := by exact rfl)
    (hx : evA s xs = some ps := by exact rfl) (hle : LeL ps qs := by exact leA) (h1 : freeL qs = true := by exact rfl) (h2 : PV.free res = true := by exact rfl) : AOp P C n o s (s.putO o.dst res) := AOp.callF ho hd hf hnm hb (evA_map hx) hle h1 h2 hc
theorem partA {S pre : Sto} {fb fr : List Nat} (hb : PartBoxes S fb fr pre fb pre.boxes := by repeat' (first | exact trivial | refine ⟨⟨_, rfl, rfl, leA, rfl⟩, ?_⟩)) (hr : PartRows S fr pre.rows := by repeat' (first | exact trivial | refine ⟨rfl, ?_⟩)) (h1 : fb.Nodup := by decide) (h2 : fr.Nodup := by decide) : Part0 S pre fb fr := Part0.of hb hr h1 h2
theorem rCp {f : FuncId} {fn : Func} {xs : List Operand} {ts : Array TypeId} {ps qs : List PV} {res : PV} {pre st' : Sto} (fb fr : List Nat) (hf : P.funcs[f]? = some fn) (hc : ACalls P f qs pre (fun r t => r = res ∧ t = st')) (ho : o.op = .call { callee := .value (.func f), args := ⟨xs⟩, argTypes := ts } := by exact rfl) (hd : dstOk o.dst n = true := by exact rfl) (hnm : (fn.name == "runtime.NumGoroutine") = false := by kernel_rfl) (hb : fn.body.isNone = false := by exact rfl)
    (hx : evA s xs = some ps := by exact rfl) (hp : Part0 s.st pre fb fr := by exact partA) (hle : LeL ps (renL fb fr qs) := by exact leA) (hok : okInL pre qs = true := by exact rfl) (hbl : st'.boxes.length = pre.boxes.length := by exact rfl) (hrl : st'.rows.length = pre.rows.length := by exact rfl) : AOp P C n o s ((⟨s.env, s.st.over st' fb fr⟩ : AS).putO o.dst (PV.ren fb fr res)) := AOp.callPE fb fr ho hd hf hnm hb (evA_map hx) rfl hp hle hok hbl hrl hc
end
end Go.Proofs.Ytmpepccpnnldoaa

namespace Go.Proofs.Ytmpepccpnnldoaa
set_option linter.unusedSimpArgs false
set_option linter.unusedVariables false
open Go.RowKit Go.WalkArith Go.IntWalk Go.WideShapes

section
variable {P : Program} {C : Ctx} {n : Nat} {o : Oper}
theorem upon_mono {a : Act} {K1 K : Act → World → Prop} {Q : Exit → Act → World → Prop} (hv : ∀ v w', K1 (a.put o.dst v) w' → K (a.put o.dst v) w')
    (hd : ∀ d w', K1 (({ a with defers := d :: a.defers } : Act).put o.dst undef) w' → K (({ a with defers := d :: a.defers } : Act).put o.dst undef) w') : ∀ r, o.upon P a K1 Q r → o.upon P a K Q r := by
  intro r h
  cases r with
  | ok x w' =>
    cases x with
    | value v => exact hv v w' h
    | skip => exact hv undef w' h
    | defer d => exact hd d w' h
    | enter f args =>
      refine Calls.mono h fun e w'' he => ?_
      cases e with
      | returned v => exact hv v w'' he
      | panicked c => exact he
      | outgrown => exact he
    | row r args => exact Rows.mono h fun v w'' he => hv v w'' he
    | _ => exact h
  | halt x w' =>
    cases x with
    | panic v => exact h
    | _ => exact h
theorem lk_putO (s : AS) (d : Nat) (p : PV) (i : Nat) : (s.putO (some d) p).lk i = if i = d then some p else s.lk i := AS.lk_put s d i p
/-- What was shown of an operation on what it leans on holds in every state that has as much. -/
theorem AOp.frame {E : List (Nat × PV)} {st st1 : Sto} {p : PV} {s' : AS} (h : ∀ C', AOp P C' n o ⟨E, st⟩ ((⟨E, st1⟩ : AS).putO o.dst p)) (hst : s'.st = st) (hl : ∀ t q, E.lookup t = some q → s'.lk t = some q) :
    AOp P C n o s' ((⟨s'.env, st1⟩ : AS).putO o.dst p) := fun m a w hr K Q hK => by
  subst hst
  have hr' : RA ⟨C.av, s'.st, m, w⟩ n ⟨E, s'.st⟩ m a w := ⟨hr.dfr, hr.tsz, hr.sto, fun i q hq => hr.env i q (hl i q hq), Ev.refl _ _ _⟩
  have h1 := h ⟨C.av, s'.st, m, w⟩ m a w hr' (fun a' w' => ∃ m', RA ⟨C.av, s'.st, m, w⟩ n ((⟨E, st1⟩ : AS).putO o.dst p) m' a' w') Q (fun m' a' w' h => ⟨m', h⟩)
  unfold Oper.wp at h1 ⊢
  refine upon_mono (fun v w' => ?_) (fun d w' => ?_) _ h1
  · rintro ⟨m', h2⟩
    refine hK m' _ w' ?_
    have key : ∀ (dst : Option Nat), dst = o.dst → RA C n ((⟨s'.env, st1⟩ : AS).putO dst p) m' (a.put dst v) w' := fun dst hdst => by
      rw [← hdst] at h2
      cases dst with
      | none =>
        have hE : Ev s'.st m w st1 m' w' := h2.ev
        exact ⟨h2.dfr, h2.tsz, h2.sto, fun i q hq => by
          obtain ⟨v', hv', hrv⟩ := hr.env i q hq
          exact ⟨v', hv', RV.mono hE q v' hrv⟩, hr.ev.trans hE⟩
      | some d =>
        have hE : Ev s'.st m w st1 m' w' := h2.ev
        refine ⟨h2.dfr, h2.tsz, h2.sto, fun i q hq => ?_, hr.ev.trans hE⟩
        rw [lk_putO] at hq
        by_cases hi : i = d
        · rw [if_pos hi] at hq
          cases hq
          exact h2.env i _ (by rw [lk_putO, if_pos hi])
        · rw [if_neg hi] at hq
          obtain ⟨v', hv', hrv⟩ := hr.env i q hq
          exact ⟨v', by simp only [Act.put]; rw [Array.getElem?_setIfInBounds_ne (fun e => hi e.symm)]; exact hv', RV.mono hE q v' hrv⟩
    exact key o.dst rfl
  · rintro ⟨m', h2⟩
    have h3 := h2.dfr
    have h4 : (({ a with defers := d :: a.defers } : Act).put o.dst undef).defers = d :: a.defers := by
      cases o.dst <;> rfl
    rw [h4] at h3
    cases h3
theorem AOp.frame0 {E : List (Nat × PV)} {st st1 : Sto} {s' : AS} (hn : o.dst = none) (h : ∀ C', AOp P C' n o ⟨E, st⟩ ⟨E, st1⟩) (hst : s'.st = st) (hl : ∀ t q, E.lookup t = some q → s'.lk t = some q) :
    AOp P C n o s' ⟨s'.env, st1⟩ := by
  have := AOp.frame (C := C) (P := P) (n := n) (o := o) (p := .nil) (E := E) (st := st) (st1 := st1) (s' := s') (by rw [hn]; exact h) hst hl
  rw [hn] at this
  exact this

/-- What is gathered on the way. A kind '.al' stands for an operation that does not look at the store. -/
structure DD where
  outs : List (Option PV)
  ks : List (Option DK)
  ins : List (List Nat)
  effs : List Nat
  fs : List (Option PBox → Sto)
  rds : List ((Nat × Nat) × Nat × Option (Option PBox))
  az : Option (Nat × PBox)
def DD.cz (g : DD) : Option PBox := g.az.map (·.2)
/-- A store with the region's own box, or without it. -/
def ab : Option PBox → Sto → Sto
  | none, st => st
  | some z, st => st.addBox z
/-- No store at all. -/
def badSto : Sto := ⟨[], [⟨0, 0, [], false⟩]⟩
theorem bad_rep {C : Ctx} {n : Nat} {env : List (Nat × PV)} {m : Lay} {a : Act} {w : World} (h : RA C n ⟨env, badSto⟩ m a w) : False := by
  have := (h.sto.row 0 ⟨0, 0, [], false⟩ rfl).1
  exact absurd this (by decide)
theorem AOp.bad {P : Program} {C : Ctx} {n : Nat} {o : Oper} {s s1 : AS} (hs : s.st = badSto) : AOp P C n o s s1 := fun m a w hr K Q hK => by
  obtain ⟨env, st⟩ := s
  cases hs
  exact (bad_rep hr).elim
/-- A pointer to a box that is not there. -/
theorem AOp.away {P : Program} {C : Ctx} {n : Nat} {o : Oper} {s s1 : AS} {t k off : Nat} (hl : s.lk t = some (.ptr k off)) (hk : s.st.boxes[k]? = none) : AOp P C n o s s1 := fun m a w hr K Q hK => by
  obtain ⟨v, -, ⟨x, hx⟩, -⟩ := hr.env t _ hl
  rw [hk] at hx
  cases hx
def rs (s : AS) : List Nat → List (Nat × PV)
  | [] => []
  | t :: ts => match s.lk t with
    | some p => (t, p) :: rs s ts
    | none => rs s ts
theorem rs_lk {s : AS} {t : Nat} {q : PV} : ∀ {I : List Nat}, (rs s I).lookup t = some q → t ∈ I ∧ s.lk t = some q
  | [], h => by cases h
  | x :: I, h => by
    unfold rs at h
    cases hx : s.lk x with
    | none =>
      rw [hx] at h
      obtain ⟨h1, h2⟩ := rs_lk (I := I) h
      exact ⟨.tail _ h1, h2⟩
    | some p =>
      rw [hx] at h
      dsimp only at h
      rw [List.lookup_cons] at h
      by_cases htx : t = x
      · subst htx
        simp only [BEq.rfl] at h
        cases h
        exact ⟨.head _, hx⟩
      · rw [show (t == x) = false by simp [htx]] at h
        obtain ⟨h1, h2⟩ := rs_lk (I := I) h
        exact ⟨.tail _ h1, h2⟩
def DSrc (l : List Oper) (e0 : List (Nat × PV)) (outs : List (Option PV)) (i t : Nat) (p : PV) : Prop :=
  (∃ (j : Nat) (o : Oper), j < i ∧ l[j]? = some o ∧ o.dst = some t ∧ outs[j]? = some (some p)) ∨ (e0.lookup t = some p ∧ ∀ (j : Nat) (o : Oper), j < i → l[j]? = some o → o.dst ≠ some t)
/-- Is it carried out? -/
inductive WD (l : List Oper) (e0 : List (Nat × PV)) (outs : List (Option PV)) (i : Nat) (o : Oper) : Bool → Prop
  | n : o.guard = none → WD l e0 outs i o true
  | y {j d : Nat} {b c : Bool} : o.guard = some (j, c) → (l[j]?).bind (·.dst) = some d → DSrc l e0 outs i d (.t (.leaf (.bool b))) → WD l e0 outs i o (b == c)
  | u {j d : Nat} {c : Bool} : o.guard = some (j, c) → (l[j]?).bind (·.dst) = some d → DSrc l e0 outs i d (.tup []) → WD l e0 outs i o false
inductive WS (l : List Oper) (s : AS) (o : Oper) : Bool → Prop
  | n : o.guard = none → WS l s o true
  | y {j d : Nat} {b c : Bool} : o.guard = some (j, c) → (l[j]?).bind (·.dst) = some d → s.lk d = some (.t (.leaf (.bool b))) → WS l s o (b == c)
  | u {j d : Nat} {c : Bool} : o.guard = some (j, c) → (l[j]?).bind (·.dst) = some d → s.lk d = some (.tup []) → WS l s o false
/-- What an operation has been shown to do (N boxes stood before the region; md: it makes a box at a time of its own). -/
inductive DDoes (P : Program) (n N : Nat) (md : Bool) (g : DD) (i : Nat) (o : Oper) (E : List (Nat × PV)) : Prop
  | q {p : PV} : g.ks[i]? = some none → g.outs[i]? = some (some p) → (∀ C' st, AOp P C' n o ⟨E, st⟩ ((⟨E, st⟩ : AS).putO o.dst p)) → DDoes P n N md g i o E
  | r {lo hi k : Nat} {X : Option (Option PBox)} {p : PV} : g.ks[i]? = some (some (.q lo hi)) → g.outs[i]? = some (some p) → ((lo, hi), k, X) ∈ g.rds → (md = true → k < N) → (∀ C' (st : Sto), st.boxes[k]? = X → AOp P C' n o ⟨E, st⟩ ((⟨E, st⟩ : AS).putO o.dst p)) → DDoes P n N md g i o E
  | c {j : Nat} {f : Option PBox → Sto} {p : PV} : g.ks[i]? = some (some (.q j j)) → g.outs[i]? = some (some p) → g.fs[j]? = some f → (∀ C' z, AOp P C' n o ⟨E, f z⟩ ((⟨E, f z⟩ : AS).putO o.dst p)) → DDoes P n N md g i o E
  | e {j : Nat} {f f1 : Option PBox → Sto} {p : PV} : g.ks[i]? = some (some (.ef j)) → g.outs[i]? = some (some p) → g.fs[j]? = some f → g.fs[j + 1]? = some f1 → (∀ C' z, AOp P C' n o ⟨E, f z⟩ ((⟨E, f1 z⟩ : AS).putO o.dst p)) → DDoes P n N md g i o E
  | e0 {j : Nat} {f f1 : Option PBox → Sto} : g.ks[i]? = some (some (.ef j)) → o.dst = none → g.fs[j]? = some f → g.fs[j + 1]? = some f1 → (∀ C' z, AOp P C' n o ⟨E, f z⟩ ⟨E, f1 z⟩) → DDoes P n N md g i o E
  | ea {j a t off : Nat} {zb : PBox} {f f1 : Option PBox → Sto} : g.az = some (a, zb) → g.ks[i]? = some (some (.ef j)) → o.dst = none → g.fs[j]? = some f → g.fs[j + 1]? = some f1 → E.lookup t = some (.ptr N off) → (f none = badSto ∨ (f none).boxes.length = N) → (∀ C', AOp P C' n o ⟨E, f (some zb)⟩ ⟨E, f1 (some zb)⟩) → DDoes P n N md g i o E
  | al {zb : PBox} : md = true → g.az = some (i, zb) → g.ks[i]? = some (some .al) → g.outs[i]? = some (some (.ptr N 0)) → (∀ C' st, st.boxes.length = N → AOp P C' n o ⟨[], st⟩ ((⟨[], st.addBox zb⟩ : AS).putO o.dst (.ptr N 0))) → DDoes P n N md g i o E
inductive DFact (P : Program) (n N : Nat) (md : Bool) (l : List Oper) (e0 : List (Nat × PV)) (g : DD) (i : Nat) (o : Oper) : Prop
  | does {E : List (Nat × PV)} {I : List Nat} : WD l e0 g.outs i o true → g.ins[i]? = some I → (∀ t q, E.lookup t = some q → t ∈ I ∧ DSrc l e0 g.outs i t q) → DDoes P n N md g i o E → DFact P n N md l e0 g i o
  | skip : WD l e0 g.outs i o false → g.ks[i]? = some none → g.outs[i]? = some (some (.tup [])) → dstOk o.dst n = true → DFact P n N md l e0 g i o
structure DD.le (g g' : DD) : Prop where
  outs : ∀ (i : Nat) (x : Option PV), g.outs[i]? = some x → g'.outs[i]? = some x
  ks : ∀ (i : Nat) (x : Option DK), g.ks[i]? = some x → g'.ks[i]? = some x
  ins : ∀ (i : Nat) (x : List Nat), g.ins[i]? = some x → g'.ins[i]? = some x
  fs : ∀ (i : Nat) (x : Option PBox → Sto), g.fs[i]? = some x → g'.fs[i]? = some x
  rds : ∀ x ∈ g.rds, x ∈ g'.rds
  az : ∀ x, g.az = some x → g'.az = some x
theorem src_le {g g' : DD} (h : g.le g') {l : List Oper} {e0 : List (Nat × PV)} {i t : Nat} {p : PV} (k : DSrc l e0 g.outs i t p) : DSrc l e0 g'.outs i t p := by
  rcases k with ⟨j, o, h1, h2, h3, h4⟩ | k
  · exact .inl ⟨j, o, h1, h2, h3, h.outs _ _ h4⟩
  · exact .inr k
theorem want_le {g g' : DD} (h : g.le g') {l : List Oper} {e0 : List (Nat × PV)} {i : Nat} {o : Oper} {b : Bool} (k : WD l e0 g.outs i o b) : WD l e0 g'.outs i o b := by
  cases k with
  | n a => exact .n a
  | y a b c => exact .y a b (src_le h c)
  | u a b c => exact .u a b (src_le h c)
theorem DFact.mono {N : Nat} {md : Bool} {l : List Oper} {e0 : List (Nat × PV)} {g g' : DD} {i : Nat} {o : Oper} (h : g.le g') (k : DFact P n N md l e0 g i o) : DFact P n N md l e0 g' i o := by
  cases k with
  | does h1 h2 h3 h4 =>
    refine .does (want_le h h1) (h.ins _ _ h2) (fun t q ht => ⟨(h3 t q ht).1, src_le h (h3 t q ht).2⟩) ?_
    cases h4 with
    | q a b c => exact .q (h.ks _ _ a) (h.outs _ _ b) c
    | r a b c d e => exact .r (h.ks _ _ a) (h.outs _ _ b) (h.rds _ c) d e
    | c a b c d => exact .c (h.ks _ _ a) (h.outs _ _ b) (h.fs _ _ c) d
    | e a b c d e => exact .e (h.ks _ _ a) (h.outs _ _ b) (h.fs _ _ c) (h.fs _ _ d) e
    | e0 a b c d e => exact .e0 (h.ks _ _ a) b (h.fs _ _ c) (h.fs _ _ d) e
    | ea z a b c d e f q => exact .ea (h.az _ z) (h.ks _ _ a) b (h.fs _ _ c) (h.fs _ _ d) e f q
    | al md z a b c => exact .al md (h.az _ z) (h.ks _ _ a) (h.outs _ _ b) c
  | skip h1 h2 h3 h4 => exact .skip (want_le h h1) (h.ks _ _ h2) (h.outs _ _ h3) h4
structure DInv (P : Program) (n : Nat) (md : Bool) (l : List Oper) (s0 : AS) (g : DD) (s : AS) : Prop where
  hs0 : ∃ f, g.fs[0]? = some f ∧ f none = s0.st
  hfl : g.fs.length = g.effs.length + 1
  hlast : ∃ f, g.fs[g.effs.length]? = some f ∧ f g.cz = s.st ∧ (md = false → f = fun _ => s.st) ∧ (md = true → g.az = none → f = fun z => ab z s.st)
  hk : g.ks.length = g.outs.length
  hi : g.ins.length = g.outs.length
  hz : md = true → ∀ f ∈ g.fs, f none = badSto ∨ ((f none).boxes.length = s0.st.boxes.length ∧ ∀ z, f (some z) = (f none).addBox z)
  hm : md = false → g.az = none
  hlk : ∀ t p, s.lk t = some p → DSrc l s0.env g.outs g.outs.length t p
  hf : ∀ (i : Nat) (o : Oper), l[i]? = some o → i < g.outs.length → DFact P n s0.st.boxes.length md l s0.env g i o
def DW (P : Program) (C : Ctx) (n id : Nat) (md : Bool) (l : List Oper) (Q : Exit → AS → Prop) (s0 : AS) (g : DD) (s : AS) (rest : List Oper) : Prop :=
  DInv P n md l s0 g s → l.drop g.outs.length = rest → AWP P C n (.region id l.toArray true) Q s0

variable {id : Nat} {l : List Oper} {Q : Exit → AS → Prop} {s0 s : AS} {g : DD} {rest : List Oper} {md : Bool}
theorem dW (h : DW P C n id false l Q s ⟨[], [], [], [], [fun _ => s.st], [], none⟩ s l) : AWP P C n (.region id l.toArray true) Q s :=
  h ⟨⟨_, rfl, rfl⟩, rfl, ⟨_, rfl, rfl, fun _ => rfl, fun h => (by cases h)⟩, rfl, rfl, fun h => (by cases h), fun _ => rfl, fun t p ht => .inr ⟨ht, fun j o hj => (by cases hj)⟩, fun i o _ hi => (by cases hi)⟩ rfl
theorem snoc_get {α : Type} {l : List α} {y : α} (i : Nat) (x : α) (h : l[i]? = some x) : (l ++ [y])[i]? = some x := by
  obtain ⟨hi, -⟩ := List.getElem?_eq_some_iff.1 h
  rw [List.getElem?_append_left hi]
  exact h
theorem snoc_last {α : Type} {l : List α} {y : α} {k : Nat} (h : l.length = k) : (l ++ [y])[k]? = some y := by subst h; simp
theorem drop_at {o : Oper} (h : l.drop g.outs.length = o :: rest) : l[g.outs.length]? = some o ∧ l.drop (g.outs.length + 1) = rest := by
  constructor
  · have := congrArg (fun x => x[0]?) h
    simpa using this
  · rw [← List.drop_drop, h]
    rfl
/-- One operation more. -/
theorem DInv.next {g' : DD} {s' : AS} (hv : DInv P n md l s0 g s) (ho : l[g.outs.length]? = some o) (hle : g.le g') (h0 : g'.outs.length = g.outs.length + 1) (hk : g'.ks.length = g.ks.length + 1) (hi : g'.ins.length = g.ins.length + 1) (hfl : g'.fs.length = g'.effs.length + 1)
    (hlast : ∃ f, g'.fs[g'.effs.length]? = some f ∧ f g'.cz = s'.st ∧ (md = false → f = fun _ => s'.st) ∧ (md = true → g'.az = none → f = fun z => ab z s'.st)) (hz : md = true → ∀ f ∈ g'.fs, f none = badSto ∨ ((f none).boxes.length = s0.st.boxes.length ∧ ∀ z, f (some z) = (f none).addBox z)) (hm : md = false → g'.az = none)
    (hlk : ∀ t p, s'.lk t = some p → (o.dst = some t ∧ g'.outs[g.outs.length]? = some (some p)) ∨ (o.dst ≠ some t ∧ s.lk t = some p)) (hf : DFact P n s0.st.boxes.length md l s0.env g' g.outs.length o) : DInv P n md l s0 g' s' where
  hs0 := by obtain ⟨f, h1, h2⟩ := hv.hs0; exact ⟨f, hle.fs _ _ h1, h2⟩
  hfl := hfl
  hlast := hlast
  hk := by rw [hk, h0, hv.hk]
  hi := by rw [hi, h0, hv.hi]
  hz := hz
  hm := hm
  hlk := fun t p ht => by
    rcases hlk t p ht with ⟨h1, h2⟩ | ⟨h1, h2⟩
    · exact .inl ⟨_, o, by omega, ho, h1, h2⟩
    · rcases hv.hlk t p h2 with ⟨j, oj, a, b, c, d⟩ | ⟨a, b⟩
      · exact .inl ⟨j, oj, by omega, b, c, hle.outs _ _ d⟩
      · refine .inr ⟨a, fun j oj hj hoj => ?_⟩
        rcases Nat.lt_or_ge j g.outs.length with hlt | hge
        · exact b j oj hlt hoj
        · obtain rfl : j = g.outs.length := by omega
          rw [ho] at hoj
          cases hoj
          exact h1
  hf := fun i oi hoi hi' => by
    rcases Nat.lt_or_ge i g.outs.length with hlt | hge
    · exact (hv.hf i oi hoi hlt).mono hle
    · obtain rfl : i = g.outs.length := by omega
      rw [ho] at hoi
      cases hoi
      exact hf
theorem lk_next {st1 : Sto} {p : PV} (t : Nat) (q : PV) (outs : List (Option PV)) (k : Nat) (hk : outs[k]? = some (some p)) (h : ((⟨s.env, st1⟩ : AS).putO o.dst p).lk t = some q) : (o.dst = some t ∧ outs[k]? = some (some q)) ∨ (o.dst ≠ some t ∧ s.lk t = some q) := by
  cases hd : o.dst with
  | none => rw [hd] at h; exact .inr ⟨by simp, h⟩
  | some d =>
    rw [hd, lk_putO] at h
    by_cases htd : t = d
    · rw [if_pos htd] at h
      cases h
      exact .inl ⟨by rw [htd], hk⟩
    · rw [if_neg htd] at h
      exact .inr ⟨fun e => htd (Option.some.inj e).symm, h⟩
theorem st_putO (s : AS) (d : Option Nat) (p : PV) : (s.putO d p).st = s.st := by cases d <;> rfl
theorem WS.wd {g' : DD} {b : Bool} (h : WS l s o b) (hv : DInv P n md l s0 g s) (hle : g.le g') : WD l s0.env g'.outs g.outs.length o b := by
  cases h with
  | n a => exact .n a
  | y a b c => exact .y a b (src_le hle (hv.hlk _ _ c))
  | u a b c => exact .u a b (src_le hle (hv.hlk _ _ c))
theorem rs_src {g' : DD} (hv : DInv P n md l s0 g s) (hle : g.le g') (I : List Nat) : ∀ t q, (rs s I).lookup t = some q → t ∈ I ∧ DSrc l s0.env g'.outs g.outs.length t q := fun t q h => ⟨(rs_lk h).1, src_le hle (hv.hlk t q (rs_lk h).2)⟩

/-- An operation that does not look at the store. -/
theorem dI (I : List Nat) {p : PV} (h : ∀ {C' : Ctx} {st : Sto}, AOp P C' n o ⟨rs s I, st⟩ ((⟨rs s I, st⟩ : AS).putO o.dst p)) (k : DW P C n id md l Q s0 ⟨g.outs ++ [some p], g.ks ++ [none], g.ins ++ [I], g.effs, g.fs, g.rds, g.az⟩ (s.putO o.dst p) rest) (hg : WS l s o true := by exact .n rfl) :
    DW P C n id md l Q s0 g s (o :: rest) := fun hv hr => by
  obtain ⟨ho, hd⟩ := drop_at hr
  have hle : g.le ⟨g.outs ++ [some p], g.ks ++ [none], g.ins ++ [I], g.effs, g.fs, g.rds, g.az⟩ := ⟨snoc_get, snoc_get, snoc_get, fun _ _ h => h, fun _ h => h, fun _ h => h⟩
  refine k (hv.next ho hle (by simp) (by simp) (by simp) hv.hfl (by rw [st_putO]; exact hv.hlast) hv.hz hv.hm (fun t q hq => lk_next t q _ _ (snoc_last rfl) hq) ?_) (by simpa using hd)
  exact .does (hg.wd hv hle) (snoc_last hv.hi) (rs_src hv hle I) (.q (snoc_last hv.hk) (snoc_last rfl) fun _ _ => h)
/-- One that looks at the store as it stands. -/
theorem dD (I : List Nat) {p : PV} (h : ∀ {C' : Ctx}, AOp P C' n o ⟨rs s I, s.st⟩ ((⟨rs s I, s.st⟩ : AS).putO o.dst p)) (k : DW P C n id false l Q s0 ⟨g.outs ++ [some p], g.ks ++ [some (.q g.effs.length g.effs.length)], g.ins ++ [I], g.effs, g.fs, g.rds, g.az⟩ (s.putO o.dst p) rest) (hg : WS l s o true := by exact .n rfl) :
    DW P C n id false l Q s0 g s (o :: rest) := fun hv hr => by
  obtain ⟨ho, hd⟩ := drop_at hr
  obtain ⟨f, q1, -, q2, -⟩ := hv.hlast
  have q2 := q2 rfl
  subst q2
  have hle : g.le ⟨g.outs ++ [some p], g.ks ++ [some (.q g.effs.length g.effs.length)], g.ins ++ [I], g.effs, g.fs, g.rds, g.az⟩ := ⟨snoc_get, snoc_get, snoc_get, fun _ _ h => h, fun _ h => h, fun _ h => h⟩
  refine k (hv.next ho hle (by simp) (by simp) (by simp) hv.hfl (by rw [st_putO]; exact hv.hlast) hv.hz hv.hm (fun t q hq => lk_next t q _ _ (snoc_last rfl) hq) ?_) (by simpa using hd)
  exact .does (hg.wd hv hle) (snoc_last hv.hi) (rs_src hv hle I) (.c (snoc_last hv.hk) (snoc_last rfl) q1 fun _ _ => h)
/-- One that looks at a box. -/
def RdOp (P : Program) (n : Nat) (o : Oper) (s : AS) (I : List Nat) (kb : Nat) (X : Option (Option PBox)) (p : PV) : Prop := ∀ C' (st : Sto), st.boxes[kb]? = X → AOp P C' n o ⟨rs s I, st⟩ ((⟨rs s I, st⟩ : AS).putO o.dst p)
theorem dB (I : List Nat) (lo hi : Nat) {kb : Nat} {X : Option (Option PBox)} {p : PV} (h : RdOp P n o s I kb X p) (k : DW P C n id false l Q s0 ⟨g.outs ++ [some p], g.ks ++ [some (.q lo hi)], g.ins ++ [I], g.effs, g.fs, g.rds ++ [((lo, hi), kb, X)], g.az⟩ (s.putO o.dst p) rest) (hg : WS l s o true := by exact .n rfl) :
    DW P C n id false l Q s0 g s (o :: rest) := fun hv hr => by
  obtain ⟨ho, hd⟩ := drop_at hr
  have hle : g.le ⟨g.outs ++ [some p], g.ks ++ [some (.q lo hi)], g.ins ++ [I], g.effs, g.fs, g.rds ++ [((lo, hi), kb, X)], g.az⟩ := ⟨snoc_get, snoc_get, snoc_get, fun _ _ h => h, fun _ h => List.mem_append_left _ h, fun _ h => h⟩
  refine k (hv.next ho hle (by simp) (by simp) (by simp) hv.hfl (by rw [st_putO]; exact hv.hlast) hv.hz hv.hm (fun t q hq => lk_next t q _ _ (snoc_last rfl) hq) ?_) (by simpa using hd)
  exact .does (hg.wd hv hle) (snoc_last hv.hi) (rs_src hv hle I) (.r (snoc_last hv.hk) (snoc_last rfl) (by simp) (fun h => by cases h) h)
theorem vL1 {I : List Nat} {T : TypeId} {x : Operand} {kb d z : Nat} {bx : PBox} {p : PV} (hT : shapeOf P T = some (false, z))
    (ho : o.op = .load T x := by exact rfl) (hd : dstOk o.dst n = true := by exact rfl) (hx : (⟨rs s I, s.st⟩ : AS).ev x = some (.ptr kb d) := by exact rfl) (hb : s.st.boxes[kb]? = some (some bx) := by exact rfl) (hc : bx.cells[d]? = some p := by exact rfl) : RdOp P n o s I kb (some (some bx)) p :=
  fun C' st hst => AOp.loadPtr1 ho hd (by cases x <;> exact hx) hst hT hc
theorem vLp {I : List Nat} {T : TypeId} {x : Operand} {kb d z : Nat} {bx : PBox} (cs : List PV) (hT : shapeOf P T = some (true, z))
    (ho : o.op = .load T x := by exact rfl) (hd : dstOk o.dst n = true := by exact rfl) (hx : (⟨rs s I, s.st⟩ : AS).ev x = some (.ptr kb d) := by exact rfl) (hb : s.st.boxes[kb]? = some (some bx) := by exact rfl) (hc : (bx.cells.drop d).take z = cs := by exact rfl) (hl : cs.length = z := by exact rfl) : RdOp P n o s I kb (some (some bx)) (.agg cs) :=
  fun C' st hst => AOp.loadPtr ho hd (by cases x <;> exact hx) hst hT hc hl
/-- One that changes the store. -/
theorem dE (I : List Nat) {p : PV} {st1 : Sto} (h : ∀ {C' : Ctx}, AOp P C' n o ⟨rs s I, s.st⟩ ((⟨rs s I, st1⟩ : AS).putO o.dst p)) (k : DW P C n id false l Q s0 ⟨g.outs ++ [some p], g.ks ++ [some (.ef g.effs.length)], g.ins ++ [I], g.effs ++ [g.outs.length], g.fs ++ [fun _ => st1], g.rds, g.az⟩ ((⟨s.env, st1⟩ : AS).putO o.dst p) rest) (hg : WS l s o true := by exact .n rfl) :
    DW P C n id false l Q s0 g s (o :: rest) := fun hv hr => by
  obtain ⟨ho, hd⟩ := drop_at hr
  obtain ⟨f, q1, -, q2, -⟩ := hv.hlast
  have q2 := q2 rfl
  subst q2
  have hle : g.le ⟨g.outs ++ [some p], g.ks ++ [some (.ef g.effs.length)], g.ins ++ [I], g.effs ++ [g.outs.length], g.fs ++ [fun _ => st1], g.rds, g.az⟩ := ⟨snoc_get, snoc_get, snoc_get, snoc_get, fun _ h => h, fun _ h => h⟩
  refine k (hv.next ho hle (by simp) (by simp) (by simp) (by simp [hv.hfl]) (by rw [st_putO]; exact ⟨_, snoc_last (by simp [hv.hfl]), rfl, fun _ => rfl, fun h => by cases h⟩) (fun h => by cases h) hv.hm (fun t q hq => lk_next t q _ _ (snoc_last rfl) hq) ?_) (by simpa using hd)
  exact .does (hg.wd hv hle) (snoc_last hv.hi) (rs_src hv hle I) (.e (snoc_last hv.hk) (snoc_last rfl) (hle.fs _ _ q1) (snoc_last hv.hfl) fun _ _ => h)
theorem dE0 (I : List Nat) {st1 : Sto} (h : ∀ {C' : Ctx}, AOp P C' n o ⟨rs s I, s.st⟩ ⟨rs s I, st1⟩) (k : DW P C n id false l Q s0 ⟨g.outs ++ [none], g.ks ++ [some (.ef g.effs.length)], g.ins ++ [I], g.effs ++ [g.outs.length], g.fs ++ [fun _ => st1], g.rds, g.az⟩ ⟨s.env, st1⟩ rest) (hn : o.dst = none := by exact rfl) (hg : WS l s o true := by exact .n rfl) :
    DW P C n id false l Q s0 g s (o :: rest) := fun hv hr => by
  obtain ⟨ho, hd⟩ := drop_at hr
  obtain ⟨f, q1, -, q2, -⟩ := hv.hlast
  have q2 := q2 rfl
  subst q2
  have hle : g.le ⟨g.outs ++ [none], g.ks ++ [some (.ef g.effs.length)], g.ins ++ [I], g.effs ++ [g.outs.length], g.fs ++ [fun _ => st1], g.rds, g.az⟩ := ⟨snoc_get, snoc_get, snoc_get, snoc_get, fun _ h => h, fun _ h => h⟩
  refine k (hv.next ho hle (by simp) (by simp) (by simp) (by simp [hv.hfl]) ⟨_, snoc_last (by simp [hv.hfl]), rfl, fun _ => rfl, fun h => by cases h⟩ (fun h => by cases h) hv.hm (fun t q hq => .inr ⟨by rw [hn]; simp, hq⟩) ?_) (by simpa using hd)
  exact .does (hg.wd hv hle) (snoc_last hv.hi) (rs_src hv hle I) (.e0 (snoc_last hv.hk) hn (hle.fs _ _ q1) (snoc_last hv.hfl) fun _ _ => h)
/-- One that is not wanted. -/
theorem dS  (k : DW P C n id md l Q s0 ⟨g.outs ++ [some (.tup [])], g.ks ++ [none], g.ins ++ [[]], g.effs, g.fs, g.rds, g.az⟩ (s.putO o.dst (.tup [])) rest) (hg : WS l s o false) (hd' : dstOk o.dst n = true) :
    DW P C n id md l Q s0 g s (o :: rest) := fun hv hr => by
  obtain ⟨ho, hd⟩ := drop_at hr
  have hle : g.le ⟨g.outs ++ [some (.tup [])], g.ks ++ [none], g.ins ++ [[]], g.effs, g.fs, g.rds, g.az⟩ := ⟨snoc_get, snoc_get, snoc_get, fun _ _ h => h, fun _ h => h, fun _ h => h⟩
  refine k (hv.next ho hle (by simp) (by simp) (by simp) hv.hfl (by rw [st_putO]; exact hv.hlast) hv.hz hv.hm (fun t q hq => lk_next t q _ _ (snoc_last rfl) hq) ?_) (by simpa using hd)
  exact .skip (hg.wd hv hle) (snoc_last hv.hk) (snoc_last rfl) hd'
theorem dSk {j d : Nat} {b c e : Bool} (hv : b = e) (k : DW P C n id md l Q s0 ⟨g.outs ++ [some (.tup [])], g.ks ++ [none], g.ins ++ [[]], g.effs, g.fs, g.rds, g.az⟩ (s.putO o.dst (.tup [])) rest) (hg : o.guard = some (j, c) := by exact rfl) (hj : (l[j]?).bind (·.dst) = some d := by exact rfl) (hb : s.lk d = some (.t (.leaf (.bool b))) := by exact rfl) (hne : (e == c) = false := by exact rfl) (hd' : dstOk o.dst n = true := by exact rfl) :
    DW P C n id md l Q s0 g s (o :: rest) := dS k (by subst hv; have := WS.y hg hj hb; rwa [hne] at this) hd'
/-- A guard whose value is known. -/
theorem wantT {j d : Nat} {b c : Bool} (hv : b = c) (hg : o.guard = some (j, c) := by exact rfl) (hj : (l[j]?).bind (·.dst) = some d := by exact rfl) (hb : s.lk d = some (.t (.leaf (.bool b))) := by exact rfl) : WS l s o true := by
  subst hv
  have := WS.y hg hj hb
  rwa [BEq.rfl] at this

theorem anc_lt {ops : Array Oper} (h : ∀ i o, ops[i]? = some o → ∀ e ∈ o.after, Region.binds .any e = true → e.on < i) : ∀ (fuel i j : Nat), ancOf ops fuel i j = true → i < j
  | 0, _, _, h' => by simp [ancOf] at h'
  | fuel + 1, i, j, h' => by
    simp only [ancOf] at h'
    split at h'
    · rename_i o ho
      rw [List.any_eq_true] at h'
      obtain ⟨e, he, h'⟩ := h'
      simp only [Bool.and_eq_true, Bool.or_eq_true, beq_iff_eq] at h'
      have h1 := h j o ho e (by simpa using he) h'.1
      rcases h'.2 with h2 | h2
      · omega
      · have := anc_lt h fuel i e.on h2
        omega
    · cases h'
def srcOf (l : List Oper) (i t : Nat) : Option Nat := match writerOf l.toArray t with
  | some j => if j < i then some j else none
  | none => none
def DD.draw (g : DD) (l : List Oper) (s0 : AS) : Draw where
  ops := l.toArray
  env0 := s0.env
  F := fun j b => match g.fs[j]? with
    | some f => f (bif b then g.cz else none)
    | none => ab (bif b then g.cz else none) s0.st
  out := fun i => (g.outs[i]?).getD none
  kind := fun i => match g.ks[i]? with
    | some (some k) => k
    | _ => .q 0 g.effs.length
  effs := g.effs
  alloc := g.az.map (·.1)
  ins := fun i => ((g.ins[i]?).getD []).map fun t => (t, srcOf l i t)
def rdGot (fs : List (Option PBox → Sto)) (z : Option PBox) (x : (Nat × Nat) × Nat × Option (Option PBox)) : List (Option (Option (Option PBox))) := (List.range' x.1.1 (x.1.2 + 1 - x.1.1)).map fun j => (fs[j]?).map fun f => (f z).boxes[x.2.1]?
def rdAsk (x : (Nat × Nat) × Nat × Option (Option PBox)) : List (Option (Option (Option PBox))) := (List.range' x.1.1 (x.1.2 + 1 - x.1.1)).map fun _ => some x.2.2
theorem writer_at (hn : nodupDst l.toArray = true) {j t : Nat} (ho : l[j]? = some o) (hd : o.dst = some t) : writerOf l.toArray t = some j := nodup_writer hn (by simpa using ho) hd
theorem rd_of {fs : List (Option PBox → Sto)} {z : Option PBox} {rds : List ((Nat × Nat) × Nat × Option (Option PBox))} (h : rds.map (rdGot fs z) = rds.map rdAsk) {lo hi kb j : Nat} {X : Option (Option PBox)} (hm : ((lo, hi), kb, X) ∈ rds) (h1 : lo ≤ j) (h2 : j ≤ hi) {f : Option PBox → Sto} (hs : fs[j]? = some f) : (f z).boxes[kb]? = X := by
  have e := List.map_inj_left.1 h _ hm
  unfold rdGot rdAsk at e
  have := List.map_inj_left.1 e j (by simp [List.mem_range']; exact ⟨j - lo, by omega, by omega⟩)
  simpa [hs] using this
/-- All operations have been told. -/
theorem dN (h : Q .normal s) (hm : P.follows .mixedOrders = true := by exact mixed) (hok : (g.draw l s0).ok = true := by kernel_rfl) (hrd : g.rds.map (rdGot g.fs g.cz) = g.rds.map rdAsk := by kernel_rfl) : DW P C n id md l Q s0 g s [] := fun hv hr => by
  have hlen : l.length ≤ g.outs.length := by
    have := congrArg List.length hr
    simp at this
    omega
  have hok' := hok
  simp only [Draw.ok, Bool.and_eq_true] at hok'
  have hn : nodupDst l.toArray = true := hok'.1.1.1.2
  -- where a value comes from
  have hpv : ∀ i t q, DSrc l s0.env g.outs i t q → (g.draw l s0).pv (t, srcOf l i t) = some q := fun i t q hs => by
    rcases hs with ⟨j, oj, h1, h2, h3, h4⟩ | ⟨h1, h2⟩
    · have hw := writer_at hn h2 h3
      unfold srcOf
      rw [hw]
      dsimp only
      rw [if_pos h1]
      show (g.outs[j]?).getD none = some q
      rw [h4]
      rfl
    · have hw : srcOf l i t = none := by
        unfold srcOf
        split
        · rename_i j hj
          obtain ⟨-, oj, h3, h4⟩ := writerOf_spec hj
          split
          · rename_i hji
            exact absurd h4 (h2 j oj hji (by simpa using h3))
          · rfl
        · rfl
      rw [hw]
      exact h1
  have hF : ∀ {j : Nat} {f : Option PBox → Sto}, g.fs[j]? = some f → ∀ b, (g.draw l s0).F j b = f (bif b then g.cz else none) := fun {j f} hj b => by show (match g.fs[j]? with | some f => f (bif b then g.cz else none) | none => ab (bif b then g.cz else none) s0.st) = _; rw [hj]
  have hK : ∀ {i : Nat} {k : DK}, g.ks[i]? = some (some k) → (g.draw l s0).kind i = k := fun {i k} hk => by show (match g.ks[i]? with | some (some k) => k | _ => .q 0 g.effs.length) = _; rw [hk]
  have hK0 : ∀ {i : Nat}, g.ks[i]? = some none → (g.draw l s0).kind i = .q 0 g.effs.length := fun {i} hk => by show (match g.ks[i]? with | some (some k) => k | _ => DK.q 0 g.effs.length) = _; rw [hk]
  have hout : ∀ {i : Nat} {p : PV}, g.outs[i]? = some (some p) → (g.draw l s0).out i = some p := fun hp => by show (g.outs[_]?).getD none = _; rw [hp]; rfl
  have hops := hok'.1.1.1.1
  rw [List.all_eq_true] at hops
  have hgs : ∀ (i : Nat) (o : Oper) (j d : Nat) (c : Bool) (p : PV), l[i]? = some o → o.guard = some (j, c) → (l[j]?).bind (·.dst) = some d → DSrc l s0.env g.outs i d p → (g.draw l s0).out j = some p := fun i o j d c p ho hg hj hs => by
    obtain ⟨oj, hoj, hdj⟩ : ∃ oj, l[j]? = some oj ∧ oj.dst = some d := by
      cases hx : l[j]? with
      | none => rw [hx] at hj; cases hj
      | some oj => rw [hx] at hj; exact ⟨oj, rfl, hj⟩
    have hw := writer_at hn hoj hdj
    rcases hs with ⟨j', oj', h1, h2, h3, h4⟩ | ⟨h1, h2⟩
    · have hw' := writer_at hn h2 h3
      rw [hw] at hw'
      cases hw'
      exact hout h4
    · have hil := (List.getElem?_eq_some_iff.1 ho).1
      have h5 := hops i (by simpa [DD.draw] using hil)
      have ho' : (g.draw l s0).ops[i]? = some o := by simpa [DD.draw] using ho
      simp only [Draw.okOp, ho', hg, Bool.and_eq_true] at h5
      have h6 : (g.draw l s0).anc j i = true := h5.2.1
      have := anc_lt (fun i' o' ho' e he hb => by
        have hil' := (Array.getElem?_eq_some_iff.1 ho').1
        have h7 := hops i' (by simpa using hil')
        simp only [Draw.okOp, ho', Bool.and_eq_true, Array.all_eq_true'] at h7
        have h3 := h7.1 e he
        simpa [hb] using h3) _ _ _ h6
      exact absurd hdj (h2 j oj this hoj)
  have hwant : ∀ {i : Nat} {o : Oper} {b : Bool}, l[i]? = some o → WD l s0.env g.outs i o b → (g.draw l s0).want o = some b := fun {i o b} ho hw => by
    unfold Draw.want
    cases hw with
    | n a => rw [a]
    | y a b c => rw [a]; dsimp only; rw [hgs _ _ _ _ _ _ ho a b c]
    | u a b c => rw [a]; dsimp only; rw [hgs _ _ _ _ _ _ ho a b c]
  have hstep : ∀ i o, (g.draw l s0).ops[i]? = some o → (g.draw l s0).step P C n i o := fun i o ho => by
    have ho' : l[i]? = some o := by simpa [DD.draw] using ho
    obtain ⟨hil, -⟩ := List.getElem?_eq_some_iff.1 ho'
    cases hv.hf i o ho' (by omega) with
    | does h1 h2 h3 h4 =>
      rename_i E I
      refine .inl ⟨hwant ho' h1, ?_⟩
      have hl : ∀ s' : AS, (∀ t src p, (t, src) ∈ (g.draw l s0).ins i → (g.draw l s0).pv (t, src) = some p → s'.lk t = some p) → ∀ t q, E.lookup t = some q → s'.lk t = some q := fun s' hl t q ht => by
        obtain ⟨h5, h6⟩ := h3 t q ht
        refine hl t (srcOf l i t) q ?_ (hpv i t q h6)
        show (t, srcOf l i t) ∈ ((g.ins[i]?).getD []).map _
        rw [h2]
        exact List.mem_map.2 ⟨t, h5, rfl⟩
      unfold Draw.does
      cases h4 with
      | q a b c =>
        rw [hK0 a]
        exact fun s' j bb _ _ hs hin => ⟨_, hout b, AOp.frame (st := s'.st) (fun C' => c C' s'.st) rfl (hl s' hin)⟩
      | r a b c kN d =>
        rename_i lo hi kb X p
        have hk := hK a
        rw [hk]
        intro s' j bb q1 q2 hs hin
        have hjl : hi < g.fs.length := by
          have := hok'.1.1.2
          rw [List.all_eq_true] at this
          have := this i (by simpa [DD.draw] using hil)
          simp only [Bool.and_eq_true, Draw.okKind, hk] at this
          have h9 := this.1.1.1.1.1.2
          simp only [decide_eq_true_eq] at h9
          have h10 : hi ≤ g.effs.length := h9
          rw [hv.hfl]
          omega
        obtain ⟨f, hst⟩ : ∃ f, g.fs[j]? = some f := ⟨_, List.getElem?_eq_getElem (by omega)⟩
        have hX := rd_of hrd c q1 q2 hst
        rw [hF hst] at hs
        have hcase : s'.st = f g.cz ∨ (md = true ∧ s'.st = f none) := by
          cases bb with
          | true => exact .inl hs
          | false =>
            cases md with
            | true => exact .inr ⟨rfl, hs⟩
            | false =>
              have : g.cz = none := by unfold DD.cz; rw [hv.hm rfl]; rfl
              rw [this]
              exact .inl hs
        rcases hcase with hs | ⟨hmd, hs⟩
        · exact ⟨_, hout b, AOp.frame (st := s'.st) (fun C' => d C' s'.st (by rw [hs]; exact hX)) rfl (hl s' hin)⟩
        · rcases hv.hz hmd f (List.mem_iff_getElem?.2 ⟨_, hst⟩) with h9 | ⟨h9, h10⟩
          · exact ⟨_, hout b, AOp.bad (by rw [hs, h9])⟩
          · refine ⟨_, hout b, AOp.frame (st := s'.st) (fun C' => d C' s'.st ?_) rfl (hl s' hin)⟩
            rw [hs, ← hX]
            cases hz : g.cz with
            | none => rfl
            | some z =>
              rw [h10 z]
              show _ = ((f none).boxes ++ [some z])[kb]?
              rw [List.getElem?_append_left (by rw [h9]; exact kN hmd)]
      | c a b c d =>
        rename_i j f p
        rw [hK a]
        refine fun s' jj bb q1 q2 hs hin => ⟨_, hout b, ?_⟩
        obtain rfl : jj = j := by omega
        exact AOp.frame (st := s'.st) (fun C' => by rw [hs, hF c]; exact d C' _) rfl (hl s' hin)
      | e a b c d e =>
        rename_i j f f1 p
        rw [hK a]
        refine fun s' bb hs hin => .inl ⟨_, hout b, ?_⟩
        rw [hF d]
        exact AOp.frame (fun C' => e C' _) (by rw [hs, hF c]) (hl s' hin)
      | e0 a b c d e =>
        rename_i j f f1
        rw [hK a]
        refine fun s' bb hs hin => .inr ⟨b, ?_⟩
        rw [hF d]
        exact AOp.frame0 b (fun C' => e C' _) (by rw [hs, hF c]) (hl s' hin)
      | ea z a b c d e f q =>
        rename_i j a' t off zb f0 f1
        have hcz : g.cz = some zb := by unfold DD.cz; rw [z]; rfl
        rw [hK a]
        refine fun s' bb hs hin => .inr ⟨b, ?_⟩
        rw [hF d]
        rw [hF c] at hs
        cases bb with
        | true =>
          rw [hcz] at hs ⊢
          exact AOp.frame0 b q hs (hl s' hin)
        | false =>
          rcases f with f | f
          · exact AOp.bad (hs.trans f)
          · refine AOp.away (hl s' hin t _ e) ?_
            rw [hs]
            show (f0 none).boxes[_]? = none
            rw [List.getElem?_eq_none (by rw [f]; exact Nat.le_refl _)]
      | al hmd z a b c =>
        rename_i zb
        have hcz : g.cz = some zb := by unfold DD.cz; rw [z]; rfl
        rw [hK a]
        refine fun s' j hs => ⟨_, hout b, ?_⟩
        have key : s'.st = badSto ∨ (s'.st.boxes.length = s0.st.boxes.length ∧ (g.draw l s0).F j true = s'.st.addBox zb) := by
          cases hj : g.fs[j]? with
          | none =>
            have h8 : ∀ b, (g.draw l s0).F j b = ab (bif b then g.cz else none) s0.st := fun b => by show (match g.fs[j]? with | some f => f (bif b then g.cz else none) | none => ab (bif b then g.cz else none) s0.st) = _; rw [hj]
            rw [h8] at hs ⊢
            refine .inr ⟨by rw [hs]; rfl, ?_⟩
            rw [hs, hcz]
            rfl
          | some f =>
            rw [hF hj] at hs ⊢
            rcases hv.hz hmd f (List.mem_iff_getElem?.2 ⟨_, hj⟩) with h9 | ⟨h9, h10⟩
            · exact .inl (hs.trans h9)
            · refine .inr ⟨by rw [hs]; exact h9, ?_⟩
              rw [hs, hcz]
              exact h10 zb
        rcases key with h9 | ⟨h9, h10⟩
        · exact AOp.bad h9
        · rw [h10]
          exact AOp.frame (E := []) (fun C' => c C' s'.st h9) rfl (fun t q h => by cases h)
    | skip h1 h2 h3 h4 => exact .inr ⟨hwant ho' h1, ⟨_, _, hK0 h2⟩, .inr ⟨hout h3, h4⟩⟩
  intro m a w hra
  refine wp_mono (AWP.drawn (g.draw l s0) (Q := fun e s' => e = .normal ∧ s' = ⟨((List.range (g.draw l s0).ops.size).filterMap ((g.draw l s0).gX (Array.replicate (g.draw l s0).ops.size true))) ++ (g.draw l s0).env0, (g.draw l s0).F (g.draw l s0).effs.length (g.draw l s0).alloc.isSome⟩) hm hok rfl (by obtain ⟨f, h1, h2⟩ := hv.hs0; rw [hF h1]; exact h2.symm) hstep ⟨rfl, rfl⟩ m a w hra) fun e a' w' => ?_; rintro ⟨s', m', ⟨rfl, rfl⟩, h2⟩
  obtain ⟨f, q1, q2, -, -⟩ := hv.hlast
  refine ⟨s, m', h, RA.congr h2 ((hF q1 _).trans (Eq.trans (by cases ha : g.az with | none => (show f (bif (g.az.map (·.1)).isSome then g.cz else none) = f g.cz; unfold DD.cz; rw [ha]; rfl) | some x => (show f (bif (g.az.map (·.1)).isSome then g.cz else none) = f g.cz; unfold DD.cz; rw [ha]; rfl)) q2)) fun t p ht => ?_⟩
  show ((g.draw l s0).sX (Array.replicate (g.draw l s0).ops.size true)).lk t = some p
  rcases hv.hlk t p ht with ⟨j, oj, h1, h3, h4, h5⟩ | ⟨h1, h3⟩
  · have hjl : j < l.length := (List.getElem?_eq_some_iff.1 h3).1
    exact lkX_in hn (i := j) (o := oj) (by have : j < (g.draw l s0).ops.size := (by simpa [DD.draw] using hjl); simp [Array.getD_eq_getD_getElem?, this]) (by simpa [DD.draw] using h3) h4 (hout h5)
  · rw [lkX_out hn fun i hi => ?_]
    · exact h1
    · obtain ⟨hil, oi, h6, h7⟩ := writerOf_spec hi
      exact absurd h7 (h3 i oi (by have : i < l.length := (by simpa [DD.draw] using hil); omega) (by simpa [DD.draw] using h6))
end
end Go.Proofs.Ytmpepccpnnldoaa

namespace Go.Proofs.Ytmpepccpnnldoaa

instance : TC GType := ⟨GType.cs, GType.trs, 3, GType.trs_at, GType.trs_len, fun l => by rw [GType.trs_map]; exact List.map_congr_left fun x _ => GType.tr_cs x, fun _ => rfl⟩
abbrev rType (l : List GType) : PV := .t (.row 3 (GType.trs l))
abbrev aType (l : List GType) (r : Nat) : PV := .acc 3 (GType.trs l) r
instance : TC GBound := ⟨GBound.cs, GBound.trs, 4, GBound.trs_at, GBound.trs_len, fun l => by rw [GBound.trs_map]; exact List.map_congr_left fun x _ => GBound.tr_cs x, fun _ => rfl⟩
abbrev rBound (l : List GBound) : PV := .t (.row 4 (GBound.trs l))
instance : TC GExpr := ⟨GExpr.cs, GExpr.trs, 9, GExpr.trs_at, GExpr.trs_len, fun l => by rw [GExpr.trs_map]; exact List.map_congr_left fun x _ => GExpr.tr_cs x, fun _ => rfl⟩
abbrev rExpr (l : List GExpr) : PV := .t (.row 9 (GExpr.trs l))
instance : TC GArm := ⟨GArm.cs, GArm.trs, 11, GArm.trs_at, GArm.trs_len, fun l => by rw [GArm.trs_map]; exact List.map_congr_left fun x _ => GArm.tr_cs x, fun _ => rfl⟩
abbrev rArm (l : List GArm) : PV := .t (.row 11 (GArm.trs l))
instance : TC GMethod := ⟨GMethod.cs, GMethod.trs, 11, GMethod.trs_at, GMethod.trs_len, fun l => by rw [GMethod.trs_map]; exact List.map_congr_left fun x _ => GMethod.tr_cs x, fun _ => rfl⟩
abbrev rMethod (l : List GMethod) : PV := .t (.row 11 (GMethod.trs l))
instance : TC GInstance := ⟨GInstance.cs, GInstance.trs, 12, GInstance.trs_at, GInstance.trs_len, fun l => by rw [GInstance.trs_map]; exact List.map_congr_left fun x _ => GInstance.tr_cs x, fun _ => rfl⟩
instance : TC GBinding := ⟨GBinding.cs, GBinding.trs, 4, GBinding.trs_at, GBinding.trs_len, fun l => by rw [GBinding.trs_map]; exact List.map_congr_left fun x _ => GBinding.tr_cs x, fun _ => rfl⟩
abbrev rBinding (l : List GBinding) : PV := .t (.row 4 (GBinding.trs l))
instance : TC GSExpr := ⟨GSExpr.cs, GSExpr.trs, 2, GSExpr.trs_at, GSExpr.trs_len, fun l => by rw [GSExpr.trs_map]; exact List.map_congr_left fun x _ => GSExpr.tr_cs x, fun _ => rfl⟩
abbrev cType (x : GType) : List PV := [pI x.gKind, pS x.gName, rType x.gArgs]
abbrev cInstance (x : GInstance) : List PV := [pS x.gTrait, rS x.gVars, pI x.gHead.gKind, pS x.gHead.gName, rType x.gHead.gArgs, rBound x.gWhere, pB x.gDefault, pB x.gHasAssoc, pI x.gAssoc.gKind, pS x.gAssoc.gName, rType x.gAssoc.gArgs, rMethod x.gMethods]
end Go.Proofs.Ytmpepccpnnldoaa

namespace Go.Proofs.Ytmpepccpnnldoaa

abbrev s_ : ByteArray := ⟨#[]⟩
abbrev s_A : ByteArray := ⟨#[65]⟩
abbrev s_a : ByteArray := ⟨#[97]⟩
abbrev s_abcdefghi : ByteArray := ⟨#[97, 98, 99, 100, 101, 102, 103, 104, 105]⟩
abbrev s_add : ByteArray := ⟨#[97, 100, 100]⟩
abbrev s_assoc : ByteArray := ⟨#[97, 115, 115, 111, 99]⟩
abbrev s_b : ByteArray := ⟨#[98]⟩
abbrev s_bool : ByteArray := ⟨#[98, 111, 111, 108]⟩
abbrev s_box : ByteArray := ⟨#[98, 111, 120]⟩
abbrev s_c : ByteArray := ⟨#[99]⟩
abbrev s_case : ByteArray := ⟨#[99, 97, 115, 101]⟩
abbrev s_cons : ByteArray := ⟨#[99, 111, 110, 115]⟩
abbrev s_dyn : ByteArray := ⟨#[100, 121, 110]⟩
abbrev s_eq : ByteArray := ⟨#[101, 113]⟩
abbrev s_f : ByteArray := ⟨#[102]⟩
abbrev s_false : ByteArray := ⟨#[102, 97, 108, 115, 101]⟩
abbrev s_g : ByteArray := ⟨#[103]⟩
abbrev s_h : ByteArray := ⟨#[104]⟩
abbrev s_if : ByteArray := ⟨#[105, 102]⟩
abbrev s_int : ByteArray := ⟨#[105, 110, 116]⟩
abbrev s_let : ByteArray := ⟨#[108, 101, 116]⟩
abbrev s_list : ByteArray := ⟨#[108, 105, 115, 116]⟩
abbrev s_m : ByteArray := ⟨#[109]⟩
abbrev s_m0 : ByteArray := ⟨#[109, 48]⟩
abbrev s_method : ByteArray := ⟨#[109, 101, 116, 104, 111, 100]⟩
abbrev s_new : ByteArray := ⟨#[110, 101, 119]⟩
abbrev s_nil : ByteArray := ⟨#[110, 105, 108]⟩
abbrev s_ord : ByteArray := ⟨#[111, 114, 100]⟩
abbrev s_pack : ByteArray := ⟨#[112, 97, 99, 107]⟩
abbrev s_pair : ByteArray := ⟨#[112, 97, 105, 114]⟩
abbrev s_show : ByteArray := ⟨#[115, 104, 111, 119]⟩
abbrev s_t : ByteArray := ⟨#[116]⟩
abbrev s_true : ByteArray := ⟨#[116, 114, 117, 101]⟩
abbrev s_unit : ByteArray := ⟨#[117, 110, 105, 116]⟩
abbrev s_x : ByteArray := ⟨#[120]⟩
abbrev s_y : ByteArray := ⟨#[121]⟩
abbrev x_20 : ByteArray := ⟨#[32]⟩
abbrev x_27 : ByteArray := ⟨#[39]⟩
abbrev x_272d2b2a3c3d2e : ByteArray := ⟨#[39, 45, 43, 42, 60, 61, 46]⟩
abbrev x_28 : ByteArray := ⟨#[40]⟩
abbrev x_29 : ByteArray := ⟨#[41]⟩
abbrev x_2a : ByteArray := ⟨#[42]⟩
abbrev x_2b : ByteArray := ⟨#[43]⟩
abbrev x_2d : ByteArray := ⟨#[45]⟩
abbrev x_3c : ByteArray := ⟨#[60]⟩
abbrev x_3d : ByteArray := ⟨#[61]⟩
end Go.Proofs.Ytmpepccpnnldoaa

namespace Go.Proofs.Ytmpepccpnnldoaa
set_option linter.unusedSimpArgs false
set_option linter.unusedVariables false
open Go.RowKit Go.WalkArith Go.IntWalk Go.WideShapes

section
variable {P : Program} {C : Ctx} {n : Nat} {s : AS} {o : Oper}
end
end Go.Proofs.Ytmpepccpnnldoaa

namespace Go.Proofs.Ytmpepccpnnldoaa
set_option maxRecDepth 100000
set_option maxHeartbeats 40000000
noncomputable section
open Go.RowKit Go.Proofs
set_option linter.unusedSimpArgs false
set_option linter.unusedVariables false

attribute [local irreducible] lt

def sl4Var_T (m : ByteArray → Option GType) : Prop := ∀ (ps : ByteArray) (r : GType), m ps = some r → AOwn Try.prog 54 [pS ps] ⟨[], []⟩ [] 27 3 (GType.trs (r.gArgs)) (fun k => .agg [pI r.gKind, pS r.gName, aType r.gArgs k])
theorem sl4Var_pl {m : ByteArray → Option GType} (h : sl4Var_T m) (ps : ByteArray) (r : GType) (H : m ps = some r) : AFun Try.prog 54 [pS ps] ((GType.pv r) : PV) := (h ps r H).plain (fun _ => leA) (hp := keep0n)
def sl4Var_M (fu : Nat) (ps : ByteArray) : Option GType :=
 some (GType.mk 1 ps [])
theorem sl4Var_ok (fu : Nat)   : sl4Var_T (sl4Var_M fu) := by
  intro ps r H
  unfold AOwn
  have H := hd0 H
  refine qI Try.func54 (fun C hC => ?_)
  refine qS (qR (q1 (rAl zr27) (qN (qS (qR (q1 rMv (q1 (rBd zr27 pl27) (q1 (rSu sz27) (qN (AWP.wk (Wk.regBox (k := 0) (j := 2) 27 3 (by decide) rfl rfl) (AWP.ret ?_)))))))))))
  obtain rfl : _ = r := (smI H :)
  exact qe1 (st' := ⟨[], [⟨27, 3, GType.trs ([]), false⟩]⟩) ⟨0, rfl, rfl, rfl⟩ (hr := ⟨⟨_, _, _, rfl, rfl, sh27, rfl, rfl⟩, trivial⟩)

def sl4Con_T (m : ByteArray → (List GType) → Option GType) : Prop := ∀ (ps : ByteArray) (pargs : List GType) (r : GType), m ps pargs = some r → AOwn Try.prog 53 [pS ps, rType pargs] ⟨[], []⟩ [] 27 3 (GType.trs (r.gArgs)) (fun k => .agg [pI r.gKind, pS r.gName, aType r.gArgs k])
theorem sl4Con_pl {m : ByteArray → (List GType) → Option GType} (h : sl4Con_T m) (ps : ByteArray) (pargs : List GType) (r : GType) (H : m ps pargs = some r) : AFun Try.prog 53 [pS ps, rType pargs] ((GType.pv r) : PV) := (h ps pargs r H).plain (fun _ => leA) (hp := keep0n)
def sl4Con_M (fu : Nat) (ps : ByteArray) (pargs : List GType) : Option GType :=
 gd (([] : List GType).length + (pargs).length ≤ 68719476736)
 (some (GType.mk 2 ps (([]) ++ pargs)))
theorem sl4Con_ok (fu : Nat)   : sl4Con_T (sl4Con_M fu) := by
  intro ps pargs r H
  unfold AOwn
  have H := hd0 H
  refine qI Try.func53 (fun C hC => ?_)
  refine qS (qR (q1 (rAl zr27) (qN (qS (qR (q1 rMv (q1 (rBa ([] : List GType) el25 zr27) (q1 rMv (gdE H fun z1 H => (q1 (rAp z1 el25 ze25) (q1 (rBd zr27 pl27) (q1 (rSu sz27) (qN ?_)))))))))))))
  refine AWP.ret ?_
  obtain rfl : _ = r := (smI H :)
  exact qe1 (st' := ⟨[], [⟨27, 3, GType.trs (([]) ++ pargs), false⟩]⟩) ⟨0, rfl, rfl, rfl⟩ (hr := ⟨⟨_, _, _, rfl, rfl, sh27, rfl, rfl⟩, trivial⟩)

abbrev sl4Ty_Y := DS → (List ByteArray) → Int → Option (GType × DS)
def sl4Ty_T (m : sl4Ty_Y) : Prop := ∀ (pc : DS) (pvars : List ByteArray) (pdeep : Int) (r : GType × DS), m pc pvars pdeep = some r → AOwn Try.prog 56 [.ptr 0 0, rS pvars, pI pdeep] ⟨[some ⟨99, dC pc⟩], []⟩ [some ⟨99, dC r.2⟩] 27 3 (GType.trs (r.1.gArgs)) (fun k => .agg [pI r.1.gKind, pS r.1.gName, aType r.1.gArgs k])
theorem sl4Ty_pl {m : sl4Ty_Y} (h : sl4Ty_T m) (pc : DS) (pvars : List ByteArray) (pdeep : Int) (r : GType × DS) (H : m pc pvars pdeep = some r) : ACalls Try.prog 56 [.ptr 0 0, rS pvars, pI pdeep] ⟨[some ⟨99, dC pc⟩], []⟩ (fun q t => q = ((GType.pv r.1) : PV) ∧ t = ⟨[some ⟨99, dC r.2⟩], []⟩) := (h pc pvars pdeep r H).plain (fun _ => leA) (hp := keep0b)
def sl4Ty_G (fu : Nat) (r_sl4Ty : sl4Ty_Y) (pc : DS) (pvars : List ByteArray) (pdeep : Int) : Option (GType × DS) :=
 lt (pc.after 8) (fun d1 =>
 sw (decide ((((pc.below 8 : Nat) : Int) : Int) < 3))
 (sw (decide ((((pvars.length : Nat) : Int) : Int) > 0))
 (lt (d1.after pvars.length) (fun d5 =>
 gd (d1.below pvars.length < (pvars).length)
 (bd (sl4Var_M fu (atD pvars (d1.below pvars.length))) (fun x9 =>
 some ((GType.mk x9.gKind x9.gName x9.gArgs), d5)))))
 (sw (decide ((((pc.below 8 : Nat) : Int) : Int) < 5))
 (lt (d1.after ([s_int, s_bool, s_unit] : List ByteArray).length) (fun d11 =>
 lt (d1.pick ([s_int, s_bool, s_unit] : List ByteArray)) (fun y13 =>
 bd (sl4Con_M fu y13 ([])) (fun x16 =>
 some ((GType.mk x16.gKind x16.gName x16.gArgs), d11)))))
 (sw (decide ((pdeep : Int) ≤ 0))
 (lt (d1.after ([s_int, s_bool, s_unit] : List ByteArray).length) (fun d18 =>
 lt (d1.pick ([s_int, s_bool, s_unit] : List ByteArray)) (fun y20 =>
 bd (sl4Con_M fu y20 ([])) (fun x23 =>
 some ((GType.mk x23.gKind x23.gName x23.gArgs), d18)))))
 (sw (decide ((((pc.below 8 : Nat) : Int) : Int) = 5))
 (bd (r_sl4Ty d1 pvars (wrap64 (pdeep - 1))) (fun (x26, x27) =>
 bd (r_sl4Ty x27 pvars (wrap64 (pdeep - 1))) (fun (x29, x30) =>
 bd (sl4Con_M fu s_pair ([(GType.mk x26.gKind x26.gName x26.gArgs), (GType.mk x29.gKind x29.gName x29.gArgs)] : List GType)) (fun x32 =>
 some ((GType.mk x32.gKind x32.gName x32.gArgs), x30)))))
 (lt (d1.after ([s_list, s_list, s_box] : List ByteArray).length) (fun d33 =>
 lt (d1.pick ([s_list, s_list, s_box] : List ByteArray)) (fun y35 =>
 bd (r_sl4Ty d33 pvars (wrap64 (pdeep - 1))) (fun (x38, x39) =>
 bd (sl4Con_M fu y35 ([(GType.mk x38.gKind x38.gName x38.gArgs)] : List GType)) (fun x41 =>
 some ((GType.mk x41.gKind x41.gName x41.gArgs), x39))))))))))
 (sw (decide ((((pc.below 8 : Nat) : Int) : Int) < 5))
 (lt (d1.after ([s_int, s_bool, s_unit] : List ByteArray).length) (fun d43 =>
 lt (d1.pick ([s_int, s_bool, s_unit] : List ByteArray)) (fun y45 =>
 bd (sl4Con_M fu y45 ([])) (fun x48 =>
 some ((GType.mk x48.gKind x48.gName x48.gArgs), d43)))))
 (sw (decide ((pdeep : Int) ≤ 0))
 (lt (d1.after ([s_int, s_bool, s_unit] : List ByteArray).length) (fun d50 =>
 lt (d1.pick ([s_int, s_bool, s_unit] : List ByteArray)) (fun y52 =>
 bd (sl4Con_M fu y52 ([])) (fun x55 =>
 some ((GType.mk x55.gKind x55.gName x55.gArgs), d50)))))
 (sw (decide ((((pc.below 8 : Nat) : Int) : Int) = 5))
 (bd (r_sl4Ty d1 pvars (wrap64 (pdeep - 1))) (fun (x58, x59) =>
 bd (r_sl4Ty x59 pvars (wrap64 (pdeep - 1))) (fun (x61, x62) =>
 bd (sl4Con_M fu s_pair ([(GType.mk x58.gKind x58.gName x58.gArgs), (GType.mk x61.gKind x61.gName x61.gArgs)] : List GType)) (fun x64 =>
 some ((GType.mk x64.gKind x64.gName x64.gArgs), x62)))))
 (lt (d1.after ([s_list, s_list, s_box] : List ByteArray).length) (fun d65 =>
 lt (d1.pick ([s_list, s_list, s_box] : List ByteArray)) (fun y67 =>
 bd (r_sl4Ty d65 pvars (wrap64 (pdeep - 1))) (fun (x70, x71) =>
 bd (sl4Con_M fu y67 ([(GType.mk x70.gKind x70.gName x70.gArgs)] : List GType)) (fun x73 =>
 some ((GType.mk x73.gKind x73.gName x73.gArgs), x71))))))))))
theorem sl4Ty_step (fu : Nat) (r_sl4Ty : sl4Ty_Y) (h_sl4Ty : sl4Ty_T r_sl4Ty) : sl4Ty_T (sl4Ty_G fu r_sl4Ty) := by
  intro pc pvars pdeep r H
  unfold AOwn
  have H := hd0 H
  refine qI Try.func56 (fun C hC => ?_)
  refine qS (qR (q1 (rAl zr27) (qN (qS (qR (q1 rMv (ltQ H fun d1 h2 H => (q1 (rCp [0] [] Try.func51 (nmD h2 (below_ok pc 8))) (q1 rMv (qN (qS (AWP.block (qS ?_)))))))))))))
  refine qR (q1 rMv (q1 rLt (q1 rMv ?_)))
  refine spB 13 H (fun g3 H => ?_) fun g3 H => ?_
  · have g3n : pc.below 8 < 3 := by have := of_decide_eq_true g3; omega
    refine qg g3 rMv (qg g3 (rLn el24 (strTrs_len _)) (qg g3 rGt (q1 (rPt g3) (q1 rMv (qN ?_)))))
    refine cndB H (fun h4 H => ?_) (fun h4 H => ?_)
    · refine qS (qR ?_)
      iterate 3 refine q1 rMv ?_
      refine q1 (rLn el24 (strTrs_len _)) (ltQ H fun d5 h6 H => (q1 (rCp [0] [] Try.func51 (nmD h6 (below_ok d1 pvars.length))) (gdE H fun z7 H => (q1 (rIx z7 el24) (q1 (rK1 sh9) (bdE H fun x9 z8 H => (q1 (AOp.callOwn (pre := ⟨[], []⟩) (B := []) (R := fun k => .agg [pI x9.gKind, pS x9.gName, aType x9.gArgs k]) (ps := [_]) (qs := [pS (atD pvars (d1.below pvars.length))]) [] rfl rfl Try.func54 (by kernel_rfl) rfl rfl rfl (Part0.of trivial trivial (by decide) (by decide)) rfl leA rfl rfl rfl (fun k k' => (.agg (.cons (.free _ rfl) (.cons (.free _ rfl) (.cons Mv.acc MvL.nil))))) (sl4Var_ok fu (atD pvars (d1.below pvars.length)) _ z8)) (q1 (rSu sz27) (qN (AWP.ret ?_))))))))))
      obtain rfl : _ = r := (smI H :)
      exact qe1 (st' := ⟨[some ⟨99, dC d5⟩], [⟨27, 3, GType.trs (x9.gArgs), false⟩]⟩) ⟨0, rfl, rfl, rfl⟩ (hr := ⟨⟨_, _, _, rfl, rfl, sh27, rfl, rfl⟩, trivial⟩)
    refine qS (qR (q1 rMv (q1 rLt (q1 rMv ?_))))
    refine spB 29 H (fun g10 H => ?_) fun g10 H => ?_
    · have g10n : pc.below 8 < 5 := by have := of_decide_eq_true g10; omega
      iterate 2 refine qk g10 ?_
      refine q1 (rPt g10) (q1 rMv (qN (cndT rfl (qS (qR (q1 rMv (q1 (rBs ([s_int, s_bool, s_unit] : List ByteArray) el24 zr9) (ltQ H fun d11 h12 H => (ltQ H fun y13 h14 H => (q1 (rCp [0] [] Try.func49 (nmP h12 h14 (pick_ok d1 ([s_int, s_bool, s_unit] : List ByteArray) (by decide)))) (bdE H fun x16 z15 H => (q1 (AOp.callOwn (pre := ⟨[], []⟩) (B := []) (R := fun k => .agg [pI x16.gKind, pS x16.gName, aType x16.gArgs k]) (ps := [_, _]) (qs := [pS y13, _]) [] rfl rfl Try.func53 (by kernel_rfl) rfl rfl rfl (Part0.of trivial trivial (by decide) (by decide)) rfl leA rfl rfl rfl (fun k k' => (.agg (.cons (.free _ rfl) (.cons (.free _ rfl) (.cons Mv.acc MvL.nil))))) (sl4Con_ok fu y13 ([]) _ z15)) (q1 (rSu sz27) ?_)))))))))))))
      refine qN (AWP.ret ?_)
      obtain rfl : _ = r := (smI H :)
      exact qe1 (st' := ⟨[some ⟨99, dC d11⟩], [⟨27, 3, GType.trs (x16.gArgs), false⟩]⟩) ⟨0, rfl, rfl, rfl⟩ (hr := ⟨⟨_, _, _, rfl, rfl, sh27, rfl, rfl⟩, trivial⟩)
    refine qg g10 rMv (qg g10 rLe (q1 (rPf g10) (q1 rMv (qN ?_))))
    refine cndB H (fun h17 H => ?_) (fun h17 H => ?_)
    · refine qS (qR (q1 rMv (q1 (rBs ([s_int, s_bool, s_unit] : List ByteArray) el24 zr9) (ltQ H fun d18 h19 H => (ltQ H fun y20 h21 H => (q1 (rCp [0] [] Try.func49 (nmP h19 h21 (pick_ok d1 ([s_int, s_bool, s_unit] : List ByteArray) (by decide)))) (bdE H fun x23 z22 H => (q1 (AOp.callOwn (pre := ⟨[], []⟩) (B := []) (R := fun k => .agg [pI x23.gKind, pS x23.gName, aType x23.gArgs k]) (ps := [_, _]) (qs := [pS y20, _]) [] rfl rfl Try.func53 (by kernel_rfl) rfl rfl rfl (Part0.of trivial trivial (by decide) (by decide)) rfl leA rfl rfl rfl (fun k k' => (.agg (.cons (.free _ rfl) (.cons (.free _ rfl) (.cons Mv.acc MvL.nil))))) (sl4Con_ok fu y20 ([]) _ z22)) (q1 (rSu sz27) (qN (AWP.ret ?_)))))))))))
      obtain rfl : _ = r := (smI H :)
      exact qe1 (st' := ⟨[some ⟨99, dC d18⟩], [⟨27, 3, GType.trs (x23.gArgs), false⟩]⟩) ⟨0, rfl, rfl, rfl⟩ (hr := ⟨⟨_, _, _, rfl, rfl, sh27, rfl, rfl⟩, trivial⟩)
    refine qS (qR (q1 rMv (q1 rEq (q1 rMv (qN ?_)))))
    refine cndB H (fun h24 H => ?_) (fun h24 H => ?_)
    · refine qS (qR ?_)
      iterate 3 refine q1 rMv ?_
      refine q1 rSw (bdE2 H fun x26 x27 z25 H => (q1 (AOp.callOwn (pre := ⟨[some ⟨99, dC d1⟩], []⟩) (B := [some ⟨99, dC x27⟩]) (R := fun k => .agg [pI x26.gKind, pS x26.gName, aType x26.gArgs k]) (ps := [_, _, _]) (qs := [.ptr 0 0, rS pvars, pI (wrap64 (pdeep - 1))]) [0] rfl rfl Try.func56 (by kernel_rfl) rfl rfl rfl (Part0.of ⟨⟨_, rfl, rfl, leA, rfl⟩, trivial⟩ trivial (by decide) (by decide)) rfl leA rfl rfl rfl (fun k k' => (.agg (.cons (.free _ rfl) (.cons (.free _ rfl) (.cons Mv.acc MvL.nil))))) (h_sl4Ty d1 pvars (wrap64 (pdeep - 1)) _ z25)) ?_))
      iterate 3 refine q1 rMv ?_
      refine q1 rSw (bdE2 H fun x29 x30 z28 H => (q1 (AOp.callOwn (pre := ⟨[some ⟨99, dC x27⟩], []⟩) (B := [some ⟨99, dC x30⟩]) (R := fun k => .agg [pI x29.gKind, pS x29.gName, aType x29.gArgs k]) (ps := [_, _, _]) (qs := [.ptr 0 0, rS pvars, pI (wrap64 (pdeep - 1))]) [0] rfl rfl Try.func56 (by kernel_rfl) rfl rfl rfl (Part0.of ⟨⟨_, rfl, rfl, leA, rfl⟩, trivial⟩ trivial (by decide) (by decide)) rfl leA rfl rfl rfl (fun k k' => (.agg (.cons (.free _ rfl) (.cons (.free _ rfl) (.cons Mv.acc MvL.nil))))) (h_sl4Ty x27 pvars (wrap64 (pdeep - 1)) _ z28)) (q1 (rBa ([(GType.mk x26.gKind x26.gName x26.gArgs), (GType.mk x29.gKind x29.gName x29.gArgs)] : List GType) el25 zr27) (bdE H fun x32 z31 H => (q1 (AOp.callOwn (pre := ⟨[], []⟩) (B := []) (R := fun k => .agg [pI x32.gKind, pS x32.gName, aType x32.gArgs k]) (ps := [_, _]) (qs := [pS s_pair, rType ([(GType.mk x26.gKind x26.gName x26.gArgs), (GType.mk x29.gKind x29.gName x29.gArgs)] : List GType)]) [] rfl rfl Try.func53 (by kernel_rfl) rfl rfl rfl (Part0.of trivial trivial (by decide) (by decide)) rfl leA rfl rfl rfl (fun k k' => (.agg (.cons (.free _ rfl) (.cons (.free _ rfl) (.cons Mv.acc MvL.nil))))) (sl4Con_ok fu s_pair ([(GType.mk x26.gKind x26.gName x26.gArgs), (GType.mk x29.gKind x29.gName x29.gArgs)] : List GType) _ z31)) (q1 (rSu sz27) (qN (AWP.ret ?_))))))))
      obtain rfl : _ = r := (smI H :)
      exact qe1 (st' := ⟨[some ⟨99, dC x30⟩], [⟨27, 3, GType.trs (x26.gArgs), false⟩, ⟨27, 3, GType.trs (x29.gArgs), false⟩, ⟨27, 3, GType.trs (([(GType.mk x26.gKind x26.gName x26.gArgs), (GType.mk x29.gKind x29.gName x29.gArgs)] : List GType)), false⟩, ⟨27, 3, GType.trs (x32.gArgs), false⟩]⟩) ⟨3, rfl, rfl, rfl⟩ (hr := ⟨⟨_, _, _, rfl, rfl, sh27, rfl, rfl⟩, trivial⟩)
    refine AWP.skip (qS (qR (q1 rMv (q1 (rBs ([s_list, s_list, s_box] : List ByteArray) el24 zr9) (ltQ H fun d33 h34 H => (ltQ H fun y35 h36 H => (q1 (rCp [0] [] Try.func49 (nmP h34 h36 (pick_ok d1 ([s_list, s_list, s_box] : List ByteArray) (by decide)))) ?_)))))))
    iterate 3 refine q1 rMv ?_
    refine q1 rSw (bdE2 H fun x38 x39 z37 H => (q1 (AOp.callOwn (pre := ⟨[some ⟨99, dC d33⟩], []⟩) (B := [some ⟨99, dC x39⟩]) (R := fun k => .agg [pI x38.gKind, pS x38.gName, aType x38.gArgs k]) (ps := [_, _, _]) (qs := [.ptr 0 0, rS pvars, pI (wrap64 (pdeep - 1))]) [0] rfl rfl Try.func56 (by kernel_rfl) rfl rfl rfl (Part0.of ⟨⟨_, rfl, rfl, leA, rfl⟩, trivial⟩ trivial (by decide) (by decide)) rfl leA rfl rfl rfl (fun k k' => (.agg (.cons (.free _ rfl) (.cons (.free _ rfl) (.cons Mv.acc MvL.nil))))) (h_sl4Ty d33 pvars (wrap64 (pdeep - 1)) _ z37)) (q1 (rBa ([(GType.mk x38.gKind x38.gName x38.gArgs)] : List GType) el25 zr27) (bdE H fun x41 z40 H => (q1 (AOp.callOwn (pre := ⟨[], []⟩) (B := []) (R := fun k => .agg [pI x41.gKind, pS x41.gName, aType x41.gArgs k]) (ps := [_, _]) (qs := [pS y35, rType ([(GType.mk x38.gKind x38.gName x38.gArgs)] : List GType)]) [] rfl rfl Try.func53 (by kernel_rfl) rfl rfl rfl (Part0.of trivial trivial (by decide) (by decide)) rfl leA rfl rfl rfl (fun k k' => (.agg (.cons (.free _ rfl) (.cons (.free _ rfl) (.cons Mv.acc MvL.nil))))) (sl4Con_ok fu y35 ([(GType.mk x38.gKind x38.gName x38.gArgs)] : List GType) _ z40)) (q1 (rSu sz27) (qN (AWP.ret ?_))))))))
    obtain rfl : _ = r := (smI H :)
    exact qe1 (st' := ⟨[some ⟨99, dC x39⟩], [⟨27, 3, GType.trs (x38.gArgs), false⟩, ⟨27, 3, GType.trs (([(GType.mk x38.gKind x38.gName x38.gArgs)] : List GType)), false⟩, ⟨27, 3, GType.trs (x41.gArgs), false⟩]⟩) ⟨2, rfl, rfl, rfl⟩ (hr := ⟨⟨_, _, _, rfl, rfl, sh27, rfl, rfl⟩, trivial⟩)
  iterate 3 refine qk g3 ?_
  refine q1 (rPf g3) (q1 rMv (qN (cndF rfl (qS (qR (q1 rMv (q1 rLt (q1 rMv ?_))))))))
  refine spB 29 H (fun g42 H => ?_) fun g42 H => ?_
  · have g42n : pc.below 8 < 5 := by have := of_decide_eq_true g42; omega
    iterate 2 refine qk g42 ?_
    refine q1 (rPt g42) (q1 rMv (qN (cndT rfl (qS (qR (q1 rMv (q1 (rBs ([s_int, s_bool, s_unit] : List ByteArray) el24 zr9) (ltQ H fun d43 h44 H => (ltQ H fun y45 h46 H => (q1 (rCp [0] [] Try.func49 (nmP h44 h46 (pick_ok d1 ([s_int, s_bool, s_unit] : List ByteArray) (by decide)))) (bdE H fun x48 z47 H => (q1 (AOp.callOwn (pre := ⟨[], []⟩) (B := []) (R := fun k => .agg [pI x48.gKind, pS x48.gName, aType x48.gArgs k]) (ps := [_, _]) (qs := [pS y45, _]) [] rfl rfl Try.func53 (by kernel_rfl) rfl rfl rfl (Part0.of trivial trivial (by decide) (by decide)) rfl leA rfl rfl rfl (fun k k' => (.agg (.cons (.free _ rfl) (.cons (.free _ rfl) (.cons Mv.acc MvL.nil))))) (sl4Con_ok fu y45 ([]) _ z47)) (q1 (rSu sz27) ?_)))))))))))))
    refine qN (AWP.ret ?_)
    obtain rfl : _ = r := (smI H :)
    exact qe1 (st' := ⟨[some ⟨99, dC d43⟩], [⟨27, 3, GType.trs (x48.gArgs), false⟩]⟩) ⟨0, rfl, rfl, rfl⟩ (hr := ⟨⟨_, _, _, rfl, rfl, sh27, rfl, rfl⟩, trivial⟩)
  refine qg g42 rMv (qg g42 rLe (q1 (rPf g42) (q1 rMv (qN ?_))))
  refine cndB H (fun h49 H => ?_) (fun h49 H => ?_)
  · refine qS (qR (q1 rMv (q1 (rBs ([s_int, s_bool, s_unit] : List ByteArray) el24 zr9) (ltQ H fun d50 h51 H => (ltQ H fun y52 h53 H => (q1 (rCp [0] [] Try.func49 (nmP h51 h53 (pick_ok d1 ([s_int, s_bool, s_unit] : List ByteArray) (by decide)))) (bdE H fun x55 z54 H => (q1 (AOp.callOwn (pre := ⟨[], []⟩) (B := []) (R := fun k => .agg [pI x55.gKind, pS x55.gName, aType x55.gArgs k]) (ps := [_, _]) (qs := [pS y52, _]) [] rfl rfl Try.func53 (by kernel_rfl) rfl rfl rfl (Part0.of trivial trivial (by decide) (by decide)) rfl leA rfl rfl rfl (fun k k' => (.agg (.cons (.free _ rfl) (.cons (.free _ rfl) (.cons Mv.acc MvL.nil))))) (sl4Con_ok fu y52 ([]) _ z54)) (q1 (rSu sz27) (qN (AWP.ret ?_)))))))))))
    obtain rfl : _ = r := (smI H :)
    exact qe1 (st' := ⟨[some ⟨99, dC d50⟩], [⟨27, 3, GType.trs (x55.gArgs), false⟩]⟩) ⟨0, rfl, rfl, rfl⟩ (hr := ⟨⟨_, _, _, rfl, rfl, sh27, rfl, rfl⟩, trivial⟩)
  refine qS (qR (q1 rMv (q1 rEq (q1 rMv (qN ?_)))))
  refine cndB H (fun h56 H => ?_) (fun h56 H => ?_)
  · refine qS (qR ?_)
    iterate 3 refine q1 rMv ?_
    refine q1 rSw (bdE2 H fun x58 x59 z57 H => (q1 (AOp.callOwn (pre := ⟨[some ⟨99, dC d1⟩], []⟩) (B := [some ⟨99, dC x59⟩]) (R := fun k => .agg [pI x58.gKind, pS x58.gName, aType x58.gArgs k]) (ps := [_, _, _]) (qs := [.ptr 0 0, rS pvars, pI (wrap64 (pdeep - 1))]) [0] rfl rfl Try.func56 (by kernel_rfl) rfl rfl rfl (Part0.of ⟨⟨_, rfl, rfl, leA, rfl⟩, trivial⟩ trivial (by decide) (by decide)) rfl leA rfl rfl rfl (fun k k' => (.agg (.cons (.free _ rfl) (.cons (.free _ rfl) (.cons Mv.acc MvL.nil))))) (h_sl4Ty d1 pvars (wrap64 (pdeep - 1)) _ z57)) ?_))
    iterate 3 refine q1 rMv ?_
    refine q1 rSw (bdE2 H fun x61 x62 z60 H => (q1 (AOp.callOwn (pre := ⟨[some ⟨99, dC x59⟩], []⟩) (B := [some ⟨99, dC x62⟩]) (R := fun k => .agg [pI x61.gKind, pS x61.gName, aType x61.gArgs k]) (ps := [_, _, _]) (qs := [.ptr 0 0, rS pvars, pI (wrap64 (pdeep - 1))]) [0] rfl rfl Try.func56 (by kernel_rfl) rfl rfl rfl (Part0.of ⟨⟨_, rfl, rfl, leA, rfl⟩, trivial⟩ trivial (by decide) (by decide)) rfl leA rfl rfl rfl (fun k k' => (.agg (.cons (.free _ rfl) (.cons (.free _ rfl) (.cons Mv.acc MvL.nil))))) (h_sl4Ty x59 pvars (wrap64 (pdeep - 1)) _ z60)) (q1 (rBa ([(GType.mk x58.gKind x58.gName x58.gArgs), (GType.mk x61.gKind x61.gName x61.gArgs)] : List GType) el25 zr27) (bdE H fun x64 z63 H => (q1 (AOp.callOwn (pre := ⟨[], []⟩) (B := []) (R := fun k => .agg [pI x64.gKind, pS x64.gName, aType x64.gArgs k]) (ps := [_, _]) (qs := [pS s_pair, rType ([(GType.mk x58.gKind x58.gName x58.gArgs), (GType.mk x61.gKind x61.gName x61.gArgs)] : List GType)]) [] rfl rfl Try.func53 (by kernel_rfl) rfl rfl rfl (Part0.of trivial trivial (by decide) (by decide)) rfl leA rfl rfl rfl (fun k k' => (.agg (.cons (.free _ rfl) (.cons (.free _ rfl) (.cons Mv.acc MvL.nil))))) (sl4Con_ok fu s_pair ([(GType.mk x58.gKind x58.gName x58.gArgs), (GType.mk x61.gKind x61.gName x61.gArgs)] : List GType) _ z63)) (q1 (rSu sz27) (qN (AWP.ret ?_))))))))
    obtain rfl : _ = r := (smI H :)
    exact qe1 (st' := ⟨[some ⟨99, dC x62⟩], [⟨27, 3, GType.trs (x58.gArgs), false⟩, ⟨27, 3, GType.trs (x61.gArgs), false⟩, ⟨27, 3, GType.trs (([(GType.mk x58.gKind x58.gName x58.gArgs), (GType.mk x61.gKind x61.gName x61.gArgs)] : List GType)), false⟩, ⟨27, 3, GType.trs (x64.gArgs), false⟩]⟩) ⟨3, rfl, rfl, rfl⟩ (hr := ⟨⟨_, _, _, rfl, rfl, sh27, rfl, rfl⟩, trivial⟩)
  refine AWP.skip (qS (qR (q1 rMv (q1 (rBs ([s_list, s_list, s_box] : List ByteArray) el24 zr9) (ltQ H fun d65 h66 H => (ltQ H fun y67 h68 H => (q1 (rCp [0] [] Try.func49 (nmP h66 h68 (pick_ok d1 ([s_list, s_list, s_box] : List ByteArray) (by decide)))) ?_)))))))
  iterate 3 refine q1 rMv ?_
  refine q1 rSw (bdE2 H fun x70 x71 z69 H => (q1 (AOp.callOwn (pre := ⟨[some ⟨99, dC d65⟩], []⟩) (B := [some ⟨99, dC x71⟩]) (R := fun k => .agg [pI x70.gKind, pS x70.gName, aType x70.gArgs k]) (ps := [_, _, _]) (qs := [.ptr 0 0, rS pvars, pI (wrap64 (pdeep - 1))]) [0] rfl rfl Try.func56 (by kernel_rfl) rfl rfl rfl (Part0.of ⟨⟨_, rfl, rfl, leA, rfl⟩, trivial⟩ trivial (by decide) (by decide)) rfl leA rfl rfl rfl (fun k k' => (.agg (.cons (.free _ rfl) (.cons (.free _ rfl) (.cons Mv.acc MvL.nil))))) (h_sl4Ty d65 pvars (wrap64 (pdeep - 1)) _ z69)) (q1 (rBa ([(GType.mk x70.gKind x70.gName x70.gArgs)] : List GType) el25 zr27) (bdE H fun x73 z72 H => (q1 (AOp.callOwn (pre := ⟨[], []⟩) (B := []) (R := fun k => .agg [pI x73.gKind, pS x73.gName, aType x73.gArgs k]) (ps := [_, _]) (qs := [pS y67, rType ([(GType.mk x70.gKind x70.gName x70.gArgs)] : List GType)]) [] rfl rfl Try.func53 (by kernel_rfl) rfl rfl rfl (Part0.of trivial trivial (by decide) (by decide)) rfl leA rfl rfl rfl (fun k k' => (.agg (.cons (.free _ rfl) (.cons (.free _ rfl) (.cons Mv.acc MvL.nil))))) (sl4Con_ok fu y67 ([(GType.mk x70.gKind x70.gName x70.gArgs)] : List GType) _ z72)) (q1 (rSu sz27) (qN (AWP.ret ?_))))))))
  obtain rfl : _ = r := (smI H :)
  exact qe1 (st' := ⟨[some ⟨99, dC x71⟩], [⟨27, 3, GType.trs (x70.gArgs), false⟩, ⟨27, 3, GType.trs (([(GType.mk x70.gKind x70.gName x70.gArgs)] : List GType)), false⟩, ⟨27, 3, GType.trs (x73.gArgs), false⟩]⟩) ⟨2, rfl, rfl, rfl⟩ (hr := ⟨⟨_, _, _, rfl, rfl, sh27, rfl, rfl⟩, trivial⟩)
def sl4Ty_M : Nat → DS → (List ByteArray) → Int → Option (GType × DS)
  | 0, _, _, _ => none
  | fu + 1, pc, pvars, pdeep => sl4Ty_G fu (sl4Ty_M fu) pc pvars pdeep
theorem sl4Ty_all (fu : Nat) : sl4Ty_T (sl4Ty_M fu) := by
  induction fu with
  | zero => exact (fun pc pvars pdeep r H => by simp only [sl4Ty_M] at H; cases H)
  | succ fu ih => exact (fun pc pvars pdeep r H => by simp only [sl4Ty_M] at H; exact sl4Ty_step fu (sl4Ty_M fu) ih pc pvars pdeep r H)
theorem sl4Ty_ok (fu : Nat) : sl4Ty_T (sl4Ty_M fu) := (sl4Ty_all fu)

abbrev sl4Copy_Y := GType → Option GType
abbrev sl4Copies_Y := (List GType) → Option ((List GType))
def sl4Copy_T (m : sl4Copy_Y) : Prop := ∀ (pt : GType) (r : GType), m pt = some r → AFun Try.prog 99 [(GType.pv pt)] ((GType.pv r) : PV)
def sl4Copies_T (m : sl4Copies_Y) : Prop := ∀ (plist : List GType) (r : (List GType)), m plist = some r → AFun Try.prog 129 [rType plist] (rType r : PV)
def sl4Copy_G (fu : Nat) (r_sl4Copy : sl4Copy_Y) (r_sl4Copies : sl4Copies_Y) (pt : GType) : Option GType :=
 bd (r_sl4Copies pt.gArgs) (fun x2 =>
 some (GType.mk pt.gKind pt.gName x2))
theorem sl4Copy_step (fu : Nat) (r_sl4Copy : sl4Copy_Y) (r_sl4Copies : sl4Copies_Y) (h_sl4Copy : sl4Copy_T r_sl4Copy) (h_sl4Copies : sl4Copies_T r_sl4Copies) : sl4Copy_T (sl4Copy_G fu r_sl4Copy r_sl4Copies) := by
  intro pt r H
  have H := hd0 H
  refine qI Try.func99 (fun C hC => ?_)
  refine qS (qR (q1 (rBx (cType pt)) (q1 (rAl zr27) (qN (qS (bdE H fun x2 z1 H => (dW (dI [1] (rFp fo27_0) (dD [3] (rL1 sh3) (dI [1] (rFp fo27_1) (dD [5] (rL1 sh9) (dI [1] (rFp fo27_2) (dD [7] (rL1 sh25) ?_)))))))))))))
  refine dI [8] (rCf Try.func129 (h_sl4Copies pt.gArgs _ z1)) (dI [4, 6, 9] (rBd zr27 pl27) (dE0 [2, 10] (rSu sz27) (dN (AWP.ret ?_))))
  obtain rfl : _ = r := (smI H :)
  exact qe1 (hr := ⟨⟨_, _, _, rfl, rfl, sh27, rfl, rfl⟩, trivial⟩)
def sl4Copies_F1 (fu : Nat) (r_sl4Copy : sl4Copy_Y) (r_sl4Copies : sl4Copies_Y) (plist : List GType) : Nat → ((List GType)) → Option (LR ((List GType)) ((List GType))) :=
 fun i1 v3 => bd (r_sl4Copy (atD plist i1)) (fun x7 =>
 gd ((v3).length + (([x7] : List GType)).length ≤ 68719476736)
 (some (.next (v3 ++ ([x7] : List GType)))))
def sl4Copies_R1 (fu : Nat) (r_sl4Copy : sl4Copy_Y) (r_sl4Copies : sl4Copies_Y) (plist : List GType) : Option (((List GType)) ⊕ ((List GType))) :=
 loopN (sl4Copies_F1 fu r_sl4Copy r_sl4Copies plist) (plist.length - 0) 0 ([])
def sl4Copies_G (fu : Nat) (r_sl4Copy : sl4Copy_Y) (r_sl4Copies : sl4Copies_Y) (plist : List GType) : Option ((List GType)) :=
 so (sl4Copies_R1 fu r_sl4Copy r_sl4Copies plist) (fun v3 =>
 some v3)
theorem sl4Copies_step (fu : Nat) (r_sl4Copy : sl4Copy_Y) (r_sl4Copies : sl4Copies_Y) (h_sl4Copy : sl4Copy_T r_sl4Copy) (h_sl4Copies : sl4Copies_T r_sl4Copies) : sl4Copies_T (sl4Copies_G fu r_sl4Copy r_sl4Copies) := by
  intro plist r H
  have H := hd0 H
  refine qI Try.func129 (fun C hC => ?_)
  refine qS (qR (q1 rMv (qN (qS (qR (q1 (rBa ([] : List GType) el25 zr27) (q1 rMv (qN ?_))))))))
  iterate 2 refine qS ?_
  refine qR (q1 rMv (qN ?_))
  refine lenF 0 (GType.trs_len _) (fun hl4 => ?_)
  refine loopB (σ := (List GType)) (fun i1 v3 => ⟨[(0, rType plist), (2, .nil), (3, aType v3 0), (4, pN i1)], ⟨[], [⟨27, 3, GType.trs (v3), false⟩]⟩⟩) (fun v3 => ⟨[(2, .nil), (3, aType v3 0)], ⟨[], [⟨27, 3, GType.trs (v3), false⟩]⟩⟩) (soI H) ?_ ?_
  · rintro i1 v3 H
    iterate 2 refine qS ?_
    refine qR ?_
    iterate 2 refine q1 rMv ?_
    refine q1 (rLn el25 (GType.trs_len _)) (q1 rLt (qN ?_))
    refine cndL H (fun h5 h5l H => ?_) (fun h5 H => ?_)
    · have h5n := nat_lt_of h5
      refine AWP.skip (qS (AWP.block (qR ?_)))
      iterate 3 refine q1 rMv ?_
      refine q1 (rIx h5n el25) (q1 (rKe (GType.cs (atD plist i1)) sh27) (bdE H fun x7 z6 H => (q1 (rCf Try.func99 (h_sl4Copy (atD plist i1) _ z6)) (q1 (rBs ([x7] : List GType) el25 zr27) (gdE H fun z8 H => (q1 (rAp z8 el25 ze25) (q1 rMv (qN (qR (q1 rMv (q1 (AOp.addI rfl rfl rfl rfl (c := ((i1 + 1 : Nat) : Int)) (by omega) (by omega)) (q1 rMv (qN ?_)))))))))))))
      exact lpN h5l ⟨_, (smI H :), wkA⟩
    refine AWP.exit ?_; exact lpX ⟨_, H, wkA⟩
  rintro v3 H
  refine qS (qR ?_)
  iterate 2 refine q1 rMv ?_
  refine qN (AWP.ret ?_)
  obtain rfl : _ = r := (smI H :)
  exact qe1
mutual
def sl4Copy_M : Nat → GType → Option GType
  | 0, _ => none
  | fu + 1, pt => sl4Copy_G fu (sl4Copy_M fu) (sl4Copies_M fu) pt
def sl4Copies_M : Nat → (List GType) → Option ((List GType))
  | 0, _ => none
  | fu + 1, plist => sl4Copies_G fu (sl4Copy_M fu) (sl4Copies_M fu) plist
end
theorem sl4Copy_all (fu : Nat) : sl4Copy_T (sl4Copy_M fu) ∧ sl4Copies_T (sl4Copies_M fu) := by
  induction fu with
  | zero => exact ⟨(fun pt r H => by simp only [sl4Copy_M] at H; cases H), (fun plist r H => by simp only [sl4Copies_M] at H; cases H)⟩
  | succ fu ih => exact ⟨(fun pt r H => by simp only [sl4Copy_M] at H; exact sl4Copy_step fu (sl4Copy_M fu) (sl4Copies_M fu) ih.1 ih.2 pt r H), (fun plist r H => by simp only [sl4Copies_M] at H; exact sl4Copies_step fu (sl4Copy_M fu) (sl4Copies_M fu) ih.1 ih.2 plist r H)⟩
theorem sl4Copy_ok (fu : Nat) : sl4Copy_T (sl4Copy_M fu) := (sl4Copy_all fu).1
def sl4Proj_T (m : ByteArray → GType → Option GType) : Prop := ∀ (ptrait : ByteArray) (pt : GType) (r : GType), m ptrait pt = some r → AOwn Try.prog 92 [pS ptrait, (GType.pv pt)] ⟨[], []⟩ [] 27 3 (GType.trs (r.gArgs)) (fun k => .agg [pI r.gKind, pS r.gName, aType r.gArgs k])
def sl4Proj_M (fu : Nat) (ptrait : ByteArray) (pt : GType) : Option GType :=
 bd (sl4Copy_M fu pt) (fun x2 =>
 some (GType.mk 3 ptrait ([x2] : List GType)))
theorem sl4Proj_ok (fu : Nat)   : sl4Proj_T (sl4Proj_M fu) := by
  intro ptrait pt r H
  unfold AOwn
  have H := hd0 H
  refine qI Try.func92 (fun C hC => ?_)
  refine qS (qR (q1 (rBx (cType pt)) (q1 (rAl zr27) (qN (qS (qR (q1 rMv (q1 (rLp [pI pt.gKind, pS pt.gName, rType pt.gArgs] sh27) (bdE H fun x2 z1 H => (q1 (rCf Try.func99 (sl4Copy_ok fu pt _ z1)) (q1 (rBa ([x2] : List GType) el25 zr27) (q1 (rBd zr27 pl27) (q1 (rSu sz27) ?_)))))))))))))
  refine qN (AWP.ret ?_)
  obtain rfl : _ = r := (smI H :)
  exact qe1 (st' := ⟨[], [⟨27, 3, GType.trs (([x2] : List GType)), false⟩]⟩) ⟨0, rfl, rfl, rfl⟩ (hr := ⟨⟨_, _, _, rfl, rfl, sh27, rfl, rfl⟩, trivial⟩)

def sl4Free_T (m : DS → Int → Option (GType × DS)) : Prop := ∀ (pc : DS) (pdeep : Int) (r : GType × DS), m pc pdeep = some r → AOwn Try.prog 57 [.ptr 0 0, pI pdeep] ⟨[some ⟨99, dC pc⟩], []⟩ [some ⟨99, dC r.2⟩] 27 3 (GType.trs (r.1.gArgs)) (fun k => .agg [pI r.1.gKind, pS r.1.gName, aType r.1.gArgs k])
theorem sl4Free_pl {m : DS → Int → Option (GType × DS)} (h : sl4Free_T m) (pc : DS) (pdeep : Int) (r : GType × DS) (H : m pc pdeep = some r) : ACalls Try.prog 57 [.ptr 0 0, pI pdeep] ⟨[some ⟨99, dC pc⟩], []⟩ (fun q t => q = ((GType.pv r.1) : PV) ∧ t = ⟨[some ⟨99, dC r.2⟩], []⟩) := (h pc pdeep r H).plain (fun _ => leA) (hp := keep0b)
def sl4Free_M (fu : Nat) (pc : DS) (pdeep : Int) : Option (GType × DS) :=
 bd (sl4Ty_M fu pc ([s_a, s_b] : List ByteArray) pdeep) (fun (x2, x3) =>
 lt (x3.after 8) (fun d4 =>
 sw (decide ((((x3.below 8 : Nat) : Int) : Int) = 0))
 (lt (d4.after ([s_add, s_show] : List ByteArray).length) (fun d7 =>
 lt (d4.pick ([s_add, s_show] : List ByteArray)) (fun y9 =>
 bd (sl4Proj_M fu y9 (GType.mk x2.gKind x2.gName x2.gArgs)) (fun x12 =>
 some ((GType.mk x12.gKind x12.gName x12.gArgs), d7)))))
 (sw (decide ((((x3.below 8 : Nat) : Int) : Int) = 1))
 (bd (sl4Proj_M fu s_add (GType.mk x2.gKind x2.gName x2.gArgs)) (fun x15 =>
 bd (sl4Con_M fu s_list ([(GType.mk x15.gKind x15.gName x15.gArgs)] : List GType)) (fun x17 =>
 some ((GType.mk x17.gKind x17.gName x17.gArgs), d4))))
 (sw (decide ((((x3.below 8 : Nat) : Int) : Int) = 2))
 (some ((GType.mk 4 s_show []), d4))
 (some ((GType.mk x2.gKind x2.gName x2.gArgs), d4))))))
theorem sl4Free_ok (fu : Nat)   : sl4Free_T (sl4Free_M fu) := by
  intro pc pdeep r H
  unfold AOwn
  have H := hd0 H
  refine qI Try.func57 (fun C hC => ?_)
  refine qS (qR (q1 (rAl zr27) (qN (qS (qR (q1 rMv (q1 (rBs ([s_a, s_b] : List ByteArray) el24 zr9) (q1 rMv (bdE2 H fun x2 x3 z1 H => (q1 (AOp.callOwn (pre := ⟨[some ⟨99, dC pc⟩], []⟩) (B := [some ⟨99, dC x3⟩]) (R := fun k => .agg [pI x2.gKind, pS x2.gName, aType x2.gArgs k]) (ps := [_, _, _]) (qs := [.ptr 0 0, rS ([s_a, s_b] : List ByteArray), pI pdeep]) [0] rfl rfl Try.func56 (by kernel_rfl) rfl rfl rfl (Part0.of ⟨⟨_, rfl, rfl, leA, rfl⟩, trivial⟩ trivial (by decide) (by decide)) rfl leA rfl rfl rfl (fun k k' => (.agg (.cons (.free _ rfl) (.cons (.free _ rfl) (.cons Mv.acc MvL.nil))))) (sl4Ty_ok fu pc ([s_a, s_b] : List ByteArray) pdeep _ z1)) (q1 (rAl zr27) (q1 (rSu sz27) (qN ?_)))))))))))))
  iterate 2 refine qS ?_
  refine qR (q1 rMv (ltQ H fun d4 h5 H => (q1 (rCp [0] [] Try.func51 (nmD h5 (below_ok x3 8))) (qN (AWP.block (qS (qR (q1 rEq (q1 rMv (qN ?_))))))))))
  refine cndB H (fun h6 H => ?_) (fun h6 H => ?_)
  · refine qS (ltQ H fun d7 h8 H => (ltQ H fun y9 h10 H => (bdE H fun x12 z11 H => (dW (dI [0] rMv (dI [] (rBs ([s_add, s_show] : List ByteArray) el24 zr9) (dE [14, 15] (rCp [0] [] Try.func49 (nmP h8 h10 (pick_ok d4 ([s_add, s_show] : List ByteArray) (by decide)))) (dB [5] 0 1 (vLp [pI x2.gKind, pS x2.gName, aType x2.gArgs 0] sh27) (dE [16, 17] (AOp.callOwn (pre := ⟨[], []⟩) (B := []) (R := fun k => .agg [pI x12.gKind, pS x12.gName, aType x12.gArgs k]) (ps := [_, _]) (qs := [pS y9, .agg [pI x2.gKind, pS x2.gName, rType x2.gArgs]]) [] rfl rfl Try.func92 (by kernel_rfl) rfl rfl rfl (Part0.of trivial trivial (by decide) (by decide)) rfl leA rfl rfl rfl (fun k k' => (.agg (.cons (.free _ rfl) (.cons (.free _ rfl) (.cons Mv.acc MvL.nil))))) (sl4Proj_ok fu y9 (GType.mk x2.gKind x2.gName x2.gArgs) _ z11)) (dE0 [4, 18] (rSu sz27) (dN (AWP.ret ?_))))))))))))
    obtain rfl : _ = r := (smI H :)
    exact qe1 (st' := ⟨[some ⟨99, dC d7⟩], [⟨27, 3, GType.trs (x2.gArgs), false⟩, ⟨27, 3, GType.trs (x12.gArgs), false⟩]⟩) ⟨1, rfl, rfl, rfl⟩ (hr := ⟨⟨_, _, _, rfl, rfl, sh27, rfl, rfl⟩, trivial⟩)
  refine qS (qR (q1 rEq (q1 rMv (qN ?_))))
  refine cndB H (fun h13 H => ?_) (fun h13 H => ?_)
  · refine qS (qR (q1 (rLp [pI x2.gKind, pS x2.gName, aType x2.gArgs 0] sh27) (bdE H fun x15 z14 H => (q1 (AOp.callOwn (pre := ⟨[], []⟩) (B := []) (R := fun k => .agg [pI x15.gKind, pS x15.gName, aType x15.gArgs k]) (ps := [_, _]) (qs := [pS s_add, .agg [pI x2.gKind, pS x2.gName, rType x2.gArgs]]) [] rfl rfl Try.func92 (by kernel_rfl) rfl rfl rfl (Part0.of trivial trivial (by decide) (by decide)) rfl leA rfl rfl rfl (fun k k' => (.agg (.cons (.free _ rfl) (.cons (.free _ rfl) (.cons Mv.acc MvL.nil))))) (sl4Proj_ok fu s_add (GType.mk x2.gKind x2.gName x2.gArgs) _ z14)) (q1 (rBa ([(GType.mk x15.gKind x15.gName x15.gArgs)] : List GType) el25 zr27) (bdE H fun x17 z16 H => (q1 (AOp.callOwn (pre := ⟨[], []⟩) (B := []) (R := fun k => .agg [pI x17.gKind, pS x17.gName, aType x17.gArgs k]) (ps := [_, _]) (qs := [pS s_list, rType ([(GType.mk x15.gKind x15.gName x15.gArgs)] : List GType)]) [] rfl rfl Try.func53 (by kernel_rfl) rfl rfl rfl (Part0.of trivial trivial (by decide) (by decide)) rfl leA rfl rfl rfl (fun k k' => (.agg (.cons (.free _ rfl) (.cons (.free _ rfl) (.cons Mv.acc MvL.nil))))) (sl4Con_ok fu s_list ([(GType.mk x15.gKind x15.gName x15.gArgs)] : List GType) _ z16)) (q1 (rSu sz27) (qN (AWP.ret ?_))))))))))
    obtain rfl : _ = r := (smI H :)
    exact qe1 (st' := ⟨[some ⟨99, dC d4⟩], [⟨27, 3, GType.trs (x2.gArgs), false⟩, ⟨27, 3, GType.trs (x15.gArgs), false⟩, ⟨27, 3, GType.trs (([(GType.mk x15.gKind x15.gName x15.gArgs)] : List GType)), false⟩, ⟨27, 3, GType.trs (x17.gArgs), false⟩]⟩) ⟨3, rfl, rfl, rfl⟩ (hr := ⟨⟨_, _, _, rfl, rfl, sh27, rfl, rfl⟩, trivial⟩)
  refine qS (qR (q1 rEq (q1 rMv (qN ?_))))
  refine cndB H (fun h18 H => ?_) (fun h18 H => ?_)
  · refine qS (qR (q1 (rBd zr27 pl27) (q1 (rSu sz27) (qN (AWP.wk (Wk.regBox (k := 1) (j := 2) 27 3 (by decide) rfl rfl) (AWP.ret ?_))))))
    obtain rfl : _ = r := (smI H :)
    exact qe1 (st' := ⟨[some ⟨99, dC d4⟩], [⟨27, 3, GType.trs (x2.gArgs), false⟩, ⟨27, 3, GType.trs ([]), false⟩]⟩) ⟨1, rfl, rfl, rfl⟩ (hr := ⟨⟨_, _, _, rfl, rfl, sh27, rfl, rfl⟩, trivial⟩)
  refine AWP.skip (qS (qR (q1 (rLp [pI x2.gKind, pS x2.gName, aType x2.gArgs 0] sh27) (q1 (rSu sz27) (qN (AWP.ret ?_))))))
  obtain rfl : _ = r := (smI H :)
  exact qe1 (st' := ⟨[some ⟨99, dC d4⟩], [⟨27, 3, GType.trs (x2.gArgs), false⟩]⟩) ⟨0, rfl, rfl, rfl⟩ (hr := ⟨⟨_, _, _, rfl, rfl, sh27, rfl, rfl⟩, trivial⟩)

def sl4Int_T (m : Option GType) : Prop := ∀  (r : GType), m  = some r → AFun Try.prog 52 [] ((GType.pv r) : PV)
def sl4Int_M (fu : Nat) : Option GType :=
 bd (sl4Con_M fu s_int ([])) (fun x2 =>
 some x2)
theorem sl4Int_ok (fu : Nat)   : sl4Int_T (sl4Int_M fu) := by
  intro  r H
  have H := hd0 H
  refine qI Try.func52 (fun C hC => ?_)
  refine qS (qR (q1 (rAl zr27) (qN (qS (qR (bdE H fun x2 z1 H => (q1 (rCf Try.func53 (sl4Con_pl (sl4Con_ok fu) s_int ([]) _ z1)) (q1 (rSu sz27) (qN (AWP.ret ?_))))))))))
  obtain rfl : _ = r := (smI H :)
  exact qe1 (hr := ⟨⟨_, _, _, rfl, rfl, sh27, rfl, rfl⟩, trivial⟩)

def sl4Bool_T (m : Option GType) : Prop := ∀  (r : GType), m  = some r → AFun Try.prog 66 [] ((GType.pv r) : PV)
def sl4Bool_M (fu : Nat) : Option GType :=
 bd (sl4Con_M fu s_bool ([])) (fun x2 =>
 some x2)
theorem sl4Bool_ok (fu : Nat)   : sl4Bool_T (sl4Bool_M fu) := by
  intro  r H
  have H := hd0 H
  refine qI Try.func66 (fun C hC => ?_)
  refine qS (qR (q1 (rAl zr27) (qN (qS (qR (bdE H fun x2 z1 H => (q1 (rCf Try.func53 (sl4Con_pl (sl4Con_ok fu) s_bool ([]) _ z1)) (q1 (rSu sz27) (qN (AWP.ret ?_))))))))))
  obtain rfl : _ = r := (smI H :)
  exact qe1 (hr := ⟨⟨_, _, _, rfl, rfl, sh27, rfl, rfl⟩, trivial⟩)

def sl4Bent_T (m : DS → Option (GType × DS)) : Prop := ∀ (pc : DS) (r : GType × DS), m pc = some r → ACalls Try.prog 30 [.ptr 0 0] ⟨[some ⟨99, dC pc⟩], []⟩ (fun q t => q = ((GType.pv r.1) : PV) ∧ t = ⟨[some ⟨99, dC r.2⟩], []⟩)
def sl4Bent_F1 (fu : Nat) (pc : DS) (x2 : GType) (x3 d4 : DS) : Nat → (Int × ByteArray × (List GType)) → Option (LR (Int × ByteArray × (List GType)) (GType × DS)) :=
 fun i21 (v22, v23, v24) => bd (sl4Con_M fu s_list ([(GType.mk v22 v23 v24)] : List GType)) (fun x27 =>
 some (.next (x27.gKind, x27.gName, x27.gArgs)))
def sl4Bent_R1 (fu : Nat) (pc : DS) (x2 : GType) (x3 d4 : DS) : Option ((GType × DS) ⊕ (Int × ByteArray × (List GType))) :=
 loopN (sl4Bent_F1 fu pc x2 x3 d4) (6 - 0) 0 (x2.gKind, x2.gName, x2.gArgs)
def sl4Bent_M (fu : Nat) (pc : DS) : Option (GType × DS) :=
 bd (sl4Free_M fu pc 3) (fun (x2, x3) =>
 lt (x3.after 12) (fun d4 =>
 sw (decide ((((x3.below 12 : Nat) : Int) : Int) = 0))
 (lt (d4.after 7) (fun d7 =>
 some ((GType.mk (wrap64 (((d4.below 7 : Nat) : Int) - 1)) x2.gName x2.gArgs), d7)))
 (sw (decide ((((x3.below 12 : Nat) : Int) : Int) = 1))
 (lt (d4.after ([s_, s_int, s_A, s_assoc, s_abcdefghi] : List ByteArray).length) (fun d10 =>
 lt (d4.pick ([s_, s_int, s_A, s_assoc, s_abcdefghi] : List ByteArray)) (fun y12 =>
 some ((GType.mk x2.gKind y12 x2.gArgs), d10))))
 (sw (decide ((((x3.below 12 : Nat) : Int) : Int) = 2))
 (bd (sl4Int_M fu) (fun x16 =>
 bd (sl4Bool_M fu) (fun x18 =>
 gd ((x2.gArgs).length + (([x16, x18, x16] : List GType)).length ≤ 68719476736)
 (some ((GType.mk x2.gKind x2.gName (x2.gArgs ++ ([x16, x18, x16] : List GType))), d4)))))
 (sw (decide ((((x3.below 12 : Nat) : Int) : Int) = 3))
 (so (sl4Bent_R1 fu pc x2 x3 d4) (fun (v22, v23, v24) =>
 some ((GType.mk v22 v23 v24), d4)))
 (some ((GType.mk x2.gKind x2.gName x2.gArgs), d4)))))))
theorem sl4Bent_ok (fu : Nat)   : sl4Bent_T (sl4Bent_M fu) := by
  intro pc r H
  have H := hd0 H
  refine qI Try.func30 (fun C hC => ?_)
  refine qS (qR (q1 (rAl zr27) (qN (qS (qR (q1 rMv (bdE2 H fun x2 x3 z1 H => (q1 (AOp.callOwn (pre := ⟨[some ⟨99, dC pc⟩], []⟩) (B := [some ⟨99, dC x3⟩]) (R := fun k => .agg [pI x2.gKind, pS x2.gName, aType x2.gArgs k]) (ps := [_, _]) (qs := [.ptr 0 0, pI 3]) [0] rfl rfl Try.func57 (by kernel_rfl) rfl rfl rfl (Part0.of ⟨⟨_, rfl, rfl, leA, rfl⟩, trivial⟩ trivial (by decide) (by decide)) rfl leA rfl rfl rfl (fun k k' => (.agg (.cons (.free _ rfl) (.cons (.free _ rfl) (.cons Mv.acc MvL.nil))))) (sl4Free_ok fu pc 3 _ z1)) (q1 (rAl zr27) (q1 (rSu sz27) (qN ?_)))))))))))
  iterate 2 refine qS ?_
  refine qR (q1 rMv (ltQ H fun d4 h5 H => (q1 (rCp [0] [] Try.func51 (nmD h5 (below_ok x3 12))) (qN (AWP.block (qS (qR (q1 rEq (q1 rMv (qN ?_))))))))))
  refine cndB H (fun h6 H => ?_) (fun h6 H => ?_)
  · refine qR (q1 rMv (ltQ H fun d7 h8 H => (q1 (rCp [0] [] Try.func51 (nmD h8 (below_ok d4 7))) (q1 rSw (q1 (rFp fo27_0) (q1 (rSu sz3) (qN (qS (qR (q1 (rLp [pI (wrap64 (((d4.below 7 : Nat) : Int) - 1)), pS x2.gName, aType x2.gArgs 0] sh27) (q1 (rSu sz27) (qN (AWP.ret ?_)))))))))))))
    obtain rfl : _ = r := (smI H :)
    exact qe1 (hr := ⟨⟨_, _, _, rfl, rfl, sh27, rfl, rfl⟩, trivial⟩)
  refine qS (qR (q1 rEq (q1 rMv (qN ?_))))
  refine cndB H (fun h9 H => ?_) (fun h9 H => ?_)
  · refine qR (q1 rMv (q1 (rBs ([s_, s_int, s_A, s_assoc, s_abcdefghi] : List ByteArray) el24 zr9) (ltQ H fun d10 h11 H => (ltQ H fun y12 h13 H => (q1 (rCp [0] [] Try.func49 (nmP h11 h13 (pick_ok d4 ([s_, s_int, s_A, s_assoc, s_abcdefghi] : List ByteArray) (by decide)))) (q1 (rFp fo27_1) (q1 (rSu sz9) (qN (qS (qR (q1 (rLp [pI x2.gKind, pS y12, aType x2.gArgs 0] sh27) (q1 (rSu sz27) (qN ?_)))))))))))))
    refine AWP.ret ?_
    obtain rfl : _ = r := (smI H :)
    exact qe1 (hr := ⟨⟨_, _, _, rfl, rfl, sh27, rfl, rfl⟩, trivial⟩)
  refine qS (qR (q1 rEq (q1 rMv (qN ?_))))
  refine cndB H (fun h14 H => ?_) (fun h14 H => ?_)
  · refine bdE H fun x16 z15 H => (bdE H fun x18 z17 H => (gdE H fun z19 H => (dW (dI [3] (rFp fo27_2) (dD [23] (rL1 sh25) (dI [] (rCf Try.func52 (sl4Int_ok fu  _ z15)) (dI [] (rCf Try.func66 (sl4Bool_ok fu  _ z17)) (dI [] (rCf Try.func52 (sl4Int_ok fu  _ z15)) (dI [25, 26, 27] (rBs ([x16, x18, x16] : List GType) el25 zr27) (dE [24, 28] (rAp z19 el25 ze25) (dI [3] (rFp fo27_2) (dE0 [30, 29] (rSu sz25) (dN ?_)))))))))))))
    refine qS (qR (q1 (rLp [pI x2.gKind, pS x2.gName, aType (x2.gArgs ++ ([x16, x18, x16] : List GType)) 0] sh27) (q1 (rSu sz27) (qN (AWP.ret ?_)))))
    obtain rfl : _ = r := (smI H :)
    exact qe1 (hr := ⟨⟨_, _, _, rfl, rfl, sh27, rfl, rfl⟩, trivial⟩)
  refine qS (qR (q1 rEq (q1 rMv (qN ?_))))
  refine cndB H (fun h20 H => ?_) (fun h20 H => ?_)
  · refine qS (qR (q1 rMv (qN ?_)))
    refine loopB (σ := Int × ByteArray × (List GType)) (fun i21 (v22, v23, v24) => ⟨[(2, .ptr 1 0), (3, .ptr 2 0), (4, pN i21)], ⟨[some ⟨99, dC d4⟩, some ⟨27, [pI 0, pS s_, .nil]⟩, some ⟨27, [pI v22, pS v23, rType v24]⟩], [⟨27, 3, GType.trs (x2.gArgs), false⟩]⟩⟩) (fun (v22, v23, v24) => ⟨[(2, .ptr 1 0), (3, .ptr 2 0)], ⟨[some ⟨99, dC d4⟩, some ⟨27, [pI 0, pS s_, .nil]⟩, some ⟨27, [pI v22, pS v23, rType v24]⟩], [⟨27, 3, GType.trs (x2.gArgs), false⟩]⟩⟩) (soI H) ?_ ?_
    · rintro i21 ⟨v22, v23, v24⟩ H
      iterate 2 refine qS ?_
      refine qR (q1 rMv (q1 rLt (qN ?_)))
      refine cndL H (fun h25 h25l H => ?_) (fun h25 H => ?_)
      · have h25n : i21 < 6 := by have := of_decide_eq_true h25; omega
        refine AWP.skip (qS (AWP.block (qR (q1 (rLp [pI v22, pS v23, rType v24] sh27) (q1 (rBs ([(GType.mk v22 v23 v24)] : List GType) el25 zr27) (bdE H fun x27 z26 H => (q1 (AOp.callOwn (pre := ⟨[], []⟩) (B := []) (R := fun k => .agg [pI x27.gKind, pS x27.gName, aType x27.gArgs k]) (ps := [_, _]) (qs := [pS s_list, rType ([(GType.mk v22 v23 v24)] : List GType)]) [] rfl rfl Try.func53 (by kernel_rfl) rfl rfl rfl (Part0.of trivial trivial (by decide) (by decide)) rfl leA rfl rfl rfl (fun k k' => (.agg (.cons (.free _ rfl) (.cons (.free _ rfl) (.cons Mv.acc MvL.nil))))) (sl4Con_ok fu s_list ([(GType.mk v22 v23 v24)] : List GType) _ z26)) (q1 (rSu sz27) (qN (qR (q1 rMv (q1 (AOp.addI rfl rfl rfl rfl (c := ((i21 + 1 : Nat) : Int)) (by omega) (by omega)) (q1 rMv ?_)))))))))))))
        refine qN ?_; exact lpN h25l ⟨_, (smI H :), wkA⟩
      refine AWP.exit ?_; exact lpX ⟨_, H, wkA⟩
    rintro ⟨v22, v23, v24⟩ H
    refine qS (qR (q1 (rLp [pI v22, pS v23, rType v24] sh27) (q1 (rSu sz27) (qN (AWP.ret ?_)))))
    obtain rfl : _ = r := (smI H :)
    exact qe1 (hr := ⟨⟨_, _, _, rfl, rfl, sh27, rfl, rfl⟩, trivial⟩)
  refine AWP.skip (qS (qR (q1 (rLp [pI x2.gKind, pS x2.gName, aType x2.gArgs 0] sh27) (q1 (rSu sz27) (qN (AWP.ret ?_))))))
  obtain rfl : _ = r := (smI H :)
  exact qe1 (hr := ⟨⟨_, _, _, rfl, rfl, sh27, rfl, rfl⟩, trivial⟩)

def sl11Var_T (m : ByteArray → Option GExpr) : Prop := ∀ (ps : ByteArray) (r : GExpr), m ps = some r → AFun Try.prog 93 [pS ps] ((GExpr.pv r) : PV)
def sl11Var_M (fu : Nat) (ps : ByteArray) : Option GExpr :=
 some (GExpr.mk 3 s_ ps 0 (GType.mk 0 s_ []) [] [])
theorem sl11Var_ok (fu : Nat)   : sl11Var_T (sl11Var_M fu) := by
  intro ps r H
  have H := hd0 H
  refine qI Try.func93 (fun C hC => ?_)
  refine qS (qR (q1 (rAl zr86) (qN (qS (qR (q1 rMv (q1 (rBd zr86 pl86) (q1 (rSu sz86) (qN (AWP.ret ?_))))))))))
  obtain rfl : _ = r := (smI H :)
  exact qe1 (hr := ⟨⟨_, _, _, rfl, rfl, sh86, rfl, rfl⟩, trivial⟩)

def sl11Int_T (m : Int → Option GExpr) : Prop := ∀ (pn : Int) (r : GExpr), m pn = some r → AFun Try.prog 50 [pI pn] ((GExpr.pv r) : PV)
def sl11Int_M (fu : Nat) (pn : Int) : Option GExpr :=
 some (GExpr.mk 1 s_ s_ pn (GType.mk 0 s_ []) [] [])
theorem sl11Int_ok (fu : Nat)   : sl11Int_T (sl11Int_M fu) := by
  intro pn r H
  have H := hd0 H
  refine qI Try.func50 (fun C hC => ?_)
  refine qS (qR (q1 (rAl zr86) (qN (qS (qR (q1 rMv (q1 (rBd zr86 pl86) (q1 (rSu sz86) (qN (AWP.ret ?_))))))))))
  obtain rfl : _ = r := (smI H :)
  exact qe1 (hr := ⟨⟨_, _, _, rfl, rfl, sh86, rfl, rfl⟩, trivial⟩)

def sl11Op_T (m : Int → ByteArray → (List GExpr) → Option GExpr) : Prop := ∀ (pk : Int) (pname : ByteArray) (pargs : List GExpr) (r : GExpr), m pk pname pargs = some r → AFun Try.prog 94 [pI pk, pS pname, rExpr pargs] ((GExpr.pv r) : PV)
def sl11Op_M (fu : Nat) (pk : Int) (pname : ByteArray) (pargs : List GExpr) : Option GExpr :=
 gd (([] : List GExpr).length + (pargs).length ≤ 68719476736)
 (some (GExpr.mk pk s_ pname 0 (GType.mk 0 s_ []) (([]) ++ pargs) []))
theorem sl11Op_ok (fu : Nat)   : sl11Op_T (sl11Op_M fu) := by
  intro pk pname pargs r H
  have H := hd0 H
  refine qI Try.func94 (fun C hC => ?_)
  refine qS (qR (q1 (rAl zr86) (qN (qS (qR ?_)))))
  iterate 2 refine q1 rMv ?_
  refine q1 (rBa ([] : List GExpr) el83 zr86) (q1 rMv (gdE H fun z1 H => (q1 (rAp z1 el83 ze83) (q1 (rBd zr86 pl86) (q1 (rSu sz86) (qN (AWP.ret ?_)))))))
  obtain rfl : _ = r := (smI H :)
  exact qe1 (hr := ⟨⟨_, _, _, rfl, rfl, sh86, rfl, rfl⟩, trivial⟩)

abbrev sl11Expr_Y := DS → (List ByteArray) → Int → Option (GExpr × DS)
def sl11Expr_T (m : sl11Expr_Y) : Prop := ∀ (pq0 : DS) (pa1 : List ByteArray) (pString : Int) (r : GExpr × DS), m pq0 pa1 pString = some r → ACalls Try.prog 58 [.ptr 0 0, rS pa1, pI pString] ⟨[some ⟨99, dC pq0⟩], []⟩ (fun q t => q = ((GExpr.pv r.1) : PV) ∧ t = ⟨[some ⟨99, dC r.2⟩], []⟩)
def sl11Expr_C1 (fu : Nat) (r_sl11Expr : sl11Expr_Y) (pq0 : DS) (pa1 : List ByteArray) (pString : Int) (d1 : DS) : Option ((GExpr × DS) ⊕ Int) :=
 sw (decide ((pString : Int) ≤ 0))
 (some (.inr (((pq0.below 13) % 3 : Nat) : Int)))
 (some (.inr ((pq0.below 13 : Nat) : Int)))
def sl11Expr_C2 (fu : Nat) (r_sl11Expr : sl11Expr_Y) (pq0 : DS) (pa1 : List ByteArray) (pString : Int) (d1 : DS) (v3 : Int) : Option ((GExpr × DS) ⊕ Bool) :=
 sw (decide ((v3 : Int) = 2))
 (some (.inr (decide ((v3 : Int) = 2))))
 (some (.inr (decide ((v3 : Int) = 3))))
def sl11Expr_G (fu : Nat) (r_sl11Expr : sl11Expr_Y) (pq0 : DS) (pa1 : List ByteArray) (pString : Int) : Option (GExpr × DS) :=
 lt (pq0.after 13) (fun d1 =>
 so (sl11Expr_C1 fu r_sl11Expr pq0 pa1 pString d1) (fun v3 =>
 sw (decide ((v3 : Int) = 1))
 (lt (d1.after 2) (fun d6 =>
 some ((GExpr.mk 2 s_ s_ ((d1.below 2 : Nat) : Int) (GType.mk 0 s_ []) [] []), d6)))
 (so (sl11Expr_C2 fu r_sl11Expr pq0 pa1 pString d1 v3) (fun v8 =>
 sw (v8)
 (sw (decide ((((pa1.length : Nat) : Int) : Int) > 0))
 (gd (0 < (pa1).length)
 (lt (d1.after pa1.length) (fun d13 =>
 lt (d1.pick pa1) (fun y15 =>
 bd (sl11Var_M fu y15) (fun x18 =>
 some (x18, d13))))))
 (lt (d1.after 20) (fun d19 =>
 bd (sl11Int_M fu (wrap64 (((d1.below 20 : Nat) : Int) - 5))) (fun x22 =>
 some (x22, d19)))))
 (sw (decide ((v3 : Int) = 4))
 (lt (d1.after ([s_f, s_g] : List ByteArray).length) (fun d24 =>
 lt (d1.pick ([s_f, s_g] : List ByteArray)) (fun y26 =>
 bd (r_sl11Expr d24 pa1 (wrap64 (pString - 1))) (fun (x29, x30) =>
 bd (sl11Op_M fu 4 y26 ([x29] : List GExpr)) (fun x32 =>
 some (x32, x30))))))
 (sw (decide ((v3 : Int) = 5))
 (lt (d1.after ([s_show, s_add] : List ByteArray).length) (fun d34 =>
 lt (d1.pick ([s_show, s_add] : List ByteArray)) (fun y36 =>
 bd (r_sl11Expr d34 pa1 (wrap64 (pString - 1))) (fun (x39, x40) =>
 bd (r_sl11Expr x40 pa1 (wrap64 (pString - 1))) (fun (x42, x43) =>
 some ((GExpr.mk 5 y36 s_m 0 (GType.mk 0 s_ []) ([x39, x42] : List GExpr) []), x43))))))
 (sw (decide ((v3 : Int) = 6))
 (bd (r_sl11Expr d1 pa1 (wrap64 (pString - 1))) (fun (x46, x47) =>
 bd (r_sl11Expr x47 pa1 (wrap64 (pString - 1))) (fun (x49, x50) =>
 bd (sl11Op_M fu 6 s_cons ([x46, x49] : List GExpr)) (fun x52 =>
 some (x52, x50)))))
 (sw (decide ((v3 : Int) = 7))
 (gd (([] : List ByteArray).length + (pa1).length ≤ 68719476736)
 (gd ((([]) ++ pa1).length + (([s_h, s_t] : List ByteArray)).length ≤ 68719476736)
 (bd (r_sl11Expr d1 pa1 (wrap64 (pString - 1))) (fun (x57, x58) =>
 bd (r_sl11Expr x58 pa1 (wrap64 (pString - 1))) (fun (x60, x61) =>
 bd (r_sl11Expr x61 ((([]) ++ pa1) ++ ([s_h, s_t] : List ByteArray)) (wrap64 (pString - 1))) (fun (x63, x64) =>
 some ((GExpr.mk 7 s_ s_ 0 (GType.mk 0 s_ []) ([x57] : List GExpr) ([(GArm.mk s_nil [] x60), (GArm.mk s_cons ([s_h, s_t] : List ByteArray) x63)] : List GArm)), x64)))))))
 (sw (decide ((v3 : Int) = 8))
 (bd (r_sl11Expr d1 pa1 (wrap64 (pString - 1))) (fun (x67, x68) =>
 gd (([] : List ByteArray).length + (pa1).length ≤ 68719476736)
 (gd ((([]) ++ pa1).length + (([s_y] : List ByteArray)).length ≤ 68719476736)
 (bd (r_sl11Expr x68 ((([]) ++ pa1) ++ ([s_y] : List ByteArray)) (wrap64 (pString - 1))) (fun (x72, x73) =>
 bd (sl11Op_M fu 8 s_y ([x67, x72] : List GExpr)) (fun x75 =>
 some (x75, x73)))))))
 (sw (decide ((v3 : Int) = 9))
 (bd (r_sl11Expr d1 pa1 (wrap64 (pString - 1))) (fun (x78, x79) =>
 bd (r_sl11Expr x79 pa1 (wrap64 (pString - 1))) (fun (x81, x82) =>
 bd (r_sl11Expr x82 pa1 (wrap64 (pString - 1))) (fun (x84, x85) =>
 bd (sl11Op_M fu 9 s_ ([x78, x81, x84] : List GExpr)) (fun x87 =>
 some (x87, x85))))))
 (sw (decide ((v3 : Int) = 10))
 (lt (d1.after ([x_2b, x_2d, x_2a, x_3c, x_3d] : List ByteArray).length) (fun d89 =>
 lt (d1.pick ([x_2b, x_2d, x_2a, x_3c, x_3d] : List ByteArray)) (fun y91 =>
 bd (r_sl11Expr d89 pa1 (wrap64 (pString - 1))) (fun (x94, x95) =>
 bd (r_sl11Expr x95 pa1 (wrap64 (pString - 1))) (fun (x97, x98) =>
 bd (sl11Op_M fu 10 y91 ([x94, x97] : List GExpr)) (fun x100 =>
 some (x100, x98)))))))
 (sw (decide ((v3 : Int) = 11))
 (bd (r_sl11Expr d1 pa1 (wrap64 (pString - 1))) (fun (x103, x104) =>
 some ((GExpr.mk 11 s_show s_ 0 (GType.mk 0 s_ []) ([x103] : List GExpr) []), x104)))
 (sw (decide ((v3 : Int) = 12))
 (bd (sl4Ty_M fu d1 ([s_a] : List ByteArray) 1) (fun (x107, x108) =>
 bd (r_sl11Expr x108 pa1 (wrap64 (pString - 1))) (fun (x110, x111) =>
 some ((GExpr.mk 12 s_ s_ 0 x107 ([x110] : List GExpr) []), x111))))
 (lt (d1.after 20) (fun d112 =>
 bd (sl11Int_M fu (wrap64 (((d1.below 20 : Nat) : Int) - 5))) (fun x115 =>
 some (x115, d112)))))))))))))))))
theorem sl11Expr_step (fu : Nat) (r_sl11Expr : sl11Expr_Y) (h_sl11Expr : sl11Expr_T r_sl11Expr) : sl11Expr_T (sl11Expr_G fu r_sl11Expr) := by
  intro pq0 pa1 pString r H
  have H := hd0 H
  refine qI Try.func58 (fun C hC => ?_)
  refine qS (qR (q1 (rAl zr86) (qN (qS (qR (q1 rMv (ltQ H fun d1 h2 H => (q1 (rCp [0] [] Try.func51 (nmD h2 (below_ok pq0 13))) (q1 rMv (qN (qS ?_)))))))))))
  refine cutB (σ := Int) (fun v3 => ⟨[(0, .ptr 0 0), (1, rS pa1), (2, pI pString), (6, .ptr 1 0), (7, pI v3)], ⟨[some ⟨99, dC d1⟩, some ⟨86, [pI 0, pS s_, pS s_, pI 0, pI 0, pS s_, .nil, .nil, .nil]⟩], []⟩⟩) (soI H) (fun H => ?_) ?_
  · refine qS (qR (q1 rMv (q1 rLe (qN ?_))))
    refine cndB H (fun h4 H => ?_) (fun h4 H => ?_)
    · refine qR (q1 rMv ?_)
      refine q1 (AOp.remN (a := pq0.below 13) (b := 3) rfl rfl rfl rfl (by have := DS.below_lt (d := pq0) (n := 13) (by decide); omega) (by have := DS.below_lt (d := pq0) (n := 13) (by decide); omega)) ?_; refine q1 rMv (qN ?_)
      exact cutX ⟨_, (smI H :), wkA⟩
    refine AWP.skip ?_; exact cutX ⟨_, (smI H :), wkA⟩
  rintro v3 H
  iterate 2 refine qS ?_
  refine qR (q1 rMv (qN (AWP.block (qS (qR (q1 rEq (q1 rMv (qN ?_))))))))
  refine cndB H (fun h5 H => ?_) (fun h5 H => ?_)
  · refine qS (qR (q1 rMv (ltQ H fun d6 h7 H => (q1 (rCp [0] [] Try.func51 (nmD h7 (below_ok d1 2))) (q1 (rBd zr86 pl86) (q1 (rSu sz86) (qN (AWP.ret ?_))))))))
    obtain rfl : _ = r := (smI H :)
    exact qe1 (hr := ⟨⟨_, _, _, rfl, rfl, sh86, rfl, rfl⟩, trivial⟩)
  refine qS ?_; refine cutB (σ := Bool) (fun v8 => ⟨[(0, .ptr 0 0), (1, rS pa1), (2, pI pString), (6, .ptr 1 0), (15, pI v3), (21, pB v8)], ⟨[some ⟨99, dC d1⟩, some ⟨86, [pI 0, pS s_, pS s_, pI 0, pI 0, pS s_, .nil, .nil, .nil]⟩], []⟩⟩) (soI H) (fun H => ?_) ?_
  · refine qS (qR (q1 rEq (q1 rMv (qN ?_))))
    refine cndB H (fun h9 H => ?_) (fun h9 H => ?_)
    · refine AWP.skip ?_; exact cutX ⟨_, (smI H :), wkA⟩
    refine qR (q1 rEq (q1 rMv (qN ?_)))
    exact cutX ⟨_, (smI H :), wkA⟩
  rintro v8 H
  refine cndB H (fun h10 H => ?_) (fun h10 H => ?_)
  · refine qS (qR (q1 rMv (q1 (rLn el24 (strTrs_len _)) (q1 rGt (qN ?_)))))
    refine cndB H (fun h11 H => ?_) (fun h11 H => ?_)
    · refine qS (qR ?_)
      iterate 2 refine q1 rMv ?_
      refine gdE H fun z12 H => (ltQ H fun d13 h14 H => (ltQ H fun y15 h16 H => (q1 (rCp [0] [] Try.func49 (nmP h14 h16 (pick_ok d1 pa1 z12))) (bdE H fun x18 z17 H => (q1 (rCf Try.func93 (sl11Var_ok fu y15 _ z17)) (q1 (rSu sz86) (qN (AWP.ret ?_))))))))
      obtain rfl : _ = r := (smI H :)
      exact qe1 (hr := ⟨⟨_, _, _, rfl, rfl, sh86, rfl, rfl⟩, trivial⟩)
    refine AWP.skip (qS (qR (q1 rMv (ltQ H fun d19 h20 H => (q1 (rCp [0] [] Try.func51 (nmD h20 (below_ok d1 20))) (q1 rSw (bdE H fun x22 z21 H => (q1 (rCf Try.func50 (sl11Int_ok fu (wrap64 (((d1.below 20 : Nat) : Int) - 5)) _ z21)) (q1 (rSu sz86) (qN (AWP.ret ?_)))))))))))
    obtain rfl : _ = r := (smI H :)
    exact qe1 (hr := ⟨⟨_, _, _, rfl, rfl, sh86, rfl, rfl⟩, trivial⟩)
  refine qS (qR (q1 rEq (q1 rMv (qN ?_))))
  refine cndB H (fun h23 H => ?_) (fun h23 H => ?_)
  · refine qS (qR (q1 rMv (q1 (rBs ([s_f, s_g] : List ByteArray) el24 zr9) (ltQ H fun d24 h25 H => (ltQ H fun y26 h27 H => (q1 (rCp [0] [] Try.func49 (nmP h25 h27 (pick_ok d1 ([s_f, s_g] : List ByteArray) (by decide)))) ?_))))))
    iterate 3 refine q1 rMv ?_
    refine q1 rSw (bdE2 H fun x29 x30 z28 H => (q1 (rCp [0] [] Try.func58 (h_sl11Expr d24 pa1 (wrap64 (pString - 1)) _ z28)) (q1 (rBs ([x29] : List GExpr) el83 zr86) (bdE H fun x32 z31 H => (q1 (rCf Try.func94 (sl11Op_ok fu 4 y26 ([x29] : List GExpr) _ z31)) (q1 (rSu sz86) (qN (AWP.ret ?_))))))))
    obtain rfl : _ = r := (smI H :)
    exact qe1 (hr := ⟨⟨_, _, _, rfl, rfl, sh86, rfl, rfl⟩, trivial⟩)
  refine qS (qR (q1 rEq (q1 rMv (qN ?_))))
  refine cndB H (fun h33 H => ?_) (fun h33 H => ?_)
  · refine qS (qR (q1 rMv (q1 (rBs ([s_show, s_add] : List ByteArray) el24 zr9) (ltQ H fun d34 h35 H => (ltQ H fun y36 h37 H => (q1 (rCp [0] [] Try.func49 (nmP h35 h37 (pick_ok d1 ([s_show, s_add] : List ByteArray) (by decide)))) ?_))))))
    iterate 3 refine q1 rMv ?_
    refine q1 rSw (bdE2 H fun x39 x40 z38 H => (q1 (rCp [0] [] Try.func58 (h_sl11Expr d34 pa1 (wrap64 (pString - 1)) _ z38)) ?_))
    iterate 3 refine q1 rMv ?_
    refine q1 rSw (bdE2 H fun x42 x43 z41 H => (q1 (rCp [0] [] Try.func58 (h_sl11Expr x40 pa1 (wrap64 (pString - 1)) _ z41)) (q1 (rBs ([x39, x42] : List GExpr) el83 zr86) (q1 (rBd zr86 pl86) (q1 (rSu sz86) (qN (AWP.ret ?_)))))))
    obtain rfl : _ = r := (smI H :)
    exact qe1 (hr := ⟨⟨_, _, _, rfl, rfl, sh86, rfl, rfl⟩, trivial⟩)
  refine qS (qR (q1 rEq (q1 rMv (qN ?_))))
  refine cndB H (fun h44 H => ?_) (fun h44 H => ?_)
  · refine qS (qR ?_)
    iterate 3 refine q1 rMv ?_
    refine q1 rSw (bdE2 H fun x46 x47 z45 H => (q1 (rCp [0] [] Try.func58 (h_sl11Expr d1 pa1 (wrap64 (pString - 1)) _ z45)) ?_))
    iterate 3 refine q1 rMv ?_
    refine q1 rSw (bdE2 H fun x49 x50 z48 H => (q1 (rCp [0] [] Try.func58 (h_sl11Expr x47 pa1 (wrap64 (pString - 1)) _ z48)) (q1 (rBs ([x46, x49] : List GExpr) el83 zr86) (bdE H fun x52 z51 H => (q1 (rCf Try.func94 (sl11Op_ok fu 6 s_cons ([x46, x49] : List GExpr) _ z51)) (q1 (rSu sz86) (qN (AWP.ret ?_))))))))
    obtain rfl : _ = r := (smI H :)
    exact qe1 (hr := ⟨⟨_, _, _, rfl, rfl, sh86, rfl, rfl⟩, trivial⟩)
  refine qS (qR (q1 rEq (q1 rMv (qN ?_))))
  refine cndB H (fun h53 H => ?_) (fun h53 H => ?_)
  · refine qS (qR (q1 (rBa ([] : List ByteArray) el24 zr9) (q1 rMv (gdE H fun z54 H => (q1 (rAp z54 el24 ze24) (q1 (rBs ([s_h, s_t] : List ByteArray) el24 zr9) (gdE H fun z55 H => (q1 (rAp z55 el24 ze24) (q1 rMv (qN (qS (qR ?_))))))))))))
    iterate 3 refine q1 rMv ?_
    refine q1 rSw (bdE2 H fun x57 x58 z56 H => (q1 (rCp [0] [] Try.func58 (h_sl11Expr d1 pa1 (wrap64 (pString - 1)) _ z56)) (q1 (rBs ([x57] : List GExpr) el83 zr86) ?_)))
    iterate 3 refine q1 rMv ?_
    refine q1 rSw (bdE2 H fun x60 x61 z59 H => (q1 (rCp [0] [] Try.func58 (h_sl11Expr x58 pa1 (wrap64 (pString - 1)) _ z59)) (q1 (rBd zr133 pl133) (q1 (rBs ([s_h, s_t] : List ByteArray) el24 zr9) ?_))))
    iterate 3 refine q1 rMv ?_
    refine q1 rSw (bdE2 H fun x63 x64 z62 H => (q1 (rCp [0] [] Try.func58 (h_sl11Expr x61 ((([]) ++ pa1) ++ ([s_h, s_t] : List ByteArray)) (wrap64 (pString - 1)) _ z62)) (q1 (rBd zr133 pl133) (q1 (rBs ([(GArm.mk s_nil [] x60), (GArm.mk s_cons ([s_h, s_t] : List ByteArray) x63)] : List GArm) el84 zr133) (q1 (rBd zr86 pl86) (q1 (rSu sz86) (qN (AWP.ret ?_))))))))
    obtain rfl : _ = r := (smI H :)
    exact qe1 (hr := ⟨⟨_, _, _, rfl, rfl, sh86, rfl, rfl⟩, trivial⟩)
  refine qS (qR (q1 rEq (q1 rMv (qN ?_))))
  refine cndB H (fun h65 H => ?_) (fun h65 H => ?_)
  · refine qS (qR ?_)
    iterate 3 refine q1 rMv ?_
    refine q1 rSw (bdE2 H fun x67 x68 z66 H => (q1 (rCp [0] [] Try.func58 (h_sl11Expr d1 pa1 (wrap64 (pString - 1)) _ z66)) (q1 rMv (q1 (rBa ([] : List ByteArray) el24 zr9) (q1 rMv (gdE H fun z69 H => (q1 (rAp z69 el24 ze24) (q1 (rBs ([s_y] : List ByteArray) el24 zr9) (gdE H fun z70 H => (q1 (rAp z70 el24 ze24) (q1 rMv (q1 rSw (bdE2 H fun x72 x73 z71 H => ?_)))))))))))))
    refine q1 (rCp [0] [] Try.func58 (h_sl11Expr x68 ((([]) ++ pa1) ++ ([s_y] : List ByteArray)) (wrap64 (pString - 1)) _ z71)) (q1 (rBs ([x67, x72] : List GExpr) el83 zr86) (bdE H fun x75 z74 H => (q1 (rCf Try.func94 (sl11Op_ok fu 8 s_y ([x67, x72] : List GExpr) _ z74)) (q1 (rSu sz86) (qN (AWP.ret ?_))))))
    obtain rfl : _ = r := (smI H :)
    exact qe1 (hr := ⟨⟨_, _, _, rfl, rfl, sh86, rfl, rfl⟩, trivial⟩)
  refine qS (qR (q1 rEq (q1 rMv (qN ?_))))
  refine cndB H (fun h76 H => ?_) (fun h76 H => ?_)
  · refine qS (qR ?_)
    iterate 3 refine q1 rMv ?_
    refine q1 rSw (bdE2 H fun x78 x79 z77 H => (q1 (rCp [0] [] Try.func58 (h_sl11Expr d1 pa1 (wrap64 (pString - 1)) _ z77)) ?_))
    iterate 3 refine q1 rMv ?_
    refine q1 rSw (bdE2 H fun x81 x82 z80 H => (q1 (rCp [0] [] Try.func58 (h_sl11Expr x79 pa1 (wrap64 (pString - 1)) _ z80)) ?_))
    iterate 3 refine q1 rMv ?_
    refine q1 rSw (bdE2 H fun x84 x85 z83 H => (q1 (rCp [0] [] Try.func58 (h_sl11Expr x82 pa1 (wrap64 (pString - 1)) _ z83)) (q1 (rBs ([x78, x81, x84] : List GExpr) el83 zr86) (bdE H fun x87 z86 H => (q1 (rCf Try.func94 (sl11Op_ok fu 9 s_ ([x78, x81, x84] : List GExpr) _ z86)) (q1 (rSu sz86) (qN (AWP.ret ?_))))))))
    obtain rfl : _ = r := (smI H :)
    exact qe1 (hr := ⟨⟨_, _, _, rfl, rfl, sh86, rfl, rfl⟩, trivial⟩)
  refine qS (qR (q1 rEq (q1 rMv (qN ?_))))
  refine cndB H (fun h88 H => ?_) (fun h88 H => ?_)
  · refine qS (qR (q1 rMv (q1 (rBs ([x_2b, x_2d, x_2a, x_3c, x_3d] : List ByteArray) el24 zr9) (ltQ H fun d89 h90 H => (ltQ H fun y91 h92 H => (q1 (rCp [0] [] Try.func49 (nmP h90 h92 (pick_ok d1 ([x_2b, x_2d, x_2a, x_3c, x_3d] : List ByteArray) (by decide)))) ?_))))))
    iterate 3 refine q1 rMv ?_
    refine q1 rSw (bdE2 H fun x94 x95 z93 H => (q1 (rCp [0] [] Try.func58 (h_sl11Expr d89 pa1 (wrap64 (pString - 1)) _ z93)) ?_))
    iterate 3 refine q1 rMv ?_
    refine q1 rSw (bdE2 H fun x97 x98 z96 H => (q1 (rCp [0] [] Try.func58 (h_sl11Expr x95 pa1 (wrap64 (pString - 1)) _ z96)) (q1 (rBs ([x94, x97] : List GExpr) el83 zr86) (bdE H fun x100 z99 H => (q1 (rCf Try.func94 (sl11Op_ok fu 10 y91 ([x94, x97] : List GExpr) _ z99)) (q1 (rSu sz86) (qN (AWP.ret ?_))))))))
    obtain rfl : _ = r := (smI H :)
    exact qe1 (hr := ⟨⟨_, _, _, rfl, rfl, sh86, rfl, rfl⟩, trivial⟩)
  refine qS (qR (q1 rEq (q1 rMv (qN ?_))))
  refine cndB H (fun h101 H => ?_) (fun h101 H => ?_)
  · refine qS (qR ?_)
    iterate 3 refine q1 rMv ?_
    refine q1 rSw (bdE2 H fun x103 x104 z102 H => (q1 (rCp [0] [] Try.func58 (h_sl11Expr d1 pa1 (wrap64 (pString - 1)) _ z102)) (q1 (rBs ([x103] : List GExpr) el83 zr86) (q1 (rBd zr86 pl86) (q1 (rSu sz86) (qN (AWP.ret ?_)))))))
    obtain rfl : _ = r := (smI H :)
    exact qe1 (hr := ⟨⟨_, _, _, rfl, rfl, sh86, rfl, rfl⟩, trivial⟩)
  refine qS (qR (q1 rEq (q1 rMv (qN ?_))))
  refine cndB H (fun h105 H => ?_) (fun h105 H => ?_)
  · refine qS (qR (q1 rMv (q1 (rBs ([s_a] : List ByteArray) el24 zr9) (bdE2 H fun x107 x108 z106 H => (q1 (rCp [0] [] Try.func56 (sl4Ty_pl (sl4Ty_ok fu) d1 ([s_a] : List ByteArray) 1 _ z106)) ?_)))))
    iterate 3 refine q1 rMv ?_
    refine q1 rSw (bdE2 H fun x110 x111 z109 H => (q1 (rCp [0] [] Try.func58 (h_sl11Expr x108 pa1 (wrap64 (pString - 1)) _ z109)) (q1 (rBs ([x110] : List GExpr) el83 zr86) (q1 (rBd zr86 pl86) (q1 (rSu sz86) (qN (AWP.ret ?_)))))))
    obtain rfl : _ = r := (smI H :)
    exact qe1 (hr := ⟨⟨_, _, _, rfl, rfl, sh86, rfl, rfl⟩, trivial⟩)
  refine AWP.skip (qS (qR (q1 rMv (ltQ H fun d112 h113 H => (q1 (rCp [0] [] Try.func51 (nmD h113 (below_ok d1 20))) (q1 rSw (bdE H fun x115 z114 H => (q1 (rCf Try.func50 (sl11Int_ok fu (wrap64 (((d1.below 20 : Nat) : Int) - 5)) _ z114)) (q1 (rSu sz86) (qN (AWP.ret ?_)))))))))))
  obtain rfl : _ = r := (smI H :)
  exact qe1 (hr := ⟨⟨_, _, _, rfl, rfl, sh86, rfl, rfl⟩, trivial⟩)
def sl11Expr_M : Nat → DS → (List ByteArray) → Int → Option (GExpr × DS)
  | 0, _, _, _ => none
  | fu + 1, pq0, pa1, pString => sl11Expr_G fu (sl11Expr_M fu) pq0 pa1 pString
theorem sl11Expr_all (fu : Nat) : sl11Expr_T (sl11Expr_M fu) := by
  induction fu with
  | zero => exact (fun pq0 pa1 pString r H => by simp only [sl11Expr_M] at H; cases H)
  | succ fu ih => exact (fun pq0 pa1 pString r H => by simp only [sl11Expr_M] at H; exact sl11Expr_step fu (sl11Expr_M fu) ih pq0 pa1 pString r H)
theorem sl11Expr_ok (fu : Nat) : sl11Expr_T (sl11Expr_M fu) := (sl11Expr_all fu)

def sl13Inst_T (m : DS → Option (GInstance × DS)) : Prop := ∀ (pq0 : DS) (r : GInstance × DS), m pq0 = some r → ACalls Try.prog 23 [.ptr 0 0] ⟨[some ⟨99, dC pq0⟩], []⟩ (fun q t => q = ((GInstance.pv r.1) : PV) ∧ t = ⟨[some ⟨99, dC r.2⟩], []⟩)
def sl13Inst_C1 (fu : Nat) (pq0 d1 : DS) (y3 : ByteArray) (d5 : DS) (x8 : GExpr) : Option ((GInstance × DS) ⊕ ((List ByteArray) × Int × ByteArray × (List GType) × (List GBound) × DS)) :=
 lt (d5.after 4) (fun d15 =>
 sw (decide ((((d5.below 4 : Nat) : Int) : Int) = 0))
 (bd (sl4Int_M fu) (fun x19 =>
 some (.inr ([], x19.gKind, x19.gName, x19.gArgs, [], d15))))
 (sw (decide ((((d5.below 4 : Nat) : Int) : Int) = 1))
 (bd (sl4Var_M fu s_a) (fun x22 =>
 bd (sl4Con_M fu s_list ([x22] : List GType)) (fun x24 =>
 some (.inr (([s_a] : List ByteArray), x24.gKind, x24.gName, x24.gArgs, ([(GBound.mk y3 x22)] : List GBound), d15)))))
 (sw (decide ((((d5.below 4 : Nat) : Int) : Int) = 2))
 (bd (sl4Var_M fu s_a) (fun x27 =>
 bd (sl4Var_M fu s_b) (fun x29 =>
 bd (sl4Con_M fu s_pair ([x27, x29] : List GType)) (fun x31 =>
 some (.inr (([s_a, s_b] : List ByteArray), x31.gKind, x31.gName, x31.gArgs, [], d15))))))
 (bd (sl4Var_M fu s_a) (fun x33 =>
 some (.inr (([s_a] : List ByteArray), x33.gKind, x33.gName, x33.gArgs, ([(GBound.mk s_ord x33)] : List GBound), d15)))))))
def sl13Inst_C2 (fu : Nat) (pq0 d1 : DS) (y3 : ByteArray) (d5 : DS) (x8 : GExpr) (v9 : List ByteArray) (v10 : Int) (v11 : ByteArray) (v12 : List GType) (v13 : List GBound) (v14 : DS) : Option ((GInstance × DS) ⊕ ((List GType) × Bool × Int × ByteArray × DS)) :=
 lt (v14.after 3) (fun d39 =>
 sw (decide (v14.below 3 = 0))
 (bd (sl4Ty_M fu d39 v9 1) (fun (x43, x44) =>
 some (.inr (x43.gArgs, true, x43.gKind, x43.gName, x44))))
 (some (.inr ([], false, 0, s_, d39))))
def sl13Inst_M (fu : Nat) (pq0 : DS) : Option (GInstance × DS) :=
 lt (pq0.after ([s_show, s_eq, s_add] : List ByteArray).length) (fun d1 =>
 lt (pq0.pick ([s_show, s_eq, s_add] : List ByteArray)) (fun y3 =>
 lt (d1.after 9) (fun d5 =>
 bd (sl11Int_M fu ((d1.below 9 : Nat) : Int)) (fun x8 =>
 so (sl13Inst_C1 fu pq0 d1 y3 d5 x8) (fun (v9, v10, v11, v12, v13, v14) =>
 so (sl13Inst_C2 fu pq0 d1 y3 d5 x8 v9 v10 v11 v12 v13 v14) (fun (v38, v35, v36, v37, v34) =>
 lt (v34.after 4) (fun d45 =>
 lt (d45.after 12) (fun d47 =>
 sw (decide ((((d45.below 12 : Nat) : Int) : Int) = 0))
 (bd (sl4Free_M fu d47 2) (fun (x51, x52) =>
 some ((GInstance.mk y3 v9 x51 v13 (decide (v34.below 4 = 0)) v35 (GType.mk v36 v37 v38) ([(GMethod.mk s_m ([s_x] : List ByteArray) x8)] : List GMethod)), x52)))
 (sw (decide ((((d45.below 12 : Nat) : Int) : Int) = 1))
 (lt (d47.after ([s_a, s_c] : List ByteArray).length) (fun d54 =>
 lt (d47.pick ([s_a, s_c] : List ByteArray)) (fun y56 =>
 gd ((v9).length + (([y56] : List ByteArray)).length ≤ 68719476736)
 (some ((GInstance.mk y3 (v9 ++ ([y56] : List ByteArray)) (GType.mk v10 v11 v12) v13 (decide (v34.below 4 = 0)) v35 (GType.mk v36 v37 v38) ([(GMethod.mk s_m ([s_x] : List ByteArray) x8)] : List GMethod)), d54)))))
 (sw (decide ((((d45.below 12 : Nat) : Int) : Int) = 2))
 (bd (sl4Free_M fu d47 1) (fun (x61, x62) =>
 gd ((v13).length + (([(GBound.mk s_eq x61)] : List GBound)).length ≤ 68719476736)
 (some ((GInstance.mk y3 v9 (GType.mk v10 v11 v12) (v13 ++ ([(GBound.mk s_eq x61)] : List GBound)) (decide (v34.below 4 = 0)) v35 (GType.mk v36 v37 v38) ([(GMethod.mk s_m ([s_x] : List ByteArray) x8)] : List GMethod)), x62))))
 (sw (decide ((((d45.below 12 : Nat) : Int) : Int) = 3))
 (bd (sl11Expr_M fu d47 ([s_x, s_y] : List ByteArray) 2) (fun (x66, x67) =>
 some ((GInstance.mk y3 v9 (GType.mk v10 v11 v12) v13 (decide (v34.below 4 = 0)) v35 (GType.mk v36 v37 v38) ([(GMethod.mk s_m ([s_x] : List ByteArray) x66)] : List GMethod)), x67)))
 (sw (decide ((((d45.below 12 : Nat) : Int) : Int) = 4))
 (bd (sl4Int_M fu) (fun x70 =>
 some ((GInstance.mk y3 v9 (GType.mk v10 v11 v12) v13 (decide (v34.below 4 = 0)) v35 x70 ([(GMethod.mk s_m ([s_x] : List ByteArray) x8)] : List GMethod)), d47)))
 (sw (decide ((((d45.below 12 : Nat) : Int) : Int) = 5))
 (some ((GInstance.mk y3 v9 (GType.mk v10 v11 v12) v13 (decide (v34.below 4 = 0)) v35 (GType.mk v36 v37 v38) ([(GMethod.mk s_m ([]) x8)] : List GMethod)), d47))
 (some ((GInstance.mk y3 v9 (GType.mk v10 v11 v12) v13 (decide (v34.below 4 = 0)) v35 (GType.mk v36 v37 v38) ([(GMethod.mk s_m ([s_x] : List ByteArray) x8)] : List GMethod)), d47)))))))))))))))
theorem sl13Inst_ok (fu : Nat)   : sl13Inst_T (sl13Inst_M fu) := by
  intro pq0 r H
  have H := hd0 H
  refine qI Try.func23 (fun C hC => ?_)
  refine qS (qR (q1 (rAl zr31) (qN (qS (qR (q1 rMv (q1 (rBl ([s_show, s_eq, s_add] : List ByteArray) el24 zr9) (ltQ H fun d1 h2 H => (ltQ H fun y3 h4 H => (q1 (rCp [0] [] Try.func49 (nmP h2 h4 (pick_ok pq0 ([s_show, s_eq, s_add] : List ByteArray) (by decide)))) (q1 (rBl ([s_x] : List ByteArray) el24 zr9) (q1 rMv (ltQ H fun d5 h6 H => ?_)))))))))))))
  refine q1 (rCp [0] [] Try.func51 (nmD h6 (below_ok d1 9))) (bdE H fun x8 z7 H => (q1 (rCf Try.func50 (sl11Int_ok fu ((d1.below 9 : Nat) : Int) _ z7)) (q1 (rBd zr90 pl90) (q1 (AOp.buildSliceB (cs := [pS s_m, .lit 1 (strTrs (([s_x] : List ByteArray))), pI x8.gKind, pS x8.gTrait, pS x8.gName, pI x8.gN, pI x8.gType.gKind, pS x8.gType.gName, rType x8.gType.gArgs, rExpr x8.gArgs, rArm x8.gArms]) rfl rfl el29 zr90 rfl rfl rfl (by decide) rfl (by decide)) (q1 (rBd zr31 pl31) (q1 (rAl zr31) (q1 (rSu sz31) (qN (qS ?_)))))))))
  refine cutB (σ := (List ByteArray) × Int × ByteArray × (List GType) × (List GBound) × DS) (fun (v9, v10, v11, v12, v13, v14) => ⟨[(0, .ptr 0 0), (2, .ptr 1 0), (3, .ptr 3 0)], ⟨[some ⟨99, dC v14⟩, some ⟨31, [pS s_, .nil, pI 0, pS s_, .nil, .nil, pB false, pB false, pI 0, pS s_, .nil, .nil]⟩, some ⟨90, [pS s_m, .lit 1 (strTrs (([s_x] : List ByteArray))), pI x8.gKind, pS x8.gTrait, pS x8.gName, pI x8.gN, pI x8.gType.gKind, pS x8.gType.gName, rType x8.gType.gArgs, rExpr x8.gArgs, rArm x8.gArms]⟩, some ⟨31, [pS y3, .lit 1 (strTrs (v9)), pI v10, pS v11, rType v12, .lit 4 (GBound.trs (v13)), pB false, pB false, pI 0, pS s_, .nil, .bsl 2 1]⟩], []⟩⟩) (soI H) (fun H => ?_) ?_
  · refine qS (qR (q1 rMv (ltQ H fun d15 h16 H => (q1 (rCp [0] [] Try.func51 (nmD h16 (below_ok d5 4))) (qN (AWP.block (qS (qR (q1 rEq (q1 rMv (qN ?_)))))))))))
    refine cndB H (fun h17 H => ?_) (fun h17 H => ?_)
    · refine qR (bdE H fun x19 z18 H => (q1 (rCf Try.func52 (sl4Int_ok fu  _ z18)) (q1 (rFp fo31_2) (q1 (rSu sz27) (qN ?_)))))
      exact cutX ⟨_, (smI H :), wkA⟩
    refine qS (qR (q1 rEq (q1 rMv (qN ?_))))
    refine cndB H (fun h20 H => ?_) (fun h20 H => ?_)
    · refine qS (qR (q1 (rBl ([s_a] : List ByteArray) el24 zr9) (q1 (rFp fo31_1) (q1 (rSu sz24) (qN (qS (qR (bdE H fun x22 z21 H => (q1 (rCf Try.func54 (sl4Var_pl (sl4Var_ok fu) s_a _ z21)) (q1 (rBl ([x22] : List GType) el25 zr27) (bdE H fun x24 z23 H => (q1 (rCf Try.func53 (sl4Con_pl (sl4Con_ok fu) s_list ([x22] : List GType) _ z23)) (q1 (rFp fo31_2) ?_)))))))))))))
      refine q1 (rSu sz27) (qN (dW (dI [3] (rFp fo31_0) (dD [36] (rL1 sh9) (dI [] (rCf Try.func54 (sl4Var_pl (sl4Var_ok fu) s_a _ z21)) (dI [37, 38] (rBd zr41 pl41) (dI [39] (rBl ([(GBound.mk y3 x22)] : List GBound) el28 zr41) (dI [3] (rFp fo31_3) (dE0 [41, 40] (rSu sz28) (dN ?_))))))))))
      exact cutX ⟨_, (smI H :), wkA⟩
    refine qS (qR (q1 rEq (q1 rMv (qN ?_))))
    refine cndB H (fun h25 H => ?_) (fun h25 H => ?_)
    · refine qS (qR (q1 (rBl ([s_a, s_b] : List ByteArray) el24 zr9) (q1 (rFp fo31_1) (q1 (rSu sz24) (qN (qR (bdE H fun x27 z26 H => (q1 (rCf Try.func54 (sl4Var_pl (sl4Var_ok fu) s_a _ z26)) (bdE H fun x29 z28 H => (q1 (rCf Try.func54 (sl4Var_pl (sl4Var_ok fu) s_b _ z28)) (q1 (rBl ([x27, x29] : List GType) el25 zr27) (bdE H fun x31 z30 H => (q1 (rCf Try.func53 (sl4Con_pl (sl4Con_ok fu) s_pair ([x27, x29] : List GType) _ z30)) ?_)))))))))))))
      refine q1 (rFp fo31_2) (q1 (rSu sz27) (qN ?_))
      exact cutX ⟨_, (smI H :), wkA⟩
    refine qS (qR (q1 (rBl ([s_a] : List ByteArray) el24 zr9) (q1 (rFp fo31_1) (q1 (rSu sz24) (qN (qS (qR (bdE H fun x33 z32 H => (q1 (rCf Try.func54 (sl4Var_pl (sl4Var_ok fu) s_a _ z32)) (q1 (rFp fo31_2) (q1 (rSu sz27) (qN (qR ?_)))))))))))))
    refine q1 (rCf Try.func54 (sl4Var_pl (sl4Var_ok fu) s_a _ z32)) (q1 (rBd zr41 pl41) (q1 (rBl ([(GBound.mk s_ord x33)] : List GBound) el28 zr41) (q1 (rFp fo31_3) (q1 (rSu sz28) (qN ?_)))))
    exact cutX ⟨_, (smI H :), wkA⟩
  rintro ⟨v9, v10, v11, v12, v13, v14⟩ H
  refine qS ?_; refine cutB (σ := (List GType) × Bool × Int × ByteArray × DS) (fun (v38, v35, v36, v37, v34) => ⟨[(0, .ptr 0 0), (2, .ptr 1 0), (3, .ptr 3 0)], ⟨[some ⟨99, dC v34⟩, some ⟨31, [pS s_, .nil, pI 0, pS s_, .nil, .nil, pB false, pB false, pI 0, pS s_, .nil, .nil]⟩, some ⟨90, [pS s_m, .lit 1 (strTrs (([s_x] : List ByteArray))), pI x8.gKind, pS x8.gTrait, pS x8.gName, pI x8.gN, pI x8.gType.gKind, pS x8.gType.gName, rType x8.gType.gArgs, rExpr x8.gArgs, rArm x8.gArms]⟩, some ⟨31, [pS y3, .lit 1 (strTrs (v9)), pI v10, pS v11, rType v12, .lit 4 (GBound.trs (v13)), pB false, pB v35, pI v36, pS v37, rType v38, .bsl 2 1]⟩], []⟩⟩) (soI H) (fun H => ?_) ?_
  · refine qS (qR (q1 rMv (ltQ H fun d39 h40 H => (q1 (rCp [0] [] Try.func55 (nmD h40 (once_ok v14 3))) (qN ?_)))))
    refine cndB H (fun h41 H => ?_) (fun h41 H => ?_)
    · refine qS (qR (q1 (rFp fo31_5) (q1 (rSu sz4) (qN (qR (q1 rMv (q1 (rFp fo31_1) (q1 (rL1 sh24) (bdE2 H fun x43 x44 z42 H => (q1 (rCp [0] [] Try.func56 (sl4Ty_pl (sl4Ty_ok fu) d39 v9 1 _ z42)) (q1 (rFp fo31_6) (q1 (rSu sz27) (qN ?_)))))))))))))
      exact cutX ⟨_, (smI H :), wkA⟩
    refine AWP.skip ?_; exact cutX ⟨_, (smI H :), wkA⟩
  rintro ⟨v38, v35, v36, v37, v34⟩ H
  refine qS (qR (q1 rMv (ltQ H fun d45 h46 H => (q1 (rCp [0] [] Try.func55 (nmD h46 (once_ok v34 4))) (q1 (rFp fo31_4) (q1 (rSu sz4) (qN ?_)))))))
  iterate 2 refine qS ?_
  refine qR (q1 rMv (ltQ H fun d47 h48 H => (q1 (rCp [0] [] Try.func51 (nmD h48 (below_ok d45 12))) (qN (AWP.block (qS (qR (q1 rEq (q1 rMv (qN ?_))))))))))
  refine cndB H (fun h49 H => ?_) (fun h49 H => ?_)
  · refine qR (q1 rMv (bdE2 H fun x51 x52 z50 H => (q1 (rCp [0] [] Try.func57 (sl4Free_pl (sl4Free_ok fu) d47 2 _ z50)) (q1 (rFp fo31_2) (q1 (rSu sz27) (qN (qS (qR ?_))))))))
    refine AL.weak (Wk.freezeE (k := 2) (sz := 11) (es := [GMethod.cs (GMethod.mk s_m ([s_x] : List ByteArray) x8)]) (es' := GMethod.trs (([(GMethod.mk s_m ([s_x] : List ByteArray) x8)] : List GMethod))) (s' := ⟨[(0, .ptr 0 0), (2, .ptr 1 0), (3, .ptr 3 0), (63, pN (d45.below 12))], ⟨[some ⟨99, dC x52⟩, some ⟨31, [pS s_, .nil, pI 0, pS s_, .nil, .nil, pB false, pB false, pI 0, pS s_, .nil, .nil]⟩, none, some ⟨31, [pS y3, .lit 1 (strTrs (v9)), pI x51.gKind, pS x51.gName, rType x51.gArgs, .lit 4 (GBound.trs (v13)), pB (decide (v34.below 4 = 0)), pB v35, pI v36, pS v37, rType v38, rMethod ([(GMethod.mk s_m ([s_x] : List ByteArray) x8)] : List GMethod)]⟩], []⟩⟩) (by simp [GMethod.trs_map, GMethod.tr_cs]) rfl leA (by simp [GMethod.cs]) (Nat.le_of_ble_eq_true rfl) ⟨⟨rfl, fleA, rfl⟩, ⟨⟨rfl, fleA, rfl⟩, ⟨⟨rfl, fleA, rfl⟩, trivial⟩⟩⟩ rfl rfl (keeps_all hC (boxes1 rfl) (Nat.le_of_ble_eq_true rfl)) (by repeat' first | exact trivial | refine ⟨⟨_, rfl, fleA, rfl⟩, ?_⟩)) ?_; refine q1 (rLp [pS y3, .lit 1 (strTrs (v9)), pI x51.gKind, pS x51.gName, rType x51.gArgs, .lit 4 (GBound.trs (v13)), pB (decide (v34.below 4 = 0)), pB v35, pI v36, pS v37, rType v38, rMethod ([(GMethod.mk s_m ([s_x] : List ByteArray) x8)] : List GMethod)] sh31) (q1 (rSu sz31) (qN (AWP.ret ?_)))
    obtain rfl : _ = r := (smI H :)
    exact qe1 (hr := ⟨⟨_, _, _, rfl, rfl, sh31, rfl, rfl⟩, trivial⟩)
  refine qS (qR (q1 rEq (q1 rMv (qN ?_))))
  refine cndB H (fun h53 H => ?_) (fun h53 H => ?_)
  · refine ltQ H fun d54 h55 H => (ltQ H fun y56 h57 H => (gdE H fun z58 H => (dW (dI [3] (rFp fo31_1) (dB [71] 0 1 (vL1 sh24) (dI [0] rMv (dI [] (rBl ([s_a, s_c] : List ByteArray) el24 zr9) (dE [73, 74] (rCp [0] [] Try.func49 (nmP h55 h57 (pick_ok d47 ([s_a, s_c] : List ByteArray) (by decide)))) (dI [75] (rBl ([y56] : List ByteArray) el24 zr9) ?_)))))))))
    refine dI [72, 76] (AOp.appendLit (es1 := strTrs (v9)) (es2 := strTrs (([y56] : List ByteArray))) (es3 := strTrs (v9 ++ ([y56] : List ByteArray))) rfl rfl rfl rfl rfl (strTrs_all _) (strTrs_all _) (by exact List.cons_ne_nil _ _) (by decide) el24 ze24 (by decide) (by rw [strTrs_len, strTrs_len]; exact room_le z58 (by decide)) (strTrs_append _ _)) ?_; refine dI [3] (rFp fo31_1) (dE0 [78, 77] (rSu sz24) (dN (qS (qR ?_))))
    refine AL.weak (Wk.freezeE (k := 2) (sz := 11) (es := [GMethod.cs (GMethod.mk s_m ([s_x] : List ByteArray) x8)]) (es' := GMethod.trs (([(GMethod.mk s_m ([s_x] : List ByteArray) x8)] : List GMethod))) (s' := ⟨[(0, .ptr 0 0), (2, .ptr 1 0), (3, .ptr 3 0), (63, pN (d45.below 12))], ⟨[some ⟨99, dC d54⟩, some ⟨31, [pS s_, .nil, pI 0, pS s_, .nil, .nil, pB false, pB false, pI 0, pS s_, .nil, .nil]⟩, none, some ⟨31, [pS y3, rS (v9 ++ ([y56] : List ByteArray)), pI v10, pS v11, rType v12, .lit 4 (GBound.trs (v13)), pB (decide (v34.below 4 = 0)), pB v35, pI v36, pS v37, rType v38, rMethod ([(GMethod.mk s_m ([s_x] : List ByteArray) x8)] : List GMethod)]⟩], []⟩⟩) (by simp [GMethod.trs_map, GMethod.tr_cs]) rfl leA (by simp [GMethod.cs]) (Nat.le_of_ble_eq_true rfl) ⟨⟨rfl, fleA, rfl⟩, ⟨⟨rfl, fleA, rfl⟩, ⟨⟨rfl, fleA, rfl⟩, trivial⟩⟩⟩ rfl rfl (keeps_all hC (boxes1 rfl) (Nat.le_of_ble_eq_true rfl)) (by repeat' first | exact trivial | refine ⟨⟨_, rfl, fleA, rfl⟩, ?_⟩)) ?_; refine q1 (rLp [pS y3, rS (v9 ++ ([y56] : List ByteArray)), pI v10, pS v11, rType v12, .lit 4 (GBound.trs (v13)), pB (decide (v34.below 4 = 0)), pB v35, pI v36, pS v37, rType v38, rMethod ([(GMethod.mk s_m ([s_x] : List ByteArray) x8)] : List GMethod)] sh31) (q1 (rSu sz31) (qN (AWP.ret ?_)))
    obtain rfl : _ = r := (smI H :)
    exact qe1 (hr := ⟨⟨_, _, _, rfl, rfl, sh31, rfl, rfl⟩, trivial⟩)
  refine qS (qR (q1 rEq (q1 rMv (qN ?_))))
  refine cndB H (fun h59 H => ?_) (fun h59 H => ?_)
  · refine bdE2 H fun x61 x62 z60 H => (gdE H fun z63 H => (dW (dI [3] (rFp fo31_3) (dB [81] 0 1 (vL1 sh28) (dI [0] rMv (dE [83] (rCp [0] [] Try.func57 (sl4Free_pl (sl4Free_ok fu) d47 1 _ z60)) (dI [84] (rBd zr41 pl41) (dI [85] (rBl ([(GBound.mk s_eq x61)] : List GBound) el28 zr41) ?_))))))))
    refine dI [82, 86] (AOp.appendLit (es1 := GBound.trs (v13)) (es2 := GBound.trs (([(GBound.mk s_eq x61)] : List GBound))) (es3 := GBound.trs (v13 ++ ([(GBound.mk s_eq x61)] : List GBound))) rfl rfl rfl rfl rfl (fun e he => by rw [GBound.trs_map] at he; obtain ⟨x, _, rfl⟩ := List.mem_map.1 he; rw [GBound.tr_cs]; rfl) (fun e he => by rw [GBound.trs_map] at he; obtain ⟨x, _, rfl⟩ := List.mem_map.1 he; rw [GBound.tr_cs]; rfl) (by rw [GBound.trs_map]; exact List.cons_ne_nil _ _) (by decide) el28 ze28 (by decide) (by rw [GBound.trs_len, GBound.trs_len]; exact room_le z63 (by decide)) (by rw [GBound.trs_map, GBound.trs_map, GBound.trs_map, List.map_append])) ?_; refine dI [3] (rFp fo31_3) (dE0 [88, 87] (rSu sz28) (dN (qS (qR ?_))))
    refine AL.weak (Wk.freezeE (k := 2) (sz := 11) (es := [GMethod.cs (GMethod.mk s_m ([s_x] : List ByteArray) x8)]) (es' := GMethod.trs (([(GMethod.mk s_m ([s_x] : List ByteArray) x8)] : List GMethod))) (s' := ⟨[(0, .ptr 0 0), (2, .ptr 1 0), (3, .ptr 3 0), (63, pN (d45.below 12))], ⟨[some ⟨99, dC x62⟩, some ⟨31, [pS s_, .nil, pI 0, pS s_, .nil, .nil, pB false, pB false, pI 0, pS s_, .nil, .nil]⟩, none, some ⟨31, [pS y3, .lit 1 (strTrs (v9)), pI v10, pS v11, rType v12, rBound (v13 ++ ([(GBound.mk s_eq x61)] : List GBound)), pB (decide (v34.below 4 = 0)), pB v35, pI v36, pS v37, rType v38, rMethod ([(GMethod.mk s_m ([s_x] : List ByteArray) x8)] : List GMethod)]⟩], []⟩⟩) (by simp [GMethod.trs_map, GMethod.tr_cs]) rfl leA (by simp [GMethod.cs]) (Nat.le_of_ble_eq_true rfl) ⟨⟨rfl, fleA, rfl⟩, ⟨⟨rfl, fleA, rfl⟩, ⟨⟨rfl, fleA, rfl⟩, trivial⟩⟩⟩ rfl rfl (keeps_all hC (boxes1 rfl) (Nat.le_of_ble_eq_true rfl)) (by repeat' first | exact trivial | refine ⟨⟨_, rfl, fleA, rfl⟩, ?_⟩)) ?_; refine q1 (rLp [pS y3, .lit 1 (strTrs (v9)), pI v10, pS v11, rType v12, rBound (v13 ++ ([(GBound.mk s_eq x61)] : List GBound)), pB (decide (v34.below 4 = 0)), pB v35, pI v36, pS v37, rType v38, rMethod ([(GMethod.mk s_m ([s_x] : List ByteArray) x8)] : List GMethod)] sh31) (q1 (rSu sz31) (qN (AWP.ret ?_)))
    obtain rfl : _ = r := (smI H :)
    exact qe1 (hr := ⟨⟨_, _, _, rfl, rfl, sh31, rfl, rfl⟩, trivial⟩)
  refine qS (qR (q1 rEq (q1 rMv (qN ?_))))
  refine cndB H (fun h64 H => ?_) (fun h64 H => ?_)
  · refine bdE2 H fun x66 x67 z65 H => (dW (dI [3] (rFp fo31_7) (dB [91] 0 1 (vL1 sh29) (dI [0] rMv (dI [] (rBl ([s_x, s_y] : List ByteArray) el24 zr9) (dE [93, 94] (rCp [0] [] Try.func58 (sl11Expr_ok fu d47 ([s_x, s_y] : List ByteArray) 2 _ z65)) (dI [92] (AOp.indexB (sz := 11) (k := 2) (N := 1) (i := 0) rfl rfl rfl rfl (by decide) el29) (dI [96] (rFp fo90_2) (dE0 [97, 95] (rSu sz86) (dN (qS (qR ?_))))))))))))
    refine AL.weak (Wk.freezeE (k := 2) (sz := 11) (es := [GMethod.cs (GMethod.mk s_m ([s_x] : List ByteArray) x66)]) (es' := GMethod.trs (([(GMethod.mk s_m ([s_x] : List ByteArray) x66)] : List GMethod))) (s' := ⟨[(0, .ptr 0 0), (2, .ptr 1 0), (3, .ptr 3 0), (63, pN (d45.below 12))], ⟨[some ⟨99, dC x67⟩, some ⟨31, [pS s_, .nil, pI 0, pS s_, .nil, .nil, pB false, pB false, pI 0, pS s_, .nil, .nil]⟩, none, some ⟨31, [pS y3, .lit 1 (strTrs (v9)), pI v10, pS v11, rType v12, .lit 4 (GBound.trs (v13)), pB (decide (v34.below 4 = 0)), pB v35, pI v36, pS v37, rType v38, rMethod ([(GMethod.mk s_m ([s_x] : List ByteArray) x66)] : List GMethod)]⟩], []⟩⟩) (by simp [GMethod.trs_map, GMethod.tr_cs]) rfl leA (by simp [GMethod.cs]) (Nat.le_of_ble_eq_true rfl) ⟨⟨rfl, fleA, rfl⟩, ⟨⟨rfl, fleA, rfl⟩, ⟨⟨rfl, fleA, rfl⟩, trivial⟩⟩⟩ rfl rfl (keeps_all hC (boxes1 rfl) (Nat.le_of_ble_eq_true rfl)) (by repeat' first | exact trivial | refine ⟨⟨_, rfl, fleA, rfl⟩, ?_⟩)) ?_; refine q1 (rLp [pS y3, .lit 1 (strTrs (v9)), pI v10, pS v11, rType v12, .lit 4 (GBound.trs (v13)), pB (decide (v34.below 4 = 0)), pB v35, pI v36, pS v37, rType v38, rMethod ([(GMethod.mk s_m ([s_x] : List ByteArray) x66)] : List GMethod)] sh31) (q1 (rSu sz31) (qN (AWP.ret ?_)))
    obtain rfl : _ = r := (smI H :)
    exact qe1 (hr := ⟨⟨_, _, _, rfl, rfl, sh31, rfl, rfl⟩, trivial⟩)
  refine qS (qR (q1 rEq (q1 rMv (qN ?_))))
  refine cndB H (fun h68 H => ?_) (fun h68 H => ?_)
  · refine qR (bdE H fun x70 z69 H => (q1 (rCf Try.func52 (sl4Int_ok fu  _ z69)) (q1 (rFp fo31_6) (q1 (rSu sz27) (qN (qS (qR ?_)))))))
    refine AL.weak (Wk.freezeE (k := 2) (sz := 11) (es := [GMethod.cs (GMethod.mk s_m ([s_x] : List ByteArray) x8)]) (es' := GMethod.trs (([(GMethod.mk s_m ([s_x] : List ByteArray) x8)] : List GMethod))) (s' := ⟨[(0, .ptr 0 0), (2, .ptr 1 0), (3, .ptr 3 0), (63, pN (d45.below 12))], ⟨[some ⟨99, dC d47⟩, some ⟨31, [pS s_, .nil, pI 0, pS s_, .nil, .nil, pB false, pB false, pI 0, pS s_, .nil, .nil]⟩, none, some ⟨31, [pS y3, .lit 1 (strTrs (v9)), pI v10, pS v11, rType v12, .lit 4 (GBound.trs (v13)), pB (decide (v34.below 4 = 0)), pB v35, pI x70.gKind, pS x70.gName, rType x70.gArgs, rMethod ([(GMethod.mk s_m ([s_x] : List ByteArray) x8)] : List GMethod)]⟩], []⟩⟩) (by simp [GMethod.trs_map, GMethod.tr_cs]) rfl leA (by simp [GMethod.cs]) (Nat.le_of_ble_eq_true rfl) ⟨⟨rfl, fleA, rfl⟩, ⟨⟨rfl, fleA, rfl⟩, ⟨⟨rfl, fleA, rfl⟩, trivial⟩⟩⟩ rfl rfl (keeps_all hC (boxes1 rfl) (Nat.le_of_ble_eq_true rfl)) (by repeat' first | exact trivial | refine ⟨⟨_, rfl, fleA, rfl⟩, ?_⟩)) ?_; refine q1 (rLp [pS y3, .lit 1 (strTrs (v9)), pI v10, pS v11, rType v12, .lit 4 (GBound.trs (v13)), pB (decide (v34.below 4 = 0)), pB v35, pI x70.gKind, pS x70.gName, rType x70.gArgs, rMethod ([(GMethod.mk s_m ([s_x] : List ByteArray) x8)] : List GMethod)] sh31) (q1 (rSu sz31) (qN (AWP.ret ?_)))
    obtain rfl : _ = r := (smI H :)
    exact qe1 (hr := ⟨⟨_, _, _, rfl, rfl, sh31, rfl, rfl⟩, trivial⟩)
  refine qS (qR (q1 rEq (q1 rMv (qN ?_))))
  refine cndB H (fun h71 H => ?_) (fun h71 H => ?_)
  · refine qR (q1 (rFp fo31_7) (q1 (rL1 sh29) (q1 (rBl ([] : List ByteArray) el24 zr9) (q1 (AOp.indexB (sz := 11) (k := 2) (N := 1) (i := 0) rfl rfl rfl rfl (by decide) el29) (q1 (rFp fo90_1) (q1 (rSu sz24) (qN (qS (qR ?_)))))))))
    refine AL.weak (Wk.freezeE (k := 2) (sz := 11) (es := [GMethod.cs (GMethod.mk s_m ([]) x8)]) (es' := GMethod.trs (([(GMethod.mk s_m ([]) x8)] : List GMethod))) (s' := ⟨[(0, .ptr 0 0), (2, .ptr 1 0), (3, .ptr 3 0), (63, pN (d45.below 12))], ⟨[some ⟨99, dC d47⟩, some ⟨31, [pS s_, .nil, pI 0, pS s_, .nil, .nil, pB false, pB false, pI 0, pS s_, .nil, .nil]⟩, none, some ⟨31, [pS y3, .lit 1 (strTrs (v9)), pI v10, pS v11, rType v12, .lit 4 (GBound.trs (v13)), pB (decide (v34.below 4 = 0)), pB v35, pI v36, pS v37, rType v38, rMethod ([(GMethod.mk s_m ([]) x8)] : List GMethod)]⟩], []⟩⟩) (by simp [GMethod.trs_map, GMethod.tr_cs]) rfl leA (by simp [GMethod.cs]) (Nat.le_of_ble_eq_true rfl) ⟨⟨rfl, fleA, rfl⟩, ⟨⟨rfl, fleA, rfl⟩, ⟨⟨rfl, fleA, rfl⟩, trivial⟩⟩⟩ rfl rfl (keeps_all hC (boxes1 rfl) (Nat.le_of_ble_eq_true rfl)) (by repeat' first | exact trivial | refine ⟨⟨_, rfl, fleA, rfl⟩, ?_⟩)) ?_; refine q1 (rLp [pS y3, .lit 1 (strTrs (v9)), pI v10, pS v11, rType v12, .lit 4 (GBound.trs (v13)), pB (decide (v34.below 4 = 0)), pB v35, pI v36, pS v37, rType v38, rMethod ([(GMethod.mk s_m ([]) x8)] : List GMethod)] sh31) (q1 (rSu sz31) (qN (AWP.ret ?_)))
    obtain rfl : _ = r := (smI H :)
    exact qe1 (hr := ⟨⟨_, _, _, rfl, rfl, sh31, rfl, rfl⟩, trivial⟩)
  refine AWP.skip (qS (qR ?_))
  refine AL.weak (Wk.freezeE (k := 2) (sz := 11) (es := [GMethod.cs (GMethod.mk s_m ([s_x] : List ByteArray) x8)]) (es' := GMethod.trs (([(GMethod.mk s_m ([s_x] : List ByteArray) x8)] : List GMethod))) (s' := ⟨[(0, .ptr 0 0), (2, .ptr 1 0), (3, .ptr 3 0), (63, pN (d45.below 12))], ⟨[some ⟨99, dC d47⟩, some ⟨31, [pS s_, .nil, pI 0, pS s_, .nil, .nil, pB false, pB false, pI 0, pS s_, .nil, .nil]⟩, none, some ⟨31, [pS y3, .lit 1 (strTrs (v9)), pI v10, pS v11, rType v12, .lit 4 (GBound.trs (v13)), pB (decide (v34.below 4 = 0)), pB v35, pI v36, pS v37, rType v38, rMethod ([(GMethod.mk s_m ([s_x] : List ByteArray) x8)] : List GMethod)]⟩], []⟩⟩) (by simp [GMethod.trs_map, GMethod.tr_cs]) rfl leA (by simp [GMethod.cs]) (Nat.le_of_ble_eq_true rfl) ⟨⟨rfl, fleA, rfl⟩, ⟨⟨rfl, fleA, rfl⟩, ⟨⟨rfl, fleA, rfl⟩, trivial⟩⟩⟩ rfl rfl (keeps_all hC (boxes1 rfl) (Nat.le_of_ble_eq_true rfl)) (by repeat' first | exact trivial | refine ⟨⟨_, rfl, fleA, rfl⟩, ?_⟩)) ?_; refine q1 (rLp [pS y3, .lit 1 (strTrs (v9)), pI v10, pS v11, rType v12, .lit 4 (GBound.trs (v13)), pB (decide (v34.below 4 = 0)), pB v35, pI v36, pS v37, rType v38, rMethod ([(GMethod.mk s_m ([s_x] : List ByteArray) x8)] : List GMethod)] sh31) (q1 (rSu sz31) (qN (AWP.ret ?_)))
  obtain rfl : _ = r := (smI H :)
  exact qe1 (hr := ⟨⟨_, _, _, rfl, rfl, sh31, rfl, rfl⟩, trivial⟩)

end
end Go.Proofs.Ytmpepccpnnldoaa

namespace Go.Proofs.Ytmpepccpnnldoaa
set_option maxRecDepth 100000
set_option maxHeartbeats 40000000
noncomputable section
open Go.RowKit Go.Proofs
set_option linter.unusedSimpArgs false
set_option linter.unusedVariables false

attribute [local irreducible] lt

def sLookup_T (m : (List GBinding) → ByteArray → Option (GType × Bool)) : Prop := ∀ (plist : List GBinding) (pv : ByteArray) (r : GType × Bool), m plist pv = some r → AFun Try.prog 65 [rBinding plist, pS pv] (.tup [(GType.pv r.1), pB r.2] : PV)
def sLookup_F1 (fu : Nat) (plist : List GBinding) (pv : ByteArray) : Nat → Unit → Option (LR Unit (GType × Bool)) :=
 fun i1 _ => sw (decide ((atD plist i1).gVar = pv))
 (bd (sl4Copy_M fu ((atD plist i1).gType)) (fun x6 =>
 some (.ret (x6, true))))
 (some (.next ()))
def sLookup_R1 (fu : Nat) (plist : List GBinding) (pv : ByteArray) : Option ((GType × Bool) ⊕ Unit) :=
 loopN (sLookup_F1 fu plist pv) (plist.length - 0) 0 ()
def sLookup_M (fu : Nat) (plist : List GBinding) (pv : ByteArray) : Option (GType × Bool) :=
 so (sLookup_R1 fu plist pv) (fun _ =>
 some ((GType.mk 0 s_ []), false))
theorem sLookup_ok (fu : Nat)   : sLookup_T (sLookup_M fu) := by
  intro plist pv r H
  have H := hd0 H
  refine qI Try.func65 (fun C hC => ?_)
  refine qS (qR (q1 (rAl zr27) (q1 rMv (qN ?_))))
  iterate 2 refine qS ?_
  refine qR (q1 rMv (qN ?_))
  refine lenF 0 (GBinding.trs_len _) (fun hl2 => ?_)
  refine loopB (σ := Unit) (fun i1 _ => ⟨[(0, rBinding plist), (1, pS pv), (4, .ptr 0 0), (5, pB false), (6, pN i1)], ⟨[some ⟨27, [pI 0, pS s_, .nil]⟩], []⟩⟩) (fun _ => ⟨[(4, .ptr 0 0), (5, pB false)], ⟨[some ⟨27, [pI 0, pS s_, .nil]⟩], []⟩⟩) (soI H) ?_ ?_
  · rintro i1 ⟨⟩ H
    iterate 2 refine qS ?_
    refine qR ?_
    iterate 2 refine q1 rMv ?_
    refine q1 (rLn el34 (GBinding.trs_len _)) (q1 rLt (qN ?_))
    refine cndL H (fun h3 h3l H => ?_) (fun h3 H => ?_)
    · have h3n := nat_lt_of h3
      refine AWP.skip (qS (AWP.block (qS (qR ?_))))
      iterate 2 refine q1 rMv ?_
      refine q1 (rIx h3n el34) (q1 (rFe fo104_0) (q1 (rK1 sh9) (q1 rMv (q1 rSe (qN ?_)))))
      refine cndB H (fun h4 H => ?_) (fun h4 H => ?_)
      · refine qS (qR ?_)
        iterate 2 refine q1 rMv ?_
        refine q1 (rIx h3n el34) (q1 (rFe fo104_1) (q1 (rKe (GType.cs ((atD plist i1).gType)) sh27) (bdE H fun x6 z5 H => (q1 (rCf Try.func99 (sl4Copy_ok fu ((atD plist i1).gType) _ z5)) (q1 (rSu sz27) (q1 rMv (qN (AWP.ret ?_))))))))
        obtain rfl : _ = r := (lkR (smI H) :)
        exact qe2 (hr := ⟨⟨_, _, _, rfl, rfl, sh27, rfl, rfl⟩, rfl, trivial⟩)
      refine AWP.skip (qR (q1 rMv (q1 (AOp.addI rfl rfl rfl rfl (c := ((i1 + 1 : Nat) : Int)) (by omega) (by omega)) (q1 rMv (qN ?_)))))
      exact lpN h3l ⟨_, (smI H :), wkA⟩
    refine AWP.exit ?_; exact lpX ⟨_, H, wkA⟩
  rintro ⟨⟩ H
  refine qS (qR (q1 (rBd zr27 pl27) (q1 (rSu sz27) (q1 rMv (qN (AWP.ret ?_))))))
  obtain rfl : _ = r := (smI H :)
  exact qe2 (hr := ⟨⟨_, _, _, rfl, rfl, sh27, rfl, rfl⟩, rfl, trivial⟩)

end
end Go.Proofs.Ytmpepccpnnldoaa

namespace Go.Proofs.Ytmpepccpnnldoaa
open Go.RowKit

section
variable {P : Program} {ops : Array Oper} {Q : Exit → Act → World → Prop} {md : Region.Mode} {S : World → Prop}

theorem wpAnyH_load_rep {i : Nat} {oi : Oper} {fuel : Nat} {listed : Array Bool} {a : Act} {w : World} (hi : ops[i]? = some oi)
    (hs : Region.noSelect ops = true) (hf : Region.free md ops listed i = true) (hr : (Region.ready md ops listed).contains i = true)
    (_hQ : ∀ c a w, Q (.panic c) (a.put oi.dst (.bool true)) w → Q (.panic c) a w) (hgd : oi.guard = none) (ty : TypeId) (x : Operand) (ho : oi.op = .load ty x)
    (b off : Nat) (hx : a.eval x = .pointer (some ⟨b, off, none⟩)) (cs : List Value) (fs : Array Field) (hu : P.underlying ty = some (.struct fs)) (hinfo : (P.info? ty).map (·.size) = some cs.length)
    (hS : ∀ w, S w → ∀ (j : Nat) (v : Value), cs[j]? = some v → w.cell? ⟨b, off + j, none⟩ = some v) (hw : S w) (hQ2 : ∀ c a w v, Q (.panic c) (a.put oi.dst v) w → Q (.panic c) a w)
    (h : wpAnyH P md ops Q S fuel (listed.setIfInBounds i true) (a.put oi.dst (.agg ⟨cs⟩)) w) : wpAnyH P md ops Q S (fuel + 1) listed a w :=
  wpAnyH_take hi hs hf hr (fun c a w => hQ2 c a w _) (.inl ⟨by simp [Region.wanted, hgd], fun w1 hw1 => by
    unfold execOp
    simp only [ho, hx, Instr.loadAt, Instr.sureAddr, Sem.run_bind, Sem.run_pure, Result.andThen_ok, run_loadVar_rep w1 b off ty cs fs hu hinfo (hS w1 hw1)]⟩) hw h

theorem run_call_func {o : Oper} {ev : Operand → Value} {f : FuncId} {fn : Func} {ars : Array Operand} {ts : Array TypeId} (ho : o.op = .call { callee := .value (.func f), args := ars, argTypes := ts })
    (hev : ev (.func f) = .func (.func f) #[] #[]) (vals : Array Value) (hv : ars.map ev = vals) (hf : P.funcs[f]? = some fn) (hname : (fn.name == "runtime.NumGoroutine") = false) (hb : fn.body.isNone = false) (w : World) :
    (execOp ev o).run P w = .ok (.enter f vals) w := by
  have hc := run_callFunc_body (P := P) hf hname hb
  unfold execOp
  simp only [ho]
  simp [resolve, invoke, Deferred.ofValue, hev, hv, hc]

theorem wpAnyH_call {i : Nat} {o : Oper} {fuel : Nat} {listed : Array Bool} {a : Act} {w : World} {f : FuncId} {vals : Array Value} {R : Ending → World → Prop} (hr : Region.ready md ops listed = [i]) (ho : ops[i]? = some o) (hgd : o.guard = none)
    (hrun : (execOp a.eval o).run P w = .ok (.enter f vals) w) (hc : Calls P f vals w R)
    (h : ∀ e w', R e w' → ∃ v, e = .returned v ∧ S w' ∧ wpAnyH P md ops Q S fuel (listed.setIfInBounds i true) (a.put o.dst v) w') : wpAnyH P md ops Q S (fuel + 1) listed a w := by
  refine wpAnyH_all hr (by simp) fun j hj => ?_
  obtain rfl : j = i := by simpa using hj
  have hw : Region.wanted o (yielded ops a.tmps) = true := by simp [Region.wanted, hgd]
  unfold wpOp
  simp only [ho]
  rw [if_pos hw]
  refine .inl ?_
  unfold Oper.wp
  rw [hrun]
  refine hc.mono fun e w' hR => ?_
  obtain ⟨v, rfl, h1, h2⟩ := h e w' hR
  exact ⟨h1, h2⟩

theorem run_loadVar_cell {w : World} {p : Addr} {ty : TypeId} {v : Value} {d : TypeDesc} (hu : P.underlying ty = some d) (hd : (match d with | .struct _ | .array _ _ => true | _ => false) = false) (hc : w.cell? p = some v) :
    (loadVar ty p).run P w = .ok v w := by
  have hagg : (isAgg ty).run P w = .ok false w := by
    unfold isAgg
    rw [Sem.run_bind, run_underlying hu w]
    cases d <;> simp_all
  simp [loadVar, Sem.run_bind, hagg, hc]

theorem wpAnyH_cell {i : Nat} {oi : Oper} {fuel : Nat} {listed : Array Bool} {a : Act} {w : World} (hi : ops[i]? = some oi)
    (hs : Region.noSelect ops = true) (hf : Region.free md ops listed i = true) (hr : (Region.ready md ops listed).contains i = true) (hgd : oi.guard = none) (ty : TypeId) (x : Operand) (ho : oi.op = .load ty x)
    (b off : Nat) (hx : a.eval x = .pointer (some ⟨b, off, none⟩)) (v : Value) (d : TypeDesc) (hu : P.underlying ty = some d) (hd : (match d with | .struct _ | .array _ _ => true | _ => false) = false)
    (hS : ∀ w, S w → w.cell? ⟨b, off, none⟩ = some v) (hw : S w) (hQ2 : ∀ c a w v, Q (.panic c) (a.put oi.dst v) w → Q (.panic c) a w)
    (h : wpAnyH P md ops Q S fuel (listed.setIfInBounds i true) (a.put oi.dst v) w) : wpAnyH P md ops Q S (fuel + 1) listed a w :=
  wpAnyH_take hi hs hf hr (fun c a w => hQ2 c a w _) (.inl ⟨by simp [Region.wanted, hgd], fun w1 hw1 => by
    unfold execOp
    simp only [ho, hx, Instr.loadAt, Instr.sureAddr, Sem.run_bind, Sem.run_pure, Result.andThen_ok, run_loadVar_cell hu hd (hS w1 hw1)]⟩) hw h

theorem wpAnyH_index {i : Nat} {oi : Oper} {fuel : Nat} {listed : Array Bool} {a : Act} {w : World} (hi : ops[i]? = some oi)
    (hs : Region.noSelect ops = true) (hf : Region.free md ops listed i = true) (hr : (Region.ready md ops listed).contains i = true) (hgd : oi.guard = none) (ty : TypeId) (x y : Operand) (ho : oi.op = .indexAddr ty x y)
    (b off len cap k sz : Nat) (hx : a.eval x = .slice (some ⟨b, off, none⟩) len cap) (hy : a.eval y = .int .i64 (k : Int)) (hk : k < len) (hu : P.underlying ty = some (.slice (P.elem ty))) (hinfo : (P.info? (P.elem ty)).map (·.size) = some sz)
    (hw : S w) (hQ2 : ∀ c a w v, Q (.panic c) (a.put oi.dst v) w → Q (.panic c) a w)
    (h : wpAnyH P md ops Q S fuel (listed.setIfInBounds i true) (a.put oi.dst (.pointer (some ⟨b, off + k * sz, none⟩))) w) : wpAnyH P md ops Q S (fuel + 1) listed a w :=
  wpAnyH_take hi hs hf hr (fun c a w => hQ2 c a w _) (.inl ⟨by simp [Region.wanted, hgd], fun w1 _ => by
    have hsz : (Go.sizeOf (P.elem ty)).run P w1 = .ok sz w1 := by
      cases hq : P.info? (P.elem ty) with
      | none => simp [hq] at hinfo
      | some j => have : j.size = sz := by simpa [hq] using hinfo
                  simp [Go.sizeOf, typeInfo, hq, this]
    have hadd : ∀ n, (⟨b, off, none⟩ : Addr).add n = ⟨b, off + n, none⟩ := fun n => by unfold Addr.add; split <;> simp_all
    unfold execOp
    simp only [ho, hx, hy, run_indexAt_slice _ _ _ _ _ _ _ hu, Sem.run_bind, hsz, Result.andThen_ok]
    rw [if_pos ⟨by omega, by omega⟩]
    simp [hadd]⟩) hw h

/-- The one operation that may come up now is a store of a struct into a block of our own. -/
theorem wpAnyH_store_rep {i : Nat} {o : Oper} {fuel : Nat} {listed : Array Bool} {a : Act} {w : World} (hr : Region.ready md ops listed = [i]) (ho0 : ops[i]? = some o) (hgd : o.guard = none) (ty : TypeId) (x y : Operand) (ho : o.op = .store ty x y)
    (B off : Nat) (hx : a.eval x = .pointer (some ⟨B, off, none⟩)) (cs : List Value) (hy : a.eval y = .agg ⟨cs⟩) (T : TypeId) (arr : Array Value) (hob : OB w B T arr) (hi : (P.info? ty).map (·.size) = some cs.length)
    (hfit : off + cs.length ≤ arr.size) (h1 : ∀ v ∈ cs, v.oneCell' = true)
    (h : ∀ w', OB w' B T (splice arr off cs) → w.grownBy w' (some B) → w'.heap.size = w.heap.size → S w' ∧ wpAnyH P md ops Q S fuel (listed.setIfInBounds i true) (a.put o.dst undef) w') : wpAnyH P md ops Q S (fuel + 1) listed a w := by
  refine wpAnyH_all hr (by simp) fun j hj => ?_
  obtain rfl : j = i := by simpa using hj
  have hw : Region.wanted o (yielded ops a.tmps) = true := by simp [Region.wanted, hgd]
  have hst := run_storeCells_at P B off T cs 0 arr w hob (by simpa using hfit) h1
  cases hq : P.info? ty with
  | none => simp [hq] at hi
  | some inf =>
    have hs : inf.size = cs.length := by simpa [hq] using hi
    have hrun : (storeVar ty ⟨B, off, none⟩ (.agg ⟨cs⟩)).run P w = .ok () (w.setRow B (splice arr off cs)) := by
      simp [storeVar, Go.sizeOf, typeInfo, hq, Value.cells, hs, hst, splice]
    unfold wpOp
    simp only [ho0]
    rw [if_pos hw]
    refine .inl ?_
    unfold Oper.wp execOp
    simp only [ho, hx, hy, Instr.storeAt, Instr.sureAddr, Sem.run_bind, Sem.run_pure, Result.andThen_ok, hrun]
    exact h _ (setRow_heap w B arr _ T _ hob) ⟨rfl, rfl, rfl, by simp, fun k _ hk => setRow_other w B k _ (fun e => hk (by rw [e]))⟩ (by simp)

end
end Go.Proofs.Ytmpepccpnnldoaa

namespace Go.Proofs.Ytmpepccpnnldoaa
set_option linter.unusedSimpArgs false
set_option linter.unusedVariables false
open Go.RowKit Go.Proofs

/-- Neither the source's block nor a place that is being written. -/
def okC (cb : Nat) (A : Nat → Nat → Prop) (b o : Nat) : Prop := ¬ A b o ∧ b ≠ cb
/-- The source stands in block cb; the places A are being written. -/
def Cur (cb : Nat) (A : Nat → Nat → Prop) (d : DS) (w : World) : Prop := ∃ m : Lay, m.ρ 0 = cb ∧ StoOk A (d.box 99) m w
/-- The values stand for these trees. -/
abbrev RML (ok : Nat → Nat → Prop) (w : World) (ts : List Tr) (vs : List Value) : Prop := RVL ok ⟨[], []⟩ lay0 w (ts.map PV.t) vs
theorem RML.move {ok ok' : Nat → Nat → Prop} {w w' : World} (hz : w.heap.size ≤ w'.heap.size) (hk : ∀ b o, b < w.heap.size → ok b o → ok' b o)
    (hc : ∀ b o, b < w.heap.size → ok b o → w'.cell? ⟨b, o, none⟩ = w.cell? ⟨b, o, none⟩) : ∀ {ts : List Tr} {vs : List Value}, RML ok w ts vs → RML ok' w' ts vs
  | [], [], _ => trivial
  | t :: ts, v :: vs, h => ⟨RepM.mono h.1 hz hk hc, RML.move hz hk hc h.2⟩
theorem RML.rep {ok : Nat → Nat → Prop} {w : World} {ts : List Tr} {vs : List Value} (h : RML ok w ts vs) : RepL w ts vs := RVL.ofTr h
theorem RML.len {ok : Nat → Nat → Prop} {w : World} {ts : List Tr} {vs : List Value} (h : RML ok w ts vs) : vs.length = ts.length := by have := RVL.length h; simpa using this.symm
theorem RML.append {ok : Nat → Nat → Prop} {w : World} {ts us : List Tr} {vs xs : List Value} (h : RML ok w ts vs) (k : RML ok w us xs) : RML ok w (ts ++ us) (vs ++ xs) := by
  have := RVL.append h k
  rw [← List.map_append] at this
  exact this
theorem okC_iff {cb : Nat} {A : Nat → Nat → Prop} {m : Lay} {d : DS} (hm : m.ρ 0 = cb) (b o : Nat) : okA A (d.box 99) m b o ↔ okC cb A b o := by
  constructor
  · rintro ⟨h1, h2, -⟩
    exact ⟨h1, fun e => h2 0 _ rfl (by rw [hm, e])⟩
  · rintro ⟨h1, h2⟩
    refine ⟨h1, fun k x hk => ?_, fun r row g c hr => by simp at hr⟩
    match k, hk with
    | 0, _ => rw [hm]; exact fun e => h2 e.symm
    | k + 1, hk => simp at hk
/-- What a call may have changed of what was: the source's block alone. -/
structure Stp (cb : Nat) (w w' : World) : Prop where
  os : w'.os = w.os
  tape : w'.tape = w.tape
  output : w'.output = w.output
  size : w.heap.size ≤ w'.heap.size
  block : ∀ b, b < w.heap.size → b ≠ cb → w'.heap[b]? = w.heap[b]?
theorem Stp.refl (cb : Nat) (w : World) : Stp cb w w := ⟨rfl, rfl, rfl, Nat.le_refl _, fun _ _ _ => rfl⟩
theorem Stp.trans {cb : Nat} {a b c : World} (h : Stp cb a b) (k : Stp cb b c) : Stp cb a c :=
  ⟨k.os.trans h.os, k.tape.trans h.tape, k.output.trans h.output, Nat.le_trans h.size k.size, fun x hx hn => (k.block x (Nat.lt_of_lt_of_le hx h.size) hn).trans (h.block x hx hn)⟩
theorem Stp.of_ext {cb : Nat} {w w' : World} (h : Ext w w') : Stp cb w w' := ⟨h.os, h.tape, h.output, h.size, fun b hb _ => h.block b hb⟩
/-- Behind a change of a block that has come since. -/
theorem Stp.grown {cb g : Nat} {w0 w w' : World} (h : Stp cb w0 w) (hg : w.grownBy w' (some g)) (hz : w.heap.size ≤ w'.heap.size) (hn : w0.heap.size ≤ g) : Stp cb w0 w' :=
  ⟨hg.os.trans h.os, hg.tape.trans h.tape, hg.output.trans h.output, Nat.le_trans h.size hz, fun b hb hc => (hg.block b (Nat.lt_of_lt_of_le hb h.size) (fun e => by cases e; omega)).trans (h.block b hb hc)⟩
theorem Cur.lt {cb : Nat} {A : Nat → Nat → Prop} {d : DS} {w : World} (h : Cur cb A d w) : cb < w.heap.size := by
  obtain ⟨m, rfl, hS⟩ := h
  exact hS.box_lt (k := 0) rfl
theorem Cur.not {cb : Nat} {A : Nat → Nat → Prop} {d : DS} {w : World} (h : Cur cb A d w) (o : Nat) : ¬ A cb o := by
  obtain ⟨m, rfl, hS⟩ := h
  exact hS.avb 0 _ rfl o
theorem Cur.av {cb : Nat} {A : Nat → Nat → Prop} {d : DS} {w : World} (h : Cur cb A d w) {b o : Nat} (ha : A b o) : b < w.heap.size := by
  obtain ⟨m, rfl, hS⟩ := h
  exact hS.avlt b o ha
/-- The world goes on beside it; other places may be written from now on. -/
theorem Cur.next {cb : Nat} {A A' : Nat → Nat → Prop} {d : DS} {w w' : World} (h : Cur cb A d w) (hz : w.heap.size ≤ w'.heap.size) (hb : ∀ b, b < w.heap.size → (∀ o, A b o) ∨ w'.heap[b]? = w.heap[b]?)
    (h2 : ∀ b o, A' b o → (A b o ∨ w.heap.size ≤ b) ∧ b < w'.heap.size ∧ b ≠ cb) : Cur cb A' d w' := by
  have hlt := h.lt
  have hnot := h.not
  obtain ⟨m, hm, hS⟩ := h
  refine ⟨m, hm, ?_, ?_, ?_, ?_, ?_, ?_, ?_, ?_⟩
  · intro k x hk
    match k, hk with
    | 0, hk =>
      obtain ⟨vs, h1, h3⟩ := hS.box 0 x hk
      cases hk
      refine ⟨vs, h1.keep ?_, ?_⟩
      · rw [hm]
        rcases hb cb hlt with h4 | h4
        · exact absurd (h4 0) (hnot 0)
        · exact h4
      · have key : ∀ {t : Tr} {v : Value}, RepM (okA A (d.box 99) m) w t v → RepM (okA A' (d.box 99) m) w' t v := fun hr => hr.mono hz (fun b o hbl ho => by
            rw [okC_iff hm] at ho ⊢
            refine ⟨fun ha => ?_, ho.2⟩
            rcases (h2 b o ha).1 with h5 | h5
            · exact ho.1 h5
            · omega) (fun b o hbl ho => by
            rw [okC_iff hm] at ho
            rcases hb b hbl with h4 | h4
            · exact absurd (h4 o) ho.1
            · exact heap_other_cell h4)
        match vs, h3 with
        | [_, _, _], h3 => exact ⟨key h3.1, key h3.2.1, key h3.2.2.1, trivial⟩
    | k + 1, hk => simp at hk
  · intro k k' x x' hk hk' hne
    match k, k', hk, hk' with
    | 0, 0, _, _ => exact absurd rfl hne
    | k + 1, _, hk, _ => simp at hk
    | 0, k + 1, _, hk => simp at hk
  · intro r row hr; simp at hr
  · intro r r' row row' g c c' hr; simp at hr
  · intro k x r row g c hk hr; simp at hr
  · intro b o ha; exact (h2 b o ha).2.1
  · intro r row g c hr; simp at hr
  · intro k x hk o ha
    match k, hk with
    | 0, _ => exact (h2 _ o ha).2.2 hm
    | k + 1, hk => simp at hk
/-- A call that is handed the source. -/
theorem Cur.call {P : Program} {f : FuncId} {d d' : DS} {ps : List PV} {res : PV} {cb : Nat} {A : Nat → Nat → Prop} {w : World} {vs : List Value} (hc : ACalls P f (.ptr 0 0 :: ps) (d.box 99) (fun r t => r = res ∧ t = d'.box 99))
    (hC : Cur cb A d w) (hf : freeL ps = true) (hr : PV.free res = true) (hv : RVL (okC cb A) ⟨[], []⟩ lay0 w ps vs) :
    Calls P f ⟨.pointer (some ⟨cb, 0, none⟩) :: vs⟩ w fun e w' => ∃ v, e = .returned v ∧ Stp cb w w' ∧ Cur cb A d' w' ∧ RV (okC cb A) ⟨[], []⟩ lay0 w' res v := by
  obtain ⟨m, hm, hS⟩ := hC
  refine (hc A m w (.pointer (some ⟨cb, 0, none⟩) :: vs) hS ⟨⟨⟨_, rfl⟩, by rw [hm]⟩, freeL.rv (fun b o _ h => (okC_iff hm b o).2 h) _ _ hf hv⟩).mono fun e w' => ?_; rintro ⟨r, t, m', v, rfl, ⟨rfl, rfl⟩, hS', he, hv'⟩
  have hm' : m'.ρ 0 = cb := (he.live 0 _ rfl).2.trans hm
  refine ⟨v, rfl, ⟨he.os, he.tape, he.output, he.size, fun b hb hn => he.blk b hb (fun k x hk => ?_) (fun r row g c hr => by simp at hr)⟩, ⟨m', hm', hS'⟩, PV.free.rv (fun b o _ h => (okC_iff hm' b o).1 h) _ _ hr hv'⟩
  match k, hk with
  | 0, _ => rw [hm]; exact fun e => hn e.symm
  | k + 1, hk => simp at hk
end Go.Proofs.Ytmpepccpnnldoaa

namespace Go.Proofs.Ytmpepccpnnldoaa
open Go.RowKit

mutual
def Tr.cnt : Tr → Nat
  | .leaf _ => 1
  | .row _ es => Tr.cntE es
def Tr.cntL : List Tr → Nat
  | [] => 0
  | t :: r => Tr.cnt t + Tr.cntL r
def Tr.cntE : List (List Tr) → Nat
  | [] => 0
  | e :: r => Tr.cntL e + Tr.cntE r
end
/-- Blocks outside S hold what they held; the rest of the world is as it was. -/
structure Chg (S : Nat → Prop) (w w' : World) : Prop where
  os : w'.os = w.os
  tape : w'.tape = w.tape
  output : w'.output = w.output
  size : w.heap.size ≤ w'.heap.size
  block : ∀ b, b < w.heap.size → ¬ S b → w'.heap[b]? = w.heap[b]?
theorem Chg.refl (S : Nat → Prop) (w : World) : Chg S w w := ⟨rfl, rfl, rfl, Nat.le_refl _, fun _ _ _ => rfl⟩
theorem Chg.trans {S : Nat → Prop} {a b c : World} (h : Chg S a b) (k : Chg S b c) : Chg S a c :=
  ⟨k.os.trans h.os, k.tape.trans h.tape, k.output.trans h.output, Nat.le_trans h.size k.size, fun x hx hs => (k.block x (Nat.lt_of_lt_of_le hx h.size) hs).trans (h.block x hx hs)⟩
theorem Chg.mono {S S' : Nat → Prop} {a b : World} (h : Chg S a b) (hS : ∀ x, S x → S' x) : Chg S' a b := ⟨h.os, h.tape, h.output, h.size, fun x hx hn => h.block x hx fun hs => hn (hS x hs)⟩
theorem Chg.of_ext {S : Nat → Prop} {a b : World} (h : Ext a b) : Chg S a b := ⟨h.os, h.tape, h.output, h.size, fun x hx _ => h.block x hx⟩
theorem Chg.of_grown {S : Nat → Prop} {B : Nat} {a b : World} (h : a.grownBy b (some B)) (hB : S B) : Chg S a b := ⟨h.os, h.tape, h.output, h.size, fun x hx hs => h.block x hx (by simp; rintro rfl; exact hs hB)⟩
theorem Chg.ext {S : Nat → Prop} {a b c : World} (h : Ext a b) (k : Chg S b c) (hS : ∀ x, S x → a.heap.size ≤ x) : Ext a c :=
  ⟨k.os.trans h.os, k.tape.trans h.tape, k.output.trans h.output, Nat.le_trans h.size k.size, fun x hx => (k.block x (Nat.lt_of_lt_of_le hx h.size) (fun hs => by have := hS x hs; omega)).trans (h.block x hx)⟩

end Go.Proofs.Ytmpepccpnnldoaa

namespace Go.Proofs.Ytmpepccpnnldoaa
open Go.RowKit

/-- The slice is nil, or its row is known whole: it begins at 0 and the row's size is the capacity's. -/
def Whole (E : TypeId) (base sz : Nat) (w : World) (n : Nat) (v : Value) : Prop :=
  (v = .slice none 0 0 ∧ n = 0) ∨ ∃ g cap cur, v = .slice (some ⟨g, 0, none⟩) n cap ∧ base ≤ g ∧ OB w g E cur ∧ n ≤ cap ∧ cap ≤ maxLen ∧ cur.size = cap * sz

structure Acc (E : TypeId) (base sz : Nat) (w : World) (es : List (List Tr)) (v : Value) (S : Nat → Prop) : Prop where
  own : Own w (.row sz es) v S
  whole : Whole E base sz w es.length v
  lens : ∀ e ∈ es, e.length = sz
  lt : ∀ x, S x → base ≤ x ∧ x < w.heap.size

theorem Acc.rep {E : TypeId} {base sz : Nat} {w : World} {es : List (List Tr)} {v : Value} {S : Nat → Prop} (h : Acc E base sz w es v S) : Rep w (.row sz es) v := h.own.rep
theorem Acc.nil (E : TypeId) (base sz : Nat) (w : World) : Acc E base sz w [] (.slice none 0 0) (fun _ => False) :=
  ⟨Own.row (es := []) (fun _ _ => undef) (fun _ _ _ => False) (by simp) (by unfold maxLen; omega) (by simp) (by simp) (by simp) (by simp), .inl ⟨rfl, rfl⟩, by simp, by simp⟩
/-- An empty slice with a row of its own. -/
theorem Acc.empty {E : TypeId} {base sz : Nat} {w : World} {g cap : Nat} {cur : Array Value} (hb : base ≤ g) (ho : OB w g E cur) (hm : cap ≤ maxLen) (hc : cur.size = cap * sz) : Acc E base sz w [] (.slice (some ⟨g, 0, none⟩) 0 cap) (fun _ => False) :=
  ⟨Own.row (es := []) (fun _ _ => undef) (fun _ _ _ => False) (by simp) hm (by simp) (by simp) (by simp) (by simp), .inr ⟨g, cap, cur, rfl, hb, ho, Nat.zero_le _, hm, hc⟩, by simp, by simp⟩
theorem Acc.keep {E : TypeId} {base sz : Nat} {w w' : World} {es : List (List Tr)} {v : Value} {S : Nat → Prop} (h : Acc E base sz w es v S) (hz : w.heap.size ≤ w'.heap.size)
    (hx : ∀ b, S b ∨ v.ownBlock = some b → b < w.heap.size → w'.heap[b]? = w.heap[b]?) : Acc E base sz w' es v S := by
  refine ⟨h.own.keep fun b hb => hx b (.inl hb), ?_, h.lens, fun x hs => ⟨(h.lt x hs).1, Nat.lt_of_lt_of_le (h.lt x hs).2 hz⟩⟩
  rcases h.whole with h1 | ⟨g, cap, cur, rfl, h2, h3, h4⟩
  · exact .inl h1
  · exact .inr ⟨g, cap, cur, rfl, h2, (hx g (.inr rfl) h3.lt).trans h3, h4⟩
theorem Acc.ext {E : TypeId} {base sz : Nat} {w w' : World} {es : List (List Tr)} {v : Value} {S : Nat → Prop} (h : Acc E base sz w es v S) (hx : Ext w w') : Acc E base sz w' es v S := h.keep hx.size fun b _ hb => hx.block b hb
theorem Acc.mono {E : TypeId} {base base' sz : Nat} {w : World} {es : List (List Tr)} {v : Value} {S S' : Nat → Prop} (h : Acc E base sz w es v S) (hb : base' ≤ base) (hS : ∀ x, S x → S' x) (hl : ∀ x, S' x → base' ≤ x ∧ x < w.heap.size) : Acc E base' sz w es v S' := by
  refine ⟨h.own.mono hS, ?_, h.lens, hl⟩
  rcases h.whole with h1 | ⟨g, cap, cur, h1, h2, h3⟩
  · exact .inl h1
  · exact .inr ⟨g, cap, cur, h1, by omega, h3⟩

theorem Acc.owns {E : TypeId} {base sz : Nat} {w : World} {es : List (List Tr)} {v : Value} {S : Nat → Prop} (h : Acc E base sz w es v S) : ∃ xs, w.ownsRow base E sz v es.length xs := by
  rcases h.whole with ⟨h1, h2⟩ | ⟨g, cap, cur, h1, h2, h3, h4, h5, h6⟩
  · exact ⟨[], by simp [h2], .inl ⟨h1, h2⟩⟩
  · exact ⟨cur.toList.take (es.length * sz), by have := Nat.mul_le_mul_right sz h4; simp only [List.length_take, Array.length_toList]; omega, .inr ⟨g, cap, cur, h1, h2, h3, h4, h5, h6, rfl⟩⟩

theorem getE_append {α : Type} {es : List α} {e y : α} {i : Nat} (h : (es ++ [e])[i]? = some y) : (i < es.length ∧ es[i]? = some y) ∨ (i = es.length ∧ y = e) := by
  rcases Nat.lt_or_ge i es.length with hi | hi
  · rw [List.getElem?_append_left hi] at h
    exact .inl ⟨hi, h⟩
  · rw [List.getElem?_append_right hi] at h
    rcases hk : i - es.length with _ | k
    · rw [hk] at h
      simp at h
      exact .inr ⟨by omega, h.symm⟩
    · rw [hk] at h
      simp at h

theorem Acc.snoc {E : TypeId} {base base' sz : Nat} {w w' : World} {es : List (List Tr)} {e : List Tr} {v : Value} {S T : Nat → Prop} {xs cs : List Value} {g cap : Nat} (h : Acc E base sz w es v S) (hr : w.ownsRow base' E sz v es.length xs)
    (he : e.length = sz) (ho : OwnL w e cs T) (hST : ∀ x, S x → T x → False) (hT : ∀ x, T x → base ≤ x ∧ x < w.heap.size) (hTv : ∀ x, v.ownBlock = some x → ¬ T x)
    (hr' : w'.ownsRow base E sz (.slice (some ⟨g, 0, none⟩) (es.length + 1) cap) (es.length + 1) (xs ++ cs)) (hg : w.grownBy w' v.ownBlock) (hgg : v.ownBlock = some g ∨ g = w.heap.size) (_hbw : base ≤ w.heap.size) :
    Acc E base sz w' (es ++ [e]) (.slice (some ⟨g, 0, none⟩) (es.length + 1) cap) (fun x => S x ∨ T x ∨ x = g) := by
  obtain ⟨hown, hwh, hlens, hlt⟩ := h
  have hel : (es ++ [e]).length = es.length + 1 := by simp
  obtain ⟨hxl', hr'⟩ := hr'
  rcases hr' with ⟨h1, -⟩ | ⟨g', cap', cur', h1, hbg, hob', hcap, hmax, hcs', htake'⟩
  · simp at h1
  injection h1 with h1 h2 h3
  injection h1 with h1
  injection h1 with h1
  subst h1 h3
  have hgl : g < w'.heap.size := OB.lt hob'
  have hvlt : ∀ x, v.ownBlock = some x → x < w.heap.size := by
    intro x hx
    rcases hwh with ⟨rfl, -⟩ | ⟨g0, c0, u0, rfl, -, h3, -⟩
    · simp [Value.ownBlock] at hx
    · simp [Value.ownBlock] at hx
      subst hx
      exact h3.lt
  have hxl : xs.length = es.length * sz := hr.1
  have hlens' : ∀ y ∈ es ++ [e], y.length = sz := by
    intro y hy
    rcases List.mem_append.1 hy with hy | hy
    · exact hlens y hy
    · simp at hy; rw [hy, he]
  have hcur' : ∀ i, i < (es.length + 1) * sz → cur'[i]? = (xs ++ cs)[i]? := by
    intro i hi
    have h8 : (cur'.toList.take ((es.length + 1) * sz))[i]? = (xs ++ cs)[i]? := by rw [htake']
    rw [List.getElem?_take, if_pos hi] at h8
    simpa using h8
  obtain ⟨hcl, U, u1, u2, u3⟩ := ho
  have hTg : ∀ x, T x → x ≠ g := by
    rintro x hx rfl
    rcases hgg with h | h
    · exact hTv _ h hx
    · have := (hT _ hx).2; omega
  cases hown with
  | row c T0 o1 o2 o3 o4 o5 o6 =>
    rename_i a cap0
    have keepb : ∀ b, b < w.heap.size → (Value.slice a es.length cap0).ownBlock ≠ some b → w'.heap[b]? = w.heap[b]? := fun b hb hne => hg.block b hb (fun h => hne h.symm)
    -- the old cells, seen from the list
    have hold : ∀ i y, es[i]? = some y → ∀ j d, y[j]? = some d → xs[i * sz + j]? = some (c i j) ∧ (∀ x, T0 i j x → (Value.slice a es.length cap0).ownBlock ≠ some x) := by
      intro i y hy j d hd
      have hne : es ≠ [] := by rintro rfl; simp at hy
      obtain ⟨b, off, E1, arr, rfl, hob, hs, hc⟩ := o3 hne
      obtain ⟨hc1, hc2⟩ := hc i y hy j d hd
      rcases hr.2 with ⟨h1, -⟩ | ⟨g1, c1, cur1, h1, -, hob1, q4, q5, q6, q7⟩
      · simp at h1
      injection h1 with h1 h2 h3
      injection h1 with h1
      injection h1 with h1 h4
      subst h1 h4
      have hoo := hob.symm.trans hob1
      injection hoo with hoo
      injection hoo with hoo
      subst hoo
      have hi : i < es.length := (List.getElem?_eq_some_iff.1 hy).1
      have hj : j < sz := by rw [← hlens y (List.mem_of_getElem? hy)]; exact (List.getElem?_eq_some_iff.1 hd).1
      have hij : i * sz + j < es.length * sz := by
        have : (i + 1) * sz ≤ es.length * sz := Nat.mul_le_mul_right _ hi
        rw [Nat.succ_mul] at this
        omega
      refine ⟨?_, fun x hx hh => ?_⟩
      · rw [← q7, List.getElem?_take, if_pos hij]
        rw [Nat.zero_add] at hc1
        simpa using hc1
      · simp [Value.ownBlock] at hh
        exact hc2 x hx hh.symm
    have hgS : ∀ i y, es[i]? = some y → ∀ j d, y[j]? = some d → ∀ x, T0 i j x → x ≠ g := by
      intro i y hy j d hd x hx
      rintro rfl
      rcases hgg with h | h
      · exact (hold i y hy j d hd).2 _ hx h
      · have := (hlt _ (o5 i y hy j d hd _ hx)).2; omega
    refine ⟨?_, .inr ⟨g, cap, cur', by rw [hel], hbg, hob', by rw [hel]; exact hcap, hmax, hcs'⟩, hlens', ?_⟩
    · rw [← hel]
      refine Own.row (fun i j => (cur'[i * sz + j]?).getD undef) (fun i j => if i < es.length then T0 i j else U j) (by rw [hel]; exact hcap) hmax ?_ ?_ ?_ ?_
      · intro _
        refine ⟨g, 0, E, cur', rfl, hob', .inr (.inr rfl), ?_⟩
        intro i y hy j d hd
        have hj : j < sz := by rw [← hlens' y (List.mem_of_getElem? hy)]; exact (List.getElem?_eq_some_iff.1 hd).1
        have hi : i < es.length + 1 := by rw [← hel]; exact (List.getElem?_eq_some_iff.1 hy).1
        have hij : i * sz + j < (es.length + 1) * sz := by
          have : (i + 1) * sz ≤ (es.length + 1) * sz := Nat.mul_le_mul_right _ hi
          rw [Nat.succ_mul] at this
          omega
        have hle : (es.length + 1) * sz ≤ cap * sz := Nat.mul_le_mul_right _ hcap
        refine ⟨?_, fun x hx => ?_⟩
        · rw [Nat.zero_add, Array.getElem?_eq_getElem (by omega)]; rfl
        · rcases getE_append hy with ⟨hi2, hy2⟩ | ⟨rfl, rfl⟩
          · simp only [if_pos hi2] at hx
            exact hgS i y hy2 j d hd x hx
          · simp only [Nat.lt_irrefl, if_false] at hx
            exact hTg x (u2 j d hd x hx)
      · intro i y hy j d hd
        have hj : j < sz := by rw [← hlens' y (List.mem_of_getElem? hy)]; exact (List.getElem?_eq_some_iff.1 hd).1
        have hi : i < es.length + 1 := by rw [← hel]; exact (List.getElem?_eq_some_iff.1 hy).1
        have hij : i * sz + j < (es.length + 1) * sz := by
          have : (i + 1) * sz ≤ (es.length + 1) * sz := Nat.mul_le_mul_right _ hi
          rw [Nat.succ_mul] at this
          omega
        have hcu := hcur' (i * sz + j) hij
        rcases getE_append hy with ⟨hi2, hy2⟩ | ⟨rfl, rfl⟩
        · simp only [if_pos hi2]
          obtain ⟨h8, h9⟩ := hold i y hy2 j d hd
          rw [List.getElem?_append_left (List.getElem?_eq_some_iff.1 h8).1, h8] at hcu
          rw [hcu]
          exact (o4 i y hy2 j d hd).keep fun b hb hbl => keepb b hbl (h9 b hb)
        · simp only [Nat.lt_irrefl, if_false]
          obtain ⟨v1, hv1, how⟩ := u1 j d hd
          rw [List.getElem?_append_right (by omega), hxl, Nat.add_sub_cancel_left, hv1] at hcu
          rw [hcu]
          exact how.keep fun b hb hbl => keepb b hbl (fun hh => hTv b hh (u2 j d hd b hb))
      · intro i y hy j d hd x hx
        rcases getE_append hy with ⟨hi2, hy2⟩ | ⟨rfl, rfl⟩
        · simp only [if_pos hi2] at hx
          exact .inl (o5 i y hy2 j d hd x hx)
        · simp only [Nat.lt_irrefl, if_false] at hx
          exact .inr (.inl (u2 j d hd x hx))
      · intro i y hy j d hd i' y' hy' j' d' hd' hne x hx hx'
        rcases getE_append hy with ⟨hi2, hy2⟩ | ⟨rfl, rfl⟩
        · simp only [if_pos hi2] at hx
          rcases getE_append hy' with ⟨hi2', hy2'⟩ | ⟨rfl, rfl⟩
          · simp only [if_pos hi2'] at hx'
            exact o6 i y hy2 j d hd i' y' hy2' j' d' hd' hne x hx hx'
          · simp only [Nat.lt_irrefl, if_false] at hx'
            exact hST x (o5 i y hy2 j d hd x hx) (u2 j' d' hd' x hx')
        · simp only [Nat.lt_irrefl, if_false] at hx
          rcases getE_append hy' with ⟨hi2', hy2'⟩ | ⟨hi3, rfl⟩
          · simp only [if_pos hi2'] at hx'
            exact hST x (o5 i' y' hy2' j' d' hd' x hx') (u2 j d hd x hx)
          · subst hi3
            simp only [Nat.lt_irrefl, if_false] at hx'
            exact u3 j d hd j' d' hd' (hne rfl) x hx hx'
    · intro x hx
      rcases hx with hx | hx | rfl
      · exact ⟨(hlt x hx).1, Nat.lt_of_lt_of_le (hlt x hx).2 hg.size⟩
      · exact ⟨(hT x hx).1, Nat.lt_of_lt_of_le (hT x hx).2 hg.size⟩
      · exact ⟨hbg, hgl⟩

theorem Acc.wide {E : TypeId} {base sz : Nat} {w : World} {es : List (List Tr)} {v : Value} {S : Nat → Prop} (h : Acc E base sz w es v S) : Acc E base sz w es v (fun x => base ≤ x ∧ x < w.heap.size) := h.mono (Nat.le_refl _) h.lt fun _ hx => hx
theorem Acc.blk {E : TypeId} {base sz : Nat} {w : World} {es : List (List Tr)} {v : Value} {S : Nat → Prop} (h : Acc E base sz w es v S) {x : Nat} (hx : v.ownBlock = some x) : base ≤ x ∧ x < w.heap.size := by
  rcases h.whole with ⟨rfl, -⟩ | ⟨g0, c0, u0, rfl, h1, h3, -⟩
  · simp [Value.ownBlock] at hx
  · simp [Value.ownBlock] at hx
    subst hx
    exact ⟨h1, h3.lt⟩
theorem Acc.shape {E : TypeId} {base sz : Nat} {w : World} {es : List (List Tr)} {v : Value} {S : Nat → Prop} (h : Acc E base sz w es v S) : ∃ a cap, v = .slice a es.length cap ∧ es.length ≤ cap ∧ cap ≤ maxLen := h.rep.shape
theorem Chg.of_grown_own {w w' : World} {v : Value} (hg : w.grownBy w' v.ownBlock) : Chg (fun b => v.ownBlock = some b) w w' :=
  ⟨hg.os, hg.tape, hg.output, hg.size, fun x hx hs => hg.block x hx (fun h => hs h.symm)⟩

theorem OB.grown_own {w w' : World} {g : Nat} {t : TypeId} {cs : Array Value} {v : Value} (h : OB w g t cs) (hg : w.grownBy w' v.ownBlock) (hne : v.ownBlock ≠ some g) : OB w' g t cs := (hg.block g h.lt (fun e => hne e.symm)).trans h

/-- append of one element onto a slice of our own. -/
theorem wpList_append_acc {P : Program} {ops : Array Oper} {rest : List Oper} {o : Oper} {a : Act} {w : World} {Q : Exit → Act → World → Prop} (hgd : o.guard = none) (s x : Operand) (t : TypeId)
    (ho : o.op = .call { callee := .builtin .append, args := #[s, x], argTypes := #[t, t] }) (E : TypeId) (sz bytes : Nat) (ht : P.underlying t = some (.slice E))
    (hi : (P.info? E).map (fun i => (i.zero.map (fun z => z.cells.size), i.size, i.bytes)) = some (some sz, sz, bytes)) (hsz : 0 < sz) (hby : bytes ≤ 100)
    (base : Nat) (es : List (List Tr)) (n : Nat) (hn : es.length = n) (v : Value) (S : Nat → Prop) (hs : a.eval s = v) (hacc : Acc E base sz w es v S)
    (e : List Tr) (cs : List Value) (T : Nat → Prop) (he : e.length = sz) (ho2 : OwnL w e cs T) (hST : ∀ x, S x → T x → False) (hT : ∀ x, T x → base ≤ x ∧ x < w.heap.size) (hTv : ∀ x, v.ownBlock = some x → ¬ T x)
    (B c : Nat) (E2 : TypeId) (hx : a.eval x = .slice (some ⟨B, 0, none⟩) 1 c) (hB : OB w B E2 ⟨cs⟩) (hlen : n ≤ 1099511627776) (hbase : base ≤ w.heap.size)
    (h : ∀ g cap w', Acc E base sz w' (es ++ [e]) (.slice (some ⟨g, 0, none⟩) (n + 1) cap) (fun x => S x ∨ T x ∨ x = g) → w.grownBy w' v.ownBlock → (v.ownBlock = some g ∨ g = w.heap.size) → g < w'.heap.size →
      wpList P ops Q rest (a.put o.dst (.slice (some ⟨g, 0, none⟩) (n + 1) cap)) w') : wpList P ops Q (o :: rest) a w := by
  subst hn
  obtain ⟨xs, hxs⟩ := hacc.owns
  cases hq : P.info? E with
  | none => simp [hq] at hi
  | some i =>
    simp only [hq, Option.map_some, Option.some.injEq, Prod.mk.injEq] at hi
    obtain ⟨h1, h2, h3⟩ := hi
    cases hz : i.zero with
    | none => simp [hz] at h1
    | some z =>
      simp only [hz, Option.map_some, Option.some.injEq] at h1
      have hcl : cs.length = sz := by rw [ho2.1, he]
      have hbb : (es.length + 1) * bytes ≤ 1099511627777 * 100 := Nat.mul_le_mul (by omega) hby
      refine wpList_append_lies w hgd s x t ho base E i z sz bytes ht hq hz h2 h3 h1 hsz v es.length xs hs hxs ⟨B, 0, none⟩ 1 c cs hx (by omega) ?_ (ho2.rep.one) (by omega) (by unfold maxLen; omega) (by omega) hbase _ rfl ?_
      · intro j u hu
        exact World.news_of_block hB j u (by simpa using hu)
      · intro g cap w' k1 k2 k3 k4
        exact h g cap w' (hacc.snoc hxs he ho2 hST hT hTv k1 k2 k3 hbase) k2 k3 k4

/-- From world w on, a slice v of our own has been appended to: by now it is v' and holds es. -/
structure AccRun (E : TypeId) (base sz : Nat) (w : World) (v : Value) (w' : World) (es : List (List Tr)) (v' : Value) : Prop where
  acc : ∃ U, Acc E base sz w' es v' U
  chg : Chg (fun b => v.ownBlock = some b) w w'
  row : ∀ b, v'.ownBlock = some b → v.ownBlock = some b ∨ w.heap.size ≤ b
theorem AccRun.refl {E : TypeId} {base sz : Nat} {w : World} {es : List (List Tr)} {v : Value} {U : Nat → Prop} (h : Acc E base sz w es v U) : AccRun E base sz w v w es v := ⟨⟨U, h⟩, Chg.refl _ _, fun _ h => .inl h⟩
theorem AccRun.ext {E : TypeId} {base sz : Nat} {w w1 w2 : World} {es : List (List Tr)} {v v' : Value} (h : AccRun E base sz w v w1 es v') (hx : Ext w1 w2) : AccRun E base sz w v w2 es v' := by
  obtain ⟨U, h1⟩ := h.acc
  exact ⟨⟨U, h1.ext hx⟩, h.chg.trans (.of_ext hx), h.row⟩
theorem AccRun.trans {E : TypeId} {base sz : Nat} {w w1 w2 : World} {es es2 : List (List Tr)} {v v1 v2 : Value} (h : AccRun E base sz w v w1 es v1) (k : AccRun E base sz w1 v1 w2 es2 v2) : AccRun E base sz w v w2 es2 v2 := by
  refine ⟨k.acc, ⟨k.chg.os.trans h.chg.os, k.chg.tape.trans h.chg.tape, k.chg.output.trans h.chg.output, Nat.le_trans h.chg.size k.chg.size, fun b hb hn => ?_⟩, fun b hb => ?_⟩
  · refine (k.chg.block b (Nat.lt_of_lt_of_le hb h.chg.size) fun h1 => ?_).trans (h.chg.block b hb hn)
    rcases h.row b h1 with h2 | h2
    · exact hn h2
    · omega
  · rcases k.row b hb with h1 | h1
    · exact h.row b h1
    · exact .inr (Nat.le_trans h.chg.size h1)
theorem AccRun.extL {E : TypeId} {base sz : Nat} {w w1 w2 : World} {es : List (List Tr)} {v v2 : Value} (hx : Ext w w1) (_hv : ∀ b, v.ownBlock = some b → b < w.heap.size) (k : AccRun E base sz w1 v w2 es v2) : AccRun E base sz w v w2 es v2 := by
  refine ⟨k.acc, (Chg.of_ext hx).trans k.chg, fun b hb => ?_⟩
  rcases k.row b hb with h1 | h1
  · exact .inl h1
  · exact .inr (Nat.le_trans hx.size h1)
theorem AccRun.snoc {E : TypeId} {base sz : Nat} {w w' : World} {es : List (List Tr)} {v v' : Value} {U : Nat → Prop} {g cap n : Nat} (hv : v' = .slice (some ⟨g, 0, none⟩) n cap) (h : Acc E base sz w' es v' U) (hg : w.grownBy w' v.ownBlock) (hgg : v.ownBlock = some g ∨ g = w.heap.size) : AccRun E base sz w v w' es v' := by
  refine ⟨⟨U, h⟩, Chg.of_grown_own hg, fun b hb => ?_⟩
  subst hv
  simp [Value.ownBlock] at hb
  subst hb
  rcases hgg with h1 | h1
  · exact .inl h1
  · exact .inr (by omega)
/-- What lies elsewhere stays. -/
theorem AccRun.ob {E : TypeId} {base sz : Nat} {w w' : World} {es : List (List Tr)} {v v' : Value} (h : AccRun E base sz w v w' es v') {B : Nat} {T : TypeId} {cs : Array Value} (hB : OB w B T cs) (hn : v.ownBlock ≠ some B) : OB w' B T cs ∧ v'.ownBlock ≠ some B := by
  refine ⟨(h.chg.block B hB.lt hn).trans hB, fun h1 => ?_⟩
  rcases h.row B h1 with h2 | h2
  · exact hn h2
  · have := hB.lt; omega
theorem AccRun.old {E : TypeId} {base sz : Nat} {w0 w w' : World} {es : List (List Tr)} {v v' : Value} (h : AccRun E base sz w v w' es v') (hx : Ext w0 w) (hv : ∀ b, v.ownBlock = some b → w0.heap.size ≤ b) : Ext w0 w' := Chg.ext hx h.chg hv

end Go.Proofs.Ytmpepccpnnldoaa

namespace Go.Proofs.Ytmpepccpnnldoaa
set_option linter.unusedSimpArgs false
set_option linter.unusedVariables false
open Go.RowKit

theorem Own.repM {ok : Nat → Nat → Prop} {w : World} {t : Tr} {v : Value} {S : Nat → Prop} (h : Own w t v S) (hk : ∀ b o, S b → b < w.heap.size → ok b o) : RepM ok w t v := by
  induction h with
  | leaf h => exact .leaf h
  | row c T h1 h2 h3 _ h5 h6 ih =>
    refine .row c h1 h2 (fun hne => ?_) (fun i e he j d hd => ih i e he j d hd fun b o hb hl => hk b o (h5 i e he j d hd b hb) hl)
    obtain ⟨b, off, E, arr, ha, hb, hs, hc⟩ := h3 hne
    exact ⟨b, off, ha, hb.lt, fun i e he j d hd => ⟨hk _ _ hs hb.lt, by rw [hb.cell]; exact (hc i e he j d hd).1⟩⟩
/-- A function that is handed data and returns memory of its own computes. -/
theorem AFun.ofFresh {P : Program} {f : FuncId} {args : List PV} {t : Tr} (hfr : freeL args = true) (h : ∀ w vals, RVL0 w args vals → Calls P f ⟨vals⟩ w fun e w' => ∃ v, e = .returned v ∧ Ext w w' ∧ Own w' t v (Between w w')) : AFun P f args (.t t) := fun av m w vals hst hv => by
  refine (h w vals (freeL.rv (fun b o _ _ => ok0 b o) args vals hfr hv)).mono fun e w' => ?_; rintro ⟨v, rfl, hx, ho⟩
  refine ⟨.t t, ⟨[], []⟩, m, v, rfl, ⟨rfl, rfl⟩, StoOk.nil fun b o hb => Nat.lt_of_lt_of_le (hst.avlt b o hb) hx.size, ?_, ?_⟩
  · exact ⟨hx.os, hx.tape, hx.output, hx.size, fun b hb _ _ => hx.block b hb, fun b o hb _ => heap_other_cell (hx.block b hb), fun _ _ _ h => h, fun _ _ h => by simp at h, fun _ _ h => by simp at h, fun _ _ h => by simp at h, fun _ _ _ _ h => by simp at h⟩
  · exact ho.repM fun b o hb _ => ⟨fun ha => by have := hst.avlt b o ha; have := hb.1; omega, fun _ _ h => by simp at h, fun _ _ _ _ h => by simp at h⟩
end Go.Proofs.Ytmpepccpnnldoaa

namespace Go.Proofs.Ytmpepccpnnldoaa
set_option linter.unusedSimpArgs false
set_option linter.unusedVariables false
open Go.RowKit Go.Proofs

theorem RVL.ofGet {ok : Nat → Nat → Prop} {st : Sto} {m : Lay} {w : World} : ∀ {ts : List Tr} {vs : List Value}, vs.length = ts.length → (∀ (j : Nat) (d : Tr), ts[j]? = some d → ∃ v, vs[j]? = some v ∧ RepM ok w d v) → RVL ok st m w (ts.map PV.t) vs
  | [], [], _, _ => trivial
  | [], _ :: _, h, _ => by simp at h
  | _ :: _, [], h, _ => by simp at h
  | t :: ts, v :: vs, h, k => by
    obtain ⟨u, hu, hr⟩ := k 0 t rfl
    simp at hu
    subst hu
    exact ⟨hr, RVL.ofGet (by simpa using h) fun j d hd => by have := k (j + 1) d (by simpa using hd); simpa using this⟩
/-- A function that is handed data and returns a struct of its own making computes. -/
theorem AFun.ofFreshL {P : Program} {f : FuncId} {args : List PV} {ts : List Tr} (hfr : freeL args = true) (h : ∀ w vals, RVL0 w args vals → Calls P f ⟨vals⟩ w fun e w' => ∃ cs, e = .returned (.agg ⟨cs⟩) ∧ Ext w w' ∧ OwnL w' ts cs (Between w w')) : AFun P f args (.agg (ts.map PV.t)) := fun av m w vals hst hv => by
  refine (h w vals (freeL.rv (fun b o _ _ => ok0 b o) args vals hfr hv)).mono fun e w' => ?_; rintro ⟨cs, rfl, hx, ho⟩
  refine ⟨.agg (ts.map PV.t), ⟨[], []⟩, m, .agg ⟨cs⟩, rfl, ⟨rfl, rfl⟩, StoOk.nil fun b o hb => Nat.lt_of_lt_of_le (hst.avlt b o hb) hx.size, ?_, ?_⟩
  · exact ⟨hx.os, hx.tape, hx.output, hx.size, fun b hb _ _ => hx.block b hb, fun b o hb _ => heap_other_cell (hx.block b hb), fun _ _ _ h => h, fun _ _ h => by simp at h, fun _ _ h => by simp at h, fun _ _ h => by simp at h, fun _ _ _ _ h => by simp at h⟩
  · obtain ⟨hl, T, h1, h2, -⟩ := ho
    refine ⟨cs, rfl, RVL.ofGet hl fun j d hd => ?_⟩
    obtain ⟨v, hv, ho⟩ := h1 j d hd
    exact ⟨v, hv, ho.repM fun b o hb _ => ⟨fun ha => by have := hst.avlt b o ha; have := (h2 j d hd b hb).1; omega, fun _ _ h => by simp at h, fun _ _ _ _ h => by simp at h⟩⟩
theorem AFun.ofLeaf {P : Program} {f : FuncId} {args : List PV} {d : Value} (hfr : freeL args = true) (hd : LeafOk d) (h : ∀ w vals, RVL0 w args vals → Calls P f ⟨vals⟩ w fun e w' => e = .returned d ∧ Ext w w') : AFun P f args (.t (.leaf d)) :=
  AFun.ofFresh hfr fun w vals hv => (h w vals hv).mono fun e w' ⟨he, hx⟩ => ⟨d, he, hx, .leaf hd⟩
theorem i64_leaf {n : Int} (h0 : 0 ≤ n) (h1 : n ≤ 9223372036854775807) : LeafOk (.int .i64 n) := by
  have e1 : IntKind.i64.max = 9223372036854775807 := by decide
  have e2 : IntKind.i64.min = -9223372036854775808 := by decide
  show Lit.wf (.int .i64 n) = true
  simp only [Lit.wf, Bool.and_eq_true, decide_eq_true_eq]
  omega
end Go.Proofs.Ytmpepccpnnldoaa

namespace Go.Proofs.Ytmpepccpnnldoaa
open Go.RowKit Go.Proofs

def ToC (f : FuncId) (ts : List Tr) : Prop := ∀ (cs : List Value) (w : World), RepL w ts cs → Tr.bulkL ts ≤ 68719476736 →
  Calls Try.prog f #[.agg ⟨cs⟩] w fun e w' => ∃ cs', e = .returned (.agg ⟨cs'⟩) ∧ Ext w w' ∧ OwnL w' ts cs' (Between w w')
def ToSC (f : FuncId) (sz : Nat) (es : List (List Tr)) : Prop := ∀ (s : Value) (w : World), Rep w (.row sz es) s → es.length + Tr.bulkAll es ≤ 68719476736 →
  Calls Try.prog f #[s] w fun e w' => ∃ s', e = .returned s' ∧ Ext w w' ∧ Own w' (.row sz es) s' (Between w w')
theorem isz3 : (Try.prog.info? 3).map (·.size) = some 1 := by kernel_rfl
theorem iszc9 : (Try.prog.info? 9).map (fun i => (i.zero.map (fun z => z.cells.size), i.size, i.bytes)) = some (some 1, 1, 16) := by kernel_rfl
theorem isz24 : (Try.prog.info? 24).map (·.size) = some 1 := by kernel_rfl
theorem isz25 : (Try.prog.info? 25).map (·.size) = some 1 := by kernel_rfl
theorem isz27 : (Try.prog.info? 27).map (·.size) = some 3 := by kernel_rfl
theorem iszb27 : (Try.prog.info? 27).map (fun i => (i.zero.isSome, i.size, i.bytes)) = some (true, 3, 48) := by kernel_rfl
theorem isz41 : (Try.prog.info? 41).map (·.size) = some 4 := by kernel_rfl
theorem isz104 : (Try.prog.info? 104).map (·.size) = some 4 := by kernel_rfl
theorem iszc104 : (Try.prog.info? 104).map (fun i => (i.zero.map (fun z => z.cells.size), i.size, i.bytes)) = some (some 4, 4, 64) := by kernel_rfl
end Go.Proofs.Ytmpepccpnnldoaa
