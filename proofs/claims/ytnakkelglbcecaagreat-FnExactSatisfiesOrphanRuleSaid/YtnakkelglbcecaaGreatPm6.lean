/- Saying less; ends of functions; calls that are handed no box and no row of ours. No conditions. -/
import Derived.Test.YtnakkelglbcecaaGreatPm5
namespace Go.Proofs.YtnakkelglbcecaaGreat
set_option linter.unusedSimpArgs false
set_option linter.unusedVariables false
open Go.RowKit Go.WalkArith Go.IntWalk Go.WideShapes

mutual
inductive PV.Le : PV → PV → Prop
  | refl (p : PV) : PV.Le p p
  | nil (sz : Nat) : PV.Le .nil (.t (.row sz []))
  | acc (sz : Nat) (es : List (List Tr)) (r : Nat) : PV.Le (.acc sz es r) (.t (.row sz es))
  | agg {ps qs : List PV} : LeL ps qs → PV.Le (.agg ps) (.agg qs)
  | tup {ps qs : List PV} : LeL ps qs → PV.Le (.tup ps) (.tup qs)
inductive LeL : List PV → List PV → Prop
  | nil : LeL [] []
  | cons {p q : PV} {ps qs : List PV} : PV.Le p q → LeL ps qs → LeL (p :: ps) (q :: qs)
end
mutual
theorem PV.Le.rv {ok : Nat → Nat → Prop} {st : Sto} {m : Lay} {w : World} : ∀ {p q : PV} {v : Value}, PV.Le p q → RV ok st m w p v → RV ok st m w q v
  | _, _, _, .refl _, h => h
  | _, _, _, .nil _, h => by
    obtain rfl := (show _ = _ from h)
    exact RepM.row (es := []) (fun _ _ => undef) (by simp) (by unfold maxLen; omega) (by simp) (by simp)
  | _, _, _, .acc _ _ _, h => by
    obtain ⟨row, -, -, -, h4, -⟩ := h
    exact h4
  | _, _, _, .agg k, h => by
    obtain ⟨vs, hv, h1⟩ := h
    exact ⟨vs, hv, LeL.rv k h1⟩
  | _, _, _, .tup k, h => by
    obtain ⟨vs, hv, h1⟩ := h
    exact ⟨vs, hv, LeL.rv k h1⟩
theorem LeL.rv {ok : Nat → Nat → Prop} {st : Sto} {m : Lay} {w : World} : ∀ {ps qs : List PV} {vs : List Value}, LeL ps qs → RVL ok st m w ps vs → RVL ok st m w qs vs
  | _, _, [], .nil, h => h
  | _, _, _ :: _, .nil, h => h.elim
  | _, _, [], .cons _ _, h => h.elim
  | _, _, _ :: _, .cons k1 k2, h => ⟨PV.Le.rv k1 h.1, LeL.rv k2 h.2⟩
end

mutual
/-- What the value leans on is there. -/
def PV.okIn (st : Sto) : PV → Bool
  | .t _ => true
  | .agg cs => okInL st cs
  | .tup cs => okInL st cs
  | .nil => true
  | .acc _ _ r => decide (r < st.rows.length)
  | .ptr k _ => match st.boxes[k]? with | some (some _) => true | _ => false
  | .eptr _ => true
  | .fn _ cs => okInL st cs
  | .full _ _ r => decide (r < st.rows.length)
  | .rptr r _ => decide (r < st.rows.length)
def okInL (st : Sto) : List PV → Bool
  | [] => true
  | p :: ps => PV.okIn st p && okInL st ps
end

/-- A store that says less. -/
structure StLe (st st' : Sto) : Prop where
  boxes : ∀ (k : Nat) (x' : PBox), st'.boxes[k]? = some (some x') → ∃ x : PBox, st.boxes[k]? = some (some x) ∧ x.ty = x'.ty ∧ LeL x.cells x'.cells ∧ okInL st' x'.cells = true
  rows : ∀ (r : Nat) (row' : PRow), st'.rows[r]? = some row' → st.rows[r]? = some row'
theorem StLe.ok {av : Nat → Nat → Prop} {st st' : Sto} (h : StLe st st') {m : Lay} {b o : Nat} (k : okA av st m b o) : okA av st' m b o :=
  ⟨k.1, fun i x hi => by obtain ⟨y, hy, -⟩ := h.boxes i x hi; exact k.2.1 i y hy, fun r row g c hr => k.2.2 r row g c (h.rows r row hr)⟩
theorem get_of_lt {α : Type} {l : List α} {i : Nat} (h : i < l.length) : ∃ x, l[i]? = some x := ⟨l[i], List.getElem?_eq_getElem h⟩
mutual
theorem StLe.rv {av : Nat → Nat → Prop} {st st' : Sto} (h : StLe st st') {m : Lay} {w : World} : ∀ (p : PV) (v : Value), PV.okIn st' p = true → RV (okA av st m) st m w p v → RV (okA av st' m) st' m w p v
  | .t t, v, _, hr => RepM.mono hr (Nat.le_refl _) (fun _ _ _ k => h.ok k) (fun _ _ _ _ => rfl)
  | .agg cs, v, hk, hr => by
    obtain ⟨vs, rfl, hl⟩ := hr
    exact ⟨vs, rfl, StLe.rvL h cs vs hk hl⟩
  | .tup cs, v, hk, hr => by
    obtain ⟨vs, rfl, hl⟩ := hr
    exact ⟨vs, rfl, StLe.rvL h cs vs hk hl⟩
  | .nil, v, _, hr => hr
  | .acc sz es r, v, hk, hr => by
    obtain ⟨row, h1, h2, h3, h4, h5⟩ := hr
    obtain ⟨row', hr'⟩ := get_of_lt (of_decide_eq_true hk)
    have := h.rows r row' hr'
    rw [h1] at this
    cases this
    exact ⟨row, hr', h2, h3, RepM.mono h4 (Nat.le_refl _) (fun _ _ _ k => h.ok k) (fun _ _ _ _ => rfl), h5⟩
  | .ptr k off, v, hk, hr => by
    obtain ⟨-, hv⟩ := hr
    refine ⟨?_, hv⟩
    simp only [PV.okIn] at hk
    split at hk
    · rename_i x hx
      exact ⟨x, hx⟩
    · cases hk
  | .eptr cs, v, _, hr => by
    obtain ⟨b, off, h1, hb, c, h2⟩ := hr
    refine ⟨b, off, h1, hb, c, fun j d hd => ?_⟩
    obtain ⟨k1, k2, k3⟩ := h2 j d hd
    exact ⟨h.ok k1, k2, RepM.mono k3 (Nat.le_refl _) (fun _ _ _ k => h.ok k) (fun _ _ _ _ => rfl)⟩
  | .fn f caps, v, hk, hr => by
    obtain ⟨vs, rfl, hl⟩ := hr
    exact ⟨vs, rfl, StLe.rvL h caps vs hk hl⟩
  | .full sz n r, v, hk, hr => by
    obtain ⟨row, g, h1, h2, h3, h4, h5⟩ := hr
    obtain ⟨row', hr'⟩ := get_of_lt (of_decide_eq_true hk)
    have := h.rows r row' hr'
    rw [h1] at this
    cases this
    exact ⟨row, g, hr', h2, h3, h4, h5⟩
  | .rptr r i, v, hk, hr => by
    obtain ⟨row, g, n, h1, h3, h4, h5⟩ := hr
    obtain ⟨row', hr'⟩ := get_of_lt (of_decide_eq_true hk)
    have := h.rows r row' hr'
    rw [h1] at this
    cases this
    exact ⟨row, g, n, hr', h3, h4, h5⟩
theorem StLe.rvL {av : Nat → Nat → Prop} {st st' : Sto} (h : StLe st st') {m : Lay} {w : World} : ∀ (ps : List PV) (vs : List Value), okInL st' ps = true → RVL (okA av st m) st m w ps vs → RVL (okA av st' m) st' m w ps vs
  | [], [], _, hr => hr
  | p :: ps, v :: vs, hk, hr => by
    simp only [okInL, Bool.and_eq_true] at hk
    exact ⟨StLe.rv h p v hk.1 hr.1, StLe.rvL h ps vs hk.2 hr.2⟩
  | [], _ :: _, _, hr => hr.elim
  | _ :: _, [], _, hr => hr.elim
end
theorem StLe.sto {av : Nat → Nat → Prop} {st st' : Sto} (h : StLe st st') {m : Lay} {w : World} (k : StoOk av st m w) : StoOk av st' m w where
  box := fun i x hi => by
    obtain ⟨y, hy, ht, hl, hk⟩ := h.boxes i x hi
    obtain ⟨vs, h1, h2⟩ := k.box i y hy
    exact ⟨vs, by rw [← ht]; exact h1, StLe.rvL h _ _ hk (LeL.rv hl h2)⟩
  binj := fun i i' x x' hi hi' => by
    obtain ⟨y, hy, -⟩ := h.boxes i x hi
    obtain ⟨y', hy', -⟩ := h.boxes i' x' hi'
    exact k.binj i i' y y' hy hy'
  row := fun r row hr => by
    obtain ⟨h1, h2, h3⟩ := k.row r row (h.rows r row hr)
    refine ⟨h1, h2, ?_⟩
    rcases h3 with h3 | ⟨g, c, cur, q1, q2, q3, q4, q5, q6⟩
    · exact .inl h3
    · exact .inr ⟨g, c, cur, q1, q2, q3, q4, q5, RepM.mono q6 (Nat.le_refl _) (fun _ _ _ k => h.ok k) (fun _ _ _ _ => rfl)⟩
  rinj := fun r r' row row' g c c' hr hr' => k.rinj r r' row row' g c c' (h.rows r row hr) (h.rows r' row' hr')
  br := fun i x r row g c hi hr => by
    obtain ⟨y, hy, -⟩ := h.boxes i x hi
    exact k.br i y r row g c hy (h.rows r row hr)
  avlt := k.avlt
  avr := fun r row g c hr => k.avr r row g c (h.rows r row hr)

/-- The boxes and rows that were handed in are still there. -/
def Keeps0 (pre st' : Sto) : Prop := (∀ (k : Nat) (x : PBox), pre.boxes[k]? = some (some x) → ∃ x' : PBox, st'.boxes[k]? = some (some x')) ∧ (∀ (r : Nat) (row : PRow), pre.rows[r]? = some row → ∃ row' : PRow, st'.rows[r]? = some row')
theorem StLe.ev {pre st st' : Sto} (h : StLe st st') {m0 m : Lay} {w0 w : World} (k : Ev pre m0 w0 st m w) (hp : Keeps0 pre st') : Ev pre m0 w0 st' m w where
  os := k.os
  tape := k.tape
  output := k.output
  size := k.size
  blk := k.blk
  cell := k.cell
  okk := fun b o hb ho => (h.ok (av := fun _ _ => False) ⟨id, k.okk b o hb ho⟩).2
  live := fun i x hi => ⟨hp.1 i x hi, (k.live i x hi).2⟩
  fresh := fun i x' hi => by
    obtain ⟨y, hy, -⟩ := h.boxes i x' hi
    exact k.fresh i y hy
  rowl := fun r row hr => by
    obtain ⟨row', hr'⟩ := hp.2 r row hr
    obtain ⟨row2, h1, h2⟩ := k.rowl r row hr
    have := h.rows r row' hr'
    rw [h1] at this
    cases this
    exact ⟨_, hr', h2⟩
  rfresh := fun r row' g c hr hg => k.rfresh r row' g c (h.rows r row' hr) hg

/-- Each entry that is kept says no more than before. -/
def EnvLe (s : AS) (st' : Sto) : List (Nat × PV) → Prop
  | [] => True
  | (i, q) :: l => (∃ p, s.lk i = some p ∧ PV.Le p q ∧ PV.okIn st' q = true) ∧ EnvLe s st' l
theorem EnvLe.get {s : AS} {st' : Sto} : ∀ {l : List (Nat × PV)} {i : Nat} {q : PV}, EnvLe s st' l → l.lookup i = some q → ∃ p, s.lk i = some p ∧ PV.Le p q ∧ PV.okIn st' q = true
  | [], _, _, _, h => by simp at h
  | (k, p) :: l, i, q, hl, h => by
    rw [List.lookup_cons] at h
    by_cases hik : i = k
    · subst hik
      simp at h
      subst h
      exact hl.1
    · rw [show (i == k) = false by simp [hik]] at h
      exact EnvLe.get hl.2 h
theorem Wk.mk {C : Ctx} {n : Nat} {s s' : AS} (hst : StLe s.st s'.st) (hp : Keeps0 C.st s'.st) (he : EnvLe s s'.st s'.env) : Wk C n s s' := fun m a w h =>
  ⟨m, h.dfr, h.tsz, hst.sto h.sto, fun i q hq => by
    obtain ⟨p, h1, h2, h3⟩ := he.get hq
    obtain ⟨v, hv, hr⟩ := h.env i p h1
    exact ⟨v, hv, hst.rv q v h3 (h2.rv hr)⟩, hst.ev h.ev hp⟩

/-- Box by box. -/
def BoxLe (st' : Sto) : List (Option PBox) → List (Option PBox) → Prop
  | _, [] => True
  | _ :: xs, none :: ys => BoxLe st' xs ys
  | some x :: xs, some y :: ys => (x.ty = y.ty ∧ LeL x.cells y.cells ∧ okInL st' y.cells = true) ∧ BoxLe st' xs ys
  | _, _ => False
theorem BoxLe.get {st' : Sto} : ∀ {xs ys : List (Option PBox)}, BoxLe st' xs ys → ∀ (k : Nat) (y : PBox), ys[k]? = some (some y) → ∃ x : PBox, xs[k]? = some (some x) ∧ x.ty = y.ty ∧ LeL x.cells y.cells ∧ okInL st' y.cells = true
  | _, [], _, k, y, h => by simp at h
  | [], none :: ys, hl, k, y, h => hl.elim
  | x :: xs, none :: ys, hl, 0, y, h => by simp at h
  | none :: xs, none :: ys, hl, k + 1, y, h => by simpa using BoxLe.get (xs := xs) hl k y (by simpa using h)
  | some _ :: xs, none :: ys, hl, k + 1, y, h => by simpa using BoxLe.get (xs := xs) hl k y (by simpa using h)
  | some x :: xs, some z :: ys, hl, 0, y, h => by
    simp at h
    subst h
    exact ⟨x, rfl, hl.1⟩
  | some x :: xs, some z :: ys, hl, k + 1, y, h => by simpa using BoxLe.get (xs := xs) hl.2 k y (by simpa using h)
  | [], some _ :: _, hl, _, _, _ => hl.elim
  | none :: _, some _ :: _, hl, _, _, _ => hl.elim
theorem StLe.mk' {st st' : Sto} (hb : BoxLe st' st.boxes st'.boxes) (hr : st.rows.take st'.rows.length = st'.rows) : StLe st st' :=
  ⟨hb.get, fun r row' h => by
    rw [← hr, List.getElem?_take] at h
    split at h
    · exact h
    · cases h⟩
theorem Keeps0.nil {st' : Sto} : Keeps0 ⟨[], []⟩ st' := ⟨fun _ _ h => by simp at h, fun _ _ h => by simp at h⟩

/-! ### Ends -/
def ResOk (P : Program) (s : AS) : ResultVar → PV → Prop
  | .tmp i, p => s.lk i = some p
  | .cell a T, p => ∃ k bx z, s.lk a = some (.ptr k 0) ∧ s.st.boxes[k]? = some (some bx) ∧ shapeOf P T = some (true, z) ∧ bx.cells.length = z ∧ p = .agg bx.cells
def ResL (P : Program) (s : AS) : List ResultVar → List PV → Prop
  | [], [] => True
  | r :: rs, p :: ps => ResOk P s r p ∧ ResL P s rs ps
  | _, _ => False
section
variable {P : Program} {C : Ctx} {n : Nat} {s : AS}
def resOne (tmps : Array Value) : ResultVar → Sem Value
  | .tmp t => pure (tmps.getD t undef)
  | .cell a t => do loadVar t (← asAddr (tmps.getD a undef))
theorem ResOk.run {m : Lay} {a : Act} {w : World} (h : RA C n s m a w) {r : ResultVar} {p : PV} (hr : ResOk P s r p) : ∃ v, (resOne a.tmps r).run P w = .ok v w ∧ RV (okA C.av s.st m) s.st m w p v := by
  cases r with
  | tmp i =>
    obtain ⟨v, hv, hr⟩ := h.env i p hr
    exact ⟨v, by simp [resOne, Array.getD_eq_getD_getElem?, hv], hr⟩
  | cell i T =>
    obtain ⟨k, bx, z, h1, h2, h3, h4, rfl⟩ := hr
    obtain ⟨v, hv, -, rfl⟩ := h.env i _ h1
    obtain ⟨vs, h5, h6⟩ := h.sto.box k bx h2
    refine ⟨.agg ⟨vs⟩, ?_, vs, rfl, h6⟩
    have hld := run_loadVar_agg (P := P) (T := T) (b := m.ρ k) (off := 0) (cs := vs) (w := w) (by rw [← h6.length, h4]; exact h3) (fun j v hj => by rw [h5.cell, Nat.zero_add]; simpa using hj)
    simp [resOne, Array.getD_eq_getD_getElem?, hv, asAddr, hld]
theorem mapM_list {α : Type} (f : α → Sem Value) (w : World) : ∀ (l : List α) (vs : List Value), (∀ (i : Nat) x v, l[i]? = some x → vs[i]? = some v → (f x).run P w = .ok v w) → l.length = vs.length → (l.mapM f).run P w = .ok vs w
  | [], [], _, _ => by simp
  | x :: l, v :: vs, h, hl => by
    rw [List.mapM_cons, Sem.run_bind, h 0 x v rfl rfl, Result.andThen_ok, Sem.run_bind, mapM_list f w l vs (fun i y u hy hu => h (i + 1) y u (by simpa using hy) (by simpa using hu)) (by simpa using hl), Result.andThen_ok]
    simp
  | [], _ :: _, _, h => by simp at h
  | _ :: _, [], _, h => by simp at h
theorem ResL.run {m : Lay} {a : Act} {w : World} (h : RA C n s m a w) : ∀ {rs : List ResultVar} {ps : List PV}, ResL P s rs ps → ∃ vs, RVL (okA C.av s.st m) s.st m w ps vs ∧ vs.length = rs.length ∧ ∀ (i : Nat) r v, rs[i]? = some r → vs[i]? = some v → (resOne a.tmps r).run P w = .ok v w
  | [], [], _ => ⟨[], trivial, rfl, by simp⟩
  | r :: rs, p :: ps, hr => by
    obtain ⟨v, h1, h2⟩ := hr.1.run h
    obtain ⟨vs, k1, k2, k3⟩ := ResL.run h hr.2
    refine ⟨v :: vs, ⟨h2, k1⟩, by simp [k2], fun i x u hx hu => ?_⟩
    cases i with
    | zero => simp at hx hu; subst hx hu; exact h1
    | succ i => exact k3 i x u (by simpa using hx) (by simpa using hu)
  | [], _ :: _, h => h.elim
  | _ :: _, [], h => h.elim
theorem results_run {fn : Func} {tmps : Array Value} {vs : List Value} {w : World} (hl : vs.length = fn.results.toList.length) (h : ∀ (i : Nat) r v, fn.results.toList[i]? = some r → vs[i]? = some v → (resOne tmps r).run P w = .ok v w) :
    (results fn tmps).run P w = .ok (if h : vs.length = 1 then vs[0] else .tuple ⟨vs⟩) w := by
  have hm := mapM_list (P := P) (resOne tmps) w fn.results.toList vs h hl.symm
  have e : (fn.results.mapM (resOne tmps)).run P w = .ok ⟨vs⟩ w := by
    rw [← Array.toArray_toList (xs := fn.results), List.mapM_toArray]
    simp [hm]
  have e2 : results fn tmps = (do let vs ← fn.results.mapM (resOne tmps); pure (if h : vs.size = 1 then vs[0] else .tuple vs)) := by
    unfold results
    congr
  rw [e2, Sem.run_bind, e, Result.andThen_ok]
  simp

theorem Ends.mk {fn : Func} {R : PV → Sto → Prop} {e : Exit} {ps : List PV} {res q : PV} {st' : Sto} (he : e = .normal ∨ e = .ret) (hr : ResL P s fn.results.toList ps) (hres : (match ps with | [p] => p | ps => .tup ps) = res)
    (hst : StLe s.st st') (hp : Keeps0 C.st st') (hle : PV.Le res q) (hk : PV.okIn st' q = true) (hR : R q st') : Ends P C n fn R e s := by
  refine ⟨he, fun m a w h => ?_⟩
  obtain ⟨vs, h1, h2, h3⟩ := hr.run h
  refine ⟨q, st', m, _, results_run h2 h3, hR, hst.sto h.sto, hst.ev h.ev hp, hst.rv q _ hk (hle.rv ?_)⟩
  subst hres
  match ps, vs, h1 with
  | [p], [v], h1 => exact h1.1
  | [], [], h1 => exact ⟨[], rfl, trivial⟩
  | p :: p' :: ps, v :: v' :: vs, h1 => exact ⟨_, by simp, h1⟩
end

/-! ### Calls without boxes and rows of ours -/
theorem ACalls.mono {P : Program} {f : FuncId} {args : List PV} {pre : Sto} {R R' : PV → Sto → Prop} (h : ACalls P f args pre R) (hr : ∀ r st, R r st → R' r st) : ACalls P f args pre R' := fun av m w vals h1 h2 =>
  (h av m w vals h1 h2).mono fun e w' => by
    rintro ⟨res, st', m', v, k1, k2, k3⟩
    exact ⟨res, st', m', v, k1, hr _ _ k2, k3⟩

/-- The function computes: it is handed data, and returns 'res'. -/
def AFun (P : Program) (f : FuncId) (args : List PV) (res : PV) : Prop := ACalls P f args ⟨[], []⟩ (fun r st' => r = res ∧ st' = ⟨[], []⟩)

mutual
def PV.free : PV → Bool
  | .t _ => true
  | .agg cs => freeL cs
  | .tup cs => freeL cs
  | .nil => true
  | .eptr _ => true
  | .fn _ cs => freeL cs
  | _ => false
def freeL : List PV → Bool
  | [] => true
  | p :: ps => PV.free p && freeL ps
end
mutual
theorem PV.free.rv {ok ok' : Nat → Nat → Prop} {st st' : Sto} {m m' : Lay} {w : World} (hk : ∀ b o, b < w.heap.size → ok b o → ok' b o) : ∀ (p : PV) (v : Value), PV.free p = true → RV ok st m w p v → RV ok' st' m' w p v
  | .t t, v, _, hr => RepM.mono hr (Nat.le_refl _) hk (fun _ _ _ _ => rfl)
  | .agg cs, v, hf, hr => by
    obtain ⟨vs, rfl, hl⟩ := hr
    exact ⟨vs, rfl, freeL.rv hk cs vs hf hl⟩
  | .tup cs, v, hf, hr => by
    obtain ⟨vs, rfl, hl⟩ := hr
    exact ⟨vs, rfl, freeL.rv hk cs vs hf hl⟩
  | .nil, v, _, hr => hr
  | .eptr cs, v, _, hr => by
    obtain ⟨b, off, h1, hb, c, h2⟩ := hr
    refine ⟨b, off, h1, hb, c, fun j d hd => ?_⟩
    obtain ⟨k1, k2, k3⟩ := h2 j d hd
    exact ⟨hk _ _ hb k1, k2, RepM.mono k3 (Nat.le_refl _) hk (fun _ _ _ _ => rfl)⟩
  | .fn f cs, v, hf, hr => by
    obtain ⟨vs, rfl, hl⟩ := hr
    exact ⟨vs, rfl, freeL.rv hk cs vs hf hl⟩
  | .acc _ _ _, _, hf, _ => by cases hf
  | .ptr _ _, _, hf, _ => by cases hf
  | .full _ _ _, _, hf, _ => by cases hf
  | .rptr _ _, _, hf, _ => by cases hf
theorem freeL.rv {ok ok' : Nat → Nat → Prop} {st st' : Sto} {m m' : Lay} {w : World} (hk : ∀ b o, b < w.heap.size → ok b o → ok' b o) : ∀ (ps : List PV) (vs : List Value), freeL ps = true → RVL ok st m w ps vs → RVL ok' st' m' w ps vs
  | [], [], _, hr => hr
  | p :: ps, v :: vs, hf, hr => by
    simp only [freeL, Bool.and_eq_true] at hf
    exact ⟨PV.free.rv hk p v hf.1 hr.1, freeL.rv hk ps vs hf.2 hr.2⟩
  | [], _ :: _, _, hr => hr.elim
  | _ :: _, [], _, hr => hr.elim
end
theorem StoOk.nil {av : Nat → Nat → Prop} {m : Lay} {w : World} (h : ∀ b o, av b o → b < w.heap.size) : StoOk av ⟨[], []⟩ m w :=
  ⟨fun _ _ h => by simp at h, fun _ _ _ _ h => by simp at h, fun _ _ h => by simp at h, fun _ _ _ _ _ _ _ h => by simp at h, fun _ _ _ _ _ _ h => by simp at h, h, fun _ _ _ _ h => by simp at h⟩
theorem okA_new {av : Nat → Nat → Prop} {st : Sto} {m : Lay} {w : World} (h : StoOk av st m w) {b : Nat} (hb : w.heap.size ≤ b) (o : Nat) : okA av st m b o :=
  ⟨fun ha => by have := h.avlt _ _ ha; omega, fun k x hk e => by have := h.box_lt hk; omega, fun r row g c hr hg e => by have := h.row_lt hr hg; omega⟩

section
variable {P : Program} {C : Ctx} {n : Nat} {s : AS} {o : Oper}
theorem evL {m : Lay} {a : Act} {w : World} (h : RA C n s m a w) : ∀ {xs : List Operand} {ps : List PV}, xs.map s.ev = ps.map some → RVL (okA C.av s.st m) s.st m w ps (xs.map a.eval)
  | [], [], _ => trivial
  | x :: xs, p :: ps, hx => by
    simp only [List.map_cons, List.cons.injEq] at hx
    exact ⟨h.eval hx.1, evL h hx.2⟩
  | [], _ :: _, hx => by simp at hx
  | _ :: _, [], hx => by simp at hx

/-- The callee's view of a memory in which everything of ours is shut. -/
def shut (C : Ctx) (s : AS) (m : Lay) (w : World) (b o : Nat) : Prop := b < w.heap.size ∧ ¬ okA C.av s.st m b o
theorem AOp.enter {f : FuncId} {fn : Func} {ps qs : List PV} {res : PV} (hd : dstOk o.dst n = true) (_hf : P.funcs[f]? = some fn) (_hnm : (fn.name == "runtime.NumGoroutine") = false) (_hb : fn.body.isNone = false)
    (hrun : ∀ m a w, RA C n s m a w → ∃ vals, (execOp a.eval o).run P w = .ok (.enter f ⟨vals⟩) w ∧ RVL (okA C.av s.st m) s.st m w ps vals) (hle : LeL ps qs) (hfr : freeL qs = true) (hfr' : PV.free res = true) (hc : AFun P f qs res) :
    AOp P C n o s (s.putO o.dst res) := fun m a w h K Q hK => by
  obtain ⟨vals, h1, h2⟩ := hrun m a w h
  unfold Oper.wp
  rw [h1]
  have h3 := hc (shut C s m w) m w vals (StoOk.nil fun b o hb => hb.1) (freeL.rv (fun b o hb hk => ⟨fun hs => hs.2 hk, fun _ _ h => by simp at h, fun _ _ _ _ h => by simp at h⟩) _ _ hfr (LeL.rv hle h2))
  refine Calls.mono h3 fun e w' => ?_
  rintro ⟨r, st', m', v, rfl, ⟨rfl, rfl⟩, h4, h5, h6⟩
  have hx : Ext w w' := ⟨h5.os, h5.tape, h5.output, h5.size, fun b hb => h5.blk b hb (fun _ _ h => by simp at h) (fun _ _ _ _ h => by simp at h)⟩
  have hk : ∀ b o, b < w'.heap.size → okA (shut C s m w) ⟨[], []⟩ m' b o → okA C.av s.st m b o := fun b o hb hk => by
    rcases Nat.lt_or_ge b w.heap.size with hlt | hge
    · exact Classical.byContradiction fun hn => hk.1 ⟨hlt, hn⟩
    · exact okA_new h.sto hge o
  exact hK m _ w' ((h.step (Ev.later hx) (h.sto.later hx)).put (dstOk_lt hd) (PV.free.rv hk _ _ hfr' h6))
theorem AOp.callF {f : FuncId} {fn : Func} {xs : List Operand} {ts : Array TypeId} {ps qs : List PV} {res : PV} (ho : o.op = .call { callee := .value (.func f), args := ⟨xs⟩, argTypes := ts }) (hd : dstOk o.dst n = true) (hf : P.funcs[f]? = some fn) (hnm : (fn.name == "runtime.NumGoroutine") = false) (hb : fn.body.isNone = false)
    (hx : xs.map s.ev = ps.map some) (hle : LeL ps qs) (hfr : freeL qs = true) (hfr' : PV.free res = true) (hc : AFun P f qs res) : AOp P C n o s (s.putO o.dst res) :=
  AOp.enter hd hf hnm hb (fun m a w h => ⟨xs.map a.eval, by
    have hcf := run_callFunc_body (P := P) hf hnm hb
    unfold execOp
    simp only [ho]
    simp [resolve, invoke, Deferred.ofValue, Act.eval, hcf], evL h hx⟩) hle hfr hfr' hc
/-- A call of a function value, its captured values behind the arguments. -/
theorem AOp.callV {y : Operand} {f : FuncId} {fn : Func} {xs : List Operand} {ts : Array TypeId} {ps cs qs : List PV} {res : PV} (ho : o.op = .call { callee := .value y, args := ⟨xs⟩, argTypes := ts }) (hd : dstOk o.dst n = true) (hy : s.ev y = some (.fn f cs)) (hf : P.funcs[f]? = some fn) (hnm : (fn.name == "runtime.NumGoroutine") = false) (hb : fn.body.isNone = false)
    (hx : xs.map s.ev = ps.map some) (hle : LeL (ps ++ cs) qs) (hfr : freeL qs = true) (hfr' : PV.free res = true) (hc : AFun P f qs res) : AOp P C n o s (s.putO o.dst res) :=
  AOp.enter hd hf hnm hb (ps := ps ++ cs) (fun m a w h => by
    obtain ⟨vs, h1, h2⟩ := h.eval hy
    refine ⟨xs.map a.eval ++ vs, ?_, RVL.append (evL h hx) h2⟩
    have hcf := run_callFunc_body (P := P) hf hnm hb
    unfold execOp
    simp only [ho]
    simp [resolve, invoke, Deferred.ofValue, h1, hcf]) hle hfr hfr' hc
end
end Go.Proofs.YtnakkelglbcecaaGreat
