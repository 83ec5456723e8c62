/- Slices and structs that are built, on abstract states. No conditions. -/
import Derived.Test.YtnakkelglbcecaaGreatPm7
import Derived.Great.BuildSlice
namespace Go.Proofs.YtnakkelglbcecaaGreat
set_option linter.unusedSimpArgs false
set_option linter.unusedVariables false
open Go.RowKit Go.WalkArith Go.IntWalk Go.WideShapes

theorem ev_newRow {av : Nat → Nat → Prop} {st : Sto} {m : Lay} {w : World} {row : PRow} {c : Nat} {cur : Array Value} (_hst : StoOk av st m w) : Ev st m w (st.addRow row) ⟨m.ρ, upd m.γ st.rows.length (some (w.heap.size, c))⟩ (w.alloc (.cells cur row.E)) := by
  have hx : Ext w (w.alloc (.cells cur row.E)) := .alloc (.refl _) _
  refine ⟨hx.os, hx.tape, hx.output, hx.size, fun b hb _ _ => hx.block b hb, fun b o hb _ => heap_other_cell (hx.block b hb), fun b o hb h => ⟨h.1, fun i row' g c' hi hg e => ?_⟩, fun _ x h => ⟨⟨x, h⟩, rfl⟩, fun _ x h => .inl ⟨x, h⟩, fun i row' hi => ⟨row', ?_, rfl, Nat.le_refl _, fun _ => ?_, fun hw => ⟨hw, ?_⟩⟩, fun i row' g c' hi hg => ?_⟩
  · rcases getElem?_snoc hi with ⟨h1, h2⟩ | ⟨rfl, rfl⟩
    · simp only [upd_ne (show i ≠ st.rows.length by omega)] at hg
      exact h.2 i row' g c' h2 hg e
    · simp only [upd_same, Option.some.injEq, Prod.mk.injEq] at hg
      omega
  · show (st.rows ++ [row])[i]? = _
    rw [List.getElem?_append_left (get_lt hi)]; exact hi
  · exact upd_ne (by have := get_lt hi; omega)
  · exact upd_ne (by have := get_lt hi; omega)
  · rcases getElem?_snoc hi with ⟨h1, h2⟩ | ⟨rfl, rfl⟩
    · simp only [upd_ne (show i ≠ st.rows.length by omega)] at hg
      exact .inl ⟨row', c', h2, hg⟩
    · simp only [upd_same, Option.some.injEq, Prod.mk.injEq] at hg
      exact .inr (by omega)
theorem RepM.nilRow (ok : Nat → Nat → Prop) (w : World) (sz : Nat) (a : Option Addr) {c : Nat} (hc : c ≤ maxLen) : RepM ok w (.row sz []) (.slice a 0 c) := RepM.row (es := []) (fun _ _ => undef) (by simp) hc (by simp) (by simp)
theorem sto_newRow {av : Nat → Nat → Prop} {st : Sto} {m : Lay} {w : World} {row : PRow} {c : Nat} {cur : Array Value} (h : StoOk av st m w) (hp : 0 < row.sz) (he : row.es = []) (hc : cur.size = c * row.sz) (hm : c ≤ maxLen) :
    StoOk av (st.addRow row) ⟨m.ρ, upd m.γ st.rows.length (some (w.heap.size, c))⟩ (w.alloc (.cells cur row.E)) := by
  have hx : Ext w (w.alloc (.cells cur row.E)) := .alloc (.refl _) _
  have ev := ev_newRow (row := row) (c := c) (cur := cur) h
  have key : ∀ i row' g c', (st.addRow row).rows[i]? = some row' → upd m.γ st.rows.length (some (w.heap.size, c)) i = some (g, c') → (i < st.rows.length ∧ st.rows[i]? = some row' ∧ m.γ i = some (g, c')) ∨ (i = st.rows.length ∧ g = w.heap.size) := fun i row' g c' hi hg => by
    rcases getElem?_snoc hi with ⟨h1, h2⟩ | ⟨rfl, rfl⟩
    · rw [upd_ne (show i ≠ st.rows.length by omega)] at hg
      exact .inl ⟨h1, h2, hg⟩
    · simp only [upd_same, Option.some.injEq, Prod.mk.injEq] at hg
      exact .inr ⟨rfl, hg.1.symm⟩
  refine ⟨fun k x hk => ?_, h.binj, fun i row' hi => ?_, fun i i' row' row'' g c' c'' hi hi' hg hg' => ?_, fun k x i row' g c' hk hi hg => ?_, fun b o hb => Nat.lt_of_lt_of_le (h.avlt b o hb) hx.size, fun i row' g c' hi hg o => ?_⟩
  · obtain ⟨vs, k1, k2⟩ := h.box k x hk
    exact ⟨vs, k1.ext hx, RVL.mono ev _ _ k2⟩
  · rcases getElem?_snoc hi with ⟨h1, h2⟩ | ⟨rfl, rfl⟩
    · obtain ⟨k1, k2, k3⟩ := h.row i row' h2
      refine ⟨k1, k2, ?_⟩
      simp only [upd_ne (show i ≠ st.rows.length by omega)]
      rcases k3 with k3 | ⟨g, c', cur', q1, q2, q3, q4, q5, q6⟩
      · exact .inl k3
      · exact .inr ⟨g, c', cur', q1, q2.ext hx, q3, q4, q5, RV.mono ev (.t _) _ q6⟩
    · exact ⟨hp, by rw [he]; simp, .inr ⟨w.heap.size, c, cur, upd_same _ _ _, OB.new w _ _, hc, by rw [he]; simp, hm, by rw [he]; exact RepM.nilRow _ _ _ _ hm⟩⟩
  · rcases key i row' g c' hi hg with ⟨h0, h1, h2⟩ | ⟨h1, h2⟩ <;> rcases key i' row'' g c'' hi' hg' with ⟨h0', h1', h2'⟩ | ⟨h1', h2'⟩
    · exact h.rinj i i' row' row'' g c' c'' h1 h1' h2 h2'
    · have := h.row_lt h1 h2; omega
    · have := h.row_lt h1' h2'; omega
    · omega
  · rcases key i row' g c' hi hg with ⟨h0, h1, h2⟩ | ⟨h1, h2⟩
    · exact h.br k x i row' g c' hk h1 h2
    · have := h.box_lt hk
      show m.ρ k ≠ g
      omega
  · rcases key i row' g c' hi hg with ⟨h0, h1, h2⟩ | ⟨h1, h2⟩
    · exact h.avr i row' g c' h1 h2 o
    · intro ha
      have := h.avlt _ _ ha
      omega

/-! ### Filling -/
theorem foldl_splice (off : Nat) : ∀ (l : List Value) (k : Nat) (cells : Array Value), off + k + l.length ≤ cells.size → (l.zipIdx k).foldl (fun cs (x : Value × Nat) => cs.setIfInBounds (off + x.2) x.1) cells = splice cells (off + k) l
  | [], k, cells, _ => by simp [splice]
  | x :: l, k, cells, h => by
    simp only [List.zipIdx_cons, List.foldl_cons]
    simp only [List.length_cons] at h
    rw [foldl_splice off l (k + 1) _ (by simp; omega)]
    apply Array.ext'
    apply List.ext_getElem?
    intro j
    have hk : off + k < cells.toList.length := by simp; omega
    simp only [splice, Array.toList_setIfInBounds]
    rw [List.append_assoc, List.append_assoc]
    rcases Nat.lt_trichotomy j (off + k) with hj | hj | hj
    · rw [List.getElem?_append_left (by simp at hk ⊢; omega), List.getElem?_append_left (by simp at hk ⊢; omega), List.getElem?_take, List.getElem?_take, if_pos (by omega), if_pos hj, List.getElem?_set_ne (by omega)]
    · subst hj
      have hk2 : min (off + k) cells.size = off + k := by simp at hk; omega
      rw [List.getElem?_append_left (by simp at hk ⊢; omega), List.getElem?_take, if_pos (by omega), List.getElem?_set_self hk, List.getElem?_append_right (by simp; omega)]
      simp [hk2]
    · have e1 : (List.take (off + (k + 1)) (cells.toList.set (off + k) x)).length = off + (k + 1) := by
        rw [List.length_take, List.length_set]; simp at hk ⊢; omega
      have e2 : (List.take (off + k) cells.toList).length = off + k := by
        rw [List.length_take]; simp at hk ⊢; omega
      have L : ∀ D : List Value, (List.take (off + (k + 1)) (cells.toList.set (off + k) x) ++ (l ++ D))[j]? = (l ++ D)[j - (off + (k + 1))]? := fun D => by rw [List.getElem?_append_right (by omega), e1]
      have R : ∀ D : List Value, (List.take (off + k) cells.toList ++ (x :: l ++ D))[j]? = (l ++ D)[j - (off + (k + 1))]? := fun D => by
        rw [List.getElem?_append_right (by omega), e2, show j - (off + k) = (j - (off + (k + 1))) + 1 by omega]
        simp
      rw [L, R]
      rcases Nat.lt_or_ge (j - (off + (k + 1))) l.length with h1 | h1
      · rw [List.getElem?_append_left h1, List.getElem?_append_left h1]
      · rw [List.getElem?_append_right h1, List.getElem?_append_right h1, List.getElem?_drop, List.getElem?_drop, List.getElem?_set_ne (by omega), List.length_cons]
        congr 1
        omega

def fillP (place : Nat → Option (Nat × Nat)) : List PV → List (Nat × List PV) → Option (List PV)
  | cells, [] => some cells
  | cells, (i, ps) :: rest => match place i with
    | some (off, size) => if ps.length = size ∧ off + ps.length ≤ cells.length then fillP place (cells.take off ++ ps ++ cells.drop (off + ps.length)) rest else none
    | none => none
def PartsR (ok : Nat → Nat → Prop) (st : Sto) (m : Lay) (w : World) : List (Nat × List PV) → List (Nat × Value) → Prop
  | [], [] => True
  | (i, ps) :: l, (j, v) :: k => (i = j ∧ RVL ok st m w ps v.cells.toList) ∧ PartsR ok st m w l k
  | _, _ => False
theorem fillP_ok {ok : Nat → Nat → Prop} {st : Sto} {m : Lay} {w : World} {place : Nat → Option (Nat × Nat)} : ∀ {parts : List (Nat × List PV)} {pv : List (Nat × Value)} {cells qs : List PV} {vs : List Value}, PartsR ok st m w parts pv → RVL ok st m w cells vs → fillP place cells parts = some qs →
    ∃ us, Instr.fill place ⟨vs⟩ pv = some ⟨us⟩ ∧ RVL ok st m w qs us
  | [], [], cells, qs, vs, _, hr, h => by
    simp [fillP] at h
    subst h
    exact ⟨vs, rfl, hr⟩
  | (i, ps) :: l, (j, v) :: k, cells, qs, vs, hp, hr, h => by
    obtain ⟨⟨rfl, hv⟩, hp⟩ := hp
    simp only [fillP] at h
    split at h
    · rename_i off size hpl
      split at h
      · rename_i hc
        obtain ⟨us, h1, h2⟩ := fillP_ok hp (RVL.splice hr hv off) h
        refine ⟨us, ?_, h2⟩
        have hl1 := hv.length
        have hl2 := hr.length
        unfold Instr.fill
        have hc1 : v.cells.size = size := by rw [← hc.1, hl1]; simp
        have hc2 : ¬ (off + size > vs.length) := by rw [← hc1]; simp only [← hl2]; have := hc.2; rw [hl1] at this; simp at this; omega
        simp only [hpl, hc1]
        rw [if_neg (by simpa using hc2)]
        have hf := foldl_splice off v.cells.toList 0 ⟨vs⟩ (by simp only [List.size_toArray, ← hl2]; have := hc.2; rw [hl1] at this; omega)
        have hfe : (v.cells.zipIdx.foldl (fun cs (x : Value × Nat) => cs.setIfInBounds (off + x.2) x.1) (⟨vs⟩ : Array Value)) = splice ⟨vs⟩ off v.cells.toList := by
          rw [← Array.foldl_toList, Array.toList_zipIdx]
          exact hf
        have e3 : (⟨(splice ⟨vs⟩ off v.cells.toList).toList⟩ : Array Value) = splice ⟨vs⟩ off v.cells.toList := rfl
        rw [e3] at h1
        rw [← hfe] at h1
        exact h1
      · cases h
    · cases h
  | [], _ :: _, _, _, _, h, _, _ => h.elim
  | _ :: _, [], _, _, _, h, _, _ => h.elim

def placesOf (P : Program) (T : TypeId) : Option (List (Nat × Nat)) := match P.underlying T with
  | some (.struct fields) => fields.toList.mapM (fun f => (P.info? f.type).map fun i => (f.offset, i.size))
  | _ => none

section
variable {P : Program} {C : Ctx} {n : Nat} {s : AS} {Q : Exit → AS → Prop} {o : Oper}

/-- The parts of a literal: their places, and the cells that each takes. -/
def partsP (s : AS) : List (Nat × Operand) → Option (List (Nat × List PV))
  | [] => some []
  | (i, x) :: l => match s.ev x, partsP s l with
    | some p, some r => if notTup p then some ((i, cellsP p) :: r) else none
    | _, _ => none
theorem partsP_ok {m : Lay} {a : Act} {w : World} (h : RA C n s m a w) : ∀ {l : List (Nat × Operand)} {ps : List (Nat × List PV)}, partsP s l = some ps → PartsR (okA C.av s.st m) s.st m w ps (l.map fun (i, x) => (i, a.eval x))
  | [], ps, hp => by
    simp [partsP] at hp
    subst hp
    trivial
  | (i, x) :: l, ps, hp => by
    simp only [partsP] at hp
    split at hp
    · rename_i p r h1 h2
      split at hp
      · rename_i ht
        cases hp
        exact ⟨⟨rfl, cellsP_rv (h.eval h1) (notTup.ne ht)⟩, partsP_ok h h2⟩
      · cases hp
    · cases hp

theorem AOp.build {T : TypeId} {parts : Array (Nat × Operand)} {ps : List (Nat × List PV)} {zs cs : List PV} {places : List (Nat × Nat)} (ho : o.op = .build T parts) (hd : dstOk o.dst n = true) (hz : zerosOf P T = some zs) (hpl : placesOf P T = some places) (hp : partsP s parts.toList = some ps)
    (hc : fillP (places.toArray[·]?) zs ps = some cs) : AOp P C n o s (s.putO o.dst (.agg cs)) :=
  AOp.quiet (dstOk_lt hd) fun m a w h => by
    obtain ⟨i, z, hi, hzz, hr⟩ := zerosOf.spec hz
    obtain ⟨us, h1, h2⟩ := fillP_ok (partsP_ok h hp) (hr (okA C.av s.st m) s.st m w) hc
    refine ⟨.agg ⟨us⟩, ?_, us, rfl, h2⟩
    have hb : P.built T (parts.map fun (i, x) => (i, a.eval x)).toList = some ⟨us⟩ := by
      unfold placesOf at hpl
      unfold Program.built
      cases hu : P.underlying T with
      | none => simp [hu] at hpl
      | some d =>
        cases d with
        | struct fields =>
          simp only [hu] at hpl
          simp only [hi, hzz, hpl, Array.toList_map]
          exact h1
        | _ => simp [hu] at hpl
    unfold execOp
    simp [ho, run_build w T _ _ hb]

theorem RVL.of_get {ok : Nat → Nat → Prop} {st : Sto} {m : Lay} {w : World} : ∀ {ps : List PV} {vs : List Value}, vs.length = ps.length → (∀ (j : Nat) (p : PV), ps[j]? = some p → ∃ v, vs[j]? = some v ∧ RV ok st m w p v) → RVL ok st m w ps vs
  | [], [], _, _ => trivial
  | [], _ :: _, h, _ => by simp at h
  | _ :: _, [], h, _ => by simp at h
  | p :: ps, v :: vs, h, k => by
    obtain ⟨u, hu, hr⟩ := k 0 p rfl
    simp at hu
    subst hu
    exact ⟨hr, RVL.of_get (by simpa using h) fun j d hd => by have := k (j + 1) d (by simpa using hd); simpa using this⟩

theorem flatten_get {α : Type} {sz : Nat} : ∀ {es : List (List α)} {i j : Nat} {e : List α} {d : α}, (∀ e ∈ es, e.length = sz) → es[i]? = some e → e[j]? = some d → es.flatten[i * sz + j]? = some d
  | [], i, j, e, d, _, h, _ => by simp at h
  | x :: es, 0, j, e, d, hl, h, hd => by
    simp at h
    subst h
    rw [List.flatten_cons, Nat.zero_mul, Nat.zero_add, List.getElem?_append_left (get_lt hd)]
    exact hd
  | x :: es, i + 1, j, e, d, hl, h, hd => by
    have hx := hl x (by simp)
    rw [List.flatten_cons, Nat.succ_mul, List.getElem?_append_right (by omega), hx, show i * sz + sz + j - sz = i * sz + j by omega]
    exact flatten_get (fun e he => hl e (by simp [he])) (by simpa using h) hd
theorem flatten_len {α : Type} {sz : Nat} : ∀ {es : List (List α)}, (∀ e ∈ es, e.length = sz) → es.flatten.length = es.length * sz
  | [], _ => by simp
  | x :: es, hl => by
    rw [List.flatten_cons, List.length_append, hl x (by simp), flatten_len (fun e he => hl e (by simp [he])), List.length_cons, Nat.succ_mul, Nat.add_comm]

theorem AOp.buildSlice {T E sz by_ len : Nat} {parts : Array (Nat × Operand)} {ps : List (Nat × List PV)} {zs cs : List PV} {es : List (List Tr)} (ho : o.op = .buildSlice T len parts) (hd : dstOk o.dst n = true) (hT : elemOf? P T = some (E, sz, by_)) (hz : zerosOf P E = some zs) (hp : partsP s parts.toList = some ps)
    (hc : fillP (fun i => some (i * sz, sz)) (List.replicate len zs).flatten ps = some cs) (hle : LeL cs (es.flatten.map PV.t)) (hel : es.length = len) (hes : ∀ e ∈ es, e.length = sz) (hsz : 0 < sz) (hzl : zs.length = sz) (hsm : len * sz ≤ 16777216) :
    AOp P C n o s ((⟨s.env, s.st.addRow ⟨E, sz, es, false⟩⟩ : AS).putO o.dst (.acc sz es s.st.rows.length)) :=
  AOp.run hd (s1 := ⟨s.env, s.st.addRow ⟨E, sz, es, false⟩⟩) (fun m a w h => by
    obtain ⟨i, hu, hi, hs, hby⟩ := elemOf?.spec hT
    obtain ⟨i', z, hi', hzz, hr⟩ := zerosOf.spec hz
    rw [hi] at hi'
    cases hi'
    have hzv := hr (okA C.av s.st m) s.st m w
    have hzs : z.cells.size = sz := by have := hzv.length; rw [hzl] at this; simpa using this.symm
    have hzero : RVL (okA C.av s.st m) s.st m w (List.replicate len zs).flatten ((List.range (len * sz)).map (fun q => z.cells[q % z.cells.size]!)) := by
      have hrl : ∀ e ∈ List.replicate len zs, e.length = sz := fun e he => by rw [(List.mem_replicate.1 he).2]; exact hzl
      refine RVL.of_get (by rw [flatten_len hrl]; simp) fun j p hj => ?_
      have hjl : j < len * sz := by have := get_lt hj; rw [flatten_len hrl] at this; simpa using this
      have hj1 : j / sz < len := by rw [Nat.div_lt_iff_lt_mul hsz]; exact hjl
      have hj2 : j % sz < zs.length := by rw [hzl]; exact Nat.mod_lt _ hsz
      have hpj := flatten_get (i := j / sz) (j := j % sz) (e := zs) (d := zs[j % sz]) hrl (by rw [List.getElem?_replicate, if_pos hj1]) (List.getElem?_eq_getElem hj2)
      rw [show j / sz * sz + j % sz = j by rw [Nat.mul_comm]; exact Nat.div_add_mod j sz, hj] at hpj
      cases hpj
      obtain ⟨v, hv, hrv⟩ := hzv.get (List.getElem?_eq_getElem hj2)
      refine ⟨v, ?_, hrv⟩
      rw [List.getElem?_map, List.getElem?_range hjl]
      simp only [Option.map_some, hzs]
      rw [Array.getElem?_toList] at hv
      obtain ⟨hlt, hve⟩ := Array.getElem?_eq_some_iff.1 hv
      rw [getElem!_pos z.cells _ hlt, hve]
    obtain ⟨us, h1, h2⟩ := fillP_ok (partsP_ok h hp) hzero hc
    have h3 := LeL.rv hle h2
    have hul : us.length = len * sz := by have := h3.length; rw [List.length_map, flatten_len hes, hel] at this; exact this.symm
    have hrun : (Instr.buildSlice T len (parts.map fun (i, x) => (i, a.eval x))).run P w = .ok (.slice (some ⟨w.heap.size, 0, none⟩) len len) (w.alloc (.cells ⟨us⟩ E)) := by
      have hfill : Instr.fill (fun i => some (i * sz, sz)) ((Array.range (len * sz)).map (z.cells[· % z.cells.size]!)) (parts.map fun (i, x) => (i, a.eval x)).toList = some ⟨us⟩ := by
        rw [Array.toList_map, ← h1]
        congr 1
        apply Array.ext'
        simp
      by_cases h0 : len * sz = 0
      · have hl0 : len = 0 := by
          rcases Nat.mul_eq_zero.1 h0 with h | h
          · exact h
          · omega
        subst hl0
        rw [Nat.zero_mul] at hfill
        simp [Instr.buildSlice, run_underlying hu, Go.sizeOf, typeInfo, hi, hs, newRow]
        have e0 : (Array.range 0).map (fun q => z.cells[q % z.cells.size]!) = #[] := by simp
        rw [e0] at hfill
        simp at hfill
        have e1 : (Array.range 0).map (fun _ => (default : Value)) = #[] := by simp
        rw [e1, hfill]
        simp
      · exact run_buildSlice w T E len _ ⟨us⟩ i z hu hi hzz (by rw [hs]; omega) (by rw [hs]; exact h0) (by rw [hs]; exact hfill)
    have hm : len ≤ maxLen := by have := Nat.le_mul_of_pos_right len hsz; unfold maxLen; omega
    have hst0 := sto_newRow (row := ⟨E, sz, [], false⟩) (c := len) (cur := ⟨us⟩) h.sto hsz rfl (by simpa using hul) hm
    have hev0 := ev_newRow (row := ⟨E, sz, [], false⟩) (c := len) (cur := (⟨us⟩ : Array Value)) h.sto
    have hG : Grow C.av (s.st.addRow ⟨E, sz, [], false⟩) ⟨m.ρ, upd m.γ s.st.rows.length (some (w.heap.size, len))⟩ (w.alloc (.cells ⟨us⟩ E)) s.st.rows.length ⟨E, sz, [], false⟩ es w.heap.size len ⟨us⟩ (w.alloc (.cells ⟨us⟩ E)) := by
      refine ⟨by show (s.st.rows ++ [_])[s.st.rows.length]? = _; simp, rfl, rfl, rfl, Nat.le_refl _, fun _ _ _ => rfl, OB.new w _ _, by simpa using hul, by simp [hel], hm, hes, fun q e hq => by simp at hq, fun q e hq j d hj => ?_, .inl ⟨len, ⟨us⟩, upd_same _ _ _, OB.new w _ _, fun _ _ => rfl⟩, fun _ => upd_same _ _ _⟩
      have hf := flatten_get (sz := sz) hes hq hj
      obtain ⟨v, hv, hrv⟩ := h3.get (j := q * sz + j) (p := .t d) (by rw [List.getElem?_map, hf]; rfl)
      exact ⟨v, by simpa using hv, RV.mono hev0 (.t d) _ hrv⟩
    have hst1 : (s.st.addRow ⟨E, sz, [], false⟩).setRow s.st.rows.length { (⟨E, sz, [], false⟩ : PRow) with es := ([] : List (List Tr)) ++ es } = s.st.addRow ⟨E, sz, es, false⟩ := by
      simp [Sto.setRow, Sto.addRow, List.set_append_right]
    have hE1 := hev0.trans (hG.ev hst0)
    have hS1 := hG.sto hst0
    have hA1 := hG.acc hst0
    rw [hst1] at hE1 hS1 hA1
    refine ⟨.slice (some ⟨w.heap.size, 0, none⟩) len len, _, _, ?_, hE1, hS1, ?_⟩
    · unfold execOp
      simp [ho, hrun]
    · simpa [hel] using hA1) rfl

/-- 'nil' is taken for a row that may grow. -/
theorem Wk.reg {i : Nat} (E sz : Nat) (hsz : 0 < sz) (hx : s.lk i = some .nil) : Wk C n s ((⟨s.env, s.st.addRow ⟨E, sz, [], false⟩⟩ : AS).put i (.acc sz [] s.st.rows.length)) := fun m a w h => by
  have hE := ev_addRow (row := ⟨E, sz, [], false⟩) h.sto
  have hS := sto_addRow (row := ⟨E, sz, [], false⟩) h.sto hsz rfl
  have h1 := h.step hE hS
  obtain ⟨v, hv, hr⟩ := h.env i _ hx
  have hr : v = .slice none 0 0 := hr
  subst hr
  refine ⟨⟨m.ρ, upd m.γ s.st.rows.length none⟩, h1.dfr, h1.tsz, h1.sto, fun j q hq => ?_, h1.ev⟩
  rw [AS.lk_put] at hq
  split at hq
  · rename_i e
    subst e
    cases hq
    exact ⟨_, hv, ⟨E, sz, [], false⟩, by show (s.st.rows ++ [_])[s.st.rows.length]? = _; simp, rfl, Nat.le_refl _, RepM.nilRow _ _ _ _ (by unfold maxLen; omega), fun _ => by simp [upd_same, rowVal]⟩
  · exact h1.env j q hq
end
end Go.Proofs.YtnakkelglbcecaaGreat
