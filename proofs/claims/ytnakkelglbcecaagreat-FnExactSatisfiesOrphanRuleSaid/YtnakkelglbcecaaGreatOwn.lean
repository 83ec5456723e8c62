/- A tree whose memory is its own: no block is met twice. Filling a slice that a call has made. No conditions. -/
import Derived.Test.YtnakkelglbcecaaGreatCore
namespace Go.Proofs.YtnakkelglbcecaaGreat
open Go.RowKit

/-- The tree's blocks lie in S, none is met twice, and none is frozen. -/
inductive Own (w : World) : Tr → Value → (Nat → Prop) → Prop
  | leaf {v : Value} {S : Nat → Prop} : LeafOk v → Own w (.leaf v) v S
  | row {sz : Nat} {es : List (List Tr)} {a : Option Addr} {cap : Nat} {S : Nat → Prop} (c : Nat → Nat → Value) (T : Nat → Nat → Nat → Prop) : es.length ≤ cap → cap ≤ maxLen →
      (es ≠ [] → ∃ b off E arr, a = some ⟨b, off, none⟩ ∧ OB w b E arr ∧ S b ∧ (∀ i e, es[i]? = some e → ∀ j d, e[j]? = some d → arr[off + i * sz + j]? = some (c i j) ∧ ∀ x, T i j x → x ≠ b)) →
      (∀ i e, es[i]? = some e → ∀ j d, e[j]? = some d → Own w d (c i j) (T i j)) →
      (∀ i e, es[i]? = some e → ∀ j d, e[j]? = some d → ∀ x, T i j x → S x) →
      (∀ i e, es[i]? = some e → ∀ j d, e[j]? = some d → ∀ i' e', es[i']? = some e' → ∀ j' d', e'[j']? = some d' → (i = i' → j ≠ j') → ∀ x, T i j x → T i' j' x → False) →
      Own w (.row sz es) (.slice a es.length cap) S

def OwnL (w : World) (ts : List Tr) (vs : List Value) (S : Nat → Prop) : Prop :=
  vs.length = ts.length ∧ ∃ T : Nat → Nat → Prop, (∀ j d, ts[j]? = some d → ∃ v, vs[j]? = some v ∧ Own w d v (T j)) ∧ (∀ j d, ts[j]? = some d → ∀ x, T j x → S x) ∧
    (∀ j d, ts[j]? = some d → ∀ j' d', ts[j']? = some d' → j ≠ j' → ∀ x, T j x → T j' x → False)

theorem Own.rep {w : World} {t : Tr} {v : Value} {S : Nat → Prop} (h : Own w t v S) : Rep w t v := by
  induction h with
  | leaf h => exact .leaf h
  | row c T h1 h2 h3 _ _ _ ih =>
    refine .row c h1 h2 (fun hne => ?_) ih
    obtain ⟨b, off, E, arr, ha, hb, _, hc⟩ := h3 hne
    exact ⟨b, off, ha, hb.lt, fun i e he j d hd => by rw [hb.cell]; exact (hc i e he j d hd).1⟩

theorem Own.keep {w w' : World} {t : Tr} {v : Value} {S : Nat → Prop} (h : Own w t v S) (hx : ∀ b, S b → b < w.heap.size → w'.heap[b]? = w.heap[b]?) : Own w' t v S := by
  induction h with
  | leaf h => exact .leaf h
  | row c T h1 h2 h3 _ h5 h6 ih =>
    refine .row c T h1 h2 (fun hne => ?_) (fun i e he j d hd => ih i e he j d hd fun b hb => hx b (h5 i e he j d hd b hb)) h5 h6
    obtain ⟨b, off, E, arr, ha, hb, hs, hc⟩ := h3 hne
    exact ⟨b, off, E, arr, ha, (hx b hs hb.lt).trans hb, hs, hc⟩

theorem Own.ext {w w' : World} {t : Tr} {v : Value} {S : Nat → Prop} (h : Own w t v S) (hx : Ext w w') : Own w' t v S := h.keep fun b _ hb => hx.block b hb

theorem Own.mono {w : World} {t : Tr} {v : Value} {S S' : Nat → Prop} (h : Own w t v S) (hS : ∀ x, S x → S' x) : Own w t v S' := by
  cases h with
  | leaf h => exact .leaf h
  | row c T h1 h2 h3 h4 h5 h6 =>
    refine .row c T h1 h2 (fun hne => ?_) h4 (fun i e he j d hd x hx => hS x (h5 i e he j d hd x hx)) h6
    obtain ⟨b, off, E, arr, ha, hb, hs, hc⟩ := h3 hne
    exact ⟨b, off, E, arr, ha, hb, hS b hs, hc⟩

theorem RepL.of_get {w : World} : ∀ {ts : List Tr} {vs : List Value}, vs.length = ts.length → (∀ (j : Nat) (d : Tr), ts[j]? = some d → ∃ v, vs[j]? = some v ∧ Rep w d v) → RepL w ts vs
  | [], [], _, _ => trivial
  | [], _ :: _, h, _ => by simp at h
  | _ :: _, [], h, _ => by simp at h
  | t :: ts, v :: vs, h, k => by
    obtain ⟨u, hu, hr⟩ := k 0 t rfl
    simp at hu
    subst hu
    exact ⟨hr, RepL.of_get (by simpa using h) fun j d hd => by have := k (j + 1) d (by simpa using hd); simpa using this⟩

theorem OwnL.rep {w : World} {ts : List Tr} {vs : List Value} {S : Nat → Prop} (h : OwnL w ts vs S) : RepL w ts vs := by
  obtain ⟨hl, T, h1, _, _⟩ := h
  exact RepL.of_get hl fun j d hd => by obtain ⟨v, hv, ho⟩ := h1 j d hd; exact ⟨v, hv, ho.rep⟩

theorem OwnL.keep {w w' : World} {ts : List Tr} {vs : List Value} {S : Nat → Prop} (h : OwnL w ts vs S) (hx : ∀ b, S b → b < w.heap.size → w'.heap[b]? = w.heap[b]?) : OwnL w' ts vs S := by
  obtain ⟨hl, T, h1, h2, h3⟩ := h
  exact ⟨hl, T, fun j d hd => by obtain ⟨v, hv, ho⟩ := h1 j d hd; exact ⟨v, hv, ho.keep fun b hb => hx b (h2 j d hd b hb)⟩, h2, h3⟩
theorem OwnL.ext {w w' : World} {ts : List Tr} {vs : List Value} {S : Nat → Prop} (h : OwnL w ts vs S) (hx : Ext w w') : OwnL w' ts vs S := h.keep fun b _ hb => hx.block b hb
theorem OwnL.mono {w : World} {ts : List Tr} {vs : List Value} {S S' : Nat → Prop} (h : OwnL w ts vs S) (hS : ∀ x, S x → S' x) : OwnL w ts vs S' := by
  obtain ⟨hl, T, h1, h2, h3⟩ := h
  exact ⟨hl, T, h1, fun j d hd x hx => hS x (h2 j d hd x hx), h3⟩

/-- What has been made between two worlds. -/
def Between (w w' : World) (x : Nat) : Prop := w.heap.size ≤ x ∧ x < w'.heap.size

/-- The first k elements of a slice that is being filled. -/
def Part (w : World) (B : Nat) (arr : Array Value) (sz : Nat) (es : List (List Tr)) (k : Nat) : Prop :=
  ∃ U : Nat → Nat → Prop, (∀ i, i < k → ∀ e, es[i]? = some e → OwnL w e ((arr.toList.drop (i * sz)).take sz) (U i)) ∧ (∀ i, i < k → ∀ x, U i x → B < x ∧ x < w.heap.size) ∧
    (∀ i, i < k → ∀ i', i' < k → i ≠ i' → ∀ x, U i x → U i' x → False)

theorem Part.zero (w : World) (B : Nat) (arr : Array Value) (sz : Nat) (es : List (List Tr)) : Part w B arr sz es 0 := ⟨fun _ _ => False, by simp, by simp, by simp⟩

def splice (arr : Array Value) (o : Nat) (vs : List Value) : Array Value := (arr.toList.take o ++ vs ++ arr.toList.drop (o + vs.length)).toArray

theorem splice_size {arr : Array Value} {o : Nat} {vs : List Value} (h : o + vs.length ≤ arr.size) : (splice arr o vs).size = arr.size := by
  simp [splice]; omega

theorem splice_other {arr : Array Value} {o : Nat} {vs : List Value} {i sz : Nat} (h : o + vs.length ≤ arr.size) (hi : i + sz ≤ o) :
    ((splice arr o vs).toList.drop i).take sz = (arr.toList.drop i).take sz := by
  apply List.ext_getElem?
  intro j
  simp only [splice, List.getElem?_take, List.getElem?_drop]
  split
  · rw [List.append_assoc, List.getElem?_append_left (by simp; omega), List.getElem?_take, if_pos (by omega)]
  · rfl
theorem splice_same {arr : Array Value} {o : Nat} {vs : List Value} (h : o + vs.length ≤ arr.size) : ((splice arr o vs).toList.drop o).take vs.length = vs := by
  have h1 : o ≤ arr.size := by omega
  simp [splice, List.length_take, Nat.min_eq_left h1]

theorem Part.step {w w1 w2 : World} {B T : Nat} {arr : Array Value} {sz k : Nat} {es : List (List Tr)} {e : List Tr} {cs : List Value} (h : Part w B arr sz es k) (hB : B < w.heap.size) (hx : Ext w w1)
    (he : es[k]? = some e) (ho : OwnL w1 e cs (Between w w1)) (hl : cs.length = sz) (hsz : arr.size = es.length * sz)
    (hg : w1.grownBy w2 (some B)) (_hob : OB w2 B T (splice arr (k * sz) cs)) : Part w2 B (splice arr (k * sz) cs) sz es (k + 1) := by
  obtain ⟨U, h1, h2, h3⟩ := h
  have hk : k < es.length := (List.getElem?_eq_some_iff.1 he).1
  have hfit : k * sz + cs.length ≤ arr.size := by rw [hl, hsz, ← Nat.succ_mul]; exact Nat.mul_le_mul_right _ hk
  have hwx : ∀ x, x ≠ B → x < w.heap.size → w2.heap[x]? = w.heap[x]? := fun x hne hlt =>
    (hg.block x (Nat.lt_of_lt_of_le hlt hx.size) (by simpa using hne)).trans (hx.block x hlt)
  refine ⟨fun i => if i = k then Between w w1 else U i, ?_, ?_, ?_⟩
  · intro i hi e' he'
    by_cases hik : i = k
    · subst hik
      have : e' = e := by rw [he] at he'; exact (Option.some.inj he').symm
      subst this
      simp only [if_true]
      have hs := splice_same hfit
      rw [hl] at hs
      rw [hs]
      exact ho.keep fun b hb hlt => hg.block b hlt (by have := hb.1; simp; omega)
    · simp only [if_neg hik]
      have hlt : i < k := by omega
      rw [splice_other hfit (by rw [← Nat.succ_mul]; exact Nat.mul_le_mul_right _ hlt)]
      exact (h1 i hlt e' he').keep fun b hb hlt' => hwx b (by have := (h2 i hlt b hb).1; omega) hlt'
  · intro i hi x hxU
    by_cases hik : i = k
    · simp only [if_pos hik] at hxU
      exact ⟨by have := hxU.1; omega, Nat.lt_of_lt_of_le hxU.2 hg.size⟩
    · simp only [if_neg hik] at hxU
      obtain ⟨p, q⟩ := h2 i (by omega) x hxU
      exact ⟨p, by have := hx.size; have := hg.size; omega⟩
  · intro i hi i' hi' hne x hxU hxU'
    by_cases hik : i = k
    · by_cases hik' : i' = k
      · omega
      · simp only [if_pos hik] at hxU
        simp only [if_neg hik'] at hxU'
        have := (h2 i' (by omega) x hxU').2
        have := hxU.1
        omega
    · by_cases hik' : i' = k
      · simp only [if_neg hik] at hxU
        simp only [if_pos hik'] at hxU'
        have := (h2 i (by omega) x hxU).2
        have := hxU'.1
        omega
      · simp only [if_neg hik] at hxU
        simp only [if_neg hik'] at hxU'
        exact h3 i (by omega) i' (by omega) hne x hxU hxU'

theorem Part.keep {w w' : World} {B : Nat} {arr : Array Value} {sz k : Nat} {es : List (List Tr)} (h : Part w B arr sz es k) (hx : Ext w w') : Part w' B arr sz es k := by
  obtain ⟨U, h1, h2, h3⟩ := h
  exact ⟨U, fun i hi e he => (h1 i hi e he).ext hx, fun i hi x hxU => ⟨(h2 i hi x hxU).1, Nat.lt_of_lt_of_le (h2 i hi x hxU).2 hx.size⟩, h3⟩

theorem Part.done {w : World} {B T : Nat} {arr : Array Value} {sz : Nat} {es : List (List Tr)} {cap lo : Nat} (h : Part w B arr sz es es.length) (hob : OB w B T arr) (hsz : ∀ e ∈ es, e.length = sz)
    (hcap : es.length ≤ cap) (hm : cap ≤ maxLen) (hlo : lo ≤ B) : Own w (.row sz es) (.slice (some ⟨B, 0, none⟩) es.length cap) (fun x => lo ≤ x ∧ x < w.heap.size) := by
  obtain ⟨U, h1, h2, h3⟩ := h
  have hlt : ∀ i e, es[i]? = some e → i < es.length := fun i e he => (List.getElem?_eq_some_iff.1 he).1
  have key : ∀ i, ∃ T : Nat → Nat → Prop, ∀ e, es[i]? = some e → (∀ j d, e[j]? = some d → ∃ v, ((arr.toList.drop (i * sz)).take sz)[j]? = some v ∧ Own w d v (T j)) ∧ (∀ j d, e[j]? = some d → ∀ x, T j x → U i x) ∧
      (∀ j d, e[j]? = some d → ∀ j' d', e[j']? = some d' → j ≠ j' → ∀ x, T j x → T j' x → False) := by
    intro i
    rcases he : es[i]? with _ | e
    · exact ⟨fun _ _ => False, by simp⟩
    · obtain ⟨_, T, a1, a2, a3⟩ := h1 i (hlt i e he) e he
      exact ⟨T, fun e' he' => by cases he'; exact ⟨a1, a2, a3⟩⟩
  have key2 := fun i => Classical.choose_spec (key i)
  refine .row (fun i j => (arr[i * sz + j]?).getD undef) (fun i => Classical.choose (key i)) hcap hm ?_ ?_ ?_ ?_
  · intro _
    refine ⟨B, 0, T, arr, rfl, hob, ⟨hlo, hob.lt⟩, ?_⟩
    intro i e he j d hd
    obtain ⟨a1, a2, _⟩ := key2 i e he
    obtain ⟨v, hv, _⟩ := a1 j d hd
    have hj : j < sz := by rw [← hsz e (List.mem_of_getElem? he)]; exact (List.getElem?_eq_some_iff.1 hd).1
    rw [List.getElem?_take, if_pos hj, List.getElem?_drop] at hv
    refine ⟨by rw [Nat.zero_add]; have : arr[i * sz + j]? = some v := by simpa using hv
               simp [this], fun x hx => ?_⟩
    have := (h2 i (hlt i e he) x (a2 j d hd x hx)).1
    omega
  · intro i e he j d hd
    obtain ⟨a1, _, _⟩ := key2 i e he
    obtain ⟨v, hv, ho⟩ := a1 j d hd
    have hj : j < sz := by rw [← hsz e (List.mem_of_getElem? he)]; exact (List.getElem?_eq_some_iff.1 hd).1
    rw [List.getElem?_take, if_pos hj, List.getElem?_drop] at hv
    have : arr[i * sz + j]? = some v := by simpa using hv
    simpa [this] using ho
  · intro i e he j d hd x hx
    obtain ⟨_, a2, _⟩ := key2 i e he
    have := h2 i (hlt i e he) x (a2 j d hd x hx)
    exact ⟨by omega, this.2⟩
  · intro i e he j d hd i' e' he' j' d' hd' hne x hx hx'
    obtain ⟨_, a2, a3⟩ := key2 i e he
    by_cases hii : i = i'
    · subst hii
      have : e = e' := by rw [he] at he'; exact Option.some.inj he'
      subst this
      exact a3 j d hd j' d' hd' (hne rfl) x hx hx'
    · obtain ⟨_, b2, _⟩ := key2 i' e' he'
      exact h3 i (hlt i e he) i' (hlt i' e' he') hii x (a2 j d hd x hx) (b2 j' d' hd' x hx')

theorem LeafOk.one {v : Value} (h : LeafOk v) : v.oneCell' = true := by cases v <;> simp_all [LeafOk, Value.oneCell']
theorem Rep.one {w : World} {t : Tr} {v : Value} (h : Rep w t v) : v.oneCell' = true := by
  cases h with
  | leaf h => exact h.one
  | row => rfl
theorem RepL.one {w : World} : ∀ {ts : List Tr} {vs : List Value}, RepL w ts vs → ∀ v ∈ vs, v.oneCell' = true
  | [], [], _, v, hv => by simp at hv
  | _ :: _, _ :: _, h, v, hv => by
    rcases List.mem_cons.1 hv with rfl | hv
    · exact h.1.one
    · exact RepL.one h.2 v hv

/-- A struct of whatever number of cells, stored into a block of the call's own. -/
theorem wpList_store_rep {P : Program} {ops : Array Oper} {rest : List Oper} {o : Oper} {a : Act} {w : World} {Q : Exit → Act → World → Prop} (hgd : o.guard = none) (ty : TypeId) (x y : Operand) (ho : o.op = .store ty x y)
    (B off : Nat) (hx : a.eval x = .pointer (some ⟨B, off, none⟩)) (cs : List Value) (hy : a.eval y = .agg ⟨cs⟩) (T : TypeId) (arr : Array Value) (hob : OB w B T arr) (hi : (P.info? ty).map (·.size) = some cs.length)
    (hfit : off + cs.length ≤ arr.size) (h1 : ∀ v ∈ cs, v.oneCell' = true)
    (h : ∀ w', OB w' B T (splice arr off cs) → w.grownBy w' (some B) → w'.heap.size = w.heap.size → wpList P ops Q rest (a.put o.dst undef) w') : wpList P ops Q (o :: rest) a w :=
  wpList_plain hgd fun _ hK => by
    have hst := run_storeCells_at P B off T cs 0 arr w hob (by simpa using hfit) h1
    cases hq : P.info? ty with
    | none => simp [hq] at hi
    | some i =>
      have hs : i.size = cs.length := by simpa [hq] using hi
      have hrun : (storeVar ty ⟨B, off, none⟩ (.agg ⟨cs⟩)).run P w = .ok () (w.setRow B (splice arr off cs)) := by
        simp [storeVar, Go.sizeOf, typeInfo, hq, Value.cells, hs, hst, splice]
      unfold Oper.wp execOp
      simp only [ho, hx, hy, Instr.storeAt, Instr.sureAddr, Sem.run_bind, Sem.run_pure, Result.andThen_ok, hrun]
      exact hK _ _ (h _ (setRow_heap w B arr _ T _ hob) ⟨rfl, rfl, rfl, by simp, fun k _ hk => setRow_other w B k _ (fun e => hk (by rw [e]))⟩ (by simp))

theorem info_parts2 {P : Program} {e : TypeId} {s b : Nat} (h : (P.info? e).map (fun i => (i.zero.isSome, i.size, i.bytes)) = some (true, s, b)) : ∃ i z, P.info? e = some i ∧ i.zero = some z ∧ i.size = s ∧ i.bytes = b := by
  cases hq : P.info? e with
  | none => simp [hq] at h
  | some i =>
    simp [hq] at h
    obtain ⟨z, hz⟩ := Option.isSome_iff_exists.1 h.1
    exact ⟨i, z, rfl, hz, h.2.1, h.2.2⟩

/-- 'make([]T, n)'. -/
theorem wpList_make_rep {P : Program} {ops : Array Oper} {rest : List Oper} {o : Oper} {a : Act} {w : World} {Q : Exit → Act → World → Prop} (hgd : o.guard = none) (ty : TypeId) (x : Operand) (ho : o.op = .makeSlice ty x x)
    (n : Nat) (hx : a.eval x = .int .i64 n) (e : TypeId) (hu : P.underlying ty = some (.slice e)) (s b : Nat) (hi : (P.info? e).map (fun i => (i.zero.isSome, i.size, i.bytes)) = some (true, s, b))
    (hb : n * b ≤ 140737488355328) (hn : n ≤ 9223372036854775807)
    (h : ∀ w' arr, arr.size = n * s → OB w' w.heap.size e arr → Ext w w' → w'.heap.size = w.heap.size + 1 → wpList P ops Q rest (a.put o.dst (.slice (some ⟨w.heap.size, 0, none⟩) n n)) w') : wpList P ops Q (o :: rest) a w :=
  wpList_plain hgd fun _ hK => by
    obtain ⟨i, z, hq, hz, hs, hby⟩ := info_parts2 hi
    have hbb : (i.bytes : Int) * (n : Int) ≤ 281474976710656 := by
      have h2 : ((n * b : Nat) : Int) ≤ 281474976710656 := by omega
      rw [Int.natCast_mul, Int.mul_comm] at h2
      rwa [hby]
    have hr := run_make (P := P) w ty e i z hu hq hz .i64 .i64 n n (by omega) (by omega) hbb (by omega)
    simp only [Int.toNat_natCast] at hr
    unfold Oper.wp execOp
    simp only [ho, hx, Sem.run_bind, Sem.run_pure, Result.andThen_ok, hr]
    exact hK _ _ (h _ _ (by rw [size_madeCells, hs]) (OB.new w e _) (Ext.alloc (Ext.refl w) _) (by simp))

/-- Three blocks of the call's own: the parameter's box, the result's slot, the variable. -/
structure Three (w : World) (B0 : Nat) (T0 : TypeId) (a0 : Array Value) (B1 : Nat) (T1 : TypeId) (a1 : Array Value) (B2 : Nat) (T2 : TypeId) (a2 : Array Value) : Prop where
  o0 : OB w B0 T0 a0
  o1 : OB w B1 T1 a1
  o2 : OB w B2 T2 a2
theorem Three.ext {w w' : World} {B0 B1 B2 : Nat} {T0 T1 T2 : TypeId} {a0 a1 a2 : Array Value} (h : Three w B0 T0 a0 B1 T1 a1 B2 T2 a2) (hx : Ext w w') : Three w' B0 T0 a0 B1 T1 a1 B2 T2 a2 :=
  ⟨h.o0.ext hx, h.o1.ext hx, h.o2.ext hx⟩
theorem OB.grown {w w' : World} {g B : Nat} {t : TypeId} {cs : Array Value} (h : OB w g t cs) (hg : w.grownBy w' (some B)) (hne : g ≠ B) : OB w' g t cs := (hg.block g h.lt (by simpa using hne)).trans h
theorem Three.grown {w w' : World} {B0 B1 B2 : Nat} {T0 T1 T2 : TypeId} {a0 a1 a2 a2' : Array Value} (h : Three w B0 T0 a0 B1 T1 a1 B2 T2 a2) (hg : w.grownBy w' (some B2)) (ho : OB w' B2 T2 a2') (h0 : B0 ≠ B2) (h1 : B1 ≠ B2) :
    Three w' B0 T0 a0 B1 T1 a1 B2 T2 a2' := ⟨h.o0.grown hg h0, h.o1.grown hg h1, ho⟩
theorem Three.new (w : World) (T0 T1 T2 : TypeId) (a0 a1 a2 : Array Value) : Three (((w.alloc (.cells a0 T0)).alloc (.cells a1 T1)).alloc (.cells a2 T2)) w.heap.size T0 a0 (w.heap.size + 1) T1 a1 (w.heap.size + 1 + 1) T2 a2 := by
  refine ⟨((OB.new w T0 a0).ext (.alloc (.refl _) _)).ext (.alloc (.refl _) _), ?_, ?_⟩
  · have := (OB.new (w.alloc (.cells a0 T0)) T1 a1).ext (.alloc (.refl _) (.cells a2 T2))
    simpa using this
  · have := OB.new ((w.alloc (.cells a0 T0)).alloc (.cells a1 T1)) T2 a2
    simpa using this
theorem grown_ext {a w w' : World} {B : Nat} (h : Ext a w) (hg : w.grownBy w' (some B)) (hB : a.heap.size ≤ B) : Ext a w' := Below.grown h hg h.size (by intro k hk; cases hk; exact hB)

/-- A single cell stored into a block of the call's own. -/
theorem wpList_store_cell {P : Program} {ops : Array Oper} {rest : List Oper} {o : Oper} {a : Act} {w : World} {Q : Exit → Act → World → Prop} (hgd : o.guard = none) (ty : TypeId) (x y : Operand) (ho : o.op = .store ty x y)
    (B off : Nat) (hx : a.eval x = .pointer (some ⟨B, off, none⟩)) (v : Value) (hy : a.eval y = v) (hv : v.cells = #[v]) (T : TypeId) (arr : Array Value) (hob : OB w B T arr) (hi : (P.info? ty).map (·.size) = some 1)
    (hfit : off < arr.size) (h1 : v.oneCell' = true)
    (h : ∀ w', OB w' B T (splice arr off [v]) → w.grownBy w' (some B) → w'.heap.size = w.heap.size → wpList P ops Q rest (a.put o.dst undef) w') : wpList P ops Q (o :: rest) a w :=
  wpList_plain hgd fun _ hK => by
    have hst := run_storeCells_at P B off T [v] 0 arr w hob (by simp; omega) (by simpa using h1)
    cases hq : P.info? ty with
    | none => simp [hq] at hi
    | some i =>
      have hs : i.size = 1 := by simpa [hq] using hi
      have hrun : (storeVar ty ⟨B, off, none⟩ v).run P w = .ok () (w.setRow B (splice arr off [v])) := by
        simp only [storeVar, hv]
        simp [Go.sizeOf, typeInfo, hq, hs, hst, splice]
      unfold Oper.wp execOp
      simp only [ho, hx, hy, Instr.storeAt, Instr.sureAddr, Sem.run_bind, Sem.run_pure, Result.andThen_ok, hrun]
      exact hK _ _ (h _ (setRow_heap w B arr _ T _ hob) ⟨rfl, rfl, rfl, by simp, fun k _ hk => setRow_other w B k _ (fun e => hk (by rw [e]))⟩ (by simp))

theorem splice_whole {arr : Array Value} {vs : List Value} (h : vs.length = arr.size) : splice arr 0 vs = ⟨vs⟩ := by
  simp [splice, h]

theorem OwnL.nil (w : World) (S : Nat → Prop) : OwnL w [] [] S := ⟨rfl, fun _ _ => False, by simp, by simp, by simp⟩
theorem OwnL.cons_leaf {w : World} {ts : List Tr} {vs : List Value} {S : Nat → Prop} {v : Value} (hv : LeafOk v) (h : OwnL w ts vs S) : OwnL w (.leaf v :: ts) (v :: vs) S := by
  obtain ⟨hl, T, h1, h2, h3⟩ := h
  refine ⟨by simp [hl], fun j => match j with | 0 => fun _ => False | j + 1 => T j, ?_, ?_, ?_⟩
  · intro j d hd
    cases j with
    | zero => simp at hd; subst hd; exact ⟨v, rfl, .leaf hv⟩
    | succ j => exact h1 j d (by simpa using hd)
  · intro j d hd x hx
    cases j with
    | zero => exact hx.elim
    | succ j => exact h2 j d (by simpa using hd) x hx
  · intro j d hd j' d' hd' hne x hx hx'
    cases j with
    | zero => exact hx.elim
    | succ j =>
      cases j' with
      | zero => exact hx'.elim
      | succ j' => exact h3 j d (by simpa using hd) j' d' (by simpa using hd') (by omega) x hx hx'

theorem OwnL.append {w : World} {ts us : List Tr} {vs xs : List Value} {S S' : Nat → Prop} (h : OwnL w ts vs S) (k : OwnL w us xs S') (hd : ∀ x, S x → S' x → False) : OwnL w (ts ++ us) (vs ++ xs) (fun x => S x ∨ S' x) := by
  obtain ⟨hl, T, h1, h2, h3⟩ := h
  obtain ⟨kl, U, k1, k2, k3⟩ := k
  have left : ∀ j d, (ts ++ us)[j]? = some d → j < ts.length → ts[j]? = some d := fun j d hj hlt => by rwa [List.getElem?_append_left hlt] at hj
  have right : ∀ j d, (ts ++ us)[j]? = some d → ¬ j < ts.length → us[j - ts.length]? = some d := fun j d hj hlt => by rwa [List.getElem?_append_right (by omega)] at hj
  refine ⟨by simp [hl, kl], fun j => if j < ts.length then T j else U (j - ts.length), ?_, ?_, ?_⟩
  · intro j d hj
    by_cases hlt : j < ts.length
    · simp only [if_pos hlt]
      obtain ⟨v, hv, ho⟩ := h1 j d (left j d hj hlt)
      exact ⟨v, by rw [List.getElem?_append_left (by omega)]; exact hv, ho⟩
    · simp only [if_neg hlt]
      obtain ⟨v, hv, ho⟩ := k1 _ d (right j d hj hlt)
      exact ⟨v, by rw [List.getElem?_append_right (by omega), hl]; exact hv, ho⟩
  · intro j d hj x hx
    by_cases hlt : j < ts.length
    · simp only [if_pos hlt] at hx
      exact .inl (h2 j d (left j d hj hlt) x hx)
    · simp only [if_neg hlt] at hx
      exact .inr (k2 _ d (right j d hj hlt) x hx)
  · intro j d hj j' d' hj' hne x hx hx'
    by_cases hlt : j < ts.length <;> by_cases hlt' : j' < ts.length
    · simp only [if_pos hlt] at hx; simp only [if_pos hlt'] at hx'
      exact h3 j d (left j d hj hlt) j' d' (left j' d' hj' hlt') hne x hx hx'
    · simp only [if_pos hlt] at hx; simp only [if_neg hlt'] at hx'
      exact hd x (h2 j d (left j d hj hlt) x hx) (k2 _ d' (right j' d' hj' hlt') x hx')
    · simp only [if_neg hlt] at hx; simp only [if_pos hlt'] at hx'
      exact hd x (h2 j' d' (left j' d' hj' hlt') x hx') (k2 _ d (right j d hj hlt) x hx)
    · simp only [if_neg hlt] at hx; simp only [if_neg hlt'] at hx'
      exact k3 _ d (right j d hj hlt) _ d' (right j' d' hj' hlt') (by omega) x hx hx'

theorem OwnL.one {w : World} {t : Tr} {v : Value} {S : Nat → Prop} (h : Own w t v S) : OwnL w [t] [v] S := by
  refine ⟨rfl, fun _ => S, ?_, ?_, ?_⟩
  · intro j d hd
    cases j with
    | zero => simp at hd; subst hd; exact ⟨v, rfl, h⟩
    | succ j => simp at hd
  · intro j d hd x hx
    exact hx
  · intro j d hd j' d' hd' hne
    cases j <;> cases j' <;> simp_all

structure Two (w : World) (B0 : Nat) (T0 : TypeId) (a0 : Array Value) (B1 : Nat) (T1 : TypeId) (a1 : Array Value) : Prop where
  o0 : OB w B0 T0 a0
  o1 : OB w B1 T1 a1
theorem Two.ext {w w' : World} {B0 B1 : Nat} {T0 T1 : TypeId} {a0 a1 : Array Value} (h : Two w B0 T0 a0 B1 T1 a1) (hx : Ext w w') : Two w' B0 T0 a0 B1 T1 a1 := ⟨h.o0.ext hx, h.o1.ext hx⟩
theorem Two.new (w : World) (T0 T1 : TypeId) (a0 a1 : Array Value) : Two ((w.alloc (.cells a0 T0)).alloc (.cells a1 T1)) w.heap.size T0 a0 (w.heap.size + 1) T1 a1 := by
  refine ⟨(OB.new w T0 a0).ext (.alloc (.refl _) _), ?_⟩
  have := OB.new (w.alloc (.cells a0 T0)) T1 a1
  simpa using this

theorem Rep.lens {w : World} {sz : Nat} {es : List (List Tr)} {a : Option Addr} {n c : Nat} (h : Rep w (.row sz es) (.slice a n c)) : n ≤ c ∧ c ≤ 9223372036854775807 ∧ n = es.length := by
  obtain ⟨a', c', h1, h2, h3⟩ := h.shape
  injection h1 with _ h4 h5
  subst h4 h5
  exact ⟨h2, by unfold maxLen at h3; omega, rfl⟩
theorem cells_ext {w w' : World} {b off : Nat} {cs : List Value} (hx : Ext w w') (hb : b < w.heap.size) (hc : ∀ (j : Nat) (v : Value), cs[j]? = some v → w.cell? ⟨b, off + j, none⟩ = some v) :
    ∀ (j : Nat) (v : Value), cs[j]? = some v → w'.cell? ⟨b, off + j, none⟩ = some v := fun j v hv => (hx.cell (p := ⟨b, off + j, none⟩) hb).trans (hc j v hv)
theorem OB.cells0 {w : World} {B : Nat} {T : TypeId} {cs : List Value} (h : OB w B T ⟨cs⟩) : ∀ (j : Nat) (v : Value), cs[j]? = some v → w.cell? ⟨B, 0 + j, none⟩ = some v := fun j v hv => by
  rw [h.cell, Nat.zero_add]; simpa using hv

theorem run_callFunc_body {P : Program} {f : FuncId} {fn : Func} (hf : P.funcs[f]? = some fn) (hname : (fn.name == "runtime.NumGoroutine") = false) (hb : fn.body.isNone = false) (args : Array Value) (w : World) :
    (callFunc f args).run P w = .ok (.enter f args) w := by
  have h1 : ¬ (fn.name == "runtime.NumGoroutine") = true := by simp [hname]
  have h2 : ¬ fn.body.isNone = true := by simp [hb]
  unfold callFunc
  rw [Sem.run_bind]
  show Result.andThen (Result.ok P w) _ = _
  rw [Result.andThen_ok, hf]
  simp only [h1, h2]
  rfl

/-- Blocks from 'lo' on hold what they held. -/
def Keeps (lo : Nat) (w w' : World) : Prop := w.heap.size ≤ w'.heap.size ∧ ∀ b, lo ≤ b → b < w.heap.size → w'.heap[b]? = w.heap[b]?
theorem Keeps.refl (lo : Nat) (w : World) : Keeps lo w w := ⟨Nat.le_refl _, fun _ _ _ => rfl⟩
theorem Keeps.of_ext {lo : Nat} {w w' : World} (h : Ext w w') : Keeps lo w w' := ⟨h.size, fun b _ hb => h.block b hb⟩
theorem Keeps.of_grown {lo B : Nat} {w w' : World} (h : w.grownBy w' (some B)) (hB : B < lo) : Keeps lo w w' := ⟨h.size, fun b hl hb => h.block b hb (by simp; omega)⟩
theorem Keeps.trans {lo : Nat} {a b c : World} (h : Keeps lo a b) (k : Keeps lo b c) : Keeps lo a c := ⟨Nat.le_trans h.1 k.1, fun x hl hx => (k.2 x hl (Nat.lt_of_lt_of_le hx h.1)).trans (h.2 x hl hx)⟩
theorem OwnL.keeps {w w' : World} {lo : Nat} {ts : List Tr} {vs : List Value} {S : Nat → Prop} (h : OwnL w ts vs S) (hk : Keeps lo w w') (hS : ∀ x, S x → lo ≤ x) : OwnL w' ts vs S := h.keep fun b hb hlt => hk.2 b (hS b hb) hlt
theorem Own.keeps {w w' : World} {lo : Nat} {t : Tr} {v : Value} {S : Nat → Prop} (h : Own w t v S) (hk : Keeps lo w w') (hS : ∀ x, S x → lo ≤ x) : Own w' t v S := h.keep fun b hb hlt => hk.2 b (hS b hb) hlt

theorem RepL.split {w : World} {ts us : List Tr} {cs : List Value} (h : RepL w (ts ++ us) cs) : ∃ c d, cs = c ++ d ∧ RepL w ts c ∧ RepL w us d := by
  induction ts generalizing cs with
  | nil => exact ⟨[], cs, rfl, trivial, h⟩
  | cons t ts ih =>
    cases cs with
    | nil => exact h.elim
    | cons v vs =>
      obtain ⟨c, d, rfl, h1, h2⟩ := ih h.2
      exact ⟨v :: c, d, rfl, ⟨h.1, h1⟩, h2⟩
theorem RepL.nil_eq {w : World} {cs : List Value} (h : RepL w [] cs) : cs = [] := by cases cs with | nil => rfl | cons => exact h.elim

theorem Tr.bulkL_append (a b : List Tr) : Tr.bulkL (a ++ b) = Tr.bulkL a + Tr.bulkL b := by
  induction a with
  | nil => simp [Tr.bulkL]
  | cons t a ih => simp [Tr.bulkL, ih]; omega
theorem Tr.bulk_int (k : IntKind) (n : Int) : Tr.bulk (.leaf (.int k n)) = 0 := by simp [Tr.bulk]
theorem Tr.bulk_bool (b : Bool) : Tr.bulk (.leaf (.bool b)) = 0 := by simp [Tr.bulk]
theorem Tr.bulkAll_le {l : List (List Tr)} {k : Nat} (h : k < l.length) : Tr.bulkL l[k] ≤ Tr.bulkAll l := by
  induction l generalizing k with
  | nil => simp at h
  | cons a l ih =>
    cases k with
    | zero => simp [Tr.bulkAll]
    | succ k => have := ih (k := k) (by simpa using h); simp [Tr.bulkAll]; omega

theorem list1 {α : Type} {l : List α} (h : l.length = 1) : ∃ a0 : α, l = [a0] := by
  match l, h with
  | [a0], _ => exact ⟨a0, rfl⟩
theorem list2 {α : Type} {l : List α} (h : l.length = 2) : ∃ a0 a1 : α, l = [a0, a1] := by
  match l, h with
  | [a0, a1], _ => exact ⟨a0, a1, rfl⟩
theorem list3 {α : Type} {l : List α} (h : l.length = 3) : ∃ a0 a1 a2 : α, l = [a0, a1, a2] := by
  match l, h with
  | [a0, a1, a2], _ => exact ⟨a0, a1, a2, rfl⟩
theorem list4 {α : Type} {l : List α} (h : l.length = 4) : ∃ a0 a1 a2 a3 : α, l = [a0, a1, a2, a3] := by
  match l, h with
  | [a0, a1, a2, a3], _ => exact ⟨a0, a1, a2, a3, rfl⟩
theorem list5 {α : Type} {l : List α} (h : l.length = 5) : ∃ a0 a1 a2 a3 a4 : α, l = [a0, a1, a2, a3, a4] := by
  match l, h with
  | [a0, a1, a2, a3, a4], _ => exact ⟨a0, a1, a2, a3, a4, rfl⟩
theorem list6 {α : Type} {l : List α} (h : l.length = 6) : ∃ a0 a1 a2 a3 a4 a5 : α, l = [a0, a1, a2, a3, a4, a5] := by
  match l, h with
  | [a0, a1, a2, a3, a4, a5], _ => exact ⟨a0, a1, a2, a3, a4, a5, rfl⟩
theorem list7 {α : Type} {l : List α} (h : l.length = 7) : ∃ a0 a1 a2 a3 a4 a5 a6 : α, l = [a0, a1, a2, a3, a4, a5, a6] := by
  match l, h with
  | [a0, a1, a2, a3, a4, a5, a6], _ => exact ⟨a0, a1, a2, a3, a4, a5, a6, rfl⟩
theorem list8 {α : Type} {l : List α} (h : l.length = 8) : ∃ a0 a1 a2 a3 a4 a5 a6 a7 : α, l = [a0, a1, a2, a3, a4, a5, a6, a7] := by
  match l, h with
  | [a0, a1, a2, a3, a4, a5, a6, a7], _ => exact ⟨a0, a1, a2, a3, a4, a5, a6, a7, rfl⟩
theorem list9 {α : Type} {l : List α} (h : l.length = 9) : ∃ a0 a1 a2 a3 a4 a5 a6 a7 a8 : α, l = [a0, a1, a2, a3, a4, a5, a6, a7, a8] := by
  match l, h with
  | [a0, a1, a2, a3, a4, a5, a6, a7, a8], _ => exact ⟨a0, a1, a2, a3, a4, a5, a6, a7, a8, rfl⟩
theorem list10 {α : Type} {l : List α} (h : l.length = 10) : ∃ a0 a1 a2 a3 a4 a5 a6 a7 a8 a9 : α, l = [a0, a1, a2, a3, a4, a5, a6, a7, a8, a9] := by
  match l, h with
  | [a0, a1, a2, a3, a4, a5, a6, a7, a8, a9], _ => exact ⟨a0, a1, a2, a3, a4, a5, a6, a7, a8, a9, rfl⟩
theorem list11 {α : Type} {l : List α} (h : l.length = 11) : ∃ a0 a1 a2 a3 a4 a5 a6 a7 a8 a9 a10 : α, l = [a0, a1, a2, a3, a4, a5, a6, a7, a8, a9, a10] := by
  match l, h with
  | [a0, a1, a2, a3, a4, a5, a6, a7, a8, a9, a10], _ => exact ⟨a0, a1, a2, a3, a4, a5, a6, a7, a8, a9, a10, rfl⟩
theorem list12 {α : Type} {l : List α} (h : l.length = 12) : ∃ a0 a1 a2 a3 a4 a5 a6 a7 a8 a9 a10 a11 : α, l = [a0, a1, a2, a3, a4, a5, a6, a7, a8, a9, a10, a11] := by
  match l, h with
  | [a0, a1, a2, a3, a4, a5, a6, a7, a8, a9, a10, a11], _ => exact ⟨a0, a1, a2, a3, a4, a5, a6, a7, a8, a9, a10, a11, rfl⟩
theorem list13 {α : Type} {l : List α} (h : l.length = 13) : ∃ a0 a1 a2 a3 a4 a5 a6 a7 a8 a9 a10 a11 a12 : α, l = [a0, a1, a2, a3, a4, a5, a6, a7, a8, a9, a10, a11, a12] := by
  match l, h with
  | [a0, a1, a2, a3, a4, a5, a6, a7, a8, a9, a10, a11, a12], _ => exact ⟨a0, a1, a2, a3, a4, a5, a6, a7, a8, a9, a10, a11, a12, rfl⟩
theorem list14 {α : Type} {l : List α} (h : l.length = 14) : ∃ a0 a1 a2 a3 a4 a5 a6 a7 a8 a9 a10 a11 a12 a13 : α, l = [a0, a1, a2, a3, a4, a5, a6, a7, a8, a9, a10, a11, a12, a13] := by
  match l, h with
  | [a0, a1, a2, a3, a4, a5, a6, a7, a8, a9, a10, a11, a12, a13], _ => exact ⟨a0, a1, a2, a3, a4, a5, a6, a7, a8, a9, a10, a11, a12, a13, rfl⟩
theorem list15 {α : Type} {l : List α} (h : l.length = 15) : ∃ a0 a1 a2 a3 a4 a5 a6 a7 a8 a9 a10 a11 a12 a13 a14 : α, l = [a0, a1, a2, a3, a4, a5, a6, a7, a8, a9, a10, a11, a12, a13, a14] := by
  match l, h with
  | [a0, a1, a2, a3, a4, a5, a6, a7, a8, a9, a10, a11, a12, a13, a14], _ => exact ⟨a0, a1, a2, a3, a4, a5, a6, a7, a8, a9, a10, a11, a12, a13, a14, rfl⟩
theorem list16 {α : Type} {l : List α} (h : l.length = 16) : ∃ a0 a1 a2 a3 a4 a5 a6 a7 a8 a9 a10 a11 a12 a13 a14 a15 : α, l = [a0, a1, a2, a3, a4, a5, a6, a7, a8, a9, a10, a11, a12, a13, a14, a15] := by
  match l, h with
  | [a0, a1, a2, a3, a4, a5, a6, a7, a8, a9, a10, a11, a12, a13, a14, a15], _ => exact ⟨a0, a1, a2, a3, a4, a5, a6, a7, a8, a9, a10, a11, a12, a13, a14, a15, rfl⟩

end Go.Proofs.YtnakkelglbcecaaGreat
