/- One element of a slice of our own in hand: its cells are stored to one by one, its own slices are changed by calls. No conditions. -/
import Derived.Test.YtoifjkggpanceaaMark
import Derived.WalkArith
namespace Go.Proofs.Ytoifjkggpanceaa
open Go.RowKit

theorem OwnL.setLeaf {w : World} {ts : List Tr} {cs : List Value} {T : Nat → Prop} {j : Nat} {u : Tr} {v : Value} (h : OwnL w ts cs T) (hj : ts[j]? = some u) (hv : LeafOk v) : OwnL w (ts.set j (.leaf v)) (cs.set j v) T := by
  obtain ⟨hl, U, h1, h2, h3⟩ := h
  have hlt : j < ts.length := (List.getElem?_eq_some_iff.1 hj).1
  have old : ∀ i d, (ts.set j (.leaf v))[i]? = some d → (i = j ∧ d = .leaf v) ∨ (i ≠ j ∧ ts[i]? = some d) := by
    intro i d hd
    rw [List.getElem?_set] at hd
    split at hd
    · rename_i hij
      subst hij
      simp only [hlt, if_true, Option.some.injEq] at hd
      exact .inl ⟨rfl, hd.symm⟩
    · rename_i hij
      exact .inr ⟨fun e => hij e.symm, hd⟩
  refine ⟨by simp [hl], fun i x => i ≠ j ∧ U i x, ?_, ?_, ?_⟩
  · intro i d hd
    rcases old i d hd with ⟨rfl, rfl⟩ | ⟨hne, hd⟩
    · exact ⟨v, by rw [List.getElem?_set]; simp [hl, hlt], .leaf hv⟩
    · obtain ⟨v', hv', ho⟩ := h1 i d hd
      exact ⟨v', by rw [List.getElem?_set]; rw [if_neg (fun e => hne e.symm)]; exact hv', ho.mono fun x hx => ⟨hne, hx⟩⟩
  · intro i d hd x hx
    rcases old i d hd with ⟨rfl, rfl⟩ | ⟨hne, hd⟩
    · exact (hx.1 rfl).elim
    · exact h2 i d hd x hx.2
  · intro i d hd i' d' hd' hne x hx hx'
    rcases old i d hd with ⟨rfl, rfl⟩ | ⟨_, hd⟩
    · exact hx.1 rfl
    · rcases old i' d' hd' with ⟨rfl, rfl⟩ | ⟨_, hd'⟩
      · exact hx'.1 rfl
      · exact h3 i d hd i' d' hd' hne x hx.2 hx'.2

theorem OwnL.setRow {w : World} {ts : List Tr} {cs : List Value} {T : Nat → Prop} {j : Nat} {t : Tr} {v : Value} (h : OwnL w ts cs T) (hj : ts[j]? = some t) (hv : cs[j]? = some v) :
    ∃ U : Nat → Prop, Own w t v U ∧ (∀ x, U x → T x) ∧ ∀ w' t', Own w' t' v U → (∀ x, x < w.heap.size → T x → ¬ U x → w'.heap[x]? = w.heap[x]?) → OwnL w' (ts.set j t') cs T := by
  obtain ⟨hl, U, h1, h2, h3⟩ := h
  have hlt : j < ts.length := (List.getElem?_eq_some_iff.1 hj).1
  obtain ⟨v1, hv1, ho1⟩ := h1 j t hj
  rw [hv] at hv1
  injection hv1 with hv1
  subst hv1
  refine ⟨U j, ho1, h2 j t hj, fun w' t' ho' hk => ⟨by simp [hl], U, ?_, ?_, ?_⟩⟩
  all_goals
    have old : ∀ i d, (ts.set j t')[i]? = some d → (i = j ∧ d = t') ∨ (i ≠ j ∧ ts[i]? = some d) := by
      intro i d hd
      rw [List.getElem?_set] at hd
      split at hd
      · rename_i hij
        subst hij
        simp only [hlt, if_true, Option.some.injEq] at hd
        exact .inl ⟨rfl, hd.symm⟩
      · rename_i hij
        exact .inr ⟨fun e => hij e.symm, hd⟩
  · intro i d hd
    rcases old i d hd with ⟨rfl, rfl⟩ | ⟨hne, hd⟩
    · exact ⟨v, hv, ho'⟩
    · obtain ⟨v', hv', ho⟩ := h1 i d hd
      exact ⟨v', hv', ho.keep fun x hx hxl => hk x hxl (h2 i d hd x hx) (fun hu => h3 i d hd j t hj hne x hx hu)⟩
  · intro i d hd x hx
    rcases old i d hd with ⟨rfl, rfl⟩ | ⟨hne, hd⟩
    · exact h2 i t hj x hx
    · exact h2 i d hd x hx
  · intro i d hd i' d' hd' hne x hx hx'
    rcases old i d hd with ⟨rfl, rfl⟩ | ⟨hne1, hd1⟩
    · rcases old i' d' hd' with ⟨rfl, rfl⟩ | ⟨_, hd2⟩
      · exact hne rfl
      · exact h3 i t hj i' d' hd2 hne x hx hx'
    · rcases old i' d' hd' with ⟨rfl, rfl⟩ | ⟨_, hd2⟩
      · exact h3 i d hd1 i' t hj hne x hx hx'
      · exact h3 i d hd1 i' d' hd2 hne x hx hx'

structure Foc (w0 wr : World) (b : Nat) (E : TypeId) (arr0 : Array Value) (o sz : Nat) (ts : List Tr) (cs : List Value) (T : Nat → Prop) : Prop where
  arr : ∃ arr, OB wr b E arr ∧ arr.size = arr0.size ∧ (∀ q, q < o ∨ o + sz ≤ q → arr[q]? = arr0[q]?) ∧ (∀ j v, cs[j]? = some v → arr[o + j]? = some v)
  own : OwnL wr ts cs T
  chg : Chg (fun x => x = b ∨ T x) w0 wr
  notin : ¬ T b
  len : cs.length = sz
  fit : o + sz ≤ arr0.size
  tlt : ∀ x, T x → x < w0.heap.size
  blt : b < w0.heap.size

theorem Foc.cell {w0 wr : World} {b : Nat} {E : TypeId} {arr0 : Array Value} {o sz : Nat} {ts : List Tr} {cs : List Value} {T : Nat → Prop} (h : Foc w0 wr b E arr0 o sz ts cs T) {j : Nat} {v : Value} (hj : cs[j]? = some v) : wr.cell? ⟨b, o + j, none⟩ = some v := by
  obtain ⟨arr, h1, -, -, h4⟩ := h.arr
  rw [h1.cell]
  exact h4 j v hj
theorem Foc.ext {w0 wr w' : World} {b : Nat} {E : TypeId} {arr0 : Array Value} {o sz : Nat} {ts : List Tr} {cs : List Value} {T : Nat → Prop} (h : Foc w0 wr b E arr0 o sz ts cs T) (hx : Ext wr w') : Foc w0 w' b E arr0 o sz ts cs T := by
  obtain ⟨arr, h1, h2, h3, h4⟩ := h.arr
  exact ⟨⟨arr, h1.ext hx, h2, h3, h4⟩, h.own.ext hx, h.chg.trans (.of_ext hx), h.notin, h.len, h.fit, h.tlt, h.blt⟩

theorem splice_get {arr : Array Value} {o : Nat} {cs : List Value} (h : o + cs.length ≤ arr.size) (q : Nat) : (splice arr o cs)[q]? = if q < o then arr[q]? else if q < o + cs.length then cs[q - o]? else arr[q]? := by
  unfold splice
  rw [List.getElem?_toArray, List.append_assoc]
  by_cases h1 : q < o
  · rw [if_pos h1, List.getElem?_append_left (by simp; omega), List.getElem?_take, if_pos h1]; simp
  · rw [if_neg h1, List.getElem?_append_right (by simp; omega)]
    have hl : (List.take o arr.toList).length = o := by simp; omega
    rw [hl]
    by_cases h2 : q < o + cs.length
    · rw [if_pos h2, List.getElem?_append_left (by omega)]
    · rw [if_neg h2, List.getElem?_append_right (by omega), List.getElem?_drop, Array.getElem?_toList]
      congr 1; omega

theorem Foc.leaf {w0 wr w' : World} {b : Nat} {E : TypeId} {arr0 arr : Array Value} {o sz : Nat} {ts : List Tr} {cs : List Value} {T : Nat → Prop} (h : Foc w0 wr b E arr0 o sz ts cs T) {j : Nat} {u : Tr} {v : Value} (hj : ts[j]? = some u) (hv : LeafOk v)
    (ha : OB wr b E arr) (hob : OB w' b E (splice arr (o + j) [v])) (hg : wr.grownBy w' (some b)) : Foc w0 w' b E arr0 o sz (ts.set j (.leaf v)) (cs.set j v) T := by
  obtain ⟨arr1, h1, h2, h3, h4⟩ := h.arr
  have he := ha.symm.trans h1
  injection he with he
  injection he with he
  subst he
  have hlt : j < ts.length := (List.getElem?_eq_some_iff.1 hj).1
  have hsz : j < sz := by rw [← h.len, h.own.1]; exact hlt
  have hfit := h.fit
  have hw : Chg (fun x => x = b) wr w' := Chg.of_grown hg rfl
  refine ⟨⟨_, hob, by rw [splice_size (by simp; omega)]; exact h2, ?_, ?_⟩, (h.own.setLeaf hj hv).keep fun x hx hxl => hw.block x hxl (by rintro rfl; exact h.notin hx), h.chg.trans (hw.mono fun x hx => .inl hx), h.notin, by rw [List.length_set]; exact h.len, h.fit, h.tlt, h.blt⟩
  · intro q hq
    rw [splice_get (by simp; omega)]
    simp only [List.length_cons, List.length_nil]
    rw [← h3 q hq]
    split
    · rfl
    · rw [if_neg (by omega)]
  · intro i x hx
    rw [splice_get (by simp; omega)]
    simp only [List.length_cons, List.length_nil]
    rw [List.getElem?_set] at hx
    split at hx
    · rename_i hji
      subst hji
      split at hx
      · injection hx with hx
        subst hx
        rw [if_neg (by omega), if_pos (by omega)]
        simp
      · simp at hx
    · rename_i hji
      have := h4 i x hx
      split
      · exact this
      · rw [if_neg (by omega)]; exact this

theorem Foc.row {w0 wr : World} {b : Nat} {E : TypeId} {arr0 : Array Value} {o sz : Nat} {ts : List Tr} {cs : List Value} {T : Nat → Prop} (h : Foc w0 wr b E arr0 o sz ts cs T) {j : Nat} {t : Tr} {v : Value} (hj : ts[j]? = some t) (hv : cs[j]? = some v) :
    ∃ U : Nat → Prop, Own wr t v U ∧ (∀ x, U x → x < wr.heap.size) ∧ ∀ w' t', Own w' t' v U → Chg U wr w' → Foc w0 w' b E arr0 o sz (ts.set j t') cs T := by
  obtain ⟨U, hu1, hu2, hu3⟩ := h.own.setRow hj hv
  refine ⟨U, hu1, fun x hx => Nat.lt_of_lt_of_le (h.tlt x (hu2 x hx)) h.chg.size, fun w' t' ho hc => ?_⟩
  obtain ⟨arr, h1, h2, h3, h4⟩ := h.arr
  have hnb : ¬ U b := fun hx => h.notin (hu2 b hx)
  exact ⟨⟨arr, (hc.block b h1.lt hnb).trans h1, h2, h3, h4⟩, hu3 w' t' ho fun x hxl _ hn => hc.block x hxl hn, h.chg.trans (hc.mono fun x hx => .inr (hu2 x hx)), h.notin, h.len, h.fit, h.tlt, h.blt⟩

/-- Element i is taken in hand. -/
theorem Own.take {w : World} {sz : Nat} {es : List (List Tr)} {a : Option Addr} {n cap i : Nat} {S : Nat → Prop} {e : List Tr} (h : Own w (.row sz es) (.slice a n cap) S) (hi : es[i]? = some e) (hl : ∀ x ∈ es, x.length = sz) (hsz : 0 < sz) (hS : ∀ x, S x → x < w.heap.size) :
    ∃ b off E arr cs T, a = some ⟨b, off, none⟩ ∧ Foc w w b E arr (off + i * sz) sz e cs T ∧ RepL w e cs ∧
      ∀ w' cs' e', e'.length = sz → Foc w w' b E arr (off + i * sz) sz e' cs' T → Own w' (.row sz (es.set i e')) (.slice a n cap) S ∧ Chg S w w' := by
  obtain ⟨b, off, E, arr, cs, T, rfl, hob, hsb, how, hT, hcl, hfit, hc, hback⟩ := h.focus hi hl
  refine ⟨b, off, E, arr, cs, T, rfl, ⟨⟨arr, hob, rfl, fun _ _ => rfl, fun j v hv => hc j v hv⟩, how, Chg.refl _ _, fun hb => (hT b hb).2 rfl, hcl, hfit hsz, fun x hx => hS x (hT x hx).1, hob.lt⟩, how.rep, fun w' cs' e' he' hf => ?_⟩
  obtain ⟨arr', h1, h2, h3, h4⟩ := hf.arr
  have hz := hf.len
  have hfit := hf.fit
  have harr : arr' = splice arr (off + i * sz) cs' := by
    apply Array.ext_getElem?
    intro q
    rw [splice_get (by omega)]
    split
    · rename_i hq
      exact h3 q (.inl hq)
    · split
      · rename_i hq1 hq2
        obtain ⟨v, hv⟩ : ∃ v, cs'[q - (off + i * sz)]? = some v := ⟨cs'[q - (off + i * sz)]'(by omega), List.getElem?_eq_getElem _⟩
        rw [hv, ← h4 _ v hv]
        congr 1; omega
      · rename_i hq1 hq2
        exact h3 q (.inr (by omega))
  rw [harr] at h1
  have hch : Chg S w w' := hf.chg.mono fun x hx => by rcases hx with rfl | hx; exact hsb; exact (hT x hx).1
  exact ⟨hback w' cs' e' he' h1 hf.own (fun x hxl _ hne hnt => hf.chg.block x hxl (by rintro (h | h); exact hne h; exact hnt h)) hf.fit, hch⟩

/-- How the marks of a struct handed by value run: only what lies in its slices is marked. -/
def Tr.topL : List Tr → Nat → List Tr
  | [], _ => []
  | .leaf v :: r, k => .leaf v :: Tr.topL r k
  | .row sz es :: r, k => .row sz (Tr.markE es k) :: Tr.topL r (k + Tr.cntE es)
def Tr.topN : List Tr → Nat
  | [] => 0
  | .leaf _ :: r => Tr.topN r
  | .row _ es :: r => Tr.cntE es + Tr.topN r
theorem Tr.topL_append : ∀ (a b : List Tr) (k : Nat), Tr.topL (a ++ b) k = Tr.topL a k ++ Tr.topL b (k + Tr.topN a)
  | [], b, k => by simp [Tr.topL, Tr.topN]
  | .leaf v :: a, b, k => by simp [Tr.topL, Tr.topN, Tr.topL_append a b]
  | .row sz es :: a, b, k => by simp [Tr.topL, Tr.topN, Tr.topL_append a b, Nat.add_assoc]
theorem Tr.topN_append : ∀ (a b : List Tr), Tr.topN (a ++ b) = Tr.topN a + Tr.topN b
  | [], b => by simp [Tr.topN]
  | .leaf v :: a, b => by simp [Tr.topN, Tr.topN_append a b]
  | .row sz es :: a, b => by simp [Tr.topN, Tr.topN_append a b, Nat.add_assoc]

/-- The first i elements are marked, the others are not. -/
def Tr.mid (es : List (List Tr)) (k i : Nat) : List (List Tr) := (Tr.markE es k).take i ++ es.drop i
theorem Tr.mid_zero (es : List (List Tr)) (k : Nat) : Tr.mid es k 0 = es := by simp [Tr.mid]
theorem Tr.mid_end (es : List (List Tr)) (k : Nat) : Tr.mid es k es.length = Tr.markE es k := by
  unfold Tr.mid
  rw [List.drop_length, List.append_nil, List.take_of_length_le (by rw [Tr.markE_length]; exact Nat.le_refl _)]
theorem Tr.mid_len (es : List (List Tr)) (k i : Nat) : (Tr.mid es k i).length = es.length := by
  unfold Tr.mid
  rw [List.length_append, List.length_take, List.length_drop, Tr.markE_length]
  omega
theorem Tr.mid_get {es : List (List Tr)} {k i : Nat} (h : i < es.length) : (Tr.mid es k i)[i]? = some es[i] := by
  unfold Tr.mid
  have hl : ((Tr.markE es k).take i).length = i := by rw [List.length_take, Tr.markE_length]; omega
  rw [List.getElem?_append_right (by omega), hl, Nat.sub_self, List.getElem?_drop, Nat.add_zero, List.getElem?_eq_getElem h]
theorem Tr.mid_set {es : List (List Tr)} {k i : Nat} (h : i < es.length) : (Tr.mid es k i).set i (Tr.markL es[i] (k + Tr.cntE (es.take i))) = Tr.mid es k (i + 1) := by
  unfold Tr.mid
  have hl : ((Tr.markE es k).take i).length = i := by rw [List.length_take, Tr.markE_length]; omega
  have hm : (Tr.markE es k)[i]? = some (Tr.markL es[i] (k + Tr.cntE (es.take i))) := Tr.markE_get es k i h
  have hlt : i < (Tr.markE es k).length := by rw [Tr.markE_length]; exact h
  rw [List.getElem?_eq_getElem hlt] at hm
  injection hm with hm
  rw [List.set_append_right _ _ (by omega), hl, Nat.sub_self, List.drop_eq_getElem_cons h, List.set_cons_zero, List.take_succ_eq_append_getElem hlt, hm]
  simp
theorem Tr.markE_sz {es : List (List Tr)} {k sz : Nat} (h : ∀ e ∈ es, e.length = sz) : ∀ e ∈ Tr.markE es k, e.length = sz := by
  induction es generalizing k with
  | nil => intro e he; simp [Tr.markE] at he
  | cons a r ih =>
    intro e he
    simp only [Tr.markE, List.mem_cons] at he
    rcases he with rfl | he
    · rw [Tr.markL_length]; exact h a (by simp)
    · exact ih (fun x hx => h x (by simp [hx])) e he
theorem Tr.mid_sz {es : List (List Tr)} {k i sz : Nat} (h : ∀ e ∈ es, e.length = sz) : ∀ e ∈ Tr.mid es k i, e.length = sz := by
  intro e he
  unfold Tr.mid at he
  rcases List.mem_append.1 he with h1 | h1
  · exact Tr.markE_sz h e (List.mem_of_mem_take h1)
  · exact h e (List.mem_of_mem_drop h1)
theorem Tr.cntE_le {es : List (List Tr)} {i : Nat} (h : i < es.length) : Tr.cntE (es.take i) + Tr.cntL es[i] ≤ Tr.cntE es := by
  induction es generalizing i with
  | nil => simp at h
  | cons a r ih =>
    cases i with
    | zero => simp [Tr.cntE]
    | succ i => have := ih (i := i) (by simpa using h); simp [Tr.cntE]; omega
theorem mtext_size (k : Nat) (h : k ≤ 2305843009213693952) : (mtext k).size ≤ 20 := by
  have h1 : (digits k).length ≤ 19 := digits_length k 19 (by omega)
  unfold mtext
  show ((109 : UInt8) :: if k = 0 then [48] else digits k).toArray.size ≤ 20
  simp only [List.size_toArray, List.length_cons]
  split
  · simp
  · omega
theorem markLeaf_ok {v : Value} {k : Nat} (hv : LeafOk v) (h : k ≤ 2305843009213693952) (hi : ∀ d n, v = .int d n → d = .i64) : LeafOk (markLeaf k v) := by
  cases v with
  | int d n =>
    obtain rfl := hi d n rfl
    show (Lit.int .i64 (k : Int)).wf = true
    exact WalkArith.wf_i64 (by omega)
  | string s => have := mtext_size k h; show (mtext k).size ≤ maxLen; unfold maxLen; omega
  | bool b => trivial
  | _ => exact hv

end Go.Proofs.Ytoifjkggpanceaa
