/- Slices that a call makes and lets grow by append, their elements structs with memory of their own. No conditions. -/
import Derived.Test.YtoifjkggpanceaaMark
import Derived.Deep.AppendLies
namespace Go.Proofs.Ytoifjkggpanceaa
open Go.RowKit

/-- The slice is nil, or its row is known whole: it begins at 0 and the row's size is the capacity's. -/
def Whole (E : TypeId) (base sz : Nat) (w : World) (n : Nat) (v : Value) : Prop :=
  (v = .slice none 0 0 ∧ n = 0) ∨ ∃ g cap cur, v = .slice (some ⟨g, 0, none⟩) n cap ∧ base ≤ g ∧ OB w g E cur ∧ n ≤ cap ∧ cap ≤ maxLen ∧ cur.size = cap * sz

structure Acc (E : TypeId) (base sz : Nat) (w : World) (es : List (List Tr)) (v : Value) (S : Nat → Prop) : Prop where
  own : Own w (.row sz es) v S
  whole : Whole E base sz w es.length v
  lens : ∀ e ∈ es, e.length = sz
  lt : ∀ x, S x → base ≤ x ∧ x < w.heap.size

theorem Acc.rep {E : TypeId} {base sz : Nat} {w : World} {es : List (List Tr)} {v : Value} {S : Nat → Prop} (h : Acc E base sz w es v S) : Rep w (.row sz es) v := h.own.rep
theorem Acc.nil (E : TypeId) (base sz : Nat) (w : World) : Acc E base sz w [] (.slice none 0 0) (fun _ => False) :=
  ⟨Own.row (es := []) (fun _ _ => undef) (fun _ _ _ => False) (by simp) (by unfold maxLen; omega) (by simp) (by simp) (by simp) (by simp), .inl ⟨rfl, rfl⟩, by simp, by simp⟩
/-- An empty slice with a row of its own. -/
theorem Acc.empty {E : TypeId} {base sz : Nat} {w : World} {g cap : Nat} {cur : Array Value} (hb : base ≤ g) (ho : OB w g E cur) (hm : cap ≤ maxLen) (hc : cur.size = cap * sz) : Acc E base sz w [] (.slice (some ⟨g, 0, none⟩) 0 cap) (fun _ => False) :=
  ⟨Own.row (es := []) (fun _ _ => undef) (fun _ _ _ => False) (by simp) hm (by simp) (by simp) (by simp) (by simp), .inr ⟨g, cap, cur, rfl, hb, ho, Nat.zero_le _, hm, hc⟩, by simp, by simp⟩
theorem Acc.keep {E : TypeId} {base sz : Nat} {w w' : World} {es : List (List Tr)} {v : Value} {S : Nat → Prop} (h : Acc E base sz w es v S) (hz : w.heap.size ≤ w'.heap.size)
    (hx : ∀ b, S b ∨ v.ownBlock = some b → b < w.heap.size → w'.heap[b]? = w.heap[b]?) : Acc E base sz w' es v S := by
  refine ⟨h.own.keep fun b hb => hx b (.inl hb), ?_, h.lens, fun x hs => ⟨(h.lt x hs).1, Nat.lt_of_lt_of_le (h.lt x hs).2 hz⟩⟩
  rcases h.whole with h1 | ⟨g, cap, cur, rfl, h2, h3, h4⟩
  · exact .inl h1
  · exact .inr ⟨g, cap, cur, rfl, h2, (hx g (.inr rfl) h3.lt).trans h3, h4⟩
theorem Acc.ext {E : TypeId} {base sz : Nat} {w w' : World} {es : List (List Tr)} {v : Value} {S : Nat → Prop} (h : Acc E base sz w es v S) (hx : Ext w w') : Acc E base sz w' es v S := h.keep hx.size fun b _ hb => hx.block b hb
theorem Acc.mono {E : TypeId} {base base' sz : Nat} {w : World} {es : List (List Tr)} {v : Value} {S S' : Nat → Prop} (h : Acc E base sz w es v S) (hb : base' ≤ base) (hS : ∀ x, S x → S' x) (hl : ∀ x, S' x → base' ≤ x ∧ x < w.heap.size) : Acc E base' sz w es v S' := by
  refine ⟨h.own.mono hS, ?_, h.lens, hl⟩
  rcases h.whole with h1 | ⟨g, cap, cur, h1, h2, h3⟩
  · exact .inl h1
  · exact .inr ⟨g, cap, cur, h1, by omega, h3⟩

theorem Acc.owns {E : TypeId} {base sz : Nat} {w : World} {es : List (List Tr)} {v : Value} {S : Nat → Prop} (h : Acc E base sz w es v S) : ∃ xs, w.ownsRow base E sz v es.length xs := by
  rcases h.whole with ⟨h1, h2⟩ | ⟨g, cap, cur, h1, h2, h3, h4, h5, h6⟩
  · exact ⟨[], by simp [h2], .inl ⟨h1, h2⟩⟩
  · exact ⟨cur.toList.take (es.length * sz), by have := Nat.mul_le_mul_right sz h4; simp only [List.length_take, Array.length_toList]; omega, .inr ⟨g, cap, cur, h1, h2, h3, h4, h5, h6, rfl⟩⟩

theorem getE_append {α : Type} {es : List α} {e y : α} {i : Nat} (h : (es ++ [e])[i]? = some y) : (i < es.length ∧ es[i]? = some y) ∨ (i = es.length ∧ y = e) := by
  rcases Nat.lt_or_ge i es.length with hi | hi
  · rw [List.getElem?_append_left hi] at h
    exact .inl ⟨hi, h⟩
  · rw [List.getElem?_append_right hi] at h
    rcases hk : i - es.length with _ | k
    · rw [hk] at h
      simp at h
      exact .inr ⟨by omega, h.symm⟩
    · rw [hk] at h
      simp at h

theorem Acc.snoc {E : TypeId} {base base' sz : Nat} {w w' : World} {es : List (List Tr)} {e : List Tr} {v : Value} {S T : Nat → Prop} {xs cs : List Value} {g cap : Nat} (h : Acc E base sz w es v S) (hr : w.ownsRow base' E sz v es.length xs)
    (he : e.length = sz) (ho : OwnL w e cs T) (hST : ∀ x, S x → T x → False) (hT : ∀ x, T x → base ≤ x ∧ x < w.heap.size) (hTv : ∀ x, v.ownBlock = some x → ¬ T x)
    (hr' : w'.ownsRow base E sz (.slice (some ⟨g, 0, none⟩) (es.length + 1) cap) (es.length + 1) (xs ++ cs)) (hg : w.grownBy w' v.ownBlock) (hgg : v.ownBlock = some g ∨ g = w.heap.size) (hbw : base ≤ w.heap.size) :
    Acc E base sz w' (es ++ [e]) (.slice (some ⟨g, 0, none⟩) (es.length + 1) cap) (fun x => S x ∨ T x ∨ x = g) := by
  obtain ⟨hown, hwh, hlens, hlt⟩ := h
  have hel : (es ++ [e]).length = es.length + 1 := by simp
  obtain ⟨hxl', hr'⟩ := hr'
  rcases hr' with ⟨h1, -⟩ | ⟨g', cap', cur', h1, hbg, hob', hcap, hmax, hcs', htake'⟩
  · simp at h1
  injection h1 with h1 h2 h3
  injection h1 with h1
  injection h1 with h1
  subst h1 h3
  have hgl : g < w'.heap.size := OB.lt hob'
  have hvlt : ∀ x, v.ownBlock = some x → x < w.heap.size := by
    intro x hx
    rcases hwh with ⟨rfl, -⟩ | ⟨g0, c0, u0, rfl, -, h3, -⟩
    · simp [Value.ownBlock] at hx
    · simp [Value.ownBlock] at hx
      subst hx
      exact h3.lt
  have hxl : xs.length = es.length * sz := hr.1
  have hlens' : ∀ y ∈ es ++ [e], y.length = sz := by
    intro y hy
    rcases List.mem_append.1 hy with hy | hy
    · exact hlens y hy
    · simp at hy; rw [hy, he]
  have hcur' : ∀ i, i < (es.length + 1) * sz → cur'[i]? = (xs ++ cs)[i]? := by
    intro i hi
    have h8 : (cur'.toList.take ((es.length + 1) * sz))[i]? = (xs ++ cs)[i]? := by rw [htake']
    rw [List.getElem?_take, if_pos hi] at h8
    simpa using h8
  obtain ⟨hcl, U, u1, u2, u3⟩ := ho
  have hTg : ∀ x, T x → x ≠ g := by
    rintro x hx rfl
    rcases hgg with h | h
    · exact hTv _ h hx
    · have := (hT _ hx).2; omega
  cases hown with
  | row c T0 o1 o2 o3 o4 o5 o6 =>
    rename_i a cap0
    have keepb : ∀ b, b < w.heap.size → (Value.slice a es.length cap0).ownBlock ≠ some b → w'.heap[b]? = w.heap[b]? := fun b hb hne => hg.block b hb (fun h => hne h.symm)
    -- the old cells, seen from the list
    have hold : ∀ i y, es[i]? = some y → ∀ j d, y[j]? = some d → xs[i * sz + j]? = some (c i j) ∧ (∀ x, T0 i j x → (Value.slice a es.length cap0).ownBlock ≠ some x) := by
      intro i y hy j d hd
      have hne : es ≠ [] := by rintro rfl; simp at hy
      obtain ⟨b, off, E1, arr, rfl, hob, hs, hc⟩ := o3 hne
      obtain ⟨hc1, hc2⟩ := hc i y hy j d hd
      rcases hr.2 with ⟨h1, -⟩ | ⟨g1, c1, cur1, h1, -, hob1, q4, q5, q6, q7⟩
      · simp at h1
      injection h1 with h1 h2 h3
      injection h1 with h1
      injection h1 with h1 h4
      subst h1 h4
      have hoo := hob.symm.trans hob1
      injection hoo with hoo
      injection hoo with hoo
      subst hoo
      have hi : i < es.length := (List.getElem?_eq_some_iff.1 hy).1
      have hj : j < sz := by rw [← hlens y (List.mem_of_getElem? hy)]; exact (List.getElem?_eq_some_iff.1 hd).1
      have hij : i * sz + j < es.length * sz := by
        have : (i + 1) * sz ≤ es.length * sz := Nat.mul_le_mul_right _ hi
        rw [Nat.succ_mul] at this
        omega
      refine ⟨?_, fun x hx hh => ?_⟩
      · rw [← q7, List.getElem?_take, if_pos hij]
        rw [Nat.zero_add] at hc1
        simpa using hc1
      · simp [Value.ownBlock] at hh
        exact hc2 x hx hh.symm
    have hgS : ∀ i y, es[i]? = some y → ∀ j d, y[j]? = some d → ∀ x, T0 i j x → x ≠ g := by
      intro i y hy j d hd x hx
      rintro rfl
      rcases hgg with h | h
      · exact (hold i y hy j d hd).2 _ hx h
      · have := (hlt _ (o5 i y hy j d hd _ hx)).2; omega
    refine ⟨?_, .inr ⟨g, cap, cur', by rw [hel], hbg, hob', by rw [hel]; exact hcap, hmax, hcs'⟩, hlens', ?_⟩
    · rw [← hel]
      refine Own.row (fun i j => (cur'[i * sz + j]?).getD undef) (fun i j => if i < es.length then T0 i j else U j) (by rw [hel]; exact hcap) hmax ?_ ?_ ?_ ?_
      · intro _
        refine ⟨g, 0, E, cur', rfl, hob', .inr (.inr rfl), ?_⟩
        intro i y hy j d hd
        have hj : j < sz := by rw [← hlens' y (List.mem_of_getElem? hy)]; exact (List.getElem?_eq_some_iff.1 hd).1
        have hi : i < es.length + 1 := by rw [← hel]; exact (List.getElem?_eq_some_iff.1 hy).1
        have hij : i * sz + j < (es.length + 1) * sz := by
          have : (i + 1) * sz ≤ (es.length + 1) * sz := Nat.mul_le_mul_right _ hi
          rw [Nat.succ_mul] at this
          omega
        have hle : (es.length + 1) * sz ≤ cap * sz := Nat.mul_le_mul_right _ hcap
        refine ⟨?_, fun x hx => ?_⟩
        · rw [Nat.zero_add, Array.getElem?_eq_getElem (by omega)]; rfl
        · rcases getE_append hy with ⟨hi2, hy2⟩ | ⟨rfl, rfl⟩
          · simp only [if_pos hi2] at hx
            exact hgS i y hy2 j d hd x hx
          · simp only [Nat.lt_irrefl, if_false] at hx
            exact hTg x (u2 j d hd x hx)
      · intro i y hy j d hd
        have hj : j < sz := by rw [← hlens' y (List.mem_of_getElem? hy)]; exact (List.getElem?_eq_some_iff.1 hd).1
        have hi : i < es.length + 1 := by rw [← hel]; exact (List.getElem?_eq_some_iff.1 hy).1
        have hij : i * sz + j < (es.length + 1) * sz := by
          have : (i + 1) * sz ≤ (es.length + 1) * sz := Nat.mul_le_mul_right _ hi
          rw [Nat.succ_mul] at this
          omega
        have hcu := hcur' (i * sz + j) hij
        rcases getE_append hy with ⟨hi2, hy2⟩ | ⟨rfl, rfl⟩
        · simp only [if_pos hi2]
          obtain ⟨h8, h9⟩ := hold i y hy2 j d hd
          rw [List.getElem?_append_left (List.getElem?_eq_some_iff.1 h8).1, h8] at hcu
          rw [hcu]
          exact (o4 i y hy2 j d hd).keep fun b hb hbl => keepb b hbl (h9 b hb)
        · simp only [Nat.lt_irrefl, if_false]
          obtain ⟨v1, hv1, how⟩ := u1 j d hd
          rw [List.getElem?_append_right (by omega), hxl, Nat.add_sub_cancel_left, hv1] at hcu
          rw [hcu]
          exact how.keep fun b hb hbl => keepb b hbl (fun hh => hTv b hh (u2 j d hd b hb))
      · intro i y hy j d hd x hx
        rcases getE_append hy with ⟨hi2, hy2⟩ | ⟨rfl, rfl⟩
        · simp only [if_pos hi2] at hx
          exact .inl (o5 i y hy2 j d hd x hx)
        · simp only [Nat.lt_irrefl, if_false] at hx
          exact .inr (.inl (u2 j d hd x hx))
      · intro i y hy j d hd i' y' hy' j' d' hd' hne x hx hx'
        rcases getE_append hy with ⟨hi2, hy2⟩ | ⟨rfl, rfl⟩
        · simp only [if_pos hi2] at hx
          rcases getE_append hy' with ⟨hi2', hy2'⟩ | ⟨rfl, rfl⟩
          · simp only [if_pos hi2'] at hx'
            exact o6 i y hy2 j d hd i' y' hy2' j' d' hd' hne x hx hx'
          · simp only [Nat.lt_irrefl, if_false] at hx'
            exact hST x (o5 i y hy2 j d hd x hx) (u2 j' d' hd' x hx')
        · simp only [Nat.lt_irrefl, if_false] at hx
          rcases getE_append hy' with ⟨hi2', hy2'⟩ | ⟨hi3, rfl⟩
          · simp only [if_pos hi2'] at hx'
            exact hST x (o5 i' y' hy2' j' d' hd' x hx') (u2 j d hd x hx)
          · subst hi3
            simp only [Nat.lt_irrefl, if_false] at hx'
            exact u3 j d hd j' d' hd' (hne rfl) x hx hx'
    · intro x hx
      rcases hx with hx | hx | rfl
      · exact ⟨(hlt x hx).1, Nat.lt_of_lt_of_le (hlt x hx).2 hg.size⟩
      · exact ⟨(hT x hx).1, Nat.lt_of_lt_of_le (hT x hx).2 hg.size⟩
      · exact ⟨hbg, hgl⟩

theorem Acc.wide {E : TypeId} {base sz : Nat} {w : World} {es : List (List Tr)} {v : Value} {S : Nat → Prop} (h : Acc E base sz w es v S) : Acc E base sz w es v (fun x => base ≤ x ∧ x < w.heap.size) := h.mono (Nat.le_refl _) h.lt fun _ hx => hx
theorem Acc.blk {E : TypeId} {base sz : Nat} {w : World} {es : List (List Tr)} {v : Value} {S : Nat → Prop} (h : Acc E base sz w es v S) {x : Nat} (hx : v.ownBlock = some x) : base ≤ x ∧ x < w.heap.size := by
  rcases h.whole with ⟨rfl, -⟩ | ⟨g0, c0, u0, rfl, h1, h3, -⟩
  · simp [Value.ownBlock] at hx
  · simp [Value.ownBlock] at hx
    subst hx
    exact ⟨h1, h3.lt⟩
theorem Acc.shape {E : TypeId} {base sz : Nat} {w : World} {es : List (List Tr)} {v : Value} {S : Nat → Prop} (h : Acc E base sz w es v S) : ∃ a cap, v = .slice a es.length cap ∧ es.length ≤ cap ∧ cap ≤ maxLen := h.rep.shape
/-- The world behind an append onto a slice of our own, as seen from an elder world. -/
theorem grown_ext_own {a w w' : World} {v : Value} (h : Ext a w) (hg : w.grownBy w' v.ownBlock) (hB : ∀ x, v.ownBlock = some x → a.heap.size ≤ x) : Ext a w' := Below.grown h hg h.size hB
theorem Chg.of_grown_own {w w' : World} {v : Value} (hg : w.grownBy w' v.ownBlock) : Chg (fun b => v.ownBlock = some b) w w' :=
  ⟨hg.os, hg.tape, hg.output, hg.size, fun x hx hs => hg.block x hx (fun h => hs h.symm)⟩

theorem OB.grown_own {w w' : World} {g : Nat} {t : TypeId} {cs : Array Value} {v : Value} (h : OB w g t cs) (hg : w.grownBy w' v.ownBlock) (hne : v.ownBlock ≠ some g) : OB w' g t cs := (hg.block g h.lt (fun e => hne e.symm)).trans h

/-- append of one element onto a slice of our own. -/
theorem wpList_append_acc {P : Program} {ops : Array Oper} {rest : List Oper} {o : Oper} {a : Act} {w : World} {Q : Exit → Act → World → Prop} (hgd : o.guard = none) (s x : Operand) (t : TypeId)
    (ho : o.op = .call { callee := .builtin .append, args := #[s, x], argTypes := #[t, t] }) (E : TypeId) (sz bytes : Nat) (ht : P.underlying t = some (.slice E))
    (hi : (P.info? E).map (fun i => (i.zero.map (fun z => z.cells.size), i.size, i.bytes)) = some (some sz, sz, bytes)) (hsz : 0 < sz) (hby : bytes ≤ 100)
    (base : Nat) (es : List (List Tr)) (n : Nat) (hn : es.length = n) (v : Value) (S : Nat → Prop) (hs : a.eval s = v) (hacc : Acc E base sz w es v S)
    (e : List Tr) (cs : List Value) (T : Nat → Prop) (he : e.length = sz) (ho2 : OwnL w e cs T) (hST : ∀ x, S x → T x → False) (hT : ∀ x, T x → base ≤ x ∧ x < w.heap.size) (hTv : ∀ x, v.ownBlock = some x → ¬ T x)
    (B c : Nat) (E2 : TypeId) (hx : a.eval x = .slice (some ⟨B, 0, none⟩) 1 c) (hB : OB w B E2 ⟨cs⟩) (hlen : n ≤ 1099511627776) (hbase : base ≤ w.heap.size)
    (h : ∀ g cap w', Acc E base sz w' (es ++ [e]) (.slice (some ⟨g, 0, none⟩) (n + 1) cap) (fun x => S x ∨ T x ∨ x = g) → w.grownBy w' v.ownBlock → (v.ownBlock = some g ∨ g = w.heap.size) → g < w'.heap.size →
      wpList P ops Q rest (a.put o.dst (.slice (some ⟨g, 0, none⟩) (n + 1) cap)) w') : wpList P ops Q (o :: rest) a w := by
  subst hn
  obtain ⟨xs, hxs⟩ := hacc.owns
  cases hq : P.info? E with
  | none => simp [hq] at hi
  | some i =>
    simp only [hq, Option.map_some, Option.some.injEq, Prod.mk.injEq] at hi
    obtain ⟨h1, h2, h3⟩ := hi
    cases hz : i.zero with
    | none => simp [hz] at h1
    | some z =>
      simp only [hz, Option.map_some, Option.some.injEq] at h1
      have hcl : cs.length = sz := by rw [ho2.1, he]
      have hbb : (es.length + 1) * bytes ≤ 1099511627777 * 100 := Nat.mul_le_mul (by omega) hby
      refine wpList_append_lies w hgd s x t ho base E i z sz bytes ht hq hz h2 h3 h1 hsz v es.length xs hs hxs ⟨B, 0, none⟩ 1 c cs hx (by omega) ?_ (ho2.rep.one) (by omega) (by unfold maxLen; omega) (by omega) hbase _ rfl ?_
      · intro j u hu
        exact World.news_of_block hB j u (by simpa using hu)
      · intro g cap w' k1 k2 k3 k4
        exact h g cap w' (hacc.snoc hxs he ho2 hST hT hTv k1 k2 k3 hbase) k2 k3 k4

/-- From world w on, a slice v of our own has been appended to: by now it is v' and holds es. -/
structure AccRun (E : TypeId) (base sz : Nat) (w : World) (v : Value) (w' : World) (es : List (List Tr)) (v' : Value) : Prop where
  acc : ∃ U, Acc E base sz w' es v' U
  chg : Chg (fun b => v.ownBlock = some b) w w'
  row : ∀ b, v'.ownBlock = some b → v.ownBlock = some b ∨ w.heap.size ≤ b
theorem AccRun.refl {E : TypeId} {base sz : Nat} {w : World} {es : List (List Tr)} {v : Value} {U : Nat → Prop} (h : Acc E base sz w es v U) : AccRun E base sz w v w es v := ⟨⟨U, h⟩, Chg.refl _ _, fun _ h => .inl h⟩
theorem AccRun.ext {E : TypeId} {base sz : Nat} {w w1 w2 : World} {es : List (List Tr)} {v v' : Value} (h : AccRun E base sz w v w1 es v') (hx : Ext w1 w2) : AccRun E base sz w v w2 es v' := by
  obtain ⟨U, h1⟩ := h.acc
  exact ⟨⟨U, h1.ext hx⟩, h.chg.trans (.of_ext hx), h.row⟩
theorem AccRun.trans {E : TypeId} {base sz : Nat} {w w1 w2 : World} {es es2 : List (List Tr)} {v v1 v2 : Value} (h : AccRun E base sz w v w1 es v1) (k : AccRun E base sz w1 v1 w2 es2 v2) : AccRun E base sz w v w2 es2 v2 := by
  refine ⟨k.acc, ⟨k.chg.os.trans h.chg.os, k.chg.tape.trans h.chg.tape, k.chg.output.trans h.chg.output, Nat.le_trans h.chg.size k.chg.size, fun b hb hn => ?_⟩, fun b hb => ?_⟩
  · refine (k.chg.block b (Nat.lt_of_lt_of_le hb h.chg.size) fun h1 => ?_).trans (h.chg.block b hb hn)
    rcases h.row b h1 with h2 | h2
    · exact hn h2
    · omega
  · rcases k.row b hb with h1 | h1
    · exact h.row b h1
    · exact .inr (Nat.le_trans h.chg.size h1)
theorem AccRun.extL {E : TypeId} {base sz : Nat} {w w1 w2 : World} {es : List (List Tr)} {v v2 : Value} (hx : Ext w w1) (hv : ∀ b, v.ownBlock = some b → b < w.heap.size) (k : AccRun E base sz w1 v w2 es v2) : AccRun E base sz w v w2 es v2 := by
  refine ⟨k.acc, (Chg.of_ext hx).trans k.chg, fun b hb => ?_⟩
  rcases k.row b hb with h1 | h1
  · exact .inl h1
  · exact .inr (Nat.le_trans hx.size h1)
theorem AccRun.snoc {E : TypeId} {base sz : Nat} {w w' : World} {es : List (List Tr)} {v v' : Value} {U : Nat → Prop} {g cap n : Nat} (hv : v' = .slice (some ⟨g, 0, none⟩) n cap) (h : Acc E base sz w' es v' U) (hg : w.grownBy w' v.ownBlock) (hgg : v.ownBlock = some g ∨ g = w.heap.size) : AccRun E base sz w v w' es v' := by
  refine ⟨⟨U, h⟩, Chg.of_grown_own hg, fun b hb => ?_⟩
  subst hv
  simp [Value.ownBlock] at hb
  subst hb
  rcases hgg with h1 | h1
  · exact .inl h1
  · exact .inr (by omega)
/-- What lies elsewhere stays. -/
theorem AccRun.ob {E : TypeId} {base sz : Nat} {w w' : World} {es : List (List Tr)} {v v' : Value} (h : AccRun E base sz w v w' es v') {B : Nat} {T : TypeId} {cs : Array Value} (hB : OB w B T cs) (hn : v.ownBlock ≠ some B) : OB w' B T cs ∧ v'.ownBlock ≠ some B := by
  refine ⟨(h.chg.block B hB.lt hn).trans hB, fun h1 => ?_⟩
  rcases h.row B h1 with h2 | h2
  · exact hn h2
  · have := hB.lt; omega
theorem AccRun.old {E : TypeId} {base sz : Nat} {w0 w w' : World} {es : List (List Tr)} {v v' : Value} (h : AccRun E base sz w v w' es v') (hx : Ext w0 w) (hv : ∀ b, v.ownBlock = some b → w0.heap.size ≤ b) : Ext w0 w' := Chg.ext hx h.chg hv

end Go.Proofs.Ytoifjkggpanceaa
