/- Marks: writing numbers into every leaf of a tree that lies in memory of its own, and reading them again. No conditions. -/
import Derived.Test.YtoifjkggpanceaaOwn
namespace Go.Proofs.Ytoifjkggpanceaa
open Go.RowKit

def digits (k : Nat) : List UInt8 := if h : k = 0 then [] else digits (k / 10) ++ [UInt8.ofNat (48 + k % 10)]
termination_by k
decreasing_by omega
theorem digits_zero : digits 0 = [] := by rw [digits]; rfl
theorem digits_pos {k : Nat} (h : k ≠ 0) : digits k = digits (k / 10) ++ [UInt8.ofNat (48 + k % 10)] := by rw [digits, dif_neg h]
theorem digits_length (k n : Nat) (h : k < 10 ^ n) : (digits k).length ≤ n := by
  induction n generalizing k with
  | zero => simp at h; subst h; rw [digits_zero]; exact Nat.le_refl _
  | succ n ih =>
    by_cases hk : k = 0
    · subst hk; rw [digits_zero]; simp
    · rw [digits_pos hk, List.length_append]
      have := ih (k / 10) (by rw [Nat.div_lt_iff_lt_mul (by omega), ← Nat.pow_succ]; exact h)
      simp; omega
/-- The text of a mark. -/
def mtext (k : Nat) : ByteArray := ⟨((109 : UInt8) :: if k = 0 then [48] else digits k).toArray⟩

def markLeaf (k : Nat) : Value → Value
  | .int d _ => .int d k
  | .string _ => .string (mtext k)
  | .bool _ => .bool (k % 3 == 0)
  | v => v

mutual
def Tr.cnt : Tr → Nat
  | .leaf _ => 1
  | .row _ es => Tr.cntE es
def Tr.cntL : List Tr → Nat
  | [] => 0
  | t :: r => Tr.cnt t + Tr.cntL r
def Tr.cntE : List (List Tr) → Nat
  | [] => 0
  | e :: r => Tr.cntL e + Tr.cntE r
end
mutual
def Tr.mark : Tr → Nat → Tr
  | .leaf v, k => .leaf (markLeaf k v)
  | .row sz es, k => .row sz (Tr.markE es k)
def Tr.markL : List Tr → Nat → List Tr
  | [], _ => []
  | t :: r, k => Tr.mark t k :: Tr.markL r (k + Tr.cnt t)
def Tr.markE : List (List Tr) → Nat → List (List Tr)
  | [], _ => []
  | e :: r, k => Tr.markL e k :: Tr.markE r (k + Tr.cntL e)
end
theorem Tr.markE_length : ∀ (es : List (List Tr)) (k : Nat), (Tr.markE es k).length = es.length
  | [], _ => rfl
  | e :: r, k => by simp [Tr.markE, Tr.markE_length r]
theorem Tr.markL_length : ∀ (es : List Tr) (k : Nat), (Tr.markL es k).length = es.length
  | [], _ => rfl
  | e :: r, k => by simp [Tr.markL, Tr.markL_length r]
theorem Tr.markL_append : ∀ (a b : List Tr) (k : Nat), Tr.markL (a ++ b) k = Tr.markL a k ++ Tr.markL b (k + Tr.cntL a)
  | [], b, k => by simp [Tr.markL, Tr.cntL]
  | t :: a, b, k => by simp [Tr.markL, Tr.cntL, Tr.markL_append a b, Nat.add_assoc]
theorem Tr.cntL_append : ∀ (a b : List Tr), Tr.cntL (a ++ b) = Tr.cntL a + Tr.cntL b
  | [], b => by simp [Tr.cntL]
  | t :: a, b => by simp [Tr.cntL, Tr.cntL_append a b, Nat.add_assoc]
theorem Tr.cntE_take : ∀ (es : List (List Tr)) (i : Nat) (h : i < es.length), Tr.cntE (es.take (i + 1)) = Tr.cntE (es.take i) + Tr.cntL es[i]
  | [], i, h => by simp at h
  | e :: r, 0, h => by simp [Tr.cntE]
  | e :: r, i + 1, h => by
    have := Tr.cntE_take r i (by simpa using h)
    simp only [List.take_succ_cons, Tr.cntE, this, List.getElem_cons_succ, Nat.add_assoc]
/-- Element i of the marked slice. -/
theorem Tr.markE_get : ∀ (es : List (List Tr)) (k i : Nat) (h : i < es.length), (Tr.markE es k)[i]? = some (Tr.markL es[i] (k + Tr.cntE (es.take i)))
  | [], k, i, h => by simp at h
  | e :: r, k, 0, h => by simp [Tr.markE, Tr.cntE]
  | e :: r, k, i + 1, h => by
    have := Tr.markE_get r (k + Tr.cntL e) i (by simpa using h)
    simp only [Tr.markE, List.getElem?_cons_succ, this, List.take_succ_cons, Tr.cntE, List.getElem_cons_succ, Nat.add_assoc]

/-- Blocks outside S hold what they held; the rest of the world is as it was. -/
structure Chg (S : Nat → Prop) (w w' : World) : Prop where
  os : w'.os = w.os
  tape : w'.tape = w.tape
  output : w'.output = w.output
  size : w.heap.size ≤ w'.heap.size
  block : ∀ b, b < w.heap.size → ¬ S b → w'.heap[b]? = w.heap[b]?
theorem Chg.refl (S : Nat → Prop) (w : World) : Chg S w w := ⟨rfl, rfl, rfl, Nat.le_refl _, fun _ _ _ => rfl⟩
theorem Chg.trans {S : Nat → Prop} {a b c : World} (h : Chg S a b) (k : Chg S b c) : Chg S a c :=
  ⟨k.os.trans h.os, k.tape.trans h.tape, k.output.trans h.output, Nat.le_trans h.size k.size, fun x hx hs => (k.block x (Nat.lt_of_lt_of_le hx h.size) hs).trans (h.block x hx hs)⟩
theorem Chg.mono {S S' : Nat → Prop} {a b : World} (h : Chg S a b) (hS : ∀ x, S x → S' x) : Chg S' a b := ⟨h.os, h.tape, h.output, h.size, fun x hx hn => h.block x hx fun hs => hn (hS x hs)⟩
theorem Chg.of_ext {S : Nat → Prop} {a b : World} (h : Ext a b) : Chg S a b := ⟨h.os, h.tape, h.output, h.size, fun x hx _ => h.block x hx⟩
theorem Chg.of_grown {S : Nat → Prop} {B : Nat} {a b : World} (h : a.grownBy b (some B)) (hB : S B) : Chg S a b := ⟨h.os, h.tape, h.output, h.size, fun x hx hs => h.block x hx (by simp; rintro rfl; exact hs hB)⟩
theorem Chg.ext {S : Nat → Prop} {a b c : World} (h : Ext a b) (k : Chg S b c) (hS : ∀ x, S x → a.heap.size ≤ x) : Ext a c :=
  ⟨k.os.trans h.os, k.tape.trans h.tape, k.output.trans h.output, Nat.le_trans h.size k.size, fun x hx => (k.block x (Nat.lt_of_lt_of_le hx h.size) (fun hs => by have := hS x hs; omega)).trans (h.block x hx)⟩

/-- One element of an own slice, taken out and put back changed. -/
theorem Own.focus {w : World} {sz : Nat} {es : List (List Tr)} {a : Option Addr} {n cap i : Nat} {S : Nat → Prop} {e : List Tr} (h : Own w (.row sz es) (.slice a n cap) S) (hi : es[i]? = some e) (hl : ∀ x ∈ es, x.length = sz) :
    ∃ b off E arr cs T, a = some ⟨b, off, none⟩ ∧ OB w b E arr ∧ S b ∧ OwnL w e cs T ∧ (∀ x, T x → S x ∧ x ≠ b) ∧ cs.length = sz ∧ (0 < sz → off + i * sz + sz ≤ arr.size) ∧ (∀ j v, cs[j]? = some v → arr[off + i * sz + j]? = some v) ∧
      ∀ w' cs' e', e'.length = sz → OB w' b E (splice arr (off + i * sz) cs') → OwnL w' e' cs' T → (∀ x, x < w.heap.size → S x → x ≠ b → ¬ T x → w'.heap[x]? = w.heap[x]?) → off + i * sz + sz ≤ arr.size →
        Own w' (.row sz (es.set i e')) (.slice a n cap) S := by
  cases h with
  | row c T h1 h2 h3 h4 h5 h6 =>
    have hne : es ≠ [] := by rintro rfl; simp at hi
    obtain ⟨b, off, E, arr, rfl, hob, hs, hc⟩ := h3 hne
    have hlt : i < es.length := (List.getElem?_eq_some_iff.1 hi).1
    have hel : e.length = sz := hl e (List.mem_of_getElem? hi)
    have hgj : ∀ j, j < sz → ∃ d, e[j]? = some d := fun j hj => ⟨e[j]'(by omega), List.getElem?_eq_getElem _⟩
    refine ⟨b, off, E, arr, (List.range sz).map (c i), fun x => ∃ j, j < sz ∧ T i j x, rfl, hob, hs, ?_, ?_, by simp, ?_, ?_, ?_⟩
    · refine ⟨by simp [hel], fun j x => j < sz ∧ T i j x, ?_, ?_, ?_⟩
      · intro j d hd
        have hj : j < sz := by rw [← hel]; exact (List.getElem?_eq_some_iff.1 hd).1
        exact ⟨c i j, by simp [hj], (h4 i e hi j d hd).mono fun x hx => ⟨hj, hx⟩⟩
      · intro j d hd x hx
        exact ⟨j, hx⟩
      · intro j d hd j' d' hd' hne x hx hx'
        exact h6 i e hi j d hd i e hi j' d' hd' (fun _ => hne) x hx.2 hx'.2
    · rintro x ⟨j, hj, hx⟩
      obtain ⟨d, hd⟩ := hgj j hj
      exact ⟨h5 i e hi j d hd x hx, (hc i e hi j d hd).2 x hx⟩
    · intro h0
      obtain ⟨d, hd⟩ := hgj (sz - 1) (by omega)
      have := (hc i e hi _ d hd).1
      have := (Array.getElem?_eq_some_iff.1 this).1
      omega
    · intro j v hv
      rw [List.getElem?_map] at hv
      rcases Nat.lt_or_ge j sz with hj | hj
      · rw [List.getElem?_range hj] at hv
        simp at hv
        obtain ⟨d, hd⟩ := hgj j hj
        rw [← hv]
        exact (hc i e hi j d hd).1
      · rw [List.getElem?_eq_none (by simpa using hj)] at hv
        simp at hv
    · intro w' cs' e' hel' hob' how hx hfit
      obtain ⟨hcl, U, u1, u2, u3⟩ := how
      have hcl : cs'.length = sz := by omega
      have hset : (es.set i e').length = es.length := by simp
      have get : ∀ i' e2, (es.set i e')[i']? = some e2 → (i' = i ∧ e2 = e') ∨ (i' ≠ i ∧ es[i']? = some e2) := by
        intro i' e2 h
        rw [List.getElem?_set] at h
        split at h
        · rename_i hii
          subst hii
          simp only [hlt, if_true, Option.some.injEq] at h
          exact .inl ⟨rfl, h.symm⟩
        · rename_i hii
          exact .inr ⟨fun e => hii e.symm, h⟩
      have keep : ∀ i' e2, i' ≠ i → es[i']? = some e2 → ∀ j d, e2[j]? = some d → ∀ x, T i' j x → x < w.heap.size → w'.heap[x]? = w.heap[x]? := by
        intro i' e2 hne' he2 j d hd x hx' hxl
        refine hx x hxl (h5 i' e2 he2 j d hd x hx') ((hc i' e2 he2 j d hd).2 x hx') ?_
        rintro ⟨j', hj', hT⟩
        obtain ⟨d', hd'⟩ := hgj j' hj'
        exact h6 i' e2 he2 j d hd i e hi j' d' hd' (fun h => absurd h hne') x hx' hT
      rw [← hset]
      refine .row (fun i' j => if i' = i then (cs'[j]?).getD undef else c i' j) (fun i' j => if i' = i then U j else T i' j) (by rw [hset]; exact h1) h2 ?_ ?_ ?_ ?_
      · intro _
        refine ⟨b, off, E, _, rfl, hob', hs, ?_⟩
        intro i' e2 he2 j d hd
        rcases get i' e2 he2 with ⟨rfl, rfl⟩ | ⟨hne', he2⟩
        · simp only [if_true]
          have hj : j < sz := by rw [← hel']; exact (List.getElem?_eq_some_iff.1 hd).1
          refine ⟨?_, fun x hx' => ?_⟩
          · have h7 := splice_same (arr := arr) (o := off + i' * sz) (vs := cs') (by omega)
            have h8 : (((splice arr (off + i' * sz) cs').toList.drop (off + i' * sz)).take cs'.length)[j]? = cs'[j]? := by rw [h7]
            rw [List.getElem?_take, if_pos (by omega), List.getElem?_drop] at h8
            have h9 : cs'[j]? = some (cs'[j]'(by omega)) := List.getElem?_eq_getElem _
            rw [h9] at h8 ⊢
            simpa using h8
          · obtain ⟨j2, hj2, hT⟩ := u2 j d hd x hx'
            obtain ⟨d2, hd2⟩ := hgj j2 hj2
            exact (hc i' e hi j2 d2 hd2).2 x hT
        · simp only [if_neg hne']
          obtain ⟨q1, q2⟩ := hc i' e2 he2 j d hd
          have hl2 : e2.length = sz := hl e2 (List.mem_of_getElem? he2)
          have hj : j < sz := by rw [← hl2]; exact (List.getElem?_eq_some_iff.1 hd).1
          refine ⟨?_, q2⟩
          rw [← q1]
          unfold splice
          have hsz : 0 < sz := by omega
          rcases Nat.lt_or_ge i' i with hlt' | hge
          · have h10 : (i' + 1) * sz ≤ i * sz := Nat.mul_le_mul_right _ hlt'
            rw [Nat.succ_mul] at h10
            rw [List.getElem?_toArray, List.append_assoc, List.getElem?_append_left (by simp; omega), List.getElem?_take, if_pos (by omega)]
            simp
          · have h10 : (i + 1) * sz ≤ i' * sz := Nat.mul_le_mul_right _ (by omega)
            rw [Nat.succ_mul] at h10
            rw [List.getElem?_toArray, List.getElem?_append_right (by simp; omega), List.getElem?_drop]
            simp only [List.length_append, List.length_take, Array.length_toList]
            rw [Nat.min_eq_left (by omega), Array.getElem?_toList]
            congr 1
            omega
      · intro i' e2 he2 j d hd
        rcases get i' e2 he2 with ⟨rfl, rfl⟩ | ⟨hne', he2⟩
        · simp only [if_true]
          obtain ⟨v, hv, ho⟩ := u1 j d hd
          simpa [hv] using ho
        · simp only [if_neg hne']
          exact (h4 i' e2 he2 j d hd).keep fun x hx' hxl => keep i' e2 hne' he2 j d hd x hx' hxl
      · intro i' e2 he2 j d hd x hx'
        rcases get i' e2 he2 with ⟨rfl, rfl⟩ | ⟨hne', he2⟩
        · simp only [if_true] at hx'
          obtain ⟨j2, hj2, hT⟩ := u2 j d hd x hx'
          obtain ⟨d2, hd2⟩ := hgj j2 hj2
          exact h5 i' e hi j2 d2 hd2 x hT
        · simp only [if_neg hne'] at hx'
          exact h5 i' e2 he2 j d hd x hx'
      · intro i' e2 he2 j d hd i'' e3 he3 j' d' hd' hne x hx1 hx2
        rcases get i' e2 he2 with ⟨rfl, rfl⟩ | ⟨hne', he2⟩
        · simp only [if_true] at hx1
          rcases get i'' e3 he3 with ⟨rfl, rfl⟩ | ⟨hne'', he3⟩
          · simp only [if_true] at hx2
            exact u3 j d hd j' d' hd' (hne rfl) x hx1 hx2
          · simp only [if_neg hne''] at hx2
            obtain ⟨j2, hj2, hT⟩ := u2 j d hd x hx1
            obtain ⟨d2, hd2⟩ := hgj j2 hj2
            exact h6 i'' e3 he3 j' d' hd' i' e hi j2 d2 hd2 (fun h => absurd h hne'') x hx2 hT
        · simp only [if_neg hne'] at hx1
          have he2' := he2
          rcases get i'' e3 he3 with ⟨rfl, rfl⟩ | ⟨hne'', he3⟩
          · simp only [if_true] at hx2
            obtain ⟨j2, hj2, hT⟩ := u2 j' d' hd' x hx2
            obtain ⟨d2, hd2⟩ := hgj j2 hj2
            exact h6 i' e2 he2' j d hd i'' e hi j2 d2 hd2 (fun h => absurd h hne') x hx1 hT
          · simp only [if_neg hne''] at hx2
            exact h6 i' e2 he2 j d hd i'' e3 he3 j' d' hd' hne x hx1 hx2

end Go.Proofs.Ytoifjkggpanceaa
