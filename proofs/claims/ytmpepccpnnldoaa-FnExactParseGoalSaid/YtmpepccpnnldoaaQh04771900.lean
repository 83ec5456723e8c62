/- Words, rules and walks of several kinds, laid together: PmG, Pg, Ph, PgD, PgS, PmDraw, AtB, MaFmtV, FmtW, MaFmtI, PmQ, PmQ2. No conditions but those that each theorem states. -/
import Derived.Test.YtmpepccpnnldoaaQh0f9ffd1e
import Derived.Test.YtmpepccpnnldoaaQh88715e30
import Derived.Laws.BytesArg
import Derived.Lib.AppendStr
set_option linter.unusedSimpArgs false
set_option linter.unusedVariables false
namespace Go.Proofs.Ytmpepccpnnldoaa
set_option linter.unusedSimpArgs false
set_option linter.unusedVariables false
open Go.RowKit Go.WalkArith Go.IntWalk Go.WideShapes

section
variable {P : Program} {C : Ctx} {n : Nat} {s : AS} {o : Oper}
/-! ### A box that is written no more -/
mutual
inductive FLe (k sz : Nat) (es : List (List Tr)) : PV → PV → Prop
  | le {p q : PV} : PV.Le p q → FLe k sz es p q
  | bsl {n : Nat} : es.length = n → FLe k sz es (.bsl k n) (.t (.row sz es))
  | bslL {n : Nat} : es.length = n → FLe k sz es (.bsl k n) (.lit sz es)
  | gsl {n : Nat} : es.length = n → FLe k sz es (.gsl k n) (.t (.row sz es))
  | agg {ps qs : List PV} : FLeL k sz es ps qs → FLe k sz es (.agg ps) (.agg qs)
inductive FLeL (k sz : Nat) (es : List (List Tr)) : List PV → List PV → Prop
  | nil : FLeL k sz es [] []
  | cons {p q : PV} {ps qs : List PV} : FLe k sz es p q → FLeL k sz es ps qs → FLeL k sz es (p :: ps) (q :: qs)
end
def FBox (k sz : Nat) (es : List (List Tr)) (st' : Sto) : List (Option PBox) → List (Option PBox) → Prop
  | _, [] => True
  | _ :: xs, none :: ys => FBox k sz es st' xs ys
  | some x :: xs, some y :: ys => (x.ty = y.ty ∧ FLeL k sz es x.cells y.cells ∧ okInL st' y.cells = true) ∧ FBox k sz es st' xs ys
  | _, _ => False
theorem FBox.get {k sz : Nat} {es : List (List Tr)} {st' : Sto} : ∀ {xs ys : List (Option PBox)}, FBox k sz es st' xs ys → ∀ (i : Nat) (y : PBox), ys[i]? = some (some y) → ∃ x : PBox, xs[i]? = some (some x) ∧ x.ty = y.ty ∧ FLeL k sz es x.cells y.cells ∧ okInL st' y.cells = true
  | _, [], _, i, y, h => by simp at h
  | [], none :: ys, hl, i, y, h => hl.elim
  | x :: xs, none :: ys, hl, 0, y, h => by simp at h
  | none :: xs, none :: ys, hl, i + 1, y, h => by simpa using FBox.get (xs := xs) hl i y (by simpa using h)
  | some _ :: xs, none :: ys, hl, i + 1, y, h => by simpa using FBox.get (xs := xs) hl i y (by simpa using h)
  | some x :: xs, some z :: ys, hl, 0, y, h => by
    simp at h
    subst h
    exact ⟨x, rfl, hl.1⟩
  | some x :: xs, some z :: ys, hl, i + 1, y, h => by simpa using FBox.get (xs := xs) hl.2 i y (by simpa using h)
  | [], some _ :: _, hl, _, _, _ => hl.elim
  | none :: _, some _ :: _, hl, _, _, _ => hl.elim
def FEnv (k sz : Nat) (es : List (List Tr)) (s : AS) (st' : Sto) : List (Nat × PV) → Prop
  | [] => True
  | (i, q) :: l => (∃ p, s.lk i = some p ∧ FLe k sz es p q ∧ PV.okIn st' q = true) ∧ FEnv k sz es s st' l
theorem FEnv.get {k sz : Nat} {es : List (List Tr)} {s : AS} {st' : Sto} : ∀ {l : List (Nat × PV)} {i : Nat} {q : PV}, FEnv k sz es s st' l → l.lookup i = some q → ∃ p, s.lk i = some p ∧ FLe k sz es p q ∧ PV.okIn st' q = true
  | [], _, _, _, h => by simp at h
  | (j, p) :: l, i, q, hl, h => by
    rw [List.lookup_cons] at h
    by_cases hik : i = j
    · subst hik
      simp at h
      subst h
      exact hl.1
    · rw [show (i == j) = false by simp [hik]] at h
      exact FEnv.get hl.2 h
mutual
theorem FLe.rv {k sz : Nat} {es : List (List Tr)} {ok ok' : Nat → Nat → Prop} {st st' : Sto} {m : Lay} {w : World} (hle : ∀ p v, PV.okIn st' p = true → RV ok st m w p v → RV ok' st' m w p v) (hb : ∀ v c, es.length ≤ c → c ≤ maxLen → v = .slice (some ⟨m.ρ k, 0, none⟩) es.length c → RepM ok' w (.row sz es) v) (hm : es.length ≤ maxLen) :
    ∀ {p q : PV} {v : Value}, FLe k sz es p q → PV.okIn st' q = true → RV ok st m w p v → RV ok' st' m w q v
  | _, _, _, .le h, hk, hr => hle _ _ hk (h.rv hr)
  | _, _, _, .bsl h, _, hr => hb _ _ (Nat.le_refl _) hm (h ▸ hr.2)
  | _, _, _, .bslL h, _, hr => ⟨hb _ _ (Nat.le_refl _) hm (h ▸ hr.2), _, h ▸ hr.2⟩
  | _, _, _, .gsl h, _, hr => by
    obtain ⟨-, c, hc, hcm, hv⟩ := hr
    subst h
    exact hb _ c hc hcm hv
  | _, _, _, .agg h, hk, hr => by
    obtain ⟨vs, hv, h1⟩ := hr
    exact ⟨vs, hv, FLeL.rv hle hb hm h hk h1⟩
theorem FLeL.rv {k sz : Nat} {es : List (List Tr)} {ok ok' : Nat → Nat → Prop} {st st' : Sto} {m : Lay} {w : World} (hle : ∀ p v, PV.okIn st' p = true → RV ok st m w p v → RV ok' st' m w p v) (hb : ∀ v c, es.length ≤ c → c ≤ maxLen → v = .slice (some ⟨m.ρ k, 0, none⟩) es.length c → RepM ok' w (.row sz es) v) (hm : es.length ≤ maxLen) :
    ∀ {ps qs : List PV} {vs : List Value}, FLeL k sz es ps qs → okInL st' qs = true → RVL ok st m w ps vs → RVL ok' st' m w qs vs
  | _, _, [], .nil, _, h => trivial
  | _, _, _ :: _, .nil, _, h => h.elim
  | _, _, [], .cons _ _, _, h => h.elim
  | _, _, _ :: _, .cons k1 k2, hk, h => by
    simp only [okInL, Bool.and_eq_true] at hk
    exact ⟨FLe.rv hle hb hm k1 hk.1 h.1, FLeL.rv hle hb hm k2 hk.2 h.2⟩
end
end
end Go.Proofs.Ytmpepccpnnldoaa

namespace Go.Proofs.Ytmpepccpnnldoaa
set_option linter.unusedSimpArgs false
set_option linter.unusedVariables false
open Go.RowKit Go.WalkArith Go.IntWalk Go.WideShapes

/-! ### Values -/
abbrev pI (x : Int) : PV := .t (.leaf (.int .i64 x))
abbrev pN (x : Nat) : PV := .t (.leaf (.int .i64 (x : Int)))
abbrev pU (x : UInt8) : PV := .t (.leaf (.int .u8 (x.toNat : Int)))
abbrev pS (x : ByteArray) : PV := .t (.leaf (.string x))
abbrev pB (x : Bool) : PV := .t (.leaf (.bool x))
abbrev rS (l : List ByteArray) : PV := .t (.row 1 (strTrs l))
abbrev aS (l : List ByteArray) (r : Nat) : PV := .acc 1 (strTrs l) r
abbrev aU (l : List UInt8) (r : Nat) : PV := .acc 1 (byteTrs l) r
/-- Elements of lists, told as data. -/
class TC (α : Type) [Inhabited α] where
  cs : α → List Tr
  trs : List α → List (List Tr)
  sz : Nat
  at_ : ∀ {l : List α} {k : Nat}, k < l.length → (trs l)[k]? = some (cs (atD l k))
  len : ∀ l : List α, (trs l).length = l.length
  map : ∀ l : List α, trs l = l.map cs
  csz : ∀ a, (cs a).length = sz
instance : TC ByteArray := ⟨fun x => [.leaf (.string x)], strTrs, 1, strTrs_at, strTrs_len, fun _ => rfl, fun _ => rfl⟩
instance : TC Int := ⟨fun x => [.leaf (.int .i64 x)], intTrs, 1, intTrs_at, intTrs_len, fun _ => rfl, fun _ => rfl⟩
instance : TC UInt8 := ⟨fun x => [.leaf (.int .u8 (x.toNat : Int))], byteTrs, 1, byteTrs_at, byteTrs_len, fun _ => rfl, fun _ => rfl⟩
section
variable {α : Type} [Inhabited α] [TC α]
theorem TC.all (l : List α) : ∀ e ∈ TC.trs l, e.length = TC.sz α := fun e he => by
  rw [TC.map] at he
  obtain ⟨x, _, rfl⟩ := List.mem_map.1 he
  exact TC.csz x
theorem TC.app (a b : List α) : TC.trs a ++ TC.trs b = TC.trs (a ++ b) := by rw [TC.map, TC.map, TC.map, List.map_append]
end

/-! ### Models taken apart -/
def Hd {β : Type} (m : Option β) (K : β → Prop) : Prop := ∃ v, m = some v ∧ K v
section
variable {α β σ : Type} {K : β → Prop} {r : β}
theorem hd0 {m : Option β} (h : m = some r) : Hd m (fun v => v = r) := ⟨r, h, rfl⟩
theorem gdI {p : Prop} {x : Option β} (h : Hd (gd p x) K) : p ∧ Hd x K := by
  obtain ⟨v, h1, h2⟩ := h
  by_cases hp : p
  · rw [gdT hp rfl] at h1; exact ⟨hp, v, h1, h2⟩
  · rw [gdF hp] at h1; cases h1
theorem bdI {o : Option α} {f : α → Option β} (h : Hd (bd o f) K) : ∃ a, o = some a ∧ Hd (f a) K := by
  obtain ⟨v, h1, h2⟩ := h
  cases o with
  | none => cases h1
  | some a => exact ⟨a, rfl, v, h1, h2⟩
theorem gdE {G p : Prop} {x : Option β} (h : Hd (gd p x) K) (k : p → Hd x K → G) : G := k (gdI h).1 (gdI h).2
theorem bdE {G : Prop} {o : Option α} {f : α → Option β} (h : Hd (bd o f) K) (k : ∀ a, o = some a → Hd (f a) K → G) : G := by
  obtain ⟨a, h1, h2⟩ := bdI h
  exact k a h1 h2
theorem bdE2 {G : Prop} {A B : Type} {o : Option (A × B)} {f : A × B → Option β} (h : Hd (bd o f) K) (k : ∀ a b, o = some (a, b) → Hd (f (a, b)) K → G) : G := bdE h fun _ => k _ _
theorem swI1 {b : Bool} {x y : Option β} (h : Hd (sw b x y) K) (e : b = true) : Hd x K := by subst e; exact h
theorem swI0 {b : Bool} {x y : Option β} (h : Hd (sw b x y) K) (e : b = false) : Hd y K := by subst e; exact h
theorem smI {v : β} (h : Hd (some v) K) : K v := by
  obtain ⟨u, h1, h2⟩ := h
  cases h1
  exact h2
def SK (f : σ → Option β) (K : β → Prop) : β ⊕ σ → Prop
  | .inl x => K x
  | .inr s => Hd (f s) K
theorem soI {m : Option (β ⊕ σ)} {f : σ → Option β} (h : Hd (so m f) K) : Hd m (SK f K) := by
  obtain ⟨v, h1, h2⟩ := h
  cases m with
  | none => cases h1
  | some a =>
    refine ⟨a, rfl, ?_⟩
    cases a with
    | inl x => cases h1; exact h2
    | inr s => exact ⟨v, h1, h2⟩
def LK (f : Nat → σ → Option (LR σ β)) (n i : Nat) (K : β ⊕ σ → Prop) : LR σ β → Prop
  | .next s => Hd (loopN f (n - (i + 1)) (i + 1) s) K
  | .brk s => K (.inr s)
  | .ret x => K (.inl x)
def LW (f : σ → Option (LR σ β)) (k : Nat) (K : β ⊕ σ → Prop) : LR σ β → Prop
  | .next s => Hd (loopW f k s) K
  | .brk s => K (.inr s)
  | .ret x => K (.inl x)
theorem skL {f : σ → Option β} {x : β} (h : SK f K (.inl x)) : K x := h
theorem lkR {f : Nat → σ → Option (LR σ β)} {n i : Nat} {K : β ⊕ σ → Prop} {x : β} (h : LK f n i K (.ret x)) : K (.inl x) := h
theorem lwR {f : σ → Option (LR σ β)} {k : Nat} {K : β ⊕ σ → Prop} {x : β} (h : LW f k K (.ret x)) : K (.inl x) := h
theorem lnT {f : Nat → σ → Option (LR σ β)} {n i : Nat} {s : σ} {K : β ⊕ σ → Prop} (hl : i < n) (h : Hd (loopN f (n - i) i s) K) : Hd (f i s) (LK f n i K) := by
  obtain ⟨v, h1, h2⟩ := h
  rw [show n - i = (n - (i + 1)) + 1 by omega, loopN] at h1
  cases hf : f i s with
  | none => rw [hf] at h1; cases h1
  | some x =>
    rw [hf] at h1
    refine ⟨x, rfl, ?_⟩
    cases x with
    | next s' => exact ⟨v, h1, h2⟩
    | brk s' => cases h1; exact h2
    | ret x => cases h1; exact h2
theorem lnE {f : Nat → σ → Option (LR σ β)} {n i : Nat} {s : σ} {K : β ⊕ σ → Prop} (hl : n ≤ i) (h : Hd (loopN f (n - i) i s) K) : K (.inr s) := by
  obtain ⟨v, h1, h2⟩ := h
  rw [show n - i = 0 by omega, loopN] at h1
  cases h1
  exact h2
theorem lwT {f : σ → Option (LR σ β)} {k : Nat} {s : σ} {K : β ⊕ σ → Prop} (h : Hd (loopW f k s) K) : ∃ k', k = k' + 1 ∧ Hd (f s) (LW f k' K) := by
  obtain ⟨v, h1, h2⟩ := h
  cases k with
  | zero => cases h1
  | succ k =>
    rw [loopW] at h1
    refine ⟨k, rfl, ?_⟩
    cases hf : f s with
    | none => rw [hf] at h1; cases h1
    | some x =>
      rw [hf] at h1
      refine ⟨x, rfl, ?_⟩
      cases x with
      | next s' => exact ⟨v, h1, h2⟩
      | brk s' => cases h1; exact h2
      | ret x => cases h1; exact h2
end

/-! ### States that say less, found by themselves -/
section
variable {P : Program} {C : Ctx} {n : Nat} {s s' : AS}
theorem keepA {st' : Sto} (h : Keeps0 C.st st' := by first | exact keeps_nil (by assumption) | (refine keeps_all (by assumption) ?_ ?_; (first | exact boxes0 | exact boxes1 rfl | exact boxes2 rfl | exact boxes3 rfl); exact Nat.le_of_ble_eq_true rfl)) : Keeps0 C.st st' := h
theorem stleA {st st' : Sto} (hb : BoxLe st' st.boxes st'.boxes := by repeat' (first | exact trivial | refine ⟨⟨rfl, leA, rfl⟩, ?_⟩)) (hr : st.rows.take st'.rows.length = st'.rows := by first | rfl | simp) : StLe st st' := StLe.mk' hb hr
theorem wkA (hst : StLe s.st s'.st := by exact stleA) (hp : Keeps0 C.st s'.st := by exact keepA) (he : EnvLe s s'.st s'.env := by repeat' (first | exact trivial | refine ⟨⟨_, rfl, leA, rfl⟩, ?_⟩)) : Wk C n s s' := Wk.mk hst hp he
end

/-! ### Ways that meet, loops, ends -/
def cutQ {β σ : Type} (C : Ctx) (n : Nat) (I : σ → AS) (K : β ⊕ σ → Prop) (Q : Exit → AS → Prop) : Exit → AS → Prop
  | .normal, s => ∃ v, K (.inr v) ∧ Wk C n s (I v)
  | e, s => Q e s
def lpQ {β σ : Type} (C : Ctx) (n : Nat) (id : Nat) (I : Nat → σ → AS) (O : σ → AS) (f : Nat → σ → Option (LR σ β)) (m i : Nat) (K : β ⊕ σ → Prop) (Q : Exit → AS → Prop) : Exit → AS → Prop
  | .normal, s => i < m ∧ ∃ v, Hd (loopN f (m - (i + 1)) (i + 1) v) K ∧ Wk C n s (I (i + 1) v)
  | .exit j, s => if j = id then ∃ v, K (.inr v) ∧ Wk C n s (O v) else Q (.exit j) s
  | e, s => Q e s
def lwQ {β σ : Type} (C : Ctx) (n : Nat) (id : Nat) (I : σ → AS) (O : σ → AS) (f : σ → Option (LR σ β)) (k : Nat) (K : β ⊕ σ → Prop) (Q : Exit → AS → Prop) : Exit → AS → Prop
  | .normal, s => ∃ v, Hd (loopW f k v) K ∧ Wk C n s (I v)
  | .exit j, s => if j = id then ∃ v, K (.inr v) ∧ Wk C n s (O v) else Q (.exit j) s
  | e, s => Q e s
section
variable {P : Program} {C : Ctx} {n : Nat} {s : AS} {Q : Exit → AS → Prop} {β σ : Type}
theorem qcCutQ {I : σ → AS} {K : β ⊕ σ → Prop} (hq : QC C n Q) : QC C n (cutQ C n I K Q) := fun e s s' h k => by
  cases e with
  | normal => obtain ⟨v, h1, h2⟩ := k; exact ⟨v, h1, h.trans h2⟩
  | _ => exact hq _ s s' h k
theorem qcLpQ {id : Nat} {I : Nat → σ → AS} {O : σ → AS} {f : Nat → σ → Option (LR σ β)} {m i : Nat} {K : β ⊕ σ → Prop} (hq : QC C n Q) : QC C n (lpQ C n id I O f m i K Q) := fun e s s' h k => by
  cases e with
  | normal => obtain ⟨h0, v, h1, h2⟩ := k; exact ⟨h0, v, h1, h.trans h2⟩
  | exit j =>
    simp only [lpQ] at k ⊢
    split
    · rename_i hj; rw [if_pos hj] at k; obtain ⟨v, h1, h2⟩ := k; exact ⟨v, h1, h.trans h2⟩
    · rename_i hj; rw [if_neg hj] at k; exact hq _ s s' h k
  | _ => exact hq _ s s' h k
theorem qcLwQ {id : Nat} {I : σ → AS} {O : σ → AS} {f : σ → Option (LR σ β)} {m : Nat} {K : β ⊕ σ → Prop} (hq : QC C n Q) : QC C n (lwQ C n id I O f m K Q) := fun e s s' h k => by
  cases e with
  | normal => obtain ⟨v, h1, h2⟩ := k; exact ⟨v, h1, h.trans h2⟩
  | exit j =>
    simp only [lwQ] at k ⊢
    split
    · rename_i hj; rw [if_pos hj] at k; obtain ⟨v, h1, h2⟩ := k; exact ⟨v, h1, h.trans h2⟩
    · rename_i hj; rw [if_neg hj] at k; exact hq _ s s' h k
  | _ => exact hq _ s s' h k
theorem qcA (h : QC C n Q := by repeat' (first | exact qcEnds | exact ncAWP | apply qcCutQ | apply qcLpQ | apply qcLwQ | apply qcThen | apply qcBlock)) : QC C n Q := h
theorem cutB {c : Code} {m : Option (β ⊕ σ)} {K : β ⊕ σ → Prop} (I : σ → AS) (H : Hd m K) (h : Hd m K → AWP P C n c (cutQ C n I K Q) s) (k : ∀ v, K (.inr v) → Q .normal (I v)) (hq : QC C n Q := by exact qcA) : AWP P C n c Q s :=
  AWP.mono (h H) fun e s' hc => by
    cases e with
    | normal =>
      obtain ⟨v, h1, h2⟩ := hc
      exact hq _ _ _ h2 (k v h1)
    | _ => exact hc
theorem cutX {I : σ → AS} {K : β ⊕ σ → Prop} {e : Exit} (h : ∃ v, K (.inr v) ∧ Wk C n s (I v)) (he : e = .normal := by exact rfl) : cutQ C n I K Q e s := by subst he; exact h
theorem loopB {c : Code} {id : Nat} {f : Nat → σ → Option (LR σ β)} {m i0 : Nat} {v0 : σ} {K : β ⊕ σ → Prop} (I : Nat → σ → AS) (O : σ → AS) (H : Hd (loopN f (m - i0) i0 v0) K)
    (round : ∀ i v, Hd (loopN f (m - i) i v) K → AWP P C n c (lpQ C n id I O f m i K Q) (I i v)) (k : ∀ v, K (.inr v) → Q .normal (O v)) (h0 : Wk C n s (I i0 v0) := by exact wkA) (hq : QC C n Q := by exact qcA) : AWP P C n (.block id (.loop c)) Q s := by
  refine AWP.block ?_; refine AWP.loopJ (ι := Nat × σ) (fun x => Hd (loopN f (m - x.1) x.1 x.2) K) (fun x => I x.1 x.2) (fun x => m - x.1) (i0, v0) H h0 ?_; rintro ⟨i, v⟩ hj
  refine AWP.mono (round i v hj) fun e s' h => ?_
  cases e with
  | normal =>
    obtain ⟨h1, v', h2, h3⟩ := h
    exact ⟨(i + 1, v'), h2, h3, by show m - (i + 1) < m - i; omega⟩
  | exit j =>
    simp only [lpQ] at h
    show inBlockA id Q (.exit j) s'
    simp only [inBlockA]
    split
    · rename_i hj; rw [if_pos hj] at h; obtain ⟨v', h1, h2⟩ := h; exact hq _ _ _ h2 (k v' h1)
    · rename_i hj; rw [if_neg hj] at h; exact h
  | _ => exact h
theorem loopV {c : Code} {id : Nat} {f : σ → Option (LR σ β)} {k0 : Nat} {v0 : σ} {K : β ⊕ σ → Prop} (I : σ → AS) (O : σ → AS) (H : Hd (loopW f k0 v0) K)
    (round : ∀ k v, Hd (f v) (LW f k K) → AWP P C n c (lwQ C n id I O f k K Q) (I v)) (k : ∀ v, K (.inr v) → Q .normal (O v)) (h0 : Wk C n s (I v0) := by exact wkA) (hq : QC C n Q := by exact qcA) : AWP P C n (.block id (.loop c)) Q s := by
  refine AWP.block ?_; refine AWP.loopJ (ι := Nat × σ) (fun x => Hd (loopW f x.1 x.2) K) (fun x => I x.2) (fun x => x.1) (k0, v0) H h0 ?_; rintro ⟨i, v⟩ hj
  obtain ⟨i', rfl, hj'⟩ := lwT (f := f) (k := i) (s := v) hj
  refine AWP.mono (round i' v hj') fun e s' h => ?_
  cases e with
  | normal =>
    obtain ⟨v', h2, h3⟩ := h
    exact ⟨(i', v'), h2, h3, by show i' < i' + 1; omega⟩
  | exit j =>
    simp only [lwQ] at h
    show inBlockA id Q (.exit j) s'
    simp only [inBlockA]
    split
    · rename_i hj; rw [if_pos hj] at h; obtain ⟨v', h1, h2⟩ := h; exact hq _ _ _ h2 (k v' h1)
    · rename_i hj; rw [if_neg hj] at h; exact h
  | _ => exact h
theorem lpN {id : Nat} {I : Nat → σ → AS} {O : σ → AS} {f : Nat → σ → Option (LR σ β)} {m i : Nat} {K : β ⊕ σ → Prop} {e : Exit} (hi : i < m) (h : ∃ v, LK f m i K (.next v) ∧ Wk C n s (I (i + 1) v)) (he : e = .normal := by exact rfl) : lpQ C n id I O f m i K Q e s := by subst he; exact ⟨hi, h⟩
theorem lpX {id : Nat} {I : Nat → σ → AS} {O : σ → AS} {f : Nat → σ → Option (LR σ β)} {m i : Nat} {K : β ⊕ σ → Prop} {e : Exit} (h : ∃ v, K (.inr v) ∧ Wk C n s (O v)) (he : e = .exit id := by exact rfl) : lpQ C n id I O f m i K Q e s := by
  subst he
  simp only [lpQ, if_pos]
  exact h
theorem lpB {id : Nat} {I : Nat → σ → AS} {O : σ → AS} {f : Nat → σ → Option (LR σ β)} {m i : Nat} {K : β ⊕ σ → Prop} {e : Exit} (h : ∃ v, LK f m i K (.brk v) ∧ Wk C n s (O v)) (he : e = .exit id := by exact rfl) : lpQ C n id I O f m i K Q e s := lpX h he
theorem lwN {id : Nat} {I : σ → AS} {O : σ → AS} {f : σ → Option (LR σ β)} {k : Nat} {K : β ⊕ σ → Prop} {e : Exit} (h : ∃ v, LW f k K (.next v) ∧ Wk C n s (I v)) (he : e = .normal := by exact rfl) : lwQ C n id I O f k K Q e s := by subst he; exact h
theorem lwB {id : Nat} {I : σ → AS} {O : σ → AS} {f : σ → Option (LR σ β)} {k : Nat} {K : β ⊕ σ → Prop} {e : Exit} (h : ∃ v, LW f k K (.brk v) ∧ Wk C n s (O v)) (he : e = .exit id := by exact rfl) : lwQ C n id I O f k K Q e s := by
  subst he
  simp only [lwQ, if_pos]
  exact h
/-- A branch, the model's branch beside it. -/
theorem spB {β : Type} {K : β → Prop} {x y : Option β} {ops : Array Oper} {l : List Oper} (d : Nat) {b : Bool} (H : Hd (sw b x y) K) (h1 : b = true → Hd x K → AL P C n ops l Q s) (h0 : b = false → Hd y K → AL P C n ops l Q s) (hb : s.lk d = some (.t (.leaf (.bool b))) := by exact rfl) : AL P C n ops l Q s := AL.splitB d hb (fun h => h1 h (swI1 H h)) (fun h => h0 h (swI0 H h))
theorem cndB {K : β → Prop} {c : Operand} {b : Bool} {x y : Option β} {cx cy : Code} (H : Hd (sw b x y) K) (ht : b = true → Hd x K → AWP P C n cx Q s) (hf : b = false → Hd y K → AWP P C n cy Q s) (hc : s.ev c = some (.t (.leaf (.bool b))) := by exact rfl) : AWP P C n (.cond c cx cy) Q s :=
  AWP.cond hc (fun h => ht h (swI1 H h)) fun h => hf h (swI0 H h)
theorem cndT {c : Operand} {b : Bool} {cx cy : Code} (e : b = true) (h : AWP P C n cx Q s) (hc : s.ev c = some (.t (.leaf (.bool b))) := by exact rfl) : AWP P C n (.cond c cx cy) Q s := AWP.cond hc (fun _ => h) fun h => absurd (e.symm.trans h) (by decide)
theorem cndF {c : Operand} {b : Bool} {cx cy : Code} (e : b = false) (h : AWP P C n cy Q s) (hc : s.ev c = some (.t (.leaf (.bool b))) := by exact rfl) : AWP P C n (.cond c cx cy) Q s := AWP.cond hc (fun h => absurd (e.symm.trans h) (by decide)) fun _ => h
/-- The loop's own test. -/
theorem cndL {K : β ⊕ σ → Prop} {f : Nat → σ → Option (LR σ β)} {m i : Nat} {v : σ} {c : Operand} {b : Bool} {cx cy : Code} (H : Hd (loopN f (m - i) i v) K) (ht : b = true → i < m → Hd (f i v) (LK f m i K) → AWP P C n cx Q s) (hf : b = false → K (.inr v) → AWP P C n cy Q s) (h1 : b = true → i < m := by first | exact nat_lt_of2 | exact nat_lt_of3) (h0 : b = false → m ≤ i := by first | exact nat_ge_of2 | exact nat_ge_of3) (hc : s.ev c = some (.t (.leaf (.bool b))) := by exact rfl) : AWP P C n (.cond c cx cy) Q s :=
  AWP.cond hc (fun h => ht h (h1 h) (lnT (h1 h) H)) fun h => hf h (lnE (h0 h) H)
theorem qI {f : FuncId} {fn : Func} {c : Code} {args : List PV} {pre : Sto} {R : PV → Sto → Prop} (hf : P.funcs[f]? = some fn) (h : ∀ C : Ctx, C.st = pre → AWP P C fn.ntmps c (Ends P C fn.ntmps fn R) ⟨argEnv 0 args, pre⟩) (hb : fn.body = some c := by exact rfl) (hn : args.length ≤ fn.ntmps := by first | decide | (simp; done) | (simp; decide)) : ACalls P f args pre R := ACalls.intro hf hb hn h
theorem qS {x y : Code} (h : AWP P C n x (thenA (AWP P C n y Q) Q) s) : AWP P C n (.seq x y) Q s := AWP.seq h
theorem qR {id : Nat} {l : List Oper} (h : AL P C n l.toArray l Q s) : AWP P C n (.region id l.toArray false) Q s := AWP.region_lit h
theorem qN {ops : Array Oper} (h : Q .normal s) : AL P C n ops [] Q s := AL.nil h
theorem q1 {ops : Array Oper} {o : Oper} {rest : List Oper} {s1 : AS} (ho : AOp P C n o s s1) (h : AL P C n ops rest Q s1) (hg : o.guard = none := by exact rfl) : AL P C n ops (o :: rest) Q s := AL.cons hg ho h
theorem qg {ops : Array Oper} {o : Oper} {rest : List Oper} {s1 : AS} {j d : Nat} {b c : Bool} (hv : b = c) (ho : AOp P C n o s s1) (h : AL P C n ops rest Q s1) (hg : o.guard = some (j, c) := by exact rfl) (hj : (ops[j]?).bind (·.dst) = some d := by exact rfl) (hb : s.lk d = some (.t (.leaf (.bool b))) := by exact rfl) : AL P C n ops (o :: rest) Q s := AL.cons_gv hg hj hb hv ho h
theorem qk {ops : Array Oper} {o : Oper} {rest : List Oper} {j d : Nat} {b c e : Bool} (hv : b = e) (h : AL P C n ops rest Q (s.putO o.dst (.tup []))) (hg : o.guard = some (j, c) := by exact rfl) (hj : (ops[j]?).bind (·.dst) = some d := by exact rfl) (hb : s.lk d = some (.t (.leaf (.bool b))) := by exact rfl) (hne : (e == c) = false := by exact rfl) (hd : dstOk o.dst n = true := by exact rfl) : AL P C n ops (o :: rest) Q s := AL.skipP hg hj hb hv hne hd h
theorem qku {ops : Array Oper} {o : Oper} {rest : List Oper} {j d : Nat} {c : Bool} (h : AL P C n ops rest Q (s.putO o.dst (.tup []))) (hg : o.guard = some (j, c) := by exact rfl) (hj : (ops[j]?).bind (·.dst) = some d := by exact rfl) (hb : s.lk d = some (.tup []) := by exact rfl) (hd : dstOk o.dst n = true := by exact rfl) : AL P C n ops (o :: rest) Q s := AL.skipU hg hj hb hd h
theorem qe {fn : Func} {R : PV → Sto → Prop} {e : Exit} {ps : List PV} {res q : PV} {st' : Sto} (hR : R q st' := by exact ⟨rfl, rfl⟩) (hr : ResL P s fn.results.toList ps) (he : e = .normal ∨ e = .ret := by first | exact .inr rfl | exact .inl rfl) (hres : (match ps with | [p] => p | ps => .tup ps) = res := by exact rfl)
    (hst : StLe s.st st' := by exact stleA) (hp : Keeps0 C.st st' := by exact keepA) (hle : PV.Le res q := by exact leA) (hk : PV.okIn st' q = true := by exact rfl) : Ends P C n fn R e s := Ends.mk he hr hres hst hp hle hk hR
theorem qe1 {fn : Func} {R : PV → Sto → Prop} {e : Exit} {p q : PV} {st' : Sto} (hR : R q st' := by exact ⟨rfl, rfl⟩) (hr : ResL P s fn.results.toList [p] := by exact ⟨rfl, trivial⟩) (he : e = .normal ∨ e = .ret := by first | exact .inr rfl | exact .inl rfl)
    (hst : StLe s.st st' := by exact stleA) (hp : Keeps0 C.st st' := by exact keepA) (hle : PV.Le p q := by exact leA) (hk : PV.okIn st' q = true := by exact rfl) : Ends P C n fn R e s := Ends.mk he hr rfl hst hp hle hk hR
theorem qe2 {fn : Func} {R : PV → Sto → Prop} {e : Exit} {p1 p2 q : PV} {st' : Sto} (hR : R q st' := by exact ⟨rfl, rfl⟩) (hr : ResL P s fn.results.toList [p1, p2] := by exact ⟨rfl, rfl, trivial⟩) (he : e = .normal ∨ e = .ret := by first | exact .inr rfl | exact .inl rfl)
    (hst : StLe s.st st' := by exact stleA) (hp : Keeps0 C.st st' := by exact keepA) (hle : PV.Le (.tup [p1, p2]) q := by exact leA) (hk : PV.okIn st' q = true := by exact rfl) : Ends P C n fn R e s := Ends.mk he hr rfl hst hp hle hk hR
theorem lenF (i : Nat) {p : PV} {sz : Nat} {es : List (List Tr)} {N : Nat} {c : Code} (hl : es.length = N) (k : N ≤ 9223372036854775807 → AWP P C n c Q s) (hx : s.lk i = some p := by exact rfl) (hp : rowOf p = some (sz, es) := by exact rfl) : AWP P C n c Q s := AWP.fact (lk_lenN i hx hp hl) k
theorem szF (i : Nat) {v : ByteArray} {c : Code} (k : v.size ≤ 9223372036854775807 → AWP P C n c Q s) (hx : s.lk i = some (.t (.leaf (.string v))) := by exact rfl) : AWP P C n c Q s := AWP.fact (fun m a w h => by
  obtain ⟨u, -, hr⟩ := h.env i _ hx
  have h1 : v.size ≤ maxLen := (RepM.leaf_eq hr).2
  unfold maxLen at h1
  omega) k
end

section
variable {P : Program} {C : Ctx} {n : Nat}
theorem dk {D : Draw} {i j lo hi : Nat} {o : Oper} {b c e : Bool} (hv : b = e) (hg : o.guard = some (j, c) := by exact rfl) (hj : D.out j = some (.t (.leaf (.bool b))) := by exact rfl) (hk : D.kind i = .q lo hi := by exact rfl) (hne : (e == c) = false := by exact rfl) (ho : D.out i = some (.tup []) := by exact rfl) (hd : dstOk o.dst n = true := by exact rfl) : D.step P C n i o :=
  .inr ⟨by subst hv; unfold Draw.want; rw [hg]; dsimp only; rw [hj]; dsimp only; rw [hne], ⟨_, _, hk⟩, .inr ⟨ho, hd⟩⟩
end
/-! ### Operations -/
instance : Inhabited DS := ⟨⟨[], 0, 0⟩⟩
instance : Inhabited PV := ⟨.nil⟩
instance : Inhabited Sto := ⟨⟨[], []⟩⟩
instance : Inhabited PRow := ⟨⟨0, 0, [], false⟩⟩
def evA (s : AS) : List Operand → Option (List PV)
  | [] => some []
  | x :: xs => match s.ev x with
    | some p => match evA s xs with
      | some ps => some (p :: ps)
      | none => none
    | none => none
theorem evA_map {s : AS} : ∀ {xs : List Operand} {ps : List PV}, evA s xs = some ps → xs.map s.ev = ps.map some
  | [], ps, h => by cases h; rfl
  | x :: xs, ps, h => by
    unfold evA at h
    split at h
    · rename_i p hp
      split at h
      · rename_i qs hq
        cases h
        rw [List.map_cons, List.map_cons, hp, evA_map hq]
      · cases h
    · cases h
section
variable {P : Program} {C : Ctx} {n : Nat} {s : AS} {o : Oper}
theorem rMv {x : Operand} {p : PV} (ho : o.op = .move x ∨ o.op = .assign x := by first | exact .inl rfl | exact .inr rfl) (hd : dstOk o.dst n = true := by exact rfl) (hx : s.ev x = some p := by exact rfl) : AOp P C n o s (s.putO o.dst p) := AOp.move ho hd hx
theorem rL1 {T : TypeId} {x : Operand} {k d z : Nat} {bx : PBox} {p : PV} (hT : shapeOf P T = some (false, z)) (ho : o.op = .load T x := by exact rfl) (hd : dstOk o.dst n = true := by exact rfl) (hx : s.ev x = some (.ptr k d) := by exact rfl) (hb : s.st.boxes[k]? = some (some bx) := by exact rfl) (hc : bx.cells[d]? = some p := by exact rfl) : AOp P C n o s (s.putO o.dst p) := AOp.loadPtr1 ho hd hx hb hT hc
theorem rLp {T : TypeId} {x : Operand} {k d z : Nat} {bx : PBox} (cs : List PV) (hT : shapeOf P T = some (true, z)) (ho : o.op = .load T x := by exact rfl) (hd : dstOk o.dst n = true := by exact rfl) (hx : s.ev x = some (.ptr k d) := by exact rfl) (hb : s.st.boxes[k]? = some (some bx) := by exact rfl) (hc : (bx.cells.drop d).take z = cs := by exact rfl) (hl : cs.length = z := by exact rfl) : AOp P C n o s (s.putO o.dst (.agg cs)) := AOp.loadPtr ho hd hx hb hT hc hl
theorem rK1 {T : TypeId} {x : Operand} {z : Nat} {d : Tr} {cs : List Tr} (hT : shapeOf P T = some (false, z)) (ho : o.op = .load T x := by exact rfl) (hd : dstOk o.dst n = true := by exact rfl) (hx : s.ev x = some (.eptr cs) := by exact rfl) (hc : cs[0]? = some d := by exact rfl) : AOp P C n o s (s.putO o.dst (.t d)) := AOp.loadEptr1 ho hd hx hT hc
theorem rKe {T : TypeId} {x : Operand} {z : Nat} {cs : List Tr} (ds : List Tr) (hT : shapeOf P T = some (true, z)) (ho : o.op = .load T x := by exact rfl) (hd : dstOk o.dst n = true := by exact rfl) (hx : s.ev x = some (.eptr cs) := by exact rfl) (hc : cs.take z = ds := by exact rfl) (hl : ds.length = z := by exact rfl) : AOp P C n o s (s.putO o.dst (.agg (ds.map PV.t))) := AOp.loadEptr ho hd hx hT hc hl
theorem rFp {T : TypeId} {x : Operand} {f k d e : Nat} (hf : fieldOff P T f = some e) (ho : o.op = .fieldAddr T x f := by exact rfl) (hd : dstOk o.dst n = true := by exact rfl) (hx : s.ev x = some (.ptr k d) := by exact rfl) : AOp P C n o s (s.putO o.dst (.ptr k (d + e))) := AOp.fieldPtr ho hd hx hf
theorem rFe {T : TypeId} {x : Operand} {f e : Nat} {cs : List Tr} (hf : fieldOff P T f = some e) (ho : o.op = .fieldAddr T x f := by exact rfl) (hd : dstOk o.dst n = true := by exact rfl) (hx : s.ev x = some (.eptr cs) := by exact rfl) : AOp P C n o s (s.putO o.dst (.eptr (cs.drop e))) := AOp.fieldEptr ho hd hx hf
theorem rAl {T : TypeId} {ps : List PV} (hz : zerosOf P T = some ps) (ho : o.op = .alloc T := by exact rfl) (hd : dstOk o.dst n = true := by exact rfl) : AOp P C n o s ((⟨s.env, s.st.addBox ⟨T, ps⟩⟩ : AS).putO o.dst (.ptr s.st.boxes.length 0)) := AOp.alloc ho hd hz
theorem rBx {T : TypeId} {x : Operand} {p : PV} (cs : List PV) (ho : o.op = .box T x := by exact rfl) (hd : dstOk o.dst n = true := by exact rfl) (hx : s.ev x = some p := by exact rfl) (hc : cellsP p = cs := by exact rfl) (ht : notTup p = true := by exact rfl) : AOp P C n o s ((⟨s.env, s.st.addBox ⟨T, cs⟩⟩ : AS).putO o.dst (.ptr s.st.boxes.length 0)) := AOp.box ho hd hx hc ht
theorem rSu {T : TypeId} {x y : Operand} {k d : Nat} {bx : PBox} {p : PV} {cs ds : List PV} (hT : (P.info? T).map (·.size) = some cs.length) (ho : o.op = .store T x y := by exact rfl) (hx : s.ev x = some (.ptr k d) := by exact rfl) (hb : s.st.boxes[k]? = some (some bx) := by exact rfl) (hy : s.ev y = some p := by exact rfl) (hc : cellsP p = cs := by exact rfl) (ht : notTup p = true := by exact rfl) (hf : flatP cs = true := by exact rfl)
    (hfit : d + cs.length ≤ bx.cells.length := by exact Nat.le_of_ble_eq_true rfl) (hds : bx.cells.take d ++ cs ++ bx.cells.drop (d + cs.length) = ds := by exact rfl) : AOp P C n o s ((⟨s.env, s.st.setBox k ⟨bx.ty, ds⟩⟩ : AS).delO o.dst) := AOp.storePtr ho hx hb hy hc ht hf hT hfit hds
theorem rLn {T : TypeId} {x : Operand} {p : PV} {sz N : Nat} {es : List (List Tr)} {E : Nat × Nat × Nat} (hT : elemOf? P T = some E) (hl : es.length = N) (ho : o.op = .call { callee := .builtin .len, args := #[x], argTypes := #[T] } := by exact rfl) (hd : dstOk o.dst n = true := by exact rfl) (hx : s.ev x = some p := by exact rfl) (hp : rowOf p = some (sz, es) := by exact rfl) : AOp P C n o s (s.putO o.dst (.t (.leaf (.int .i64 (N : Int))))) := AOp.lenN ho hd hx hp hT hl
theorem rEq {T yT : TypeId} {x y : Operand} {k : IntKind} {a b : Int} (ho : o.op = .binOp .eql T x y yT := by exact rfl) (hd : dstOk o.dst n = true := by exact rfl) (hx : s.ev x = some (.t (.leaf (.int k a))) := by exact rfl) (hy : s.ev y = some (.t (.leaf (.int k b))) := by exact rfl) : AOp P C n o s (s.putO o.dst (.t (.leaf (.bool (decide (a = b)))))) := AOp.eqlI ho hd hx hy
theorem rNe {T yT : TypeId} {x y : Operand} {k : IntKind} {a b : Int} (ho : o.op = .binOp .neq T x y yT := by exact rfl) (hd : dstOk o.dst n = true := by exact rfl) (hx : s.ev x = some (.t (.leaf (.int k a))) := by exact rfl) (hy : s.ev y = some (.t (.leaf (.int k b))) := by exact rfl) : AOp P C n o s (s.putO o.dst (.t (.leaf (.bool (!decide (a = b)))))) := AOp.neqI ho hd hx hy
theorem rLt {T yT : TypeId} {x y : Operand} {k : IntKind} {a b : Int} (ho : o.op = .binOp .lss T x y yT := by exact rfl) (hd : dstOk o.dst n = true := by exact rfl) (hx : s.ev x = some (.t (.leaf (.int k a))) := by exact rfl) (hy : s.ev y = some (.t (.leaf (.int k b))) := by exact rfl) : AOp P C n o s (s.putO o.dst (.t (.leaf (.bool (decide (a < b)))))) := AOp.lss ho hd hx hy
theorem rLe {T yT : TypeId} {x y : Operand} {k : IntKind} {a b : Int} (ho : o.op = .binOp .leq T x y yT := by exact rfl) (hd : dstOk o.dst n = true := by exact rfl) (hx : s.ev x = some (.t (.leaf (.int k a))) := by exact rfl) (hy : s.ev y = some (.t (.leaf (.int k b))) := by exact rfl) : AOp P C n o s (s.putO o.dst (.t (.leaf (.bool (decide (a ≤ b)))))) := AOp.leq ho hd hx hy
theorem rGt {T yT : TypeId} {x y : Operand} {k : IntKind} {a b : Int} (ho : o.op = .binOp .gtr T x y yT := by exact rfl) (hd : dstOk o.dst n = true := by exact rfl) (hx : s.ev x = some (.t (.leaf (.int k a))) := by exact rfl) (hy : s.ev y = some (.t (.leaf (.int k b))) := by exact rfl) : AOp P C n o s (s.putO o.dst (.t (.leaf (.bool (decide (a > b)))))) := AOp.gtr ho hd hx hy
theorem rGe {T yT : TypeId} {x y : Operand} {k : IntKind} {a b : Int} (ho : o.op = .binOp .geq T x y yT := by exact rfl) (hd : dstOk o.dst n = true := by exact rfl) (hx : s.ev x = some (.t (.leaf (.int k a))) := by exact rfl) (hy : s.ev y = some (.t (.leaf (.int k b))) := by exact rfl) : AOp P C n o s (s.putO o.dst (.t (.leaf (.bool (decide (a ≥ b)))))) := AOp.geq ho hd hx hy
theorem rSe {T yT : TypeId} {x y : Operand} {a b : ByteArray} (ho : o.op = .binOp .eql T x y yT := by exact rfl) (hd : dstOk o.dst n = true := by exact rfl) (hx : s.ev x = some (.t (.leaf (.string a))) := by exact rfl) (hy : s.ev y = some (.t (.leaf (.string b))) := by exact rfl) : AOp P C n o s (s.putO o.dst (.t (.leaf (.bool (decide (a = b)))))) := AOp.eqlS ho hd hx hy
theorem rSn {T yT : TypeId} {x y : Operand} {a b : ByteArray} (ho : o.op = .binOp .neq T x y yT := by exact rfl) (hd : dstOk o.dst n = true := by exact rfl) (hx : s.ev x = some (.t (.leaf (.string a))) := by exact rfl) (hy : s.ev y = some (.t (.leaf (.string b))) := by exact rfl) : AOp P C n o s (s.putO o.dst (.t (.leaf (.bool (!decide (a = b)))))) := AOp.neqS ho hd hx hy
theorem rNo {T : TypeId} {x : Operand} {b : Bool} (ho : o.op = .unOp .not T x := by exact rfl) (hd : dstOk o.dst n = true := by exact rfl) (hx : s.ev x = some (.t (.leaf (.bool b))) := by exact rfl) : AOp P C n o s (s.putO o.dst (.t (.leaf (.bool (!b))))) := AOp.notB ho hd hx
theorem rAw {T yT : TypeId} {x y : Operand} {k : IntKind} {a b : Int} (ho : o.op = .binOp .add T x y yT := by exact rfl) (hd : dstOk o.dst n = true := by exact rfl) (hx : s.ev x = some (.t (.leaf (.int k a))) := by exact rfl) (hy : s.ev y = some (.t (.leaf (.int k b))) := by exact rfl) : AOp P C n o s (s.putO o.dst (.t (.leaf (.int k (k.wrap (a + b)))))) := AOp.addW ho hd hx hy
theorem rSw {T yT : TypeId} {x y : Operand} {k : IntKind} {a b : Int} (ho : o.op = .binOp .sub T x y yT := by exact rfl) (hd : dstOk o.dst n = true := by exact rfl) (hx : s.ev x = some (.t (.leaf (.int k a))) := by exact rfl) (hy : s.ev y = some (.t (.leaf (.int k b))) := by exact rfl) : AOp P C n o s (s.putO o.dst (.t (.leaf (.int k (k.wrap (a - b)))))) := AOp.subW ho hd hx hy
theorem rIx {α : Type} [Inhabited α] [TC α] {l : List α} {T E sz by_ : Nat} {x i : Operand} {p : PV} {k : Nat} (h : k < l.length) (hT : elemOf? P T = some (E, sz, by_)) (ho : o.op = .indexAddr T x i := by exact rfl) (hd : dstOk o.dst n = true := by exact rfl) (hx : s.ev x = some p := by exact rfl) (hp : rowOf p = some (sz, TC.trs l) := by exact rfl) (hi : s.ev i = some (.t (.leaf (.int .i64 (k : Int)))) := by exact rfl) : AOp P C n o s (s.putO o.dst (.eptr (TC.cs (atD l k)))) := AOp.index ho hd hx hp hi (TC.at_ h) hT
theorem rEx {x : Operand} {i : Nat} {ps : List PV} {p : PV} (ho : o.op = .extract x i := by exact rfl) (hd : dstOk o.dst n = true := by exact rfl) (hx : s.ev x = some (.tup ps) := by exact rfl) (hi : ps[i]? = some p := by exact rfl) : AOp P C n o s (s.putO o.dst p) := AOp.extract ho hd hx hi
theorem rBd {T : TypeId} {parts : Array (Nat × Operand)} {ps : List (Nat × List PV)} {zs cs : List PV} {places : List (Nat × Nat)} (hz : zerosOf P T = some zs) (hpl : placesOf P T = some places) (ho : o.op = .build T parts := by exact rfl) (hd : dstOk o.dst n = true := by exact rfl) (hp : partsP s parts.toList = some ps := by exact rfl) (hc : fillP (fun i => places.toArray[i]?) zs ps = some cs := by exact rfl) : AOp P C n o s (s.putO o.dst (.agg cs)) := AOp.build ho hd hz hpl hp hc
theorem rBs {α : Type} [Inhabited α] [TC α] {T E by_ len : Nat} {parts : Array (Nat × Operand)} {ps : List (Nat × List PV)} {zs cs : List PV} (l : List α) (hT : elemOf? P T = some (E, TC.sz α, by_)) (hz : zerosOf P E = some zs) (ho : o.op = .buildSlice T len parts := by exact rfl) (hd : dstOk o.dst n = true := by exact rfl) (hp : partsP s parts.toList = some ps := by exact rfl)
    (hc : fillP (fun i => some (i * TC.sz α, TC.sz α)) (List.replicate len zs).flatten ps = some cs := by exact rfl) (hle : LeL cs ((l.map TC.cs).flatten.map PV.t) := by exact leA) (hel : l.length = len := by exact rfl) (hsz : 0 < TC.sz α := by decide) (hzl : zs.length = TC.sz α := by exact rfl) (hsm : len * TC.sz α ≤ 16777216 := by decide) : AOp P C n o s (s.putO o.dst (.t (.row (TC.sz α) (TC.trs l)))) :=
  AOp.buildSliceE (es := l.map TC.cs) ho hd hT hz hp hc hle (by rw [List.length_map]; exact hel) (fun e he => TC.all l e (by rw [TC.map]; exact he)) hsz hzl hsm (TC.map l).symm
theorem rBa {α : Type} [Inhabited α] [TC α] {T E by_ len : Nat} {parts : Array (Nat × Operand)} {ps : List (Nat × List PV)} {zs cs : List PV} (l : List α) (hT : elemOf? P T = some (E, TC.sz α, by_)) (hz : zerosOf P E = some zs) (ho : o.op = .buildSlice T len parts := by exact rfl) (hd : dstOk o.dst n = true := by exact rfl) (hp : partsP s parts.toList = some ps := by exact rfl)
    (hc : fillP (fun i => some (i * TC.sz α, TC.sz α)) (List.replicate len zs).flatten ps = some cs := by exact rfl) (hle : LeL cs ((l.map TC.cs).flatten.map PV.t) := by exact leA) (hel : l.length = len := by exact rfl) (hsz : 0 < TC.sz α := by decide) (hzl : zs.length = TC.sz α := by exact rfl) (hsm : len * TC.sz α ≤ 16777216 := by decide) : AOp P C n o s ((⟨s.env, s.st.addRow ⟨E, TC.sz α, TC.trs l, false⟩⟩ : AS).putO o.dst (.acc (TC.sz α) (TC.trs l) s.st.rows.length)) :=
  AOp.buildSliceA (es := l.map TC.cs) ho hd hT hz hp hc hle (by rw [List.length_map]; exact hel) (fun e he => TC.all l e (by rw [TC.map]; exact he)) hsz hzl hsm (TC.map l).symm
theorem rAp {α : Type} [Inhabited α] [TC α] {T E by_ : Nat} {x y : Operand} {a b : List α} {r : Nat} {row : PRow} {p : PV} (h : a.length + b.length ≤ 68719476736) (hT : elemOf? P T = some (E, TC.sz α, by_)) (hz : (P.info? E).bind (fun i => i.zero.map (fun z => z.cells.size)) = some (TC.sz α)) (ho : o.op = .call { callee := .builtin .append, args := #[x, y], argTypes := #[T, T] } := by exact rfl) (hd : dstOk o.dst n = true := by exact rfl)
    (hx : s.ev x = some (.acc (TC.sz α) (TC.trs a) r) := by exact rfl) (hrow : s.st.rows[r]? = some row := by exact rfl) (hes : row.es = TC.trs a := by exact rfl) (hE : row.E = E := by exact rfl) (hw : row.whole = false := by exact rfl) (hy : s.ev y = some p := by exact rfl) (hp : rowOf p = some (TC.sz α, TC.trs b) := by exact rfl)
    (hb : 0 < by_ := by decide) (hb2 : by_ ≤ 2048 := by decide) : AOp P C n o s ((⟨s.env, s.st.setRow r { row with es := TC.trs (a ++ b) }⟩ : AS).putO o.dst (.acc (TC.sz α) (TC.trs (a ++ b)) r)) :=
  AOp.appendE ho hd hx hrow hes hE hw hy hp (TC.all b) hT hz hb (by rw [TC.len, TC.len]; exact room_le h hb2) (TC.app a b)
theorem rNp {x : Operand} {k d : Nat} (ho : o.op = .nilCheck x := by exact rfl) (hd : dstOk o.dst n = true := by exact rfl) (hx : s.ev x = some (.ptr k d) := by exact rfl) : AOp P C n o s (s.putO o.dst (.ptr k d)) := AOp.nilPtr ho hd hx
theorem rPt {x y z : Operand} {b : Bool} {p : PV} (hb : b = true) (ho : o.op = .pick x y z := by exact rfl) (hd : dstOk o.dst n = true := by exact rfl) (hx : s.ev x = some (.t (.leaf (.bool b))) := by exact rfl) (hy : s.ev y = some p := by exact rfl) : AOp P C n o s (s.putO o.dst p) := AOp.pickT ho hd hx hb hy
theorem rPf {x y z : Operand} {b : Bool} {p : PV} (hb : b = false) (ho : o.op = .pick x y z := by exact rfl) (hd : dstOk o.dst n = true := by exact rfl) (hx : s.ev x = some (.t (.leaf (.bool b))) := by exact rfl) (hy : s.ev z = some p := by exact rfl) : AOp P C n o s (s.putO o.dst p) := AOp.pickF ho hd hx hb hy
theorem rCf {f : FuncId} {fn : Func} {xs : List Operand} {ts : Array TypeId} {ps qs : List PV} {res : PV} (hf : P.funcs[f]? = some fn) (hc : AFun P f qs res) (ho : o.op = .call { callee := .value (.func f), args := ⟨xs⟩, argTypes := ts } := by exact rfl) (hd : dstOk o.dst n = true := by exact rfl) (hnm : (fn.name == "runtime.NumGoroutine") = false := by kernel_rfl) (hb : fn.body.isNone = false := by exact rfl)
    (hx : evA s xs = some ps := by exact rfl) (hle : LeL ps qs := by exact leA) (h1 : freeL qs = true := by exact rfl) (h2 : PV.free res = true := by exact rfl) : AOp P C n o s (s.putO o.dst res) := AOp.callF ho hd hf hnm hb (evA_map hx) hle h1 h2 hc
theorem rCv {y : Operand} {f : FuncId} {fn : Func} {xs : List Operand} {ts : Array TypeId} {ps cs qs : List PV} {res : PV} (hf : P.funcs[f]? = some fn) (hc : AFun P f qs res) (ho : o.op = .call { callee := .value y, args := ⟨xs⟩, argTypes := ts } := by exact rfl) (hd : dstOk o.dst n = true := by exact rfl) (hy : s.ev y = some (.fn f cs) := by exact rfl) (hnm : (fn.name == "runtime.NumGoroutine") = false := by kernel_rfl) (hb : fn.body.isNone = false := by exact rfl)
    (hx : evA s xs = some ps := by exact rfl) (hle : LeL (ps ++ cs) qs := by exact leA) (h1 : freeL qs = true := by exact rfl) (h2 : PV.free res = true := by exact rfl) : AOp P C n o s (s.putO o.dst res) := AOp.callV ho hd hy hf hnm hb (evA_map hx) hle h1 h2 hc
theorem partA {S pre : Sto} {fb fr : List Nat} (hb : PartBoxes S fb fr pre fb pre.boxes := by repeat' (first | exact trivial | refine ⟨⟨_, rfl, rfl, leA, rfl⟩, ?_⟩)) (hr : PartRows S fr pre.rows := by repeat' (first | exact trivial | refine ⟨rfl, ?_⟩)) (h1 : fb.Nodup := by decide) (h2 : fr.Nodup := by decide) : Part0 S pre fb fr := Part0.of hb hr h1 h2
theorem rCp {f : FuncId} {fn : Func} {xs : List Operand} {ts : Array TypeId} {ps qs : List PV} {res : PV} {pre st' : Sto} (fb fr : List Nat) (hf : P.funcs[f]? = some fn) (hc : ACalls P f qs pre (fun r t => r = res ∧ t = st')) (ho : o.op = .call { callee := .value (.func f), args := ⟨xs⟩, argTypes := ts } := by exact rfl) (hd : dstOk o.dst n = true := by exact rfl) (hnm : (fn.name == "runtime.NumGoroutine") = false := by kernel_rfl) (hb : fn.body.isNone = false := by exact rfl)
    (hx : evA s xs = some ps := by exact rfl) (hp : Part0 s.st pre fb fr := by exact partA) (hle : LeL ps (renL fb fr qs) := by exact leA) (hok : okInL pre qs = true := by exact rfl) (hbl : st'.boxes.length = pre.boxes.length := by exact rfl) (hrl : st'.rows.length = pre.rows.length := by exact rfl) : AOp P C n o s ((⟨s.env, s.st.over st' fb fr⟩ : AS).putO o.dst (PV.ren fb fr res)) := AOp.callPE fb fr ho hd hf hnm hb (evA_map hx) rfl hp hle hok hbl hrl hc
end
theorem dne {x a b : Int} (h : decide (x = a) = true) (hab : a ≠ b) : decide (x = b) = false := by
  rw [of_decide_eq_true h]
  exact decide_eq_false hab
end Go.Proofs.Ytmpepccpnnldoaa

namespace Go.Proofs.Ytmpepccpnnldoaa
set_option linter.unusedSimpArgs false
set_option linter.unusedVariables false
open Go.RowKit Go.WalkArith Go.IntWalk Go.WideShapes

section
variable {P : Program} {C : Ctx} {n : Nat} {o : Oper}
theorem upon_mono {a : Act} {K1 K : Act → World → Prop} {Q : Exit → Act → World → Prop} (hv : ∀ v w', K1 (a.put o.dst v) w' → K (a.put o.dst v) w')
    (hd : ∀ d w', K1 (({ a with defers := d :: a.defers } : Act).put o.dst undef) w' → K (({ a with defers := d :: a.defers } : Act).put o.dst undef) w') : ∀ r, o.upon P a K1 Q r → o.upon P a K Q r := by
  intro r h
  cases r with
  | ok x w' =>
    cases x with
    | value v => exact hv v w' h
    | skip => exact hv undef w' h
    | defer d => exact hd d w' h
    | enter f args =>
      refine Calls.mono h fun e w'' he => ?_
      cases e with
      | returned v => exact hv v w'' he
      | panicked c => exact he
      | outgrown => exact he
    | row r args => exact Rows.mono h fun v w'' he => hv v w'' he
    | _ => exact h
  | halt x w' =>
    cases x with
    | panic v => exact h
    | _ => exact h
theorem lk_putO (s : AS) (d : Nat) (p : PV) (i : Nat) : (s.putO (some d) p).lk i = if i = d then some p else s.lk i := AS.lk_put s d i p
/-- What was shown of an operation on what it leans on holds in every state that has as much. -/
theorem AOp.frame {E : List (Nat × PV)} {st st1 : Sto} {p : PV} {s' : AS} (h : ∀ C', AOp P C' n o ⟨E, st⟩ ((⟨E, st1⟩ : AS).putO o.dst p)) (hst : s'.st = st) (hl : ∀ t q, E.lookup t = some q → s'.lk t = some q) :
    AOp P C n o s' ((⟨s'.env, st1⟩ : AS).putO o.dst p) := fun m a w hr K Q hK => by
  subst hst
  have hr' : RA ⟨C.av, s'.st, m, w⟩ n ⟨E, s'.st⟩ m a w := ⟨hr.dfr, hr.tsz, hr.sto, fun i q hq => hr.env i q (hl i q hq), Ev.refl _ _ _⟩
  have h1 := h ⟨C.av, s'.st, m, w⟩ m a w hr' (fun a' w' => ∃ m', RA ⟨C.av, s'.st, m, w⟩ n ((⟨E, st1⟩ : AS).putO o.dst p) m' a' w') Q (fun m' a' w' h => ⟨m', h⟩)
  unfold Oper.wp at h1 ⊢
  refine upon_mono (fun v w' => ?_) (fun d w' => ?_) _ h1
  · rintro ⟨m', h2⟩
    refine hK m' _ w' ?_
    have key : ∀ (dst : Option Nat), dst = o.dst → RA C n ((⟨s'.env, st1⟩ : AS).putO dst p) m' (a.put dst v) w' := fun dst hdst => by
      rw [← hdst] at h2
      cases dst with
      | none =>
        have hE : Ev s'.st m w st1 m' w' := h2.ev
        exact ⟨h2.dfr, h2.tsz, h2.sto, fun i q hq => by
          obtain ⟨v', hv', hrv⟩ := hr.env i q hq
          exact ⟨v', hv', RV.mono hE q v' hrv⟩, hr.ev.trans hE⟩
      | some d =>
        have hE : Ev s'.st m w st1 m' w' := h2.ev
        refine ⟨h2.dfr, h2.tsz, h2.sto, fun i q hq => ?_, hr.ev.trans hE⟩
        rw [lk_putO] at hq
        by_cases hi : i = d
        · rw [if_pos hi] at hq
          cases hq
          exact h2.env i _ (by rw [lk_putO, if_pos hi])
        · rw [if_neg hi] at hq
          obtain ⟨v', hv', hrv⟩ := hr.env i q hq
          exact ⟨v', by simp only [Act.put]; rw [Array.getElem?_setIfInBounds_ne (fun e => hi e.symm)]; exact hv', RV.mono hE q v' hrv⟩
    exact key o.dst rfl
  · rintro ⟨m', h2⟩
    have h3 := h2.dfr
    have h4 : (({ a with defers := d :: a.defers } : Act).put o.dst undef).defers = d :: a.defers := by
      cases o.dst <;> rfl
    rw [h4] at h3
    cases h3
theorem AOp.frame0 {E : List (Nat × PV)} {st st1 : Sto} {s' : AS} (hn : o.dst = none) (h : ∀ C', AOp P C' n o ⟨E, st⟩ ⟨E, st1⟩) (hst : s'.st = st) (hl : ∀ t q, E.lookup t = some q → s'.lk t = some q) :
    AOp P C n o s' ⟨s'.env, st1⟩ := by
  have := AOp.frame (C := C) (P := P) (n := n) (o := o) (p := .nil) (E := E) (st := st) (st1 := st1) (s' := s') (by rw [hn]; exact h) hst hl
  rw [hn] at this
  exact this

/-- What is gathered on the way. A kind '.al' stands for an operation that does not look at the store. -/
structure DD where
  outs : List (Option PV)
  ks : List (Option DK)
  ins : List (List Nat)
  effs : List Nat
  fs : List (Option PBox → Sto)
  rds : List ((Nat × Nat) × Nat × Option (Option PBox))
  az : Option (Nat × PBox)
def DD.cz (g : DD) : Option PBox := g.az.map (·.2)
/-- A store with the region's own box, or without it. -/
def ab : Option PBox → Sto → Sto
  | none, st => st
  | some z, st => st.addBox z
/-- No store at all. -/
def badSto : Sto := ⟨[], [⟨0, 0, [], false⟩]⟩
theorem bad_rep {C : Ctx} {n : Nat} {env : List (Nat × PV)} {m : Lay} {a : Act} {w : World} (h : RA C n ⟨env, badSto⟩ m a w) : False := by
  have := (h.sto.row 0 ⟨0, 0, [], false⟩ rfl).1
  exact absurd this (by decide)
theorem AOp.bad {P : Program} {C : Ctx} {n : Nat} {o : Oper} {s s1 : AS} (hs : s.st = badSto) : AOp P C n o s s1 := fun m a w hr K Q hK => by
  obtain ⟨env, st⟩ := s
  cases hs
  exact (bad_rep hr).elim
/-- A pointer to a box that is not there. -/
theorem AOp.away {P : Program} {C : Ctx} {n : Nat} {o : Oper} {s s1 : AS} {t k off : Nat} (hl : s.lk t = some (.ptr k off)) (hk : s.st.boxes[k]? = none) : AOp P C n o s s1 := fun m a w hr K Q hK => by
  obtain ⟨v, -, ⟨x, hx⟩, -⟩ := hr.env t _ hl
  rw [hk] at hx
  cases hx
def rs (s : AS) : List Nat → List (Nat × PV)
  | [] => []
  | t :: ts => match s.lk t with
    | some p => (t, p) :: rs s ts
    | none => rs s ts
theorem rs_lk {s : AS} {t : Nat} {q : PV} : ∀ {I : List Nat}, (rs s I).lookup t = some q → t ∈ I ∧ s.lk t = some q
  | [], h => by cases h
  | x :: I, h => by
    unfold rs at h
    cases hx : s.lk x with
    | none =>
      rw [hx] at h
      obtain ⟨h1, h2⟩ := rs_lk (I := I) h
      exact ⟨.tail _ h1, h2⟩
    | some p =>
      rw [hx] at h
      dsimp only at h
      rw [List.lookup_cons] at h
      by_cases htx : t = x
      · subst htx
        simp only [BEq.rfl] at h
        cases h
        exact ⟨.head _, hx⟩
      · rw [show (t == x) = false by simp [htx]] at h
        obtain ⟨h1, h2⟩ := rs_lk (I := I) h
        exact ⟨.tail _ h1, h2⟩
def DSrc (l : List Oper) (e0 : List (Nat × PV)) (outs : List (Option PV)) (i t : Nat) (p : PV) : Prop :=
  (∃ (j : Nat) (o : Oper), j < i ∧ l[j]? = some o ∧ o.dst = some t ∧ outs[j]? = some (some p)) ∨ (e0.lookup t = some p ∧ ∀ (j : Nat) (o : Oper), j < i → l[j]? = some o → o.dst ≠ some t)
/-- Is it carried out? -/
inductive WD (l : List Oper) (e0 : List (Nat × PV)) (outs : List (Option PV)) (i : Nat) (o : Oper) : Bool → Prop
  | n : o.guard = none → WD l e0 outs i o true
  | y {j d : Nat} {b c : Bool} : o.guard = some (j, c) → (l[j]?).bind (·.dst) = some d → DSrc l e0 outs i d (.t (.leaf (.bool b))) → WD l e0 outs i o (b == c)
  | u {j d : Nat} {c : Bool} : o.guard = some (j, c) → (l[j]?).bind (·.dst) = some d → DSrc l e0 outs i d (.tup []) → WD l e0 outs i o false
inductive WS (l : List Oper) (s : AS) (o : Oper) : Bool → Prop
  | n : o.guard = none → WS l s o true
  | y {j d : Nat} {b c : Bool} : o.guard = some (j, c) → (l[j]?).bind (·.dst) = some d → s.lk d = some (.t (.leaf (.bool b))) → WS l s o (b == c)
  | u {j d : Nat} {c : Bool} : o.guard = some (j, c) → (l[j]?).bind (·.dst) = some d → s.lk d = some (.tup []) → WS l s o false
/-- What an operation has been shown to do (N boxes stood before the region; md: it makes a box at a time of its own). -/
inductive DDoes (P : Program) (n N : Nat) (md : Bool) (g : DD) (i : Nat) (o : Oper) (E : List (Nat × PV)) : Prop
  | q {p : PV} : g.ks[i]? = some none → g.outs[i]? = some (some p) → (∀ C' st, AOp P C' n o ⟨E, st⟩ ((⟨E, st⟩ : AS).putO o.dst p)) → DDoes P n N md g i o E
  | r {lo hi k : Nat} {X : Option (Option PBox)} {p : PV} : g.ks[i]? = some (some (.q lo hi)) → g.outs[i]? = some (some p) → ((lo, hi), k, X) ∈ g.rds → (md = true → k < N) → (∀ C' (st : Sto), st.boxes[k]? = X → AOp P C' n o ⟨E, st⟩ ((⟨E, st⟩ : AS).putO o.dst p)) → DDoes P n N md g i o E
  | c {j : Nat} {f : Option PBox → Sto} {p : PV} : g.ks[i]? = some (some (.q j j)) → g.outs[i]? = some (some p) → g.fs[j]? = some f → (∀ C' z, AOp P C' n o ⟨E, f z⟩ ((⟨E, f z⟩ : AS).putO o.dst p)) → DDoes P n N md g i o E
  | e {j : Nat} {f f1 : Option PBox → Sto} {p : PV} : g.ks[i]? = some (some (.ef j)) → g.outs[i]? = some (some p) → g.fs[j]? = some f → g.fs[j + 1]? = some f1 → (∀ C' z, AOp P C' n o ⟨E, f z⟩ ((⟨E, f1 z⟩ : AS).putO o.dst p)) → DDoes P n N md g i o E
  | e0 {j : Nat} {f f1 : Option PBox → Sto} : g.ks[i]? = some (some (.ef j)) → o.dst = none → g.fs[j]? = some f → g.fs[j + 1]? = some f1 → (∀ C' z, AOp P C' n o ⟨E, f z⟩ ⟨E, f1 z⟩) → DDoes P n N md g i o E
  | ea {j a t off : Nat} {zb : PBox} {f f1 : Option PBox → Sto} : g.az = some (a, zb) → g.ks[i]? = some (some (.ef j)) → o.dst = none → g.fs[j]? = some f → g.fs[j + 1]? = some f1 → E.lookup t = some (.ptr N off) → (f none = badSto ∨ (f none).boxes.length = N) → (∀ C', AOp P C' n o ⟨E, f (some zb)⟩ ⟨E, f1 (some zb)⟩) → DDoes P n N md g i o E
  | al {zb : PBox} : md = true → g.az = some (i, zb) → g.ks[i]? = some (some .al) → g.outs[i]? = some (some (.ptr N 0)) → (∀ C' st, st.boxes.length = N → AOp P C' n o ⟨[], st⟩ ((⟨[], st.addBox zb⟩ : AS).putO o.dst (.ptr N 0))) → DDoes P n N md g i o E
inductive DFact (P : Program) (n N : Nat) (md : Bool) (l : List Oper) (e0 : List (Nat × PV)) (g : DD) (i : Nat) (o : Oper) : Prop
  | does {E : List (Nat × PV)} {I : List Nat} : WD l e0 g.outs i o true → g.ins[i]? = some I → (∀ t q, E.lookup t = some q → t ∈ I ∧ DSrc l e0 g.outs i t q) → DDoes P n N md g i o E → DFact P n N md l e0 g i o
  | skip : WD l e0 g.outs i o false → g.ks[i]? = some none → g.outs[i]? = some (some (.tup [])) → dstOk o.dst n = true → DFact P n N md l e0 g i o
structure DD.le (g g' : DD) : Prop where
  outs : ∀ (i : Nat) (x : Option PV), g.outs[i]? = some x → g'.outs[i]? = some x
  ks : ∀ (i : Nat) (x : Option DK), g.ks[i]? = some x → g'.ks[i]? = some x
  ins : ∀ (i : Nat) (x : List Nat), g.ins[i]? = some x → g'.ins[i]? = some x
  fs : ∀ (i : Nat) (x : Option PBox → Sto), g.fs[i]? = some x → g'.fs[i]? = some x
  rds : ∀ x ∈ g.rds, x ∈ g'.rds
  az : ∀ x, g.az = some x → g'.az = some x
theorem src_le {g g' : DD} (h : g.le g') {l : List Oper} {e0 : List (Nat × PV)} {i t : Nat} {p : PV} (k : DSrc l e0 g.outs i t p) : DSrc l e0 g'.outs i t p := by
  rcases k with ⟨j, o, h1, h2, h3, h4⟩ | k
  · exact .inl ⟨j, o, h1, h2, h3, h.outs _ _ h4⟩
  · exact .inr k
theorem want_le {g g' : DD} (h : g.le g') {l : List Oper} {e0 : List (Nat × PV)} {i : Nat} {o : Oper} {b : Bool} (k : WD l e0 g.outs i o b) : WD l e0 g'.outs i o b := by
  cases k with
  | n a => exact .n a
  | y a b c => exact .y a b (src_le h c)
  | u a b c => exact .u a b (src_le h c)
theorem DFact.mono {N : Nat} {md : Bool} {l : List Oper} {e0 : List (Nat × PV)} {g g' : DD} {i : Nat} {o : Oper} (h : g.le g') (k : DFact P n N md l e0 g i o) : DFact P n N md l e0 g' i o := by
  cases k with
  | does h1 h2 h3 h4 =>
    refine .does (want_le h h1) (h.ins _ _ h2) (fun t q ht => ⟨(h3 t q ht).1, src_le h (h3 t q ht).2⟩) ?_
    cases h4 with
    | q a b c => exact .q (h.ks _ _ a) (h.outs _ _ b) c
    | r a b c d e => exact .r (h.ks _ _ a) (h.outs _ _ b) (h.rds _ c) d e
    | c a b c d => exact .c (h.ks _ _ a) (h.outs _ _ b) (h.fs _ _ c) d
    | e a b c d e => exact .e (h.ks _ _ a) (h.outs _ _ b) (h.fs _ _ c) (h.fs _ _ d) e
    | e0 a b c d e => exact .e0 (h.ks _ _ a) b (h.fs _ _ c) (h.fs _ _ d) e
    | ea z a b c d e f q => exact .ea (h.az _ z) (h.ks _ _ a) b (h.fs _ _ c) (h.fs _ _ d) e f q
    | al md z a b c => exact .al md (h.az _ z) (h.ks _ _ a) (h.outs _ _ b) c
  | skip h1 h2 h3 h4 => exact .skip (want_le h h1) (h.ks _ _ h2) (h.outs _ _ h3) h4
structure DInv (P : Program) (n : Nat) (md : Bool) (l : List Oper) (s0 : AS) (g : DD) (s : AS) : Prop where
  hs0 : ∃ f, g.fs[0]? = some f ∧ f none = s0.st
  hfl : g.fs.length = g.effs.length + 1
  hlast : ∃ f, g.fs[g.effs.length]? = some f ∧ f g.cz = s.st ∧ (md = false → f = fun _ => s.st) ∧ (md = true → g.az = none → f = fun z => ab z s.st)
  hk : g.ks.length = g.outs.length
  hi : g.ins.length = g.outs.length
  hz : md = true → ∀ f ∈ g.fs, f none = badSto ∨ ((f none).boxes.length = s0.st.boxes.length ∧ ∀ z, f (some z) = (f none).addBox z)
  hm : md = false → g.az = none
  hlk : ∀ t p, s.lk t = some p → DSrc l s0.env g.outs g.outs.length t p
  hf : ∀ (i : Nat) (o : Oper), l[i]? = some o → i < g.outs.length → DFact P n s0.st.boxes.length md l s0.env g i o
def DW (P : Program) (C : Ctx) (n id : Nat) (md : Bool) (l : List Oper) (Q : Exit → AS → Prop) (s0 : AS) (g : DD) (s : AS) (rest : List Oper) : Prop :=
  DInv P n md l s0 g s → l.drop g.outs.length = rest → AWP P C n (.region id l.toArray true) Q s0

variable {id : Nat} {l : List Oper} {Q : Exit → AS → Prop} {s0 s : AS} {g : DD} {rest : List Oper} {md : Bool}
theorem dW (h : DW P C n id false l Q s ⟨[], [], [], [], [fun _ => s.st], [], none⟩ s l) : AWP P C n (.region id l.toArray true) Q s :=
  h ⟨⟨_, rfl, rfl⟩, rfl, ⟨_, rfl, rfl, fun _ => rfl, fun h => (by cases h)⟩, rfl, rfl, fun h => (by cases h), fun _ => rfl, fun t p ht => .inr ⟨ht, fun j o hj => (by cases hj)⟩, fun i o _ hi => (by cases hi)⟩ rfl
theorem snoc_get {α : Type} {l : List α} {y : α} (i : Nat) (x : α) (h : l[i]? = some x) : (l ++ [y])[i]? = some x := by
  obtain ⟨hi, -⟩ := List.getElem?_eq_some_iff.1 h
  rw [List.getElem?_append_left hi]
  exact h
theorem snoc_last {α : Type} {l : List α} {y : α} {k : Nat} (h : l.length = k) : (l ++ [y])[k]? = some y := by subst h; simp
theorem drop_at {o : Oper} (h : l.drop g.outs.length = o :: rest) : l[g.outs.length]? = some o ∧ l.drop (g.outs.length + 1) = rest := by
  constructor
  · have := congrArg (fun x => x[0]?) h
    simpa using this
  · rw [← List.drop_drop, h]
    rfl
/-- One operation more. -/
theorem DInv.next {g' : DD} {s' : AS} (hv : DInv P n md l s0 g s) (ho : l[g.outs.length]? = some o) (hle : g.le g') (h0 : g'.outs.length = g.outs.length + 1) (hk : g'.ks.length = g.ks.length + 1) (hi : g'.ins.length = g.ins.length + 1) (hfl : g'.fs.length = g'.effs.length + 1)
    (hlast : ∃ f, g'.fs[g'.effs.length]? = some f ∧ f g'.cz = s'.st ∧ (md = false → f = fun _ => s'.st) ∧ (md = true → g'.az = none → f = fun z => ab z s'.st)) (hz : md = true → ∀ f ∈ g'.fs, f none = badSto ∨ ((f none).boxes.length = s0.st.boxes.length ∧ ∀ z, f (some z) = (f none).addBox z)) (hm : md = false → g'.az = none)
    (hlk : ∀ t p, s'.lk t = some p → (o.dst = some t ∧ g'.outs[g.outs.length]? = some (some p)) ∨ (o.dst ≠ some t ∧ s.lk t = some p)) (hf : DFact P n s0.st.boxes.length md l s0.env g' g.outs.length o) : DInv P n md l s0 g' s' where
  hs0 := by obtain ⟨f, h1, h2⟩ := hv.hs0; exact ⟨f, hle.fs _ _ h1, h2⟩
  hfl := hfl
  hlast := hlast
  hk := by rw [hk, h0, hv.hk]
  hi := by rw [hi, h0, hv.hi]
  hz := hz
  hm := hm
  hlk := fun t p ht => by
    rcases hlk t p ht with ⟨h1, h2⟩ | ⟨h1, h2⟩
    · exact .inl ⟨_, o, by omega, ho, h1, h2⟩
    · rcases hv.hlk t p h2 with ⟨j, oj, a, b, c, d⟩ | ⟨a, b⟩
      · exact .inl ⟨j, oj, by omega, b, c, hle.outs _ _ d⟩
      · refine .inr ⟨a, fun j oj hj hoj => ?_⟩
        rcases Nat.lt_or_ge j g.outs.length with hlt | hge
        · exact b j oj hlt hoj
        · obtain rfl : j = g.outs.length := by omega
          rw [ho] at hoj
          cases hoj
          exact h1
  hf := fun i oi hoi hi' => by
    rcases Nat.lt_or_ge i g.outs.length with hlt | hge
    · exact (hv.hf i oi hoi hlt).mono hle
    · obtain rfl : i = g.outs.length := by omega
      rw [ho] at hoi
      cases hoi
      exact hf
theorem lk_next {st1 : Sto} {p : PV} (t : Nat) (q : PV) (outs : List (Option PV)) (k : Nat) (hk : outs[k]? = some (some p)) (h : ((⟨s.env, st1⟩ : AS).putO o.dst p).lk t = some q) : (o.dst = some t ∧ outs[k]? = some (some q)) ∨ (o.dst ≠ some t ∧ s.lk t = some q) := by
  cases hd : o.dst with
  | none => rw [hd] at h; exact .inr ⟨by simp, h⟩
  | some d =>
    rw [hd, lk_putO] at h
    by_cases htd : t = d
    · rw [if_pos htd] at h
      cases h
      exact .inl ⟨by rw [htd], hk⟩
    · rw [if_neg htd] at h
      exact .inr ⟨fun e => htd (Option.some.inj e).symm, h⟩
theorem st_putO (s : AS) (d : Option Nat) (p : PV) : (s.putO d p).st = s.st := by cases d <;> rfl
theorem WS.wd {g' : DD} {b : Bool} (h : WS l s o b) (hv : DInv P n md l s0 g s) (hle : g.le g') : WD l s0.env g'.outs g.outs.length o b := by
  cases h with
  | n a => exact .n a
  | y a b c => exact .y a b (src_le hle (hv.hlk _ _ c))
  | u a b c => exact .u a b (src_le hle (hv.hlk _ _ c))
theorem rs_src {g' : DD} (hv : DInv P n md l s0 g s) (hle : g.le g') (I : List Nat) : ∀ t q, (rs s I).lookup t = some q → t ∈ I ∧ DSrc l s0.env g'.outs g.outs.length t q := fun t q h => ⟨(rs_lk h).1, src_le hle (hv.hlk t q (rs_lk h).2)⟩

/-- An operation that does not look at the store. -/
theorem dI (I : List Nat) {p : PV} (h : ∀ {C' : Ctx} {st : Sto}, AOp P C' n o ⟨rs s I, st⟩ ((⟨rs s I, st⟩ : AS).putO o.dst p)) (k : DW P C n id md l Q s0 ⟨g.outs ++ [some p], g.ks ++ [none], g.ins ++ [I], g.effs, g.fs, g.rds, g.az⟩ (s.putO o.dst p) rest) (hg : WS l s o true := by exact .n rfl) :
    DW P C n id md l Q s0 g s (o :: rest) := fun hv hr => by
  obtain ⟨ho, hd⟩ := drop_at hr
  have hle : g.le ⟨g.outs ++ [some p], g.ks ++ [none], g.ins ++ [I], g.effs, g.fs, g.rds, g.az⟩ := ⟨snoc_get, snoc_get, snoc_get, fun _ _ h => h, fun _ h => h, fun _ h => h⟩
  refine k (hv.next ho hle (by simp) (by simp) (by simp) hv.hfl (by rw [st_putO]; exact hv.hlast) hv.hz hv.hm (fun t q hq => lk_next t q _ _ (snoc_last rfl) hq) ?_) (by simpa using hd)
  exact .does (hg.wd hv hle) (snoc_last hv.hi) (rs_src hv hle I) (.q (snoc_last hv.hk) (snoc_last rfl) fun _ _ => h)
/-- One that looks at the store as it stands. -/
theorem dD (I : List Nat) {p : PV} (h : ∀ {C' : Ctx}, AOp P C' n o ⟨rs s I, s.st⟩ ((⟨rs s I, s.st⟩ : AS).putO o.dst p)) (k : DW P C n id false l Q s0 ⟨g.outs ++ [some p], g.ks ++ [some (.q g.effs.length g.effs.length)], g.ins ++ [I], g.effs, g.fs, g.rds, g.az⟩ (s.putO o.dst p) rest) (hg : WS l s o true := by exact .n rfl) :
    DW P C n id false l Q s0 g s (o :: rest) := fun hv hr => by
  obtain ⟨ho, hd⟩ := drop_at hr
  obtain ⟨f, q1, -, q2, -⟩ := hv.hlast
  have q2 := q2 rfl
  subst q2
  have hle : g.le ⟨g.outs ++ [some p], g.ks ++ [some (.q g.effs.length g.effs.length)], g.ins ++ [I], g.effs, g.fs, g.rds, g.az⟩ := ⟨snoc_get, snoc_get, snoc_get, fun _ _ h => h, fun _ h => h, fun _ h => h⟩
  refine k (hv.next ho hle (by simp) (by simp) (by simp) hv.hfl (by rw [st_putO]; exact hv.hlast) hv.hz hv.hm (fun t q hq => lk_next t q _ _ (snoc_last rfl) hq) ?_) (by simpa using hd)
  exact .does (hg.wd hv hle) (snoc_last hv.hi) (rs_src hv hle I) (.c (snoc_last hv.hk) (snoc_last rfl) q1 fun _ _ => h)
/-- One that looks at a box. -/
def RdOp (P : Program) (n : Nat) (o : Oper) (s : AS) (I : List Nat) (kb : Nat) (X : Option (Option PBox)) (p : PV) : Prop := ∀ C' (st : Sto), st.boxes[kb]? = X → AOp P C' n o ⟨rs s I, st⟩ ((⟨rs s I, st⟩ : AS).putO o.dst p)
theorem dB (I : List Nat) (lo hi : Nat) {kb : Nat} {X : Option (Option PBox)} {p : PV} (h : RdOp P n o s I kb X p) (k : DW P C n id false l Q s0 ⟨g.outs ++ [some p], g.ks ++ [some (.q lo hi)], g.ins ++ [I], g.effs, g.fs, g.rds ++ [((lo, hi), kb, X)], g.az⟩ (s.putO o.dst p) rest) (hg : WS l s o true := by exact .n rfl) :
    DW P C n id false l Q s0 g s (o :: rest) := fun hv hr => by
  obtain ⟨ho, hd⟩ := drop_at hr
  have hle : g.le ⟨g.outs ++ [some p], g.ks ++ [some (.q lo hi)], g.ins ++ [I], g.effs, g.fs, g.rds ++ [((lo, hi), kb, X)], g.az⟩ := ⟨snoc_get, snoc_get, snoc_get, fun _ _ h => h, fun _ h => List.mem_append_left _ h, fun _ h => h⟩
  refine k (hv.next ho hle (by simp) (by simp) (by simp) hv.hfl (by rw [st_putO]; exact hv.hlast) hv.hz hv.hm (fun t q hq => lk_next t q _ _ (snoc_last rfl) hq) ?_) (by simpa using hd)
  exact .does (hg.wd hv hle) (snoc_last hv.hi) (rs_src hv hle I) (.r (snoc_last hv.hk) (snoc_last rfl) (by simp) (fun h => by cases h) h)
theorem vL1 {I : List Nat} {T : TypeId} {x : Operand} {kb d z : Nat} {bx : PBox} {p : PV} (hT : shapeOf P T = some (false, z))
    (ho : o.op = .load T x := by exact rfl) (hd : dstOk o.dst n = true := by exact rfl) (hx : (⟨rs s I, s.st⟩ : AS).ev x = some (.ptr kb d) := by exact rfl) (hb : s.st.boxes[kb]? = some (some bx) := by exact rfl) (hc : bx.cells[d]? = some p := by exact rfl) : RdOp P n o s I kb (some (some bx)) p :=
  fun C' st hst => AOp.loadPtr1 ho hd (by cases x <;> exact hx) hst hT hc
/-- One that changes the store. -/
theorem dE (I : List Nat) {p : PV} {st1 : Sto} (h : ∀ {C' : Ctx}, AOp P C' n o ⟨rs s I, s.st⟩ ((⟨rs s I, st1⟩ : AS).putO o.dst p)) (k : DW P C n id false l Q s0 ⟨g.outs ++ [some p], g.ks ++ [some (.ef g.effs.length)], g.ins ++ [I], g.effs ++ [g.outs.length], g.fs ++ [fun _ => st1], g.rds, g.az⟩ ((⟨s.env, st1⟩ : AS).putO o.dst p) rest) (hg : WS l s o true := by exact .n rfl) :
    DW P C n id false l Q s0 g s (o :: rest) := fun hv hr => by
  obtain ⟨ho, hd⟩ := drop_at hr
  obtain ⟨f, q1, -, q2, -⟩ := hv.hlast
  have q2 := q2 rfl
  subst q2
  have hle : g.le ⟨g.outs ++ [some p], g.ks ++ [some (.ef g.effs.length)], g.ins ++ [I], g.effs ++ [g.outs.length], g.fs ++ [fun _ => st1], g.rds, g.az⟩ := ⟨snoc_get, snoc_get, snoc_get, snoc_get, fun _ h => h, fun _ h => h⟩
  refine k (hv.next ho hle (by simp) (by simp) (by simp) (by simp [hv.hfl]) (by rw [st_putO]; exact ⟨_, snoc_last (by simp [hv.hfl]), rfl, fun _ => rfl, fun h => by cases h⟩) (fun h => by cases h) hv.hm (fun t q hq => lk_next t q _ _ (snoc_last rfl) hq) ?_) (by simpa using hd)
  exact .does (hg.wd hv hle) (snoc_last hv.hi) (rs_src hv hle I) (.e (snoc_last hv.hk) (snoc_last rfl) (hle.fs _ _ q1) (snoc_last hv.hfl) fun _ _ => h)
theorem dE0 (I : List Nat) {st1 : Sto} (h : ∀ {C' : Ctx}, AOp P C' n o ⟨rs s I, s.st⟩ ⟨rs s I, st1⟩) (k : DW P C n id false l Q s0 ⟨g.outs ++ [none], g.ks ++ [some (.ef g.effs.length)], g.ins ++ [I], g.effs ++ [g.outs.length], g.fs ++ [fun _ => st1], g.rds, g.az⟩ ⟨s.env, st1⟩ rest) (hn : o.dst = none := by exact rfl) (hg : WS l s o true := by exact .n rfl) :
    DW P C n id false l Q s0 g s (o :: rest) := fun hv hr => by
  obtain ⟨ho, hd⟩ := drop_at hr
  obtain ⟨f, q1, -, q2, -⟩ := hv.hlast
  have q2 := q2 rfl
  subst q2
  have hle : g.le ⟨g.outs ++ [none], g.ks ++ [some (.ef g.effs.length)], g.ins ++ [I], g.effs ++ [g.outs.length], g.fs ++ [fun _ => st1], g.rds, g.az⟩ := ⟨snoc_get, snoc_get, snoc_get, snoc_get, fun _ h => h, fun _ h => h⟩
  refine k (hv.next ho hle (by simp) (by simp) (by simp) (by simp [hv.hfl]) ⟨_, snoc_last (by simp [hv.hfl]), rfl, fun _ => rfl, fun h => by cases h⟩ (fun h => by cases h) hv.hm (fun t q hq => .inr ⟨by rw [hn]; simp, hq⟩) ?_) (by simpa using hd)
  exact .does (hg.wd hv hle) (snoc_last hv.hi) (rs_src hv hle I) (.e0 (snoc_last hv.hk) hn (hle.fs _ _ q1) (snoc_last hv.hfl) fun _ _ => h)
/-- One that is not wanted. -/
theorem dS  (k : DW P C n id md l Q s0 ⟨g.outs ++ [some (.tup [])], g.ks ++ [none], g.ins ++ [[]], g.effs, g.fs, g.rds, g.az⟩ (s.putO o.dst (.tup [])) rest) (hg : WS l s o false) (hd' : dstOk o.dst n = true) :
    DW P C n id md l Q s0 g s (o :: rest) := fun hv hr => by
  obtain ⟨ho, hd⟩ := drop_at hr
  have hle : g.le ⟨g.outs ++ [some (.tup [])], g.ks ++ [none], g.ins ++ [[]], g.effs, g.fs, g.rds, g.az⟩ := ⟨snoc_get, snoc_get, snoc_get, fun _ _ h => h, fun _ h => h, fun _ h => h⟩
  refine k (hv.next ho hle (by simp) (by simp) (by simp) hv.hfl (by rw [st_putO]; exact hv.hlast) hv.hz hv.hm (fun t q hq => lk_next t q _ _ (snoc_last rfl) hq) ?_) (by simpa using hd)
  exact .skip (hg.wd hv hle) (snoc_last hv.hk) (snoc_last rfl) hd'
theorem dSk {j d : Nat} {b c e : Bool} (hv : b = e) (k : DW P C n id md l Q s0 ⟨g.outs ++ [some (.tup [])], g.ks ++ [none], g.ins ++ [[]], g.effs, g.fs, g.rds, g.az⟩ (s.putO o.dst (.tup [])) rest) (hg : o.guard = some (j, c) := by exact rfl) (hj : (l[j]?).bind (·.dst) = some d := by exact rfl) (hb : s.lk d = some (.t (.leaf (.bool b))) := by exact rfl) (hne : (e == c) = false := by exact rfl) (hd' : dstOk o.dst n = true := by exact rfl) :
    DW P C n id md l Q s0 g s (o :: rest) := dS k (by subst hv; have := WS.y hg hj hb; rwa [hne] at this) hd'
theorem dSu {j d : Nat} {c : Bool} (k : DW P C n id md l Q s0 ⟨g.outs ++ [some (.tup [])], g.ks ++ [none], g.ins ++ [[]], g.effs, g.fs, g.rds, g.az⟩ (s.putO o.dst (.tup [])) rest) (hg : o.guard = some (j, c) := by exact rfl) (hj : (l[j]?).bind (·.dst) = some d := by exact rfl) (hb : s.lk d = some (.tup []) := by exact rfl) (hd' : dstOk o.dst n = true := by exact rfl) :
    DW P C n id md l Q s0 g s (o :: rest) := dS k (.u hg hj hb) hd'
/-- A guard whose value is known. -/
theorem wantT {j d : Nat} {b c : Bool} (hv : b = c) (hg : o.guard = some (j, c) := by exact rfl) (hj : (l[j]?).bind (·.dst) = some d := by exact rfl) (hb : s.lk d = some (.t (.leaf (.bool b))) := by exact rfl) : WS l s o true := by
  subst hv
  have := WS.y hg hj hb
  rwa [BEq.rfl] at this

theorem anc_lt {ops : Array Oper} (h : ∀ i o, ops[i]? = some o → ∀ e ∈ o.after, Region.binds .any e = true → e.on < i) : ∀ (fuel i j : Nat), ancOf ops fuel i j = true → i < j
  | 0, _, _, h' => by simp [ancOf] at h'
  | fuel + 1, i, j, h' => by
    simp only [ancOf] at h'
    split at h'
    · rename_i o ho
      rw [List.any_eq_true] at h'
      obtain ⟨e, he, h'⟩ := h'
      simp only [Bool.and_eq_true, Bool.or_eq_true, beq_iff_eq] at h'
      have h1 := h j o ho e (by simpa using he) h'.1
      rcases h'.2 with h2 | h2
      · omega
      · have := anc_lt h fuel i e.on h2
        omega
    · cases h'
def srcOf (l : List Oper) (i t : Nat) : Option Nat := match writerOf l.toArray t with
  | some j => if j < i then some j else none
  | none => none
def DD.draw (g : DD) (l : List Oper) (s0 : AS) : Draw where
  ops := l.toArray
  env0 := s0.env
  F := fun j b => match g.fs[j]? with
    | some f => f (bif b then g.cz else none)
    | none => ab (bif b then g.cz else none) s0.st
  out := fun i => (g.outs[i]?).getD none
  kind := fun i => match g.ks[i]? with
    | some (some k) => k
    | _ => .q 0 g.effs.length
  effs := g.effs
  alloc := g.az.map (·.1)
  ins := fun i => ((g.ins[i]?).getD []).map fun t => (t, srcOf l i t)
def rdGot (fs : List (Option PBox → Sto)) (z : Option PBox) (x : (Nat × Nat) × Nat × Option (Option PBox)) : List (Option (Option (Option PBox))) := (List.range' x.1.1 (x.1.2 + 1 - x.1.1)).map fun j => (fs[j]?).map fun f => (f z).boxes[x.2.1]?
def rdAsk (x : (Nat × Nat) × Nat × Option (Option PBox)) : List (Option (Option (Option PBox))) := (List.range' x.1.1 (x.1.2 + 1 - x.1.1)).map fun _ => some x.2.2
theorem writer_at (hn : nodupDst l.toArray = true) {j t : Nat} (ho : l[j]? = some o) (hd : o.dst = some t) : writerOf l.toArray t = some j := nodup_writer hn (by simpa using ho) hd
theorem rd_of {fs : List (Option PBox → Sto)} {z : Option PBox} {rds : List ((Nat × Nat) × Nat × Option (Option PBox))} (h : rds.map (rdGot fs z) = rds.map rdAsk) {lo hi kb j : Nat} {X : Option (Option PBox)} (hm : ((lo, hi), kb, X) ∈ rds) (h1 : lo ≤ j) (h2 : j ≤ hi) {f : Option PBox → Sto} (hs : fs[j]? = some f) : (f z).boxes[kb]? = X := by
  have e := List.map_inj_left.1 h _ hm
  unfold rdGot rdAsk at e
  have := List.map_inj_left.1 e j (by simp [List.mem_range']; exact ⟨j - lo, by omega, by omega⟩)
  simpa [hs] using this
/-- All operations have been told. -/
theorem dN (h : Q .normal s) (hm : P.follows .mixedOrders = true := by exact mixed) (hok : (g.draw l s0).ok = true := by kernel_rfl) (hrd : g.rds.map (rdGot g.fs g.cz) = g.rds.map rdAsk := by kernel_rfl) : DW P C n id md l Q s0 g s [] := fun hv hr => by
  have hlen : l.length ≤ g.outs.length := by
    have := congrArg List.length hr
    simp at this
    omega
  have hok' := hok
  simp only [Draw.ok, Bool.and_eq_true] at hok'
  have hn : nodupDst l.toArray = true := hok'.1.1.1.2
  -- where a value comes from
  have hpv : ∀ i t q, DSrc l s0.env g.outs i t q → (g.draw l s0).pv (t, srcOf l i t) = some q := fun i t q hs => by
    rcases hs with ⟨j, oj, h1, h2, h3, h4⟩ | ⟨h1, h2⟩
    · have hw := writer_at hn h2 h3
      unfold srcOf
      rw [hw]
      dsimp only
      rw [if_pos h1]
      show (g.outs[j]?).getD none = some q
      rw [h4]
      rfl
    · have hw : srcOf l i t = none := by
        unfold srcOf
        split
        · rename_i j hj
          obtain ⟨-, oj, h3, h4⟩ := writerOf_spec hj
          split
          · rename_i hji
            exact absurd h4 (h2 j oj hji (by simpa using h3))
          · rfl
        · rfl
      rw [hw]
      exact h1
  have hF : ∀ {j : Nat} {f : Option PBox → Sto}, g.fs[j]? = some f → ∀ b, (g.draw l s0).F j b = f (bif b then g.cz else none) := fun {j f} hj b => by show (match g.fs[j]? with | some f => f (bif b then g.cz else none) | none => ab (bif b then g.cz else none) s0.st) = _; rw [hj]
  have hK : ∀ {i : Nat} {k : DK}, g.ks[i]? = some (some k) → (g.draw l s0).kind i = k := fun {i k} hk => by show (match g.ks[i]? with | some (some k) => k | _ => .q 0 g.effs.length) = _; rw [hk]
  have hK0 : ∀ {i : Nat}, g.ks[i]? = some none → (g.draw l s0).kind i = .q 0 g.effs.length := fun {i} hk => by show (match g.ks[i]? with | some (some k) => k | _ => DK.q 0 g.effs.length) = _; rw [hk]
  have hout : ∀ {i : Nat} {p : PV}, g.outs[i]? = some (some p) → (g.draw l s0).out i = some p := fun hp => by show (g.outs[_]?).getD none = _; rw [hp]; rfl
  have hops := hok'.1.1.1.1
  rw [List.all_eq_true] at hops
  have hgs : ∀ (i : Nat) (o : Oper) (j d : Nat) (c : Bool) (p : PV), l[i]? = some o → o.guard = some (j, c) → (l[j]?).bind (·.dst) = some d → DSrc l s0.env g.outs i d p → (g.draw l s0).out j = some p := fun i o j d c p ho hg hj hs => by
    obtain ⟨oj, hoj, hdj⟩ : ∃ oj, l[j]? = some oj ∧ oj.dst = some d := by
      cases hx : l[j]? with
      | none => rw [hx] at hj; cases hj
      | some oj => rw [hx] at hj; exact ⟨oj, rfl, hj⟩
    have hw := writer_at hn hoj hdj
    rcases hs with ⟨j', oj', h1, h2, h3, h4⟩ | ⟨h1, h2⟩
    · have hw' := writer_at hn h2 h3
      rw [hw] at hw'
      cases hw'
      exact hout h4
    · have hil := (List.getElem?_eq_some_iff.1 ho).1
      have h5 := hops i (by simpa [DD.draw] using hil)
      have ho' : (g.draw l s0).ops[i]? = some o := by simpa [DD.draw] using ho
      simp only [Draw.okOp, ho', hg, Bool.and_eq_true] at h5
      have h6 : (g.draw l s0).anc j i = true := h5.2.1
      have := anc_lt (fun i' o' ho' e he hb => by
        have hil' := (Array.getElem?_eq_some_iff.1 ho').1
        have h7 := hops i' (by simpa using hil')
        simp only [Draw.okOp, ho', Bool.and_eq_true, Array.all_eq_true'] at h7
        have h3 := h7.1 e he
        simpa [hb] using h3) _ _ _ h6
      exact absurd hdj (h2 j oj this hoj)
  have hwant : ∀ {i : Nat} {o : Oper} {b : Bool}, l[i]? = some o → WD l s0.env g.outs i o b → (g.draw l s0).want o = some b := fun {i o b} ho hw => by
    unfold Draw.want
    cases hw with
    | n a => rw [a]
    | y a b c => rw [a]; dsimp only; rw [hgs _ _ _ _ _ _ ho a b c]
    | u a b c => rw [a]; dsimp only; rw [hgs _ _ _ _ _ _ ho a b c]
  have hstep : ∀ i o, (g.draw l s0).ops[i]? = some o → (g.draw l s0).step P C n i o := fun i o ho => by
    have ho' : l[i]? = some o := by simpa [DD.draw] using ho
    obtain ⟨hil, -⟩ := List.getElem?_eq_some_iff.1 ho'
    cases hv.hf i o ho' (by omega) with
    | does h1 h2 h3 h4 =>
      rename_i E I
      refine .inl ⟨hwant ho' h1, ?_⟩
      have hl : ∀ s' : AS, (∀ t src p, (t, src) ∈ (g.draw l s0).ins i → (g.draw l s0).pv (t, src) = some p → s'.lk t = some p) → ∀ t q, E.lookup t = some q → s'.lk t = some q := fun s' hl t q ht => by
        obtain ⟨h5, h6⟩ := h3 t q ht
        refine hl t (srcOf l i t) q ?_ (hpv i t q h6)
        show (t, srcOf l i t) ∈ ((g.ins[i]?).getD []).map _
        rw [h2]
        exact List.mem_map.2 ⟨t, h5, rfl⟩
      unfold Draw.does
      cases h4 with
      | q a b c =>
        rw [hK0 a]
        exact fun s' j bb _ _ hs hin => ⟨_, hout b, AOp.frame (st := s'.st) (fun C' => c C' s'.st) rfl (hl s' hin)⟩
      | r a b c kN d =>
        rename_i lo hi kb X p
        have hk := hK a
        rw [hk]
        intro s' j bb q1 q2 hs hin
        have hjl : hi < g.fs.length := by
          have := hok'.1.1.2
          rw [List.all_eq_true] at this
          have := this i (by simpa [DD.draw] using hil)
          simp only [Bool.and_eq_true, Draw.okKind, hk] at this
          have h9 := this.1.1.1.1.1.2
          simp only [decide_eq_true_eq] at h9
          have h10 : hi ≤ g.effs.length := h9
          rw [hv.hfl]
          omega
        obtain ⟨f, hst⟩ : ∃ f, g.fs[j]? = some f := ⟨_, List.getElem?_eq_getElem (by omega)⟩
        have hX := rd_of hrd c q1 q2 hst
        rw [hF hst] at hs
        have hcase : s'.st = f g.cz ∨ (md = true ∧ s'.st = f none) := by
          cases bb with
          | true => exact .inl hs
          | false =>
            cases md with
            | true => exact .inr ⟨rfl, hs⟩
            | false =>
              have : g.cz = none := by unfold DD.cz; rw [hv.hm rfl]; rfl
              rw [this]
              exact .inl hs
        rcases hcase with hs | ⟨hmd, hs⟩
        · exact ⟨_, hout b, AOp.frame (st := s'.st) (fun C' => d C' s'.st (by rw [hs]; exact hX)) rfl (hl s' hin)⟩
        · rcases hv.hz hmd f (List.mem_iff_getElem?.2 ⟨_, hst⟩) with h9 | ⟨h9, h10⟩
          · exact ⟨_, hout b, AOp.bad (by rw [hs, h9])⟩
          · refine ⟨_, hout b, AOp.frame (st := s'.st) (fun C' => d C' s'.st ?_) rfl (hl s' hin)⟩
            rw [hs, ← hX]
            cases hz : g.cz with
            | none => rfl
            | some z =>
              rw [h10 z]
              show _ = ((f none).boxes ++ [some z])[kb]?
              rw [List.getElem?_append_left (by rw [h9]; exact kN hmd)]
      | c a b c d =>
        rename_i j f p
        rw [hK a]
        refine fun s' jj bb q1 q2 hs hin => ⟨_, hout b, ?_⟩
        obtain rfl : jj = j := by omega
        exact AOp.frame (st := s'.st) (fun C' => by rw [hs, hF c]; exact d C' _) rfl (hl s' hin)
      | e a b c d e =>
        rename_i j f f1 p
        rw [hK a]
        refine fun s' bb hs hin => .inl ⟨_, hout b, ?_⟩
        rw [hF d]
        exact AOp.frame (fun C' => e C' _) (by rw [hs, hF c]) (hl s' hin)
      | e0 a b c d e =>
        rename_i j f f1
        rw [hK a]
        refine fun s' bb hs hin => .inr ⟨b, ?_⟩
        rw [hF d]
        exact AOp.frame0 b (fun C' => e C' _) (by rw [hs, hF c]) (hl s' hin)
      | ea z a b c d e f q =>
        rename_i j a' t off zb f0 f1
        have hcz : g.cz = some zb := by unfold DD.cz; rw [z]; rfl
        rw [hK a]
        refine fun s' bb hs hin => .inr ⟨b, ?_⟩
        rw [hF d]
        rw [hF c] at hs
        cases bb with
        | true =>
          rw [hcz] at hs ⊢
          exact AOp.frame0 b q hs (hl s' hin)
        | false =>
          rcases f with f | f
          · exact AOp.bad (hs.trans f)
          · refine AOp.away (hl s' hin t _ e) ?_
            rw [hs]
            show (f0 none).boxes[_]? = none
            rw [List.getElem?_eq_none (by rw [f]; exact Nat.le_refl _)]
      | al hmd z a b c =>
        rename_i zb
        have hcz : g.cz = some zb := by unfold DD.cz; rw [z]; rfl
        rw [hK a]
        refine fun s' j hs => ⟨_, hout b, ?_⟩
        have key : s'.st = badSto ∨ (s'.st.boxes.length = s0.st.boxes.length ∧ (g.draw l s0).F j true = s'.st.addBox zb) := by
          cases hj : g.fs[j]? with
          | none =>
            have h8 : ∀ b, (g.draw l s0).F j b = ab (bif b then g.cz else none) s0.st := fun b => by show (match g.fs[j]? with | some f => f (bif b then g.cz else none) | none => ab (bif b then g.cz else none) s0.st) = _; rw [hj]
            rw [h8] at hs ⊢
            refine .inr ⟨by rw [hs]; rfl, ?_⟩
            rw [hs, hcz]
            rfl
          | some f =>
            rw [hF hj] at hs ⊢
            rcases hv.hz hmd f (List.mem_iff_getElem?.2 ⟨_, hj⟩) with h9 | ⟨h9, h10⟩
            · exact .inl (hs.trans h9)
            · refine .inr ⟨by rw [hs]; exact h9, ?_⟩
              rw [hs, hcz]
              exact h10 zb
        rcases key with h9 | ⟨h9, h10⟩
        · exact AOp.bad h9
        · rw [h10]
          exact AOp.frame (E := []) (fun C' => c C' s'.st h9) rfl (fun t q h => by cases h)
    | skip h1 h2 h3 h4 => exact .inr ⟨hwant ho' h1, ⟨_, _, hK0 h2⟩, .inr ⟨hout h3, h4⟩⟩
  intro m a w hra
  refine wp_mono (AWP.drawn (g.draw l s0) (Q := fun e s' => e = .normal ∧ s' = ⟨((List.range (g.draw l s0).ops.size).filterMap ((g.draw l s0).gX (Array.replicate (g.draw l s0).ops.size true))) ++ (g.draw l s0).env0, (g.draw l s0).F (g.draw l s0).effs.length (g.draw l s0).alloc.isSome⟩) hm hok rfl (by obtain ⟨f, h1, h2⟩ := hv.hs0; rw [hF h1]; exact h2.symm) hstep ⟨rfl, rfl⟩ m a w hra) fun e a' w' => ?_; rintro ⟨s', m', ⟨rfl, rfl⟩, h2⟩
  obtain ⟨f, q1, q2, -, -⟩ := hv.hlast
  refine ⟨s, m', h, RA.congr h2 ((hF q1 _).trans (Eq.trans (by cases ha : g.az with | none => (show f (bif (g.az.map (·.1)).isSome then g.cz else none) = f g.cz; unfold DD.cz; rw [ha]; rfl) | some x => (show f (bif (g.az.map (·.1)).isSome then g.cz else none) = f g.cz; unfold DD.cz; rw [ha]; rfl)) q2)) fun t p ht => ?_⟩
  show ((g.draw l s0).sX (Array.replicate (g.draw l s0).ops.size true)).lk t = some p
  rcases hv.hlk t p ht with ⟨j, oj, h1, h3, h4, h5⟩ | ⟨h1, h3⟩
  · have hjl : j < l.length := (List.getElem?_eq_some_iff.1 h3).1
    exact lkX_in hn (i := j) (o := oj) (by have : j < (g.draw l s0).ops.size := (by simpa [DD.draw] using hjl); simp [Array.getD_eq_getD_getElem?, this]) (by simpa [DD.draw] using h3) h4 (hout h5)
  · rw [lkX_out hn fun i hi => ?_]
    · exact h1
    · obtain ⟨hil, oi, h6, h7⟩ := writerOf_spec hi
      exact absurd h7 (h3 i oi (by have : i < l.length := (by simpa [DD.draw] using hil); omega) (by simpa [DD.draw] using h6))
end
end Go.Proofs.Ytmpepccpnnldoaa

namespace Go.Proofs.Ytmpepccpnnldoaa

instance : TC GType := ⟨GType.cs, GType.trs, 3, GType.trs_at, GType.trs_len, fun l => by rw [GType.trs_map]; exact List.map_congr_left fun x _ => GType.tr_cs x, fun _ => rfl⟩
abbrev rType (l : List GType) : PV := .t (.row 3 (GType.trs l))
abbrev aType (l : List GType) (r : Nat) : PV := .acc 3 (GType.trs l) r
instance : TC GExpr := ⟨GExpr.cs, GExpr.trs, 9, GExpr.trs_at, GExpr.trs_len, fun l => by rw [GExpr.trs_map]; exact List.map_congr_left fun x _ => GExpr.tr_cs x, fun _ => rfl⟩
instance : TC GArm := ⟨GArm.cs, GArm.trs, 11, GArm.trs_at, GArm.trs_len, fun l => by rw [GArm.trs_map]; exact List.map_congr_left fun x _ => GArm.tr_cs x, fun _ => rfl⟩
instance : TC GBound := ⟨GBound.cs, GBound.trs, 4, GBound.trs_at, GBound.trs_len, fun l => by rw [GBound.trs_map]; exact List.map_congr_left fun x _ => GBound.tr_cs x, fun _ => rfl⟩
instance : TC GMethod := ⟨GMethod.cs, GMethod.trs, 11, GMethod.trs_at, GMethod.trs_len, fun l => by rw [GMethod.trs_map]; exact List.map_congr_left fun x _ => GMethod.tr_cs x, fun _ => rfl⟩
instance : TC GInstance := ⟨GInstance.cs, GInstance.trs, 12, GInstance.trs_at, GInstance.trs_len, fun l => by rw [GInstance.trs_map]; exact List.map_congr_left fun x _ => GInstance.tr_cs x, fun _ => rfl⟩
instance : TC GSExpr := ⟨GSExpr.cs, GSExpr.trs, 2, GSExpr.trs_at, GSExpr.trs_len, fun l => by rw [GSExpr.trs_map]; exact List.map_congr_left fun x _ => GSExpr.tr_cs x, fun _ => rfl⟩
abbrev rSExpr (l : List GSExpr) : PV := .t (.row 2 (GSExpr.trs l))
abbrev aSExpr (l : List GSExpr) (r : Nat) : PV := .acc 2 (GSExpr.trs l) r
instance : TC GBinding := ⟨GBinding.cs, GBinding.trs, 4, GBinding.trs_at, GBinding.trs_len, fun l => by rw [GBinding.trs_map]; exact List.map_congr_left fun x _ => GBinding.tr_cs x, fun _ => rfl⟩
abbrev cType (x : GType) : List PV := [pI x.gKind, pS x.gName, rType x.gArgs]
abbrev cBound (x : GBound) : List PV := [pS x.gTrait, pI x.gType.gKind, pS x.gType.gName, rType x.gType.gArgs]
end Go.Proofs.Ytmpepccpnnldoaa

namespace Go.Proofs.Ytmpepccpnnldoaa

abbrev s_ : ByteArray := ⟨#[]⟩
abbrev s_assoc : ByteArray := ⟨#[97, 115, 115, 111, 99]⟩
abbrev s_bool : ByteArray := ⟨#[98, 111, 111, 108]⟩
abbrev s_case : ByteArray := ⟨#[99, 97, 115, 101]⟩
abbrev s_dyn : ByteArray := ⟨#[100, 121, 110]⟩
abbrev s_false : ByteArray := ⟨#[102, 97, 108, 115, 101]⟩
abbrev s_if : ByteArray := ⟨#[105, 102]⟩
abbrev s_int : ByteArray := ⟨#[105, 110, 116]⟩
abbrev s_let : ByteArray := ⟨#[108, 101, 116]⟩
abbrev s_method : ByteArray := ⟨#[109, 101, 116, 104, 111, 100]⟩
abbrev s_new : ByteArray := ⟨#[110, 101, 119]⟩
abbrev s_pack : ByteArray := ⟨#[112, 97, 99, 107]⟩
abbrev s_true : ByteArray := ⟨#[116, 114, 117, 101]⟩
abbrev x_20 : ByteArray := ⟨#[32]⟩
abbrev x_27 : ByteArray := ⟨#[39]⟩
abbrev x_272d2b2a3c3d2e : ByteArray := ⟨#[39, 45, 43, 42, 60, 61, 46]⟩
abbrev x_28 : ByteArray := ⟨#[40]⟩
abbrev x_29 : ByteArray := ⟨#[41]⟩
end Go.Proofs.Ytmpepccpnnldoaa

namespace Go.Proofs.Ytmpepccpnnldoaa
open Go.RowKit Go.Proofs
set_option linter.unusedSimpArgs false
set_option linter.unusedVariables false

end Go.Proofs.Ytmpepccpnnldoaa

namespace Go.Proofs.Ytmpepccpnnldoaa
set_option linter.unusedSimpArgs false
set_option linter.unusedVariables false
open Go.RowKit Go.Proofs

theorem indexByte_range (c : UInt8) : ∀ l : List UInt8, -1 ≤ Lib.indexByte l c ∧ Lib.indexByte l c ≤ l.length
  | [] => by simp [Lib.indexByte]
  | b :: l => by
    have ⟨h1, h2⟩ := indexByte_range c l
    simp only [Lib.indexByte, List.length_cons]
    split
    · omega
    · split <;> omega
theorem i64_leaf1 {n : Int} (h0 : -1 ≤ n) (h1 : n ≤ 9223372036854775807) : LeafOk (.int .i64 n) := by
  have e1 : IntKind.i64.max = 9223372036854775807 := by decide
  have e2 : IntKind.i64.min = -9223372036854775808 := by decide
  show Lit.wf (.int .i64 n) = true
  simp only [Lit.wf, Bool.and_eq_true, decide_eq_true_eq]
  omega
theorem iIndexByte_fn (s : ByteArray) (b : UInt8) (h : s.data.toList.length ≤ 1099511627776) : AFun Try.prog 123 [pS s, pU b] (pI (Lib.indexByte s.data.toList b)) := by
  have hr := indexByte_range b s.data.toList
  refine AFun.ofLeaf rfl (i64_leaf1 (by omega) (by omega)) fun w vals hv => ?_
  match vals, hv with
  | [v0, v1], hv =>
    obtain rfl := (RepM.rep (show RepM _ _ (.leaf (.string s)) v0 from hv.1)).leaf_eq.1
    obtain rfl := (RepM.rep (show RepM _ _ (.leaf (.int .u8 (b.toNat : Int))) v1 from hv.2.1)).leaf_eq.1
    refine (b_IndexByte s (b.toNat : Int) w).mono fun e w' => ?_; rintro ⟨rfl, rfl⟩
    refine ⟨?_, Ext.refl _⟩
    have : ((b.toNat : Int).toNat).toUInt8 = b := by simp
    rw [this]
end Go.Proofs.Ytmpepccpnnldoaa

namespace Go.Proofs.Ytmpepccpnnldoaa
set_option maxRecDepth 100000
set_option maxHeartbeats 40000000
noncomputable section
open Go.RowKit Go.Proofs
set_option linter.unusedSimpArgs false
set_option linter.unusedVariables false

attribute [local irreducible] lt

def iisLower_T (m : UInt8 → Option Bool) : Prop := ∀ (pb : UInt8) (r : Bool), m pb = some r → AFun Try.prog 109 [pU pb] (pB r : PV)
def iisLower_M (fu : Nat) (pb : UInt8) : Option Bool :=
 sw (decide (((pb.toNat : Int) : Int) ≥ 97))
 (some (decide (((pb.toNat : Int) : Int) ≤ 122)))
 (some false)
theorem iisLower_ok (fu : Nat)   : iisLower_T (iisLower_M fu) := by
  intro pb r H
  have H := hd0 H
  refine qI Try.func109 (fun C hC => ?_)
  refine qS (qR (q1 rMv (qN (qS (qR (q1 rMv (q1 rGe (q1 rMv ?_))))))))
  refine spB 5 H (fun g1 H => ?_) fun g1 H => ?_
  · refine qg g1 rMv (qg g1 rLe (q1 (rPt g1) (q1 rMv (qN (AWP.ret ?_)))))
    obtain rfl : _ = r := (smI H :)
    exact qe1
  iterate 2 refine qk g1 ?_
  refine q1 (rPf g1) (q1 rMv (qN (AWP.ret ?_)))
  obtain rfl : _ = r := (smI H :)
  exact qe1

def iisDigit_T (m : UInt8 → Option Bool) : Prop := ∀ (pb : UInt8) (r : Bool), m pb = some r → AFun Try.prog 110 [pU pb] (pB r : PV)
def iisDigit_M (fu : Nat) (pb : UInt8) : Option Bool :=
 sw (decide (((pb.toNat : Int) : Int) ≥ 48))
 (some (decide (((pb.toNat : Int) : Int) ≤ 57)))
 (some false)
theorem iisDigit_ok (fu : Nat)   : iisDigit_T (iisDigit_M fu) := by
  intro pb r H
  have H := hd0 H
  refine qI Try.func110 (fun C hC => ?_)
  refine qS (qR (q1 rMv (qN (qS (qR (q1 rMv (q1 rGe (q1 rMv ?_))))))))
  refine spB 5 H (fun g1 H => ?_) fun g1 H => ?_
  · refine qg g1 rMv (qg g1 rLe (q1 (rPt g1) (q1 rMv (qN (AWP.ret ?_)))))
    obtain rfl : _ = r := (smI H :)
    exact qe1
  iterate 2 refine qk g1 ?_
  refine q1 (rPf g1) (q1 rMv (qN (AWP.ret ?_)))
  obtain rfl : _ = r := (smI H :)
  exact qe1

def iisAtomByte_T (m : UInt8 → Option Bool) : Prop := ∀ (pb : UInt8) (r : Bool), m pb = some r → AFun Try.prog 84 [pU pb] (pB r : PV)
def iisAtomByte_M (fu : Nat) (pb : UInt8) : Option Bool :=
 bd (iisLower_M fu pb) (fun x2 =>
 sw (x2)
 (some true)
 (bd (iisDigit_M fu pb) (fun x5 =>
 sw (x5)
 (some true)
 (gd ((x_272d2b2a3c3d2e).data.toList.length ≤ 1099511627776)
 (some (decide (((Lib.indexByte (x_272d2b2a3c3d2e).data.toList pb) : Int) ≥ 0)))))))
theorem iisAtomByte_ok (fu : Nat)   : iisAtomByte_T (iisAtomByte_M fu) := by
  intro pb r H
  have H := hd0 H
  refine qI Try.func84 (fun C hC => ?_)
  refine qS (qR (q1 rMv (qN (qS (qR (q1 rMv (bdE H fun x2 z1 H => (q1 (rCf Try.func109 (iisLower_ok fu pb _ z1)) (q1 rMv ?_)))))))))
  refine spB 5 H (fun g3 H => ?_) fun g3 H => ?_
  · refine qk g3 (qk g3 (q1 (rPt g3) (q1 rMv ?_)))
    iterate 3 refine qk rfl ?_
    refine q1 (rPt rfl) (q1 rMv (qN (AWP.ret ?_)))
    obtain rfl : _ = r := (smI H :)
    exact qe1
  refine qg g3 rMv (bdE H fun x5 z4 H => (qg g3 (rCf Try.func110 (iisDigit_ok fu pb _ z4)) (q1 (rPf g3) (q1 rMv ?_))))
  refine spB 9 H (fun g6 H => ?_) fun g6 H => ?_
  · refine qk g6 ?_
    iterate 2 refine qk g6 ?_
    refine q1 (rPt g6) (q1 rMv (qN (AWP.ret ?_)))
    obtain rfl : _ = r := (smI H :)
    exact qe1
  refine qg g6 rMv (gdE H fun z7 H => (qg g6 (rCf Try.func123 (iIndexByte_fn x_272d2b2a3c3d2e pb z7)) (qg g6 rGe (q1 (rPf g6) (q1 rMv (qN (AWP.ret ?_)))))))
  obtain rfl : _ = r := (smI H :)
  exact qe1

def iIsValidAtom_T (m : ByteArray → Option Bool) : Prop := ∀ (ps : ByteArray) (r : Bool), m ps = some r → AFun Try.prog 136 [pS ps] (pB r : PV)
def iIsValidAtom_F1 (fu : Nat) (ps : ByteArray) : Nat → Unit → Option (LR Unit Bool) :=
 fun i1 _ => gd (i1 < (ps).size)
 (bd (iisAtomByte_M fu (bAt ps i1)) (fun x6 =>
 sw (!(x6))
 (some (.ret false))
 (some (.next ()))))
def iIsValidAtom_R1 (fu : Nat) (ps : ByteArray) : Option (Bool ⊕ Unit) :=
 loopN (iIsValidAtom_F1 fu ps) (ps.size - 0) 0 ()
def iIsValidAtom_M (fu : Nat) (ps : ByteArray) : Option Bool :=
 so (iIsValidAtom_R1 fu ps) (fun _ =>
 sw (decide ((((ps.size : Nat) : Int) : Int) ≥ 1))
 (some (decide ((((ps.size : Nat) : Int) : Int) ≤ 12)))
 (some false))
theorem iIsValidAtom_ok (fu : Nat)   : iIsValidAtom_T (iIsValidAtom_M fu) := by
  intro ps r H
  have H := hd0 H
  refine qI Try.func136 (fun C hC => ?_)
  refine qS (qR (q1 rMv (qN ?_)))
  iterate 2 refine qS ?_
  refine qR (q1 rMv (q1 (AOp.lenS rfl rfl rfl Try.underlying9) (q1 rMv (qN ?_))))
  refine szF 0 (fun hl2 => ?_)
  refine loopB (σ := Unit) (fun i1 _ => ⟨[(0, pS ps), (2, pB false), (5, pN ps.size), (6, pN i1)], ⟨[], []⟩⟩) (fun _ => ⟨[(0, pS ps), (2, pB false)], ⟨[], []⟩⟩) (soI H) ?_ ?_
  · rintro i1 ⟨⟩ H
    refine qS (qR (q1 rLt (qN (qS ?_))))
    refine cndL H (fun h3 h3l H => ?_) (fun h3 H => ?_)
    · have h3n : i1 < ps.size := by have := of_decide_eq_true h3; omega
      refine AWP.skip (qS (AWP.block (qS (qR ?_))))
      iterate 2 refine q1 rMv ?_
      refine qN (qS (qR ?_))
      iterate 2 refine q1 rMv ?_
      refine gdE H fun z4 H => (q1 (AOp.indexS (k := i1) rfl rfl rfl rfl z4 Try.underlying9) (bdE H fun x6 z5 H => (q1 (rCf Try.func84 (iisAtomByte_ok fu (bAt ps i1) _ z5)) (q1 rNo (qN ?_)))))
      refine cndB H (fun h7 H => ?_) (fun h7 H => ?_)
      · refine qS (qR (q1 rMv (qN (AWP.ret ?_))))
        obtain rfl : _ = r := (lkR (smI H) :)
        exact qe1
      refine AWP.skip (qR (q1 (AOp.addI rfl rfl rfl rfl (c := ((i1 + 1 : Nat) : Int)) (by omega) (by omega)) (q1 rMv (qN ?_))))
      exact lpN h3l ⟨_, (smI H :), wkA⟩
    refine AWP.exit ?_; exact lpX ⟨_, H, wkA⟩
  rintro ⟨⟩ H
  refine qS (qR (q1 rMv (q1 (AOp.lenS rfl rfl rfl Try.underlying9) (q1 rGe (q1 rMv ?_)))))
  refine spB 18 H (fun g8 H => ?_) fun g8 H => ?_
  · refine qg g8 rMv (qg g8 (AOp.lenS rfl rfl rfl Try.underlying9) (qg g8 rLe (q1 (rPt g8) (q1 rMv (qN (AWP.ret ?_))))))
    obtain rfl : _ = r := (smI H :)
    exact qe1
  iterate 3 refine qk g8 ?_
  refine q1 (rPf g8) (q1 rMv (qN (AWP.ret ?_)))
  obtain rfl : _ = r := (smI H :)
  exact qe1

abbrev iareAtoms_Y := GSExpr → Option Bool
abbrev iareAtoms_1_Y := GSExpr → Option Bool
abbrev gContainsFunc_SExpr__iareAtoms_1_Y := (List GSExpr) → Option Bool
abbrev gIndexFunc_SExpr__iareAtoms_1_Y := (List GSExpr) → Option Int
def iareAtoms_T (m : iareAtoms_Y) : Prop := ∀ (px : GSExpr) (r : Bool), m px = some r → AFun Try.prog 114 [(GSExpr.pv px)] (pB r : PV)
def iareAtoms_1_T (m : iareAtoms_1_Y) : Prop := ∀ (py : GSExpr) (r : Bool), m py = some r → AFun Try.prog 138 [(GSExpr.pv py)] (pB r : PV)
def gContainsFunc_SExpr__iareAtoms_1_T (m : gContainsFunc_SExpr__iareAtoms_1_Y) : Prop := ∀ (ps : List GSExpr) (r : Bool), m ps = some r → AFun Try.prog 137 [rSExpr ps, .fn 138 []] (pB r : PV)
def gIndexFunc_SExpr__iareAtoms_1_T (m : gIndexFunc_SExpr__iareAtoms_1_Y) : Prop := ∀ (ps : List GSExpr) (r : Int), m ps = some r → AFun Try.prog 145 [rSExpr ps, .fn 138 []] (pI r : PV)
def iareAtoms_G (fu : Nat) (r_iareAtoms : iareAtoms_Y) (r_iareAtoms_1 : iareAtoms_1_Y) (r_gContainsFunc_SExpr__iareAtoms_1 : gContainsFunc_SExpr__iareAtoms_1_Y) (r_gIndexFunc_SExpr__iareAtoms_1 : gIndexFunc_SExpr__iareAtoms_1_Y) (px : GSExpr) : Option Bool :=
 sw (!decide (px.gAtom = s_))
 (bd (iIsValidAtom_M fu px.gAtom) (fun x3 =>
 sw (x3)
 (some (decide ((((px.gList.length : Nat) : Int) : Int) = 0)))
 (some false)))
 (bd (r_gContainsFunc_SExpr__iareAtoms_1 px.gList) (fun x6 =>
 some (!(x6))))
theorem iareAtoms_step (fu : Nat) (r_iareAtoms : iareAtoms_Y) (r_iareAtoms_1 : iareAtoms_1_Y) (r_gContainsFunc_SExpr__iareAtoms_1 : gContainsFunc_SExpr__iareAtoms_1_Y) (r_gIndexFunc_SExpr__iareAtoms_1 : gIndexFunc_SExpr__iareAtoms_1_Y) (h_iareAtoms : iareAtoms_T r_iareAtoms) (h_iareAtoms_1 : iareAtoms_1_T r_iareAtoms_1) (h_gContainsFunc_SExpr__iareAtoms_1 : gContainsFunc_SExpr__iareAtoms_1_T r_gContainsFunc_SExpr__iareAtoms_1) (h_gIndexFunc_SExpr__iareAtoms_1 : gIndexFunc_SExpr__iareAtoms_1_T r_gIndexFunc_SExpr__iareAtoms_1) : iareAtoms_T (iareAtoms_G fu r_iareAtoms r_iareAtoms_1 r_gContainsFunc_SExpr__iareAtoms_1 r_gIndexFunc_SExpr__iareAtoms_1) := by
  intro px r H
  have H := hd0 H
  refine qI Try.func114 (fun C hC => ?_)
  refine qS (qR (q1 (rBx ([pS px.gAtom, rSExpr px.gList])) (q1 rMv (qN ?_))))
  iterate 2 refine qS ?_
  refine qR (q1 (rFp fo73_0) (q1 (rL1 sh9) (q1 rSn (qN ?_))))
  refine cndB H (fun h1 H => ?_) (fun h1 H => ?_)
  · refine qS (qR (q1 (rFp fo73_0) (q1 (rL1 sh9) (bdE H fun x3 z2 H => (q1 (rCf Try.func136 (iIsValidAtom_ok fu px.gAtom _ z2)) (q1 rMv ?_))))))
    refine spB 9 H (fun g4 H => ?_) fun g4 H => ?_
    · refine qg g4 (rFp fo73_1) (qg g4 (rL1 sh71) (qg g4 (rLn el71 (GSExpr.trs_len _)) (qg g4 rEq (q1 (rPt g4) (q1 rMv (qN (AWP.ret ?_)))))))
      obtain rfl : _ = r := (smI H :)
      exact qe1
    iterate 4 refine qk g4 ?_
    refine q1 (rPf g4) (q1 rMv (qN (AWP.ret ?_)))
    obtain rfl : _ = r := (smI H :)
    exact qe1
  refine AWP.skip (qS (qR (q1 (rFp fo73_1) (q1 (rL1 sh71) (bdE H fun x6 z5 H => (q1 (rCf Try.func137 (h_gContainsFunc_SExpr__iareAtoms_1 px.gList _ z5)) (q1 rNo (q1 rMv (qN (AWP.ret ?_))))))))))
  obtain rfl : _ = r := (smI H :)
  exact qe1
def iareAtoms_1_G (fu : Nat) (r_iareAtoms : iareAtoms_Y) (r_iareAtoms_1 : iareAtoms_1_Y) (r_gContainsFunc_SExpr__iareAtoms_1 : gContainsFunc_SExpr__iareAtoms_1_Y) (r_gIndexFunc_SExpr__iareAtoms_1 : gIndexFunc_SExpr__iareAtoms_1_Y) (py : GSExpr) : Option Bool :=
 bd (r_iareAtoms py) (fun x2 =>
 some (!(x2)))
theorem iareAtoms_1_step (fu : Nat) (r_iareAtoms : iareAtoms_Y) (r_iareAtoms_1 : iareAtoms_1_Y) (r_gContainsFunc_SExpr__iareAtoms_1 : gContainsFunc_SExpr__iareAtoms_1_Y) (r_gIndexFunc_SExpr__iareAtoms_1 : gIndexFunc_SExpr__iareAtoms_1_Y) (h_iareAtoms : iareAtoms_T r_iareAtoms) (h_iareAtoms_1 : iareAtoms_1_T r_iareAtoms_1) (h_gContainsFunc_SExpr__iareAtoms_1 : gContainsFunc_SExpr__iareAtoms_1_T r_gContainsFunc_SExpr__iareAtoms_1) (h_gIndexFunc_SExpr__iareAtoms_1 : gIndexFunc_SExpr__iareAtoms_1_T r_gIndexFunc_SExpr__iareAtoms_1) : iareAtoms_1_T (iareAtoms_1_G fu r_iareAtoms r_iareAtoms_1 r_gContainsFunc_SExpr__iareAtoms_1 r_gIndexFunc_SExpr__iareAtoms_1) := by
  intro py r H
  have H := hd0 H
  refine qI Try.func138 (fun C hC => ?_)
  refine qS (qR (q1 (rBx ([pS py.gAtom, rSExpr py.gList])) (q1 rMv (qN (qS (qR (q1 (rLp [pS py.gAtom, rSExpr py.gList] sh73) (bdE H fun x2 z1 H => (q1 (rCf Try.func114 (h_iareAtoms py _ z1)) (q1 rNo (q1 rMv (qN (AWP.ret ?_)))))))))))))
  obtain rfl : _ = r := (smI H :)
  exact qe1
def gContainsFunc_SExpr__iareAtoms_1_G (fu : Nat) (r_iareAtoms : iareAtoms_Y) (r_iareAtoms_1 : iareAtoms_1_Y) (r_gContainsFunc_SExpr__iareAtoms_1 : gContainsFunc_SExpr__iareAtoms_1_Y) (r_gIndexFunc_SExpr__iareAtoms_1 : gIndexFunc_SExpr__iareAtoms_1_Y) (ps : List GSExpr) : Option Bool :=
 bd (r_gIndexFunc_SExpr__iareAtoms_1 ps) (fun x2 =>
 some (decide ((x2 : Int) ≥ 0)))
theorem gContainsFunc_SExpr__iareAtoms_1_step (fu : Nat) (r_iareAtoms : iareAtoms_Y) (r_iareAtoms_1 : iareAtoms_1_Y) (r_gContainsFunc_SExpr__iareAtoms_1 : gContainsFunc_SExpr__iareAtoms_1_Y) (r_gIndexFunc_SExpr__iareAtoms_1 : gIndexFunc_SExpr__iareAtoms_1_Y) (h_iareAtoms : iareAtoms_T r_iareAtoms) (h_iareAtoms_1 : iareAtoms_1_T r_iareAtoms_1) (h_gContainsFunc_SExpr__iareAtoms_1 : gContainsFunc_SExpr__iareAtoms_1_T r_gContainsFunc_SExpr__iareAtoms_1) (h_gIndexFunc_SExpr__iareAtoms_1 : gIndexFunc_SExpr__iareAtoms_1_T r_gIndexFunc_SExpr__iareAtoms_1) : gContainsFunc_SExpr__iareAtoms_1_T (gContainsFunc_SExpr__iareAtoms_1_G fu r_iareAtoms r_iareAtoms_1 r_gContainsFunc_SExpr__iareAtoms_1 r_gIndexFunc_SExpr__iareAtoms_1) := by
  intro ps r H
  have H := hd0 H
  refine qI Try.func137 (fun C hC => ?_)
  refine qS (qR (q1 rMv (qN (qS (qR ?_)))))
  iterate 2 refine q1 rMv ?_
  refine bdE H fun x2 z1 H => (q1 (rCf Try.func145 (h_gIndexFunc_SExpr__iareAtoms_1 ps _ z1)) (q1 rGe (q1 rMv (qN (AWP.ret ?_)))))
  obtain rfl : _ = r := (smI H :)
  exact qe1
def gIndexFunc_SExpr__iareAtoms_1_F1 (fu : Nat) (r_iareAtoms : iareAtoms_Y) (r_iareAtoms_1 : iareAtoms_1_Y) (r_gContainsFunc_SExpr__iareAtoms_1 : gContainsFunc_SExpr__iareAtoms_1_Y) (r_gIndexFunc_SExpr__iareAtoms_1 : gIndexFunc_SExpr__iareAtoms_1_Y) (ps : List GSExpr) : Nat → Unit → Option (LR Unit Int) :=
 fun i1 _ => bd (r_iareAtoms_1 (atD ps i1)) (fun x5 =>
 sw (x5)
 (some (.ret ((i1 : Nat) : Int)))
 (some (.next ())))
def gIndexFunc_SExpr__iareAtoms_1_R1 (fu : Nat) (r_iareAtoms : iareAtoms_Y) (r_iareAtoms_1 : iareAtoms_1_Y) (r_gContainsFunc_SExpr__iareAtoms_1 : gContainsFunc_SExpr__iareAtoms_1_Y) (r_gIndexFunc_SExpr__iareAtoms_1 : gIndexFunc_SExpr__iareAtoms_1_Y) (ps : List GSExpr) : Option (Int ⊕ Unit) :=
 loopN (gIndexFunc_SExpr__iareAtoms_1_F1 fu r_iareAtoms r_iareAtoms_1 r_gContainsFunc_SExpr__iareAtoms_1 r_gIndexFunc_SExpr__iareAtoms_1 ps) (ps.length - 0) 0 ()
def gIndexFunc_SExpr__iareAtoms_1_G (fu : Nat) (r_iareAtoms : iareAtoms_Y) (r_iareAtoms_1 : iareAtoms_1_Y) (r_gContainsFunc_SExpr__iareAtoms_1 : gContainsFunc_SExpr__iareAtoms_1_Y) (r_gIndexFunc_SExpr__iareAtoms_1 : gIndexFunc_SExpr__iareAtoms_1_Y) (ps : List GSExpr) : Option Int :=
 so (gIndexFunc_SExpr__iareAtoms_1_R1 fu r_iareAtoms r_iareAtoms_1 r_gContainsFunc_SExpr__iareAtoms_1 r_gIndexFunc_SExpr__iareAtoms_1 ps) (fun _ =>
 some (-1))
theorem gIndexFunc_SExpr__iareAtoms_1_step (fu : Nat) (r_iareAtoms : iareAtoms_Y) (r_iareAtoms_1 : iareAtoms_1_Y) (r_gContainsFunc_SExpr__iareAtoms_1 : gContainsFunc_SExpr__iareAtoms_1_Y) (r_gIndexFunc_SExpr__iareAtoms_1 : gIndexFunc_SExpr__iareAtoms_1_Y) (h_iareAtoms : iareAtoms_T r_iareAtoms) (h_iareAtoms_1 : iareAtoms_1_T r_iareAtoms_1) (h_gContainsFunc_SExpr__iareAtoms_1 : gContainsFunc_SExpr__iareAtoms_1_T r_gContainsFunc_SExpr__iareAtoms_1) (h_gIndexFunc_SExpr__iareAtoms_1 : gIndexFunc_SExpr__iareAtoms_1_T r_gIndexFunc_SExpr__iareAtoms_1) : gIndexFunc_SExpr__iareAtoms_1_T (gIndexFunc_SExpr__iareAtoms_1_G fu r_iareAtoms r_iareAtoms_1 r_gContainsFunc_SExpr__iareAtoms_1 r_gIndexFunc_SExpr__iareAtoms_1) := by
  intro ps r H
  have H := hd0 H
  refine qI Try.func145 (fun C hC => ?_)
  refine qS (qR (q1 rMv (qN ?_)))
  iterate 2 refine qS ?_
  refine qR (q1 rMv (q1 (rLn el71 (GSExpr.trs_len _)) (q1 rMv (qN ?_))))
  refine lenF 0 (GSExpr.trs_len _) (fun hl2 => ?_)
  refine loopB (σ := Unit) (fun i1 _ => ⟨[(0, rSExpr ps), (1, .fn 138 []), (4, pI 0), (7, pN ps.length), (8, pN i1)], ⟨[], []⟩⟩) (fun _ => ⟨[(4, pI 0)], ⟨[], []⟩⟩) (soI H) ?_ ?_
  · rintro i1 ⟨⟩ H
    refine qS (qR (q1 rLt (qN (qS ?_))))
    refine cndL H (fun h3 h3l H => ?_) (fun h3 H => ?_)
    · have h3n := nat_lt_of h3
      refine AWP.skip (qS (AWP.block (qS (qR ?_))))
      iterate 2 refine q1 rMv ?_
      refine qN (qS (qR ?_))
      iterate 3 refine q1 rMv ?_
      refine q1 (rIx h3n el71) (q1 (rKe (GSExpr.cs (atD ps i1)) sh73) (bdE H fun x5 z4 H => (q1 (rCv Try.func138 (h_iareAtoms_1 (atD ps i1) _ z4)) (qN ?_))))
      refine cndB H (fun h6 H => ?_) (fun h6 H => ?_)
      · refine qS (qR ?_)
        iterate 2 refine q1 rMv ?_
        refine qN (AWP.ret ?_)
        obtain rfl : _ = r := (lkR (smI H) :)
        exact qe1
      refine AWP.skip (qR (q1 (AOp.addI rfl rfl rfl rfl (c := ((i1 + 1 : Nat) : Int)) (by omega) (by omega)) (q1 rMv (qN ?_))))
      exact lpN h3l ⟨_, (smI H :), wkA⟩
    refine AWP.exit ?_; exact lpX ⟨_, H, wkA⟩
  rintro ⟨⟩ H
  refine qS (qR (q1 rMv (qN (AWP.ret ?_))))
  obtain rfl : _ = r := (smI H :)
  exact qe1
mutual
def iareAtoms_M : Nat → GSExpr → Option Bool
  | 0, _ => none
  | fu + 1, px => iareAtoms_G fu (iareAtoms_M fu) (iareAtoms_1_M fu) (gContainsFunc_SExpr__iareAtoms_1_M fu) (gIndexFunc_SExpr__iareAtoms_1_M fu) px
def iareAtoms_1_M : Nat → GSExpr → Option Bool
  | 0, _ => none
  | fu + 1, py => iareAtoms_1_G fu (iareAtoms_M fu) (iareAtoms_1_M fu) (gContainsFunc_SExpr__iareAtoms_1_M fu) (gIndexFunc_SExpr__iareAtoms_1_M fu) py
def gContainsFunc_SExpr__iareAtoms_1_M : Nat → (List GSExpr) → Option Bool
  | 0, _ => none
  | fu + 1, ps => gContainsFunc_SExpr__iareAtoms_1_G fu (iareAtoms_M fu) (iareAtoms_1_M fu) (gContainsFunc_SExpr__iareAtoms_1_M fu) (gIndexFunc_SExpr__iareAtoms_1_M fu) ps
def gIndexFunc_SExpr__iareAtoms_1_M : Nat → (List GSExpr) → Option Int
  | 0, _ => none
  | fu + 1, ps => gIndexFunc_SExpr__iareAtoms_1_G fu (iareAtoms_M fu) (iareAtoms_1_M fu) (gContainsFunc_SExpr__iareAtoms_1_M fu) (gIndexFunc_SExpr__iareAtoms_1_M fu) ps
end
theorem iareAtoms_all (fu : Nat) : iareAtoms_T (iareAtoms_M fu) ∧ iareAtoms_1_T (iareAtoms_1_M fu) ∧ gContainsFunc_SExpr__iareAtoms_1_T (gContainsFunc_SExpr__iareAtoms_1_M fu) ∧ gIndexFunc_SExpr__iareAtoms_1_T (gIndexFunc_SExpr__iareAtoms_1_M fu) := by
  induction fu with
  | zero => exact ⟨(fun px r H => by simp only [iareAtoms_M] at H; cases H), (fun py r H => by simp only [iareAtoms_1_M] at H; cases H), (fun ps r H => by simp only [gContainsFunc_SExpr__iareAtoms_1_M] at H; cases H), (fun ps r H => by simp only [gIndexFunc_SExpr__iareAtoms_1_M] at H; cases H)⟩
  | succ fu ih => exact ⟨(fun px r H => by simp only [iareAtoms_M] at H; exact iareAtoms_step fu (iareAtoms_M fu) (iareAtoms_1_M fu) (gContainsFunc_SExpr__iareAtoms_1_M fu) (gIndexFunc_SExpr__iareAtoms_1_M fu) ih.1 ih.2.1 ih.2.2.1 ih.2.2.2 px r H), (fun py r H => by simp only [iareAtoms_1_M] at H; exact iareAtoms_1_step fu (iareAtoms_M fu) (iareAtoms_1_M fu) (gContainsFunc_SExpr__iareAtoms_1_M fu) (gIndexFunc_SExpr__iareAtoms_1_M fu) ih.1 ih.2.1 ih.2.2.1 ih.2.2.2 py r H), (fun ps r H => by simp only [gContainsFunc_SExpr__iareAtoms_1_M] at H; exact gContainsFunc_SExpr__iareAtoms_1_step fu (iareAtoms_M fu) (iareAtoms_1_M fu) (gContainsFunc_SExpr__iareAtoms_1_M fu) (gIndexFunc_SExpr__iareAtoms_1_M fu) ih.1 ih.2.1 ih.2.2.1 ih.2.2.2 ps r H), (fun ps r H => by simp only [gIndexFunc_SExpr__iareAtoms_1_M] at H; exact gIndexFunc_SExpr__iareAtoms_1_step fu (iareAtoms_M fu) (iareAtoms_1_M fu) (gContainsFunc_SExpr__iareAtoms_1_M fu) (gIndexFunc_SExpr__iareAtoms_1_M fu) ih.1 ih.2.1 ih.2.2.1 ih.2.2.2 ps r H)⟩
theorem iareAtoms_ok (fu : Nat) : iareAtoms_T (iareAtoms_M fu) := (iareAtoms_all fu).1
abbrev iSExprDepth_Y := GSExpr → Option Int
def iSExprDepth_T (m : iSExprDepth_Y) : Prop := ∀ (px : GSExpr) (r : Int), m px = some r → AFun Try.prog 115 [(GSExpr.pv px)] (pI r : PV)
def iSExprDepth_F1 (fu : Nat) (r_iSExprDepth : iSExprDepth_Y) (px : GSExpr) : Nat → Int → Option (LR Int Int) :=
 fun i2 v3 => bd (r_iSExprDepth (atD px.gList i2)) (fun x7 =>
 some (.next (max v3 x7)))
def iSExprDepth_R1 (fu : Nat) (r_iSExprDepth : iSExprDepth_Y) (px : GSExpr) : Option (Int ⊕ Int) :=
 loopN (iSExprDepth_F1 fu r_iSExprDepth px) (px.gList.length - 0) 0 0
def iSExprDepth_G (fu : Nat) (r_iSExprDepth : iSExprDepth_Y) (px : GSExpr) : Option Int :=
 sw (!decide (px.gAtom = s_))
 (some 0)
 (so (iSExprDepth_R1 fu r_iSExprDepth px) (fun v3 =>
 some (wrap64 (v3 + 1))))
theorem iSExprDepth_step (fu : Nat) (r_iSExprDepth : iSExprDepth_Y) (h_iSExprDepth : iSExprDepth_T r_iSExprDepth) : iSExprDepth_T (iSExprDepth_G fu r_iSExprDepth) := by
  intro px r H
  have H := hd0 H
  refine qI Try.func115 (fun C hC => ?_)
  refine qS (qR (q1 (rBx ([pS px.gAtom, rSExpr px.gList])) (q1 rMv (qN ?_))))
  iterate 2 refine qS ?_
  refine qR (q1 (rFp fo73_0) (q1 (rL1 sh9) (q1 rSn (qN ?_))))
  refine cndB H (fun h1 H => ?_) (fun h1 H => ?_)
  · refine qS (qR (q1 rMv (qN (AWP.ret ?_))))
    obtain rfl : _ = r := (smI H :)
    exact qe1
  refine AWP.skip (qS (qR (q1 rMv (qN ?_))))
  iterate 2 refine qS ?_
  refine qR (q1 (rFp fo73_1) (q1 (rL1 sh71) (q1 (rLn el71 (GSExpr.trs_len _)) (q1 rMv (qN ?_)))))
  refine lenF 10 (GSExpr.trs_len _) (fun hl4 => ?_)
  refine loopB (σ := Int) (fun i2 v3 => ⟨[(2, pI 0), (3, pI v3), (10, rSExpr px.gList), (11, pN px.gList.length), (12, pN i2)], ⟨[some ⟨73, [pS px.gAtom, rSExpr px.gList]⟩], []⟩⟩) (fun v3 => ⟨[(2, pI 0), (3, pI v3)], ⟨[some ⟨73, [pS px.gAtom, rSExpr px.gList]⟩], []⟩⟩) (soI H) ?_ ?_
  · rintro i2 v3 H
    refine qS (qR (q1 rLt (qN (qS ?_))))
    refine cndL H (fun h5 h5l H => ?_) (fun h5 H => ?_)
    · have h5n := nat_lt_of h5
      refine AWP.skip (qS (AWP.block (qS (qR (q1 (rIx h5n el71) (q1 (rKe (GSExpr.cs (atD px.gList i2)) sh73) (q1 (rAl zr73) (q1 (rSu sz73) (qN (qR (q1 rMv (q1 (rLp [pS ((atD px.gList i2).gAtom), rSExpr ((atD px.gList i2).gList)] sh73) (bdE H fun x7 z6 H => ?_)))))))))))))
      refine q1 (rCf Try.func115 (h_iSExprDepth (atD px.gList i2) _ z6)) (q1 (AOp.maxI rfl rfl rfl rfl) (q1 rMv (qN (qR (q1 (AOp.addI rfl rfl rfl rfl (c := ((i2 + 1 : Nat) : Int)) (by omega) (by omega)) (q1 rMv (qN ?_)))))))
      exact lpN h5l ⟨_, (smI H :), wkA⟩
    refine AWP.exit ?_; exact lpX ⟨_, H, wkA⟩
  rintro v3 H
  refine qS (qR (q1 rMv (q1 rAw (q1 rMv (qN (AWP.ret ?_))))))
  obtain rfl : _ = r := (smI H :)
  exact qe1
def iSExprDepth_M : Nat → GSExpr → Option Int
  | 0, _ => none
  | fu + 1, px => iSExprDepth_G fu (iSExprDepth_M fu) px
theorem iSExprDepth_all (fu : Nat) : iSExprDepth_T (iSExprDepth_M fu) := by
  induction fu with
  | zero => exact (fun px r H => by simp only [iSExprDepth_M] at H; cases H)
  | succ fu ih => exact (fun px r H => by simp only [iSExprDepth_M] at H; exact iSExprDepth_step fu (iSExprDepth_M fu) ih px r H)
theorem iSExprDepth_ok (fu : Nat) : iSExprDepth_T (iSExprDepth_M fu) := (iSExprDepth_all fu)

abbrev iSExprSize_Y := GSExpr → Option Int
def iSExprSize_T (m : iSExprSize_Y) : Prop := ∀ (px : GSExpr) (r : Int), m px = some r → AFun Try.prog 116 [(GSExpr.pv px)] (pI r : PV)
def iSExprSize_F1 (fu : Nat) (r_iSExprSize : iSExprSize_Y) (px : GSExpr) : Nat → Int → Option (LR Int Int) :=
 fun i1 v2 => bd (r_iSExprSize (atD px.gList i1)) (fun x6 =>
 some (.next (wrap64 (v2 + x6))))
def iSExprSize_R1 (fu : Nat) (r_iSExprSize : iSExprSize_Y) (px : GSExpr) : Option (Int ⊕ Int) :=
 loopN (iSExprSize_F1 fu r_iSExprSize px) (px.gList.length - 0) 0 1
def iSExprSize_G (fu : Nat) (r_iSExprSize : iSExprSize_Y) (px : GSExpr) : Option Int :=
 so (iSExprSize_R1 fu r_iSExprSize px) (fun v2 =>
 some v2)
theorem iSExprSize_step (fu : Nat) (r_iSExprSize : iSExprSize_Y) (h_iSExprSize : iSExprSize_T r_iSExprSize) : iSExprSize_T (iSExprSize_G fu r_iSExprSize) := by
  intro px r H
  have H := hd0 H
  refine qI Try.func116 (fun C hC => ?_)
  refine qS (qR (q1 (rBx ([pS px.gAtom, rSExpr px.gList])) (q1 rMv (qN (qS (qR (q1 rMv (qN ?_))))))))
  iterate 2 refine qS ?_
  refine qR (q1 (rFp fo73_1) (q1 (rL1 sh71) (q1 (rLn el71 (GSExpr.trs_len _)) (q1 rMv (qN ?_)))))
  refine lenF 7 (GSExpr.trs_len _) (fun hl3 => ?_)
  refine loopB (σ := Int) (fun i1 v2 => ⟨[(2, pI 0), (3, pI v2), (7, rSExpr px.gList), (8, pN px.gList.length), (9, pN i1)], ⟨[some ⟨73, [pS px.gAtom, rSExpr px.gList]⟩], []⟩⟩) (fun v2 => ⟨[(2, pI 0), (3, pI v2)], ⟨[some ⟨73, [pS px.gAtom, rSExpr px.gList]⟩], []⟩⟩) (soI H) ?_ ?_
  · rintro i1 v2 H
    refine qS (qR (q1 rLt (qN (qS ?_))))
    refine cndL H (fun h4 h4l H => ?_) (fun h4 H => ?_)
    · have h4n := nat_lt_of h4
      refine AWP.skip (qS (AWP.block (qS (qR (q1 (rIx h4n el71) (q1 (rKe (GSExpr.cs (atD px.gList i1)) sh73) (q1 (rAl zr73) (q1 (rSu sz73) (qN (qR (q1 rMv (q1 (rLp [pS ((atD px.gList i1).gAtom), rSExpr ((atD px.gList i1).gList)] sh73) (bdE H fun x6 z5 H => ?_)))))))))))))
      refine q1 (rCf Try.func116 (h_iSExprSize (atD px.gList i1) _ z5)) (q1 rAw (q1 rMv (qN (qR (q1 (AOp.addI rfl rfl rfl rfl (c := ((i1 + 1 : Nat) : Int)) (by omega) (by omega)) (q1 rMv (qN ?_)))))))
      exact lpN h4l ⟨_, (smI H :), wkA⟩
    refine AWP.exit ?_; exact lpX ⟨_, H, wkA⟩
  rintro v2 H
  refine qS (qR ?_)
  iterate 2 refine q1 rMv ?_
  refine qN (AWP.ret ?_)
  obtain rfl : _ = r := (smI H :)
  exact qe1
def iSExprSize_M : Nat → GSExpr → Option Int
  | 0, _ => none
  | fu + 1, px => iSExprSize_G fu (iSExprSize_M fu) px
theorem iSExprSize_all (fu : Nat) : iSExprSize_T (iSExprSize_M fu) := by
  induction fu with
  | zero => exact (fun px r H => by simp only [iSExprSize_M] at H; cases H)
  | succ fu ih => exact (fun px r H => by simp only [iSExprSize_M] at H; exact iSExprSize_step fu (iSExprSize_M fu) ih px r H)
theorem iSExprSize_ok (fu : Nat) : iSExprSize_T (iSExprSize_M fu) := (iSExprSize_all fu)

def iIsValidSExpr_T (m : GSExpr → Option Bool) : Prop := ∀ (px : GSExpr) (r : Bool), m px = some r → AFun Try.prog 76 [(GSExpr.pv px)] (pB r : PV)
def iIsValidSExpr_M (fu : Nat) (px : GSExpr) : Option Bool :=
 bd (iareAtoms_M fu px) (fun x2 =>
 sw (x2)
 (bd (iSExprDepth_M fu px) (fun x5 =>
 sw (decide ((x5 : Int) ≤ 14))
 (bd (iSExprSize_M fu px) (fun x8 =>
 some (decide ((x8 : Int) ≤ 900))))
 (some false)))
 (some false))
theorem iIsValidSExpr_ok (fu : Nat)   : iIsValidSExpr_T (iIsValidSExpr_M fu) := by
  intro px r H
  have H := hd0 H
  refine qI Try.func76 (fun C hC => ?_)
  refine qS (qR (q1 (rBx ([pS px.gAtom, rSExpr px.gList])) (q1 rMv (qN (qS (qR (q1 (rLp [pS px.gAtom, rSExpr px.gList] sh73) (bdE H fun x2 z1 H => (q1 (rCf Try.func114 (iareAtoms_ok fu px _ z1)) (q1 rMv ?_))))))))))
  refine spB 5 H (fun g3 H => ?_) fun g3 H => ?_
  · refine qg g3 (rLp [pS px.gAtom, rSExpr px.gList] sh73) (bdE H fun x5 z4 H => (qg g3 (rCf Try.func115 (iSExprDepth_ok fu px _ z4)) (qg g3 rLe (q1 (rPt g3) (q1 rMv ?_)))))
    refine spB 10 H (fun g6 H => ?_) fun g6 H => ?_
    · refine qg g6 (rLp [pS px.gAtom, rSExpr px.gList] sh73) (bdE H fun x8 z7 H => (qg g6 (rCf Try.func116 (iSExprSize_ok fu px _ z7)) (qg g6 rLe (q1 (rPt g6) (q1 rMv (qN (AWP.ret ?_)))))))
      obtain rfl : _ = r := (smI H :)
      exact qe1
    iterate 3 refine qk g6 ?_
    refine q1 (rPf g6) (q1 rMv (qN (AWP.ret ?_)))
    obtain rfl : _ = r := (smI H :)
    exact qe1
  iterate 3 refine qk g3 ?_
  refine q1 (rPf g3) (q1 rMv ?_)
  iterate 3 refine qk rfl ?_
  refine q1 (rPf rfl) (q1 rMv (qN (AWP.ret ?_)))
  obtain rfl : _ = r := (smI H :)
  exact qe1

end
end Go.Proofs.Ytmpepccpnnldoaa

namespace Go.Proofs.Ytmpepccpnnldoaa
set_option linter.unusedSimpArgs false
set_option linter.unusedVariables false
open Go.RowKit Go.Proofs

theorem bd_invF {α β : Type} {m : Option α} {f : α → Option β} {r : β} (h : bd m f = some r) : ∃ s, m = some s ∧ f s = some r := by
  cases m with
  | none => cases h
  | some s => exact ⟨s, rfl, h⟩
noncomputable def iFormatSExpr_M (fu : Nat) (px : GSExpr) : Option ByteArray := bd (iIsValidSExpr_M fu px) fun v => if v then (if (GSExpr.txt px).length ≤ 1099511627776 then some ⟨(GSExpr.txt px).toArray⟩ else none) else some ⟨#[]⟩
def iFormatSExpr_T (m : GSExpr → Option ByteArray) : Prop := ∀ (px : GSExpr) (r : ByteArray), m px = some r → AFun Try.prog 38 [(GSExpr.pv px)] (pS r : PV)
theorem GSExpr.pv_eq (x : GSExpr) : GSExpr.pv x = .agg (x.tr.map PV.t) := by cases x; rfl
theorem pv_rv {x : GSExpr} {cs : List Value} {w : World} (h : RepL w x.tr cs) : RV0 w (GSExpr.pv x) (.agg ⟨cs⟩) := by rw [GSExpr.pv_eq]; exact RV0.agg h
theorem pv_rep {x : GSExpr} {v : Value} {w : World} (h : RV0 w (GSExpr.pv x) v) : ∃ cs, v = .agg ⟨cs⟩ ∧ RepL w x.tr cs := by
  rw [GSExpr.pv_eq] at h
  obtain ⟨cs, rfl, h⟩ := h
  exact ⟨cs, rfl, RVL.ofTr h⟩
theorem builder_new {B b : Nat} {w : World} (h : OB w b 112 #[.pointer none, .slice none 0 0]) (hB : B ≤ b) : Lib.IsBuilderF 112 5 B b (Lib.byteCells []) w :=
  .inl ⟨hB, _, h, ⟨rfl, .inl ⟨rfl, rfl⟩⟩, by simp [Value.ownBlock]⟩
set_option maxRecDepth 100000 in
set_option maxHeartbeats 2000000 in
theorem formatSExpr_impl (fu : Nat) (x : GSExpr) (r : ByteArray) (H : iFormatSExpr_M fu x = some r) (cs : List Value) (w : World) (hr : RepL w x.tr cs) :
    Calls Try.prog 38 #[.agg ⟨cs⟩] w fun e w' => e = .returned (.string r) ∧ Ext w w' := by
  obtain ⟨vl, hv, he⟩ := bd_invF H
  have HV := Lib.hid (iIsValidSExpr_ok fu x vl hv)
  have HR := Lib.hid hr
  have HE := Lib.hid he
  have HL : Hid (cs.length = 2) := by rw [← hr.length, GSExpr.tr_len]; rfl
  have HI : Hid ((Try.prog.info? 73).map (·.size) = some cs.length) := by rw [HL.out]; exact isz73
  clear hr H hv he
  go_enter Try.func38, Try.ntmps38
  go_wp2_with (refine wpList_load_rep rfl 73 (.tmp 1) rfl w.heap.size 0 rfl cs _ Try.underlying73 HI.out (OB.cells0 (OB.new w _ _)) ?_)
  have hx1 : Ext w (w.alloc (Obj.cells ⟨cs⟩ 73)) := .alloc (.refl _) _
  have HX1 := Lib.hid hx1
  have hr1 := HR.out.ext hx1
  refine (HV.out.plain (w := w.alloc (Obj.cells ⟨cs⟩ 73)) (vals := [.agg ⟨cs⟩]) ⟨pv_rv hr1, trivial⟩).mono ?_; rintro e w1 ⟨rfl, hx2⟩
  have HX2 := Lib.hid (HX1.out.trans hx2)
  have HO1 := Lib.hid ((OB.new w 73 ⟨cs⟩).ext hx2)
  clear hx1 hr1 hx2
  go_wp2_with (first
    | (refine wpList_load_rep rfl 73 (.tmp 1) rfl w.heap.size 0 rfl cs _ Try.underlying73 HI.out (OB.cells0 (HO1.out.ext (.alloc (.refl _) _))) ?_))
  · have hh : (!vl) = true := by assumption
    have hv : vl = false := by simpa using hh
    have he := HE.out
    rw [hv] at he
    go_ret
    injection he with he
    rw [← he]
    exact ⟨rfl, HX2.out⟩
  · have hh : (!vl) = false := by assumption
    have hv : vl = true := by simpa using hh
    have he := HE.out
    rw [hv] at he
    by_cases hl : (GSExpr.txt x).length ≤ 1099511627776
    · rw [if_pos rfl, if_pos hl] at he
      injection he with he
      subst he
      have hz := HX2.out.size
      refine (writeSExpr_impl x [] w1.heap.size w1.heap.size cs w1 _ (HR.out.ext HX2.out) (.alloc (.refl w1) _) (Nat.le_refl _) (builder_new (OB.new w1 _ _) (Nat.le_refl _)) (by rw [List.nil_append]; omega) (by simp)).mono ?_; rintro e w2 ⟨rfl, h2⟩
      have HX3 := Lib.hid (HX2.out.trans (Ext.wr (.alloc (.refl w1) _) h2 (Nat.le_refl _)))
      have HB := Lib.hid h2.bld
      have hz2 := h2.size
      simp only [World.size_alloc] at hz2
      have HX4 := Lib.hid (Ext.trans HX2.out (Ext.wr (.alloc (.refl w1) (.cells #[.pointer none, .slice none 0 0] 112)) h2 (Nat.le_refl _)))
      clear h2
      go_wp2_with fail
      refine (b_String w1.heap.size w1.heap.size _ w2 HB.out (by omega)).mono ?_; rintro e w3 ⟨rfl, -, h3, -⟩
      have HX5 := Lib.hid (Below.trans HX4.out (h3.mono hz))
      clear h3
      go_wp2_with fail
      go_ret
      exact ⟨rfl, HX5.out⟩
    · rw [if_pos rfl, if_neg hl] at he
      cases he
theorem iFormatSExpr_ok (fu : Nat) : iFormatSExpr_T (iFormatSExpr_M fu) := by
  intro px r H
  have hz : LeafOk (.string r) := by
    show r.size ≤ maxLen
    obtain ⟨vl, -, he⟩ := bd_invF H
    cases vl with
    | false =>
      injection he with he
      rw [← he]
      exact Nat.zero_le _
    | true =>
      by_cases hl : (GSExpr.txt px).length ≤ 1099511627776
      · rw [if_pos rfl, if_pos hl] at he
        injection he with he
        rw [← he]
        show (GSExpr.txt px).toArray.size ≤ maxLen
        rw [List.size_toArray]
        unfold maxLen
        omega
      · rw [if_pos rfl, if_neg hl] at he
        cases he
  refine AFun.ofLeaf rfl hz fun w vals hv => ?_
  match vals, hv with
  | [v0], hv =>
    obtain ⟨cs, rfl, hr⟩ := pv_rep hv.1
    exact formatSExpr_impl fu px r H cs w hr
end Go.Proofs.Ytmpepccpnnldoaa

namespace Go.Proofs.Ytmpepccpnnldoaa
set_option maxRecDepth 100000
set_option maxHeartbeats 40000000
noncomputable section
open Go.RowKit Go.Proofs
set_option linter.unusedSimpArgs false
set_option linter.unusedVariables false

attribute [local irreducible] lt

def gIndex_string_T (m : (List ByteArray) → ByteArray → Option Int) : Prop := ∀ (ps : List ByteArray) (pv : ByteArray) (r : Int), m ps pv = some r → AFun Try.prog 143 [rS ps, pS pv] (pI r : PV)
def gIndex_string_F1 (fu : Nat) (ps : List ByteArray) (pv : ByteArray) : Nat → Unit → Option (LR Unit Int) :=
 fun i1 _ => sw (decide (pv = atD ps i1))
 (some (.ret ((i1 : Nat) : Int)))
 (some (.next ()))
def gIndex_string_R1 (fu : Nat) (ps : List ByteArray) (pv : ByteArray) : Option (Int ⊕ Unit) :=
 loopN (gIndex_string_F1 fu ps pv) (ps.length - 0) 0 ()
def gIndex_string_M (fu : Nat) (ps : List ByteArray) (pv : ByteArray) : Option Int :=
 so (gIndex_string_R1 fu ps pv) (fun _ =>
 some (-1))
theorem gIndex_string_ok (fu : Nat)   : gIndex_string_T (gIndex_string_M fu) := by
  intro ps pv r H
  have H := hd0 H
  refine qI Try.func143 (fun C hC => ?_)
  refine qS (qR (q1 rMv (qN ?_)))
  iterate 2 refine qS ?_
  refine qR (q1 rMv (q1 (rLn el24 (strTrs_len _)) (q1 rMv (qN ?_))))
  refine lenF 0 (strTrs_len _) (fun hl2 => ?_)
  refine loopB (σ := Unit) (fun i1 _ => ⟨[(0, rS ps), (1, pS pv), (4, pI 0), (7, pN ps.length), (8, pN i1)], ⟨[], []⟩⟩) (fun _ => ⟨[(4, pI 0)], ⟨[], []⟩⟩) (soI H) ?_ ?_
  · rintro i1 ⟨⟩ H
    refine qS (qR (q1 rLt (qN (qS ?_))))
    refine cndL H (fun h3 h3l H => ?_) (fun h3 H => ?_)
    · have h3n := nat_lt_of h3
      refine AWP.skip (qS (AWP.block (qS (qR ?_))))
      iterate 2 refine q1 rMv ?_
      refine qN (qS (qR ?_))
      iterate 3 refine q1 rMv ?_
      refine q1 (rIx h3n el24) (q1 (rK1 sh9) (q1 rSe (qN ?_)))
      refine cndB H (fun h4 H => ?_) (fun h4 H => ?_)
      · refine qS (qR ?_)
        iterate 2 refine q1 rMv ?_
        refine qN (AWP.ret ?_)
        obtain rfl : _ = r := (lkR (smI H) :)
        exact qe1
      refine AWP.skip (qR (q1 (AOp.addI rfl rfl rfl rfl (c := ((i1 + 1 : Nat) : Int)) (by omega) (by omega)) (q1 rMv (qN ?_))))
      exact lpN h3l ⟨_, (smI H :), wkA⟩
    refine AWP.exit ?_; exact lpX ⟨_, H, wkA⟩
  rintro ⟨⟩ H
  refine qS (qR (q1 rMv (qN (AWP.ret ?_))))
  obtain rfl : _ = r := (smI H :)
  exact qe1

def gContains_string_T (m : (List ByteArray) → ByteArray → Option Bool) : Prop := ∀ (ps : List ByteArray) (pv : ByteArray) (r : Bool), m ps pv = some r → AFun Try.prog 127 [rS ps, pS pv] (pB r : PV)
def gContains_string_M (fu : Nat) (ps : List ByteArray) (pv : ByteArray) : Option Bool :=
 bd (gIndex_string_M fu ps pv) (fun x2 =>
 some (decide ((x2 : Int) ≥ 0)))
theorem gContains_string_ok (fu : Nat)   : gContains_string_T (gContains_string_M fu) := by
  intro ps pv r H
  have H := hd0 H
  refine qI Try.func127 (fun C hC => ?_)
  refine qS (qR (q1 rMv (qN (qS (qR ?_)))))
  iterate 2 refine q1 rMv ?_
  refine bdE H fun x2 z1 H => (q1 (rCf Try.func143 (gIndex_string_ok fu ps pv _ z1)) (q1 rGe (q1 rMv (qN (AWP.ret ?_)))))
  obtain rfl : _ = r := (smI H :)
  exact qe1

def iIsReserved_T (m : ByteArray → Option Bool) : Prop := ∀ (ps : ByteArray) (r : Bool), m ps = some r → AFun Try.prog 111 [pS ps] (pB r : PV)
def iIsReserved_M (fu : Nat) (ps : ByteArray) : Option Bool :=
 bd (gContains_string_M fu ([s_int, s_bool, s_assoc, s_dyn, s_if, s_let, s_case, s_new, s_method, s_pack, s_true, s_false] : List ByteArray) ps) (fun x2 =>
 some x2)
theorem iIsReserved_ok (fu : Nat)   : iIsReserved_T (iIsReserved_M fu) := by
  intro ps r H
  have H := hd0 H
  refine qI Try.func111 (fun C hC => ?_)
  refine qS (qR (q1 rMv (qN (qS (qR (q1 (rBs ([s_int, s_bool, s_assoc, s_dyn, s_if, s_let, s_case, s_new, s_method, s_pack, s_true, s_false] : List ByteArray) el24 zr9) (q1 rMv (bdE H fun x2 z1 H => (q1 (rCf Try.func127 (gContains_string_ok fu ([s_int, s_bool, s_assoc, s_dyn, s_if, s_let, s_case, s_new, s_method, s_pack, s_true, s_false] : List ByteArray) ps _ z1)) (q1 rMv (qN (AWP.ret ?_))))))))))))
  obtain rfl : _ = r := (smI H :)
  exact qe1

def iIsValidName_T (m : ByteArray → Option Bool) : Prop := ∀ (ps : ByteArray) (r : Bool), m ps = some r → AFun Try.prog 74 [pS ps] (pB r : PV)
def iIsValidName_F1 (fu : Nat) (ps : ByteArray) : Nat → Unit → Option (LR Unit Bool) :=
 fun i1 _ => gd (i1 < (ps).size)
 (bd (iisLower_M fu (bAt ps i1)) (fun x6 =>
 sw (!(x6))
 (sw (decide ((((i1 : Nat) : Int) : Int) = 0))
 (some (.ret false))
 (bd (iisDigit_M fu (bAt ps i1)) (fun x10 =>
 sw (!(x10))
 (some (.ret false))
 (some (.next ())))))
 (some (.next ()))))
def iIsValidName_R1 (fu : Nat) (ps : ByteArray) : Option (Bool ⊕ Unit) :=
 loopN (iIsValidName_F1 fu ps) (ps.size - 0) 0 ()
def iIsValidName_M (fu : Nat) (ps : ByteArray) : Option Bool :=
 so (iIsValidName_R1 fu ps) (fun _ =>
 sw (decide ((((ps.size : Nat) : Int) : Int) ≥ 1))
 (sw (decide ((((ps.size : Nat) : Int) : Int) ≤ 8))
 (bd (iIsReserved_M fu ps) (fun x15 =>
 some (!(x15))))
 (some false))
 (some false))
theorem iIsValidName_ok (fu : Nat)   : iIsValidName_T (iIsValidName_M fu) := by
  intro ps r H
  have H := hd0 H
  refine qI Try.func74 (fun C hC => ?_)
  refine qS (qR (q1 rMv (qN ?_)))
  iterate 2 refine qS ?_
  refine qR (q1 rMv (q1 (AOp.lenS rfl rfl rfl Try.underlying9) (q1 rMv (qN ?_))))
  refine szF 0 (fun hl2 => ?_)
  refine loopB (σ := Unit) (fun i1 _ => ⟨[(0, pS ps), (2, pB false), (5, pN ps.size), (6, pN i1)], ⟨[], []⟩⟩) (fun _ => ⟨[(0, pS ps), (2, pB false)], ⟨[], []⟩⟩) (soI H) ?_ ?_
  · rintro i1 ⟨⟩ H
    refine qS (qR (q1 rLt (qN (qS ?_))))
    refine cndL H (fun h3 h3l H => ?_) (fun h3 H => ?_)
    · have h3n : i1 < ps.size := by have := of_decide_eq_true h3; omega
      refine AWP.skip (qS (AWP.block (qS (qR ?_))))
      iterate 2 refine q1 rMv ?_
      refine qN (qS (qR ?_))
      iterate 2 refine q1 rMv ?_
      refine gdE H fun z4 H => (q1 (AOp.indexS (k := i1) rfl rfl rfl rfl z4 Try.underlying9) (bdE H fun x6 z5 H => (q1 (rCf Try.func109 (iisLower_ok fu (bAt ps i1) _ z5)) (q1 rNo (q1 rMv ?_)))))
      refine spB 14 H (fun g7 H => ?_) fun g7 H => ?_
      · refine qg g7 rMv (qg g7 rEq (qg g7 rMv ?_))
        refine spB 17 H (fun g8 H => ?_) fun g8 H => ?_
        · refine qk g8 ?_
          iterate 4 refine qk g8 ?_
          refine qg g7 (rPt g8) (q1 (rPt g7) (qN (cndT rfl (qS (qR (q1 rMv (qN (AWP.ret ?_))))))))
          obtain rfl : _ = r := (lkR (smI H) :)
          exact qe1
        iterate 2 refine qg g8 rMv ?_
        refine qg g8 (AOp.indexS (k := i1) rfl rfl rfl rfl z4 Try.underlying9) (bdE H fun x10 z9 H => (qg g8 (rCf Try.func110 (iisDigit_ok fu (bAt ps i1) _ z9)) (qg g8 rNo (qg g7 (rPf g8) (q1 (rPt g7) (qN ?_))))))
        refine cndB H (fun h11 H => ?_) (fun h11 H => ?_)
        · refine qS (qR (q1 rMv (qN (AWP.ret ?_))))
          obtain rfl : _ = r := (lkR (smI H) :)
          exact qe1
        refine AWP.skip (qR (q1 (AOp.addI rfl rfl rfl rfl (c := ((i1 + 1 : Nat) : Int)) (by omega) (by omega)) (q1 rMv (qN ?_))))
        exact lpN h3l ⟨_, (smI H :), wkA⟩
      iterate 3 refine qk g7 ?_
      iterate 5 refine qku ?_
      refine qk g7 (q1 (rPf g7) (qN (cndF rfl (AWP.skip (qR (q1 (AOp.addI rfl rfl rfl rfl (c := ((i1 + 1 : Nat) : Int)) (by omega) (by omega)) (q1 rMv (qN ?_))))))))
      exact lpN h3l ⟨_, (smI H :), wkA⟩
    refine AWP.exit ?_; exact lpX ⟨_, H, wkA⟩
  rintro ⟨⟩ H
  refine qS (qR (q1 rMv (q1 (AOp.lenS rfl rfl rfl Try.underlying9) (q1 rGe (q1 rMv ?_)))))
  refine spB 29 H (fun g12 H => ?_) fun g12 H => ?_
  · refine qg g12 rMv (qg g12 (AOp.lenS rfl rfl rfl Try.underlying9) (qg g12 rLe (q1 (rPt g12) (q1 rMv ?_))))
    refine spB 34 H (fun g13 H => ?_) fun g13 H => ?_
    · refine qg g13 rMv (bdE H fun x15 z14 H => (qg g13 (rCf Try.func111 (iIsReserved_ok fu ps _ z14)) (qg g13 rNo (q1 (rPt g13) (q1 rMv (qN (AWP.ret ?_)))))))
      obtain rfl : _ = r := (smI H :)
      exact qe1
    iterate 3 refine qk g13 ?_
    refine q1 (rPf g13) (q1 rMv (qN (AWP.ret ?_)))
    obtain rfl : _ = r := (smI H :)
    exact qe1
  iterate 3 refine qk g12 ?_
  refine q1 (rPf g12) (q1 rMv ?_)
  iterate 3 refine qk rfl ?_
  refine q1 (rPf rfl) (q1 rMv (qN (AWP.ret ?_)))
  obtain rfl : _ = r := (smI H :)
  exact qe1

def iisBuiltIn_T (m : ByteArray → Option Bool) : Prop := ∀ (pname : ByteArray) (r : Bool), m pname = some r → AFun Try.prog 133 [pS pname] (pB r : PV)
def iisBuiltIn_M (fu : Nat) (pname : ByteArray) : Option Bool :=
 sw (decide (pname = s_int))
 (some true)
 (some (decide (pname = s_bool)))
theorem iisBuiltIn_ok (fu : Nat)   : iisBuiltIn_T (iisBuiltIn_M fu) := by
  intro pname r H
  have H := hd0 H
  refine qI Try.func133 (fun C hC => ?_)
  refine qS (qR (q1 rMv (qN (qS (qR (q1 rMv (q1 rSe (q1 rMv ?_))))))))
  refine spB 5 H (fun g1 H => ?_) fun g1 H => ?_
  · refine qk g1 (qk g1 (q1 (rPt g1) (q1 rMv (qN (AWP.ret ?_)))))
    obtain rfl : _ = r := (smI H :)
    exact qe1
  refine qg g1 rMv (qg g1 rSe (q1 (rPf g1) (q1 rMv (qN (AWP.ret ?_)))))
  obtain rfl : _ = r := (smI H :)
  exact qe1

abbrev iisFormed_Y := GType → Option Bool
abbrev iisFormed_1_Y := GType → Option Bool
abbrev gContainsFunc_Type__iisFormed_1_Y := (List GType) → Option Bool
abbrev gIndexFunc_Type__iisFormed_1_Y := (List GType) → Option Int
def iisFormed_T (m : iisFormed_Y) : Prop := ∀ (pt : GType) (r : Bool), m pt = some r → AFun Try.prog 112 [(GType.pv pt)] (pB r : PV)
def iisFormed_1_T (m : iisFormed_1_Y) : Prop := ∀ (pa : GType) (r : Bool), m pa = some r → AFun Try.prog 135 [(GType.pv pa)] (pB r : PV)
def gContainsFunc_Type__iisFormed_1_T (m : gContainsFunc_Type__iisFormed_1_Y) : Prop := ∀ (ps : List GType) (r : Bool), m ps = some r → AFun Try.prog 134 [rType ps, .fn 135 []] (pB r : PV)
def gIndexFunc_Type__iisFormed_1_T (m : gIndexFunc_Type__iisFormed_1_Y) : Prop := ∀ (ps : List GType) (r : Int), m ps = some r → AFun Try.prog 144 [rType ps, .fn 135 []] (pI r : PV)
def iisFormed_C1 (fu : Nat) (r_iisFormed : iisFormed_Y) (r_iisFormed_1 : iisFormed_1_Y) (r_gContainsFunc_Type__iisFormed_1 : gContainsFunc_Type__iisFormed_1_Y) (r_gIndexFunc_Type__iisFormed_1 : gIndexFunc_Type__iisFormed_1_Y) (pt : GType) : Option (Bool ⊕ Bool) :=
 sw (decide ((pt.gKind : Int) = 1))
 (some (.inr (decide ((pt.gKind : Int) = 1))))
 (some (.inr (decide ((pt.gKind : Int) = 4))))
def iisFormed_G (fu : Nat) (r_iisFormed : iisFormed_Y) (r_iisFormed_1 : iisFormed_1_Y) (r_gContainsFunc_Type__iisFormed_1 : gContainsFunc_Type__iisFormed_1_Y) (r_gIndexFunc_Type__iisFormed_1 : gIndexFunc_Type__iisFormed_1_Y) (pt : GType) : Option Bool :=
 so (iisFormed_C1 fu r_iisFormed r_iisFormed_1 r_gContainsFunc_Type__iisFormed_1 r_gIndexFunc_Type__iisFormed_1 pt) (fun v1 =>
 sw (v1)
 (bd (iIsValidName_M fu pt.gName) (fun x5 =>
 sw (x5)
 (sw (decide ((((pt.gArgs.length : Nat) : Int) : Int) = 0))
 (bd (r_gContainsFunc_Type__iisFormed_1 pt.gArgs) (fun x9 =>
 some (!(x9))))
 (some false))
 (some false)))
 (sw (decide ((pt.gKind : Int) = 3))
 (bd (iIsValidName_M fu pt.gName) (fun x12 =>
 sw (x12)
 (sw (decide ((((pt.gArgs.length : Nat) : Int) : Int) = 1))
 (bd (r_gContainsFunc_Type__iisFormed_1 pt.gArgs) (fun x16 =>
 some (!(x16))))
 (some false))
 (some false)))
 (sw (decide ((pt.gKind : Int) = 2))
 (bd (iIsValidName_M fu pt.gName) (fun x19 =>
 sw (x19)
 (sw (decide ((((pt.gArgs.length : Nat) : Int) : Int) ≤ 3))
 (bd (r_gContainsFunc_Type__iisFormed_1 pt.gArgs) (fun x23 =>
 some (!(x23))))
 (bd (iisBuiltIn_M fu pt.gName) (fun x25 =>
 sw (x25)
 (sw (decide ((((pt.gArgs.length : Nat) : Int) : Int) = 0))
 (bd (r_gContainsFunc_Type__iisFormed_1 pt.gArgs) (fun x29 =>
 some (!(x29))))
 (some false))
 (some false))))
 (bd (iisBuiltIn_M fu pt.gName) (fun x31 =>
 sw (x31)
 (sw (decide ((((pt.gArgs.length : Nat) : Int) : Int) = 0))
 (bd (r_gContainsFunc_Type__iisFormed_1 pt.gArgs) (fun x35 =>
 some (!(x35))))
 (some false))
 (some false)))))
 (some false))))
theorem iisFormed_step (fu : Nat) (r_iisFormed : iisFormed_Y) (r_iisFormed_1 : iisFormed_1_Y) (r_gContainsFunc_Type__iisFormed_1 : gContainsFunc_Type__iisFormed_1_Y) (r_gIndexFunc_Type__iisFormed_1 : gIndexFunc_Type__iisFormed_1_Y) (h_iisFormed : iisFormed_T r_iisFormed) (h_iisFormed_1 : iisFormed_1_T r_iisFormed_1) (h_gContainsFunc_Type__iisFormed_1 : gContainsFunc_Type__iisFormed_1_T r_gContainsFunc_Type__iisFormed_1) (h_gIndexFunc_Type__iisFormed_1 : gIndexFunc_Type__iisFormed_1_T r_gIndexFunc_Type__iisFormed_1) : iisFormed_T (iisFormed_G fu r_iisFormed r_iisFormed_1 r_gContainsFunc_Type__iisFormed_1 r_gIndexFunc_Type__iisFormed_1) := by
  intro pt r H
  have H := hd0 H
  refine qI Try.func112 (fun C hC => ?_)
  refine qS (qR (q1 (rBx (cType pt)) (q1 rMv (qN (qS (qR (q1 rMv (qN ?_))))))))
  iterate 2 refine qS ?_
  refine qR (q1 (rFp fo27_0) (q1 (rL1 sh3) (qN (AWP.block (qS ?_)))))
  refine cutB (σ := Bool) (fun v1 => ⟨[(1, .ptr 0 0), (2, pB false), (3, pB false), (5, pI pt.gKind), (6, pB v1)], ⟨[some ⟨27, cType pt⟩], []⟩⟩) (soI H) (fun H => ?_) ?_
  · refine qS (qR (q1 rEq (q1 rMv (qN ?_))))
    refine cndB H (fun h2 H => ?_) (fun h2 H => ?_)
    · refine AWP.skip ?_; exact cutX ⟨_, (smI H :), wkA⟩
    refine qR (q1 rEq (q1 rMv (qN ?_)))
    exact cutX ⟨_, (smI H :), wkA⟩
  rintro v1 H
  refine cndB H (fun h3 H => ?_) (fun h3 H => ?_)
  · refine qR (q1 (rFp fo27_1) (q1 (rL1 sh9) (bdE H fun x5 z4 H => (q1 (rCf Try.func74 (iIsValidName_ok fu pt.gName _ z4)) (q1 rMv ?_)))))
    refine spB 12 H (fun g6 H => ?_) fun g6 H => ?_
    · refine qg g6 (rFp fo27_2) (qg g6 (rL1 sh25) (qg g6 (rLn el25 (GType.trs_len _)) (qg g6 rEq (q1 (rPt g6) (q1 rMv (qN (qS (qR ?_))))))))
      iterate 2 refine q1 rMv ?_
      refine spB 52 H (fun g7 H => ?_) fun g7 H => ?_
      · refine qg g7 (rFp fo27_2) (qg g7 (rL1 sh25) (bdE H fun x9 z8 H => (qg g7 (rCf Try.func134 (h_gContainsFunc_Type__iisFormed_1 pt.gArgs _ z8)) (qg g7 rNo (q1 (rPt g7) (q1 rMv (qN (AWP.ret ?_))))))))
        obtain rfl : _ = r := (smI H :)
        exact qe1
      iterate 4 refine qk g7 ?_
      refine q1 (rPf g7) (q1 rMv (qN (AWP.ret ?_)))
      obtain rfl : _ = r := (smI H :)
      exact qe1
    iterate 4 refine qk g6 ?_
    refine q1 (rPf g6) (q1 rMv (qN (qS (qR ?_))))
    iterate 2 refine q1 rMv ?_
    iterate 4 refine qk rfl ?_
    refine q1 (rPf rfl) (q1 rMv (qN (AWP.ret ?_)))
    obtain rfl : _ = r := (smI H :)
    exact qe1
  refine qS (qR (q1 rEq (q1 rMv (qN ?_))))
  refine cndB H (fun h10 H => ?_) (fun h10 H => ?_)
  · refine qR (q1 (rFp fo27_1) (q1 (rL1 sh9) (bdE H fun x12 z11 H => (q1 (rCf Try.func74 (iIsValidName_ok fu pt.gName _ z11)) (q1 rMv ?_)))))
    refine spB 23 H (fun g13 H => ?_) fun g13 H => ?_
    · refine qg g13 (rFp fo27_2) (qg g13 (rL1 sh25) (qg g13 (rLn el25 (GType.trs_len _)) (qg g13 rEq (q1 (rPt g13) (q1 rMv (qN (qS (qR ?_))))))))
      iterate 2 refine q1 rMv ?_
      refine spB 52 H (fun g14 H => ?_) fun g14 H => ?_
      · refine qg g14 (rFp fo27_2) (qg g14 (rL1 sh25) (bdE H fun x16 z15 H => (qg g14 (rCf Try.func134 (h_gContainsFunc_Type__iisFormed_1 pt.gArgs _ z15)) (qg g14 rNo (q1 (rPt g14) (q1 rMv (qN (AWP.ret ?_))))))))
        obtain rfl : _ = r := (smI H :)
        exact qe1
      iterate 4 refine qk g14 ?_
      refine q1 (rPf g14) (q1 rMv (qN (AWP.ret ?_)))
      obtain rfl : _ = r := (smI H :)
      exact qe1
    iterate 4 refine qk g13 ?_
    refine q1 (rPf g13) (q1 rMv (qN (qS (qR ?_))))
    iterate 2 refine q1 rMv ?_
    iterate 4 refine qk rfl ?_
    refine q1 (rPf rfl) (q1 rMv (qN (AWP.ret ?_)))
    obtain rfl : _ = r := (smI H :)
    exact qe1
  refine qS (qR (q1 rEq (q1 rMv (qN ?_))))
  refine cndB H (fun h17 H => ?_) (fun h17 H => ?_)
  · refine qR (q1 (rFp fo27_1) (q1 (rL1 sh9) (bdE H fun x19 z18 H => (q1 (rCf Try.func74 (iIsValidName_ok fu pt.gName _ z18)) (q1 rMv ?_)))))
    refine spB 34 H (fun g20 H => ?_) fun g20 H => ?_
    · refine qg g20 (rFp fo27_2) (qg g20 (rL1 sh25) (qg g20 (rLn el25 (GType.trs_len _)) (qg g20 rLe (q1 (rPt g20) (q1 rMv ?_)))))
      refine spB 40 H (fun g21 H => ?_) fun g21 H => ?_
      · refine qk g21 ?_
        iterate 3 refine qk g21 ?_
        iterate 4 refine qku ?_
        refine qk g21 (q1 (rPt g21) (q1 rMv (qN (qS (qR ?_)))))
        iterate 2 refine q1 rMv ?_
        refine qg rfl (rFp fo27_2) (qg rfl (rL1 sh25) (bdE H fun x23 z22 H => (qg rfl (rCf Try.func134 (h_gContainsFunc_Type__iisFormed_1 pt.gArgs _ z22)) (qg rfl rNo (q1 (rPt rfl) (q1 rMv (qN (AWP.ret ?_))))))))
        obtain rfl : _ = r := (smI H :)
        exact qe1
      refine qg g21 (rFp fo27_1) (qg g21 (rL1 sh9) (bdE H fun x25 z24 H => (qg g21 (rCf Try.func133 (iisBuiltIn_ok fu pt.gName _ z24)) (qg g21 rMv ?_))))
      refine spB 44 H (fun g26 H => ?_) fun g26 H => ?_
      · refine qg g26 (rFp fo27_2) (qg g26 (rL1 sh25) (qg g26 (rLn el25 (GType.trs_len _)) (qg g26 rEq (qg g21 (rPt g26) (q1 (rPf g21) (q1 rMv (qN (qS (qR ?_)))))))))
        iterate 2 refine q1 rMv ?_
        refine spB 52 H (fun g27 H => ?_) fun g27 H => ?_
        · refine qg g27 (rFp fo27_2) (qg g27 (rL1 sh25) (bdE H fun x29 z28 H => (qg g27 (rCf Try.func134 (h_gContainsFunc_Type__iisFormed_1 pt.gArgs _ z28)) (qg g27 rNo (q1 (rPt g27) (q1 rMv (qN (AWP.ret ?_))))))))
          obtain rfl : _ = r := (smI H :)
          exact qe1
        iterate 4 refine qk g27 ?_
        refine q1 (rPf g27) (q1 rMv (qN (AWP.ret ?_)))
        obtain rfl : _ = r := (smI H :)
        exact qe1
      iterate 4 refine qk g26 ?_
      refine qg g21 (rPf g26) (q1 (rPf g21) (q1 rMv (qN (qS (qR ?_)))))
      iterate 2 refine q1 rMv ?_
      iterate 4 refine qk rfl ?_
      refine q1 (rPf rfl) (q1 rMv (qN (AWP.ret ?_)))
      obtain rfl : _ = r := (smI H :)
      exact qe1
    iterate 4 refine qk g20 ?_
    refine q1 (rPf g20) (q1 rMv (qg rfl (rFp fo27_1) (qg rfl (rL1 sh9) (bdE H fun x31 z30 H => (qg rfl (rCf Try.func133 (iisBuiltIn_ok fu pt.gName _ z30)) (qg rfl rMv ?_))))))
    refine spB 44 H (fun g32 H => ?_) fun g32 H => ?_
    · refine qg g32 (rFp fo27_2) (qg g32 (rL1 sh25) (qg g32 (rLn el25 (GType.trs_len _)) (qg g32 rEq (qg rfl (rPt g32) (q1 (rPf rfl) (q1 rMv (qN (qS (qR ?_)))))))))
      iterate 2 refine q1 rMv ?_
      refine spB 52 H (fun g33 H => ?_) fun g33 H => ?_
      · refine qg g33 (rFp fo27_2) (qg g33 (rL1 sh25) (bdE H fun x35 z34 H => (qg g33 (rCf Try.func134 (h_gContainsFunc_Type__iisFormed_1 pt.gArgs _ z34)) (qg g33 rNo (q1 (rPt g33) (q1 rMv (qN (AWP.ret ?_))))))))
        obtain rfl : _ = r := (smI H :)
        exact qe1
      iterate 4 refine qk g33 ?_
      refine q1 (rPf g33) (q1 rMv (qN (AWP.ret ?_)))
      obtain rfl : _ = r := (smI H :)
      exact qe1
    iterate 4 refine qk g32 ?_
    refine qg rfl (rPf g32) (q1 (rPf rfl) (q1 rMv (qN (qS (qR ?_)))))
    iterate 2 refine q1 rMv ?_
    iterate 4 refine qk rfl ?_
    refine q1 (rPf rfl) (q1 rMv (qN (AWP.ret ?_)))
    obtain rfl : _ = r := (smI H :)
    exact qe1
  refine AWP.skip (qS (qR ?_))
  iterate 2 refine q1 rMv ?_
  iterate 4 refine qk rfl ?_
  refine q1 (rPf rfl) (q1 rMv (qN (AWP.ret ?_)))
  obtain rfl : _ = r := (smI H :)
  exact qe1
def iisFormed_1_G (fu : Nat) (r_iisFormed : iisFormed_Y) (r_iisFormed_1 : iisFormed_1_Y) (r_gContainsFunc_Type__iisFormed_1 : gContainsFunc_Type__iisFormed_1_Y) (r_gIndexFunc_Type__iisFormed_1 : gIndexFunc_Type__iisFormed_1_Y) (pa : GType) : Option Bool :=
 bd (r_iisFormed pa) (fun x2 =>
 some (!(x2)))
theorem iisFormed_1_step (fu : Nat) (r_iisFormed : iisFormed_Y) (r_iisFormed_1 : iisFormed_1_Y) (r_gContainsFunc_Type__iisFormed_1 : gContainsFunc_Type__iisFormed_1_Y) (r_gIndexFunc_Type__iisFormed_1 : gIndexFunc_Type__iisFormed_1_Y) (h_iisFormed : iisFormed_T r_iisFormed) (h_iisFormed_1 : iisFormed_1_T r_iisFormed_1) (h_gContainsFunc_Type__iisFormed_1 : gContainsFunc_Type__iisFormed_1_T r_gContainsFunc_Type__iisFormed_1) (h_gIndexFunc_Type__iisFormed_1 : gIndexFunc_Type__iisFormed_1_T r_gIndexFunc_Type__iisFormed_1) : iisFormed_1_T (iisFormed_1_G fu r_iisFormed r_iisFormed_1 r_gContainsFunc_Type__iisFormed_1 r_gIndexFunc_Type__iisFormed_1) := by
  intro pa r H
  have H := hd0 H
  refine qI Try.func135 (fun C hC => ?_)
  refine qS (qR (q1 (rBx (cType pa)) (q1 rMv (qN (qS (qR (q1 (rLp [pI pa.gKind, pS pa.gName, rType pa.gArgs] sh27) (bdE H fun x2 z1 H => (q1 (rCf Try.func112 (h_iisFormed pa _ z1)) (q1 rNo (q1 rMv (qN (AWP.ret ?_)))))))))))))
  obtain rfl : _ = r := (smI H :)
  exact qe1
def gContainsFunc_Type__iisFormed_1_G (fu : Nat) (r_iisFormed : iisFormed_Y) (r_iisFormed_1 : iisFormed_1_Y) (r_gContainsFunc_Type__iisFormed_1 : gContainsFunc_Type__iisFormed_1_Y) (r_gIndexFunc_Type__iisFormed_1 : gIndexFunc_Type__iisFormed_1_Y) (ps : List GType) : Option Bool :=
 bd (r_gIndexFunc_Type__iisFormed_1 ps) (fun x2 =>
 some (decide ((x2 : Int) ≥ 0)))
theorem gContainsFunc_Type__iisFormed_1_step (fu : Nat) (r_iisFormed : iisFormed_Y) (r_iisFormed_1 : iisFormed_1_Y) (r_gContainsFunc_Type__iisFormed_1 : gContainsFunc_Type__iisFormed_1_Y) (r_gIndexFunc_Type__iisFormed_1 : gIndexFunc_Type__iisFormed_1_Y) (h_iisFormed : iisFormed_T r_iisFormed) (h_iisFormed_1 : iisFormed_1_T r_iisFormed_1) (h_gContainsFunc_Type__iisFormed_1 : gContainsFunc_Type__iisFormed_1_T r_gContainsFunc_Type__iisFormed_1) (h_gIndexFunc_Type__iisFormed_1 : gIndexFunc_Type__iisFormed_1_T r_gIndexFunc_Type__iisFormed_1) : gContainsFunc_Type__iisFormed_1_T (gContainsFunc_Type__iisFormed_1_G fu r_iisFormed r_iisFormed_1 r_gContainsFunc_Type__iisFormed_1 r_gIndexFunc_Type__iisFormed_1) := by
  intro ps r H
  have H := hd0 H
  refine qI Try.func134 (fun C hC => ?_)
  refine qS (qR (q1 rMv (qN (qS (qR ?_)))))
  iterate 2 refine q1 rMv ?_
  refine bdE H fun x2 z1 H => (q1 (rCf Try.func144 (h_gIndexFunc_Type__iisFormed_1 ps _ z1)) (q1 rGe (q1 rMv (qN (AWP.ret ?_)))))
  obtain rfl : _ = r := (smI H :)
  exact qe1
def gIndexFunc_Type__iisFormed_1_F1 (fu : Nat) (r_iisFormed : iisFormed_Y) (r_iisFormed_1 : iisFormed_1_Y) (r_gContainsFunc_Type__iisFormed_1 : gContainsFunc_Type__iisFormed_1_Y) (r_gIndexFunc_Type__iisFormed_1 : gIndexFunc_Type__iisFormed_1_Y) (ps : List GType) : Nat → Unit → Option (LR Unit Int) :=
 fun i1 _ => bd (r_iisFormed_1 (atD ps i1)) (fun x5 =>
 sw (x5)
 (some (.ret ((i1 : Nat) : Int)))
 (some (.next ())))
def gIndexFunc_Type__iisFormed_1_R1 (fu : Nat) (r_iisFormed : iisFormed_Y) (r_iisFormed_1 : iisFormed_1_Y) (r_gContainsFunc_Type__iisFormed_1 : gContainsFunc_Type__iisFormed_1_Y) (r_gIndexFunc_Type__iisFormed_1 : gIndexFunc_Type__iisFormed_1_Y) (ps : List GType) : Option (Int ⊕ Unit) :=
 loopN (gIndexFunc_Type__iisFormed_1_F1 fu r_iisFormed r_iisFormed_1 r_gContainsFunc_Type__iisFormed_1 r_gIndexFunc_Type__iisFormed_1 ps) (ps.length - 0) 0 ()
def gIndexFunc_Type__iisFormed_1_G (fu : Nat) (r_iisFormed : iisFormed_Y) (r_iisFormed_1 : iisFormed_1_Y) (r_gContainsFunc_Type__iisFormed_1 : gContainsFunc_Type__iisFormed_1_Y) (r_gIndexFunc_Type__iisFormed_1 : gIndexFunc_Type__iisFormed_1_Y) (ps : List GType) : Option Int :=
 so (gIndexFunc_Type__iisFormed_1_R1 fu r_iisFormed r_iisFormed_1 r_gContainsFunc_Type__iisFormed_1 r_gIndexFunc_Type__iisFormed_1 ps) (fun _ =>
 some (-1))
theorem gIndexFunc_Type__iisFormed_1_step (fu : Nat) (r_iisFormed : iisFormed_Y) (r_iisFormed_1 : iisFormed_1_Y) (r_gContainsFunc_Type__iisFormed_1 : gContainsFunc_Type__iisFormed_1_Y) (r_gIndexFunc_Type__iisFormed_1 : gIndexFunc_Type__iisFormed_1_Y) (h_iisFormed : iisFormed_T r_iisFormed) (h_iisFormed_1 : iisFormed_1_T r_iisFormed_1) (h_gContainsFunc_Type__iisFormed_1 : gContainsFunc_Type__iisFormed_1_T r_gContainsFunc_Type__iisFormed_1) (h_gIndexFunc_Type__iisFormed_1 : gIndexFunc_Type__iisFormed_1_T r_gIndexFunc_Type__iisFormed_1) : gIndexFunc_Type__iisFormed_1_T (gIndexFunc_Type__iisFormed_1_G fu r_iisFormed r_iisFormed_1 r_gContainsFunc_Type__iisFormed_1 r_gIndexFunc_Type__iisFormed_1) := by
  intro ps r H
  have H := hd0 H
  refine qI Try.func144 (fun C hC => ?_)
  refine qS (qR (q1 rMv (qN ?_)))
  iterate 2 refine qS ?_
  refine qR (q1 rMv (q1 (rLn el25 (GType.trs_len _)) (q1 rMv (qN ?_))))
  refine lenF 0 (GType.trs_len _) (fun hl2 => ?_)
  refine loopB (σ := Unit) (fun i1 _ => ⟨[(0, rType ps), (1, .fn 135 []), (4, pI 0), (7, pN ps.length), (8, pN i1)], ⟨[], []⟩⟩) (fun _ => ⟨[(4, pI 0)], ⟨[], []⟩⟩) (soI H) ?_ ?_
  · rintro i1 ⟨⟩ H
    refine qS (qR (q1 rLt (qN (qS ?_))))
    refine cndL H (fun h3 h3l H => ?_) (fun h3 H => ?_)
    · have h3n := nat_lt_of h3
      refine AWP.skip (qS (AWP.block (qS (qR ?_))))
      iterate 2 refine q1 rMv ?_
      refine qN (qS (qR ?_))
      iterate 3 refine q1 rMv ?_
      refine q1 (rIx h3n el25) (q1 (rKe (GType.cs (atD ps i1)) sh27) (bdE H fun x5 z4 H => (q1 (rCv Try.func135 (h_iisFormed_1 (atD ps i1) _ z4)) (qN ?_))))
      refine cndB H (fun h6 H => ?_) (fun h6 H => ?_)
      · refine qS (qR ?_)
        iterate 2 refine q1 rMv ?_
        refine qN (AWP.ret ?_)
        obtain rfl : _ = r := (lkR (smI H) :)
        exact qe1
      refine AWP.skip (qR (q1 (AOp.addI rfl rfl rfl rfl (c := ((i1 + 1 : Nat) : Int)) (by omega) (by omega)) (q1 rMv (qN ?_))))
      exact lpN h3l ⟨_, (smI H :), wkA⟩
    refine AWP.exit ?_; exact lpX ⟨_, H, wkA⟩
  rintro ⟨⟩ H
  refine qS (qR (q1 rMv (qN (AWP.ret ?_))))
  obtain rfl : _ = r := (smI H :)
  exact qe1
mutual
def iisFormed_M : Nat → GType → Option Bool
  | 0, _ => none
  | fu + 1, pt => iisFormed_G fu (iisFormed_M fu) (iisFormed_1_M fu) (gContainsFunc_Type__iisFormed_1_M fu) (gIndexFunc_Type__iisFormed_1_M fu) pt
def iisFormed_1_M : Nat → GType → Option Bool
  | 0, _ => none
  | fu + 1, pa => iisFormed_1_G fu (iisFormed_M fu) (iisFormed_1_M fu) (gContainsFunc_Type__iisFormed_1_M fu) (gIndexFunc_Type__iisFormed_1_M fu) pa
def gContainsFunc_Type__iisFormed_1_M : Nat → (List GType) → Option Bool
  | 0, _ => none
  | fu + 1, ps => gContainsFunc_Type__iisFormed_1_G fu (iisFormed_M fu) (iisFormed_1_M fu) (gContainsFunc_Type__iisFormed_1_M fu) (gIndexFunc_Type__iisFormed_1_M fu) ps
def gIndexFunc_Type__iisFormed_1_M : Nat → (List GType) → Option Int
  | 0, _ => none
  | fu + 1, ps => gIndexFunc_Type__iisFormed_1_G fu (iisFormed_M fu) (iisFormed_1_M fu) (gContainsFunc_Type__iisFormed_1_M fu) (gIndexFunc_Type__iisFormed_1_M fu) ps
end
theorem iisFormed_all (fu : Nat) : iisFormed_T (iisFormed_M fu) ∧ iisFormed_1_T (iisFormed_1_M fu) ∧ gContainsFunc_Type__iisFormed_1_T (gContainsFunc_Type__iisFormed_1_M fu) ∧ gIndexFunc_Type__iisFormed_1_T (gIndexFunc_Type__iisFormed_1_M fu) := by
  induction fu with
  | zero => exact ⟨(fun pt r H => by simp only [iisFormed_M] at H; cases H), (fun pa r H => by simp only [iisFormed_1_M] at H; cases H), (fun ps r H => by simp only [gContainsFunc_Type__iisFormed_1_M] at H; cases H), (fun ps r H => by simp only [gIndexFunc_Type__iisFormed_1_M] at H; cases H)⟩
  | succ fu ih => exact ⟨(fun pt r H => by simp only [iisFormed_M] at H; exact iisFormed_step fu (iisFormed_M fu) (iisFormed_1_M fu) (gContainsFunc_Type__iisFormed_1_M fu) (gIndexFunc_Type__iisFormed_1_M fu) ih.1 ih.2.1 ih.2.2.1 ih.2.2.2 pt r H), (fun pa r H => by simp only [iisFormed_1_M] at H; exact iisFormed_1_step fu (iisFormed_M fu) (iisFormed_1_M fu) (gContainsFunc_Type__iisFormed_1_M fu) (gIndexFunc_Type__iisFormed_1_M fu) ih.1 ih.2.1 ih.2.2.1 ih.2.2.2 pa r H), (fun ps r H => by simp only [gContainsFunc_Type__iisFormed_1_M] at H; exact gContainsFunc_Type__iisFormed_1_step fu (iisFormed_M fu) (iisFormed_1_M fu) (gContainsFunc_Type__iisFormed_1_M fu) (gIndexFunc_Type__iisFormed_1_M fu) ih.1 ih.2.1 ih.2.2.1 ih.2.2.2 ps r H), (fun ps r H => by simp only [gIndexFunc_Type__iisFormed_1_M] at H; exact gIndexFunc_Type__iisFormed_1_step fu (iisFormed_M fu) (iisFormed_1_M fu) (gContainsFunc_Type__iisFormed_1_M fu) (gIndexFunc_Type__iisFormed_1_M fu) ih.1 ih.2.1 ih.2.2.1 ih.2.2.2 ps r H)⟩
theorem iisFormed_ok (fu : Nat) : iisFormed_T (iisFormed_M fu) := (iisFormed_all fu).1
abbrev iTypeDepth_Y := GType → Option Int
def iTypeDepth_T (m : iTypeDepth_Y) : Prop := ∀ (pt : GType) (r : Int), m pt = some r → AFun Try.prog 113 [(GType.pv pt)] (pI r : PV)
def iTypeDepth_F1 (fu : Nat) (r_iTypeDepth : iTypeDepth_Y) (pt : GType) : Nat → Int → Option (LR Int Int) :=
 fun i1 v2 => bd (r_iTypeDepth (atD pt.gArgs i1)) (fun x6 =>
 some (.next (max v2 (wrap64 (x6 + 1)))))
def iTypeDepth_R1 (fu : Nat) (r_iTypeDepth : iTypeDepth_Y) (pt : GType) : Option (Int ⊕ Int) :=
 loopN (iTypeDepth_F1 fu r_iTypeDepth pt) (pt.gArgs.length - 0) 0 0
def iTypeDepth_G (fu : Nat) (r_iTypeDepth : iTypeDepth_Y) (pt : GType) : Option Int :=
 so (iTypeDepth_R1 fu r_iTypeDepth pt) (fun v2 =>
 some v2)
theorem iTypeDepth_step (fu : Nat) (r_iTypeDepth : iTypeDepth_Y) (h_iTypeDepth : iTypeDepth_T r_iTypeDepth) : iTypeDepth_T (iTypeDepth_G fu r_iTypeDepth) := by
  intro pt r H
  have H := hd0 H
  refine qI Try.func113 (fun C hC => ?_)
  refine qS (qR (q1 (rBx (cType pt)) (q1 rMv (qN (qS (qR (q1 rMv (qN ?_))))))))
  iterate 2 refine qS ?_
  refine qR (q1 (rFp fo27_2) (q1 (rL1 sh25) (q1 (rLn el25 (GType.trs_len _)) (q1 rMv (qN ?_)))))
  refine lenF 7 (GType.trs_len _) (fun hl3 => ?_)
  refine loopB (σ := Int) (fun i1 v2 => ⟨[(2, pI 0), (3, pI v2), (7, rType pt.gArgs), (8, pN pt.gArgs.length), (9, pN i1)], ⟨[some ⟨27, cType pt⟩], []⟩⟩) (fun v2 => ⟨[(2, pI 0), (3, pI v2)], ⟨[some ⟨27, cType pt⟩], []⟩⟩) (soI H) ?_ ?_
  · rintro i1 v2 H
    refine qS (qR (q1 rLt (qN (qS ?_))))
    refine cndL H (fun h4 h4l H => ?_) (fun h4 H => ?_)
    · have h4n := nat_lt_of h4
      refine AWP.skip (qS (AWP.block (qS (qR (q1 (rIx h4n el25) (q1 (rKe (GType.cs (atD pt.gArgs i1)) sh27) (q1 (rAl zr27) (q1 (rSu sz27) (qN (qR (q1 rMv (q1 (rLp [pI ((atD pt.gArgs i1).gKind), pS ((atD pt.gArgs i1).gName), rType ((atD pt.gArgs i1).gArgs)] sh27) (bdE H fun x6 z5 H => ?_)))))))))))))
      refine q1 (rCf Try.func113 (h_iTypeDepth (atD pt.gArgs i1) _ z5)) (q1 rAw (q1 (AOp.maxI rfl rfl rfl rfl) (q1 rMv (qN (qR (q1 (AOp.addI rfl rfl rfl rfl (c := ((i1 + 1 : Nat) : Int)) (by omega) (by omega)) (q1 rMv (qN ?_))))))))
      exact lpN h4l ⟨_, (smI H :), wkA⟩
    refine AWP.exit ?_; exact lpX ⟨_, H, wkA⟩
  rintro v2 H
  refine qS (qR ?_)
  iterate 2 refine q1 rMv ?_
  refine qN (AWP.ret ?_)
  obtain rfl : _ = r := (smI H :)
  exact qe1
def iTypeDepth_M : Nat → GType → Option Int
  | 0, _ => none
  | fu + 1, pt => iTypeDepth_G fu (iTypeDepth_M fu) pt
theorem iTypeDepth_all (fu : Nat) : iTypeDepth_T (iTypeDepth_M fu) := by
  induction fu with
  | zero => exact (fun pt r H => by simp only [iTypeDepth_M] at H; cases H)
  | succ fu ih => exact (fun pt r H => by simp only [iTypeDepth_M] at H; exact iTypeDepth_step fu (iTypeDepth_M fu) ih pt r H)
theorem iTypeDepth_ok (fu : Nat) : iTypeDepth_T (iTypeDepth_M fu) := (iTypeDepth_all fu)

abbrev iTypeSize_Y := GType → Option Int
def iTypeSize_T (m : iTypeSize_Y) : Prop := ∀ (pt : GType) (r : Int), m pt = some r → AFun Try.prog 12 [(GType.pv pt)] (pI r : PV)
def iTypeSize_F1 (fu : Nat) (r_iTypeSize : iTypeSize_Y) (pt : GType) : Nat → Int → Option (LR Int Int) :=
 fun i1 v2 => bd (r_iTypeSize (atD pt.gArgs i1)) (fun x6 =>
 some (.next (wrap64 (v2 + x6))))
def iTypeSize_R1 (fu : Nat) (r_iTypeSize : iTypeSize_Y) (pt : GType) : Option (Int ⊕ Int) :=
 loopN (iTypeSize_F1 fu r_iTypeSize pt) (pt.gArgs.length - 0) 0 1
def iTypeSize_G (fu : Nat) (r_iTypeSize : iTypeSize_Y) (pt : GType) : Option Int :=
 so (iTypeSize_R1 fu r_iTypeSize pt) (fun v2 =>
 some v2)
theorem iTypeSize_step (fu : Nat) (r_iTypeSize : iTypeSize_Y) (h_iTypeSize : iTypeSize_T r_iTypeSize) : iTypeSize_T (iTypeSize_G fu r_iTypeSize) := by
  intro pt r H
  have H := hd0 H
  refine qI Try.func12 (fun C hC => ?_)
  refine qS (qR (q1 (rBx (cType pt)) (q1 rMv (qN (qS (qR (q1 rMv (qN ?_))))))))
  iterate 2 refine qS ?_
  refine qR (q1 (rFp fo27_2) (q1 (rL1 sh25) (q1 (rLn el25 (GType.trs_len _)) (q1 rMv (qN ?_)))))
  refine lenF 7 (GType.trs_len _) (fun hl3 => ?_)
  refine loopB (σ := Int) (fun i1 v2 => ⟨[(2, pI 0), (3, pI v2), (7, rType pt.gArgs), (8, pN pt.gArgs.length), (9, pN i1)], ⟨[some ⟨27, cType pt⟩], []⟩⟩) (fun v2 => ⟨[(2, pI 0), (3, pI v2)], ⟨[some ⟨27, cType pt⟩], []⟩⟩) (soI H) ?_ ?_
  · rintro i1 v2 H
    refine qS (qR (q1 rLt (qN (qS ?_))))
    refine cndL H (fun h4 h4l H => ?_) (fun h4 H => ?_)
    · have h4n := nat_lt_of h4
      refine AWP.skip (qS (AWP.block (qS (qR (q1 (rIx h4n el25) (q1 (rKe (GType.cs (atD pt.gArgs i1)) sh27) (q1 (rAl zr27) (q1 (rSu sz27) (qN (qR (q1 rMv (q1 (rLp [pI ((atD pt.gArgs i1).gKind), pS ((atD pt.gArgs i1).gName), rType ((atD pt.gArgs i1).gArgs)] sh27) (bdE H fun x6 z5 H => ?_)))))))))))))
      refine q1 (rCf Try.func12 (h_iTypeSize (atD pt.gArgs i1) _ z5)) (q1 rAw (q1 rMv (qN (qR (q1 (AOp.addI rfl rfl rfl rfl (c := ((i1 + 1 : Nat) : Int)) (by omega) (by omega)) (q1 rMv (qN ?_)))))))
      exact lpN h4l ⟨_, (smI H :), wkA⟩
    refine AWP.exit ?_; exact lpX ⟨_, H, wkA⟩
  rintro v2 H
  refine qS (qR ?_)
  iterate 2 refine q1 rMv ?_
  refine qN (AWP.ret ?_)
  obtain rfl : _ = r := (smI H :)
  exact qe1
def iTypeSize_M : Nat → GType → Option Int
  | 0, _ => none
  | fu + 1, pt => iTypeSize_G fu (iTypeSize_M fu) pt
theorem iTypeSize_all (fu : Nat) : iTypeSize_T (iTypeSize_M fu) := by
  induction fu with
  | zero => exact (fun pt r H => by simp only [iTypeSize_M] at H; cases H)
  | succ fu ih => exact (fun pt r H => by simp only [iTypeSize_M] at H; exact iTypeSize_step fu (iTypeSize_M fu) ih pt r H)
theorem iTypeSize_ok (fu : Nat) : iTypeSize_T (iTypeSize_M fu) := (iTypeSize_all fu)

def iIsValidType_T (m : GType → Option Bool) : Prop := ∀ (pt : GType) (r : Bool), m pt = some r → AFun Try.prog 75 [(GType.pv pt)] (pB r : PV)
def iIsValidType_M (fu : Nat) (pt : GType) : Option Bool :=
 bd (iisFormed_M fu pt) (fun x2 =>
 sw (x2)
 (bd (iTypeDepth_M fu pt) (fun x5 =>
 sw (decide ((x5 : Int) ≤ 6))
 (bd (iTypeSize_M fu pt) (fun x8 =>
 some (decide ((x8 : Int) ≤ 60))))
 (some false)))
 (some false))
theorem iIsValidType_ok (fu : Nat)   : iIsValidType_T (iIsValidType_M fu) := by
  intro pt r H
  have H := hd0 H
  refine qI Try.func75 (fun C hC => ?_)
  refine qS (qR (q1 (rBx (cType pt)) (q1 rMv (qN (qS (qR (q1 (rLp [pI pt.gKind, pS pt.gName, rType pt.gArgs] sh27) (bdE H fun x2 z1 H => (q1 (rCf Try.func112 (iisFormed_ok fu pt _ z1)) (q1 rMv ?_))))))))))
  refine spB 5 H (fun g3 H => ?_) fun g3 H => ?_
  · refine qg g3 (rLp [pI pt.gKind, pS pt.gName, rType pt.gArgs] sh27) (bdE H fun x5 z4 H => (qg g3 (rCf Try.func113 (iTypeDepth_ok fu pt _ z4)) (qg g3 rLe (q1 (rPt g3) (q1 rMv ?_)))))
    refine spB 10 H (fun g6 H => ?_) fun g6 H => ?_
    · refine qg g6 (rLp [pI pt.gKind, pS pt.gName, rType pt.gArgs] sh27) (bdE H fun x8 z7 H => (qg g6 (rCf Try.func12 (iTypeSize_ok fu pt _ z7)) (qg g6 rLe (q1 (rPt g6) (q1 rMv (qN (AWP.ret ?_)))))))
      obtain rfl : _ = r := (smI H :)
      exact qe1
    iterate 3 refine qk g6 ?_
    refine q1 (rPf g6) (q1 rMv (qN (AWP.ret ?_)))
    obtain rfl : _ = r := (smI H :)
    exact qe1
  iterate 3 refine qk g3 ?_
  refine q1 (rPf g3) (q1 rMv ?_)
  iterate 3 refine qk rfl ?_
  refine q1 (rPf rfl) (q1 rMv (qN (AWP.ret ?_)))
  obtain rfl : _ = r := (smI H :)
  exact qe1

def iIsValidBound_T (m : GBound → Option Bool) : Prop := ∀ (pb : GBound) (r : Bool), m pb = some r → AFun Try.prog 37 [(GBound.pv pb)] (pB r : PV)
def iIsValidBound_M (fu : Nat) (pb : GBound) : Option Bool :=
 bd (iIsValidName_M fu pb.gTrait) (fun x2 =>
 sw (x2)
 (bd (iIsValidType_M fu pb.gType) (fun x5 =>
 some x5))
 (some false))
theorem iIsValidBound_ok (fu : Nat)   : iIsValidBound_T (iIsValidBound_M fu) := by
  intro pb r H
  have H := hd0 H
  refine qI Try.func37 (fun C hC => ?_)
  refine qS (qR (q1 (rBx (cBound pb)) (q1 rMv (qN (qS (qR (q1 (rFp fo41_0) (q1 (rL1 sh9) (bdE H fun x2 z1 H => (q1 (rCf Try.func74 (iIsValidName_ok fu pb.gTrait _ z1)) (q1 rMv ?_)))))))))))
  refine spB 6 H (fun g3 H => ?_) fun g3 H => ?_
  · refine qg g3 (rFp fo41_1) (qg g3 (rLp [pI pb.gType.gKind, pS pb.gType.gName, rType pb.gType.gArgs] sh27) (bdE H fun x5 z4 H => (qg g3 (rCf Try.func75 (iIsValidType_ok fu pb.gType _ z4)) (q1 (rPt g3) (q1 rMv (qN (AWP.ret ?_)))))))
    obtain rfl : _ = r := (smI H :)
    exact qe1
  iterate 3 refine qk g3 ?_
  refine q1 (rPf g3) (q1 rMv (qN (AWP.ret ?_)))
  obtain rfl : _ = r := (smI H :)
  exact qe1

def iatom_T (m : ByteArray → Option GSExpr) : Prop := ∀ (ps : ByteArray) (r : GSExpr), m ps = some r → AFun Try.prog 40 [pS ps] ((GSExpr.pv r) : PV)
def iatom_M (fu : Nat) (ps : ByteArray) : Option GSExpr :=
 some (GSExpr.mk ps [])
theorem iatom_ok (fu : Nat)   : iatom_T (iatom_M fu) := by
  intro ps r H
  have H := hd0 H
  refine qI Try.func40 (fun C hC => ?_)
  refine qS (qR (q1 (rAl zr73) (qN (qS (qR (q1 rMv (q1 (rBd zr73 pl73) (q1 (rSu sz73) (qN (AWP.ret ?_))))))))))
  obtain rfl : _ = r := (smI H :)
  exact qe1 (hr := ⟨⟨_, _, _, rfl, rfl, sh73, rfl, rfl⟩, trivial⟩)

def ilist_T (m : (List GSExpr) → Option GSExpr) : Prop := ∀ (pelements : List GSExpr) (r : GSExpr), m pelements = some r → AFun Try.prog 39 [rSExpr pelements] ((GSExpr.pv r) : PV)
def ilist_M (fu : Nat) (pelements : List GSExpr) : Option GSExpr :=
 some (GSExpr.mk s_ pelements)
theorem ilist_ok (fu : Nat)   : ilist_T (ilist_M fu) := by
  intro pelements r H
  have H := hd0 H
  refine qI Try.func39 (fun C hC => ?_)
  refine qS (qR (q1 (rAl zr73) (qN (qS (qR (q1 rMv (q1 (rBd zr73 pl73) (q1 (rSu sz73) (qN (AWP.ret ?_))))))))))
  obtain rfl : _ = r := (smI H :)
  exact qe1 (hr := ⟨⟨_, _, _, rfl, rfl, sh73, rfl, rfl⟩, trivial⟩)

abbrev iencodeType_Y := GType → Option GSExpr
abbrev iencodeTypes_Y := (List GType) → Option ((List GSExpr))
def iencodeType_T (m : iencodeType_Y) : Prop := ∀ (pt : GType) (r : GSExpr), m pt = some r → AFun Try.prog 41 [(GType.pv pt)] ((GSExpr.pv r) : PV)
def iencodeTypes_T (m : iencodeTypes_Y) : Prop := ∀ (pl : List GType) (r : (List GSExpr)), m pl = some r → AFun Try.prog 79 [rType pl] (rSExpr r : PV)
def iencodeType_G (fu : Nat) (r_iencodeType : iencodeType_Y) (r_iencodeTypes : iencodeTypes_Y) (pt : GType) : Option GSExpr :=
 sw (decide ((pt.gKind : Int) = 1))
 (gd ((x_27).size + (pt.gName).size ≤ 1099511627776)
 (bd (iatom_M fu (x_27 ++ pt.gName)) (fun x4 =>
 some x4)))
 (sw (decide ((pt.gKind : Int) = 4))
 (bd (iatom_M fu s_dyn) (fun x7 =>
 bd (iatom_M fu pt.gName) (fun x9 =>
 bd (ilist_M fu ([x7, x9] : List GSExpr)) (fun x11 =>
 some x11))))
 (sw (decide ((pt.gKind : Int) = 3))
 (bd (iatom_M fu s_assoc) (fun x14 =>
 bd (iatom_M fu pt.gName) (fun x16 =>
 gd (0 < (pt.gArgs).length)
 (bd (r_iencodeType (atD pt.gArgs 0)) (fun x19 =>
 bd (ilist_M fu ([x14, x16, x19] : List GSExpr)) (fun x21 =>
 some x21))))))
 (sw (decide ((((pt.gArgs.length : Nat) : Int) : Int) = 0))
 (bd (iatom_M fu pt.gName) (fun x24 =>
 some x24))
 (bd (iatom_M fu pt.gName) (fun x26 =>
 bd (r_iencodeTypes pt.gArgs) (fun x28 =>
 gd ((([x26] : List GSExpr)).length + (x28).length ≤ 68719476736)
 (bd (ilist_M fu (([x26] : List GSExpr) ++ x28)) (fun x31 =>
 some x31))))))))
theorem iencodeType_step (fu : Nat) (r_iencodeType : iencodeType_Y) (r_iencodeTypes : iencodeTypes_Y) (h_iencodeType : iencodeType_T r_iencodeType) (h_iencodeTypes : iencodeTypes_T r_iencodeTypes) : iencodeType_T (iencodeType_G fu r_iencodeType r_iencodeTypes) := by
  intro pt r H
  have H := hd0 H
  refine qI Try.func41 (fun C hC => ?_)
  refine qS (qR (q1 (rBx (cType pt)) (q1 (rAl zr73) (qN ?_))))
  iterate 2 refine qS ?_
  refine qR (q1 (rFp fo27_0) (q1 (rL1 sh3) (qN (AWP.block (qS (qR (q1 rEq (q1 rMv (qN ?_)))))))))
  refine cndB H (fun h1 H => ?_) (fun h1 H => ?_)
  · refine qS (qR (q1 (rFp fo27_1) (q1 (rL1 sh9) (gdE H fun z2 H => (q1 (AOp.addS rfl rfl rfl rfl (Nat.le_trans z2 (by decide))) (bdE H fun x4 z3 H => (q1 (rCf Try.func40 (iatom_ok fu (x_27 ++ pt.gName) _ z3)) (q1 (rSu sz73) (qN (AWP.ret ?_))))))))))
    obtain rfl : _ = r := (smI H :)
    exact qe1 (hr := ⟨⟨_, _, _, rfl, rfl, sh73, rfl, rfl⟩, trivial⟩)
  refine qS (qR (q1 rEq (q1 rMv (qN ?_))))
  refine cndB H (fun h5 H => ?_) (fun h5 H => ?_)
  · refine qS (bdE H fun x7 z6 H => (bdE H fun x9 z8 H => (bdE H fun x11 z10 H => (dW (dI [] (rCf Try.func40 (iatom_ok fu s_dyn _ z6)) (dI [1] (rFp fo27_1) (dD [14] (rL1 sh9) (dI [15] (rCf Try.func40 (iatom_ok fu pt.gName _ z8)) (dI [13, 16] (rBs ([x7, x9] : List GSExpr) el71 zr73) (dI [17] (rCf Try.func39 (ilist_ok fu ([x7, x9] : List GSExpr) _ z10)) (dE0 [2, 18] (rSu sz73) (dN (AWP.ret ?_)))))))))))))
    obtain rfl : _ = r := (smI H :)
    exact qe1 (hr := ⟨⟨_, _, _, rfl, rfl, sh73, rfl, rfl⟩, trivial⟩)
  refine qS (qR (q1 rEq (q1 rMv (qN ?_))))
  refine cndB H (fun h12 H => ?_) (fun h12 H => ?_)
  · refine qS (bdE H fun x14 z13 H => (bdE H fun x16 z15 H => (gdE H fun z17 H => (bdE H fun x19 z18 H => (bdE H fun x21 z20 H => (dW (dI [] (rCf Try.func40 (iatom_ok fu s_assoc _ z13)) (dI [1] (rFp fo27_1) (dD [22] (rL1 sh9) (dI [23] (rCf Try.func40 (iatom_ok fu pt.gName _ z15)) (dI [1] (rFp fo27_2) (dD [25] (rL1 sh25) (dI [26] (rIx z17 el25) ?_)))))))))))))
    refine dI [27] (rKe (GType.cs (atD pt.gArgs 0)) sh27) (dI [28] (rCf Try.func41 (h_iencodeType (atD pt.gArgs 0) _ z18)) (dI [21, 24, 29] (rBs ([x14, x16, x19] : List GSExpr) el71 zr73) (dI [30] (rCf Try.func39 (ilist_ok fu ([x14, x16, x19] : List GSExpr) _ z20)) (dE0 [2, 31] (rSu sz73) (dN (AWP.ret ?_))))))
    obtain rfl : _ = r := (smI H :)
    exact qe1 (hr := ⟨⟨_, _, _, rfl, rfl, sh73, rfl, rfl⟩, trivial⟩)
  refine AWP.skip ?_
  iterate 2 refine qS ?_
  refine qR (q1 (rFp fo27_2) (q1 (rL1 sh25) (q1 (rLn el25 (GType.trs_len _)) (q1 rEq (qN ?_)))))
  refine cndB H (fun h22 H => ?_) (fun h22 H => ?_)
  · refine qS (qR (q1 (rFp fo27_1) (q1 (rL1 sh9) (bdE H fun x24 z23 H => (q1 (rCf Try.func40 (iatom_ok fu pt.gName _ z23)) (q1 (rSu sz73) (qN (AWP.ret ?_))))))))
    obtain rfl : _ = r := (smI H :)
    exact qe1 (hr := ⟨⟨_, _, _, rfl, rfl, sh73, rfl, rfl⟩, trivial⟩)
  refine AWP.skip (qS (bdE H fun x26 z25 H => (bdE H fun x28 z27 H => (gdE H fun z29 H => (bdE H fun x31 z30 H => (dW (dI [1] (rFp fo27_1) (dD [39] (rL1 sh9) (dI [40] (rCf Try.func40 (iatom_ok fu pt.gName _ z25)) (dE [41] (rBa ([x26] : List GSExpr) el71 zr73) (dI [1] (rFp fo27_2) (dB [43] 0 1 (vL1 sh25) (dI [44] (rCf Try.func79 (h_iencodeTypes pt.gArgs _ z27)) ?_)))))))))))))
  refine dE [42, 45] (rAp z29 el71 ze71) (dI [46] (rCf Try.func39 (ilist_ok fu (([x26] : List GSExpr) ++ x28) _ z30)) (dE0 [2, 47] (rSu sz73) (dN (AWP.ret ?_))))
  obtain rfl : _ = r := (smI H :)
  exact qe1 (hr := ⟨⟨_, _, _, rfl, rfl, sh73, rfl, rfl⟩, trivial⟩)
def iencodeTypes_F1 (fu : Nat) (r_iencodeType : iencodeType_Y) (r_iencodeTypes : iencodeTypes_Y) (pl : List GType) : Nat → ((List GSExpr)) → Option (LR ((List GSExpr)) ((List GSExpr))) :=
 fun i1 v3 => bd (r_iencodeType (atD pl i1)) (fun x7 =>
 gd ((v3).length + (([x7] : List GSExpr)).length ≤ 68719476736)
 (some (.next (v3 ++ ([x7] : List GSExpr)))))
def iencodeTypes_R1 (fu : Nat) (r_iencodeType : iencodeType_Y) (r_iencodeTypes : iencodeTypes_Y) (pl : List GType) : Option (((List GSExpr)) ⊕ ((List GSExpr))) :=
 loopN (iencodeTypes_F1 fu r_iencodeType r_iencodeTypes pl) (pl.length - 0) 0 ([])
def iencodeTypes_G (fu : Nat) (r_iencodeType : iencodeType_Y) (r_iencodeTypes : iencodeTypes_Y) (pl : List GType) : Option ((List GSExpr)) :=
 so (iencodeTypes_R1 fu r_iencodeType r_iencodeTypes pl) (fun v3 =>
 some v3)
theorem iencodeTypes_step (fu : Nat) (r_iencodeType : iencodeType_Y) (r_iencodeTypes : iencodeTypes_Y) (h_iencodeType : iencodeType_T r_iencodeType) (h_iencodeTypes : iencodeTypes_T r_iencodeTypes) : iencodeTypes_T (iencodeTypes_G fu r_iencodeType r_iencodeTypes) := by
  intro pl r H
  have H := hd0 H
  refine qI Try.func79 (fun C hC => ?_)
  refine qS (qR (q1 rMv (qN (qS (qR (q1 (rBa ([] : List GSExpr) el71 zr73) (q1 rMv (qN ?_))))))))
  iterate 2 refine qS ?_
  refine qR (q1 rMv (q1 (rLn el25 (GType.trs_len _)) (q1 rMv (qN ?_))))
  refine lenF 0 (GType.trs_len _) (fun hl4 => ?_)
  refine loopB (σ := (List GSExpr)) (fun i1 v3 => ⟨[(2, .nil), (3, aSExpr v3 0), (7, rType pl), (8, pN pl.length), (9, pN i1)], ⟨[], [⟨73, 2, GSExpr.trs (v3), false⟩]⟩⟩) (fun v3 => ⟨[(2, .nil), (3, aSExpr v3 0)], ⟨[], [⟨73, 2, GSExpr.trs (v3), false⟩]⟩⟩) (soI H) ?_ ?_
  · rintro i1 v3 H
    refine qS (qR (q1 rLt (qN (qS ?_))))
    refine cndL H (fun h5 h5l H => ?_) (fun h5 H => ?_)
    · have h5n := nat_lt_of h5
      refine AWP.skip (qS (AWP.block (qS (qR (q1 (rIx h5n el25) (q1 (rKe (GType.cs (atD pl i1)) sh27) (q1 (rAl zr27) (q1 (rSu sz27) (qN (qR (q1 rMv (q1 (rLp [pI ((atD pl i1).gKind), pS ((atD pl i1).gName), rType ((atD pl i1).gArgs)] sh27) (bdE H fun x7 z6 H => ?_)))))))))))))
      refine q1 (rCf Try.func41 (h_iencodeType (atD pl i1) _ z6)) (q1 (rBs ([x7] : List GSExpr) el71 zr73) (gdE H fun z8 H => (q1 (rAp z8 el71 ze71) (q1 rMv (qN (qR (q1 (AOp.addI rfl rfl rfl rfl (c := ((i1 + 1 : Nat) : Int)) (by omega) (by omega)) (q1 rMv (qN ?_)))))))))
      exact lpN h5l ⟨_, (smI H :), wkA⟩
    refine AWP.exit ?_; exact lpX ⟨_, H, wkA⟩
  rintro v3 H
  refine qS (qR ?_)
  iterate 2 refine q1 rMv ?_
  refine qN (AWP.ret ?_)
  obtain rfl : _ = r := (smI H :)
  exact qe1
mutual
def iencodeType_M : Nat → GType → Option GSExpr
  | 0, _ => none
  | fu + 1, pt => iencodeType_G fu (iencodeType_M fu) (iencodeTypes_M fu) pt
def iencodeTypes_M : Nat → (List GType) → Option ((List GSExpr))
  | 0, _ => none
  | fu + 1, pl => iencodeTypes_G fu (iencodeType_M fu) (iencodeTypes_M fu) pl
end
theorem iencodeType_all (fu : Nat) : iencodeType_T (iencodeType_M fu) ∧ iencodeTypes_T (iencodeTypes_M fu) := by
  induction fu with
  | zero => exact ⟨(fun pt r H => by simp only [iencodeType_M] at H; cases H), (fun pl r H => by simp only [iencodeTypes_M] at H; cases H)⟩
  | succ fu ih => exact ⟨(fun pt r H => by simp only [iencodeType_M] at H; exact iencodeType_step fu (iencodeType_M fu) (iencodeTypes_M fu) ih.1 ih.2 pt r H), (fun pl r H => by simp only [iencodeTypes_M] at H; exact iencodeTypes_step fu (iencodeType_M fu) (iencodeTypes_M fu) ih.1 ih.2 pl r H)⟩
theorem iencodeType_ok (fu : Nat) : iencodeType_T (iencodeType_M fu) := (iencodeType_all fu).1
def iFormatGoal_T (m : GBound → Option ByteArray) : Prop := ∀ (pb : GBound) (r : ByteArray), m pb = some r → AFun Try.prog 17 [(GBound.pv pb)] (pS r : PV)
def iFormatGoal_M (fu : Nat) (pb : GBound) : Option ByteArray :=
 bd (iIsValidBound_M fu pb) (fun x2 =>
 sw (!(x2))
 (some s_)
 (bd (iatom_M fu pb.gTrait) (fun x5 =>
 bd (iencodeType_M fu pb.gType) (fun x7 =>
 bd (ilist_M fu ([x5, x7] : List GSExpr)) (fun x9 =>
 bd (iFormatSExpr_M fu x9) (fun x11 =>
 some x11))))))
theorem iFormatGoal_ok (fu : Nat)   : iFormatGoal_T (iFormatGoal_M fu) := by
  intro pb r H
  have H := hd0 H
  refine qI Try.func17 (fun C hC => ?_)
  refine qS (qR (q1 (rBx (cBound pb)) (q1 rMv (qN ?_))))
  iterate 2 refine qS ?_
  refine qR (q1 (rLp [pS pb.gTrait, pI pb.gType.gKind, pS pb.gType.gName, rType pb.gType.gArgs] sh41) (bdE H fun x2 z1 H => (q1 (rCf Try.func37 (iIsValidBound_ok fu pb _ z1)) (q1 rNo (qN ?_)))))
  refine cndB H (fun h3 H => ?_) (fun h3 H => ?_)
  · refine qS (qR (q1 rMv (qN (AWP.ret ?_))))
    obtain rfl : _ = r := (smI H :)
    exact qe1
  refine AWP.skip (qS (bdE H fun x5 z4 H => (bdE H fun x7 z6 H => (bdE H fun x9 z8 H => (bdE H fun x11 z10 H => (dW (dI [1] (rFp fo41_0) (dD [6] (rL1 sh9) (dI [7] (rCf Try.func40 (iatom_ok fu pb.gTrait _ z4)) (dI [1] (rFp fo41_1) (dD [9] (rLp [pI pb.gType.gKind, pS pb.gType.gName, rType pb.gType.gArgs] sh27) (dI [10] (rCf Try.func41 (iencodeType_ok fu pb.gType _ z6)) (dI [8, 11] (rBs ([x5, x7] : List GSExpr) el71 zr73) ?_)))))))))))))
  refine dI [12] (rCf Try.func39 (ilist_ok fu ([x5, x7] : List GSExpr) _ z8)) (dI [13] (rCf Try.func38 (iFormatSExpr_ok fu x9 _ z10)) (dI [14] rMv (dN (AWP.ret ?_))))
  obtain rfl : _ = r := (smI H :)
  exact qe1

end
end Go.Proofs.Ytmpepccpnnldoaa

namespace Go.Proofs.Ytmpepccpnnldoaa
set_option linter.unusedSimpArgs false
set_option linter.unusedVariables false
open Go.RowKit Go.WalkArith Go.IntWalk Go.WideShapes

def bytesStr (l : List UInt8) : ByteArray := ⟨l.toArray⟩
theorem bytesStr_size (l : List UInt8) : (bytesStr l).size = l.length := by simp [bytesStr, ByteArray.size]
theorem bytesStr_nums (l : List UInt8) : strOfNums (l.map fun b => (b.toNat : Int)) = bytesStr l := by
  unfold strOfNums bytesStr
  congr 2
  rw [List.map_map]
  conv => rhs; rw [← List.map_id l]
  apply List.map_congr_left
  intro b _
  simp
theorem byteTrs_append (a b : List UInt8) : byteTrs a ++ byteTrs b = byteTrs (a ++ b) := by simp [byteTrs]
theorem byteTrs_all (l : List UInt8) : ∀ e ∈ byteTrs l, e.length = 1 := fun e he => by
  unfold byteTrs at he
  obtain ⟨x, _, rfl⟩ := List.mem_map.1 he
  rfl

section
variable {P : Program} {C : Ctx} {n : Nat} {s : AS} {o : Oper}
theorem AOp.bytesStr {S T e : TypeId} {x : Operand} {p : PV} {l : List UInt8} (ho : o.op = .convert S T x) (hd : dstOk o.dst n = true) (hx : s.ev x = some p) (hp : rowOf p = some (1, byteTrs l)) (hS : P.underlying S = some (.slice e)) (he : P.underlying e = some (.int .u8)) (hT : P.underlying T = some .string) :
    AOp P C n o s (s.putO o.dst (.t (.leaf (.string (bytesStr l))))) :=
  AOp.quiet (dstOk_lt hd) fun m ac w h => by
    have h1 := rowOf_rv hp (h.eval hx)
    obtain ⟨a0, cap0, hv0, hl0, hm0⟩ := h1.shape
    rw [byteTrs_len] at hl0
    have hsz : LeafOk (.string (Go.Proofs.Ytmpepccpnnldoaa.bytesStr l)) := by show (Go.Proofs.Ytmpepccpnnldoaa.bytesStr l).size ≤ maxLen; rw [bytesStr_size]; omega
    refine ⟨.string (Go.Proofs.Ytmpepccpnnldoaa.bytesStr l), ?_, RepM.leaf hsz⟩
    generalize hv : ac.eval x = v at *
    cases h1 with
    | row c q1 q2 q3 q4 =>
      have keyAll : ∀ (a : Option Addr) (cap : Nat) (q3 : byteTrs l ≠ [] → ∃ b off, a = some ⟨b, off, none⟩ ∧ b < w.heap.size ∧ ∀ (i : Nat) (e : List Tr), (byteTrs l)[i]? = some e → ∀ (j : Nat) (d : Tr), e[j]? = some d → okA C.av s.st m b (off + i * 1 + j) ∧ w.cell? ⟨b, off + i * 1 + j, none⟩ = some (c i j)), (convert S T (.slice a (byteTrs l).length cap)).run P w = .ok (.string (Go.Proofs.Ytmpepccpnnldoaa.bytesStr l)) w := fun a cap q3 => by
        by_cases hne : l = []
        · subst hne
          have hlen : (byteTrs []).length = 0 := rfl
          rw [hlen]
          cases a with
          | none => exact run_convert_bytes_nil (P := P) w S e hS he 0 cap T hT
          | some a =>
            obtain ⟨b, off, sp⟩ := a
            have hld : (loadCells ⟨b, off, sp⟩ 0).run P w = .ok (([] : List Int).map (Value.int .u8)).toArray w := by simp [loadCells, loadCellsFrom]
            rw [run_convert_bytes_string w S T e _ 0 cap hS he hT, run_bytesToString w _ 0 cap [] hld]
            rfl
        · obtain ⟨b, off, ha, hb, hc⟩ := q3 (by intro h0; apply hne; have := congrArg List.length h0; rw [byteTrs_len] at this; exact List.eq_nil_of_length_eq_zero this)
          subst ha
          have := run_convert_bytes_arg (P := P) w S e hS he b off (byteTrs l).length cap (l.map fun b => (b.toNat : Int)) (by simp [byteTrs_len]) (fun i hi => by
            rw [byteTrs_len] at hi
            have h4 := (hc i _ (byteTrs_cs hi) 0 (.leaf (.int .u8 ((l[i]).toNat : Int))) rfl).2
            have h5 := (q4 i _ (byteTrs_cs hi) 0 (.leaf (.int .u8 ((l[i]).toNat : Int))) rfl).rep.leaf_eq.1
            rw [Nat.mul_one, Nat.add_zero] at h4
            rw [h4, h5]
            simp [hi]) T hT
          rw [bytesStr_nums] at this
          exact this
      unfold execOp
      simp only [ho, hv]
      rw [Sem.run_bind, keyAll _ _ q3]
      rfl
end
end Go.Proofs.Ytmpepccpnnldoaa

namespace Go.Proofs.Ytmpepccpnnldoaa
set_option linter.unusedSimpArgs false
set_option linter.unusedVariables false
open Go.RowKit Go.WalkArith Go.IntWalk Go.WideShapes
section
variable {P : Program} {C : Ctx} {n : Nat} {s : AS} {o : Oper}
/-- What appending a string does at one state. -/
theorem appendStr_at {T U E by_ : Nat} {x y : Operand} {l : List UInt8} {es : List (List Tr)} {r : Nat} {row : PRow} {m : Lay} {a : Act} {w : World} {v : ByteArray} (ho : o.op = .call { callee := .builtin .append, args := #[x, y], argTypes := #[T, U] })
    (h : RA C n s m a w) (hx' : RV (okA C.av s.st m) s.st m w (.acc 1 es r) (a.eval x)) (hrow : s.st.rows[r]? = some row) (hes : row.es = es) (hE : row.E = E) (hw : row.whole = false) (hy : s.ev y = some (.t (.leaf (.string v)))) (hl : v.data.toList = l)
    (hT : elemOf? P T = some (E, 1, by_)) (hU : P.underlying U = some .string) (hz : (P.info? E).bind (fun i => i.zero.map (fun z => z.cells.size)) = some 1) (hb : 0 < by_) (hlen : (es.length + l.length) * by_ ≤ 140737488355328) :
    ∃ v m1 w1, (execOp a.eval o).run P w = .ok (.value v) w1 ∧ Ev s.st m w (s.st.setRow r { row with es := es ++ byteTrs l }) m1 w1 ∧ StoOk C.av (s.st.setRow r { row with es := es ++ byteTrs l }) m1 w1 ∧ RV (okA C.av (s.st.setRow r { row with es := es ++ byteTrs l }) m1) (s.st.setRow r { row with es := es ++ byteTrs l }) m1 w1 (.acc 1 (es ++ byteTrs l) r) v := by
    subst hes hE hl
    obtain ⟨i, hu, hi, hs, hby⟩ := elemOf?.spec hT
    obtain ⟨row', k1, k2, k3, k4, k5⟩ := hx'
    rw [hrow] at k1
    cases k1
    have k5 := k5 rfl
    have hyv : a.eval y = .string v := (RepM.leaf_eq (h.eval hy)).1
    have hvl : (byteTrs v.data.toList).length = v.size := by rw [byteTrs_len]; rfl
    have hvl' : v.data.toList.length = v.size := rfl
    rw [hvl'] at hlen
    obtain ⟨hpos, hlens, hplace⟩ := h.sto.row r row hrow
    by_cases hne : v.size = 0
    · have hnil : byteTrs v.data.toList = [] := List.eq_nil_of_length_eq_zero (by rw [hvl, hne])
      rw [hnil]
      have hst : s.st.setRow r { row with es := row.es ++ [] } = s.st := by
        have e1 : ({ row with es := row.es ++ [] } : PRow) = row := by simp
        rw [e1]
        unfold Sto.setRow
        have e2 : s.st.rows.set r row = s.st.rows := by
          apply List.ext_getElem?
          intro j
          rw [List.getElem?_set]
          split
          · rename_i e; subst e; rw [if_pos (get_lt hrow), hrow]
          · rfl
        rw [e2]
      obtain ⟨ad, cap, hv, hlc, hcm⟩ := k4.shape
      refine ⟨a.eval x, m, w, ?_, by rw [hst]; exact Ev.refl _ _ _, by rw [hst]; exact h.sto, ?_⟩
      · unfold execOp
        simp only [ho, resolve, invoke, builtin, Sem.run_bind, Sem.run_pure, Result.andThen_ok, List.map_toArray, List.map_cons, List.map_nil, hv, hyv]
        have hfc : (Builtin.firstCells i.size v.size (.string v)).run P w = .ok #[] w := by
          rw [Lib.run_firstCells_string]
          have : Lib.strCells v = [] := List.eq_nil_of_length_eq_zero (by rw [Lib.strCells_length, hne])
          rw [this]
        have hlc' : row.es.length ≤ cap := by omega
        rw [hne] at hfc
        cases ad with
        | none => simp [Builtin.append_, run_underlying hu, run_underlying hU, Go.sizeOf, typeInfo, hi, Builtin.lenOf, hlc', hfc, hne]
        | some q => simp [Builtin.append_, run_underlying hu, run_underlying hU, Go.sizeOf, typeInfo, hi, Builtin.lenOf, hlc', hfc, storeCells, hne]
      · rw [hst, List.append_nil]
        exact ⟨row, hrow, k2, Nat.le_refl _, k4, fun _ => k5⟩
    · have hnews : Lib.strCells v = v.data.toList.map fun b => Value.int .u8 (b.toNat : Int) := rfl
      have hnl : (Lib.strCells v).length = v.size := Lib.strCells_length v
      have hpos2 : 0 < v.size := by omega
      have hlen : (row.es.length + v.size) * i.bytes ≤ 140737488355328 := by rw [hby]; exact hlen
      have h63 : row.es.length + v.size ≤ 140737488355328 := Nat.le_trans (Nat.le_mul_of_pos_right _ (by omega)) hlen
      cases hzz : i.zero with
      | none => simp [hi, hzz] at hz
      | some z =>
        have hzs : z.cells.size = row.sz := by rw [k2]; simpa [hi, hzz] using hz
        have hrun : ∀ u w1, (Builtin.append_ #[T, U] o.type #[a.eval x, a.eval y]).run P w = .ok u w1 → (execOp a.eval o).run P w = .ok (.value u) w1 := fun u w1 hr => by
          unfold execOp
          simp only [ho, resolve, invoke, builtin, Sem.run_bind, Sem.run_pure, Result.andThen_ok, List.map_toArray, List.map_cons, List.map_nil, hr]
        have hnew : ∀ (cur : Array Value) (pre post : List Value), cur.toList = pre ++ (Lib.strCells v ++ post) → pre.length = row.es.length * row.sz → ∀ q e, (byteTrs v.data.toList)[q]? = some e → ∀ j d, e[j]? = some d → ∃ u, cur[(row.es.length + q) * row.sz + j]? = some u ∧ RepM (okA C.av s.st m) w d u := fun cur pre post hcur hpl q e hq j d hd => by
          have hq1 : q < v.data.toList.length := by have := get_lt hq; rwa [byteTrs_len] at this
          rw [byteTrs_cs hq1] at hq
          cases hq
          cases j with
          | succ j => simp at hd
          | zero =>
            simp at hd
            subst hd
            refine ⟨.int .u8 ((v.data.toList[q]).toNat : Int), ?_, RepM.leaf (_root_.Go.Proofs.Ytmpepccpnnldoaa.wf_u8 _)⟩
            rw [← Array.getElem?_toList, hcur, Nat.add_mul, Nat.add_assoc, ← hpl, List.getElem?_append_right (by omega), Nat.add_sub_cancel_left, k2, List.getElem?_append_left (by rw [hnl, ← hvl']; omega), hnews, List.getElem?_map, Nat.mul_one, Nat.add_zero, List.getElem?_eq_getElem hq1]
            rfl
        have hall : ∀ e ∈ byteTrs v.data.toList, e.length = row.sz := by rw [k2]; exact byteTrs_all _
        rcases hplace with ⟨hg0, he0⟩ | ⟨g, c, cur, hg, hob, hcs, hfit, hmax, hrep⟩
        · have hx0 : a.eval x = .slice none 0 0 := by rw [k5, hg0]; rfl
          have hl0 : row.es.length = 0 := by rw [he0]; rfl
          have happ := run_append_nil_string (P := P) w T U o.type row.E i z hu hU hi hzz v hpos2 (by omega) (by rw [hl0, Nat.zero_add] at hlen; omega)
          rw [show v.data.map (fun b => Value.int .u8 b.toNat) = (Lib.strCells v).toArray from (by apply Array.ext'; simp [Lib.strCells])] at happ
          rw [← hyv, ← hx0] at happ
          have hG : Grow C.av s.st m w r row (byteTrs v.data.toList) w.heap.size (grownCap w v.size 0 row.E) ((Lib.strCells v).toArray ++ Builtin.zeroCells z.cells (grownCap w v.size 0 row.E - v.size)) (w.drew.alloc (.cells ((Lib.strCells v).toArray ++ Builtin.zeroCells z.cells (grownCap w v.size 0 row.E - v.size)) row.E)) := by
            have hge := grownCap_ge w v.size 0 row.E
            refine ⟨hrow, rfl, rfl, rfl, by simp, fun b hb _ => Below.heap_alloc w.drew _ b hb, heap_alloc_new w.drew _, ?_, by rw [hvl]; omega, grownCap_le_maxLen w _ _ _ (by unfold maxLen; omega), hall, fun q e hq => by rw [he0] at hq; simp at hq, hnew _ [] (Builtin.zeroCells z.cells (grownCap w v.size 0 row.E - v.size)).toList (by simp) (by rw [hl0]; simp), .inr (Nat.le_refl _), fun hc => ?_⟩
            · rw [Array.size_append, size_zeroCells, hzs]
              simp only [List.size_toArray, hnl]
              rw [k2]
              omega
            · rcases hc with hc | hc
              · rw [hw] at hc; cases hc
              · exact absurd (hvl.symm.trans (congrArg List.length hc)) hne
          refine ⟨_, _, _, hrun _ _ happ, hG.ev h.sto, hG.sto h.sto, ?_⟩
          have := hG.acc h.sto
          rw [hl0, Nat.zero_add, hvl] at this
          have e1 : PV.acc 1 (row.es ++ byteTrs v.data.toList) r = PV.acc row.sz (row.es ++ byteTrs v.data.toList) r := by rw [k2]
          rw [e1]
          exact this
        · have hx0 : a.eval x = .slice (some ⟨g, 0, none⟩) row.es.length c := by rw [k5, hg]; rfl
          have hold : ∀ q e, row.es[q]? = some e → ∀ j d, e[j]? = some d → ∃ v, cur[q * row.sz + j]? = some v ∧ RepM (okA C.av s.st m) w d v := fun q e hq j d hd => by
            cases hrep with
            | row cf q1 q2 q3 q4 =>
              obtain ⟨b', off', hbo, hb', q5⟩ := q3 (by rintro e0; rw [e0] at hq; simp at hq)
              injection hbo with hbo
              injection hbo with e1 e2 e3
              subst e1 e2
              have := (q5 q e hq j d hd).2
              rw [hob.cell, Nat.zero_add] at this
              exact ⟨cf q j, this, q4 q e hq j d hd⟩
          have hfitc : row.es.length * row.sz ≤ cur.size := by rw [hcs]; exact Nat.mul_le_mul_right _ hfit
          have hcl : (cur.toList.take (row.es.length * row.sz)).length = row.es.length * row.sz := by simp; omega
          have hsz1 : row.es.length * row.sz = row.es.length := by rw [k2, Nat.mul_one]
          by_cases hroom : row.es.length + v.size ≤ c
          · have hcap : row.es.length + v.size ≤ cur.size := by rw [hcs, k2, Nat.mul_one]; exact hroom
            have happ := Lib.run_append_room_string (P := P) w T U o.type row.E i hu hU hi hs g row.es.length c cur hob v hroom hcap
            rw [← hyv, ← hx0] at happ
            have hG : Grow C.av s.st m w r row (byteTrs v.data.toList) g c (cur.toList.take row.es.length ++ Lib.strCells v ++ cur.toList.drop (row.es.length + v.size)).toArray (w.setRow g (cur.toList.take row.es.length ++ Lib.strCells v ++ cur.toList.drop (row.es.length + v.size)).toArray) := by
              rw [hsz1] at hcl
              refine ⟨hrow, rfl, rfl, rfl, by simp, fun b hb hne => setRow_other w g b _ hne, setRow_heap w g cur _ _ _ hob, ?_, by rw [hvl]; exact hroom, hmax, hall, fun q e hq j d hd => ?_, hnew _ _ _ (by simp [List.append_assoc]; rfl) (by rw [hsz1]; exact hcl), .inl ⟨c, cur, hg, hob, fun o ho => ?_⟩, fun _ => hg⟩
              · simp only [List.size_toArray, List.length_append, hcl, List.length_drop, Array.length_toList, hnl]
                rw [k2, Nat.mul_one] at hcs
                rw [k2, Nat.mul_one]
                omega
              · obtain ⟨u, hv, hr⟩ := hold q e hq j d hd
                refine ⟨u, ?_, hr⟩
                have hq1 := get_lt hq
                have hj1 : j < row.sz := by rw [← hlens e (List.mem_of_getElem? hq)]; exact get_lt hd
                have hlt : q * row.sz + j < row.es.length := by rw [k2] at hj1 ⊢; omega
                rw [List.getElem?_toArray, List.append_assoc, List.getElem?_append_left (by rw [hcl]; exact hlt), List.getElem?_take, if_pos hlt, Array.getElem?_toList, hv]
              · rw [hsz1] at ho
                rw [List.getElem?_toArray, List.append_assoc, List.getElem?_append_left (by rw [hcl]; exact ho), List.getElem?_take, if_pos ho, Array.getElem?_toList]
            have hgm : upd m.γ r (some (g, c)) = m.γ := by
              funext q
              by_cases hqr : q = r
              · subst hqr; rw [upd_same, hg]
              · rw [upd_ne hqr]
            refine ⟨_, _, _, hrun _ _ happ, hG.ev h.sto, hG.sto h.sto, ?_⟩
            have := hG.acc h.sto
            rw [hvl] at this
            have e1 : PV.acc 1 (row.es ++ byteTrs v.data.toList) r = PV.acc row.sz (row.es ++ byteTrs v.data.toList) r := by rw [k2]
            rw [e1]
            exact this
          · have happ := Lib.run_append_grow_string (P := P) w T U o.type row.E i z hu hU hi hzz ⟨g, 0, none⟩ row.es.length c (cur.toList.take (row.es.length * row.sz)) (by rw [hs, k2]; simp; rw [k2] at hfitc; omega) (fun j v hj => by
              have hjl := get_lt hj
              rw [List.getElem?_take] at hj
              split at hj
              · rename_i hjl2
                have hadd : (⟨g, 0, none⟩ : Addr).add j = ⟨g, j, none⟩ := by unfold Addr.add; split <;> simp_all
                rw [hadd, hob.cell]
                simpa using hj
              · cases hj) v (by omega) (by omega) (growslice_fits (by omega) hlen)
            rw [← hyv, ← hx0] at happ
            have hG : Grow C.av s.st m w r row (byteTrs v.data.toList) w.heap.size (grownCap w (row.es.length + v.size) c row.E) ((cur.toList.take (row.es.length * row.sz)).toArray ++ (Lib.strCells v).toArray ++ Builtin.zeroCells z.cells (grownCap w (row.es.length + v.size) c row.E - (row.es.length + v.size))) (w.drew.alloc (.cells ((cur.toList.take (row.es.length * row.sz)).toArray ++ (Lib.strCells v).toArray ++ Builtin.zeroCells z.cells (grownCap w (row.es.length + v.size) c row.E - (row.es.length + v.size))) row.E)) := by
              have hge := grownCap_ge w (row.es.length + v.size) c row.E
              refine ⟨hrow, rfl, rfl, rfl, by simp, fun b hb _ => Below.heap_alloc w.drew _ b hb, heap_alloc_new w.drew _, ?_, by rw [hvl]; exact hge, grownCap_le_maxLen w _ _ _ (by unfold maxLen; omega), hall, fun q e hq j d hd => ?_, hnew _ _ _ (by simp [List.append_assoc]; rfl) hcl, .inr (Nat.le_refl _), fun hc => ?_⟩
              · rw [Array.size_append, Array.size_append, size_zeroCells, hzs]
                simp only [List.size_toArray, hcl, hnl]
                rw [k2]
                omega
              · obtain ⟨u, hv, hr⟩ := hold q e hq j d hd
                refine ⟨u, ?_, hr⟩
                have hq1 := get_lt hq
                have hj1 : j < row.sz := by rw [← hlens e (List.mem_of_getElem? hq)]; exact get_lt hd
                have hlt : q * row.sz + j < row.es.length * row.sz := by
                  have : (q + 1) * row.sz ≤ row.es.length * row.sz := Nat.mul_le_mul_right _ hq1
                  rw [Nat.succ_mul] at this
                  omega
                rw [Array.append_assoc, Array.getElem?_append_left (by rw [List.size_toArray, hcl]; exact hlt), List.getElem?_toArray, List.getElem?_take, if_pos hlt, Array.getElem?_toList, hv]
              · rcases hc with hc | hc
                · rw [hw] at hc; cases hc
                · exact absurd (hvl.symm.trans (congrArg List.length hc)) hne
            refine ⟨_, _, _, hrun _ _ happ, hG.ev h.sto, hG.sto h.sto, ?_⟩
            have := hG.acc h.sto
            rw [hvl] at this
            have e1 : PV.acc 1 (row.es ++ byteTrs v.data.toList) r = PV.acc row.sz (row.es ++ byteTrs v.data.toList) r := by rw [k2]
            rw [e1]
            exact this
theorem AOp.appendStr {T U E by_ : Nat} {x y : Operand} {l : List UInt8} {es es3 : List (List Tr)} {r : Nat} {row : PRow} {v : ByteArray} (ho : o.op = .call { callee := .builtin .append, args := #[x, y], argTypes := #[T, U] }) (hd : dstOk o.dst n = true)
    (hx : s.ev x = some (.acc 1 es r)) (hrow : s.st.rows[r]? = some row) (hes : row.es = es) (hE : row.E = E) (hw : row.whole = false) (hy : s.ev y = some (.t (.leaf (.string v)))) (hl : v.data.toList = l)
    (hT : elemOf? P T = some (E, 1, by_)) (hU : P.underlying U = some .string) (hz : (P.info? E).bind (fun i => i.zero.map (fun z => z.cells.size)) = some 1) (hb : 0 < by_) (hlen : (es.length + l.length) * by_ ≤ 140737488355328) (h3 : es ++ byteTrs l = es3) :
    AOp P C n o s ((⟨s.env, s.st.setRow r { row with es := es3 }⟩ : AS).putO o.dst (.acc 1 es3 r)) := by
  subst h3
  exact AOp.run hd (s1 := ⟨s.env, s.st.setRow r { row with es := es ++ byteTrs l }⟩) (fun m a w h => appendStr_at ho h (h.eval hx) hrow hes hE hw hy hl hT hU hz hb hlen) rfl
end
end Go.Proofs.Ytmpepccpnnldoaa
