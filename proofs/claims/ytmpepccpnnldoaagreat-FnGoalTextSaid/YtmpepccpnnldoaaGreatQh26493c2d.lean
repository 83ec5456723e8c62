/- Words, rules and walks of several kinds, laid together: Pg, Ph, PgD, PgS, PmQ, MaGlDr, LayB, Ctr, Plain, SL, TyEq0, TyEq, TyPlain, Mark, Reg, AccT, Each, WrS, Fresh, OfL, AtB, MaFmtV, FmtW. No conditions but those that each theorem states. -/
import Derived.Test.YtmpepccpnnldoaaGreatQhb90f6f50
import Derived.Test.YtmpepccpnnldoaaGreatQhc4eb6a9a
import Derived.Laws.BytesArg
import Derived.Shelf.Strings.BuilderK
import Derived.Shelf.Small.Strs
import Derived.Test.YtmpepccpnnldoaaGreatProg
import Derived.Deep.RegionHeld3
import Derived.Laws.IdiomStrings
import Derived.Deep.AppendLies
set_option linter.unusedSimpArgs false
set_option linter.unusedVariables false
namespace Go.Proofs.YtmpepccpnnldoaaGreat
set_option linter.unusedSimpArgs false
set_option linter.unusedVariables false
open Go.RowKit Go.WalkArith Go.IntWalk Go.WideShapes

/-! ### Values -/
abbrev pI (x : Int) : PV := .t (.leaf (.int .i64 x))
abbrev pN (x : Nat) : PV := .t (.leaf (.int .i64 (x : Int)))
abbrev pU (x : UInt8) : PV := .t (.leaf (.int .u8 (x.toNat : Int)))
abbrev pS (x : ByteArray) : PV := .t (.leaf (.string x))
abbrev pB (x : Bool) : PV := .t (.leaf (.bool x))
abbrev rS (l : List ByteArray) : PV := .t (.row 1 (strTrs l))
abbrev rU (l : List UInt8) : PV := .t (.row 1 (byteTrs l))
abbrev aS (l : List ByteArray) (r : Nat) : PV := .acc 1 (strTrs l) r
abbrev aU (l : List UInt8) (r : Nat) : PV := .acc 1 (byteTrs l) r
abbrev dC (d : DS) : List PV := [.t (.row 1 (byteTrs d.code)), .t (.leaf (.int .i64 (d.p : Int))), .t (.leaf (.int .i64 d.h))]

/-- Elements of lists, told as data. -/
class TC (α : Type) [Inhabited α] where
  cs : α → List Tr
  trs : List α → List (List Tr)
  sz : Nat
  at_ : ∀ {l : List α} {k : Nat}, k < l.length → (trs l)[k]? = some (cs (atD l k))
  len : ∀ l : List α, (trs l).length = l.length
  map : ∀ l : List α, trs l = l.map cs
  csz : ∀ a, (cs a).length = sz
instance : TC ByteArray := ⟨fun x => [.leaf (.string x)], strTrs, 1, strTrs_at, strTrs_len, fun _ => rfl, fun _ => rfl⟩
instance : TC Int := ⟨fun x => [.leaf (.int .i64 x)], intTrs, 1, intTrs_at, intTrs_len, fun _ => rfl, fun _ => rfl⟩
instance : TC UInt8 := ⟨fun x => [.leaf (.int .u8 (x.toNat : Int))], byteTrs, 1, byteTrs_at, byteTrs_len, fun _ => rfl, fun _ => rfl⟩
section
variable {α : Type} [Inhabited α] [TC α]
theorem TC.all (l : List α) : ∀ e ∈ TC.trs l, e.length = TC.sz α := fun e he => by
  rw [TC.map] at he
  obtain ⟨x, _, rfl⟩ := List.mem_map.1 he
  exact TC.csz x
theorem TC.app (a b : List α) : TC.trs a ++ TC.trs b = TC.trs (a ++ b) := by rw [TC.map, TC.map, TC.map, List.map_append]
end

/-! ### Models taken apart -/
def Hd {β : Type} (m : Option β) (K : β → Prop) : Prop := ∃ v, m = some v ∧ K v
section
variable {α β σ : Type} {K : β → Prop} {r : β}
theorem hd0 {m : Option β} (h : m = some r) : Hd m (fun v => v = r) := ⟨r, h, rfl⟩
theorem gdI {p : Prop} {x : Option β} (h : Hd (gd p x) K) : p ∧ Hd x K := by
  obtain ⟨v, h1, h2⟩ := h
  by_cases hp : p
  · rw [gdT hp rfl] at h1; exact ⟨hp, v, h1, h2⟩
  · rw [gdF hp] at h1; cases h1
theorem bdI {o : Option α} {f : α → Option β} (h : Hd (bd o f) K) : ∃ a, o = some a ∧ Hd (f a) K := by
  obtain ⟨v, h1, h2⟩ := h
  cases o with
  | none => cases h1
  | some a => exact ⟨a, rfl, v, h1, h2⟩
theorem gdE {G p : Prop} {x : Option β} (h : Hd (gd p x) K) (k : p → Hd x K → G) : G := k (gdI h).1 (gdI h).2
theorem bdE {G : Prop} {o : Option α} {f : α → Option β} (h : Hd (bd o f) K) (k : ∀ a, o = some a → Hd (f a) K → G) : G := by
  obtain ⟨a, h1, h2⟩ := bdI h
  exact k a h1 h2
theorem bdE2 {G : Prop} {A B : Type} {o : Option (A × B)} {f : A × B → Option β} (h : Hd (bd o f) K) (k : ∀ a b, o = some (a, b) → Hd (f (a, b)) K → G) : G := bdE h fun _ => k _ _
theorem ltQ {G : Prop} {x : α} {f : α → Option β} (h : Hd (lt x f) K) (k : ∀ y, y = x → Hd (f y) K → G) : G := k x rfl h
theorem swI1 {b : Bool} {x y : Option β} (h : Hd (sw b x y) K) (e : b = true) : Hd x K := by subst e; exact h
theorem swI0 {b : Bool} {x y : Option β} (h : Hd (sw b x y) K) (e : b = false) : Hd y K := by subst e; exact h
theorem smI {v : β} (h : Hd (some v) K) : K v := by
  obtain ⟨u, h1, h2⟩ := h
  cases h1
  exact h2
def SK (f : σ → Option β) (K : β → Prop) : β ⊕ σ → Prop
  | .inl x => K x
  | .inr s => Hd (f s) K
theorem soI {m : Option (β ⊕ σ)} {f : σ → Option β} (h : Hd (so m f) K) : Hd m (SK f K) := by
  obtain ⟨v, h1, h2⟩ := h
  cases m with
  | none => cases h1
  | some a =>
    refine ⟨a, rfl, ?_⟩
    cases a with
    | inl x => cases h1; exact h2
    | inr s => exact ⟨v, h1, h2⟩
def LK (f : Nat → σ → Option (LR σ β)) (n i : Nat) (K : β ⊕ σ → Prop) : LR σ β → Prop
  | .next s => Hd (loopN f (n - (i + 1)) (i + 1) s) K
  | .brk s => K (.inr s)
  | .ret x => K (.inl x)
def LW (f : σ → Option (LR σ β)) (k : Nat) (K : β ⊕ σ → Prop) : LR σ β → Prop
  | .next s => Hd (loopW f k s) K
  | .brk s => K (.inr s)
  | .ret x => K (.inl x)
theorem skL {f : σ → Option β} {x : β} (h : SK f K (.inl x)) : K x := h
theorem lkR {f : Nat → σ → Option (LR σ β)} {n i : Nat} {K : β ⊕ σ → Prop} {x : β} (h : LK f n i K (.ret x)) : K (.inl x) := h
theorem lwR {f : σ → Option (LR σ β)} {k : Nat} {K : β ⊕ σ → Prop} {x : β} (h : LW f k K (.ret x)) : K (.inl x) := h
theorem lnT {f : Nat → σ → Option (LR σ β)} {n i : Nat} {s : σ} {K : β ⊕ σ → Prop} (hl : i < n) (h : Hd (loopN f (n - i) i s) K) : Hd (f i s) (LK f n i K) := by
  obtain ⟨v, h1, h2⟩ := h
  rw [show n - i = (n - (i + 1)) + 1 by omega, loopN] at h1
  cases hf : f i s with
  | none => rw [hf] at h1; cases h1
  | some x =>
    rw [hf] at h1
    refine ⟨x, rfl, ?_⟩
    cases x with
    | next s' => exact ⟨v, h1, h2⟩
    | brk s' => cases h1; exact h2
    | ret x => cases h1; exact h2
theorem lnE {f : Nat → σ → Option (LR σ β)} {n i : Nat} {s : σ} {K : β ⊕ σ → Prop} (hl : n ≤ i) (h : Hd (loopN f (n - i) i s) K) : K (.inr s) := by
  obtain ⟨v, h1, h2⟩ := h
  rw [show n - i = 0 by omega, loopN] at h1
  cases h1
  exact h2
theorem lwT {f : σ → Option (LR σ β)} {k : Nat} {s : σ} {K : β ⊕ σ → Prop} (h : Hd (loopW f k s) K) : ∃ k', k = k' + 1 ∧ Hd (f s) (LW f k' K) := by
  obtain ⟨v, h1, h2⟩ := h
  cases k with
  | zero => cases h1
  | succ k =>
    rw [loopW] at h1
    refine ⟨k, rfl, ?_⟩
    cases hf : f s with
    | none => rw [hf] at h1; cases h1
    | some x =>
      rw [hf] at h1
      refine ⟨x, rfl, ?_⟩
      cases x with
      | next s' => exact ⟨v, h1, h2⟩
      | brk s' => cases h1; exact h2
      | ret x => cases h1; exact h2
end

/-! ### States that say less, found by themselves -/
section
variable {P : Program} {C : Ctx} {n : Nat} {s s' : AS}
theorem keepA {st' : Sto} (h : Keeps0 C.st st' := by first | exact keeps_nil (by assumption) | (refine keeps_all (by assumption) ?_ ?_; (first | exact boxes0 | exact boxes1 rfl | exact boxes2 rfl | exact boxes3 rfl); exact Nat.le_of_ble_eq_true rfl)) : Keeps0 C.st st' := h
theorem stleA {st st' : Sto} (hb : BoxLe st' st.boxes st'.boxes := by repeat' (first | exact trivial | refine ⟨⟨rfl, leA, rfl⟩, ?_⟩)) (hr : st.rows.take st'.rows.length = st'.rows := by first | rfl | simp) : StLe st st' := StLe.mk' hb hr
theorem wkA (hst : StLe s.st s'.st := by exact stleA) (hp : Keeps0 C.st s'.st := by exact keepA) (he : EnvLe s s'.st s'.env := by repeat' (first | exact trivial | refine ⟨⟨_, rfl, leA, rfl⟩, ?_⟩)) : Wk C n s s' := Wk.mk hst hp he
end

theorem nmD {P : Program} {f : FuncId} {args : List PV} {pre : Sto} {q : PV} {y d : DS} {T : TypeId} (hy : y = d) (h : ACalls P f args pre (fun r t => r = q ∧ t = DS.box T d)) : ACalls P f args pre (fun r t => r = q ∧ t = DS.box T y) := by subst hy; exact h
theorem nmP {P : Program} {f : FuncId} {args : List PV} {pre : Sto} {x z : ByteArray} {y d : DS} {T : TypeId} (hy : y = d) (hx : x = z) (h : ACalls P f args pre (fun r t => r = pS z ∧ t = DS.box T d)) : ACalls P f args pre (fun r t => r = pS x ∧ t = DS.box T y) := by subst hy hx; exact h
/-! ### Ways that meet, loops, ends -/
def cutQ {β σ : Type} (C : Ctx) (n : Nat) (I : σ → AS) (K : β ⊕ σ → Prop) (Q : Exit → AS → Prop) : Exit → AS → Prop
  | .normal, s => ∃ v, K (.inr v) ∧ Wk C n s (I v)
  | e, s => Q e s
def lpQ {β σ : Type} (C : Ctx) (n : Nat) (id : Nat) (I : Nat → σ → AS) (O : σ → AS) (f : Nat → σ → Option (LR σ β)) (m i : Nat) (K : β ⊕ σ → Prop) (Q : Exit → AS → Prop) : Exit → AS → Prop
  | .normal, s => i < m ∧ ∃ v, Hd (loopN f (m - (i + 1)) (i + 1) v) K ∧ Wk C n s (I (i + 1) v)
  | .exit j, s => if j = id then ∃ v, K (.inr v) ∧ Wk C n s (O v) else Q (.exit j) s
  | e, s => Q e s
def lwQ {β σ : Type} (C : Ctx) (n : Nat) (id : Nat) (I : σ → AS) (O : σ → AS) (f : σ → Option (LR σ β)) (k : Nat) (K : β ⊕ σ → Prop) (Q : Exit → AS → Prop) : Exit → AS → Prop
  | .normal, s => ∃ v, Hd (loopW f k v) K ∧ Wk C n s (I v)
  | .exit j, s => if j = id then ∃ v, K (.inr v) ∧ Wk C n s (O v) else Q (.exit j) s
  | e, s => Q e s
section
variable {P : Program} {C : Ctx} {n : Nat} {s : AS} {Q : Exit → AS → Prop} {β σ : Type}
theorem qcCutQ {I : σ → AS} {K : β ⊕ σ → Prop} (hq : QC C n Q) : QC C n (cutQ C n I K Q) := fun e s s' h k => by
  cases e with
  | normal => obtain ⟨v, h1, h2⟩ := k; exact ⟨v, h1, h.trans h2⟩
  | _ => exact hq _ s s' h k
theorem qcLpQ {id : Nat} {I : Nat → σ → AS} {O : σ → AS} {f : Nat → σ → Option (LR σ β)} {m i : Nat} {K : β ⊕ σ → Prop} (hq : QC C n Q) : QC C n (lpQ C n id I O f m i K Q) := fun e s s' h k => by
  cases e with
  | normal => obtain ⟨h0, v, h1, h2⟩ := k; exact ⟨h0, v, h1, h.trans h2⟩
  | exit j =>
    simp only [lpQ] at k ⊢
    split
    · rename_i hj; rw [if_pos hj] at k; obtain ⟨v, h1, h2⟩ := k; exact ⟨v, h1, h.trans h2⟩
    · rename_i hj; rw [if_neg hj] at k; exact hq _ s s' h k
  | _ => exact hq _ s s' h k
theorem qcLwQ {id : Nat} {I : σ → AS} {O : σ → AS} {f : σ → Option (LR σ β)} {m : Nat} {K : β ⊕ σ → Prop} (hq : QC C n Q) : QC C n (lwQ C n id I O f m K Q) := fun e s s' h k => by
  cases e with
  | normal => obtain ⟨v, h1, h2⟩ := k; exact ⟨v, h1, h.trans h2⟩
  | exit j =>
    simp only [lwQ] at k ⊢
    split
    · rename_i hj; rw [if_pos hj] at k; obtain ⟨v, h1, h2⟩ := k; exact ⟨v, h1, h.trans h2⟩
    · rename_i hj; rw [if_neg hj] at k; exact hq _ s s' h k
  | _ => exact hq _ s s' h k
theorem qcA (h : QC C n Q := by repeat' (first | exact qcEnds | exact ncAWP | apply qcCutQ | apply qcLpQ | apply qcLwQ | apply qcThen | apply qcBlock)) : QC C n Q := h
theorem cutB {c : Code} {m : Option (β ⊕ σ)} {K : β ⊕ σ → Prop} (I : σ → AS) (H : Hd m K) (h : Hd m K → AWP P C n c (cutQ C n I K Q) s) (k : ∀ v, K (.inr v) → Q .normal (I v)) (hq : QC C n Q := by exact qcA) : AWP P C n c Q s :=
  AWP.mono (h H) fun e s' hc => by
    cases e with
    | normal =>
      obtain ⟨v, h1, h2⟩ := hc
      exact hq _ _ _ h2 (k v h1)
    | _ => exact hc
theorem cutX {I : σ → AS} {K : β ⊕ σ → Prop} {e : Exit} (h : ∃ v, K (.inr v) ∧ Wk C n s (I v)) (he : e = .normal := by exact rfl) : cutQ C n I K Q e s := by subst he; exact h
theorem loopB {c : Code} {id : Nat} {f : Nat → σ → Option (LR σ β)} {m i0 : Nat} {v0 : σ} {K : β ⊕ σ → Prop} (I : Nat → σ → AS) (O : σ → AS) (H : Hd (loopN f (m - i0) i0 v0) K)
    (round : ∀ i v, Hd (loopN f (m - i) i v) K → AWP P C n c (lpQ C n id I O f m i K Q) (I i v)) (k : ∀ v, K (.inr v) → Q .normal (O v)) (h0 : Wk C n s (I i0 v0) := by exact wkA) (hq : QC C n Q := by exact qcA) : AWP P C n (.block id (.loop c)) Q s := by
  refine AWP.block ?_; refine AWP.loopJ (ι := Nat × σ) (fun x => Hd (loopN f (m - x.1) x.1 x.2) K) (fun x => I x.1 x.2) (fun x => m - x.1) (i0, v0) H h0 ?_; rintro ⟨i, v⟩ hj
  refine AWP.mono (round i v hj) fun e s' h => ?_
  cases e with
  | normal =>
    obtain ⟨h1, v', h2, h3⟩ := h
    exact ⟨(i + 1, v'), h2, h3, by show m - (i + 1) < m - i; omega⟩
  | exit j =>
    simp only [lpQ] at h
    show inBlockA id Q (.exit j) s'
    simp only [inBlockA]
    split
    · rename_i hj; rw [if_pos hj] at h; obtain ⟨v', h1, h2⟩ := h; exact hq _ _ _ h2 (k v' h1)
    · rename_i hj; rw [if_neg hj] at h; exact h
  | _ => exact h
theorem loopV {c : Code} {id : Nat} {f : σ → Option (LR σ β)} {k0 : Nat} {v0 : σ} {K : β ⊕ σ → Prop} (I : σ → AS) (O : σ → AS) (H : Hd (loopW f k0 v0) K)
    (round : ∀ k v, Hd (f v) (LW f k K) → AWP P C n c (lwQ C n id I O f k K Q) (I v)) (k : ∀ v, K (.inr v) → Q .normal (O v)) (h0 : Wk C n s (I v0) := by exact wkA) (hq : QC C n Q := by exact qcA) : AWP P C n (.block id (.loop c)) Q s := by
  refine AWP.block ?_; refine AWP.loopJ (ι := Nat × σ) (fun x => Hd (loopW f x.1 x.2) K) (fun x => I x.2) (fun x => x.1) (k0, v0) H h0 ?_; rintro ⟨i, v⟩ hj
  obtain ⟨i', rfl, hj'⟩ := lwT (f := f) (k := i) (s := v) hj
  refine AWP.mono (round i' v hj') fun e s' h => ?_
  cases e with
  | normal =>
    obtain ⟨v', h2, h3⟩ := h
    exact ⟨(i', v'), h2, h3, by show i' < i' + 1; omega⟩
  | exit j =>
    simp only [lwQ] at h
    show inBlockA id Q (.exit j) s'
    simp only [inBlockA]
    split
    · rename_i hj; rw [if_pos hj] at h; obtain ⟨v', h1, h2⟩ := h; exact hq _ _ _ h2 (k v' h1)
    · rename_i hj; rw [if_neg hj] at h; exact h
  | _ => exact h
theorem lpN {id : Nat} {I : Nat → σ → AS} {O : σ → AS} {f : Nat → σ → Option (LR σ β)} {m i : Nat} {K : β ⊕ σ → Prop} {e : Exit} (hi : i < m) (h : ∃ v, LK f m i K (.next v) ∧ Wk C n s (I (i + 1) v)) (he : e = .normal := by exact rfl) : lpQ C n id I O f m i K Q e s := by subst he; exact ⟨hi, h⟩
theorem lpX {id : Nat} {I : Nat → σ → AS} {O : σ → AS} {f : Nat → σ → Option (LR σ β)} {m i : Nat} {K : β ⊕ σ → Prop} {e : Exit} (h : ∃ v, K (.inr v) ∧ Wk C n s (O v)) (he : e = .exit id := by exact rfl) : lpQ C n id I O f m i K Q e s := by
  subst he
  simp only [lpQ, if_pos]
  exact h
theorem lpB {id : Nat} {I : Nat → σ → AS} {O : σ → AS} {f : Nat → σ → Option (LR σ β)} {m i : Nat} {K : β ⊕ σ → Prop} {e : Exit} (h : ∃ v, LK f m i K (.brk v) ∧ Wk C n s (O v)) (he : e = .exit id := by exact rfl) : lpQ C n id I O f m i K Q e s := lpX h he
theorem lwN {id : Nat} {I : σ → AS} {O : σ → AS} {f : σ → Option (LR σ β)} {k : Nat} {K : β ⊕ σ → Prop} {e : Exit} (h : ∃ v, LW f k K (.next v) ∧ Wk C n s (I v)) (he : e = .normal := by exact rfl) : lwQ C n id I O f k K Q e s := by subst he; exact h
theorem lwB {id : Nat} {I : σ → AS} {O : σ → AS} {f : σ → Option (LR σ β)} {k : Nat} {K : β ⊕ σ → Prop} {e : Exit} (h : ∃ v, LW f k K (.brk v) ∧ Wk C n s (O v)) (he : e = .exit id := by exact rfl) : lwQ C n id I O f k K Q e s := by
  subst he
  simp only [lwQ, if_pos]
  exact h
/-- A branch, the model's branch beside it. -/
theorem spB {β : Type} {K : β → Prop} {x y : Option β} {ops : Array Oper} {l : List Oper} (d : Nat) {b : Bool} (H : Hd (sw b x y) K) (h1 : b = true → Hd x K → AL P C n ops l Q s) (h0 : b = false → Hd y K → AL P C n ops l Q s) (hb : s.lk d = some (.t (.leaf (.bool b))) := by exact rfl) : AL P C n ops l Q s := AL.splitB d hb (fun h => h1 h (swI1 H h)) (fun h => h0 h (swI0 H h))
theorem cndB {K : β → Prop} {c : Operand} {b : Bool} {x y : Option β} {cx cy : Code} (H : Hd (sw b x y) K) (ht : b = true → Hd x K → AWP P C n cx Q s) (hf : b = false → Hd y K → AWP P C n cy Q s) (hc : s.ev c = some (.t (.leaf (.bool b))) := by exact rfl) : AWP P C n (.cond c cx cy) Q s :=
  AWP.cond hc (fun h => ht h (swI1 H h)) fun h => hf h (swI0 H h)
theorem cndT {c : Operand} {b : Bool} {cx cy : Code} (e : b = true) (h : AWP P C n cx Q s) (hc : s.ev c = some (.t (.leaf (.bool b))) := by exact rfl) : AWP P C n (.cond c cx cy) Q s := AWP.cond hc (fun _ => h) fun h => absurd (e.symm.trans h) (by decide)
theorem cndF {c : Operand} {b : Bool} {cx cy : Code} (e : b = false) (h : AWP P C n cy Q s) (hc : s.ev c = some (.t (.leaf (.bool b))) := by exact rfl) : AWP P C n (.cond c cx cy) Q s := AWP.cond hc (fun h => absurd (e.symm.trans h) (by decide)) fun _ => h
/-- The loop's own test. -/
theorem cndL {K : β ⊕ σ → Prop} {f : Nat → σ → Option (LR σ β)} {m i : Nat} {v : σ} {c : Operand} {b : Bool} {cx cy : Code} (H : Hd (loopN f (m - i) i v) K) (ht : b = true → i < m → Hd (f i v) (LK f m i K) → AWP P C n cx Q s) (hf : b = false → K (.inr v) → AWP P C n cy Q s) (h1 : b = true → i < m := by first | exact nat_lt_of2 | exact nat_lt_of3) (h0 : b = false → m ≤ i := by first | exact nat_ge_of2 | exact nat_ge_of3) (hc : s.ev c = some (.t (.leaf (.bool b))) := by exact rfl) : AWP P C n (.cond c cx cy) Q s :=
  AWP.cond hc (fun h => ht h (h1 h) (lnT (h1 h) H)) fun h => hf h (lnE (h0 h) H)
theorem qI {f : FuncId} {fn : Func} {c : Code} {args : List PV} {pre : Sto} {R : PV → Sto → Prop} (hf : P.funcs[f]? = some fn) (h : ∀ C : Ctx, C.st = pre → AWP P C fn.ntmps c (Ends P C fn.ntmps fn R) ⟨argEnv 0 args, pre⟩) (hb : fn.body = some c := by exact rfl) (hn : args.length ≤ fn.ntmps := by first | decide | (simp; done) | (simp; decide)) : ACalls P f args pre R := ACalls.intro hf hb hn h
theorem qS {x y : Code} (h : AWP P C n x (thenA (AWP P C n y Q) Q) s) : AWP P C n (.seq x y) Q s := AWP.seq h
theorem qR {id : Nat} {l : List Oper} (h : AL P C n l.toArray l Q s) : AWP P C n (.region id l.toArray false) Q s := AWP.region_lit h
theorem qN {ops : Array Oper} (h : Q .normal s) : AL P C n ops [] Q s := AL.nil h
theorem q1 {ops : Array Oper} {o : Oper} {rest : List Oper} {s1 : AS} (ho : AOp P C n o s s1) (h : AL P C n ops rest Q s1) (hg : o.guard = none := by exact rfl) : AL P C n ops (o :: rest) Q s := AL.cons hg ho h
theorem qg {ops : Array Oper} {o : Oper} {rest : List Oper} {s1 : AS} {j d : Nat} {b c : Bool} (hv : b = c) (ho : AOp P C n o s s1) (h : AL P C n ops rest Q s1) (hg : o.guard = some (j, c) := by exact rfl) (hj : (ops[j]?).bind (·.dst) = some d := by exact rfl) (hb : s.lk d = some (.t (.leaf (.bool b))) := by exact rfl) : AL P C n ops (o :: rest) Q s := AL.cons_gv hg hj hb hv ho h
theorem qk {ops : Array Oper} {o : Oper} {rest : List Oper} {j d : Nat} {b c e : Bool} (hv : b = e) (h : AL P C n ops rest Q (s.putO o.dst (.tup []))) (hg : o.guard = some (j, c) := by exact rfl) (hj : (ops[j]?).bind (·.dst) = some d := by exact rfl) (hb : s.lk d = some (.t (.leaf (.bool b))) := by exact rfl) (hne : (e == c) = false := by exact rfl) (hd : dstOk o.dst n = true := by exact rfl) : AL P C n ops (o :: rest) Q s := AL.skipP hg hj hb hv hne hd h
theorem qku {ops : Array Oper} {o : Oper} {rest : List Oper} {j d : Nat} {c : Bool} (h : AL P C n ops rest Q (s.putO o.dst (.tup []))) (hg : o.guard = some (j, c) := by exact rfl) (hj : (ops[j]?).bind (·.dst) = some d := by exact rfl) (hb : s.lk d = some (.tup []) := by exact rfl) (hd : dstOk o.dst n = true := by exact rfl) : AL P C n ops (o :: rest) Q s := AL.skipU hg hj hb hd h
theorem qe {fn : Func} {R : PV → Sto → Prop} {e : Exit} {ps : List PV} {res q : PV} {st' : Sto} (hR : R q st' := by exact ⟨rfl, rfl⟩) (hr : ResL P s fn.results.toList ps) (he : e = .normal ∨ e = .ret := by first | exact .inr rfl | exact .inl rfl) (hres : (match ps with | [p] => p | ps => .tup ps) = res := by exact rfl)
    (hst : StLe s.st st' := by exact stleA) (hp : Keeps0 C.st st' := by exact keepA) (hle : PV.Le res q := by exact leA) (hk : PV.okIn st' q = true := by exact rfl) : Ends P C n fn R e s := Ends.mk he hr hres hst hp hle hk hR
theorem qe1 {fn : Func} {R : PV → Sto → Prop} {e : Exit} {p q : PV} {st' : Sto} (hR : R q st' := by exact ⟨rfl, rfl⟩) (hr : ResL P s fn.results.toList [p] := by exact ⟨rfl, trivial⟩) (he : e = .normal ∨ e = .ret := by first | exact .inr rfl | exact .inl rfl)
    (hst : StLe s.st st' := by exact stleA) (hp : Keeps0 C.st st' := by exact keepA) (hle : PV.Le p q := by exact leA) (hk : PV.okIn st' q = true := by exact rfl) : Ends P C n fn R e s := Ends.mk he hr rfl hst hp hle hk hR
theorem qe2 {fn : Func} {R : PV → Sto → Prop} {e : Exit} {p1 p2 q : PV} {st' : Sto} (hR : R q st' := by exact ⟨rfl, rfl⟩) (hr : ResL P s fn.results.toList [p1, p2] := by exact ⟨rfl, rfl, trivial⟩) (he : e = .normal ∨ e = .ret := by first | exact .inr rfl | exact .inl rfl)
    (hst : StLe s.st st' := by exact stleA) (hp : Keeps0 C.st st' := by exact keepA) (hle : PV.Le (.tup [p1, p2]) q := by exact leA) (hk : PV.okIn st' q = true := by exact rfl) : Ends P C n fn R e s := Ends.mk he hr rfl hst hp hle hk hR
theorem lenF (i : Nat) {p : PV} {sz : Nat} {es : List (List Tr)} {N : Nat} {c : Code} (hl : es.length = N) (k : N ≤ 9223372036854775807 → AWP P C n c Q s) (hx : s.lk i = some p := by exact rfl) (hp : rowOf p = some (sz, es) := by exact rfl) : AWP P C n c Q s := AWP.fact (lk_lenN i hx hp hl) k
theorem szF (i : Nat) {v : ByteArray} {c : Code} (k : v.size ≤ 9223372036854775807 → AWP P C n c Q s) (hx : s.lk i = some (.t (.leaf (.string v))) := by exact rfl) : AWP P C n c Q s := AWP.fact (fun m a w h => by
  obtain ⟨u, -, hr⟩ := h.env i _ hx
  have h1 : v.size ≤ maxLen := (RepM.leaf_eq hr).2
  unfold maxLen at h1
  omega) k
end

section
variable {P : Program} {C : Ctx} {n : Nat}
theorem dk {D : Draw} {i j lo hi : Nat} {o : Oper} {b c e : Bool} (hv : b = e) (hg : o.guard = some (j, c) := by exact rfl) (hj : D.out j = some (.t (.leaf (.bool b))) := by exact rfl) (hk : D.kind i = .q lo hi := by exact rfl) (hne : (e == c) = false := by exact rfl) (ho : D.out i = some (.tup []) := by exact rfl) (hd : dstOk o.dst n = true := by exact rfl) : D.step P C n i o :=
  .inr ⟨by subst hv; unfold Draw.want; rw [hg]; dsimp only; rw [hj]; dsimp only; rw [hne], ⟨_, _, hk⟩, .inr ⟨ho, hd⟩⟩
end
/-! ### Operations -/
instance : Inhabited DS := ⟨⟨[], 0, 0⟩⟩
instance : Inhabited PV := ⟨.nil⟩
instance : Inhabited Sto := ⟨⟨[], []⟩⟩
instance : Inhabited PRow := ⟨⟨0, 0, [], false⟩⟩
def evA (s : AS) : List Operand → Option (List PV)
  | [] => some []
  | x :: xs => match s.ev x with
    | some p => match evA s xs with
      | some ps => some (p :: ps)
      | none => none
    | none => none
theorem evA_map {s : AS} : ∀ {xs : List Operand} {ps : List PV}, evA s xs = some ps → xs.map s.ev = ps.map some
  | [], ps, h => by cases h; rfl
  | x :: xs, ps, h => by
    unfold evA at h
    split at h
    · rename_i p hp
      split at h
      · rename_i qs hq
        cases h
        rw [List.map_cons, List.map_cons, hp, evA_map hq]
      · cases h
    · cases h
section
variable {P : Program} {C : Ctx} {n : Nat} {s : AS} {o : Oper}
theorem rMv {x : Operand} {p : PV} (ho : o.op = .move x ∨ o.op = .assign x := by first | exact .inl rfl | exact .inr rfl) (hd : dstOk o.dst n = true := by exact rfl) (hx : s.ev x = some p := by exact rfl) : AOp P C n o s (s.putO o.dst p) := AOp.move ho hd hx
theorem rL1 {T : TypeId} {x : Operand} {k d z : Nat} {bx : PBox} {p : PV} (hT : shapeOf P T = some (false, z)) (ho : o.op = .load T x := by exact rfl) (hd : dstOk o.dst n = true := by exact rfl) (hx : s.ev x = some (.ptr k d) := by exact rfl) (hb : s.st.boxes[k]? = some (some bx) := by exact rfl) (hc : bx.cells[d]? = some p := by exact rfl) : AOp P C n o s (s.putO o.dst p) := AOp.loadPtr1 ho hd hx hb hT hc
theorem rLp {T : TypeId} {x : Operand} {k d z : Nat} {bx : PBox} (cs : List PV) (hT : shapeOf P T = some (true, z)) (ho : o.op = .load T x := by exact rfl) (hd : dstOk o.dst n = true := by exact rfl) (hx : s.ev x = some (.ptr k d) := by exact rfl) (hb : s.st.boxes[k]? = some (some bx) := by exact rfl) (hc : (bx.cells.drop d).take z = cs := by exact rfl) (hl : cs.length = z := by exact rfl) : AOp P C n o s (s.putO o.dst (.agg cs)) := AOp.loadPtr ho hd hx hb hT hc hl
theorem rK1 {T : TypeId} {x : Operand} {z : Nat} {d : Tr} {cs : List Tr} (hT : shapeOf P T = some (false, z)) (ho : o.op = .load T x := by exact rfl) (hd : dstOk o.dst n = true := by exact rfl) (hx : s.ev x = some (.eptr cs) := by exact rfl) (hc : cs[0]? = some d := by exact rfl) : AOp P C n o s (s.putO o.dst (.t d)) := AOp.loadEptr1 ho hd hx hT hc
theorem rKe {T : TypeId} {x : Operand} {z : Nat} {cs : List Tr} (ds : List Tr) (hT : shapeOf P T = some (true, z)) (ho : o.op = .load T x := by exact rfl) (hd : dstOk o.dst n = true := by exact rfl) (hx : s.ev x = some (.eptr cs) := by exact rfl) (hc : cs.take z = ds := by exact rfl) (hl : ds.length = z := by exact rfl) : AOp P C n o s (s.putO o.dst (.agg (ds.map PV.t))) := AOp.loadEptr ho hd hx hT hc hl
theorem rFp {T : TypeId} {x : Operand} {f k d e : Nat} (hf : fieldOff P T f = some e) (ho : o.op = .fieldAddr T x f := by exact rfl) (hd : dstOk o.dst n = true := by exact rfl) (hx : s.ev x = some (.ptr k d) := by exact rfl) : AOp P C n o s (s.putO o.dst (.ptr k (d + e))) := AOp.fieldPtr ho hd hx hf
theorem rFe {T : TypeId} {x : Operand} {f e : Nat} {cs : List Tr} (hf : fieldOff P T f = some e) (ho : o.op = .fieldAddr T x f := by exact rfl) (hd : dstOk o.dst n = true := by exact rfl) (hx : s.ev x = some (.eptr cs) := by exact rfl) : AOp P C n o s (s.putO o.dst (.eptr (cs.drop e))) := AOp.fieldEptr ho hd hx hf
theorem rAl {T : TypeId} {ps : List PV} (hz : zerosOf P T = some ps) (ho : o.op = .alloc T := by exact rfl) (hd : dstOk o.dst n = true := by exact rfl) : AOp P C n o s ((⟨s.env, s.st.addBox ⟨T, ps⟩⟩ : AS).putO o.dst (.ptr s.st.boxes.length 0)) := AOp.alloc ho hd hz
theorem rBx {T : TypeId} {x : Operand} {p : PV} (cs : List PV) (ho : o.op = .box T x := by exact rfl) (hd : dstOk o.dst n = true := by exact rfl) (hx : s.ev x = some p := by exact rfl) (hc : cellsP p = cs := by exact rfl) (ht : notTup p = true := by exact rfl) : AOp P C n o s ((⟨s.env, s.st.addBox ⟨T, cs⟩⟩ : AS).putO o.dst (.ptr s.st.boxes.length 0)) := AOp.box ho hd hx hc ht
theorem rSu {T : TypeId} {x y : Operand} {k d : Nat} {bx : PBox} {p : PV} {cs ds : List PV} (hT : (P.info? T).map (·.size) = some cs.length) (ho : o.op = .store T x y := by exact rfl) (hx : s.ev x = some (.ptr k d) := by exact rfl) (hb : s.st.boxes[k]? = some (some bx) := by exact rfl) (hy : s.ev y = some p := by exact rfl) (hc : cellsP p = cs := by exact rfl) (ht : notTup p = true := by exact rfl) (hf : flatP cs = true := by exact rfl)
    (hfit : d + cs.length ≤ bx.cells.length := by exact Nat.le_of_ble_eq_true rfl) (hds : bx.cells.take d ++ cs ++ bx.cells.drop (d + cs.length) = ds := by exact rfl) : AOp P C n o s ((⟨s.env, s.st.setBox k ⟨bx.ty, ds⟩⟩ : AS).delO o.dst) := AOp.storePtr ho hx hb hy hc ht hf hT hfit hds
theorem rLn {T : TypeId} {x : Operand} {p : PV} {sz N : Nat} {es : List (List Tr)} {E : Nat × Nat × Nat} (hT : elemOf? P T = some E) (hl : es.length = N) (ho : o.op = .call { callee := .builtin .len, args := #[x], argTypes := #[T] } := by exact rfl) (hd : dstOk o.dst n = true := by exact rfl) (hx : s.ev x = some p := by exact rfl) (hp : rowOf p = some (sz, es) := by exact rfl) : AOp P C n o s (s.putO o.dst (.t (.leaf (.int .i64 (N : Int))))) := AOp.lenN ho hd hx hp hT hl
theorem rEq {T yT : TypeId} {x y : Operand} {k : IntKind} {a b : Int} (ho : o.op = .binOp .eql T x y yT := by exact rfl) (hd : dstOk o.dst n = true := by exact rfl) (hx : s.ev x = some (.t (.leaf (.int k a))) := by exact rfl) (hy : s.ev y = some (.t (.leaf (.int k b))) := by exact rfl) : AOp P C n o s (s.putO o.dst (.t (.leaf (.bool (decide (a = b)))))) := AOp.eqlI ho hd hx hy
theorem rNe {T yT : TypeId} {x y : Operand} {k : IntKind} {a b : Int} (ho : o.op = .binOp .neq T x y yT := by exact rfl) (hd : dstOk o.dst n = true := by exact rfl) (hx : s.ev x = some (.t (.leaf (.int k a))) := by exact rfl) (hy : s.ev y = some (.t (.leaf (.int k b))) := by exact rfl) : AOp P C n o s (s.putO o.dst (.t (.leaf (.bool (!decide (a = b)))))) := AOp.neqI ho hd hx hy
theorem rLt {T yT : TypeId} {x y : Operand} {k : IntKind} {a b : Int} (ho : o.op = .binOp .lss T x y yT := by exact rfl) (hd : dstOk o.dst n = true := by exact rfl) (hx : s.ev x = some (.t (.leaf (.int k a))) := by exact rfl) (hy : s.ev y = some (.t (.leaf (.int k b))) := by exact rfl) : AOp P C n o s (s.putO o.dst (.t (.leaf (.bool (decide (a < b)))))) := AOp.lss ho hd hx hy
theorem rLe {T yT : TypeId} {x y : Operand} {k : IntKind} {a b : Int} (ho : o.op = .binOp .leq T x y yT := by exact rfl) (hd : dstOk o.dst n = true := by exact rfl) (hx : s.ev x = some (.t (.leaf (.int k a))) := by exact rfl) (hy : s.ev y = some (.t (.leaf (.int k b))) := by exact rfl) : AOp P C n o s (s.putO o.dst (.t (.leaf (.bool (decide (a ≤ b)))))) := AOp.leq ho hd hx hy
theorem rGt {T yT : TypeId} {x y : Operand} {k : IntKind} {a b : Int} (ho : o.op = .binOp .gtr T x y yT := by exact rfl) (hd : dstOk o.dst n = true := by exact rfl) (hx : s.ev x = some (.t (.leaf (.int k a))) := by exact rfl) (hy : s.ev y = some (.t (.leaf (.int k b))) := by exact rfl) : AOp P C n o s (s.putO o.dst (.t (.leaf (.bool (decide (a > b)))))) := AOp.gtr ho hd hx hy
theorem rGe {T yT : TypeId} {x y : Operand} {k : IntKind} {a b : Int} (ho : o.op = .binOp .geq T x y yT := by exact rfl) (hd : dstOk o.dst n = true := by exact rfl) (hx : s.ev x = some (.t (.leaf (.int k a))) := by exact rfl) (hy : s.ev y = some (.t (.leaf (.int k b))) := by exact rfl) : AOp P C n o s (s.putO o.dst (.t (.leaf (.bool (decide (a ≥ b)))))) := AOp.geq ho hd hx hy
theorem rSe {T yT : TypeId} {x y : Operand} {a b : ByteArray} (ho : o.op = .binOp .eql T x y yT := by exact rfl) (hd : dstOk o.dst n = true := by exact rfl) (hx : s.ev x = some (.t (.leaf (.string a))) := by exact rfl) (hy : s.ev y = some (.t (.leaf (.string b))) := by exact rfl) : AOp P C n o s (s.putO o.dst (.t (.leaf (.bool (decide (a = b)))))) := AOp.eqlS ho hd hx hy
theorem rSn {T yT : TypeId} {x y : Operand} {a b : ByteArray} (ho : o.op = .binOp .neq T x y yT := by exact rfl) (hd : dstOk o.dst n = true := by exact rfl) (hx : s.ev x = some (.t (.leaf (.string a))) := by exact rfl) (hy : s.ev y = some (.t (.leaf (.string b))) := by exact rfl) : AOp P C n o s (s.putO o.dst (.t (.leaf (.bool (!decide (a = b)))))) := AOp.neqS ho hd hx hy
theorem rNo {T : TypeId} {x : Operand} {b : Bool} (ho : o.op = .unOp .not T x := by exact rfl) (hd : dstOk o.dst n = true := by exact rfl) (hx : s.ev x = some (.t (.leaf (.bool b))) := by exact rfl) : AOp P C n o s (s.putO o.dst (.t (.leaf (.bool (!b))))) := AOp.notB ho hd hx
theorem rAw {T yT : TypeId} {x y : Operand} {k : IntKind} {a b : Int} (ho : o.op = .binOp .add T x y yT := by exact rfl) (hd : dstOk o.dst n = true := by exact rfl) (hx : s.ev x = some (.t (.leaf (.int k a))) := by exact rfl) (hy : s.ev y = some (.t (.leaf (.int k b))) := by exact rfl) : AOp P C n o s (s.putO o.dst (.t (.leaf (.int k (k.wrap (a + b)))))) := AOp.addW ho hd hx hy
theorem rSw {T yT : TypeId} {x y : Operand} {k : IntKind} {a b : Int} (ho : o.op = .binOp .sub T x y yT := by exact rfl) (hd : dstOk o.dst n = true := by exact rfl) (hx : s.ev x = some (.t (.leaf (.int k a))) := by exact rfl) (hy : s.ev y = some (.t (.leaf (.int k b))) := by exact rfl) : AOp P C n o s (s.putO o.dst (.t (.leaf (.int k (k.wrap (a - b)))))) := AOp.subW ho hd hx hy
theorem rIx {α : Type} [Inhabited α] [TC α] {l : List α} {T E sz by_ : Nat} {x i : Operand} {p : PV} {k : Nat} (h : k < l.length) (hT : elemOf? P T = some (E, sz, by_)) (ho : o.op = .indexAddr T x i := by exact rfl) (hd : dstOk o.dst n = true := by exact rfl) (hx : s.ev x = some p := by exact rfl) (hp : rowOf p = some (sz, TC.trs l) := by exact rfl) (hi : s.ev i = some (.t (.leaf (.int .i64 (k : Int)))) := by exact rfl) : AOp P C n o s (s.putO o.dst (.eptr (TC.cs (atD l k)))) := AOp.index ho hd hx hp hi (TC.at_ h) hT
theorem rEx {x : Operand} {i : Nat} {ps : List PV} {p : PV} (ho : o.op = .extract x i := by exact rfl) (hd : dstOk o.dst n = true := by exact rfl) (hx : s.ev x = some (.tup ps) := by exact rfl) (hi : ps[i]? = some p := by exact rfl) : AOp P C n o s (s.putO o.dst p) := AOp.extract ho hd hx hi
theorem rBd {T : TypeId} {parts : Array (Nat × Operand)} {ps : List (Nat × List PV)} {zs cs : List PV} {places : List (Nat × Nat)} (hz : zerosOf P T = some zs) (hpl : placesOf P T = some places) (ho : o.op = .build T parts := by exact rfl) (hd : dstOk o.dst n = true := by exact rfl) (hp : partsP s parts.toList = some ps := by exact rfl) (hc : fillP (fun i => places.toArray[i]?) zs ps = some cs := by exact rfl) : AOp P C n o s (s.putO o.dst (.agg cs)) := AOp.build ho hd hz hpl hp hc
theorem rBs {α : Type} [Inhabited α] [TC α] {T E by_ len : Nat} {parts : Array (Nat × Operand)} {ps : List (Nat × List PV)} {zs cs : List PV} (l : List α) (hT : elemOf? P T = some (E, TC.sz α, by_)) (hz : zerosOf P E = some zs) (ho : o.op = .buildSlice T len parts := by exact rfl) (hd : dstOk o.dst n = true := by exact rfl) (hp : partsP s parts.toList = some ps := by exact rfl)
    (hc : fillP (fun i => some (i * TC.sz α, TC.sz α)) (List.replicate len zs).flatten ps = some cs := by exact rfl) (hle : LeL cs ((l.map TC.cs).flatten.map PV.t) := by exact leA) (hel : l.length = len := by exact rfl) (hsz : 0 < TC.sz α := by decide) (hzl : zs.length = TC.sz α := by exact rfl) (hsm : len * TC.sz α ≤ 16777216 := by decide) : AOp P C n o s (s.putO o.dst (.t (.row (TC.sz α) (TC.trs l)))) :=
  AOp.buildSliceE (es := l.map TC.cs) ho hd hT hz hp hc hle (by rw [List.length_map]; exact hel) (fun e he => TC.all l e (by rw [TC.map]; exact he)) hsz hzl hsm (TC.map l).symm
theorem rBa {α : Type} [Inhabited α] [TC α] {T E by_ len : Nat} {parts : Array (Nat × Operand)} {ps : List (Nat × List PV)} {zs cs : List PV} (l : List α) (hT : elemOf? P T = some (E, TC.sz α, by_)) (hz : zerosOf P E = some zs) (ho : o.op = .buildSlice T len parts := by exact rfl) (hd : dstOk o.dst n = true := by exact rfl) (hp : partsP s parts.toList = some ps := by exact rfl)
    (hc : fillP (fun i => some (i * TC.sz α, TC.sz α)) (List.replicate len zs).flatten ps = some cs := by exact rfl) (hle : LeL cs ((l.map TC.cs).flatten.map PV.t) := by exact leA) (hel : l.length = len := by exact rfl) (hsz : 0 < TC.sz α := by decide) (hzl : zs.length = TC.sz α := by exact rfl) (hsm : len * TC.sz α ≤ 16777216 := by decide) : AOp P C n o s ((⟨s.env, s.st.addRow ⟨E, TC.sz α, TC.trs l, false⟩⟩ : AS).putO o.dst (.acc (TC.sz α) (TC.trs l) s.st.rows.length)) :=
  AOp.buildSliceA (es := l.map TC.cs) ho hd hT hz hp hc hle (by rw [List.length_map]; exact hel) (fun e he => TC.all l e (by rw [TC.map]; exact he)) hsz hzl hsm (TC.map l).symm
theorem rAp {α : Type} [Inhabited α] [TC α] {T E by_ : Nat} {x y : Operand} {a b : List α} {r : Nat} {row : PRow} {p : PV} (h : a.length + b.length ≤ 68719476736) (hT : elemOf? P T = some (E, TC.sz α, by_)) (hz : (P.info? E).bind (fun i => i.zero.map (fun z => z.cells.size)) = some (TC.sz α)) (ho : o.op = .call { callee := .builtin .append, args := #[x, y], argTypes := #[T, T] } := by exact rfl) (hd : dstOk o.dst n = true := by exact rfl)
    (hx : s.ev x = some (.acc (TC.sz α) (TC.trs a) r) := by exact rfl) (hrow : s.st.rows[r]? = some row := by exact rfl) (hes : row.es = TC.trs a := by exact rfl) (hE : row.E = E := by exact rfl) (hw : row.whole = false := by exact rfl) (hy : s.ev y = some p := by exact rfl) (hp : rowOf p = some (TC.sz α, TC.trs b) := by exact rfl)
    (hb : 0 < by_ := by decide) (hb2 : by_ ≤ 2048 := by decide) : AOp P C n o s ((⟨s.env, s.st.setRow r { row with es := TC.trs (a ++ b) }⟩ : AS).putO o.dst (.acc (TC.sz α) (TC.trs (a ++ b)) r)) :=
  AOp.appendE ho hd hx hrow hes hE hw hy hp (TC.all b) hT hz hb (by rw [TC.len, TC.len]; exact room_le h hb2) (TC.app a b)
theorem rNp {x : Operand} {k d : Nat} (ho : o.op = .nilCheck x := by exact rfl) (hd : dstOk o.dst n = true := by exact rfl) (hx : s.ev x = some (.ptr k d) := by exact rfl) : AOp P C n o s (s.putO o.dst (.ptr k d)) := AOp.nilPtr ho hd hx
theorem rPt {x y z : Operand} {b : Bool} {p : PV} (hb : b = true) (ho : o.op = .pick x y z := by exact rfl) (hd : dstOk o.dst n = true := by exact rfl) (hx : s.ev x = some (.t (.leaf (.bool b))) := by exact rfl) (hy : s.ev y = some p := by exact rfl) : AOp P C n o s (s.putO o.dst p) := AOp.pickT ho hd hx hb hy
theorem rPf {x y z : Operand} {b : Bool} {p : PV} (hb : b = false) (ho : o.op = .pick x y z := by exact rfl) (hd : dstOk o.dst n = true := by exact rfl) (hx : s.ev x = some (.t (.leaf (.bool b))) := by exact rfl) (hy : s.ev z = some p := by exact rfl) : AOp P C n o s (s.putO o.dst p) := AOp.pickF ho hd hx hb hy
theorem rCf {f : FuncId} {fn : Func} {xs : List Operand} {ts : Array TypeId} {ps qs : List PV} {res : PV} (hf : P.funcs[f]? = some fn) (hc : AFun P f qs res) (ho : o.op = .call { callee := .value (.func f), args := ⟨xs⟩, argTypes := ts } := by exact rfl) (hd : dstOk o.dst n = true := by exact rfl) (hnm : (fn.name == "runtime.NumGoroutine") = false := by kernel_rfl) (hb : fn.body.isNone = false := by exact rfl)
    (hx : evA s xs = some ps := by exact rfl) (hle : LeL ps qs := by exact leA) (h1 : freeL qs = true := by exact rfl) (h2 : PV.free res = true := by exact rfl) : AOp P C n o s (s.putO o.dst res) := AOp.callF ho hd hf hnm hb (evA_map hx) hle h1 h2 hc
theorem rCv {y : Operand} {f : FuncId} {fn : Func} {xs : List Operand} {ts : Array TypeId} {ps cs qs : List PV} {res : PV} (hf : P.funcs[f]? = some fn) (hc : AFun P f qs res) (ho : o.op = .call { callee := .value y, args := ⟨xs⟩, argTypes := ts } := by exact rfl) (hd : dstOk o.dst n = true := by exact rfl) (hy : s.ev y = some (.fn f cs) := by exact rfl) (hnm : (fn.name == "runtime.NumGoroutine") = false := by kernel_rfl) (hb : fn.body.isNone = false := by exact rfl)
    (hx : evA s xs = some ps := by exact rfl) (hle : LeL (ps ++ cs) qs := by exact leA) (h1 : freeL qs = true := by exact rfl) (h2 : PV.free res = true := by exact rfl) : AOp P C n o s (s.putO o.dst res) := AOp.callV ho hd hy hf hnm hb (evA_map hx) hle h1 h2 hc
theorem partA {S pre : Sto} {fb fr : List Nat} (hb : PartBoxes S fb fr pre fb pre.boxes := by repeat' (first | exact trivial | refine ⟨⟨_, rfl, rfl, leA, rfl⟩, ?_⟩)) (hr : PartRows S fr pre.rows := by repeat' (first | exact trivial | refine ⟨rfl, ?_⟩)) (h1 : fb.Nodup := by decide) (h2 : fr.Nodup := by decide) : Part0 S pre fb fr := Part0.of hb hr h1 h2
theorem rCp {f : FuncId} {fn : Func} {xs : List Operand} {ts : Array TypeId} {ps qs : List PV} {res : PV} {pre st' : Sto} (fb fr : List Nat) (hf : P.funcs[f]? = some fn) (hc : ACalls P f qs pre (fun r t => r = res ∧ t = st')) (ho : o.op = .call { callee := .value (.func f), args := ⟨xs⟩, argTypes := ts } := by exact rfl) (hd : dstOk o.dst n = true := by exact rfl) (hnm : (fn.name == "runtime.NumGoroutine") = false := by kernel_rfl) (hb : fn.body.isNone = false := by exact rfl)
    (hx : evA s xs = some ps := by exact rfl) (hp : Part0 s.st pre fb fr := by exact partA) (hle : LeL ps (renL fb fr qs) := by exact leA) (hok : okInL pre qs = true := by exact rfl) (hbl : st'.boxes.length = pre.boxes.length := by exact rfl) (hrl : st'.rows.length = pre.rows.length := by exact rfl) : AOp P C n o s ((⟨s.env, s.st.over st' fb fr⟩ : AS).putO o.dst (PV.ren fb fr res)) := AOp.callPE fb fr ho hd hf hnm hb (evA_map hx) rfl hp hle hok hbl hrl hc
end
theorem dne {x a b : Int} (h : decide (x = a) = true) (hab : a ≠ b) : decide (x = b) = false := by
  rw [of_decide_eq_true h]
  exact decide_eq_false hab
end Go.Proofs.YtmpepccpnnldoaaGreat

namespace Go.Proofs.YtmpepccpnnldoaaGreat
set_option linter.unusedSimpArgs false
set_option linter.unusedVariables false
open Go.RowKit Go.WalkArith Go.IntWalk Go.WideShapes

section
variable {P : Program} {C : Ctx} {n : Nat} {o : Oper}
theorem upon_mono {a : Act} {K1 K : Act → World → Prop} {Q : Exit → Act → World → Prop} (hv : ∀ v w', K1 (a.put o.dst v) w' → K (a.put o.dst v) w')
    (hd : ∀ d w', K1 (({ a with defers := d :: a.defers } : Act).put o.dst undef) w' → K (({ a with defers := d :: a.defers } : Act).put o.dst undef) w') : ∀ r, o.upon P a K1 Q r → o.upon P a K Q r := by
  intro r h
  cases r with
  | ok x w' =>
    cases x with
    | value v => exact hv v w' h
    | skip => exact hv undef w' h
    | defer d => exact hd d w' h
    | enter f args =>
      refine Calls.mono h fun e w'' he => ?_
      cases e with
      | returned v => exact hv v w'' he
      | panicked c => exact he
      | outgrown => exact he
    | row r args => exact Rows.mono h fun v w'' he => hv v w'' he
    | _ => exact h
  | halt x w' =>
    cases x with
    | panic v => exact h
    | _ => exact h
theorem lk_putO (s : AS) (d : Nat) (p : PV) (i : Nat) : (s.putO (some d) p).lk i = if i = d then some p else s.lk i := AS.lk_put s d i p
/-- What was shown of an operation on what it leans on holds in every state that has as much. -/
theorem AOp.frame {E : List (Nat × PV)} {st st1 : Sto} {p : PV} {s' : AS} (h : ∀ C', AOp P C' n o ⟨E, st⟩ ((⟨E, st1⟩ : AS).putO o.dst p)) (hst : s'.st = st) (hl : ∀ t q, E.lookup t = some q → s'.lk t = some q) :
    AOp P C n o s' ((⟨s'.env, st1⟩ : AS).putO o.dst p) := fun m a w hr K Q hK => by
  subst hst
  have hr' : RA ⟨C.av, s'.st, m, w⟩ n ⟨E, s'.st⟩ m a w := ⟨hr.dfr, hr.tsz, hr.sto, fun i q hq => hr.env i q (hl i q hq), Ev.refl _ _ _⟩
  have h1 := h ⟨C.av, s'.st, m, w⟩ m a w hr' (fun a' w' => ∃ m', RA ⟨C.av, s'.st, m, w⟩ n ((⟨E, st1⟩ : AS).putO o.dst p) m' a' w') Q (fun m' a' w' h => ⟨m', h⟩)
  unfold Oper.wp at h1 ⊢
  refine upon_mono (fun v w' => ?_) (fun d w' => ?_) _ h1
  · rintro ⟨m', h2⟩
    refine hK m' _ w' ?_
    have key : ∀ (dst : Option Nat), dst = o.dst → RA C n ((⟨s'.env, st1⟩ : AS).putO dst p) m' (a.put dst v) w' := fun dst hdst => by
      rw [← hdst] at h2
      cases dst with
      | none =>
        have hE : Ev s'.st m w st1 m' w' := h2.ev
        exact ⟨h2.dfr, h2.tsz, h2.sto, fun i q hq => by
          obtain ⟨v', hv', hrv⟩ := hr.env i q hq
          exact ⟨v', hv', RV.mono hE q v' hrv⟩, hr.ev.trans hE⟩
      | some d =>
        have hE : Ev s'.st m w st1 m' w' := h2.ev
        refine ⟨h2.dfr, h2.tsz, h2.sto, fun i q hq => ?_, hr.ev.trans hE⟩
        rw [lk_putO] at hq
        by_cases hi : i = d
        · rw [if_pos hi] at hq
          cases hq
          exact h2.env i _ (by rw [lk_putO, if_pos hi])
        · rw [if_neg hi] at hq
          obtain ⟨v', hv', hrv⟩ := hr.env i q hq
          exact ⟨v', by simp only [Act.put]; rw [Array.getElem?_setIfInBounds_ne (fun e => hi e.symm)]; exact hv', RV.mono hE q v' hrv⟩
    exact key o.dst rfl
  · rintro ⟨m', h2⟩
    have h3 := h2.dfr
    have h4 : (({ a with defers := d :: a.defers } : Act).put o.dst undef).defers = d :: a.defers := by
      cases o.dst <;> rfl
    rw [h4] at h3
    cases h3
theorem AOp.frame0 {E : List (Nat × PV)} {st st1 : Sto} {s' : AS} (hn : o.dst = none) (h : ∀ C', AOp P C' n o ⟨E, st⟩ ⟨E, st1⟩) (hst : s'.st = st) (hl : ∀ t q, E.lookup t = some q → s'.lk t = some q) :
    AOp P C n o s' ⟨s'.env, st1⟩ := by
  have := AOp.frame (C := C) (P := P) (n := n) (o := o) (p := .nil) (E := E) (st := st) (st1 := st1) (s' := s') (by rw [hn]; exact h) hst hl
  rw [hn] at this
  exact this

/-- What is gathered on the way. A kind '.al' stands for an operation that does not look at the store. -/
structure DD where
  outs : List (Option PV)
  ks : List (Option DK)
  ins : List (List Nat)
  effs : List Nat
  fs : List (Option PBox → Sto)
  rds : List ((Nat × Nat) × Nat × Option (Option PBox))
  az : Option (Nat × PBox)
def DD.cz (g : DD) : Option PBox := g.az.map (·.2)
/-- A store with the region's own box, or without it. -/
def ab : Option PBox → Sto → Sto
  | none, st => st
  | some z, st => st.addBox z
/-- No store at all. -/
def badSto : Sto := ⟨[], [⟨0, 0, [], false⟩]⟩
theorem bad_rep {C : Ctx} {n : Nat} {env : List (Nat × PV)} {m : Lay} {a : Act} {w : World} (h : RA C n ⟨env, badSto⟩ m a w) : False := by
  have := (h.sto.row 0 ⟨0, 0, [], false⟩ rfl).1
  exact absurd this (by decide)
theorem AOp.bad {P : Program} {C : Ctx} {n : Nat} {o : Oper} {s s1 : AS} (hs : s.st = badSto) : AOp P C n o s s1 := fun m a w hr K Q hK => by
  obtain ⟨env, st⟩ := s
  cases hs
  exact (bad_rep hr).elim
/-- A pointer to a box that is not there. -/
theorem AOp.away {P : Program} {C : Ctx} {n : Nat} {o : Oper} {s s1 : AS} {t k off : Nat} (hl : s.lk t = some (.ptr k off)) (hk : s.st.boxes[k]? = none) : AOp P C n o s s1 := fun m a w hr K Q hK => by
  obtain ⟨v, -, ⟨x, hx⟩, -⟩ := hr.env t _ hl
  rw [hk] at hx
  cases hx
def rs (s : AS) : List Nat → List (Nat × PV)
  | [] => []
  | t :: ts => match s.lk t with
    | some p => (t, p) :: rs s ts
    | none => rs s ts
theorem rs_lk {s : AS} {t : Nat} {q : PV} : ∀ {I : List Nat}, (rs s I).lookup t = some q → t ∈ I ∧ s.lk t = some q
  | [], h => by cases h
  | x :: I, h => by
    unfold rs at h
    cases hx : s.lk x with
    | none =>
      rw [hx] at h
      obtain ⟨h1, h2⟩ := rs_lk (I := I) h
      exact ⟨.tail _ h1, h2⟩
    | some p =>
      rw [hx] at h
      dsimp only at h
      rw [List.lookup_cons] at h
      by_cases htx : t = x
      · subst htx
        simp only [BEq.rfl] at h
        cases h
        exact ⟨.head _, hx⟩
      · rw [show (t == x) = false by simp [htx]] at h
        obtain ⟨h1, h2⟩ := rs_lk (I := I) h
        exact ⟨.tail _ h1, h2⟩
def DSrc (l : List Oper) (e0 : List (Nat × PV)) (outs : List (Option PV)) (i t : Nat) (p : PV) : Prop :=
  (∃ (j : Nat) (o : Oper), j < i ∧ l[j]? = some o ∧ o.dst = some t ∧ outs[j]? = some (some p)) ∨ (e0.lookup t = some p ∧ ∀ (j : Nat) (o : Oper), j < i → l[j]? = some o → o.dst ≠ some t)
/-- Is it carried out? -/
inductive WD (l : List Oper) (e0 : List (Nat × PV)) (outs : List (Option PV)) (i : Nat) (o : Oper) : Bool → Prop
  | n : o.guard = none → WD l e0 outs i o true
  | y {j d : Nat} {b c : Bool} : o.guard = some (j, c) → (l[j]?).bind (·.dst) = some d → DSrc l e0 outs i d (.t (.leaf (.bool b))) → WD l e0 outs i o (b == c)
  | u {j d : Nat} {c : Bool} : o.guard = some (j, c) → (l[j]?).bind (·.dst) = some d → DSrc l e0 outs i d (.tup []) → WD l e0 outs i o false
inductive WS (l : List Oper) (s : AS) (o : Oper) : Bool → Prop
  | n : o.guard = none → WS l s o true
  | y {j d : Nat} {b c : Bool} : o.guard = some (j, c) → (l[j]?).bind (·.dst) = some d → s.lk d = some (.t (.leaf (.bool b))) → WS l s o (b == c)
  | u {j d : Nat} {c : Bool} : o.guard = some (j, c) → (l[j]?).bind (·.dst) = some d → s.lk d = some (.tup []) → WS l s o false
/-- What an operation has been shown to do (N boxes stood before the region; md: it makes a box at a time of its own). -/
inductive DDoes (P : Program) (n N : Nat) (md : Bool) (g : DD) (i : Nat) (o : Oper) (E : List (Nat × PV)) : Prop
  | q {p : PV} : g.ks[i]? = some none → g.outs[i]? = some (some p) → (∀ C' st, AOp P C' n o ⟨E, st⟩ ((⟨E, st⟩ : AS).putO o.dst p)) → DDoes P n N md g i o E
  | r {lo hi k : Nat} {X : Option (Option PBox)} {p : PV} : g.ks[i]? = some (some (.q lo hi)) → g.outs[i]? = some (some p) → ((lo, hi), k, X) ∈ g.rds → (md = true → k < N) → (∀ C' (st : Sto), st.boxes[k]? = X → AOp P C' n o ⟨E, st⟩ ((⟨E, st⟩ : AS).putO o.dst p)) → DDoes P n N md g i o E
  | c {j : Nat} {f : Option PBox → Sto} {p : PV} : g.ks[i]? = some (some (.q j j)) → g.outs[i]? = some (some p) → g.fs[j]? = some f → (∀ C' z, AOp P C' n o ⟨E, f z⟩ ((⟨E, f z⟩ : AS).putO o.dst p)) → DDoes P n N md g i o E
  | e {j : Nat} {f f1 : Option PBox → Sto} {p : PV} : g.ks[i]? = some (some (.ef j)) → g.outs[i]? = some (some p) → g.fs[j]? = some f → g.fs[j + 1]? = some f1 → (∀ C' z, AOp P C' n o ⟨E, f z⟩ ((⟨E, f1 z⟩ : AS).putO o.dst p)) → DDoes P n N md g i o E
  | e0 {j : Nat} {f f1 : Option PBox → Sto} : g.ks[i]? = some (some (.ef j)) → o.dst = none → g.fs[j]? = some f → g.fs[j + 1]? = some f1 → (∀ C' z, AOp P C' n o ⟨E, f z⟩ ⟨E, f1 z⟩) → DDoes P n N md g i o E
  | ea {j a t off : Nat} {zb : PBox} {f f1 : Option PBox → Sto} : g.az = some (a, zb) → g.ks[i]? = some (some (.ef j)) → o.dst = none → g.fs[j]? = some f → g.fs[j + 1]? = some f1 → E.lookup t = some (.ptr N off) → (f none = badSto ∨ (f none).boxes.length = N) → (∀ C', AOp P C' n o ⟨E, f (some zb)⟩ ⟨E, f1 (some zb)⟩) → DDoes P n N md g i o E
  | al {zb : PBox} : md = true → g.az = some (i, zb) → g.ks[i]? = some (some .al) → g.outs[i]? = some (some (.ptr N 0)) → (∀ C' st, st.boxes.length = N → AOp P C' n o ⟨[], st⟩ ((⟨[], st.addBox zb⟩ : AS).putO o.dst (.ptr N 0))) → DDoes P n N md g i o E
inductive DFact (P : Program) (n N : Nat) (md : Bool) (l : List Oper) (e0 : List (Nat × PV)) (g : DD) (i : Nat) (o : Oper) : Prop
  | does {E : List (Nat × PV)} {I : List Nat} : WD l e0 g.outs i o true → g.ins[i]? = some I → (∀ t q, E.lookup t = some q → t ∈ I ∧ DSrc l e0 g.outs i t q) → DDoes P n N md g i o E → DFact P n N md l e0 g i o
  | skip : WD l e0 g.outs i o false → g.ks[i]? = some none → g.outs[i]? = some (some (.tup [])) → dstOk o.dst n = true → DFact P n N md l e0 g i o
structure DD.le (g g' : DD) : Prop where
  outs : ∀ (i : Nat) (x : Option PV), g.outs[i]? = some x → g'.outs[i]? = some x
  ks : ∀ (i : Nat) (x : Option DK), g.ks[i]? = some x → g'.ks[i]? = some x
  ins : ∀ (i : Nat) (x : List Nat), g.ins[i]? = some x → g'.ins[i]? = some x
  fs : ∀ (i : Nat) (x : Option PBox → Sto), g.fs[i]? = some x → g'.fs[i]? = some x
  rds : ∀ x ∈ g.rds, x ∈ g'.rds
  az : ∀ x, g.az = some x → g'.az = some x
theorem src_le {g g' : DD} (h : g.le g') {l : List Oper} {e0 : List (Nat × PV)} {i t : Nat} {p : PV} (k : DSrc l e0 g.outs i t p) : DSrc l e0 g'.outs i t p := by
  rcases k with ⟨j, o, h1, h2, h3, h4⟩ | k
  · exact .inl ⟨j, o, h1, h2, h3, h.outs _ _ h4⟩
  · exact .inr k
theorem want_le {g g' : DD} (h : g.le g') {l : List Oper} {e0 : List (Nat × PV)} {i : Nat} {o : Oper} {b : Bool} (k : WD l e0 g.outs i o b) : WD l e0 g'.outs i o b := by
  cases k with
  | n a => exact .n a
  | y a b c => exact .y a b (src_le h c)
  | u a b c => exact .u a b (src_le h c)
theorem DFact.mono {N : Nat} {md : Bool} {l : List Oper} {e0 : List (Nat × PV)} {g g' : DD} {i : Nat} {o : Oper} (h : g.le g') (k : DFact P n N md l e0 g i o) : DFact P n N md l e0 g' i o := by
  cases k with
  | does h1 h2 h3 h4 =>
    refine .does (want_le h h1) (h.ins _ _ h2) (fun t q ht => ⟨(h3 t q ht).1, src_le h (h3 t q ht).2⟩) ?_
    cases h4 with
    | q a b c => exact .q (h.ks _ _ a) (h.outs _ _ b) c
    | r a b c d e => exact .r (h.ks _ _ a) (h.outs _ _ b) (h.rds _ c) d e
    | c a b c d => exact .c (h.ks _ _ a) (h.outs _ _ b) (h.fs _ _ c) d
    | e a b c d e => exact .e (h.ks _ _ a) (h.outs _ _ b) (h.fs _ _ c) (h.fs _ _ d) e
    | e0 a b c d e => exact .e0 (h.ks _ _ a) b (h.fs _ _ c) (h.fs _ _ d) e
    | ea z a b c d e f q => exact .ea (h.az _ z) (h.ks _ _ a) b (h.fs _ _ c) (h.fs _ _ d) e f q
    | al md z a b c => exact .al md (h.az _ z) (h.ks _ _ a) (h.outs _ _ b) c
  | skip h1 h2 h3 h4 => exact .skip (want_le h h1) (h.ks _ _ h2) (h.outs _ _ h3) h4
structure DInv (P : Program) (n : Nat) (md : Bool) (l : List Oper) (s0 : AS) (g : DD) (s : AS) : Prop where
  hs0 : ∃ f, g.fs[0]? = some f ∧ f none = s0.st
  hfl : g.fs.length = g.effs.length + 1
  hlast : ∃ f, g.fs[g.effs.length]? = some f ∧ f g.cz = s.st ∧ (md = false → f = fun _ => s.st) ∧ (md = true → g.az = none → f = fun z => ab z s.st)
  hk : g.ks.length = g.outs.length
  hi : g.ins.length = g.outs.length
  hz : md = true → ∀ f ∈ g.fs, f none = badSto ∨ ((f none).boxes.length = s0.st.boxes.length ∧ ∀ z, f (some z) = (f none).addBox z)
  hm : md = false → g.az = none
  hlk : ∀ t p, s.lk t = some p → DSrc l s0.env g.outs g.outs.length t p
  hf : ∀ (i : Nat) (o : Oper), l[i]? = some o → i < g.outs.length → DFact P n s0.st.boxes.length md l s0.env g i o
def DW (P : Program) (C : Ctx) (n id : Nat) (md : Bool) (l : List Oper) (Q : Exit → AS → Prop) (s0 : AS) (g : DD) (s : AS) (rest : List Oper) : Prop :=
  DInv P n md l s0 g s → l.drop g.outs.length = rest → AWP P C n (.region id l.toArray true) Q s0

variable {id : Nat} {l : List Oper} {Q : Exit → AS → Prop} {s0 s : AS} {g : DD} {rest : List Oper} {md : Bool}
theorem dW (h : DW P C n id false l Q s ⟨[], [], [], [], [fun _ => s.st], [], none⟩ s l) : AWP P C n (.region id l.toArray true) Q s :=
  h ⟨⟨_, rfl, rfl⟩, rfl, ⟨_, rfl, rfl, fun _ => rfl, fun h => (by cases h)⟩, rfl, rfl, fun h => (by cases h), fun _ => rfl, fun t p ht => .inr ⟨ht, fun j o hj => (by cases hj)⟩, fun i o _ hi => (by cases hi)⟩ rfl
theorem snoc_get {α : Type} {l : List α} {y : α} (i : Nat) (x : α) (h : l[i]? = some x) : (l ++ [y])[i]? = some x := by
  obtain ⟨hi, -⟩ := List.getElem?_eq_some_iff.1 h
  rw [List.getElem?_append_left hi]
  exact h
theorem snoc_last {α : Type} {l : List α} {y : α} {k : Nat} (h : l.length = k) : (l ++ [y])[k]? = some y := by subst h; simp
theorem drop_at {o : Oper} (h : l.drop g.outs.length = o :: rest) : l[g.outs.length]? = some o ∧ l.drop (g.outs.length + 1) = rest := by
  constructor
  · have := congrArg (fun x => x[0]?) h
    simpa using this
  · rw [← List.drop_drop, h]
    rfl
/-- One operation more. -/
theorem DInv.next {g' : DD} {s' : AS} (hv : DInv P n md l s0 g s) (ho : l[g.outs.length]? = some o) (hle : g.le g') (h0 : g'.outs.length = g.outs.length + 1) (hk : g'.ks.length = g.ks.length + 1) (hi : g'.ins.length = g.ins.length + 1) (hfl : g'.fs.length = g'.effs.length + 1)
    (hlast : ∃ f, g'.fs[g'.effs.length]? = some f ∧ f g'.cz = s'.st ∧ (md = false → f = fun _ => s'.st) ∧ (md = true → g'.az = none → f = fun z => ab z s'.st)) (hz : md = true → ∀ f ∈ g'.fs, f none = badSto ∨ ((f none).boxes.length = s0.st.boxes.length ∧ ∀ z, f (some z) = (f none).addBox z)) (hm : md = false → g'.az = none)
    (hlk : ∀ t p, s'.lk t = some p → (o.dst = some t ∧ g'.outs[g.outs.length]? = some (some p)) ∨ (o.dst ≠ some t ∧ s.lk t = some p)) (hf : DFact P n s0.st.boxes.length md l s0.env g' g.outs.length o) : DInv P n md l s0 g' s' where
  hs0 := by obtain ⟨f, h1, h2⟩ := hv.hs0; exact ⟨f, hle.fs _ _ h1, h2⟩
  hfl := hfl
  hlast := hlast
  hk := by rw [hk, h0, hv.hk]
  hi := by rw [hi, h0, hv.hi]
  hz := hz
  hm := hm
  hlk := fun t p ht => by
    rcases hlk t p ht with ⟨h1, h2⟩ | ⟨h1, h2⟩
    · exact .inl ⟨_, o, by omega, ho, h1, h2⟩
    · rcases hv.hlk t p h2 with ⟨j, oj, a, b, c, d⟩ | ⟨a, b⟩
      · exact .inl ⟨j, oj, by omega, b, c, hle.outs _ _ d⟩
      · refine .inr ⟨a, fun j oj hj hoj => ?_⟩
        rcases Nat.lt_or_ge j g.outs.length with hlt | hge
        · exact b j oj hlt hoj
        · obtain rfl : j = g.outs.length := by omega
          rw [ho] at hoj
          cases hoj
          exact h1
  hf := fun i oi hoi hi' => by
    rcases Nat.lt_or_ge i g.outs.length with hlt | hge
    · exact (hv.hf i oi hoi hlt).mono hle
    · obtain rfl : i = g.outs.length := by omega
      rw [ho] at hoi
      cases hoi
      exact hf
theorem lk_next {st1 : Sto} {p : PV} (t : Nat) (q : PV) (outs : List (Option PV)) (k : Nat) (hk : outs[k]? = some (some p)) (h : ((⟨s.env, st1⟩ : AS).putO o.dst p).lk t = some q) : (o.dst = some t ∧ outs[k]? = some (some q)) ∨ (o.dst ≠ some t ∧ s.lk t = some q) := by
  cases hd : o.dst with
  | none => rw [hd] at h; exact .inr ⟨by simp, h⟩
  | some d =>
    rw [hd, lk_putO] at h
    by_cases htd : t = d
    · rw [if_pos htd] at h
      cases h
      exact .inl ⟨by rw [htd], hk⟩
    · rw [if_neg htd] at h
      exact .inr ⟨fun e => htd (Option.some.inj e).symm, h⟩
theorem st_putO (s : AS) (d : Option Nat) (p : PV) : (s.putO d p).st = s.st := by cases d <;> rfl
theorem WS.wd {g' : DD} {b : Bool} (h : WS l s o b) (hv : DInv P n md l s0 g s) (hle : g.le g') : WD l s0.env g'.outs g.outs.length o b := by
  cases h with
  | n a => exact .n a
  | y a b c => exact .y a b (src_le hle (hv.hlk _ _ c))
  | u a b c => exact .u a b (src_le hle (hv.hlk _ _ c))
theorem rs_src {g' : DD} (hv : DInv P n md l s0 g s) (hle : g.le g') (I : List Nat) : ∀ t q, (rs s I).lookup t = some q → t ∈ I ∧ DSrc l s0.env g'.outs g.outs.length t q := fun t q h => ⟨(rs_lk h).1, src_le hle (hv.hlk t q (rs_lk h).2)⟩

/-- An operation that does not look at the store. -/
theorem dI (I : List Nat) {p : PV} (h : ∀ {C' : Ctx} {st : Sto}, AOp P C' n o ⟨rs s I, st⟩ ((⟨rs s I, st⟩ : AS).putO o.dst p)) (k : DW P C n id md l Q s0 ⟨g.outs ++ [some p], g.ks ++ [none], g.ins ++ [I], g.effs, g.fs, g.rds, g.az⟩ (s.putO o.dst p) rest) (hg : WS l s o true := by exact .n rfl) :
    DW P C n id md l Q s0 g s (o :: rest) := fun hv hr => by
  obtain ⟨ho, hd⟩ := drop_at hr
  have hle : g.le ⟨g.outs ++ [some p], g.ks ++ [none], g.ins ++ [I], g.effs, g.fs, g.rds, g.az⟩ := ⟨snoc_get, snoc_get, snoc_get, fun _ _ h => h, fun _ h => h, fun _ h => h⟩
  refine k (hv.next ho hle (by simp) (by simp) (by simp) hv.hfl (by rw [st_putO]; exact hv.hlast) hv.hz hv.hm (fun t q hq => lk_next t q _ _ (snoc_last rfl) hq) ?_) (by simpa using hd)
  exact .does (hg.wd hv hle) (snoc_last hv.hi) (rs_src hv hle I) (.q (snoc_last hv.hk) (snoc_last rfl) fun _ _ => h)
/-- One that looks at the store as it stands. -/
theorem dD (I : List Nat) {p : PV} (h : ∀ {C' : Ctx}, AOp P C' n o ⟨rs s I, s.st⟩ ((⟨rs s I, s.st⟩ : AS).putO o.dst p)) (k : DW P C n id false l Q s0 ⟨g.outs ++ [some p], g.ks ++ [some (.q g.effs.length g.effs.length)], g.ins ++ [I], g.effs, g.fs, g.rds, g.az⟩ (s.putO o.dst p) rest) (hg : WS l s o true := by exact .n rfl) :
    DW P C n id false l Q s0 g s (o :: rest) := fun hv hr => by
  obtain ⟨ho, hd⟩ := drop_at hr
  obtain ⟨f, q1, -, q2, -⟩ := hv.hlast
  have q2 := q2 rfl
  subst q2
  have hle : g.le ⟨g.outs ++ [some p], g.ks ++ [some (.q g.effs.length g.effs.length)], g.ins ++ [I], g.effs, g.fs, g.rds, g.az⟩ := ⟨snoc_get, snoc_get, snoc_get, fun _ _ h => h, fun _ h => h, fun _ h => h⟩
  refine k (hv.next ho hle (by simp) (by simp) (by simp) hv.hfl (by rw [st_putO]; exact hv.hlast) hv.hz hv.hm (fun t q hq => lk_next t q _ _ (snoc_last rfl) hq) ?_) (by simpa using hd)
  exact .does (hg.wd hv hle) (snoc_last hv.hi) (rs_src hv hle I) (.c (snoc_last hv.hk) (snoc_last rfl) q1 fun _ _ => h)
/-- One that looks at a box. -/
def RdOp (P : Program) (n : Nat) (o : Oper) (s : AS) (I : List Nat) (kb : Nat) (X : Option (Option PBox)) (p : PV) : Prop := ∀ C' (st : Sto), st.boxes[kb]? = X → AOp P C' n o ⟨rs s I, st⟩ ((⟨rs s I, st⟩ : AS).putO o.dst p)
theorem dB (I : List Nat) (lo hi : Nat) {kb : Nat} {X : Option (Option PBox)} {p : PV} (h : RdOp P n o s I kb X p) (k : DW P C n id false l Q s0 ⟨g.outs ++ [some p], g.ks ++ [some (.q lo hi)], g.ins ++ [I], g.effs, g.fs, g.rds ++ [((lo, hi), kb, X)], g.az⟩ (s.putO o.dst p) rest) (hg : WS l s o true := by exact .n rfl) :
    DW P C n id false l Q s0 g s (o :: rest) := fun hv hr => by
  obtain ⟨ho, hd⟩ := drop_at hr
  have hle : g.le ⟨g.outs ++ [some p], g.ks ++ [some (.q lo hi)], g.ins ++ [I], g.effs, g.fs, g.rds ++ [((lo, hi), kb, X)], g.az⟩ := ⟨snoc_get, snoc_get, snoc_get, fun _ _ h => h, fun _ h => List.mem_append_left _ h, fun _ h => h⟩
  refine k (hv.next ho hle (by simp) (by simp) (by simp) hv.hfl (by rw [st_putO]; exact hv.hlast) hv.hz hv.hm (fun t q hq => lk_next t q _ _ (snoc_last rfl) hq) ?_) (by simpa using hd)
  exact .does (hg.wd hv hle) (snoc_last hv.hi) (rs_src hv hle I) (.r (snoc_last hv.hk) (snoc_last rfl) (by simp) (fun h => by cases h) h)
theorem vL1 {I : List Nat} {T : TypeId} {x : Operand} {kb d z : Nat} {bx : PBox} {p : PV} (hT : shapeOf P T = some (false, z))
    (ho : o.op = .load T x := by exact rfl) (hd : dstOk o.dst n = true := by exact rfl) (hx : (⟨rs s I, s.st⟩ : AS).ev x = some (.ptr kb d) := by exact rfl) (hb : s.st.boxes[kb]? = some (some bx) := by exact rfl) (hc : bx.cells[d]? = some p := by exact rfl) : RdOp P n o s I kb (some (some bx)) p :=
  fun C' st hst => AOp.loadPtr1 ho hd (by cases x <;> exact hx) hst hT hc
theorem vLp {I : List Nat} {T : TypeId} {x : Operand} {kb d z : Nat} {bx : PBox} (cs : List PV) (hT : shapeOf P T = some (true, z))
    (ho : o.op = .load T x := by exact rfl) (hd : dstOk o.dst n = true := by exact rfl) (hx : (⟨rs s I, s.st⟩ : AS).ev x = some (.ptr kb d) := by exact rfl) (hb : s.st.boxes[kb]? = some (some bx) := by exact rfl) (hc : (bx.cells.drop d).take z = cs := by exact rfl) (hl : cs.length = z := by exact rfl) : RdOp P n o s I kb (some (some bx)) (.agg cs) :=
  fun C' st hst => AOp.loadPtr ho hd (by cases x <;> exact hx) hst hT hc hl
/-- One that changes the store. -/
theorem dE (I : List Nat) {p : PV} {st1 : Sto} (h : ∀ {C' : Ctx}, AOp P C' n o ⟨rs s I, s.st⟩ ((⟨rs s I, st1⟩ : AS).putO o.dst p)) (k : DW P C n id false l Q s0 ⟨g.outs ++ [some p], g.ks ++ [some (.ef g.effs.length)], g.ins ++ [I], g.effs ++ [g.outs.length], g.fs ++ [fun _ => st1], g.rds, g.az⟩ ((⟨s.env, st1⟩ : AS).putO o.dst p) rest) (hg : WS l s o true := by exact .n rfl) :
    DW P C n id false l Q s0 g s (o :: rest) := fun hv hr => by
  obtain ⟨ho, hd⟩ := drop_at hr
  obtain ⟨f, q1, -, q2, -⟩ := hv.hlast
  have q2 := q2 rfl
  subst q2
  have hle : g.le ⟨g.outs ++ [some p], g.ks ++ [some (.ef g.effs.length)], g.ins ++ [I], g.effs ++ [g.outs.length], g.fs ++ [fun _ => st1], g.rds, g.az⟩ := ⟨snoc_get, snoc_get, snoc_get, snoc_get, fun _ h => h, fun _ h => h⟩
  refine k (hv.next ho hle (by simp) (by simp) (by simp) (by simp [hv.hfl]) (by rw [st_putO]; exact ⟨_, snoc_last (by simp [hv.hfl]), rfl, fun _ => rfl, fun h => by cases h⟩) (fun h => by cases h) hv.hm (fun t q hq => lk_next t q _ _ (snoc_last rfl) hq) ?_) (by simpa using hd)
  exact .does (hg.wd hv hle) (snoc_last hv.hi) (rs_src hv hle I) (.e (snoc_last hv.hk) (snoc_last rfl) (hle.fs _ _ q1) (snoc_last hv.hfl) fun _ _ => h)
theorem dE0 (I : List Nat) {st1 : Sto} (h : ∀ {C' : Ctx}, AOp P C' n o ⟨rs s I, s.st⟩ ⟨rs s I, st1⟩) (k : DW P C n id false l Q s0 ⟨g.outs ++ [none], g.ks ++ [some (.ef g.effs.length)], g.ins ++ [I], g.effs ++ [g.outs.length], g.fs ++ [fun _ => st1], g.rds, g.az⟩ ⟨s.env, st1⟩ rest) (hn : o.dst = none := by exact rfl) (hg : WS l s o true := by exact .n rfl) :
    DW P C n id false l Q s0 g s (o :: rest) := fun hv hr => by
  obtain ⟨ho, hd⟩ := drop_at hr
  obtain ⟨f, q1, -, q2, -⟩ := hv.hlast
  have q2 := q2 rfl
  subst q2
  have hle : g.le ⟨g.outs ++ [none], g.ks ++ [some (.ef g.effs.length)], g.ins ++ [I], g.effs ++ [g.outs.length], g.fs ++ [fun _ => st1], g.rds, g.az⟩ := ⟨snoc_get, snoc_get, snoc_get, snoc_get, fun _ h => h, fun _ h => h⟩
  refine k (hv.next ho hle (by simp) (by simp) (by simp) (by simp [hv.hfl]) ⟨_, snoc_last (by simp [hv.hfl]), rfl, fun _ => rfl, fun h => by cases h⟩ (fun h => by cases h) hv.hm (fun t q hq => .inr ⟨by rw [hn]; simp, hq⟩) ?_) (by simpa using hd)
  exact .does (hg.wd hv hle) (snoc_last hv.hi) (rs_src hv hle I) (.e0 (snoc_last hv.hk) hn (hle.fs _ _ q1) (snoc_last hv.hfl) fun _ _ => h)
/-- One that is not wanted. -/
theorem dS  (k : DW P C n id md l Q s0 ⟨g.outs ++ [some (.tup [])], g.ks ++ [none], g.ins ++ [[]], g.effs, g.fs, g.rds, g.az⟩ (s.putO o.dst (.tup [])) rest) (hg : WS l s o false) (hd' : dstOk o.dst n = true) :
    DW P C n id md l Q s0 g s (o :: rest) := fun hv hr => by
  obtain ⟨ho, hd⟩ := drop_at hr
  have hle : g.le ⟨g.outs ++ [some (.tup [])], g.ks ++ [none], g.ins ++ [[]], g.effs, g.fs, g.rds, g.az⟩ := ⟨snoc_get, snoc_get, snoc_get, fun _ _ h => h, fun _ h => h, fun _ h => h⟩
  refine k (hv.next ho hle (by simp) (by simp) (by simp) hv.hfl (by rw [st_putO]; exact hv.hlast) hv.hz hv.hm (fun t q hq => lk_next t q _ _ (snoc_last rfl) hq) ?_) (by simpa using hd)
  exact .skip (hg.wd hv hle) (snoc_last hv.hk) (snoc_last rfl) hd'
theorem dSk {j d : Nat} {b c e : Bool} (hv : b = e) (k : DW P C n id md l Q s0 ⟨g.outs ++ [some (.tup [])], g.ks ++ [none], g.ins ++ [[]], g.effs, g.fs, g.rds, g.az⟩ (s.putO o.dst (.tup [])) rest) (hg : o.guard = some (j, c) := by exact rfl) (hj : (l[j]?).bind (·.dst) = some d := by exact rfl) (hb : s.lk d = some (.t (.leaf (.bool b))) := by exact rfl) (hne : (e == c) = false := by exact rfl) (hd' : dstOk o.dst n = true := by exact rfl) :
    DW P C n id md l Q s0 g s (o :: rest) := dS k (by subst hv; have := WS.y hg hj hb; rwa [hne] at this) hd'
theorem dSu {j d : Nat} {c : Bool} (k : DW P C n id md l Q s0 ⟨g.outs ++ [some (.tup [])], g.ks ++ [none], g.ins ++ [[]], g.effs, g.fs, g.rds, g.az⟩ (s.putO o.dst (.tup [])) rest) (hg : o.guard = some (j, c) := by exact rfl) (hj : (l[j]?).bind (·.dst) = some d := by exact rfl) (hb : s.lk d = some (.tup []) := by exact rfl) (hd' : dstOk o.dst n = true := by exact rfl) :
    DW P C n id md l Q s0 g s (o :: rest) := dS k (.u hg hj hb) hd'
/-- A guard whose value is known. -/
theorem wantT {j d : Nat} {b c : Bool} (hv : b = c) (hg : o.guard = some (j, c) := by exact rfl) (hj : (l[j]?).bind (·.dst) = some d := by exact rfl) (hb : s.lk d = some (.t (.leaf (.bool b))) := by exact rfl) : WS l s o true := by
  subst hv
  have := WS.y hg hj hb
  rwa [BEq.rfl] at this

theorem anc_lt {ops : Array Oper} (h : ∀ i o, ops[i]? = some o → ∀ e ∈ o.after, Region.binds .any e = true → e.on < i) : ∀ (fuel i j : Nat), ancOf ops fuel i j = true → i < j
  | 0, _, _, h' => by simp [ancOf] at h'
  | fuel + 1, i, j, h' => by
    simp only [ancOf] at h'
    split at h'
    · rename_i o ho
      rw [List.any_eq_true] at h'
      obtain ⟨e, he, h'⟩ := h'
      simp only [Bool.and_eq_true, Bool.or_eq_true, beq_iff_eq] at h'
      have h1 := h j o ho e (by simpa using he) h'.1
      rcases h'.2 with h2 | h2
      · omega
      · have := anc_lt h fuel i e.on h2
        omega
    · cases h'
def srcOf (l : List Oper) (i t : Nat) : Option Nat := match writerOf l.toArray t with
  | some j => if j < i then some j else none
  | none => none
def DD.draw (g : DD) (l : List Oper) (s0 : AS) : Draw where
  ops := l.toArray
  env0 := s0.env
  F := fun j b => match g.fs[j]? with
    | some f => f (bif b then g.cz else none)
    | none => ab (bif b then g.cz else none) s0.st
  out := fun i => (g.outs[i]?).getD none
  kind := fun i => match g.ks[i]? with
    | some (some k) => k
    | _ => .q 0 g.effs.length
  effs := g.effs
  alloc := g.az.map (·.1)
  ins := fun i => ((g.ins[i]?).getD []).map fun t => (t, srcOf l i t)
def rdGot (fs : List (Option PBox → Sto)) (z : Option PBox) (x : (Nat × Nat) × Nat × Option (Option PBox)) : List (Option (Option (Option PBox))) := (List.range' x.1.1 (x.1.2 + 1 - x.1.1)).map fun j => (fs[j]?).map fun f => (f z).boxes[x.2.1]?
def rdAsk (x : (Nat × Nat) × Nat × Option (Option PBox)) : List (Option (Option (Option PBox))) := (List.range' x.1.1 (x.1.2 + 1 - x.1.1)).map fun _ => some x.2.2
theorem writer_at (hn : nodupDst l.toArray = true) {j t : Nat} (ho : l[j]? = some o) (hd : o.dst = some t) : writerOf l.toArray t = some j := nodup_writer hn (by simpa using ho) hd
theorem rd_of {fs : List (Option PBox → Sto)} {z : Option PBox} {rds : List ((Nat × Nat) × Nat × Option (Option PBox))} (h : rds.map (rdGot fs z) = rds.map rdAsk) {lo hi kb j : Nat} {X : Option (Option PBox)} (hm : ((lo, hi), kb, X) ∈ rds) (h1 : lo ≤ j) (h2 : j ≤ hi) {f : Option PBox → Sto} (hs : fs[j]? = some f) : (f z).boxes[kb]? = X := by
  have e := List.map_inj_left.1 h _ hm
  unfold rdGot rdAsk at e
  have := List.map_inj_left.1 e j (by simp [List.mem_range']; exact ⟨j - lo, by omega, by omega⟩)
  simpa [hs] using this
/-- All operations have been told. -/
theorem dN (h : Q .normal s) (hm : P.follows .mixedOrders = true := by exact mixed) (hok : (g.draw l s0).ok = true := by kernel_rfl) (hrd : g.rds.map (rdGot g.fs g.cz) = g.rds.map rdAsk := by kernel_rfl) : DW P C n id md l Q s0 g s [] := fun hv hr => by
  have hlen : l.length ≤ g.outs.length := by
    have := congrArg List.length hr
    simp at this
    omega
  have hok' := hok
  simp only [Draw.ok, Bool.and_eq_true] at hok'
  have hn : nodupDst l.toArray = true := hok'.1.1.1.2
  -- where a value comes from
  have hpv : ∀ i t q, DSrc l s0.env g.outs i t q → (g.draw l s0).pv (t, srcOf l i t) = some q := fun i t q hs => by
    rcases hs with ⟨j, oj, h1, h2, h3, h4⟩ | ⟨h1, h2⟩
    · have hw := writer_at hn h2 h3
      unfold srcOf
      rw [hw]
      dsimp only
      rw [if_pos h1]
      show (g.outs[j]?).getD none = some q
      rw [h4]
      rfl
    · have hw : srcOf l i t = none := by
        unfold srcOf
        split
        · rename_i j hj
          obtain ⟨-, oj, h3, h4⟩ := writerOf_spec hj
          split
          · rename_i hji
            exact absurd h4 (h2 j oj hji (by simpa using h3))
          · rfl
        · rfl
      rw [hw]
      exact h1
  have hF : ∀ {j : Nat} {f : Option PBox → Sto}, g.fs[j]? = some f → ∀ b, (g.draw l s0).F j b = f (bif b then g.cz else none) := fun {j f} hj b => by show (match g.fs[j]? with | some f => f (bif b then g.cz else none) | none => ab (bif b then g.cz else none) s0.st) = _; rw [hj]
  have hK : ∀ {i : Nat} {k : DK}, g.ks[i]? = some (some k) → (g.draw l s0).kind i = k := fun {i k} hk => by show (match g.ks[i]? with | some (some k) => k | _ => .q 0 g.effs.length) = _; rw [hk]
  have hK0 : ∀ {i : Nat}, g.ks[i]? = some none → (g.draw l s0).kind i = .q 0 g.effs.length := fun {i} hk => by show (match g.ks[i]? with | some (some k) => k | _ => DK.q 0 g.effs.length) = _; rw [hk]
  have hout : ∀ {i : Nat} {p : PV}, g.outs[i]? = some (some p) → (g.draw l s0).out i = some p := fun hp => by show (g.outs[_]?).getD none = _; rw [hp]; rfl
  have hops := hok'.1.1.1.1
  rw [List.all_eq_true] at hops
  have hgs : ∀ (i : Nat) (o : Oper) (j d : Nat) (c : Bool) (p : PV), l[i]? = some o → o.guard = some (j, c) → (l[j]?).bind (·.dst) = some d → DSrc l s0.env g.outs i d p → (g.draw l s0).out j = some p := fun i o j d c p ho hg hj hs => by
    obtain ⟨oj, hoj, hdj⟩ : ∃ oj, l[j]? = some oj ∧ oj.dst = some d := by
      cases hx : l[j]? with
      | none => rw [hx] at hj; cases hj
      | some oj => rw [hx] at hj; exact ⟨oj, rfl, hj⟩
    have hw := writer_at hn hoj hdj
    rcases hs with ⟨j', oj', h1, h2, h3, h4⟩ | ⟨h1, h2⟩
    · have hw' := writer_at hn h2 h3
      rw [hw] at hw'
      cases hw'
      exact hout h4
    · have hil := (List.getElem?_eq_some_iff.1 ho).1
      have h5 := hops i (by simpa [DD.draw] using hil)
      have ho' : (g.draw l s0).ops[i]? = some o := by simpa [DD.draw] using ho
      simp only [Draw.okOp, ho', hg, Bool.and_eq_true] at h5
      have h6 : (g.draw l s0).anc j i = true := h5.2.1
      have := anc_lt (fun i' o' ho' e he hb => by
        have hil' := (Array.getElem?_eq_some_iff.1 ho').1
        have h7 := hops i' (by simpa using hil')
        simp only [Draw.okOp, ho', Bool.and_eq_true, Array.all_eq_true'] at h7
        have h3 := h7.1 e he
        simpa [hb] using h3) _ _ _ h6
      exact absurd hdj (h2 j oj this hoj)
  have hwant : ∀ {i : Nat} {o : Oper} {b : Bool}, l[i]? = some o → WD l s0.env g.outs i o b → (g.draw l s0).want o = some b := fun {i o b} ho hw => by
    unfold Draw.want
    cases hw with
    | n a => rw [a]
    | y a b c => rw [a]; dsimp only; rw [hgs _ _ _ _ _ _ ho a b c]
    | u a b c => rw [a]; dsimp only; rw [hgs _ _ _ _ _ _ ho a b c]
  have hstep : ∀ i o, (g.draw l s0).ops[i]? = some o → (g.draw l s0).step P C n i o := fun i o ho => by
    have ho' : l[i]? = some o := by simpa [DD.draw] using ho
    obtain ⟨hil, -⟩ := List.getElem?_eq_some_iff.1 ho'
    cases hv.hf i o ho' (by omega) with
    | does h1 h2 h3 h4 =>
      rename_i E I
      refine .inl ⟨hwant ho' h1, ?_⟩
      have hl : ∀ s' : AS, (∀ t src p, (t, src) ∈ (g.draw l s0).ins i → (g.draw l s0).pv (t, src) = some p → s'.lk t = some p) → ∀ t q, E.lookup t = some q → s'.lk t = some q := fun s' hl t q ht => by
        obtain ⟨h5, h6⟩ := h3 t q ht
        refine hl t (srcOf l i t) q ?_ (hpv i t q h6)
        show (t, srcOf l i t) ∈ ((g.ins[i]?).getD []).map _
        rw [h2]
        exact List.mem_map.2 ⟨t, h5, rfl⟩
      unfold Draw.does
      cases h4 with
      | q a b c =>
        rw [hK0 a]
        exact fun s' j bb _ _ hs hin => ⟨_, hout b, AOp.frame (st := s'.st) (fun C' => c C' s'.st) rfl (hl s' hin)⟩
      | r a b c kN d =>
        rename_i lo hi kb X p
        have hk := hK a
        rw [hk]
        intro s' j bb q1 q2 hs hin
        have hjl : hi < g.fs.length := by
          have := hok'.1.1.2
          rw [List.all_eq_true] at this
          have := this i (by simpa [DD.draw] using hil)
          simp only [Bool.and_eq_true, Draw.okKind, hk] at this
          have h9 := this.1.1.1.1.1.2
          simp only [decide_eq_true_eq] at h9
          have h10 : hi ≤ g.effs.length := h9
          rw [hv.hfl]
          omega
        obtain ⟨f, hst⟩ : ∃ f, g.fs[j]? = some f := ⟨_, List.getElem?_eq_getElem (by omega)⟩
        have hX := rd_of hrd c q1 q2 hst
        rw [hF hst] at hs
        have hcase : s'.st = f g.cz ∨ (md = true ∧ s'.st = f none) := by
          cases bb with
          | true => exact .inl hs
          | false =>
            cases md with
            | true => exact .inr ⟨rfl, hs⟩
            | false =>
              have : g.cz = none := by unfold DD.cz; rw [hv.hm rfl]; rfl
              rw [this]
              exact .inl hs
        rcases hcase with hs | ⟨hmd, hs⟩
        · exact ⟨_, hout b, AOp.frame (st := s'.st) (fun C' => d C' s'.st (by rw [hs]; exact hX)) rfl (hl s' hin)⟩
        · rcases hv.hz hmd f (List.mem_iff_getElem?.2 ⟨_, hst⟩) with h9 | ⟨h9, h10⟩
          · exact ⟨_, hout b, AOp.bad (by rw [hs, h9])⟩
          · refine ⟨_, hout b, AOp.frame (st := s'.st) (fun C' => d C' s'.st ?_) rfl (hl s' hin)⟩
            rw [hs, ← hX]
            cases hz : g.cz with
            | none => rfl
            | some z =>
              rw [h10 z]
              show _ = ((f none).boxes ++ [some z])[kb]?
              rw [List.getElem?_append_left (by rw [h9]; exact kN hmd)]
      | c a b c d =>
        rename_i j f p
        rw [hK a]
        refine fun s' jj bb q1 q2 hs hin => ⟨_, hout b, ?_⟩
        obtain rfl : jj = j := by omega
        exact AOp.frame (st := s'.st) (fun C' => by rw [hs, hF c]; exact d C' _) rfl (hl s' hin)
      | e a b c d e =>
        rename_i j f f1 p
        rw [hK a]
        refine fun s' bb hs hin => .inl ⟨_, hout b, ?_⟩
        rw [hF d]
        exact AOp.frame (fun C' => e C' _) (by rw [hs, hF c]) (hl s' hin)
      | e0 a b c d e =>
        rename_i j f f1
        rw [hK a]
        refine fun s' bb hs hin => .inr ⟨b, ?_⟩
        rw [hF d]
        exact AOp.frame0 b (fun C' => e C' _) (by rw [hs, hF c]) (hl s' hin)
      | ea z a b c d e f q =>
        rename_i j a' t off zb f0 f1
        have hcz : g.cz = some zb := by unfold DD.cz; rw [z]; rfl
        rw [hK a]
        refine fun s' bb hs hin => .inr ⟨b, ?_⟩
        rw [hF d]
        rw [hF c] at hs
        cases bb with
        | true =>
          rw [hcz] at hs ⊢
          exact AOp.frame0 b q hs (hl s' hin)
        | false =>
          rcases f with f | f
          · exact AOp.bad (hs.trans f)
          · refine AOp.away (hl s' hin t _ e) ?_
            rw [hs]
            show (f0 none).boxes[_]? = none
            rw [List.getElem?_eq_none (by rw [f]; exact Nat.le_refl _)]
      | al hmd z a b c =>
        rename_i zb
        have hcz : g.cz = some zb := by unfold DD.cz; rw [z]; rfl
        rw [hK a]
        refine fun s' j hs => ⟨_, hout b, ?_⟩
        have key : s'.st = badSto ∨ (s'.st.boxes.length = s0.st.boxes.length ∧ (g.draw l s0).F j true = s'.st.addBox zb) := by
          cases hj : g.fs[j]? with
          | none =>
            have h8 : ∀ b, (g.draw l s0).F j b = ab (bif b then g.cz else none) s0.st := fun b => by show (match g.fs[j]? with | some f => f (bif b then g.cz else none) | none => ab (bif b then g.cz else none) s0.st) = _; rw [hj]
            rw [h8] at hs ⊢
            refine .inr ⟨by rw [hs]; rfl, ?_⟩
            rw [hs, hcz]
            rfl
          | some f =>
            rw [hF hj] at hs ⊢
            rcases hv.hz hmd f (List.mem_iff_getElem?.2 ⟨_, hj⟩) with h9 | ⟨h9, h10⟩
            · exact .inl (hs.trans h9)
            · refine .inr ⟨by rw [hs]; exact h9, ?_⟩
              rw [hs, hcz]
              exact h10 zb
        rcases key with h9 | ⟨h9, h10⟩
        · exact AOp.bad h9
        · rw [h10]
          exact AOp.frame (E := []) (fun C' => c C' s'.st h9) rfl (fun t q h => by cases h)
    | skip h1 h2 h3 h4 => exact .inr ⟨hwant ho' h1, ⟨_, _, hK0 h2⟩, .inr ⟨hout h3, h4⟩⟩
  intro m a w hra
  refine wp_mono (AWP.drawn (g.draw l s0) (Q := fun e s' => e = .normal ∧ s' = ⟨((List.range (g.draw l s0).ops.size).filterMap ((g.draw l s0).gX (Array.replicate (g.draw l s0).ops.size true))) ++ (g.draw l s0).env0, (g.draw l s0).F (g.draw l s0).effs.length (g.draw l s0).alloc.isSome⟩) hm hok rfl (by obtain ⟨f, h1, h2⟩ := hv.hs0; rw [hF h1]; exact h2.symm) hstep ⟨rfl, rfl⟩ m a w hra) fun e a' w' => ?_; rintro ⟨s', m', ⟨rfl, rfl⟩, h2⟩
  obtain ⟨f, q1, q2, -, -⟩ := hv.hlast
  refine ⟨s, m', h, RA.congr h2 ((hF q1 _).trans (Eq.trans (by cases ha : g.az with | none => (show f (bif (g.az.map (·.1)).isSome then g.cz else none) = f g.cz; unfold DD.cz; rw [ha]; rfl) | some x => (show f (bif (g.az.map (·.1)).isSome then g.cz else none) = f g.cz; unfold DD.cz; rw [ha]; rfl)) q2)) fun t p ht => ?_⟩
  show ((g.draw l s0).sX (Array.replicate (g.draw l s0).ops.size true)).lk t = some p
  rcases hv.hlk t p ht with ⟨j, oj, h1, h3, h4, h5⟩ | ⟨h1, h3⟩
  · have hjl : j < l.length := (List.getElem?_eq_some_iff.1 h3).1
    exact lkX_in hn (i := j) (o := oj) (by have : j < (g.draw l s0).ops.size := (by simpa [DD.draw] using hjl); simp [Array.getD_eq_getD_getElem?, this]) (by simpa [DD.draw] using h3) h4 (hout h5)
  · rw [lkX_out hn fun i hi => ?_]
    · exact h1
    · obtain ⟨hil, oi, h6, h7⟩ := writerOf_spec hi
      exact absurd h7 (h3 i oi (by have : i < l.length := (by simpa [DD.draw] using hil); omega) (by simpa [DD.draw] using h6))
end
end Go.Proofs.YtmpepccpnnldoaaGreat

namespace Go.Proofs.YtmpepccpnnldoaaGreat

instance : TC GType := ⟨GType.cs, GType.trs, 3, GType.trs_at, GType.trs_len, fun l => by rw [GType.trs_map]; exact List.map_congr_left fun x _ => GType.tr_cs x, fun _ => rfl⟩
abbrev rType (l : List GType) : PV := .t (.row 3 (GType.trs l))
abbrev aType (l : List GType) (r : Nat) : PV := .acc 3 (GType.trs l) r
instance : TC GBound := ⟨GBound.cs, GBound.trs, 4, GBound.trs_at, GBound.trs_len, fun l => by rw [GBound.trs_map]; exact List.map_congr_left fun x _ => GBound.tr_cs x, fun _ => rfl⟩
instance : TC GSExpr := ⟨GSExpr.cs, GSExpr.trs, 2, GSExpr.trs_at, GSExpr.trs_len, fun l => by rw [GSExpr.trs_map]; exact List.map_congr_left fun x _ => GSExpr.tr_cs x, fun _ => rfl⟩
abbrev rSExpr (l : List GSExpr) : PV := .t (.row 2 (GSExpr.trs l))
abbrev aSExpr (l : List GSExpr) (r : Nat) : PV := .acc 2 (GSExpr.trs l) r
abbrev cType (x : GType) : List PV := [pI x.gKind, pS x.gName, rType x.gArgs]
abbrev cBound (x : GBound) : List PV := [pS x.gTrait, pI x.gType.gKind, pS x.gType.gName, rType x.gType.gArgs]
end Go.Proofs.YtmpepccpnnldoaaGreat

namespace Go.Proofs.YtmpepccpnnldoaaGreat

abbrev s_ : ByteArray := ⟨#[]⟩
abbrev s_A : ByteArray := ⟨#[65]⟩
abbrev s_a : ByteArray := ⟨#[97]⟩
abbrev s_abcdefghi : ByteArray := ⟨#[97, 98, 99, 100, 101, 102, 103, 104, 105]⟩
abbrev s_add : ByteArray := ⟨#[97, 100, 100]⟩
abbrev s_assoc : ByteArray := ⟨#[97, 115, 115, 111, 99]⟩
abbrev s_b : ByteArray := ⟨#[98]⟩
abbrev s_bool : ByteArray := ⟨#[98, 111, 111, 108]⟩
abbrev s_box : ByteArray := ⟨#[98, 111, 120]⟩
abbrev s_case : ByteArray := ⟨#[99, 97, 115, 101]⟩
abbrev s_dyn : ByteArray := ⟨#[100, 121, 110]⟩
abbrev s_eq : ByteArray := ⟨#[101, 113]⟩
abbrev s_false : ByteArray := ⟨#[102, 97, 108, 115, 101]⟩
abbrev s_if : ByteArray := ⟨#[105, 102]⟩
abbrev s_int : ByteArray := ⟨#[105, 110, 116]⟩
abbrev s_let : ByteArray := ⟨#[108, 101, 116]⟩
abbrev s_list : ByteArray := ⟨#[108, 105, 115, 116]⟩
abbrev s_method : ByteArray := ⟨#[109, 101, 116, 104, 111, 100]⟩
abbrev s_new : ByteArray := ⟨#[110, 101, 119]⟩
abbrev s_ord : ByteArray := ⟨#[111, 114, 100]⟩
abbrev s_pack : ByteArray := ⟨#[112, 97, 99, 107]⟩
abbrev s_pair : ByteArray := ⟨#[112, 97, 105, 114]⟩
abbrev s_send : ByteArray := ⟨#[115, 101, 110, 100]⟩
abbrev s_show : ByteArray := ⟨#[115, 104, 111, 119]⟩
abbrev s_true : ByteArray := ⟨#[116, 114, 117, 101]⟩
abbrev s_unit : ByteArray := ⟨#[117, 110, 105, 116]⟩
abbrev x_20 : ByteArray := ⟨#[32]⟩
abbrev x_27 : ByteArray := ⟨#[39]⟩
abbrev x_272d2b2a3c3d2e : ByteArray := ⟨#[39, 45, 43, 42, 60, 61, 46]⟩
abbrev x_28 : ByteArray := ⟨#[40]⟩
abbrev x_29 : ByteArray := ⟨#[41]⟩
end Go.Proofs.YtmpepccpnnldoaaGreat

namespace Go.Proofs.YtmpepccpnnldoaaGreat
set_option linter.unusedSimpArgs false
set_option linter.unusedVariables false
open Go.RowKit Go.WalkArith Go.IntWalk Go.WideShapes

def bytesStr (l : List UInt8) : ByteArray := ⟨l.toArray⟩
theorem bytesStr_size (l : List UInt8) : (bytesStr l).size = l.length := by simp [bytesStr, ByteArray.size]
theorem bytesStr_nums (l : List UInt8) : strOfNums (l.map fun b => (b.toNat : Int)) = bytesStr l := by
  unfold strOfNums bytesStr
  congr 2
  rw [List.map_map]
  conv => rhs; rw [← List.map_id l]
  apply List.map_congr_left
  intro b _
  simp
theorem byteTrs_append (a b : List UInt8) : byteTrs a ++ byteTrs b = byteTrs (a ++ b) := by simp [byteTrs]
theorem byteTrs_all (l : List UInt8) : ∀ e ∈ byteTrs l, e.length = 1 := fun e he => by
  unfold byteTrs at he
  obtain ⟨x, _, rfl⟩ := List.mem_map.1 he
  rfl

section
variable {P : Program} {C : Ctx} {n : Nat} {s : AS} {o : Oper}
theorem AOp.bytesStr {S T e : TypeId} {x : Operand} {p : PV} {l : List UInt8} (ho : o.op = .convert S T x) (hd : dstOk o.dst n = true) (hx : s.ev x = some p) (hp : rowOf p = some (1, byteTrs l)) (hS : P.underlying S = some (.slice e)) (he : P.underlying e = some (.int .u8)) (hT : P.underlying T = some .string) :
    AOp P C n o s (s.putO o.dst (.t (.leaf (.string (bytesStr l))))) :=
  AOp.quiet (dstOk_lt hd) fun m ac w h => by
    have h1 := rowOf_rv hp (h.eval hx)
    obtain ⟨a0, cap0, hv0, hl0, hm0⟩ := h1.shape
    rw [byteTrs_len] at hl0
    have hsz : LeafOk (.string (Go.Proofs.YtmpepccpnnldoaaGreat.bytesStr l)) := by show (Go.Proofs.YtmpepccpnnldoaaGreat.bytesStr l).size ≤ maxLen; rw [bytesStr_size]; omega
    refine ⟨.string (Go.Proofs.YtmpepccpnnldoaaGreat.bytesStr l), ?_, RepM.leaf hsz⟩
    generalize hv : ac.eval x = v at *
    cases h1 with
    | row c q1 q2 q3 q4 =>
      have keyAll : ∀ (a : Option Addr) (cap : Nat) (q3 : byteTrs l ≠ [] → ∃ b off, a = some ⟨b, off, none⟩ ∧ b < w.heap.size ∧ ∀ (i : Nat) (e : List Tr), (byteTrs l)[i]? = some e → ∀ (j : Nat) (d : Tr), e[j]? = some d → okA C.av s.st m b (off + i * 1 + j) ∧ w.cell? ⟨b, off + i * 1 + j, none⟩ = some (c i j)), (convert S T (.slice a (byteTrs l).length cap)).run P w = .ok (.string (Go.Proofs.YtmpepccpnnldoaaGreat.bytesStr l)) w := fun a cap q3 => by
        by_cases hne : l = []
        · subst hne
          have hlen : (byteTrs []).length = 0 := rfl
          rw [hlen]
          cases a with
          | none => exact run_convert_bytes_nil (P := P) w S e hS he 0 cap T hT
          | some a =>
            obtain ⟨b, off, sp⟩ := a
            have hld : (loadCells ⟨b, off, sp⟩ 0).run P w = .ok (([] : List Int).map (Value.int .u8)).toArray w := by simp [loadCells, loadCellsFrom]
            rw [run_convert_bytes_string w S T e _ 0 cap hS he hT, run_bytesToString w _ 0 cap [] hld]
            rfl
        · obtain ⟨b, off, ha, hb, hc⟩ := q3 (by intro h0; apply hne; have := congrArg List.length h0; rw [byteTrs_len] at this; exact List.eq_nil_of_length_eq_zero this)
          subst ha
          have := run_convert_bytes_arg (P := P) w S e hS he b off (byteTrs l).length cap (l.map fun b => (b.toNat : Int)) (by simp [byteTrs_len]) (fun i hi => by
            rw [byteTrs_len] at hi
            have h4 := (hc i _ (byteTrs_cs hi) 0 (.leaf (.int .u8 ((l[i]).toNat : Int))) rfl).2
            have h5 := (q4 i _ (byteTrs_cs hi) 0 (.leaf (.int .u8 ((l[i]).toNat : Int))) rfl).rep.leaf_eq.1
            rw [Nat.mul_one, Nat.add_zero] at h4
            rw [h4, h5]
            simp [hi]) T hT
          rw [bytesStr_nums] at this
          exact this
      unfold execOp
      simp only [ho, hv]
      rw [Sem.run_bind, keyAll _ _ q3]
      rfl
end
end Go.Proofs.YtmpepccpnnldoaaGreat

namespace Go.Proofs.YtmpepccpnnldoaaGreat.W
set_option maxRecDepth 100000
set_option maxHeartbeats 40000000
noncomputable section
open Go.RowKit Go.Proofs
set_option linter.unusedSimpArgs false
set_option linter.unusedVariables false

attribute [local irreducible] lt

def sl4Var_T (m : ByteArray → Option GType) : Prop := ∀ (ps : ByteArray) (r : GType), m ps = some r → AOwn Tryz.prog 50 [pS ps] ⟨[], []⟩ [] 26 3 (GType.trs (r.gArgs)) (fun k => .agg [pI r.gKind, pS r.gName, aType r.gArgs k])
def sl4Var_M (fu : Nat) (ps : ByteArray) : Option GType :=
 some (GType.mk 1 ps [])
theorem sl4Var_ok (fu : Nat)   : sl4Var_T (sl4Var_M fu) := by
  intro ps r H
  unfold AOwn
  have H := hd0 H
  refine qI Tryz.func50 (fun C hC => ?_)
  refine qS (qR (q1 (rAl zr26) (qN (qS (qR (q1 rMv (q1 (rBd zr26 pl26) (q1 (rSu sz26) (qN (AWP.wk (Wk.regBox (k := 0) (j := 2) 26 3 (by decide) rfl rfl) (AWP.ret ?_)))))))))))
  obtain rfl : _ = r := (smI H :)
  exact qe1 (st' := ⟨[], [⟨26, 3, GType.trs ([]), false⟩]⟩) ⟨0, rfl, rfl, rfl⟩ (hr := ⟨⟨_, _, _, rfl, rfl, sh26, rfl, rfl⟩, trivial⟩)

def sl4Con_T (m : ByteArray → (List GType) → Option GType) : Prop := ∀ (ps : ByteArray) (pargs : List GType) (r : GType), m ps pargs = some r → AOwn Tryz.prog 37 [pS ps, rType pargs] ⟨[], []⟩ [] 26 3 (GType.trs (r.gArgs)) (fun k => .agg [pI r.gKind, pS r.gName, aType r.gArgs k])
theorem sl4Con_pl {m : ByteArray → (List GType) → Option GType} (h : sl4Con_T m) (ps : ByteArray) (pargs : List GType) (r : GType) (H : m ps pargs = some r) : AFun Tryz.prog 37 [pS ps, rType pargs] ((GType.pv r) : PV) := (h ps pargs r H).plain (fun _ => leA) (hp := keep0n)
def sl4Con_M (fu : Nat) (ps : ByteArray) (pargs : List GType) : Option GType :=
 gd (([] : List GType).length + (pargs).length ≤ 68719476736)
 (some (GType.mk 2 ps (([]) ++ pargs)))
theorem sl4Con_ok (fu : Nat)   : sl4Con_T (sl4Con_M fu) := by
  intro ps pargs r H
  unfold AOwn
  have H := hd0 H
  refine qI Tryz.func37 (fun C hC => ?_)
  refine qS (qR (q1 (rAl zr26) (qN (qS (qR (q1 rMv (q1 (rBa ([] : List GType) el24 zr26) (q1 rMv (gdE H fun z1 H => (q1 (rAp z1 el24 ze24) (q1 (rBd zr26 pl26) (q1 (rSu sz26) (qN ?_)))))))))))))
  refine AWP.ret ?_
  obtain rfl : _ = r := (smI H :)
  exact qe1 (st' := ⟨[], [⟨26, 3, GType.trs (([]) ++ pargs), false⟩]⟩) ⟨0, rfl, rfl, rfl⟩ (hr := ⟨⟨_, _, _, rfl, rfl, sh26, rfl, rfl⟩, trivial⟩)

abbrev sl4Ty_Y := DS → (List ByteArray) → Int → Option (GType × DS)
def sl4Ty_T (m : sl4Ty_Y) : Prop := ∀ (pc : DS) (pvars : List ByteArray) (pdeep : Int) (r : GType × DS), m pc pvars pdeep = some r → AOwn Tryz.prog 66 [.ptr 0 0, rS pvars, pI pdeep] ⟨[some ⟨58, dC pc⟩], []⟩ [some ⟨58, dC r.2⟩] 26 3 (GType.trs (r.1.gArgs)) (fun k => .agg [pI r.1.gKind, pS r.1.gName, aType r.1.gArgs k])
def sl4Ty_G (fu : Nat) (r_sl4Ty : sl4Ty_Y) (pc : DS) (pvars : List ByteArray) (pdeep : Int) : Option (GType × DS) :=
 lt (pc.after 8) (fun d1 =>
 sw (decide ((((pc.below 8 : Nat) : Int) : Int) < 3))
 (sw (decide ((((pvars.length : Nat) : Int) : Int) > 0))
 (lt (d1.after pvars.length) (fun d5 =>
 gd (d1.below pvars.length < (pvars).length)
 (bd (sl4Var_M fu (atD pvars (d1.below pvars.length))) (fun x9 =>
 some ((GType.mk x9.gKind x9.gName x9.gArgs), d5)))))
 (sw (decide ((((pc.below 8 : Nat) : Int) : Int) < 5))
 (lt (d1.after ([s_int, s_bool, s_unit] : List ByteArray).length) (fun d11 =>
 lt (d1.pick ([s_int, s_bool, s_unit] : List ByteArray)) (fun y13 =>
 bd (sl4Con_M fu y13 ([])) (fun x16 =>
 some ((GType.mk x16.gKind x16.gName x16.gArgs), d11)))))
 (sw (decide ((pdeep : Int) ≤ 0))
 (lt (d1.after ([s_int, s_bool, s_unit] : List ByteArray).length) (fun d18 =>
 lt (d1.pick ([s_int, s_bool, s_unit] : List ByteArray)) (fun y20 =>
 bd (sl4Con_M fu y20 ([])) (fun x23 =>
 some ((GType.mk x23.gKind x23.gName x23.gArgs), d18)))))
 (sw (decide ((((pc.below 8 : Nat) : Int) : Int) = 5))
 (bd (r_sl4Ty d1 pvars (wrap64 (pdeep - 1))) (fun (x26, x27) =>
 bd (r_sl4Ty x27 pvars (wrap64 (pdeep - 1))) (fun (x29, x30) =>
 bd (sl4Con_M fu s_pair ([(GType.mk x26.gKind x26.gName x26.gArgs), (GType.mk x29.gKind x29.gName x29.gArgs)] : List GType)) (fun x32 =>
 some ((GType.mk x32.gKind x32.gName x32.gArgs), x30)))))
 (lt (d1.after ([s_list, s_list, s_box] : List ByteArray).length) (fun d33 =>
 lt (d1.pick ([s_list, s_list, s_box] : List ByteArray)) (fun y35 =>
 bd (r_sl4Ty d33 pvars (wrap64 (pdeep - 1))) (fun (x38, x39) =>
 bd (sl4Con_M fu y35 ([(GType.mk x38.gKind x38.gName x38.gArgs)] : List GType)) (fun x41 =>
 some ((GType.mk x41.gKind x41.gName x41.gArgs), x39))))))))))
 (sw (decide ((((pc.below 8 : Nat) : Int) : Int) < 5))
 (lt (d1.after ([s_int, s_bool, s_unit] : List ByteArray).length) (fun d43 =>
 lt (d1.pick ([s_int, s_bool, s_unit] : List ByteArray)) (fun y45 =>
 bd (sl4Con_M fu y45 ([])) (fun x48 =>
 some ((GType.mk x48.gKind x48.gName x48.gArgs), d43)))))
 (sw (decide ((pdeep : Int) ≤ 0))
 (lt (d1.after ([s_int, s_bool, s_unit] : List ByteArray).length) (fun d50 =>
 lt (d1.pick ([s_int, s_bool, s_unit] : List ByteArray)) (fun y52 =>
 bd (sl4Con_M fu y52 ([])) (fun x55 =>
 some ((GType.mk x55.gKind x55.gName x55.gArgs), d50)))))
 (sw (decide ((((pc.below 8 : Nat) : Int) : Int) = 5))
 (bd (r_sl4Ty d1 pvars (wrap64 (pdeep - 1))) (fun (x58, x59) =>
 bd (r_sl4Ty x59 pvars (wrap64 (pdeep - 1))) (fun (x61, x62) =>
 bd (sl4Con_M fu s_pair ([(GType.mk x58.gKind x58.gName x58.gArgs), (GType.mk x61.gKind x61.gName x61.gArgs)] : List GType)) (fun x64 =>
 some ((GType.mk x64.gKind x64.gName x64.gArgs), x62)))))
 (lt (d1.after ([s_list, s_list, s_box] : List ByteArray).length) (fun d65 =>
 lt (d1.pick ([s_list, s_list, s_box] : List ByteArray)) (fun y67 =>
 bd (r_sl4Ty d65 pvars (wrap64 (pdeep - 1))) (fun (x70, x71) =>
 bd (sl4Con_M fu y67 ([(GType.mk x70.gKind x70.gName x70.gArgs)] : List GType)) (fun x73 =>
 some ((GType.mk x73.gKind x73.gName x73.gArgs), x71))))))))))
theorem sl4Ty_step (fu : Nat) (r_sl4Ty : sl4Ty_Y) (h_sl4Ty : sl4Ty_T r_sl4Ty) : sl4Ty_T (sl4Ty_G fu r_sl4Ty) := by
  intro pc pvars pdeep r H
  unfold AOwn
  have H := hd0 H
  refine qI Tryz.func66 (fun C hC => ?_)
  refine qS (qR (q1 (rAl zr26) (qN (qS (qR (q1 rMv (ltQ H fun d1 h2 H => (q1 (rCp [0] [] Tryz.func33 (nmD h2 (below_ok pc 8))) (q1 rMv (qN (qS (AWP.block (qS ?_)))))))))))))
  refine qR (q1 rMv (q1 rLt (q1 rMv ?_)))
  refine spB 13 H (fun g3 H => ?_) fun g3 H => ?_
  · have g3n : pc.below 8 < 3 := by have := of_decide_eq_true g3; omega
    refine qg g3 rMv (qg g3 (rLn el39 (strTrs_len _)) (qg g3 rGt (q1 (rPt g3) (q1 rMv (qN ?_)))))
    refine cndB H (fun h4 H => ?_) (fun h4 H => ?_)
    · refine qS (qR ?_)
      iterate 3 refine q1 rMv ?_
      refine q1 (rLn el39 (strTrs_len _)) (ltQ H fun d5 h6 H => (q1 (rCp [0] [] Tryz.func33 (nmD h6 (below_ok d1 pvars.length))) (gdE H fun z7 H => (q1 (rIx z7 el39) (q1 (rK1 sh9) (bdE H fun x9 z8 H => (q1 (AOp.callOwn (pre := ⟨[], []⟩) (B := []) (R := fun k => .agg [pI x9.gKind, pS x9.gName, aType x9.gArgs k]) (ps := [_]) (qs := [pS (atD pvars (d1.below pvars.length))]) [] rfl rfl Tryz.func50 (by kernel_rfl) rfl rfl rfl (Part0.of trivial trivial (by decide) (by decide)) rfl leA rfl rfl rfl (fun k k' => (.agg (.cons (.free _ rfl) (.cons (.free _ rfl) (.cons Mv.acc MvL.nil))))) (sl4Var_ok fu (atD pvars (d1.below pvars.length)) _ z8)) (q1 (rSu sz26) (qN (AWP.ret ?_))))))))))
      obtain rfl : _ = r := (smI H :)
      exact qe1 (st' := ⟨[some ⟨58, dC d5⟩], [⟨26, 3, GType.trs (x9.gArgs), false⟩]⟩) ⟨0, rfl, rfl, rfl⟩ (hr := ⟨⟨_, _, _, rfl, rfl, sh26, rfl, rfl⟩, trivial⟩)
    refine qS (qR (q1 rMv (q1 rLt (q1 rMv ?_))))
    refine spB 29 H (fun g10 H => ?_) fun g10 H => ?_
    · have g10n : pc.below 8 < 5 := by have := of_decide_eq_true g10; omega
      iterate 2 refine qk g10 ?_
      refine q1 (rPt g10) (q1 rMv (qN (cndT rfl (qS (qR (q1 rMv (q1 (rBs ([s_int, s_bool, s_unit] : List ByteArray) el39 zr9) (ltQ H fun d11 h12 H => (ltQ H fun y13 h14 H => (q1 (rCp [0] [] Tryz.func15 (nmP h12 h14 (pick_ok d1 ([s_int, s_bool, s_unit] : List ByteArray) (by decide)))) (bdE H fun x16 z15 H => (q1 (AOp.callOwn (pre := ⟨[], []⟩) (B := []) (R := fun k => .agg [pI x16.gKind, pS x16.gName, aType x16.gArgs k]) (ps := [_, _]) (qs := [pS y13, _]) [] rfl rfl Tryz.func37 (by kernel_rfl) rfl rfl rfl (Part0.of trivial trivial (by decide) (by decide)) rfl leA rfl rfl rfl (fun k k' => (.agg (.cons (.free _ rfl) (.cons (.free _ rfl) (.cons Mv.acc MvL.nil))))) (sl4Con_ok fu y13 ([]) _ z15)) (q1 (rSu sz26) ?_)))))))))))))
      refine qN (AWP.ret ?_)
      obtain rfl : _ = r := (smI H :)
      exact qe1 (st' := ⟨[some ⟨58, dC d11⟩], [⟨26, 3, GType.trs (x16.gArgs), false⟩]⟩) ⟨0, rfl, rfl, rfl⟩ (hr := ⟨⟨_, _, _, rfl, rfl, sh26, rfl, rfl⟩, trivial⟩)
    refine qg g10 rMv (qg g10 rLe (q1 (rPf g10) (q1 rMv (qN ?_))))
    refine cndB H (fun h17 H => ?_) (fun h17 H => ?_)
    · refine qS (qR (q1 rMv (q1 (rBs ([s_int, s_bool, s_unit] : List ByteArray) el39 zr9) (ltQ H fun d18 h19 H => (ltQ H fun y20 h21 H => (q1 (rCp [0] [] Tryz.func15 (nmP h19 h21 (pick_ok d1 ([s_int, s_bool, s_unit] : List ByteArray) (by decide)))) (bdE H fun x23 z22 H => (q1 (AOp.callOwn (pre := ⟨[], []⟩) (B := []) (R := fun k => .agg [pI x23.gKind, pS x23.gName, aType x23.gArgs k]) (ps := [_, _]) (qs := [pS y20, _]) [] rfl rfl Tryz.func37 (by kernel_rfl) rfl rfl rfl (Part0.of trivial trivial (by decide) (by decide)) rfl leA rfl rfl rfl (fun k k' => (.agg (.cons (.free _ rfl) (.cons (.free _ rfl) (.cons Mv.acc MvL.nil))))) (sl4Con_ok fu y20 ([]) _ z22)) (q1 (rSu sz26) (qN (AWP.ret ?_)))))))))))
      obtain rfl : _ = r := (smI H :)
      exact qe1 (st' := ⟨[some ⟨58, dC d18⟩], [⟨26, 3, GType.trs (x23.gArgs), false⟩]⟩) ⟨0, rfl, rfl, rfl⟩ (hr := ⟨⟨_, _, _, rfl, rfl, sh26, rfl, rfl⟩, trivial⟩)
    refine qS (qR (q1 rMv (q1 rEq (q1 rMv (qN ?_)))))
    refine cndB H (fun h24 H => ?_) (fun h24 H => ?_)
    · refine qS (qR ?_)
      iterate 3 refine q1 rMv ?_
      refine q1 rSw (bdE2 H fun x26 x27 z25 H => (q1 (AOp.callOwn (pre := ⟨[some ⟨58, dC d1⟩], []⟩) (B := [some ⟨58, dC x27⟩]) (R := fun k => .agg [pI x26.gKind, pS x26.gName, aType x26.gArgs k]) (ps := [_, _, _]) (qs := [.ptr 0 0, rS pvars, pI (wrap64 (pdeep - 1))]) [0] rfl rfl Tryz.func66 (by kernel_rfl) rfl rfl rfl (Part0.of ⟨⟨_, rfl, rfl, leA, rfl⟩, trivial⟩ trivial (by decide) (by decide)) rfl leA rfl rfl rfl (fun k k' => (.agg (.cons (.free _ rfl) (.cons (.free _ rfl) (.cons Mv.acc MvL.nil))))) (h_sl4Ty d1 pvars (wrap64 (pdeep - 1)) _ z25)) ?_))
      iterate 3 refine q1 rMv ?_
      refine q1 rSw (bdE2 H fun x29 x30 z28 H => (q1 (AOp.callOwn (pre := ⟨[some ⟨58, dC x27⟩], []⟩) (B := [some ⟨58, dC x30⟩]) (R := fun k => .agg [pI x29.gKind, pS x29.gName, aType x29.gArgs k]) (ps := [_, _, _]) (qs := [.ptr 0 0, rS pvars, pI (wrap64 (pdeep - 1))]) [0] rfl rfl Tryz.func66 (by kernel_rfl) rfl rfl rfl (Part0.of ⟨⟨_, rfl, rfl, leA, rfl⟩, trivial⟩ trivial (by decide) (by decide)) rfl leA rfl rfl rfl (fun k k' => (.agg (.cons (.free _ rfl) (.cons (.free _ rfl) (.cons Mv.acc MvL.nil))))) (h_sl4Ty x27 pvars (wrap64 (pdeep - 1)) _ z28)) (q1 (rBa ([(GType.mk x26.gKind x26.gName x26.gArgs), (GType.mk x29.gKind x29.gName x29.gArgs)] : List GType) el24 zr26) (bdE H fun x32 z31 H => (q1 (AOp.callOwn (pre := ⟨[], []⟩) (B := []) (R := fun k => .agg [pI x32.gKind, pS x32.gName, aType x32.gArgs k]) (ps := [_, _]) (qs := [pS s_pair, rType ([(GType.mk x26.gKind x26.gName x26.gArgs), (GType.mk x29.gKind x29.gName x29.gArgs)] : List GType)]) [] rfl rfl Tryz.func37 (by kernel_rfl) rfl rfl rfl (Part0.of trivial trivial (by decide) (by decide)) rfl leA rfl rfl rfl (fun k k' => (.agg (.cons (.free _ rfl) (.cons (.free _ rfl) (.cons Mv.acc MvL.nil))))) (sl4Con_ok fu s_pair ([(GType.mk x26.gKind x26.gName x26.gArgs), (GType.mk x29.gKind x29.gName x29.gArgs)] : List GType) _ z31)) (q1 (rSu sz26) (qN (AWP.ret ?_))))))))
      obtain rfl : _ = r := (smI H :)
      exact qe1 (st' := ⟨[some ⟨58, dC x30⟩], [⟨26, 3, GType.trs (x26.gArgs), false⟩, ⟨26, 3, GType.trs (x29.gArgs), false⟩, ⟨26, 3, GType.trs (([(GType.mk x26.gKind x26.gName x26.gArgs), (GType.mk x29.gKind x29.gName x29.gArgs)] : List GType)), false⟩, ⟨26, 3, GType.trs (x32.gArgs), false⟩]⟩) ⟨3, rfl, rfl, rfl⟩ (hr := ⟨⟨_, _, _, rfl, rfl, sh26, rfl, rfl⟩, trivial⟩)
    refine AWP.skip (qS (qR (q1 rMv (q1 (rBs ([s_list, s_list, s_box] : List ByteArray) el39 zr9) (ltQ H fun d33 h34 H => (ltQ H fun y35 h36 H => (q1 (rCp [0] [] Tryz.func15 (nmP h34 h36 (pick_ok d1 ([s_list, s_list, s_box] : List ByteArray) (by decide)))) ?_)))))))
    iterate 3 refine q1 rMv ?_
    refine q1 rSw (bdE2 H fun x38 x39 z37 H => (q1 (AOp.callOwn (pre := ⟨[some ⟨58, dC d33⟩], []⟩) (B := [some ⟨58, dC x39⟩]) (R := fun k => .agg [pI x38.gKind, pS x38.gName, aType x38.gArgs k]) (ps := [_, _, _]) (qs := [.ptr 0 0, rS pvars, pI (wrap64 (pdeep - 1))]) [0] rfl rfl Tryz.func66 (by kernel_rfl) rfl rfl rfl (Part0.of ⟨⟨_, rfl, rfl, leA, rfl⟩, trivial⟩ trivial (by decide) (by decide)) rfl leA rfl rfl rfl (fun k k' => (.agg (.cons (.free _ rfl) (.cons (.free _ rfl) (.cons Mv.acc MvL.nil))))) (h_sl4Ty d33 pvars (wrap64 (pdeep - 1)) _ z37)) (q1 (rBa ([(GType.mk x38.gKind x38.gName x38.gArgs)] : List GType) el24 zr26) (bdE H fun x41 z40 H => (q1 (AOp.callOwn (pre := ⟨[], []⟩) (B := []) (R := fun k => .agg [pI x41.gKind, pS x41.gName, aType x41.gArgs k]) (ps := [_, _]) (qs := [pS y35, rType ([(GType.mk x38.gKind x38.gName x38.gArgs)] : List GType)]) [] rfl rfl Tryz.func37 (by kernel_rfl) rfl rfl rfl (Part0.of trivial trivial (by decide) (by decide)) rfl leA rfl rfl rfl (fun k k' => (.agg (.cons (.free _ rfl) (.cons (.free _ rfl) (.cons Mv.acc MvL.nil))))) (sl4Con_ok fu y35 ([(GType.mk x38.gKind x38.gName x38.gArgs)] : List GType) _ z40)) (q1 (rSu sz26) (qN (AWP.ret ?_))))))))
    obtain rfl : _ = r := (smI H :)
    exact qe1 (st' := ⟨[some ⟨58, dC x39⟩], [⟨26, 3, GType.trs (x38.gArgs), false⟩, ⟨26, 3, GType.trs (([(GType.mk x38.gKind x38.gName x38.gArgs)] : List GType)), false⟩, ⟨26, 3, GType.trs (x41.gArgs), false⟩]⟩) ⟨2, rfl, rfl, rfl⟩ (hr := ⟨⟨_, _, _, rfl, rfl, sh26, rfl, rfl⟩, trivial⟩)
  iterate 3 refine qk g3 ?_
  refine q1 (rPf g3) (q1 rMv (qN (cndF rfl (qS (qR (q1 rMv (q1 rLt (q1 rMv ?_))))))))
  refine spB 29 H (fun g42 H => ?_) fun g42 H => ?_
  · have g42n : pc.below 8 < 5 := by have := of_decide_eq_true g42; omega
    iterate 2 refine qk g42 ?_
    refine q1 (rPt g42) (q1 rMv (qN (cndT rfl (qS (qR (q1 rMv (q1 (rBs ([s_int, s_bool, s_unit] : List ByteArray) el39 zr9) (ltQ H fun d43 h44 H => (ltQ H fun y45 h46 H => (q1 (rCp [0] [] Tryz.func15 (nmP h44 h46 (pick_ok d1 ([s_int, s_bool, s_unit] : List ByteArray) (by decide)))) (bdE H fun x48 z47 H => (q1 (AOp.callOwn (pre := ⟨[], []⟩) (B := []) (R := fun k => .agg [pI x48.gKind, pS x48.gName, aType x48.gArgs k]) (ps := [_, _]) (qs := [pS y45, _]) [] rfl rfl Tryz.func37 (by kernel_rfl) rfl rfl rfl (Part0.of trivial trivial (by decide) (by decide)) rfl leA rfl rfl rfl (fun k k' => (.agg (.cons (.free _ rfl) (.cons (.free _ rfl) (.cons Mv.acc MvL.nil))))) (sl4Con_ok fu y45 ([]) _ z47)) (q1 (rSu sz26) ?_)))))))))))))
    refine qN (AWP.ret ?_)
    obtain rfl : _ = r := (smI H :)
    exact qe1 (st' := ⟨[some ⟨58, dC d43⟩], [⟨26, 3, GType.trs (x48.gArgs), false⟩]⟩) ⟨0, rfl, rfl, rfl⟩ (hr := ⟨⟨_, _, _, rfl, rfl, sh26, rfl, rfl⟩, trivial⟩)
  refine qg g42 rMv (qg g42 rLe (q1 (rPf g42) (q1 rMv (qN ?_))))
  refine cndB H (fun h49 H => ?_) (fun h49 H => ?_)
  · refine qS (qR (q1 rMv (q1 (rBs ([s_int, s_bool, s_unit] : List ByteArray) el39 zr9) (ltQ H fun d50 h51 H => (ltQ H fun y52 h53 H => (q1 (rCp [0] [] Tryz.func15 (nmP h51 h53 (pick_ok d1 ([s_int, s_bool, s_unit] : List ByteArray) (by decide)))) (bdE H fun x55 z54 H => (q1 (AOp.callOwn (pre := ⟨[], []⟩) (B := []) (R := fun k => .agg [pI x55.gKind, pS x55.gName, aType x55.gArgs k]) (ps := [_, _]) (qs := [pS y52, _]) [] rfl rfl Tryz.func37 (by kernel_rfl) rfl rfl rfl (Part0.of trivial trivial (by decide) (by decide)) rfl leA rfl rfl rfl (fun k k' => (.agg (.cons (.free _ rfl) (.cons (.free _ rfl) (.cons Mv.acc MvL.nil))))) (sl4Con_ok fu y52 ([]) _ z54)) (q1 (rSu sz26) (qN (AWP.ret ?_)))))))))))
    obtain rfl : _ = r := (smI H :)
    exact qe1 (st' := ⟨[some ⟨58, dC d50⟩], [⟨26, 3, GType.trs (x55.gArgs), false⟩]⟩) ⟨0, rfl, rfl, rfl⟩ (hr := ⟨⟨_, _, _, rfl, rfl, sh26, rfl, rfl⟩, trivial⟩)
  refine qS (qR (q1 rMv (q1 rEq (q1 rMv (qN ?_)))))
  refine cndB H (fun h56 H => ?_) (fun h56 H => ?_)
  · refine qS (qR ?_)
    iterate 3 refine q1 rMv ?_
    refine q1 rSw (bdE2 H fun x58 x59 z57 H => (q1 (AOp.callOwn (pre := ⟨[some ⟨58, dC d1⟩], []⟩) (B := [some ⟨58, dC x59⟩]) (R := fun k => .agg [pI x58.gKind, pS x58.gName, aType x58.gArgs k]) (ps := [_, _, _]) (qs := [.ptr 0 0, rS pvars, pI (wrap64 (pdeep - 1))]) [0] rfl rfl Tryz.func66 (by kernel_rfl) rfl rfl rfl (Part0.of ⟨⟨_, rfl, rfl, leA, rfl⟩, trivial⟩ trivial (by decide) (by decide)) rfl leA rfl rfl rfl (fun k k' => (.agg (.cons (.free _ rfl) (.cons (.free _ rfl) (.cons Mv.acc MvL.nil))))) (h_sl4Ty d1 pvars (wrap64 (pdeep - 1)) _ z57)) ?_))
    iterate 3 refine q1 rMv ?_
    refine q1 rSw (bdE2 H fun x61 x62 z60 H => (q1 (AOp.callOwn (pre := ⟨[some ⟨58, dC x59⟩], []⟩) (B := [some ⟨58, dC x62⟩]) (R := fun k => .agg [pI x61.gKind, pS x61.gName, aType x61.gArgs k]) (ps := [_, _, _]) (qs := [.ptr 0 0, rS pvars, pI (wrap64 (pdeep - 1))]) [0] rfl rfl Tryz.func66 (by kernel_rfl) rfl rfl rfl (Part0.of ⟨⟨_, rfl, rfl, leA, rfl⟩, trivial⟩ trivial (by decide) (by decide)) rfl leA rfl rfl rfl (fun k k' => (.agg (.cons (.free _ rfl) (.cons (.free _ rfl) (.cons Mv.acc MvL.nil))))) (h_sl4Ty x59 pvars (wrap64 (pdeep - 1)) _ z60)) (q1 (rBa ([(GType.mk x58.gKind x58.gName x58.gArgs), (GType.mk x61.gKind x61.gName x61.gArgs)] : List GType) el24 zr26) (bdE H fun x64 z63 H => (q1 (AOp.callOwn (pre := ⟨[], []⟩) (B := []) (R := fun k => .agg [pI x64.gKind, pS x64.gName, aType x64.gArgs k]) (ps := [_, _]) (qs := [pS s_pair, rType ([(GType.mk x58.gKind x58.gName x58.gArgs), (GType.mk x61.gKind x61.gName x61.gArgs)] : List GType)]) [] rfl rfl Tryz.func37 (by kernel_rfl) rfl rfl rfl (Part0.of trivial trivial (by decide) (by decide)) rfl leA rfl rfl rfl (fun k k' => (.agg (.cons (.free _ rfl) (.cons (.free _ rfl) (.cons Mv.acc MvL.nil))))) (sl4Con_ok fu s_pair ([(GType.mk x58.gKind x58.gName x58.gArgs), (GType.mk x61.gKind x61.gName x61.gArgs)] : List GType) _ z63)) (q1 (rSu sz26) (qN (AWP.ret ?_))))))))
    obtain rfl : _ = r := (smI H :)
    exact qe1 (st' := ⟨[some ⟨58, dC x62⟩], [⟨26, 3, GType.trs (x58.gArgs), false⟩, ⟨26, 3, GType.trs (x61.gArgs), false⟩, ⟨26, 3, GType.trs (([(GType.mk x58.gKind x58.gName x58.gArgs), (GType.mk x61.gKind x61.gName x61.gArgs)] : List GType)), false⟩, ⟨26, 3, GType.trs (x64.gArgs), false⟩]⟩) ⟨3, rfl, rfl, rfl⟩ (hr := ⟨⟨_, _, _, rfl, rfl, sh26, rfl, rfl⟩, trivial⟩)
  refine AWP.skip (qS (qR (q1 rMv (q1 (rBs ([s_list, s_list, s_box] : List ByteArray) el39 zr9) (ltQ H fun d65 h66 H => (ltQ H fun y67 h68 H => (q1 (rCp [0] [] Tryz.func15 (nmP h66 h68 (pick_ok d1 ([s_list, s_list, s_box] : List ByteArray) (by decide)))) ?_)))))))
  iterate 3 refine q1 rMv ?_
  refine q1 rSw (bdE2 H fun x70 x71 z69 H => (q1 (AOp.callOwn (pre := ⟨[some ⟨58, dC d65⟩], []⟩) (B := [some ⟨58, dC x71⟩]) (R := fun k => .agg [pI x70.gKind, pS x70.gName, aType x70.gArgs k]) (ps := [_, _, _]) (qs := [.ptr 0 0, rS pvars, pI (wrap64 (pdeep - 1))]) [0] rfl rfl Tryz.func66 (by kernel_rfl) rfl rfl rfl (Part0.of ⟨⟨_, rfl, rfl, leA, rfl⟩, trivial⟩ trivial (by decide) (by decide)) rfl leA rfl rfl rfl (fun k k' => (.agg (.cons (.free _ rfl) (.cons (.free _ rfl) (.cons Mv.acc MvL.nil))))) (h_sl4Ty d65 pvars (wrap64 (pdeep - 1)) _ z69)) (q1 (rBa ([(GType.mk x70.gKind x70.gName x70.gArgs)] : List GType) el24 zr26) (bdE H fun x73 z72 H => (q1 (AOp.callOwn (pre := ⟨[], []⟩) (B := []) (R := fun k => .agg [pI x73.gKind, pS x73.gName, aType x73.gArgs k]) (ps := [_, _]) (qs := [pS y67, rType ([(GType.mk x70.gKind x70.gName x70.gArgs)] : List GType)]) [] rfl rfl Tryz.func37 (by kernel_rfl) rfl rfl rfl (Part0.of trivial trivial (by decide) (by decide)) rfl leA rfl rfl rfl (fun k k' => (.agg (.cons (.free _ rfl) (.cons (.free _ rfl) (.cons Mv.acc MvL.nil))))) (sl4Con_ok fu y67 ([(GType.mk x70.gKind x70.gName x70.gArgs)] : List GType) _ z72)) (q1 (rSu sz26) (qN (AWP.ret ?_))))))))
  obtain rfl : _ = r := (smI H :)
  exact qe1 (st' := ⟨[some ⟨58, dC x71⟩], [⟨26, 3, GType.trs (x70.gArgs), false⟩, ⟨26, 3, GType.trs (([(GType.mk x70.gKind x70.gName x70.gArgs)] : List GType)), false⟩, ⟨26, 3, GType.trs (x73.gArgs), false⟩]⟩) ⟨2, rfl, rfl, rfl⟩ (hr := ⟨⟨_, _, _, rfl, rfl, sh26, rfl, rfl⟩, trivial⟩)
def sl4Ty_M : Nat → DS → (List ByteArray) → Int → Option (GType × DS)
  | 0, _, _, _ => none
  | fu + 1, pc, pvars, pdeep => sl4Ty_G fu (sl4Ty_M fu) pc pvars pdeep
theorem sl4Ty_all (fu : Nat) : sl4Ty_T (sl4Ty_M fu) := by
  induction fu with
  | zero => exact (fun pc pvars pdeep r H => by simp only [sl4Ty_M] at H; cases H)
  | succ fu ih => exact (fun pc pvars pdeep r H => by simp only [sl4Ty_M] at H; exact sl4Ty_step fu (sl4Ty_M fu) ih pc pvars pdeep r H)
theorem sl4Ty_ok (fu : Nat) : sl4Ty_T (sl4Ty_M fu) := (sl4Ty_all fu)

abbrev sl4Copy_Y := GType → Option GType
abbrev sl4Copies_Y := (List GType) → Option ((List GType))
def sl4Copy_T (m : sl4Copy_Y) : Prop := ∀ (pt : GType) (r : GType), m pt = some r → AFun Tryz.prog 89 [(GType.pv pt)] ((GType.pv r) : PV)
def sl4Copies_T (m : sl4Copies_Y) : Prop := ∀ (plist : List GType) (r : (List GType)), m plist = some r → AFun Tryz.prog 100 [rType plist] (rType r : PV)
def sl4Copy_G (fu : Nat) (r_sl4Copy : sl4Copy_Y) (r_sl4Copies : sl4Copies_Y) (pt : GType) : Option GType :=
 bd (r_sl4Copies pt.gArgs) (fun x2 =>
 some (GType.mk pt.gKind pt.gName x2))
theorem sl4Copy_step (fu : Nat) (r_sl4Copy : sl4Copy_Y) (r_sl4Copies : sl4Copies_Y) (h_sl4Copy : sl4Copy_T r_sl4Copy) (h_sl4Copies : sl4Copies_T r_sl4Copies) : sl4Copy_T (sl4Copy_G fu r_sl4Copy r_sl4Copies) := by
  intro pt r H
  have H := hd0 H
  refine qI Tryz.func89 (fun C hC => ?_)
  refine qS (qR (q1 (rBx (cType pt)) (q1 (rAl zr26) (qN (qS (bdE H fun x2 z1 H => (dW (dI [1] (rFp fo26_0) (dD [3] (rL1 sh3) (dI [1] (rFp fo26_1) (dD [5] (rL1 sh9) (dI [1] (rFp fo26_2) (dD [7] (rL1 sh24) ?_)))))))))))))
  refine dI [8] (rCf Tryz.func100 (h_sl4Copies pt.gArgs _ z1)) (dI [4, 6, 9] (rBd zr26 pl26) (dE0 [2, 10] (rSu sz26) (dN (AWP.ret ?_))))
  obtain rfl : _ = r := (smI H :)
  exact qe1 (hr := ⟨⟨_, _, _, rfl, rfl, sh26, rfl, rfl⟩, trivial⟩)
def sl4Copies_F1 (fu : Nat) (r_sl4Copy : sl4Copy_Y) (r_sl4Copies : sl4Copies_Y) (plist : List GType) : Nat → ((List GType)) → Option (LR ((List GType)) ((List GType))) :=
 fun i1 v3 => bd (r_sl4Copy (atD plist i1)) (fun x7 =>
 gd ((v3).length + (([x7] : List GType)).length ≤ 68719476736)
 (some (.next (v3 ++ ([x7] : List GType)))))
def sl4Copies_R1 (fu : Nat) (r_sl4Copy : sl4Copy_Y) (r_sl4Copies : sl4Copies_Y) (plist : List GType) : Option (((List GType)) ⊕ ((List GType))) :=
 loopN (sl4Copies_F1 fu r_sl4Copy r_sl4Copies plist) (plist.length - 0) 0 ([])
def sl4Copies_G (fu : Nat) (r_sl4Copy : sl4Copy_Y) (r_sl4Copies : sl4Copies_Y) (plist : List GType) : Option ((List GType)) :=
 so (sl4Copies_R1 fu r_sl4Copy r_sl4Copies plist) (fun v3 =>
 some v3)
theorem sl4Copies_step (fu : Nat) (r_sl4Copy : sl4Copy_Y) (r_sl4Copies : sl4Copies_Y) (h_sl4Copy : sl4Copy_T r_sl4Copy) (h_sl4Copies : sl4Copies_T r_sl4Copies) : sl4Copies_T (sl4Copies_G fu r_sl4Copy r_sl4Copies) := by
  intro plist r H
  have H := hd0 H
  refine qI Tryz.func100 (fun C hC => ?_)
  refine qS (qR (q1 rMv (qN (qS (qR (q1 (rBa ([] : List GType) el24 zr26) (q1 rMv (qN ?_))))))))
  iterate 2 refine qS ?_
  refine qR (q1 rMv (qN ?_))
  refine lenF 0 (GType.trs_len _) (fun hl4 => ?_)
  refine loopB (σ := (List GType)) (fun i1 v3 => ⟨[(0, rType plist), (2, .nil), (3, aType v3 0), (4, pN i1)], ⟨[], [⟨26, 3, GType.trs (v3), false⟩]⟩⟩) (fun v3 => ⟨[(2, .nil), (3, aType v3 0)], ⟨[], [⟨26, 3, GType.trs (v3), false⟩]⟩⟩) (soI H) ?_ ?_
  · rintro i1 v3 H
    iterate 2 refine qS ?_
    refine qR ?_
    iterate 2 refine q1 rMv ?_
    refine q1 (rLn el24 (GType.trs_len _)) (q1 rLt (qN ?_))
    refine cndL H (fun h5 h5l H => ?_) (fun h5 H => ?_)
    · have h5n := nat_lt_of h5
      refine AWP.skip (qS (AWP.block (qR ?_)))
      iterate 3 refine q1 rMv ?_
      refine q1 (rIx h5n el24) (q1 (rKe (GType.cs (atD plist i1)) sh26) (bdE H fun x7 z6 H => (q1 (rCf Tryz.func89 (h_sl4Copy (atD plist i1) _ z6)) (q1 (rBs ([x7] : List GType) el24 zr26) (gdE H fun z8 H => (q1 (rAp z8 el24 ze24) (q1 rMv (qN (qR (q1 rMv (q1 (AOp.addI rfl rfl rfl rfl (c := ((i1 + 1 : Nat) : Int)) (by omega) (by omega)) (q1 rMv (qN ?_)))))))))))))
      exact lpN h5l ⟨_, (smI H :), wkA⟩
    refine AWP.exit ?_; exact lpX ⟨_, H, wkA⟩
  rintro v3 H
  refine qS (qR ?_)
  iterate 2 refine q1 rMv ?_
  refine qN (AWP.ret ?_)
  obtain rfl : _ = r := (smI H :)
  exact qe1
mutual
def sl4Copy_M : Nat → GType → Option GType
  | 0, _ => none
  | fu + 1, pt => sl4Copy_G fu (sl4Copy_M fu) (sl4Copies_M fu) pt
def sl4Copies_M : Nat → (List GType) → Option ((List GType))
  | 0, _ => none
  | fu + 1, plist => sl4Copies_G fu (sl4Copy_M fu) (sl4Copies_M fu) plist
end
theorem sl4Copy_all (fu : Nat) : sl4Copy_T (sl4Copy_M fu) ∧ sl4Copies_T (sl4Copies_M fu) := by
  induction fu with
  | zero => exact ⟨(fun pt r H => by simp only [sl4Copy_M] at H; cases H), (fun plist r H => by simp only [sl4Copies_M] at H; cases H)⟩
  | succ fu ih => exact ⟨(fun pt r H => by simp only [sl4Copy_M] at H; exact sl4Copy_step fu (sl4Copy_M fu) (sl4Copies_M fu) ih.1 ih.2 pt r H), (fun plist r H => by simp only [sl4Copies_M] at H; exact sl4Copies_step fu (sl4Copy_M fu) (sl4Copies_M fu) ih.1 ih.2 plist r H)⟩
theorem sl4Copy_ok (fu : Nat) : sl4Copy_T (sl4Copy_M fu) := (sl4Copy_all fu).1
def sl4Proj_T (m : ByteArray → GType → Option GType) : Prop := ∀ (ptrait : ByteArray) (pt : GType) (r : GType), m ptrait pt = some r → AOwn Tryz.prog 67 [pS ptrait, (GType.pv pt)] ⟨[], []⟩ [] 26 3 (GType.trs (r.gArgs)) (fun k => .agg [pI r.gKind, pS r.gName, aType r.gArgs k])
def sl4Proj_M (fu : Nat) (ptrait : ByteArray) (pt : GType) : Option GType :=
 bd (sl4Copy_M fu pt) (fun x2 =>
 some (GType.mk 3 ptrait ([x2] : List GType)))
theorem sl4Proj_ok (fu : Nat)   : sl4Proj_T (sl4Proj_M fu) := by
  intro ptrait pt r H
  unfold AOwn
  have H := hd0 H
  refine qI Tryz.func67 (fun C hC => ?_)
  refine qS (qR (q1 (rBx (cType pt)) (q1 (rAl zr26) (qN (qS (qR (q1 rMv (q1 (rLp [pI pt.gKind, pS pt.gName, rType pt.gArgs] sh26) (bdE H fun x2 z1 H => (q1 (rCf Tryz.func89 (sl4Copy_ok fu pt _ z1)) (q1 (rBa ([x2] : List GType) el24 zr26) (q1 (rBd zr26 pl26) (q1 (rSu sz26) ?_)))))))))))))
  refine qN (AWP.ret ?_)
  obtain rfl : _ = r := (smI H :)
  exact qe1 (st' := ⟨[], [⟨26, 3, GType.trs (([x2] : List GType)), false⟩]⟩) ⟨0, rfl, rfl, rfl⟩ (hr := ⟨⟨_, _, _, rfl, rfl, sh26, rfl, rfl⟩, trivial⟩)

def sl4Free_T (m : DS → Int → Option (GType × DS)) : Prop := ∀ (pc : DS) (pdeep : Int) (r : GType × DS), m pc pdeep = some r → AOwn Tryz.prog 34 [.ptr 0 0, pI pdeep] ⟨[some ⟨58, dC pc⟩], []⟩ [some ⟨58, dC r.2⟩] 26 3 (GType.trs (r.1.gArgs)) (fun k => .agg [pI r.1.gKind, pS r.1.gName, aType r.1.gArgs k])
theorem sl4Free_pl {m : DS → Int → Option (GType × DS)} (h : sl4Free_T m) (pc : DS) (pdeep : Int) (r : GType × DS) (H : m pc pdeep = some r) : ACalls Tryz.prog 34 [.ptr 0 0, pI pdeep] ⟨[some ⟨58, dC pc⟩], []⟩ (fun q t => q = ((GType.pv r.1) : PV) ∧ t = ⟨[some ⟨58, dC r.2⟩], []⟩) := (h pc pdeep r H).plain (fun _ => leA) (hp := keep0b)
def sl4Free_M (fu : Nat) (pc : DS) (pdeep : Int) : Option (GType × DS) :=
 bd (sl4Ty_M fu pc ([s_a, s_b] : List ByteArray) pdeep) (fun (x2, x3) =>
 lt (x3.after 8) (fun d4 =>
 sw (decide ((((x3.below 8 : Nat) : Int) : Int) = 0))
 (lt (d4.after ([s_add, s_show] : List ByteArray).length) (fun d7 =>
 lt (d4.pick ([s_add, s_show] : List ByteArray)) (fun y9 =>
 bd (sl4Proj_M fu y9 (GType.mk x2.gKind x2.gName x2.gArgs)) (fun x12 =>
 some ((GType.mk x12.gKind x12.gName x12.gArgs), d7)))))
 (sw (decide ((((x3.below 8 : Nat) : Int) : Int) = 1))
 (bd (sl4Proj_M fu s_add (GType.mk x2.gKind x2.gName x2.gArgs)) (fun x15 =>
 bd (sl4Con_M fu s_list ([(GType.mk x15.gKind x15.gName x15.gArgs)] : List GType)) (fun x17 =>
 some ((GType.mk x17.gKind x17.gName x17.gArgs), d4))))
 (sw (decide ((((x3.below 8 : Nat) : Int) : Int) = 2))
 (some ((GType.mk 4 s_show []), d4))
 (some ((GType.mk x2.gKind x2.gName x2.gArgs), d4))))))
theorem sl4Free_ok (fu : Nat)   : sl4Free_T (sl4Free_M fu) := by
  intro pc pdeep r H
  unfold AOwn
  have H := hd0 H
  refine qI Tryz.func34 (fun C hC => ?_)
  refine qS (qR (q1 (rAl zr26) (qN (qS (qR (q1 rMv (q1 (rBs ([s_a, s_b] : List ByteArray) el39 zr9) (q1 rMv (bdE2 H fun x2 x3 z1 H => (q1 (AOp.callOwn (pre := ⟨[some ⟨58, dC pc⟩], []⟩) (B := [some ⟨58, dC x3⟩]) (R := fun k => .agg [pI x2.gKind, pS x2.gName, aType x2.gArgs k]) (ps := [_, _, _]) (qs := [.ptr 0 0, rS ([s_a, s_b] : List ByteArray), pI pdeep]) [0] rfl rfl Tryz.func66 (by kernel_rfl) rfl rfl rfl (Part0.of ⟨⟨_, rfl, rfl, leA, rfl⟩, trivial⟩ trivial (by decide) (by decide)) rfl leA rfl rfl rfl (fun k k' => (.agg (.cons (.free _ rfl) (.cons (.free _ rfl) (.cons Mv.acc MvL.nil))))) (sl4Ty_ok fu pc ([s_a, s_b] : List ByteArray) pdeep _ z1)) (q1 (rAl zr26) (q1 (rSu sz26) (qN ?_)))))))))))))
  iterate 2 refine qS ?_
  refine qR (q1 rMv (ltQ H fun d4 h5 H => (q1 (rCp [0] [] Tryz.func33 (nmD h5 (below_ok x3 8))) (qN (AWP.block (qS (qR (q1 rEq (q1 rMv (qN ?_))))))))))
  refine cndB H (fun h6 H => ?_) (fun h6 H => ?_)
  · refine qS (ltQ H fun d7 h8 H => (ltQ H fun y9 h10 H => (bdE H fun x12 z11 H => (dW (dI [0] rMv (dI [] (rBs ([s_add, s_show] : List ByteArray) el39 zr9) (dE [14, 15] (rCp [0] [] Tryz.func15 (nmP h8 h10 (pick_ok d4 ([s_add, s_show] : List ByteArray) (by decide)))) (dB [5] 0 1 (vLp [pI x2.gKind, pS x2.gName, aType x2.gArgs 0] sh26) (dE [16, 17] (AOp.callOwn (pre := ⟨[], []⟩) (B := []) (R := fun k => .agg [pI x12.gKind, pS x12.gName, aType x12.gArgs k]) (ps := [_, _]) (qs := [pS y9, .agg [pI x2.gKind, pS x2.gName, rType x2.gArgs]]) [] rfl rfl Tryz.func67 (by kernel_rfl) rfl rfl rfl (Part0.of trivial trivial (by decide) (by decide)) rfl leA rfl rfl rfl (fun k k' => (.agg (.cons (.free _ rfl) (.cons (.free _ rfl) (.cons Mv.acc MvL.nil))))) (sl4Proj_ok fu y9 (GType.mk x2.gKind x2.gName x2.gArgs) _ z11)) (dE0 [4, 18] (rSu sz26) (dN (AWP.ret ?_))))))))))))
    obtain rfl : _ = r := (smI H :)
    exact qe1 (st' := ⟨[some ⟨58, dC d7⟩], [⟨26, 3, GType.trs (x2.gArgs), false⟩, ⟨26, 3, GType.trs (x12.gArgs), false⟩]⟩) ⟨1, rfl, rfl, rfl⟩ (hr := ⟨⟨_, _, _, rfl, rfl, sh26, rfl, rfl⟩, trivial⟩)
  refine qS (qR (q1 rEq (q1 rMv (qN ?_))))
  refine cndB H (fun h13 H => ?_) (fun h13 H => ?_)
  · refine qS (qR (q1 (rLp [pI x2.gKind, pS x2.gName, aType x2.gArgs 0] sh26) (bdE H fun x15 z14 H => (q1 (AOp.callOwn (pre := ⟨[], []⟩) (B := []) (R := fun k => .agg [pI x15.gKind, pS x15.gName, aType x15.gArgs k]) (ps := [_, _]) (qs := [pS s_add, .agg [pI x2.gKind, pS x2.gName, rType x2.gArgs]]) [] rfl rfl Tryz.func67 (by kernel_rfl) rfl rfl rfl (Part0.of trivial trivial (by decide) (by decide)) rfl leA rfl rfl rfl (fun k k' => (.agg (.cons (.free _ rfl) (.cons (.free _ rfl) (.cons Mv.acc MvL.nil))))) (sl4Proj_ok fu s_add (GType.mk x2.gKind x2.gName x2.gArgs) _ z14)) (q1 (rBa ([(GType.mk x15.gKind x15.gName x15.gArgs)] : List GType) el24 zr26) (bdE H fun x17 z16 H => (q1 (AOp.callOwn (pre := ⟨[], []⟩) (B := []) (R := fun k => .agg [pI x17.gKind, pS x17.gName, aType x17.gArgs k]) (ps := [_, _]) (qs := [pS s_list, rType ([(GType.mk x15.gKind x15.gName x15.gArgs)] : List GType)]) [] rfl rfl Tryz.func37 (by kernel_rfl) rfl rfl rfl (Part0.of trivial trivial (by decide) (by decide)) rfl leA rfl rfl rfl (fun k k' => (.agg (.cons (.free _ rfl) (.cons (.free _ rfl) (.cons Mv.acc MvL.nil))))) (sl4Con_ok fu s_list ([(GType.mk x15.gKind x15.gName x15.gArgs)] : List GType) _ z16)) (q1 (rSu sz26) (qN (AWP.ret ?_))))))))))
    obtain rfl : _ = r := (smI H :)
    exact qe1 (st' := ⟨[some ⟨58, dC d4⟩], [⟨26, 3, GType.trs (x2.gArgs), false⟩, ⟨26, 3, GType.trs (x15.gArgs), false⟩, ⟨26, 3, GType.trs (([(GType.mk x15.gKind x15.gName x15.gArgs)] : List GType)), false⟩, ⟨26, 3, GType.trs (x17.gArgs), false⟩]⟩) ⟨3, rfl, rfl, rfl⟩ (hr := ⟨⟨_, _, _, rfl, rfl, sh26, rfl, rfl⟩, trivial⟩)
  refine qS (qR (q1 rEq (q1 rMv (qN ?_))))
  refine cndB H (fun h18 H => ?_) (fun h18 H => ?_)
  · refine qS (qR (q1 (rBd zr26 pl26) (q1 (rSu sz26) (qN (AWP.wk (Wk.regBox (k := 1) (j := 2) 26 3 (by decide) rfl rfl) (AWP.ret ?_))))))
    obtain rfl : _ = r := (smI H :)
    exact qe1 (st' := ⟨[some ⟨58, dC d4⟩], [⟨26, 3, GType.trs (x2.gArgs), false⟩, ⟨26, 3, GType.trs ([]), false⟩]⟩) ⟨1, rfl, rfl, rfl⟩ (hr := ⟨⟨_, _, _, rfl, rfl, sh26, rfl, rfl⟩, trivial⟩)
  refine AWP.skip (qS (qR (q1 (rLp [pI x2.gKind, pS x2.gName, aType x2.gArgs 0] sh26) (q1 (rSu sz26) (qN (AWP.ret ?_))))))
  obtain rfl : _ = r := (smI H :)
  exact qe1 (st' := ⟨[some ⟨58, dC d4⟩], [⟨26, 3, GType.trs (x2.gArgs), false⟩]⟩) ⟨0, rfl, rfl, rfl⟩ (hr := ⟨⟨_, _, _, rfl, rfl, sh26, rfl, rfl⟩, trivial⟩)

def sl4Int_T (m : Option GType) : Prop := ∀  (r : GType), m  = some r → AFun Tryz.prog 35 [] ((GType.pv r) : PV)
def sl4Int_M (fu : Nat) : Option GType :=
 bd (sl4Con_M fu s_int ([])) (fun x2 =>
 some x2)
theorem sl4Int_ok (fu : Nat)   : sl4Int_T (sl4Int_M fu) := by
  intro  r H
  have H := hd0 H
  refine qI Tryz.func35 (fun C hC => ?_)
  refine qS (qR (q1 (rAl zr26) (qN (qS (qR (bdE H fun x2 z1 H => (q1 (rCf Tryz.func37 (sl4Con_pl (sl4Con_ok fu) s_int ([]) _ z1)) (q1 (rSu sz26) (qN (AWP.ret ?_))))))))))
  obtain rfl : _ = r := (smI H :)
  exact qe1 (hr := ⟨⟨_, _, _, rfl, rfl, sh26, rfl, rfl⟩, trivial⟩)

def sl4Bool_T (m : Option GType) : Prop := ∀  (r : GType), m  = some r → AFun Tryz.prog 36 [] ((GType.pv r) : PV)
def sl4Bool_M (fu : Nat) : Option GType :=
 bd (sl4Con_M fu s_bool ([])) (fun x2 =>
 some x2)
theorem sl4Bool_ok (fu : Nat)   : sl4Bool_T (sl4Bool_M fu) := by
  intro  r H
  have H := hd0 H
  refine qI Tryz.func36 (fun C hC => ?_)
  refine qS (qR (q1 (rAl zr26) (qN (qS (qR (bdE H fun x2 z1 H => (q1 (rCf Tryz.func37 (sl4Con_pl (sl4Con_ok fu) s_bool ([]) _ z1)) (q1 (rSu sz26) (qN (AWP.ret ?_))))))))))
  obtain rfl : _ = r := (smI H :)
  exact qe1 (hr := ⟨⟨_, _, _, rfl, rfl, sh26, rfl, rfl⟩, trivial⟩)

def sl4Bent_T (m : DS → Option (GType × DS)) : Prop := ∀ (pc : DS) (r : GType × DS), m pc = some r → ACalls Tryz.prog 16 [.ptr 0 0] ⟨[some ⟨58, dC pc⟩], []⟩ (fun q t => q = ((GType.pv r.1) : PV) ∧ t = ⟨[some ⟨58, dC r.2⟩], []⟩)
def sl4Bent_F1 (fu : Nat) (pc : DS) (x2 : GType) (x3 d4 : DS) : Nat → (Int × ByteArray × (List GType)) → Option (LR (Int × ByteArray × (List GType)) (GType × DS)) :=
 fun i21 (v22, v23, v24) => bd (sl4Con_M fu s_list ([(GType.mk v22 v23 v24)] : List GType)) (fun x27 =>
 some (.next (x27.gKind, x27.gName, x27.gArgs)))
def sl4Bent_R1 (fu : Nat) (pc : DS) (x2 : GType) (x3 d4 : DS) : Option ((GType × DS) ⊕ (Int × ByteArray × (List GType))) :=
 loopN (sl4Bent_F1 fu pc x2 x3 d4) (6 - 0) 0 (x2.gKind, x2.gName, x2.gArgs)
def sl4Bent_M (fu : Nat) (pc : DS) : Option (GType × DS) :=
 bd (sl4Free_M fu pc 3) (fun (x2, x3) =>
 lt (x3.after 12) (fun d4 =>
 sw (decide ((((x3.below 12 : Nat) : Int) : Int) = 0))
 (lt (d4.after 7) (fun d7 =>
 some ((GType.mk (wrap64 (((d4.below 7 : Nat) : Int) - 1)) x2.gName x2.gArgs), d7)))
 (sw (decide ((((x3.below 12 : Nat) : Int) : Int) = 1))
 (lt (d4.after ([s_, s_int, s_A, s_assoc, s_abcdefghi] : List ByteArray).length) (fun d10 =>
 lt (d4.pick ([s_, s_int, s_A, s_assoc, s_abcdefghi] : List ByteArray)) (fun y12 =>
 some ((GType.mk x2.gKind y12 x2.gArgs), d10))))
 (sw (decide ((((x3.below 12 : Nat) : Int) : Int) = 2))
 (bd (sl4Int_M fu) (fun x16 =>
 bd (sl4Bool_M fu) (fun x18 =>
 gd ((x2.gArgs).length + (([x16, x18, x16] : List GType)).length ≤ 68719476736)
 (some ((GType.mk x2.gKind x2.gName (x2.gArgs ++ ([x16, x18, x16] : List GType))), d4)))))
 (sw (decide ((((x3.below 12 : Nat) : Int) : Int) = 3))
 (so (sl4Bent_R1 fu pc x2 x3 d4) (fun (v22, v23, v24) =>
 some ((GType.mk v22 v23 v24), d4)))
 (some ((GType.mk x2.gKind x2.gName x2.gArgs), d4)))))))
theorem sl4Bent_ok (fu : Nat)   : sl4Bent_T (sl4Bent_M fu) := by
  intro pc r H
  have H := hd0 H
  refine qI Tryz.func16 (fun C hC => ?_)
  refine qS (qR (q1 (rAl zr26) (qN (qS (qR (q1 rMv (bdE2 H fun x2 x3 z1 H => (q1 (AOp.callOwn (pre := ⟨[some ⟨58, dC pc⟩], []⟩) (B := [some ⟨58, dC x3⟩]) (R := fun k => .agg [pI x2.gKind, pS x2.gName, aType x2.gArgs k]) (ps := [_, _]) (qs := [.ptr 0 0, pI 3]) [0] rfl rfl Tryz.func34 (by kernel_rfl) rfl rfl rfl (Part0.of ⟨⟨_, rfl, rfl, leA, rfl⟩, trivial⟩ trivial (by decide) (by decide)) rfl leA rfl rfl rfl (fun k k' => (.agg (.cons (.free _ rfl) (.cons (.free _ rfl) (.cons Mv.acc MvL.nil))))) (sl4Free_ok fu pc 3 _ z1)) (q1 (rAl zr26) (q1 (rSu sz26) (qN ?_)))))))))))
  iterate 2 refine qS ?_
  refine qR (q1 rMv (ltQ H fun d4 h5 H => (q1 (rCp [0] [] Tryz.func33 (nmD h5 (below_ok x3 12))) (qN (AWP.block (qS (qR (q1 rEq (q1 rMv (qN ?_))))))))))
  refine cndB H (fun h6 H => ?_) (fun h6 H => ?_)
  · refine qR (q1 rMv (ltQ H fun d7 h8 H => (q1 (rCp [0] [] Tryz.func33 (nmD h8 (below_ok d4 7))) (q1 rSw (q1 (rFp fo26_0) (q1 (rSu sz3) (qN (qS (qR (q1 (rLp [pI (wrap64 (((d4.below 7 : Nat) : Int) - 1)), pS x2.gName, aType x2.gArgs 0] sh26) (q1 (rSu sz26) (qN (AWP.ret ?_)))))))))))))
    obtain rfl : _ = r := (smI H :)
    exact qe1 (hr := ⟨⟨_, _, _, rfl, rfl, sh26, rfl, rfl⟩, trivial⟩)
  refine qS (qR (q1 rEq (q1 rMv (qN ?_))))
  refine cndB H (fun h9 H => ?_) (fun h9 H => ?_)
  · refine qR (q1 rMv (q1 (rBs ([s_, s_int, s_A, s_assoc, s_abcdefghi] : List ByteArray) el39 zr9) (ltQ H fun d10 h11 H => (ltQ H fun y12 h13 H => (q1 (rCp [0] [] Tryz.func15 (nmP h11 h13 (pick_ok d4 ([s_, s_int, s_A, s_assoc, s_abcdefghi] : List ByteArray) (by decide)))) (q1 (rFp fo26_1) (q1 (rSu sz9) (qN (qS (qR (q1 (rLp [pI x2.gKind, pS y12, aType x2.gArgs 0] sh26) (q1 (rSu sz26) (qN ?_)))))))))))))
    refine AWP.ret ?_
    obtain rfl : _ = r := (smI H :)
    exact qe1 (hr := ⟨⟨_, _, _, rfl, rfl, sh26, rfl, rfl⟩, trivial⟩)
  refine qS (qR (q1 rEq (q1 rMv (qN ?_))))
  refine cndB H (fun h14 H => ?_) (fun h14 H => ?_)
  · refine bdE H fun x16 z15 H => (bdE H fun x18 z17 H => (gdE H fun z19 H => (dW (dI [3] (rFp fo26_2) (dD [23] (rL1 sh24) (dI [] (rCf Tryz.func35 (sl4Int_ok fu  _ z15)) (dI [] (rCf Tryz.func36 (sl4Bool_ok fu  _ z17)) (dI [] (rCf Tryz.func35 (sl4Int_ok fu  _ z15)) (dI [25, 26, 27] (rBs ([x16, x18, x16] : List GType) el24 zr26) (dE [24, 28] (rAp z19 el24 ze24) (dI [3] (rFp fo26_2) (dE0 [30, 29] (rSu sz24) (dN ?_)))))))))))))
    refine qS (qR (q1 (rLp [pI x2.gKind, pS x2.gName, aType (x2.gArgs ++ ([x16, x18, x16] : List GType)) 0] sh26) (q1 (rSu sz26) (qN (AWP.ret ?_)))))
    obtain rfl : _ = r := (smI H :)
    exact qe1 (hr := ⟨⟨_, _, _, rfl, rfl, sh26, rfl, rfl⟩, trivial⟩)
  refine qS (qR (q1 rEq (q1 rMv (qN ?_))))
  refine cndB H (fun h20 H => ?_) (fun h20 H => ?_)
  · refine qS (qR (q1 rMv (qN ?_)))
    refine loopB (σ := Int × ByteArray × (List GType)) (fun i21 (v22, v23, v24) => ⟨[(2, .ptr 1 0), (3, .ptr 2 0), (4, pN i21)], ⟨[some ⟨58, dC d4⟩, some ⟨26, [pI 0, pS s_, .nil]⟩, some ⟨26, [pI v22, pS v23, rType v24]⟩], [⟨26, 3, GType.trs (x2.gArgs), false⟩]⟩⟩) (fun (v22, v23, v24) => ⟨[(2, .ptr 1 0), (3, .ptr 2 0)], ⟨[some ⟨58, dC d4⟩, some ⟨26, [pI 0, pS s_, .nil]⟩, some ⟨26, [pI v22, pS v23, rType v24]⟩], [⟨26, 3, GType.trs (x2.gArgs), false⟩]⟩⟩) (soI H) ?_ ?_
    · rintro i21 ⟨v22, v23, v24⟩ H
      iterate 2 refine qS ?_
      refine qR (q1 rMv (q1 rLt (qN ?_)))
      refine cndL H (fun h25 h25l H => ?_) (fun h25 H => ?_)
      · have h25n : i21 < 6 := by have := of_decide_eq_true h25; omega
        refine AWP.skip (qS (AWP.block (qR (q1 (rLp [pI v22, pS v23, rType v24] sh26) (q1 (rBs ([(GType.mk v22 v23 v24)] : List GType) el24 zr26) (bdE H fun x27 z26 H => (q1 (AOp.callOwn (pre := ⟨[], []⟩) (B := []) (R := fun k => .agg [pI x27.gKind, pS x27.gName, aType x27.gArgs k]) (ps := [_, _]) (qs := [pS s_list, rType ([(GType.mk v22 v23 v24)] : List GType)]) [] rfl rfl Tryz.func37 (by kernel_rfl) rfl rfl rfl (Part0.of trivial trivial (by decide) (by decide)) rfl leA rfl rfl rfl (fun k k' => (.agg (.cons (.free _ rfl) (.cons (.free _ rfl) (.cons Mv.acc MvL.nil))))) (sl4Con_ok fu s_list ([(GType.mk v22 v23 v24)] : List GType) _ z26)) (q1 (rSu sz26) (qN (qR (q1 rMv (q1 (AOp.addI rfl rfl rfl rfl (c := ((i21 + 1 : Nat) : Int)) (by omega) (by omega)) (q1 rMv ?_)))))))))))))
        refine qN ?_; exact lpN h25l ⟨_, (smI H :), wkA⟩
      refine AWP.exit ?_; exact lpX ⟨_, H, wkA⟩
    rintro ⟨v22, v23, v24⟩ H
    refine qS (qR (q1 (rLp [pI v22, pS v23, rType v24] sh26) (q1 (rSu sz26) (qN (AWP.ret ?_)))))
    obtain rfl : _ = r := (smI H :)
    exact qe1 (hr := ⟨⟨_, _, _, rfl, rfl, sh26, rfl, rfl⟩, trivial⟩)
  refine AWP.skip (qS (qR (q1 (rLp [pI x2.gKind, pS x2.gName, aType x2.gArgs 0] sh26) (q1 (rSu sz26) (qN (AWP.ret ?_))))))
  obtain rfl : _ = r := (smI H :)
  exact qe1 (hr := ⟨⟨_, _, _, rfl, rfl, sh26, rfl, rfl⟩, trivial⟩)

def sl20Goal_T (m : DS → Option (GBound × DS)) : Prop := ∀ (pc : DS) (r : GBound × DS), m pc = some r → ACalls Tryz.prog 24 [.ptr 0 0] ⟨[some ⟨58, dC pc⟩], []⟩ (fun q t => q = ((GBound.pv r.1) : PV) ∧ t = ⟨[some ⟨58, dC r.2⟩], []⟩)
def sl20Goal_M (fu : Nat) (pc : DS) : Option (GBound × DS) :=
 lt (pc.after ([s_show, s_eq, s_ord, s_add, s_send] : List ByteArray).length) (fun d1 =>
 lt (pc.pick ([s_show, s_eq, s_ord, s_add, s_send] : List ByteArray)) (fun y3 =>
 bd (sl4Free_M fu d1 2) (fun (x6, x7) =>
 some ((GBound.mk y3 x6), x7))))
theorem sl20Goal_ok (fu : Nat)   : sl20Goal_T (sl20Goal_M fu) := by
  intro pc r H
  have H := hd0 H
  refine qI Tryz.func24 (fun C hC => ?_)
  refine qS (qR (q1 (rAl zr28) (qN (qS (qR (q1 rMv (q1 (rBs ([s_show, s_eq, s_ord, s_add, s_send] : List ByteArray) el39 zr9) (ltQ H fun d1 h2 H => (ltQ H fun y3 h4 H => (q1 (rCp [0] [] Tryz.func15 (nmP h2 h4 (pick_ok pc ([s_show, s_eq, s_ord, s_add, s_send] : List ByteArray) (by decide)))) (q1 rMv (bdE2 H fun x6 x7 z5 H => (q1 (rCp [0] [] Tryz.func34 (sl4Free_pl (sl4Free_ok fu) d1 2 _ z5)) ?_)))))))))))))
  refine q1 (rBd zr28 pl28) (q1 (rSu sz28) (qN (AWP.ret ?_)))
  obtain rfl : _ = r := (smI H :)
  exact qe1 (hr := ⟨⟨_, _, _, rfl, rfl, sh28, rfl, rfl⟩, trivial⟩)

def sl1Turned_T (m : DS → ByteArray → (List ByteArray) → Option (ByteArray × DS)) : Prop := ∀ (pc : DS) (ps : ByteArray) (plist : List ByteArray) (r : ByteArray × DS), m pc ps plist = some r → ACalls Tryz.prog 23 [.ptr 0 0, pS ps, rS plist] ⟨[some ⟨58, dC pc⟩], []⟩ (fun q t => q = (pS r.1 : PV) ∧ t = ⟨[some ⟨58, dC r.2⟩], []⟩)
def sl1Turned_M (fu : Nat) (pc : DS) (ps : ByteArray) (plist : List ByteArray) : Option (ByteArray × DS) :=
 gd (ps.size ≤ 1099511627776)
 (lt (pc.after (ps.size + 1)) (fun d2 =>
 lt (d2.after 6) (fun d4 =>
 sw (decide ((((d2.below 6 : Nat) : Int) : Int) = 0))
 (gd ((0 : Int) ≤ 0 ∧ (0 : Int) ≤ ((pc.below (ps.size + 1) : Nat) : Int) ∧ (((pc.below (ps.size + 1) : Nat) : Int) : Int) ≤ ((ps.size : Nat) : Int))
 (gd (0 < (plist).length)
 (lt (d4.after plist.length) (fun d9 =>
 lt (d4.pick plist) (fun y11 =>
 gd ((ps.extract (0 : Int).toNat (((pc.below (ps.size + 1) : Nat) : Int) : Int).toNat).size + (y11).size ≤ 1099511627776)
 (gd ((0 : Int) ≤ ((pc.below (ps.size + 1) : Nat) : Int) ∧ (((pc.below (ps.size + 1) : Nat) : Int) : Int) ≤ ((ps.size : Nat) : Int) ∧ (((ps.size : Nat) : Int) : Int) ≤ ((ps.size : Nat) : Int))
 (gd (((ps.extract (0 : Int).toNat (((pc.below (ps.size + 1) : Nat) : Int) : Int).toNat) ++ y11).size + (ps.extract (((pc.below (ps.size + 1) : Nat) : Int) : Int).toNat (((ps.size : Nat) : Int) : Int).toNat).size ≤ 1099511627776)
 (some ((((ps.extract (0 : Int).toNat (((pc.below (ps.size + 1) : Nat) : Int) : Int).toNat) ++ y11) ++ (ps.extract (((pc.below (ps.size + 1) : Nat) : Int) : Int).toNat (((ps.size : Nat) : Int) : Int).toNat)), d9)))))))))
 (sw (decide ((((d2.below 6 : Nat) : Int) : Int) = 1))
 (gd ((0 : Int) ≤ 0 ∧ (0 : Int) ≤ ((pc.below (ps.size + 1) : Nat) : Int) ∧ (((pc.below (ps.size + 1) : Nat) : Int) : Int) ≤ ((ps.size : Nat) : Int))
 (some ((ps.extract (0 : Int).toNat (((pc.below (ps.size + 1) : Nat) : Int) : Int).toNat), d4)))
 (some (ps, d4))))))
theorem sl1Turned_ok (fu : Nat)   : sl1Turned_T (sl1Turned_M fu) := by
  intro pc ps plist r H
  have H := hd0 H
  refine qI Tryz.func23 (fun C hC => ?_)
  refine qS (qR (q1 rMv (qN (qS (qR ?_)))))
  iterate 2 refine q1 rMv ?_
  refine q1 (AOp.lenS rfl rfl rfl Tryz.underlying9) (gdE H fun z1 H => ?_)
  refine q1 (AOp.addI (c := ((ps.size + 1 : Nat) : Int)) rfl rfl rfl rfl (by omega) (by have := z1; omega)) ?_; refine ltQ H fun d2 h3 H => (q1 (rCp [0] [] Tryz.func33 (nmD h3 (below_ok pc (ps.size + 1)))) (q1 rMv (qN ?_)))
  iterate 2 refine qS ?_
  refine qR (q1 rMv (ltQ H fun d4 h5 H => (q1 (rCp [0] [] Tryz.func33 (nmD h5 (below_ok d2 6))) (qN (AWP.block (qS (qR (q1 rEq (q1 rMv (qN ?_))))))))))
  refine cndB H (fun h6 H => ?_) (fun h6 H => ?_)
  · refine qS (gdE H fun z7 H => (gdE H fun z8 H => (ltQ H fun d9 h10 H => (ltQ H fun y11 h12 H => (gdE H fun z13 H => (gdE H fun z14 H => (gdE H fun z15 H => (dW (dI [1] rMv (dI [7] rMv (dI [17, 18] (AOp.sliceS (l := 0) (k := ((pc.below (ps.size + 1) : Nat) : Int)) rfl rfl rfl rfl rfl z7 Tryz.underlying9) (dI [0] rMv (dI [2] rMv ?_)))))))))))))
    refine dE [20, 21] (rCp [0] [] Tryz.func15 (nmP h10 h12 (pick_ok d4 plist z8))) (dI [19, 22] (AOp.addS rfl rfl rfl rfl (Nat.le_trans z13 (by decide))) (dI [1] rMv (dI [7] rMv (dI [24, 25] (AOp.sliceS (l := ((pc.below (ps.size + 1) : Nat) : Int)) (k := ((ps.size : Nat) : Int)) rfl rfl rfl rfl rfl z14 Tryz.underlying9) (dI [23, 26] (AOp.addS rfl rfl rfl rfl (Nat.le_trans z15 (by decide))) (dI [27] rMv (dN (AWP.ret ?_))))))))
    obtain rfl : _ = r := (smI H :)
    exact qe1
  refine qS (qR (q1 rEq (q1 rMv (qN ?_))))
  refine cndB H (fun h16 H => ?_) (fun h16 H => ?_)
  · refine qS (qR ?_)
    iterate 2 refine q1 rMv ?_
    refine gdE H fun z17 H => (q1 (AOp.sliceS (l := 0) (k := ((pc.below (ps.size + 1) : Nat) : Int)) rfl rfl rfl rfl rfl z17 Tryz.underlying9) (q1 rMv (qN (AWP.ret ?_))))
    obtain rfl : _ = r := (smI H :)
    exact qe1
  refine AWP.skip (qS (qR ?_))
  iterate 2 refine q1 rMv ?_
  refine qN (AWP.ret ?_)
  obtain rfl : _ = r := (smI H :)
  exact qe1

end
end Go.Proofs.YtmpepccpnnldoaaGreat.W

namespace Go.Proofs.YtmpepccpnnldoaaGreat
open Go.RowKit Go.Proofs Go.Shelf
set_option maxRecDepth 100000
def lays166_ren : Go.Shelf.Ren := ⟨fun | 240 => 93 | 276 => 102 | 166 => 71 | 167 => 72 | 169 => 40 | 137 => 73 | 217 => 94 | 266 => 103 | n => n, fun | 70 => 64 | 72 => 66 | 37 => 22 | 164 => 109 | 5 => 5 | 9 => 9 | 0 => 0 | 3 => 3 | 4 => 4 | 20 => 20 | 75 => 90 | 80 => 68 | 127 => 94 | n => n, fun | n => n⟩
theorem lays166 : Go.Proofs.Lays.n166 Tryz.prog lays166_ren := {
  mixed := by kernel_rfl
  f166 := Tryz.func71.trans (congrArg some (by kernel_rfl))
  f240 := Tryz.func93.trans (congrArg some (by kernel_rfl))
  f276 := Tryz.func102.trans (congrArg some (by kernel_rfl))
  t0 := Tryz.underlying0
  a0 := Tryz.isAgg0
  z0 := Tryz.sizeOf0
  v0 := Tryz.zeroValue0
  t3 := Tryz.underlying3
  a3 := Tryz.isAgg3
  z3 := Tryz.sizeOf3
  v3 := Tryz.zeroValue3
  t4 := Tryz.underlying4
  a4 := Tryz.isAgg4
  z4 := Tryz.sizeOf4
  v4 := Tryz.zeroValue4
  t9 := Tryz.underlying9
  a9 := Tryz.isAgg9
  z9 := Tryz.sizeOf9
  v9 := Tryz.zeroValue9
  t20 := Tryz.underlying20
  a20 := Tryz.isAgg20
  z20 := Tryz.sizeOf20
  v20 := Tryz.zeroValue20
  t37 := Tryz.underlying22
  a37 := Tryz.isAgg22
  z37 := Tryz.sizeOf22
  v37 := Tryz.zeroValue22
  t70 := Tryz.underlying64
  a70 := Tryz.isAgg64
  z70 := Tryz.sizeOf64
  v70 := Tryz.zeroValue64
  t72 := Tryz.underlying66
  a72 := Tryz.isAgg66
  z72 := Tryz.sizeOf66
  v72 := Tryz.zeroValue66
  t75 := Tryz.underlying90
  a75 := Tryz.isAgg90
  z75 := Tryz.sizeOf90
  v75 := Tryz.zeroValue90
  t164 := Tryz.underlying109
  a164 := Tryz.isAgg109
  z164 := Tryz.sizeOf109
  v164 := Tryz.zeroValue109 }
def lays167_ren : Go.Shelf.Ren := ⟨fun | 240 => 93 | 276 => 102 | 166 => 71 | 167 => 72 | 169 => 40 | 137 => 73 | 217 => 94 | 266 => 103 | n => n, fun | 70 => 64 | 72 => 66 | 37 => 22 | 164 => 109 | 5 => 5 | 9 => 9 | 0 => 0 | 3 => 3 | 4 => 4 | 20 => 20 | 75 => 90 | 80 => 68 | 127 => 94 | n => n, fun | n => n⟩
theorem lays167 : Go.Proofs.Lays.n167 Tryz.prog lays167_ren := {
  mixed := by kernel_rfl
  f167 := Tryz.func72.trans (congrArg some (by kernel_rfl))
  f240 := Tryz.func93.trans (congrArg some (by kernel_rfl))
  f276 := Tryz.func102.trans (congrArg some (by kernel_rfl))
  t0 := Tryz.underlying0
  a0 := Tryz.isAgg0
  z0 := Tryz.sizeOf0
  v0 := Tryz.zeroValue0
  t4 := Tryz.underlying4
  a4 := Tryz.isAgg4
  z4 := Tryz.sizeOf4
  v4 := Tryz.zeroValue4
  t5 := Tryz.underlying5
  a5 := Tryz.isAgg5
  z5 := Tryz.sizeOf5
  v5 := Tryz.zeroValue5
  t9 := Tryz.underlying9
  a9 := Tryz.isAgg9
  z9 := Tryz.sizeOf9
  v9 := Tryz.zeroValue9
  t20 := Tryz.underlying20
  a20 := Tryz.isAgg20
  z20 := Tryz.sizeOf20
  v20 := Tryz.zeroValue20
  t37 := Tryz.underlying22
  a37 := Tryz.isAgg22
  z37 := Tryz.sizeOf22
  v37 := Tryz.zeroValue22
  t70 := Tryz.underlying64
  a70 := Tryz.isAgg64
  z70 := Tryz.sizeOf64
  v70 := Tryz.zeroValue64
  t72 := Tryz.underlying66
  a72 := Tryz.isAgg66
  z72 := Tryz.sizeOf66
  v72 := Tryz.zeroValue66
  t75 := Tryz.underlying90
  a75 := Tryz.isAgg90
  z75 := Tryz.sizeOf90
  v75 := Tryz.zeroValue90
  t164 := Tryz.underlying109
  a164 := Tryz.isAgg109
  z164 := Tryz.sizeOf109
  v164 := Tryz.zeroValue109 }
def lays169_ren : Go.Shelf.Ren := ⟨fun | 240 => 93 | 276 => 102 | 166 => 71 | 167 => 72 | 169 => 40 | 137 => 73 | 217 => 94 | 266 => 103 | n => n, fun | 70 => 64 | 72 => 66 | 37 => 22 | 164 => 109 | 5 => 5 | 9 => 9 | 0 => 0 | 3 => 3 | 4 => 4 | 20 => 20 | 75 => 90 | 80 => 68 | 127 => 94 | n => n, fun | n => n⟩
theorem lays169 : Go.Proofs.Lays.n169 Tryz.prog lays169_ren := {
  mixed := by kernel_rfl
  f169 := Tryz.func40.trans (congrArg some (by kernel_rfl))
  t0 := Tryz.underlying0
  a0 := Tryz.isAgg0
  z0 := Tryz.sizeOf0
  v0 := Tryz.zeroValue0
  t3 := Tryz.underlying3
  a3 := Tryz.isAgg3
  z3 := Tryz.sizeOf3
  v3 := Tryz.zeroValue3
  t9 := Tryz.underlying9
  a9 := Tryz.isAgg9
  z9 := Tryz.sizeOf9
  v9 := Tryz.zeroValue9
  t37 := Tryz.underlying22
  a37 := Tryz.isAgg22
  z37 := Tryz.sizeOf22
  v37 := Tryz.zeroValue22
  t70 := Tryz.underlying64
  a70 := Tryz.isAgg64
  z70 := Tryz.sizeOf64
  v70 := Tryz.zeroValue64
  t72 := Tryz.underlying66
  a72 := Tryz.isAgg66
  z72 := Tryz.sizeOf66
  v72 := Tryz.zeroValue66
  t127 := Tryz.underlying94
  a127 := Tryz.isAgg94
  z127 := Tryz.sizeOf94
  v127 := Tryz.zeroValue94 }
def lays137_ren : Go.Shelf.Ren := ⟨fun | 240 => 93 | 276 => 102 | 166 => 71 | 167 => 72 | 169 => 40 | 137 => 73 | 217 => 94 | 266 => 103 | n => n, fun | 70 => 64 | 72 => 66 | 37 => 22 | 164 => 109 | 5 => 5 | 9 => 9 | 0 => 0 | 3 => 3 | 4 => 4 | 20 => 20 | 75 => 90 | 80 => 68 | 127 => 94 | n => n, fun | n => n⟩
theorem lays137 : Go.Proofs.Lays.n137 Tryz.prog lays137_ren := {
  mixed := by kernel_rfl
  f137 := Tryz.func73.trans (congrArg some (by kernel_rfl))
  f217 := Tryz.func94.trans (congrArg some (by kernel_rfl))
  f266 := Tryz.func103.trans (congrArg some (by kernel_rfl))
  t3 := Tryz.underlying3
  a3 := Tryz.isAgg3
  z3 := Tryz.sizeOf3
  v3 := Tryz.zeroValue3
  t5 := Tryz.underlying5
  a5 := Tryz.isAgg5
  z5 := Tryz.sizeOf5
  v5 := Tryz.zeroValue5
  t9 := Tryz.underlying9
  a9 := Tryz.isAgg9
  z9 := Tryz.sizeOf9
  v9 := Tryz.zeroValue9 }
theorem extra166 : Builder.Extra Tryz.prog lays166_ren := {
  sizeBuilder := by kernel_rfl
  liesBuilder := by kernel_rfl
  t5 := Tryz.underlying5
  a5 := Tryz.isAgg5
  z5 := Tryz.sizeOf5
  v5 := Tryz.zeroValue5
  infoByte := by kernel_rfl
  cellsByte := by kernel_rfl
  sizeByte := by kernel_rfl
  neB5 := by decide }
theorem extra167 : Builder.Extra Tryz.prog lays167_ren := {
  sizeBuilder := by kernel_rfl
  liesBuilder := by kernel_rfl
  t5 := Tryz.underlying5
  a5 := Tryz.isAgg5
  z5 := Tryz.sizeOf5
  v5 := Tryz.zeroValue5
  infoByte := by kernel_rfl
  cellsByte := by kernel_rfl
  sizeByte := by kernel_rfl
  neB5 := by decide }
theorem extra169 : Builder.Extra Tryz.prog lays169_ren := {
  sizeBuilder := by kernel_rfl
  liesBuilder := by kernel_rfl
  t5 := Tryz.underlying5
  a5 := Tryz.isAgg5
  z5 := Tryz.sizeOf5
  v5 := Tryz.zeroValue5
  infoByte := by kernel_rfl
  cellsByte := by kernel_rfl
  sizeByte := by kernel_rfl
  neB5 := by decide }
theorem b_WriteByte (B b : Nat) (bs : List Value) (c : Int) (w : World) (h : Lib.IsBuilderF 66 5 B b bs w) (hlen : bs.length + 1 ≤ 140737488355328) (hBw : B ≤ w.heap.size) :
    Calls Tryz.prog 72 #[.pointer (some ⟨b, 0, none⟩), .int .u8 c] w fun e w' => e = .returned .nilIface ∧ (Lib.BuilderAtF 66 5 B b (.pointer (some ⟨b, 0, none⟩)) (bs ++ [.int .u8 c]) w' ∧ Below B w w' ∧ Lib.OthersKept 5 (some b) w w') := Any.Builder_WriteByte_k lays167 extra167 B b bs c w h hlen hBw
theorem b_WriteString (B b : Nat) (bs : List Value) (s : ByteArray) (w : World) (h : Lib.IsBuilderF 66 5 B b bs w) (hlen : bs.length + s.size ≤ 140737488355328) (hBw : B ≤ w.heap.size) :
    Calls Tryz.prog 71 #[.pointer (some ⟨b, 0, none⟩), .string s] w fun e w' => e = .returned (.tuple #[.int .i64 s.size, .nilIface]) ∧ (Lib.BuilderAtF 66 5 B b (.pointer (some ⟨b, 0, none⟩)) (bs ++ Lib.strCells s) w' ∧ Below B w w' ∧ Lib.OthersKept 5 (some b) w w') := Any.Builder_WriteString_k lays166 extra166 B b bs s w h hlen hBw
theorem b_String (B b : Nat) (l : List UInt8) (w : World) (h : Lib.IsBuilderF 66 5 B b (Lib.byteCells l) w) (hBw : B ≤ w.heap.size) :
    Calls Tryz.prog 40 #[.pointer (some ⟨b, 0, none⟩)] w fun e w' => e = .returned (.string ⟨l.toArray⟩) ∧ (Lib.IsBuilderF 66 5 B b (Lib.byteCells l) w' ∧ Below B w w' ∧ Lib.OthersKept 5 (some b) w w') := Any.Builder_String_any_k lays169 extra169 B b l w h hBw
theorem b_IndexByte (s : ByteArray) (c : Int) (w : World) :
    Calls Tryz.prog 73 #[.string s, .int .u8 c] w fun e w' => e = .returned (.int .i64 (Lib.indexByte s.data.toList c.toNat.toUInt8)) ∧ w' = w := Any.strings_IndexByte lays137 s c w
end Go.Proofs.YtmpepccpnnldoaaGreat

namespace Go.Proofs.YtmpepccpnnldoaaGreat
open Go.RowKit Go.Proofs

theorem isz4 : (Tryz.prog.info? 4).map (·.size) = some 1 := by kernel_rfl
theorem isz42 : (Tryz.prog.info? 42).map (·.size) = some 1 := by kernel_rfl
theorem isz44 : (Tryz.prog.info? 44).map (·.size) = some 2 := by kernel_rfl
theorem iszc44 : (Tryz.prog.info? 44).map (fun i => (i.zero.map (fun z => z.cells.size), i.size, i.bytes)) = some (some 2, 2, 40) := by kernel_rfl

end Go.Proofs.YtmpepccpnnldoaaGreat

namespace Go.Proofs.YtmpepccpnnldoaaGreat

end Go.Proofs.YtmpepccpnnldoaaGreat

namespace Go.Proofs.YtmpepccpnnldoaaGreat
open Go.RowKit Go.Proofs


end Go.Proofs.YtmpepccpnnldoaaGreat

namespace Go.Proofs.YtmpepccpnnldoaaGreat
open Go.RowKit Go.Proofs

theorem bytes_inj {a b : ByteArray} (h : a.toList = b.toList) : a = b := by
  rw [ByteArray.toList_eq, ByteArray.toList_eq] at h
  obtain ⟨⟨x⟩⟩ := a
  obtain ⟨⟨y⟩⟩ := b
  have h : x = y := h
  rw [h]
end Go.Proofs.YtmpepccpnnldoaaGreat

namespace Go.Proofs.YtmpepccpnnldoaaGreat
open Go.RowKit Go.Proofs

end Go.Proofs.YtmpepccpnnldoaaGreat

namespace Go.Proofs.YtmpepccpnnldoaaGreat
open Go.RowKit Go.Proofs

mutual
def GType.size : GType → Nat
  | .mk _ _ xs => 1 + GType.sizes xs
def GType.sizes : List GType → Nat
  | [] => 0
  | e :: r => GType.size e + GType.sizes r
end
theorem GType.sizes_step {l : List GType} {k : Nat} (h : k < l.length) : GType.sizes (l.drop k) = GType.size l[k] + GType.sizes (l.drop (k + 1)) := by
  rw [List.drop_eq_getElem_cons h, GType.sizes]
theorem GType.sizes_drop : ∀ (l : List GType) (k : Nat), GType.sizes (l.drop k) ≤ GType.sizes l
  | [], k => by simp
  | a :: l, 0 => by simp
  | a :: l, k + 1 => by
    have := GType.sizes_drop l k
    simp only [List.drop_succ_cons, GType.sizes]
    omega
theorem GType.size_bulk : ∀ e : GType, GType.size e ≤ 1 + Tr.bulkL e.tr := by
  refine GType.ind fun v0 v1 v3 h => ?_
  have : ∀ l : List GType, (∀ x ∈ l, GType.size x ≤ 1 + Tr.bulkL x.tr) → GType.sizes l ≤ l.length + Tr.bulkAll (GType.trs l) := by
    intro l
    induction l with
    | nil => intro _; simp [GType.sizes]
    | cons a l ih =>
      intro hl
      have h1 := hl a (by simp)
      have h2 := ih fun x hx => hl x (by simp [hx])
      simp only [GType.sizes, GType.trs, Tr.bulkAll, List.length_cons]
      omega
  have := this v3 h
  simp only [GType.size, GType.tr, Tr.bulkL_append, Tr.bulkL, Tr.bulk, GType.trs_len]
  omega

mutual
def GType.pre : GType → List GType
  | .mk k n xs => .mk k n xs :: GType.pres xs
def GType.pres : List GType → List GType
  | [] => []
  | e :: r => GType.pre e ++ GType.pres r
end
end Go.Proofs.YtmpepccpnnldoaaGreat

namespace Go.Proofs.YtmpepccpnnldoaaGreat
open Go.RowKit

mutual
def Tr.cnt : Tr → Nat
  | .leaf _ => 1
  | .row _ es => Tr.cntE es
def Tr.cntL : List Tr → Nat
  | [] => 0
  | t :: r => Tr.cnt t + Tr.cntL r
def Tr.cntE : List (List Tr) → Nat
  | [] => 0
  | e :: r => Tr.cntL e + Tr.cntE r
end
/-- Blocks outside S hold what they held; the rest of the world is as it was. -/
structure Chg (S : Nat → Prop) (w w' : World) : Prop where
  os : w'.os = w.os
  tape : w'.tape = w.tape
  output : w'.output = w.output
  size : w.heap.size ≤ w'.heap.size
  block : ∀ b, b < w.heap.size → ¬ S b → w'.heap[b]? = w.heap[b]?
theorem Chg.refl (S : Nat → Prop) (w : World) : Chg S w w := ⟨rfl, rfl, rfl, Nat.le_refl _, fun _ _ _ => rfl⟩
theorem Chg.trans {S : Nat → Prop} {a b c : World} (h : Chg S a b) (k : Chg S b c) : Chg S a c :=
  ⟨k.os.trans h.os, k.tape.trans h.tape, k.output.trans h.output, Nat.le_trans h.size k.size, fun x hx hs => (k.block x (Nat.lt_of_lt_of_le hx h.size) hs).trans (h.block x hx hs)⟩
theorem Chg.mono {S S' : Nat → Prop} {a b : World} (h : Chg S a b) (hS : ∀ x, S x → S' x) : Chg S' a b := ⟨h.os, h.tape, h.output, h.size, fun x hx hn => h.block x hx fun hs => hn (hS x hs)⟩
theorem Chg.of_ext {S : Nat → Prop} {a b : World} (h : Ext a b) : Chg S a b := ⟨h.os, h.tape, h.output, h.size, fun x hx _ => h.block x hx⟩
theorem Chg.ext {S : Nat → Prop} {a b c : World} (h : Ext a b) (k : Chg S b c) (hS : ∀ x, S x → a.heap.size ≤ x) : Ext a c :=
  ⟨k.os.trans h.os, k.tape.trans h.tape, k.output.trans h.output, Nat.le_trans h.size k.size, fun x hx => (k.block x (Nat.lt_of_lt_of_le hx h.size) (fun hs => by have := hS x hs; omega)).trans (h.block x hx)⟩

end Go.Proofs.YtmpepccpnnldoaaGreat

namespace Go.Proofs.YtmpepccpnnldoaaGreat
open Go.RowKit

section
variable {P : Program} {ops : Array Oper} {Q : Exit → Act → World → Prop} {md : Region.Mode} {S : World → Prop}

theorem run_loadVar_cell {w : World} {p : Addr} {ty : TypeId} {v : Value} {d : TypeDesc} (hu : P.underlying ty = some d) (hd : (match d with | .struct _ | .array _ _ => true | _ => false) = false) (hc : w.cell? p = some v) :
    (loadVar ty p).run P w = .ok v w := by
  have hagg : (isAgg ty).run P w = .ok false w := by
    unfold isAgg
    rw [Sem.run_bind, run_underlying hu w]
    cases d <;> simp_all
  simp [loadVar, Sem.run_bind, hagg, hc]

theorem wpAnyH_cell {i : Nat} {oi : Oper} {fuel : Nat} {listed : Array Bool} {a : Act} {w : World} (hi : ops[i]? = some oi)
    (hs : Region.noSelect ops = true) (hf : Region.free md ops listed i = true) (hr : (Region.ready md ops listed).contains i = true) (hgd : oi.guard = none) (ty : TypeId) (x : Operand) (ho : oi.op = .load ty x)
    (b off : Nat) (hx : a.eval x = .pointer (some ⟨b, off, none⟩)) (v : Value) (d : TypeDesc) (hu : P.underlying ty = some d) (hd : (match d with | .struct _ | .array _ _ => true | _ => false) = false)
    (hS : ∀ w, S w → w.cell? ⟨b, off, none⟩ = some v) (hw : S w) (hQ2 : ∀ c a w v, Q (.panic c) (a.put oi.dst v) w → Q (.panic c) a w)
    (h : wpAnyH P md ops Q S fuel (listed.setIfInBounds i true) (a.put oi.dst v) w) : wpAnyH P md ops Q S (fuel + 1) listed a w :=
  wpAnyH_take hi hs hf hr (fun c a w => hQ2 c a w _) (.inl ⟨by simp [Region.wanted, hgd], fun w1 hw1 => by
    unfold execOp
    simp only [ho, hx, Instr.loadAt, Instr.sureAddr, Sem.run_bind, Sem.run_pure, Result.andThen_ok, run_loadVar_cell hu hd (hS w1 hw1)]⟩) hw h

theorem wpAnyH_index {i : Nat} {oi : Oper} {fuel : Nat} {listed : Array Bool} {a : Act} {w : World} (hi : ops[i]? = some oi)
    (hs : Region.noSelect ops = true) (hf : Region.free md ops listed i = true) (hr : (Region.ready md ops listed).contains i = true) (hgd : oi.guard = none) (ty : TypeId) (x y : Operand) (ho : oi.op = .indexAddr ty x y)
    (b off len cap k sz : Nat) (hx : a.eval x = .slice (some ⟨b, off, none⟩) len cap) (hy : a.eval y = .int .i64 (k : Int)) (hk : k < len) (hu : P.underlying ty = some (.slice (P.elem ty))) (hinfo : (P.info? (P.elem ty)).map (·.size) = some sz)
    (hw : S w) (hQ2 : ∀ c a w v, Q (.panic c) (a.put oi.dst v) w → Q (.panic c) a w)
    (h : wpAnyH P md ops Q S fuel (listed.setIfInBounds i true) (a.put oi.dst (.pointer (some ⟨b, off + k * sz, none⟩))) w) : wpAnyH P md ops Q S (fuel + 1) listed a w :=
  wpAnyH_take hi hs hf hr (fun c a w => hQ2 c a w _) (.inl ⟨by simp [Region.wanted, hgd], fun w1 _ => by
    have hsz : (Go.sizeOf (P.elem ty)).run P w1 = .ok sz w1 := by
      cases hq : P.info? (P.elem ty) with
      | none => simp [hq] at hinfo
      | some j => have : j.size = sz := by simpa [hq] using hinfo
                  simp [Go.sizeOf, typeInfo, hq, this]
    have hadd : ∀ n, (⟨b, off, none⟩ : Addr).add n = ⟨b, off + n, none⟩ := fun n => by unfold Addr.add; split <;> simp_all
    unfold execOp
    simp only [ho, hx, hy, run_indexAt_slice _ _ _ _ _ _ _ hu, Sem.run_bind, hsz, Result.andThen_ok]
    rw [if_pos ⟨by omega, by omega⟩]
    simp [hadd]⟩) hw h

/-- The one operation that may come up now, carried out: it yields a value, in another world. -/
theorem wpAnyH_run {i : Nat} {o : Oper} {fuel : Nat} {listed : Array Bool} {a : Act} {w w' : World} {v : Value} (hr : Region.ready md ops listed = [i]) (ho : ops[i]? = some o) (hgd : o.guard = none)
    (hrun : (execOp a.eval o).run P w = .ok (.value v) w') (hS : S w') (h : wpAnyH P md ops Q S fuel (listed.setIfInBounds i true) (a.put o.dst v) w') : wpAnyH P md ops Q S (fuel + 1) listed a w := by
  refine wpAnyH_all hr (by simp) fun j hj => ?_
  obtain rfl : j = i := by simpa using hj
  have hw : Region.wanted o (yielded ops a.tmps) = true := by simp [Region.wanted, hgd]
  unfold wpOp
  simp only [ho]
  rw [if_pos hw]
  refine .inl ?_
  unfold Oper.wp
  rw [hrun]
  exact ⟨hS, h⟩
theorem wpOp_run {i : Nat} {o : Oper} {a : Act} {w w' : World} {v : Value} {K : Act → World → Prop} (ho : ops[i]? = some o) (hgd : o.guard = none) (hrun : (execOp a.eval o).run P w = .ok (.value v) w') (h : K (a.put o.dst v) w') : wpOp P ops Q i K a w := by
  have hw : Region.wanted o (yielded ops a.tmps) = true := by simp [Region.wanted, hgd]
  unfold wpOp
  simp only [ho]
  rw [if_pos hw]
  refine .inl ?_
  unfold Oper.wp
  rw [hrun]
  exact h

theorem wpList_load_rep_g {rest : List Oper} {o : Oper} {a : Act} {w : World} (hwd : Region.wanted o (yielded ops a.tmps) = true) (ty : TypeId) (x : Operand) (ho : o.op = .load ty x)
    (b off : Nat) (hx : a.eval x = .pointer (some ⟨b, off, none⟩)) (cs : List Value) (fs : Array Field) (hu : P.underlying ty = some (.struct fs)) (hi : (P.info? ty).map (·.size) = some cs.length)
    (hc : ∀ j v, cs[j]? = some v → w.cell? ⟨b, off + j, none⟩ = some v) (h : wpList P ops Q rest (a.put o.dst (.agg ⟨cs⟩)) w) : wpList P ops Q (o :: rest) a w :=
  wpList_step fun _ hK => by
    rw [if_pos hwd]
    unfold Oper.wp execOp
    simp only [ho, hx, Instr.loadAt, Instr.sureAddr, Sem.run_bind, Sem.run_pure, Result.andThen_ok, run_loadVar_rep w b off ty cs fs hu hi hc]
    exact hK _ _ h

end
end Go.Proofs.YtmpepccpnnldoaaGreat

namespace Go.Proofs.YtmpepccpnnldoaaGreat
open Go.RowKit

/-- The slice is nil, or its row is known whole: it begins at 0 and the row's size is the capacity's. -/
def Whole (E : TypeId) (base sz : Nat) (w : World) (n : Nat) (v : Value) : Prop :=
  (v = .slice none 0 0 ∧ n = 0) ∨ ∃ g cap cur, v = .slice (some ⟨g, 0, none⟩) n cap ∧ base ≤ g ∧ OB w g E cur ∧ n ≤ cap ∧ cap ≤ maxLen ∧ cur.size = cap * sz

structure Acc (E : TypeId) (base sz : Nat) (w : World) (es : List (List Tr)) (v : Value) (S : Nat → Prop) : Prop where
  own : Own w (.row sz es) v S
  whole : Whole E base sz w es.length v
  lens : ∀ e ∈ es, e.length = sz
  lt : ∀ x, S x → base ≤ x ∧ x < w.heap.size

theorem Acc.rep {E : TypeId} {base sz : Nat} {w : World} {es : List (List Tr)} {v : Value} {S : Nat → Prop} (h : Acc E base sz w es v S) : Rep w (.row sz es) v := h.own.rep
theorem Acc.nil (E : TypeId) (base sz : Nat) (w : World) : Acc E base sz w [] (.slice none 0 0) (fun _ => False) :=
  ⟨Own.row (es := []) (fun _ _ => undef) (fun _ _ _ => False) (by simp) (by unfold maxLen; omega) (by simp) (by simp) (by simp) (by simp), .inl ⟨rfl, rfl⟩, by simp, by simp⟩
theorem Acc.keep {E : TypeId} {base sz : Nat} {w w' : World} {es : List (List Tr)} {v : Value} {S : Nat → Prop} (h : Acc E base sz w es v S) (hz : w.heap.size ≤ w'.heap.size)
    (hx : ∀ b, S b ∨ v.ownBlock = some b → b < w.heap.size → w'.heap[b]? = w.heap[b]?) : Acc E base sz w' es v S := by
  refine ⟨h.own.keep fun b hb => hx b (.inl hb), ?_, h.lens, fun x hs => ⟨(h.lt x hs).1, Nat.lt_of_lt_of_le (h.lt x hs).2 hz⟩⟩
  rcases h.whole with h1 | ⟨g, cap, cur, rfl, h2, h3, h4⟩
  · exact .inl h1
  · exact .inr ⟨g, cap, cur, rfl, h2, (hx g (.inr rfl) h3.lt).trans h3, h4⟩
theorem Acc.ext {E : TypeId} {base sz : Nat} {w w' : World} {es : List (List Tr)} {v : Value} {S : Nat → Prop} (h : Acc E base sz w es v S) (hx : Ext w w') : Acc E base sz w' es v S := h.keep hx.size fun b _ hb => hx.block b hb
theorem Acc.mono {E : TypeId} {base base' sz : Nat} {w : World} {es : List (List Tr)} {v : Value} {S S' : Nat → Prop} (h : Acc E base sz w es v S) (hb : base' ≤ base) (hS : ∀ x, S x → S' x) (hl : ∀ x, S' x → base' ≤ x ∧ x < w.heap.size) : Acc E base' sz w es v S' := by
  refine ⟨h.own.mono hS, ?_, h.lens, hl⟩
  rcases h.whole with h1 | ⟨g, cap, cur, h1, h2, h3⟩
  · exact .inl h1
  · exact .inr ⟨g, cap, cur, h1, by omega, h3⟩

theorem Acc.owns {E : TypeId} {base sz : Nat} {w : World} {es : List (List Tr)} {v : Value} {S : Nat → Prop} (h : Acc E base sz w es v S) : ∃ xs, w.ownsRow base E sz v es.length xs := by
  rcases h.whole with ⟨h1, h2⟩ | ⟨g, cap, cur, h1, h2, h3, h4, h5, h6⟩
  · exact ⟨[], by simp [h2], .inl ⟨h1, h2⟩⟩
  · exact ⟨cur.toList.take (es.length * sz), by have := Nat.mul_le_mul_right sz h4; simp only [List.length_take, Array.length_toList]; omega, .inr ⟨g, cap, cur, h1, h2, h3, h4, h5, h6, rfl⟩⟩

theorem getE_append {α : Type} {es : List α} {e y : α} {i : Nat} (h : (es ++ [e])[i]? = some y) : (i < es.length ∧ es[i]? = some y) ∨ (i = es.length ∧ y = e) := by
  rcases Nat.lt_or_ge i es.length with hi | hi
  · rw [List.getElem?_append_left hi] at h
    exact .inl ⟨hi, h⟩
  · rw [List.getElem?_append_right hi] at h
    rcases hk : i - es.length with _ | k
    · rw [hk] at h
      simp at h
      exact .inr ⟨by omega, h.symm⟩
    · rw [hk] at h
      simp at h

theorem Acc.snoc {E : TypeId} {base base' sz : Nat} {w w' : World} {es : List (List Tr)} {e : List Tr} {v : Value} {S T : Nat → Prop} {xs cs : List Value} {g cap : Nat} (h : Acc E base sz w es v S) (hr : w.ownsRow base' E sz v es.length xs)
    (he : e.length = sz) (ho : OwnL w e cs T) (hST : ∀ x, S x → T x → False) (hT : ∀ x, T x → base ≤ x ∧ x < w.heap.size) (hTv : ∀ x, v.ownBlock = some x → ¬ T x)
    (hr' : w'.ownsRow base E sz (.slice (some ⟨g, 0, none⟩) (es.length + 1) cap) (es.length + 1) (xs ++ cs)) (hg : w.grownBy w' v.ownBlock) (hgg : v.ownBlock = some g ∨ g = w.heap.size) (_hbw : base ≤ w.heap.size) :
    Acc E base sz w' (es ++ [e]) (.slice (some ⟨g, 0, none⟩) (es.length + 1) cap) (fun x => S x ∨ T x ∨ x = g) := by
  obtain ⟨hown, hwh, hlens, hlt⟩ := h
  have hel : (es ++ [e]).length = es.length + 1 := by simp
  obtain ⟨hxl', hr'⟩ := hr'
  rcases hr' with ⟨h1, -⟩ | ⟨g', cap', cur', h1, hbg, hob', hcap, hmax, hcs', htake'⟩
  · simp at h1
  injection h1 with h1 h2 h3
  injection h1 with h1
  injection h1 with h1
  subst h1 h3
  have hgl : g < w'.heap.size := OB.lt hob'
  have hvlt : ∀ x, v.ownBlock = some x → x < w.heap.size := by
    intro x hx
    rcases hwh with ⟨rfl, -⟩ | ⟨g0, c0, u0, rfl, -, h3, -⟩
    · simp [Value.ownBlock] at hx
    · simp [Value.ownBlock] at hx
      subst hx
      exact h3.lt
  have hxl : xs.length = es.length * sz := hr.1
  have hlens' : ∀ y ∈ es ++ [e], y.length = sz := by
    intro y hy
    rcases List.mem_append.1 hy with hy | hy
    · exact hlens y hy
    · simp at hy; rw [hy, he]
  have hcur' : ∀ i, i < (es.length + 1) * sz → cur'[i]? = (xs ++ cs)[i]? := by
    intro i hi
    have h8 : (cur'.toList.take ((es.length + 1) * sz))[i]? = (xs ++ cs)[i]? := by rw [htake']
    rw [List.getElem?_take, if_pos hi] at h8
    simpa using h8
  obtain ⟨hcl, U, u1, u2, u3⟩ := ho
  have hTg : ∀ x, T x → x ≠ g := by
    rintro x hx rfl
    rcases hgg with h | h
    · exact hTv _ h hx
    · have := (hT _ hx).2; omega
  cases hown with
  | row c T0 o1 o2 o3 o4 o5 o6 =>
    rename_i a cap0
    have keepb : ∀ b, b < w.heap.size → (Value.slice a es.length cap0).ownBlock ≠ some b → w'.heap[b]? = w.heap[b]? := fun b hb hne => hg.block b hb (fun h => hne h.symm)
    -- the old cells, seen from the list
    have hold : ∀ i y, es[i]? = some y → ∀ j d, y[j]? = some d → xs[i * sz + j]? = some (c i j) ∧ (∀ x, T0 i j x → (Value.slice a es.length cap0).ownBlock ≠ some x) := by
      intro i y hy j d hd
      have hne : es ≠ [] := by rintro rfl; simp at hy
      obtain ⟨b, off, E1, arr, rfl, hob, hs, hc⟩ := o3 hne
      obtain ⟨hc1, hc2⟩ := hc i y hy j d hd
      rcases hr.2 with ⟨h1, -⟩ | ⟨g1, c1, cur1, h1, -, hob1, q4, q5, q6, q7⟩
      · simp at h1
      injection h1 with h1 h2 h3
      injection h1 with h1
      injection h1 with h1 h4
      subst h1 h4
      have hoo := hob.symm.trans hob1
      injection hoo with hoo
      injection hoo with hoo
      subst hoo
      have hi : i < es.length := (List.getElem?_eq_some_iff.1 hy).1
      have hj : j < sz := by rw [← hlens y (List.mem_of_getElem? hy)]; exact (List.getElem?_eq_some_iff.1 hd).1
      have hij : i * sz + j < es.length * sz := by
        have : (i + 1) * sz ≤ es.length * sz := Nat.mul_le_mul_right _ hi
        rw [Nat.succ_mul] at this
        omega
      refine ⟨?_, fun x hx hh => ?_⟩
      · rw [← q7, List.getElem?_take, if_pos hij]
        rw [Nat.zero_add] at hc1
        simpa using hc1
      · simp [Value.ownBlock] at hh
        exact hc2 x hx hh.symm
    have hgS : ∀ i y, es[i]? = some y → ∀ j d, y[j]? = some d → ∀ x, T0 i j x → x ≠ g := by
      intro i y hy j d hd x hx
      rintro rfl
      rcases hgg with h | h
      · exact (hold i y hy j d hd).2 _ hx h
      · have := (hlt _ (o5 i y hy j d hd _ hx)).2; omega
    refine ⟨?_, .inr ⟨g, cap, cur', by rw [hel], hbg, hob', by rw [hel]; exact hcap, hmax, hcs'⟩, hlens', ?_⟩
    · rw [← hel]
      refine Own.row (fun i j => (cur'[i * sz + j]?).getD undef) (fun i j => if i < es.length then T0 i j else U j) (by rw [hel]; exact hcap) hmax ?_ ?_ ?_ ?_
      · intro _
        refine ⟨g, 0, E, cur', rfl, hob', .inr (.inr rfl), ?_⟩
        intro i y hy j d hd
        have hj : j < sz := by rw [← hlens' y (List.mem_of_getElem? hy)]; exact (List.getElem?_eq_some_iff.1 hd).1
        have hi : i < es.length + 1 := by rw [← hel]; exact (List.getElem?_eq_some_iff.1 hy).1
        have hij : i * sz + j < (es.length + 1) * sz := by
          have : (i + 1) * sz ≤ (es.length + 1) * sz := Nat.mul_le_mul_right _ hi
          rw [Nat.succ_mul] at this
          omega
        have hle : (es.length + 1) * sz ≤ cap * sz := Nat.mul_le_mul_right _ hcap
        refine ⟨?_, fun x hx => ?_⟩
        · rw [Nat.zero_add, Array.getElem?_eq_getElem (by omega)]; rfl
        · rcases getE_append hy with ⟨hi2, hy2⟩ | ⟨rfl, rfl⟩
          · simp only [if_pos hi2] at hx
            exact hgS i y hy2 j d hd x hx
          · simp only [Nat.lt_irrefl, if_false] at hx
            exact hTg x (u2 j d hd x hx)
      · intro i y hy j d hd
        have hj : j < sz := by rw [← hlens' y (List.mem_of_getElem? hy)]; exact (List.getElem?_eq_some_iff.1 hd).1
        have hi : i < es.length + 1 := by rw [← hel]; exact (List.getElem?_eq_some_iff.1 hy).1
        have hij : i * sz + j < (es.length + 1) * sz := by
          have : (i + 1) * sz ≤ (es.length + 1) * sz := Nat.mul_le_mul_right _ hi
          rw [Nat.succ_mul] at this
          omega
        have hcu := hcur' (i * sz + j) hij
        rcases getE_append hy with ⟨hi2, hy2⟩ | ⟨rfl, rfl⟩
        · simp only [if_pos hi2]
          obtain ⟨h8, h9⟩ := hold i y hy2 j d hd
          rw [List.getElem?_append_left (List.getElem?_eq_some_iff.1 h8).1, h8] at hcu
          rw [hcu]
          exact (o4 i y hy2 j d hd).keep fun b hb hbl => keepb b hbl (h9 b hb)
        · simp only [Nat.lt_irrefl, if_false]
          obtain ⟨v1, hv1, how⟩ := u1 j d hd
          rw [List.getElem?_append_right (by omega), hxl, Nat.add_sub_cancel_left, hv1] at hcu
          rw [hcu]
          exact how.keep fun b hb hbl => keepb b hbl (fun hh => hTv b hh (u2 j d hd b hb))
      · intro i y hy j d hd x hx
        rcases getE_append hy with ⟨hi2, hy2⟩ | ⟨rfl, rfl⟩
        · simp only [if_pos hi2] at hx
          exact .inl (o5 i y hy2 j d hd x hx)
        · simp only [Nat.lt_irrefl, if_false] at hx
          exact .inr (.inl (u2 j d hd x hx))
      · intro i y hy j d hd i' y' hy' j' d' hd' hne x hx hx'
        rcases getE_append hy with ⟨hi2, hy2⟩ | ⟨rfl, rfl⟩
        · simp only [if_pos hi2] at hx
          rcases getE_append hy' with ⟨hi2', hy2'⟩ | ⟨rfl, rfl⟩
          · simp only [if_pos hi2'] at hx'
            exact o6 i y hy2 j d hd i' y' hy2' j' d' hd' hne x hx hx'
          · simp only [Nat.lt_irrefl, if_false] at hx'
            exact hST x (o5 i y hy2 j d hd x hx) (u2 j' d' hd' x hx')
        · simp only [Nat.lt_irrefl, if_false] at hx
          rcases getE_append hy' with ⟨hi2', hy2'⟩ | ⟨hi3, rfl⟩
          · simp only [if_pos hi2'] at hx'
            exact hST x (o5 i' y' hy2' j' d' hd' x hx') (u2 j d hd x hx)
          · subst hi3
            simp only [Nat.lt_irrefl, if_false] at hx'
            exact u3 j d hd j' d' hd' (hne rfl) x hx hx'
    · intro x hx
      rcases hx with hx | hx | rfl
      · exact ⟨(hlt x hx).1, Nat.lt_of_lt_of_le (hlt x hx).2 hg.size⟩
      · exact ⟨(hT x hx).1, Nat.lt_of_lt_of_le (hT x hx).2 hg.size⟩
      · exact ⟨hbg, hgl⟩

theorem Acc.blk {E : TypeId} {base sz : Nat} {w : World} {es : List (List Tr)} {v : Value} {S : Nat → Prop} (h : Acc E base sz w es v S) {x : Nat} (hx : v.ownBlock = some x) : base ≤ x ∧ x < w.heap.size := by
  rcases h.whole with ⟨rfl, -⟩ | ⟨g0, c0, u0, rfl, h1, h3, -⟩
  · simp [Value.ownBlock] at hx
  · simp [Value.ownBlock] at hx
    subst hx
    exact ⟨h1, h3.lt⟩
theorem Acc.shape {E : TypeId} {base sz : Nat} {w : World} {es : List (List Tr)} {v : Value} {S : Nat → Prop} (h : Acc E base sz w es v S) : ∃ a cap, v = .slice a es.length cap ∧ es.length ≤ cap ∧ cap ≤ maxLen := h.rep.shape
/-- The world behind an append onto a slice of our own, as seen from an elder world. -/
theorem grown_ext_own {a w w' : World} {v : Value} (h : Ext a w) (hg : w.grownBy w' v.ownBlock) (hB : ∀ x, v.ownBlock = some x → a.heap.size ≤ x) : Ext a w' := Below.grown h hg h.size hB
theorem Chg.of_grown_own {w w' : World} {v : Value} (hg : w.grownBy w' v.ownBlock) : Chg (fun b => v.ownBlock = some b) w w' :=
  ⟨hg.os, hg.tape, hg.output, hg.size, fun x hx hs => hg.block x hx (fun h => hs h.symm)⟩

theorem OB.grown_own {w w' : World} {g : Nat} {t : TypeId} {cs : Array Value} {v : Value} (h : OB w g t cs) (hg : w.grownBy w' v.ownBlock) (hne : v.ownBlock ≠ some g) : OB w' g t cs := (hg.block g h.lt (fun e => hne e.symm)).trans h

/-- From world w on, a slice v of our own has been appended to: by now it is v' and holds es. -/
structure AccRun (E : TypeId) (base sz : Nat) (w : World) (v : Value) (w' : World) (es : List (List Tr)) (v' : Value) : Prop where
  acc : ∃ U, Acc E base sz w' es v' U
  chg : Chg (fun b => v.ownBlock = some b) w w'
  row : ∀ b, v'.ownBlock = some b → v.ownBlock = some b ∨ w.heap.size ≤ b
theorem AccRun.refl {E : TypeId} {base sz : Nat} {w : World} {es : List (List Tr)} {v : Value} {U : Nat → Prop} (h : Acc E base sz w es v U) : AccRun E base sz w v w es v := ⟨⟨U, h⟩, Chg.refl _ _, fun _ h => .inl h⟩
theorem AccRun.ext {E : TypeId} {base sz : Nat} {w w1 w2 : World} {es : List (List Tr)} {v v' : Value} (h : AccRun E base sz w v w1 es v') (hx : Ext w1 w2) : AccRun E base sz w v w2 es v' := by
  obtain ⟨U, h1⟩ := h.acc
  exact ⟨⟨U, h1.ext hx⟩, h.chg.trans (.of_ext hx), h.row⟩
theorem AccRun.trans {E : TypeId} {base sz : Nat} {w w1 w2 : World} {es es2 : List (List Tr)} {v v1 v2 : Value} (h : AccRun E base sz w v w1 es v1) (k : AccRun E base sz w1 v1 w2 es2 v2) : AccRun E base sz w v w2 es2 v2 := by
  refine ⟨k.acc, ⟨k.chg.os.trans h.chg.os, k.chg.tape.trans h.chg.tape, k.chg.output.trans h.chg.output, Nat.le_trans h.chg.size k.chg.size, fun b hb hn => ?_⟩, fun b hb => ?_⟩
  · refine (k.chg.block b (Nat.lt_of_lt_of_le hb h.chg.size) fun h1 => ?_).trans (h.chg.block b hb hn)
    rcases h.row b h1 with h2 | h2
    · exact hn h2
    · omega
  · rcases k.row b hb with h1 | h1
    · exact h.row b h1
    · exact .inr (Nat.le_trans h.chg.size h1)
theorem AccRun.snoc {E : TypeId} {base sz : Nat} {w w' : World} {es : List (List Tr)} {v v' : Value} {U : Nat → Prop} {g cap n : Nat} (hv : v' = .slice (some ⟨g, 0, none⟩) n cap) (h : Acc E base sz w' es v' U) (hg : w.grownBy w' v.ownBlock) (hgg : v.ownBlock = some g ∨ g = w.heap.size) : AccRun E base sz w v w' es v' := by
  refine ⟨⟨U, h⟩, Chg.of_grown_own hg, fun b hb => ?_⟩
  subst hv
  simp [Value.ownBlock] at hb
  subst hb
  rcases hgg with h1 | h1
  · exact .inl h1
  · exact .inr (by omega)
/-- What lies elsewhere stays. -/
theorem AccRun.ob {E : TypeId} {base sz : Nat} {w w' : World} {es : List (List Tr)} {v v' : Value} (h : AccRun E base sz w v w' es v') {B : Nat} {T : TypeId} {cs : Array Value} (hB : OB w B T cs) (hn : v.ownBlock ≠ some B) : OB w' B T cs ∧ v'.ownBlock ≠ some B := by
  refine ⟨(h.chg.block B hB.lt hn).trans hB, fun h1 => ?_⟩
  rcases h.row B h1 with h2 | h2
  · exact hn h2
  · have := hB.lt; omega
theorem AccRun.old {E : TypeId} {base sz : Nat} {w0 w w' : World} {es : List (List Tr)} {v v' : Value} (h : AccRun E base sz w v w' es v') (hx : Ext w0 w) (hv : ∀ b, v.ownBlock = some b → w0.heap.size ≤ b) : Ext w0 w' := Chg.ext hx h.chg hv

end Go.Proofs.YtmpepccpnnldoaaGreat

namespace Go.Proofs.YtmpepccpnnldoaaGreat
end Go.Proofs.YtmpepccpnnldoaaGreat

namespace Go.Proofs.YtmpepccpnnldoaaGreat
set_option linter.unusedSimpArgs false
set_option linter.unusedVariables false
open Go.RowKit Go.Proofs

mutual
def GSExpr.txt : GSExpr → List UInt8
  | .mk a l => if a = ⟨#[]⟩ then 40 :: (GSExpr.txts true l ++ [41]) else a.data.toList
def GSExpr.txts : Bool → List GSExpr → List UInt8
  | _, [] => []
  | z, x :: r => (if z then [] else [32]) ++ (GSExpr.txt x ++ GSExpr.txts false r)
end

theorem builder_lt {T e : TypeId} {B b : Nat} {bs : List Value} {w : World} (h : Lib.IsBuilderF T e B b bs w) : b < w.heap.size := by
  rcases h with ⟨_, v, hb, _⟩ | ⟨_, v, hb, _⟩ <;> exact (Array.getElem?_eq_some_iff.1 hb).1
theorem builderAt_ext {T e : TypeId} {B b : Nat} {p : Value} {bs : List Value} {w w' : World} (h : Lib.BuilderAtF T e B b p bs w) (hx : Ext w w') : Lib.BuilderAtF T e B b p bs w' := by
  obtain ⟨hB, v, hb, hown, hne⟩ := h
  have hl : ∀ g o, w.heap[g]? = some o → w'.heap[g]? = some o := fun g o hg => (hx.block g (Array.getElem?_eq_some_iff.1 hg).1).trans hg
  refine ⟨hB, v, hl _ _ hb, ⟨hown.1, ?_⟩, hne⟩
  rcases hown.2 with hn | ⟨g, cap, cur, fz, hv, hbg, hg, rest⟩
  · exact .inl hn
  · exact .inr ⟨g, cap, cur, fz, hv, hbg, hl _ _ hg, rest⟩
theorem builder_ext {T e : TypeId} {B b : Nat} {bs : List Value} {w w' : World} (h : Lib.IsBuilderF T e B b bs w) (hx : Ext w w') : Lib.IsBuilderF T e B b bs w' :=
  h.elim (fun x => .inl (builderAt_ext x hx)) (fun x => .inr (builderAt_ext x hx))
theorem kept_ext {e : TypeId} {b : Option Nat} {w w' : World} (hx : Ext w w') : Lib.OthersKept e b w w' := fun k o hk _ _ => (hx.block k (Array.getElem?_eq_some_iff.1 hk).1).trans hk
theorem kept_ob {b g : Nat} {w w' : World} {t : TypeId} {cs : Array Value} (h : Lib.OthersKept 5 (some b) w w') (ho : OB w g t cs) (hb : g ≠ b) (ht : t ≠ 5) : OB w' g t cs :=
  h g _ ho (fun e => hb (Option.some.inj e)) (fun c fz e => by injection e with e1 e2 e3; exact ht e2)
/-- What writing has done. -/
structure WrP (B b : Nat) (l : List UInt8) (w w' : World) : Prop where
  bld : Lib.IsBuilderF 66 5 B b (Lib.byteCells l) w'
  bel : Below B w w'
  kept : Lib.OthersKept 5 (some b) w w'
theorem WrP.trans {B b : Nat} {l k : List UInt8} {a c d : World} (h : WrP B b l a c) (h2 : WrP B b k c d) : WrP B b k a d := ⟨h2.bld, h.bel.trans h2.bel, h.kept.trans h2.kept⟩
theorem WrP.ext {B b : Nat} {l : List UInt8} {a w w' : World} (h : WrP B b l a w) (hx : Ext w w') (hB : B ≤ w.heap.size) : WrP B b l a w' := ⟨builder_ext h.bld hx, h.bel.trans (hx.mono hB), h.kept.trans (kept_ext hx)⟩
theorem WrP.pre {B b : Nat} {l : List UInt8} {a w w' : World} (hx : Ext a w) (hB : B ≤ a.heap.size) (h : WrP B b l w w') : WrP B b l a w' := ⟨h.bld, (hx.mono hB).trans h.bel, (kept_ext hx).trans h.kept⟩
theorem WrP.size {B b : Nat} {l : List UInt8} {w w' : World} (h : WrP B b l w w') : w.heap.size ≤ w'.heap.size := h.bel.size
theorem Ext.wr {B b : Nat} {l : List UInt8} {a w w' : World} (h : Ext a w) (k : WrP B b l w w') (hB : a.heap.size ≤ B) : Ext a w' := Below.trans h (k.bel.mono hB)
theorem wr_byte {B b : Nat} {l : List UInt8} {w : World} (c : UInt8) (h : Lib.IsBuilderF 66 5 B b (Lib.byteCells l) w) (hl : l.length + 1 ≤ 140737488355328) (hB : B ≤ w.heap.size) :
    Calls Tryz.prog 72 #[.pointer (some ⟨b, 0, none⟩), .int .u8 (c.toNat : Int)] w fun e w' => e = .returned .nilIface ∧ WrP B b (l ++ [c]) w w' :=
  (b_WriteByte B b (Lib.byteCells l) (c.toNat : Int) w h (by rw [Lib.byteCells_length]; exact hl) hB).mono fun e w' => by
    rintro ⟨rfl, h1, h2, h3⟩
    refine ⟨rfl, .inr ?_, h2, h3⟩
    have : Lib.byteCells (l ++ [c]) = Lib.byteCells l ++ [.int .u8 (c.toNat : Int)] := by simp [Lib.byteCells]
    rw [this]
    exact h1
theorem wr_str {B b : Nat} {l : List UInt8} {w : World} (s : ByteArray) (h : Lib.IsBuilderF 66 5 B b (Lib.byteCells l) w) (hl : (l ++ s.data.toList).length ≤ 140737488355328) (hB : B ≤ w.heap.size) :
    Calls Tryz.prog 71 #[.pointer (some ⟨b, 0, none⟩), .string s] w fun e w' => (∃ v, e = .returned v) ∧ WrP B b (l ++ s.data.toList) w w' :=
  (b_WriteString B b (Lib.byteCells l) s w h (by rw [Lib.byteCells_length]; rw [List.length_append] at hl; simpa using hl) hB).mono fun e w' => by
    rintro ⟨rfl, h1, h2, h3⟩
    refine ⟨⟨_, rfl⟩, .inr ?_, h2, h3⟩
    have : Lib.byteCells (l ++ s.data.toList) = Lib.byteCells l ++ Lib.strCells s := by simp [Lib.byteCells, Lib.strCells]
    rw [this]
    exact h1

theorem str_eq {v : ByteArray} (h : v.toList = []) : v = ⟨#[]⟩ := bytes_inj (by rw [h, ByteArray.toList_eq])
theorem str_ne {v : ByteArray} (h : ¬ v.toList = []) : ¬ v = ⟨#[]⟩ := fun e => h (by rw [e, ByteArray.toList_eq])
theorem GSExpr.txts_step {xs : List GSExpr} {k : Nat} (z : Bool) (h : k < xs.length) : GSExpr.txts z (xs.drop k) = (if z then [] else [32]) ++ (GSExpr.txt xs[k] ++ GSExpr.txts false (xs.drop (k + 1))) := by
  rw [List.drop_eq_getElem_cons h, GSExpr.txts]
set_option maxRecDepth 100000 in
set_option maxHeartbeats 2000000 in
theorem writeSExpr_impl : ∀ (x : GSExpr) (l : List UInt8) (B b : Nat) (cs : List Value) (w0 w : World), RepL w0 x.tr cs → Ext w0 w → w0.heap.size ≤ B → Lib.IsBuilderF 66 5 B b (Lib.byteCells l) w → (l ++ GSExpr.txt x).length ≤ 140737488355328 → B ≤ w.heap.size →
    Calls Tryz.prog 39 #[.pointer (some ⟨b, 0, none⟩), .agg ⟨cs⟩] w fun e w' => e = .returned (.tuple #[]) ∧ WrP B b (l ++ GSExpr.txt x) w w' := by
  refine GSExpr.ind fun v0 xs ih => ?_; intro l B b cs w0 w hr hw hwB hb hlen hB
  obtain ⟨a, c, rfl, -, h3⟩ := GSExpr.opened hr
  obtain ⟨hl, hm, -⟩ := h3.lens
  have HS := Lib.hid h3
  have IH := Lib.hid ih
  have HW := Lib.hid hw
  have HB := Lib.hid hb
  have HLB := Lib.hid (builder_lt hb)
  have HL := Lib.hid hlen
  clear hr h3 ih hw hb hlen
  simp only [List.cons_append, List.nil_append] at *
  have hB1 : B ≤ (w.alloc (.cells #[.string v0, .slice a xs.length c] 44)).heap.size := by simp; omega
  have HB1 := Lib.hid (builder_ext HB.out (.alloc (.refl w) (.cells #[.string v0, .slice a xs.length c] 44)))
  have hx1 : Ext w (w.alloc (.cells #[.string v0, .slice a xs.length c] 44)) := .alloc (.refl w) _
  have HX1 := Lib.hid hx1
  have HO1 := Lib.hid (OB.new w 44 #[.string v0, .slice a xs.length c])
  clear hx1
  go_enter Tryz.func39, Tryz.ntmps39
  go_wp2_with fail
  · have hh : (!v0.toList.isEmpty) = true := by assumption
    have hne := str_ne (v := v0) (by simpa using hh)
    have htx : GSExpr.txt (.mk v0 xs) = v0.data.toList := by rw [GSExpr.txt, if_neg hne]
    rw [htx] at HL
    have HTX := Lib.hid htx
    clear htx
    refine (wr_str v0 HB1.out HL.out hB1).mono ?_; rintro e w1 ⟨⟨v, rfl⟩, h1⟩
    have H1 := Lib.hid (WrP.pre HX1.out hB h1)
    clear h1
    go_wp2_with fail
    (try simp only [Exit.inBlock, Exit.then])
    refine bodyPost_ret (results_none rfl _ _ _) rfl ?_
    rw [HTX.out]
    exact ⟨rfl, H1.out⟩
  · have hh : (!v0.toList.isEmpty) = false := by assumption
    have he := str_eq (v := v0) (by simpa using hh)
    have htx : GSExpr.txt (.mk v0 xs) = 40 :: (GSExpr.txts true xs ++ [41]) := by rw [GSExpr.txt, if_pos he]
    rw [htx] at HL
    have HTX := Lib.hid htx
    clear htx
    have hlen := HL.out
    simp only [List.length_append, List.length_cons, List.length_nil] at hlen
    refine (wr_byte 40 HB1.out (by omega) hB1).mono ?_; rintro e w1 ⟨rfl, h1⟩
    have hb1 := kept_ob h1.kept HO1.out (by have := HLB.out; omega) (by decide)
    have hce := hb1.cell
    have H1 := Lib.hid (WrP.pre HX1.out hB h1)
    have hz1 := H1.out.size
    clear h1 hb1
    go_wp2_with fail
    go_loopw [18] (fun i wr => ∃ (k : Nat) (lk : List UInt8), k ≤ xs.length ∧ i = .int .i64 k ∧ Hid (WrP B b lk w wr) ∧ Hid (lk ++ (GSExpr.txts (k == 0) (xs.drop k) ++ [41]) = l ++ 40 :: (GSExpr.txts true xs ++ [41]))) (fun i _ => xs.length - (intOf i).toNat)
    case atStart =>
      refine ⟨0, l ++ [40], Nat.zero_le _, rfl, H1.out, ?_⟩
      show _ = _
      simp
    case round =>
      obtain ⟨k, lk, hk, rfl, HK, HE⟩ := hrel
      have hwr := Ext.wr HW.out HK.out hwB
      have hzr := HK.out.size
      by_cases hlt : k < xs.length
      · obtain ⟨bb, off, cs, rfl, hbb, hcs, hc⟩ := HS.out.at2 (k := k) (GSExpr.trs_get hlt)
        have HM := Lib.hid (List.getElem_mem hlt)
        have HCS := Lib.hid hcs
        have HC := Lib.hid (cells_ext hwr hbb hc)
        have HI3 : Hid ((Tryz.prog.info? 44).map (·.size) = some cs.length) := by rw [← hcs.length, GSExpr.tr_len]; exact isz44
        have HCL : Hid (cs.length = 2) := by rw [← hcs.length, GSExpr.tr_len]; rfl
        have HWR := Lib.hid hwr
        clear hcs hc hwr
        go_wp2_with (first
          | (refine wpList_load_rep rfl 44 (.tmp 21) rfl bb (off + k * 2) rfl cs _ Tryz.underlying44 HI3.out HC.out ?_)
          | (refine wpList_store_rep rfl 44 (.tmp 5) (.tmp 22) rfl wr.heap.size 0 rfl cs rfl 44 _ (OB.new wr _ _) HI3.out (by rw [HCL.out]; exact Nat.le_refl _) HCS.out.one ?_; intro wb hob hgb hzb; rw [splice_whole (by rw [HCL.out]; rfl)] at hob; have HOB := Lib.hid hob; have HXB := Lib.hid (grown_ext (.alloc (.refl wr) _) hgb (Nat.le_refl _)); clear hob hgb hzb)
          | (refine wpList_load_rep rfl 44 (.tmp 5) rfl wr.heap.size 0 rfl cs _ Tryz.underlying44 HI3.out HOB.out.cells0 ?_))
        · have h0 : 0 < k := by omega
          have hkf : (k == 0) = false := by simp; omega
          have he := HE.out
          rw [GSExpr.txts_step _ hlt, hkf] at he
          have HKB := Lib.hid (WrP.ext HK.out HXB.out (by omega))
          have hzb := HXB.out.size
          have hle := congrArg List.length he
          simp only [List.length_append, List.length_cons, List.length_nil, Bool.false_eq_true, if_false] at hle
          refine (wr_byte 32 HKB.out.bld (by omega) (by omega)).mono ?_; rintro e w2 ⟨rfl, h2⟩
          have HO2 := Lib.hid (kept_ob h2.kept HOB.out (by have := HLB.out; omega) (by decide))
          have hz2 := h2.size
          have H2 := Lib.hid (WrP.trans HKB.out h2)
          have HW2 := Lib.hid (Ext.wr (HWR.out.trans HXB.out) h2 hwB)
          have HEE := Lib.hid he
          clear h2 he
          go_wp2_with (refine wpList_load_rep rfl 44 (.tmp 5) rfl wr.heap.size 0 rfl cs _ Tryz.underlying44 HI3.out HO2.out.cells0 ?_)
          refine (IH.out _ HM.out (lk ++ [32]) B b cs w0 w2 HCS.out HW2.out hwB H2.out.bld (by simp only [List.length_append, List.length_cons, List.length_nil]; omega) (by omega)).mono ?_; rintro e w3 ⟨rfl, h3⟩
          have H3 := Lib.hid (WrP.trans H2.out h3)
          clear h3
          go_wp2_with fail
          go_roundw
          case rel =>
            refine ⟨k + 1, _, by omega, by go_num, H3.out, ?_⟩
            show _ = _
            rw [← HEE.out]
            simp
          case measure => simp [intOf]; omega
        · have h0 : k = 0 := by omega
          subst h0
          have he := HE.out
          rw [GSExpr.txts_step _ hlt] at he
          have HKB := Lib.hid (WrP.ext HK.out HXB.out (by omega))
          have hzb := HXB.out.size
          have hle := congrArg List.length he
          simp only [List.length_append, List.length_cons, List.length_nil, BEq.rfl, if_true] at hle
          have HW2 := Lib.hid (HWR.out.trans HXB.out)
          have HEE := Lib.hid he
          clear he
          refine (IH.out _ HM.out lk B b cs w0 _ HCS.out HW2.out hwB HKB.out.bld (by simp only [List.length_append, List.length_cons, List.length_nil]; omega) (by omega)).mono ?_; rintro e w3 ⟨rfl, h3⟩
          have H3 := Lib.hid (WrP.trans HKB.out h3)
          clear h3
          go_wp2_with fail
          go_roundw
          case rel =>
            refine ⟨0 + 1, _, by omega, by go_num, H3.out, ?_⟩
            show _ = _
            rw [← HEE.out]
            simp
          case measure => simp [intOf]; omega
      · have hkl : k = xs.length := by omega
        have he := HE.out
        rw [hkl, List.drop_length] at he
        have htn : ∀ z, GSExpr.txts z [] = [] := fun z => by rw [GSExpr.txts]
        rw [htn] at he
        have hle := congrArg List.length he
        simp only [List.length_append, List.length_cons, List.length_nil] at hle
        have HEE := Lib.hid he
        clear he
        go_wp2_with fail
        refine (wr_byte 41 HK.out.bld (by omega) (by omega)).mono ?_; rintro e w2 ⟨rfl, h2⟩
        have H2 := Lib.hid (WrP.trans HK.out h2)
        clear h2
        go_wp2_with fail
        go_end0
        rw [HTX.out, ← HEE.out]
        exact ⟨rfl, H2.out⟩
end Go.Proofs.YtmpepccpnnldoaaGreat

namespace Go.Proofs.YtmpepccpnnldoaaGreat
set_option linter.unusedSimpArgs false
set_option linter.unusedVariables false
open Go.RowKit

theorem Own.repM {ok : Nat → Nat → Prop} {w : World} {t : Tr} {v : Value} {S : Nat → Prop} (h : Own w t v S) (hk : ∀ b o, S b → b < w.heap.size → ok b o) : RepM ok w t v := by
  induction h with
  | leaf h => exact .leaf h
  | row c T h1 h2 h3 _ h5 h6 ih =>
    refine .row c h1 h2 (fun hne => ?_) (fun i e he j d hd => ih i e he j d hd fun b o hb hl => hk b o (h5 i e he j d hd b hb) hl)
    obtain ⟨b, off, E, arr, ha, hb, hs, hc⟩ := h3 hne
    exact ⟨b, off, ha, hb.lt, fun i e he j d hd => ⟨hk _ _ hs hb.lt, by rw [hb.cell]; exact (hc i e he j d hd).1⟩⟩
/-- A function that is handed data and returns memory of its own computes. -/
theorem AFun.ofFresh {P : Program} {f : FuncId} {args : List PV} {t : Tr} (hfr : freeL args = true) (h : ∀ w vals, RVL0 w args vals → Calls P f ⟨vals⟩ w fun e w' => ∃ v, e = .returned v ∧ Ext w w' ∧ Own w' t v (Between w w')) : AFun P f args (.t t) := fun av m w vals hst hv => by
  refine (h w vals (freeL.rv (fun b o _ _ => ok0 b o) args vals hfr hv)).mono fun e w' => ?_; rintro ⟨v, rfl, hx, ho⟩
  refine ⟨.t t, ⟨[], []⟩, m, v, rfl, ⟨rfl, rfl⟩, StoOk.nil fun b o hb => Nat.lt_of_lt_of_le (hst.avlt b o hb) hx.size, ?_, ?_⟩
  · exact ⟨hx.os, hx.tape, hx.output, hx.size, fun b hb _ _ => hx.block b hb, fun b o hb _ => heap_other_cell (hx.block b hb), fun _ _ _ h => h, fun _ _ h => by simp at h, fun _ _ h => by simp at h, fun _ _ h => by simp at h, fun _ _ _ _ h => by simp at h⟩
  · exact ho.repM fun b o hb _ => ⟨fun ha => by have := hst.avlt b o ha; have := hb.1; omega, fun _ _ h => by simp at h, fun _ _ _ _ h => by simp at h⟩
end Go.Proofs.YtmpepccpnnldoaaGreat

namespace Go.Proofs.YtmpepccpnnldoaaGreat
set_option linter.unusedSimpArgs false
set_option linter.unusedVariables false
open Go.RowKit Go.Proofs

theorem RVL.ofGet {ok : Nat → Nat → Prop} {st : Sto} {m : Lay} {w : World} : ∀ {ts : List Tr} {vs : List Value}, vs.length = ts.length → (∀ (j : Nat) (d : Tr), ts[j]? = some d → ∃ v, vs[j]? = some v ∧ RepM ok w d v) → RVL ok st m w (ts.map PV.t) vs
  | [], [], _, _ => trivial
  | [], _ :: _, h, _ => by simp at h
  | _ :: _, [], h, _ => by simp at h
  | t :: ts, v :: vs, h, k => by
    obtain ⟨u, hu, hr⟩ := k 0 t rfl
    simp at hu
    subst hu
    exact ⟨hr, RVL.ofGet (by simpa using h) fun j d hd => by have := k (j + 1) d (by simpa using hd); simpa using this⟩
theorem AFun.ofLeaf {P : Program} {f : FuncId} {args : List PV} {d : Value} (hfr : freeL args = true) (hd : LeafOk d) (h : ∀ w vals, RVL0 w args vals → Calls P f ⟨vals⟩ w fun e w' => e = .returned d ∧ Ext w w') : AFun P f args (.t (.leaf d)) :=
  AFun.ofFresh hfr fun w vals hv => (h w vals hv).mono fun e w' ⟨he, hx⟩ => ⟨d, he, hx, .leaf hd⟩
end Go.Proofs.YtmpepccpnnldoaaGreat

namespace Go.Proofs.YtmpepccpnnldoaaGreat
set_option linter.unusedSimpArgs false
set_option linter.unusedVariables false
open Go.RowKit Go.Proofs

theorem indexByte_range (c : UInt8) : ∀ l : List UInt8, -1 ≤ Lib.indexByte l c ∧ Lib.indexByte l c ≤ l.length
  | [] => by simp [Lib.indexByte]
  | b :: l => by
    have ⟨h1, h2⟩ := indexByte_range c l
    simp only [Lib.indexByte, List.length_cons]
    split
    · omega
    · split <;> omega
theorem i64_leaf1 {n : Int} (h0 : -1 ≤ n) (h1 : n ≤ 9223372036854775807) : LeafOk (.int .i64 n) := by
  have e1 : IntKind.i64.max = 9223372036854775807 := by decide
  have e2 : IntKind.i64.min = -9223372036854775808 := by decide
  show Lit.wf (.int .i64 n) = true
  simp only [Lit.wf, Bool.and_eq_true, decide_eq_true_eq]
  omega
theorem iIndexByte_fn (s : ByteArray) (b : UInt8) (h : s.data.toList.length ≤ 1099511627776) : AFun Tryz.prog 73 [pS s, pU b] (pI (Lib.indexByte s.data.toList b)) := by
  have hr := indexByte_range b s.data.toList
  refine AFun.ofLeaf rfl (i64_leaf1 (by omega) (by omega)) fun w vals hv => ?_
  match vals, hv with
  | [v0, v1], hv =>
    obtain rfl := (RepM.rep (show RepM _ _ (.leaf (.string s)) v0 from hv.1)).leaf_eq.1
    obtain rfl := (RepM.rep (show RepM _ _ (.leaf (.int .u8 (b.toNat : Int))) v1 from hv.2.1)).leaf_eq.1
    refine (b_IndexByte s (b.toNat : Int) w).mono fun e w' => ?_; rintro ⟨rfl, rfl⟩
    refine ⟨?_, Ext.refl _⟩
    have : ((b.toNat : Int).toNat).toUInt8 = b := by simp
    rw [this]
end Go.Proofs.YtmpepccpnnldoaaGreat

namespace Go.Proofs.YtmpepccpnnldoaaGreat
set_option maxRecDepth 100000
set_option maxHeartbeats 40000000
noncomputable section
open Go.RowKit Go.Proofs
set_option linter.unusedSimpArgs false
set_option linter.unusedVariables false

attribute [local irreducible] lt

def iisLower_T (m : UInt8 → Option Bool) : Prop := ∀ (pb : UInt8) (r : Bool), m pb = some r → AFun Tryz.prog 58 [pU pb] (pB r : PV)
def iisLower_M (fu : Nat) (pb : UInt8) : Option Bool :=
 sw (decide (((pb.toNat : Int) : Int) ≥ 97))
 (some (decide (((pb.toNat : Int) : Int) ≤ 122)))
 (some false)
theorem iisLower_ok (fu : Nat)   : iisLower_T (iisLower_M fu) := by
  intro pb r H
  have H := hd0 H
  refine qI Tryz.func58 (fun C hC => ?_)
  refine qS (qR (q1 rMv (qN (qS (qR (q1 rMv (q1 rGe (q1 rMv ?_))))))))
  refine spB 5 H (fun g1 H => ?_) fun g1 H => ?_
  · refine qg g1 rMv (qg g1 rLe (q1 (rPt g1) (q1 rMv (qN (AWP.ret ?_)))))
    obtain rfl : _ = r := (smI H :)
    exact qe1
  iterate 2 refine qk g1 ?_
  refine q1 (rPf g1) (q1 rMv (qN (AWP.ret ?_)))
  obtain rfl : _ = r := (smI H :)
  exact qe1

def iisDigit_T (m : UInt8 → Option Bool) : Prop := ∀ (pb : UInt8) (r : Bool), m pb = some r → AFun Tryz.prog 59 [pU pb] (pB r : PV)
def iisDigit_M (fu : Nat) (pb : UInt8) : Option Bool :=
 sw (decide (((pb.toNat : Int) : Int) ≥ 48))
 (some (decide (((pb.toNat : Int) : Int) ≤ 57)))
 (some false)
theorem iisDigit_ok (fu : Nat)   : iisDigit_T (iisDigit_M fu) := by
  intro pb r H
  have H := hd0 H
  refine qI Tryz.func59 (fun C hC => ?_)
  refine qS (qR (q1 rMv (qN (qS (qR (q1 rMv (q1 rGe (q1 rMv ?_))))))))
  refine spB 5 H (fun g1 H => ?_) fun g1 H => ?_
  · refine qg g1 rMv (qg g1 rLe (q1 (rPt g1) (q1 rMv (qN (AWP.ret ?_)))))
    obtain rfl : _ = r := (smI H :)
    exact qe1
  iterate 2 refine qk g1 ?_
  refine q1 (rPf g1) (q1 rMv (qN (AWP.ret ?_)))
  obtain rfl : _ = r := (smI H :)
  exact qe1

def iisAtomByte_T (m : UInt8 → Option Bool) : Prop := ∀ (pb : UInt8) (r : Bool), m pb = some r → AFun Tryz.prog 42 [pU pb] (pB r : PV)
def iisAtomByte_M (fu : Nat) (pb : UInt8) : Option Bool :=
 bd (iisLower_M fu pb) (fun x2 =>
 sw (x2)
 (some true)
 (bd (iisDigit_M fu pb) (fun x5 =>
 sw (x5)
 (some true)
 (gd ((x_272d2b2a3c3d2e).data.toList.length ≤ 1099511627776)
 (some (decide (((Lib.indexByte (x_272d2b2a3c3d2e).data.toList pb) : Int) ≥ 0)))))))
theorem iisAtomByte_ok (fu : Nat)   : iisAtomByte_T (iisAtomByte_M fu) := by
  intro pb r H
  have H := hd0 H
  refine qI Tryz.func42 (fun C hC => ?_)
  refine qS (qR (q1 rMv (qN (qS (qR (q1 rMv (bdE H fun x2 z1 H => (q1 (rCf Tryz.func58 (iisLower_ok fu pb _ z1)) (q1 rMv ?_)))))))))
  refine spB 5 H (fun g3 H => ?_) fun g3 H => ?_
  · refine qk g3 (qk g3 (q1 (rPt g3) (q1 rMv ?_)))
    iterate 3 refine qk rfl ?_
    refine q1 (rPt rfl) (q1 rMv (qN (AWP.ret ?_)))
    obtain rfl : _ = r := (smI H :)
    exact qe1
  refine qg g3 rMv (bdE H fun x5 z4 H => (qg g3 (rCf Tryz.func59 (iisDigit_ok fu pb _ z4)) (q1 (rPf g3) (q1 rMv ?_))))
  refine spB 9 H (fun g6 H => ?_) fun g6 H => ?_
  · refine qk g6 ?_
    iterate 2 refine qk g6 ?_
    refine q1 (rPt g6) (q1 rMv (qN (AWP.ret ?_)))
    obtain rfl : _ = r := (smI H :)
    exact qe1
  refine qg g6 rMv (gdE H fun z7 H => (qg g6 (rCf Tryz.func73 (iIndexByte_fn x_272d2b2a3c3d2e pb z7)) (qg g6 rGe (q1 (rPf g6) (q1 rMv (qN (AWP.ret ?_)))))))
  obtain rfl : _ = r := (smI H :)
  exact qe1

def iIsValidAtom_T (m : ByteArray → Option Bool) : Prop := ∀ (ps : ByteArray) (r : Bool), m ps = some r → AFun Tryz.prog 90 [pS ps] (pB r : PV)
def iIsValidAtom_F1 (fu : Nat) (ps : ByteArray) : Nat → Unit → Option (LR Unit Bool) :=
 fun i1 _ => gd (i1 < (ps).size)
 (bd (iisAtomByte_M fu (bAt ps i1)) (fun x6 =>
 sw (!(x6))
 (some (.ret false))
 (some (.next ()))))
def iIsValidAtom_R1 (fu : Nat) (ps : ByteArray) : Option (Bool ⊕ Unit) :=
 loopN (iIsValidAtom_F1 fu ps) (ps.size - 0) 0 ()
def iIsValidAtom_M (fu : Nat) (ps : ByteArray) : Option Bool :=
 so (iIsValidAtom_R1 fu ps) (fun _ =>
 sw (decide ((((ps.size : Nat) : Int) : Int) ≥ 1))
 (some (decide ((((ps.size : Nat) : Int) : Int) ≤ 12)))
 (some false))
theorem iIsValidAtom_ok (fu : Nat)   : iIsValidAtom_T (iIsValidAtom_M fu) := by
  intro ps r H
  have H := hd0 H
  refine qI Tryz.func90 (fun C hC => ?_)
  refine qS (qR (q1 rMv (qN ?_)))
  iterate 2 refine qS ?_
  refine qR (q1 rMv (q1 (AOp.lenS rfl rfl rfl Tryz.underlying9) (q1 rMv (qN ?_))))
  refine szF 0 (fun hl2 => ?_)
  refine loopB (σ := Unit) (fun i1 _ => ⟨[(0, pS ps), (2, pB false), (5, pN ps.size), (6, pN i1)], ⟨[], []⟩⟩) (fun _ => ⟨[(0, pS ps), (2, pB false)], ⟨[], []⟩⟩) (soI H) ?_ ?_
  · rintro i1 ⟨⟩ H
    refine qS (qR (q1 rLt (qN (qS ?_))))
    refine cndL H (fun h3 h3l H => ?_) (fun h3 H => ?_)
    · have h3n : i1 < ps.size := by have := of_decide_eq_true h3; omega
      refine AWP.skip (qS (AWP.block (qS (qR ?_))))
      iterate 2 refine q1 rMv ?_
      refine qN (qS (qR ?_))
      iterate 2 refine q1 rMv ?_
      refine gdE H fun z4 H => (q1 (AOp.indexS (k := i1) rfl rfl rfl rfl z4 Tryz.underlying9) (bdE H fun x6 z5 H => (q1 (rCf Tryz.func42 (iisAtomByte_ok fu (bAt ps i1) _ z5)) (q1 rNo (qN ?_)))))
      refine cndB H (fun h7 H => ?_) (fun h7 H => ?_)
      · refine qS (qR (q1 rMv (qN (AWP.ret ?_))))
        obtain rfl : _ = r := (lkR (smI H) :)
        exact qe1
      refine AWP.skip (qR (q1 (AOp.addI rfl rfl rfl rfl (c := ((i1 + 1 : Nat) : Int)) (by omega) (by omega)) (q1 rMv (qN ?_))))
      exact lpN h3l ⟨_, (smI H :), wkA⟩
    refine AWP.exit ?_; exact lpX ⟨_, H, wkA⟩
  rintro ⟨⟩ H
  refine qS (qR (q1 rMv (q1 (AOp.lenS rfl rfl rfl Tryz.underlying9) (q1 rGe (q1 rMv ?_)))))
  refine spB 18 H (fun g8 H => ?_) fun g8 H => ?_
  · refine qg g8 rMv (qg g8 (AOp.lenS rfl rfl rfl Tryz.underlying9) (qg g8 rLe (q1 (rPt g8) (q1 rMv (qN (AWP.ret ?_))))))
    obtain rfl : _ = r := (smI H :)
    exact qe1
  iterate 3 refine qk g8 ?_
  refine q1 (rPf g8) (q1 rMv (qN (AWP.ret ?_)))
  obtain rfl : _ = r := (smI H :)
  exact qe1

abbrev iareAtoms_Y := GSExpr → Option Bool
abbrev iareAtoms_1_Y := GSExpr → Option Bool
abbrev gContainsFunc_SExpr__iareAtoms_1_Y := (List GSExpr) → Option Bool
abbrev gIndexFunc_SExpr__iareAtoms_1_Y := (List GSExpr) → Option Int
def iareAtoms_T (m : iareAtoms_Y) : Prop := ∀ (px : GSExpr) (r : Bool), m px = some r → AFun Tryz.prog 68 [(GSExpr.pv px)] (pB r : PV)
def iareAtoms_1_T (m : iareAtoms_1_Y) : Prop := ∀ (py : GSExpr) (r : Bool), m py = some r → AFun Tryz.prog 92 [(GSExpr.pv py)] (pB r : PV)
def gContainsFunc_SExpr__iareAtoms_1_T (m : gContainsFunc_SExpr__iareAtoms_1_Y) : Prop := ∀ (ps : List GSExpr) (r : Bool), m ps = some r → AFun Tryz.prog 91 [rSExpr ps, .fn 92 []] (pB r : PV)
def gIndexFunc_SExpr__iareAtoms_1_T (m : gIndexFunc_SExpr__iareAtoms_1_Y) : Prop := ∀ (ps : List GSExpr) (r : Int), m ps = some r → AFun Tryz.prog 101 [rSExpr ps, .fn 92 []] (pI r : PV)
def iareAtoms_G (fu : Nat) (r_iareAtoms : iareAtoms_Y) (r_iareAtoms_1 : iareAtoms_1_Y) (r_gContainsFunc_SExpr__iareAtoms_1 : gContainsFunc_SExpr__iareAtoms_1_Y) (r_gIndexFunc_SExpr__iareAtoms_1 : gIndexFunc_SExpr__iareAtoms_1_Y) (px : GSExpr) : Option Bool :=
 sw (!decide (px.gAtom = s_))
 (bd (iIsValidAtom_M fu px.gAtom) (fun x3 =>
 sw (x3)
 (some (decide ((((px.gList.length : Nat) : Int) : Int) = 0)))
 (some false)))
 (bd (r_gContainsFunc_SExpr__iareAtoms_1 px.gList) (fun x6 =>
 some (!(x6))))
theorem iareAtoms_step (fu : Nat) (r_iareAtoms : iareAtoms_Y) (r_iareAtoms_1 : iareAtoms_1_Y) (r_gContainsFunc_SExpr__iareAtoms_1 : gContainsFunc_SExpr__iareAtoms_1_Y) (r_gIndexFunc_SExpr__iareAtoms_1 : gIndexFunc_SExpr__iareAtoms_1_Y) (h_iareAtoms : iareAtoms_T r_iareAtoms) (h_iareAtoms_1 : iareAtoms_1_T r_iareAtoms_1) (h_gContainsFunc_SExpr__iareAtoms_1 : gContainsFunc_SExpr__iareAtoms_1_T r_gContainsFunc_SExpr__iareAtoms_1) (h_gIndexFunc_SExpr__iareAtoms_1 : gIndexFunc_SExpr__iareAtoms_1_T r_gIndexFunc_SExpr__iareAtoms_1) : iareAtoms_T (iareAtoms_G fu r_iareAtoms r_iareAtoms_1 r_gContainsFunc_SExpr__iareAtoms_1 r_gIndexFunc_SExpr__iareAtoms_1) := by
  intro px r H
  have H := hd0 H
  refine qI Tryz.func68 (fun C hC => ?_)
  refine qS (qR (q1 (rBx ([pS px.gAtom, rSExpr px.gList])) (q1 rMv (qN ?_))))
  iterate 2 refine qS ?_
  refine qR (q1 (rFp fo44_0) (q1 (rL1 sh9) (q1 rSn (qN ?_))))
  refine cndB H (fun h1 H => ?_) (fun h1 H => ?_)
  · refine qS (qR (q1 (rFp fo44_0) (q1 (rL1 sh9) (bdE H fun x3 z2 H => (q1 (rCf Tryz.func90 (iIsValidAtom_ok fu px.gAtom _ z2)) (q1 rMv ?_))))))
    refine spB 9 H (fun g4 H => ?_) fun g4 H => ?_
    · refine qg g4 (rFp fo44_1) (qg g4 (rL1 sh42) (qg g4 (rLn el42 (GSExpr.trs_len _)) (qg g4 rEq (q1 (rPt g4) (q1 rMv (qN (AWP.ret ?_)))))))
      obtain rfl : _ = r := (smI H :)
      exact qe1
    iterate 4 refine qk g4 ?_
    refine q1 (rPf g4) (q1 rMv (qN (AWP.ret ?_)))
    obtain rfl : _ = r := (smI H :)
    exact qe1
  refine AWP.skip (qS (qR (q1 (rFp fo44_1) (q1 (rL1 sh42) (bdE H fun x6 z5 H => (q1 (rCf Tryz.func91 (h_gContainsFunc_SExpr__iareAtoms_1 px.gList _ z5)) (q1 rNo (q1 rMv (qN (AWP.ret ?_))))))))))
  obtain rfl : _ = r := (smI H :)
  exact qe1
def iareAtoms_1_G (fu : Nat) (r_iareAtoms : iareAtoms_Y) (r_iareAtoms_1 : iareAtoms_1_Y) (r_gContainsFunc_SExpr__iareAtoms_1 : gContainsFunc_SExpr__iareAtoms_1_Y) (r_gIndexFunc_SExpr__iareAtoms_1 : gIndexFunc_SExpr__iareAtoms_1_Y) (py : GSExpr) : Option Bool :=
 bd (r_iareAtoms py) (fun x2 =>
 some (!(x2)))
theorem iareAtoms_1_step (fu : Nat) (r_iareAtoms : iareAtoms_Y) (r_iareAtoms_1 : iareAtoms_1_Y) (r_gContainsFunc_SExpr__iareAtoms_1 : gContainsFunc_SExpr__iareAtoms_1_Y) (r_gIndexFunc_SExpr__iareAtoms_1 : gIndexFunc_SExpr__iareAtoms_1_Y) (h_iareAtoms : iareAtoms_T r_iareAtoms) (h_iareAtoms_1 : iareAtoms_1_T r_iareAtoms_1) (h_gContainsFunc_SExpr__iareAtoms_1 : gContainsFunc_SExpr__iareAtoms_1_T r_gContainsFunc_SExpr__iareAtoms_1) (h_gIndexFunc_SExpr__iareAtoms_1 : gIndexFunc_SExpr__iareAtoms_1_T r_gIndexFunc_SExpr__iareAtoms_1) : iareAtoms_1_T (iareAtoms_1_G fu r_iareAtoms r_iareAtoms_1 r_gContainsFunc_SExpr__iareAtoms_1 r_gIndexFunc_SExpr__iareAtoms_1) := by
  intro py r H
  have H := hd0 H
  refine qI Tryz.func92 (fun C hC => ?_)
  refine qS (qR (q1 (rBx ([pS py.gAtom, rSExpr py.gList])) (q1 rMv (qN (qS (qR (q1 (rLp [pS py.gAtom, rSExpr py.gList] sh44) (bdE H fun x2 z1 H => (q1 (rCf Tryz.func68 (h_iareAtoms py _ z1)) (q1 rNo (q1 rMv (qN (AWP.ret ?_)))))))))))))
  obtain rfl : _ = r := (smI H :)
  exact qe1
def gContainsFunc_SExpr__iareAtoms_1_G (fu : Nat) (r_iareAtoms : iareAtoms_Y) (r_iareAtoms_1 : iareAtoms_1_Y) (r_gContainsFunc_SExpr__iareAtoms_1 : gContainsFunc_SExpr__iareAtoms_1_Y) (r_gIndexFunc_SExpr__iareAtoms_1 : gIndexFunc_SExpr__iareAtoms_1_Y) (ps : List GSExpr) : Option Bool :=
 bd (r_gIndexFunc_SExpr__iareAtoms_1 ps) (fun x2 =>
 some (decide ((x2 : Int) ≥ 0)))
theorem gContainsFunc_SExpr__iareAtoms_1_step (fu : Nat) (r_iareAtoms : iareAtoms_Y) (r_iareAtoms_1 : iareAtoms_1_Y) (r_gContainsFunc_SExpr__iareAtoms_1 : gContainsFunc_SExpr__iareAtoms_1_Y) (r_gIndexFunc_SExpr__iareAtoms_1 : gIndexFunc_SExpr__iareAtoms_1_Y) (h_iareAtoms : iareAtoms_T r_iareAtoms) (h_iareAtoms_1 : iareAtoms_1_T r_iareAtoms_1) (h_gContainsFunc_SExpr__iareAtoms_1 : gContainsFunc_SExpr__iareAtoms_1_T r_gContainsFunc_SExpr__iareAtoms_1) (h_gIndexFunc_SExpr__iareAtoms_1 : gIndexFunc_SExpr__iareAtoms_1_T r_gIndexFunc_SExpr__iareAtoms_1) : gContainsFunc_SExpr__iareAtoms_1_T (gContainsFunc_SExpr__iareAtoms_1_G fu r_iareAtoms r_iareAtoms_1 r_gContainsFunc_SExpr__iareAtoms_1 r_gIndexFunc_SExpr__iareAtoms_1) := by
  intro ps r H
  have H := hd0 H
  refine qI Tryz.func91 (fun C hC => ?_)
  refine qS (qR (q1 rMv (qN (qS (qR ?_)))))
  iterate 2 refine q1 rMv ?_
  refine bdE H fun x2 z1 H => (q1 (rCf Tryz.func101 (h_gIndexFunc_SExpr__iareAtoms_1 ps _ z1)) (q1 rGe (q1 rMv (qN (AWP.ret ?_)))))
  obtain rfl : _ = r := (smI H :)
  exact qe1
def gIndexFunc_SExpr__iareAtoms_1_F1 (fu : Nat) (r_iareAtoms : iareAtoms_Y) (r_iareAtoms_1 : iareAtoms_1_Y) (r_gContainsFunc_SExpr__iareAtoms_1 : gContainsFunc_SExpr__iareAtoms_1_Y) (r_gIndexFunc_SExpr__iareAtoms_1 : gIndexFunc_SExpr__iareAtoms_1_Y) (ps : List GSExpr) : Nat → Unit → Option (LR Unit Int) :=
 fun i1 _ => bd (r_iareAtoms_1 (atD ps i1)) (fun x5 =>
 sw (x5)
 (some (.ret ((i1 : Nat) : Int)))
 (some (.next ())))
def gIndexFunc_SExpr__iareAtoms_1_R1 (fu : Nat) (r_iareAtoms : iareAtoms_Y) (r_iareAtoms_1 : iareAtoms_1_Y) (r_gContainsFunc_SExpr__iareAtoms_1 : gContainsFunc_SExpr__iareAtoms_1_Y) (r_gIndexFunc_SExpr__iareAtoms_1 : gIndexFunc_SExpr__iareAtoms_1_Y) (ps : List GSExpr) : Option (Int ⊕ Unit) :=
 loopN (gIndexFunc_SExpr__iareAtoms_1_F1 fu r_iareAtoms r_iareAtoms_1 r_gContainsFunc_SExpr__iareAtoms_1 r_gIndexFunc_SExpr__iareAtoms_1 ps) (ps.length - 0) 0 ()
def gIndexFunc_SExpr__iareAtoms_1_G (fu : Nat) (r_iareAtoms : iareAtoms_Y) (r_iareAtoms_1 : iareAtoms_1_Y) (r_gContainsFunc_SExpr__iareAtoms_1 : gContainsFunc_SExpr__iareAtoms_1_Y) (r_gIndexFunc_SExpr__iareAtoms_1 : gIndexFunc_SExpr__iareAtoms_1_Y) (ps : List GSExpr) : Option Int :=
 so (gIndexFunc_SExpr__iareAtoms_1_R1 fu r_iareAtoms r_iareAtoms_1 r_gContainsFunc_SExpr__iareAtoms_1 r_gIndexFunc_SExpr__iareAtoms_1 ps) (fun _ =>
 some (-1))
theorem gIndexFunc_SExpr__iareAtoms_1_step (fu : Nat) (r_iareAtoms : iareAtoms_Y) (r_iareAtoms_1 : iareAtoms_1_Y) (r_gContainsFunc_SExpr__iareAtoms_1 : gContainsFunc_SExpr__iareAtoms_1_Y) (r_gIndexFunc_SExpr__iareAtoms_1 : gIndexFunc_SExpr__iareAtoms_1_Y) (h_iareAtoms : iareAtoms_T r_iareAtoms) (h_iareAtoms_1 : iareAtoms_1_T r_iareAtoms_1) (h_gContainsFunc_SExpr__iareAtoms_1 : gContainsFunc_SExpr__iareAtoms_1_T r_gContainsFunc_SExpr__iareAtoms_1) (h_gIndexFunc_SExpr__iareAtoms_1 : gIndexFunc_SExpr__iareAtoms_1_T r_gIndexFunc_SExpr__iareAtoms_1) : gIndexFunc_SExpr__iareAtoms_1_T (gIndexFunc_SExpr__iareAtoms_1_G fu r_iareAtoms r_iareAtoms_1 r_gContainsFunc_SExpr__iareAtoms_1 r_gIndexFunc_SExpr__iareAtoms_1) := by
  intro ps r H
  have H := hd0 H
  refine qI Tryz.func101 (fun C hC => ?_)
  refine qS (qR (q1 rMv (qN ?_)))
  iterate 2 refine qS ?_
  refine qR (q1 rMv (q1 (rLn el42 (GSExpr.trs_len _)) (q1 rMv (qN ?_))))
  refine lenF 0 (GSExpr.trs_len _) (fun hl2 => ?_)
  refine loopB (σ := Unit) (fun i1 _ => ⟨[(0, rSExpr ps), (1, .fn 92 []), (4, pI 0), (7, pN ps.length), (8, pN i1)], ⟨[], []⟩⟩) (fun _ => ⟨[(4, pI 0)], ⟨[], []⟩⟩) (soI H) ?_ ?_
  · rintro i1 ⟨⟩ H
    refine qS (qR (q1 rLt (qN (qS ?_))))
    refine cndL H (fun h3 h3l H => ?_) (fun h3 H => ?_)
    · have h3n := nat_lt_of h3
      refine AWP.skip (qS (AWP.block (qS (qR ?_))))
      iterate 2 refine q1 rMv ?_
      refine qN (qS (qR ?_))
      iterate 3 refine q1 rMv ?_
      refine q1 (rIx h3n el42) (q1 (rKe (GSExpr.cs (atD ps i1)) sh44) (bdE H fun x5 z4 H => (q1 (rCv Tryz.func92 (h_iareAtoms_1 (atD ps i1) _ z4)) (qN ?_))))
      refine cndB H (fun h6 H => ?_) (fun h6 H => ?_)
      · refine qS (qR ?_)
        iterate 2 refine q1 rMv ?_
        refine qN (AWP.ret ?_)
        obtain rfl : _ = r := (lkR (smI H) :)
        exact qe1
      refine AWP.skip (qR (q1 (AOp.addI rfl rfl rfl rfl (c := ((i1 + 1 : Nat) : Int)) (by omega) (by omega)) (q1 rMv (qN ?_))))
      exact lpN h3l ⟨_, (smI H :), wkA⟩
    refine AWP.exit ?_; exact lpX ⟨_, H, wkA⟩
  rintro ⟨⟩ H
  refine qS (qR (q1 rMv (qN (AWP.ret ?_))))
  obtain rfl : _ = r := (smI H :)
  exact qe1
mutual
def iareAtoms_M : Nat → GSExpr → Option Bool
  | 0, _ => none
  | fu + 1, px => iareAtoms_G fu (iareAtoms_M fu) (iareAtoms_1_M fu) (gContainsFunc_SExpr__iareAtoms_1_M fu) (gIndexFunc_SExpr__iareAtoms_1_M fu) px
def iareAtoms_1_M : Nat → GSExpr → Option Bool
  | 0, _ => none
  | fu + 1, py => iareAtoms_1_G fu (iareAtoms_M fu) (iareAtoms_1_M fu) (gContainsFunc_SExpr__iareAtoms_1_M fu) (gIndexFunc_SExpr__iareAtoms_1_M fu) py
def gContainsFunc_SExpr__iareAtoms_1_M : Nat → (List GSExpr) → Option Bool
  | 0, _ => none
  | fu + 1, ps => gContainsFunc_SExpr__iareAtoms_1_G fu (iareAtoms_M fu) (iareAtoms_1_M fu) (gContainsFunc_SExpr__iareAtoms_1_M fu) (gIndexFunc_SExpr__iareAtoms_1_M fu) ps
def gIndexFunc_SExpr__iareAtoms_1_M : Nat → (List GSExpr) → Option Int
  | 0, _ => none
  | fu + 1, ps => gIndexFunc_SExpr__iareAtoms_1_G fu (iareAtoms_M fu) (iareAtoms_1_M fu) (gContainsFunc_SExpr__iareAtoms_1_M fu) (gIndexFunc_SExpr__iareAtoms_1_M fu) ps
end
theorem iareAtoms_all (fu : Nat) : iareAtoms_T (iareAtoms_M fu) ∧ iareAtoms_1_T (iareAtoms_1_M fu) ∧ gContainsFunc_SExpr__iareAtoms_1_T (gContainsFunc_SExpr__iareAtoms_1_M fu) ∧ gIndexFunc_SExpr__iareAtoms_1_T (gIndexFunc_SExpr__iareAtoms_1_M fu) := by
  induction fu with
  | zero => exact ⟨(fun px r H => by simp only [iareAtoms_M] at H; cases H), (fun py r H => by simp only [iareAtoms_1_M] at H; cases H), (fun ps r H => by simp only [gContainsFunc_SExpr__iareAtoms_1_M] at H; cases H), (fun ps r H => by simp only [gIndexFunc_SExpr__iareAtoms_1_M] at H; cases H)⟩
  | succ fu ih => exact ⟨(fun px r H => by simp only [iareAtoms_M] at H; exact iareAtoms_step fu (iareAtoms_M fu) (iareAtoms_1_M fu) (gContainsFunc_SExpr__iareAtoms_1_M fu) (gIndexFunc_SExpr__iareAtoms_1_M fu) ih.1 ih.2.1 ih.2.2.1 ih.2.2.2 px r H), (fun py r H => by simp only [iareAtoms_1_M] at H; exact iareAtoms_1_step fu (iareAtoms_M fu) (iareAtoms_1_M fu) (gContainsFunc_SExpr__iareAtoms_1_M fu) (gIndexFunc_SExpr__iareAtoms_1_M fu) ih.1 ih.2.1 ih.2.2.1 ih.2.2.2 py r H), (fun ps r H => by simp only [gContainsFunc_SExpr__iareAtoms_1_M] at H; exact gContainsFunc_SExpr__iareAtoms_1_step fu (iareAtoms_M fu) (iareAtoms_1_M fu) (gContainsFunc_SExpr__iareAtoms_1_M fu) (gIndexFunc_SExpr__iareAtoms_1_M fu) ih.1 ih.2.1 ih.2.2.1 ih.2.2.2 ps r H), (fun ps r H => by simp only [gIndexFunc_SExpr__iareAtoms_1_M] at H; exact gIndexFunc_SExpr__iareAtoms_1_step fu (iareAtoms_M fu) (iareAtoms_1_M fu) (gContainsFunc_SExpr__iareAtoms_1_M fu) (gIndexFunc_SExpr__iareAtoms_1_M fu) ih.1 ih.2.1 ih.2.2.1 ih.2.2.2 ps r H)⟩
theorem iareAtoms_ok (fu : Nat) : iareAtoms_T (iareAtoms_M fu) := (iareAtoms_all fu).1
abbrev iSExprDepth_Y := GSExpr → Option Int
def iSExprDepth_T (m : iSExprDepth_Y) : Prop := ∀ (px : GSExpr) (r : Int), m px = some r → AFun Tryz.prog 69 [(GSExpr.pv px)] (pI r : PV)
def iSExprDepth_F1 (fu : Nat) (r_iSExprDepth : iSExprDepth_Y) (px : GSExpr) : Nat → Int → Option (LR Int Int) :=
 fun i2 v3 => bd (r_iSExprDepth (atD px.gList i2)) (fun x7 =>
 some (.next (max v3 x7)))
def iSExprDepth_R1 (fu : Nat) (r_iSExprDepth : iSExprDepth_Y) (px : GSExpr) : Option (Int ⊕ Int) :=
 loopN (iSExprDepth_F1 fu r_iSExprDepth px) (px.gList.length - 0) 0 0
def iSExprDepth_G (fu : Nat) (r_iSExprDepth : iSExprDepth_Y) (px : GSExpr) : Option Int :=
 sw (!decide (px.gAtom = s_))
 (some 0)
 (so (iSExprDepth_R1 fu r_iSExprDepth px) (fun v3 =>
 some (wrap64 (v3 + 1))))
theorem iSExprDepth_step (fu : Nat) (r_iSExprDepth : iSExprDepth_Y) (h_iSExprDepth : iSExprDepth_T r_iSExprDepth) : iSExprDepth_T (iSExprDepth_G fu r_iSExprDepth) := by
  intro px r H
  have H := hd0 H
  refine qI Tryz.func69 (fun C hC => ?_)
  refine qS (qR (q1 (rBx ([pS px.gAtom, rSExpr px.gList])) (q1 rMv (qN ?_))))
  iterate 2 refine qS ?_
  refine qR (q1 (rFp fo44_0) (q1 (rL1 sh9) (q1 rSn (qN ?_))))
  refine cndB H (fun h1 H => ?_) (fun h1 H => ?_)
  · refine qS (qR (q1 rMv (qN (AWP.ret ?_))))
    obtain rfl : _ = r := (smI H :)
    exact qe1
  refine AWP.skip (qS (qR (q1 rMv (qN ?_))))
  iterate 2 refine qS ?_
  refine qR (q1 (rFp fo44_1) (q1 (rL1 sh42) (q1 (rLn el42 (GSExpr.trs_len _)) (q1 rMv (qN ?_)))))
  refine lenF 10 (GSExpr.trs_len _) (fun hl4 => ?_)
  refine loopB (σ := Int) (fun i2 v3 => ⟨[(2, pI 0), (3, pI v3), (10, rSExpr px.gList), (11, pN px.gList.length), (12, pN i2)], ⟨[some ⟨44, [pS px.gAtom, rSExpr px.gList]⟩], []⟩⟩) (fun v3 => ⟨[(2, pI 0), (3, pI v3)], ⟨[some ⟨44, [pS px.gAtom, rSExpr px.gList]⟩], []⟩⟩) (soI H) ?_ ?_
  · rintro i2 v3 H
    refine qS (qR (q1 rLt (qN (qS ?_))))
    refine cndL H (fun h5 h5l H => ?_) (fun h5 H => ?_)
    · have h5n := nat_lt_of h5
      refine AWP.skip (qS (AWP.block (qS (qR (q1 (rIx h5n el42) (q1 (rKe (GSExpr.cs (atD px.gList i2)) sh44) (q1 (rAl zr44) (q1 (rSu sz44) (qN (qR (q1 rMv (q1 (rLp [pS ((atD px.gList i2).gAtom), rSExpr ((atD px.gList i2).gList)] sh44) (bdE H fun x7 z6 H => ?_)))))))))))))
      refine q1 (rCf Tryz.func69 (h_iSExprDepth (atD px.gList i2) _ z6)) (q1 (AOp.maxI rfl rfl rfl rfl) (q1 rMv (qN (qR (q1 (AOp.addI rfl rfl rfl rfl (c := ((i2 + 1 : Nat) : Int)) (by omega) (by omega)) (q1 rMv (qN ?_)))))))
      exact lpN h5l ⟨_, (smI H :), wkA⟩
    refine AWP.exit ?_; exact lpX ⟨_, H, wkA⟩
  rintro v3 H
  refine qS (qR (q1 rMv (q1 rAw (q1 rMv (qN (AWP.ret ?_))))))
  obtain rfl : _ = r := (smI H :)
  exact qe1
def iSExprDepth_M : Nat → GSExpr → Option Int
  | 0, _ => none
  | fu + 1, px => iSExprDepth_G fu (iSExprDepth_M fu) px
theorem iSExprDepth_all (fu : Nat) : iSExprDepth_T (iSExprDepth_M fu) := by
  induction fu with
  | zero => exact (fun px r H => by simp only [iSExprDepth_M] at H; cases H)
  | succ fu ih => exact (fun px r H => by simp only [iSExprDepth_M] at H; exact iSExprDepth_step fu (iSExprDepth_M fu) ih px r H)
theorem iSExprDepth_ok (fu : Nat) : iSExprDepth_T (iSExprDepth_M fu) := (iSExprDepth_all fu)

abbrev iSExprSize_Y := GSExpr → Option Int
def iSExprSize_T (m : iSExprSize_Y) : Prop := ∀ (px : GSExpr) (r : Int), m px = some r → AFun Tryz.prog 70 [(GSExpr.pv px)] (pI r : PV)
def iSExprSize_F1 (fu : Nat) (r_iSExprSize : iSExprSize_Y) (px : GSExpr) : Nat → Int → Option (LR Int Int) :=
 fun i1 v2 => bd (r_iSExprSize (atD px.gList i1)) (fun x6 =>
 some (.next (wrap64 (v2 + x6))))
def iSExprSize_R1 (fu : Nat) (r_iSExprSize : iSExprSize_Y) (px : GSExpr) : Option (Int ⊕ Int) :=
 loopN (iSExprSize_F1 fu r_iSExprSize px) (px.gList.length - 0) 0 1
def iSExprSize_G (fu : Nat) (r_iSExprSize : iSExprSize_Y) (px : GSExpr) : Option Int :=
 so (iSExprSize_R1 fu r_iSExprSize px) (fun v2 =>
 some v2)
theorem iSExprSize_step (fu : Nat) (r_iSExprSize : iSExprSize_Y) (h_iSExprSize : iSExprSize_T r_iSExprSize) : iSExprSize_T (iSExprSize_G fu r_iSExprSize) := by
  intro px r H
  have H := hd0 H
  refine qI Tryz.func70 (fun C hC => ?_)
  refine qS (qR (q1 (rBx ([pS px.gAtom, rSExpr px.gList])) (q1 rMv (qN (qS (qR (q1 rMv (qN ?_))))))))
  iterate 2 refine qS ?_
  refine qR (q1 (rFp fo44_1) (q1 (rL1 sh42) (q1 (rLn el42 (GSExpr.trs_len _)) (q1 rMv (qN ?_)))))
  refine lenF 7 (GSExpr.trs_len _) (fun hl3 => ?_)
  refine loopB (σ := Int) (fun i1 v2 => ⟨[(2, pI 0), (3, pI v2), (7, rSExpr px.gList), (8, pN px.gList.length), (9, pN i1)], ⟨[some ⟨44, [pS px.gAtom, rSExpr px.gList]⟩], []⟩⟩) (fun v2 => ⟨[(2, pI 0), (3, pI v2)], ⟨[some ⟨44, [pS px.gAtom, rSExpr px.gList]⟩], []⟩⟩) (soI H) ?_ ?_
  · rintro i1 v2 H
    refine qS (qR (q1 rLt (qN (qS ?_))))
    refine cndL H (fun h4 h4l H => ?_) (fun h4 H => ?_)
    · have h4n := nat_lt_of h4
      refine AWP.skip (qS (AWP.block (qS (qR (q1 (rIx h4n el42) (q1 (rKe (GSExpr.cs (atD px.gList i1)) sh44) (q1 (rAl zr44) (q1 (rSu sz44) (qN (qR (q1 rMv (q1 (rLp [pS ((atD px.gList i1).gAtom), rSExpr ((atD px.gList i1).gList)] sh44) (bdE H fun x6 z5 H => ?_)))))))))))))
      refine q1 (rCf Tryz.func70 (h_iSExprSize (atD px.gList i1) _ z5)) (q1 rAw (q1 rMv (qN (qR (q1 (AOp.addI rfl rfl rfl rfl (c := ((i1 + 1 : Nat) : Int)) (by omega) (by omega)) (q1 rMv (qN ?_)))))))
      exact lpN h4l ⟨_, (smI H :), wkA⟩
    refine AWP.exit ?_; exact lpX ⟨_, H, wkA⟩
  rintro v2 H
  refine qS (qR ?_)
  iterate 2 refine q1 rMv ?_
  refine qN (AWP.ret ?_)
  obtain rfl : _ = r := (smI H :)
  exact qe1
def iSExprSize_M : Nat → GSExpr → Option Int
  | 0, _ => none
  | fu + 1, px => iSExprSize_G fu (iSExprSize_M fu) px
theorem iSExprSize_all (fu : Nat) : iSExprSize_T (iSExprSize_M fu) := by
  induction fu with
  | zero => exact (fun px r H => by simp only [iSExprSize_M] at H; cases H)
  | succ fu ih => exact (fun px r H => by simp only [iSExprSize_M] at H; exact iSExprSize_step fu (iSExprSize_M fu) ih px r H)
theorem iSExprSize_ok (fu : Nat) : iSExprSize_T (iSExprSize_M fu) := (iSExprSize_all fu)

def iIsValidSExpr_T (m : GSExpr → Option Bool) : Prop := ∀ (px : GSExpr) (r : Bool), m px = some r → AFun Tryz.prog 38 [(GSExpr.pv px)] (pB r : PV)
def iIsValidSExpr_M (fu : Nat) (px : GSExpr) : Option Bool :=
 bd (iareAtoms_M fu px) (fun x2 =>
 sw (x2)
 (bd (iSExprDepth_M fu px) (fun x5 =>
 sw (decide ((x5 : Int) ≤ 14))
 (bd (iSExprSize_M fu px) (fun x8 =>
 some (decide ((x8 : Int) ≤ 900))))
 (some false)))
 (some false))
theorem iIsValidSExpr_ok (fu : Nat)   : iIsValidSExpr_T (iIsValidSExpr_M fu) := by
  intro px r H
  have H := hd0 H
  refine qI Tryz.func38 (fun C hC => ?_)
  refine qS (qR (q1 (rBx ([pS px.gAtom, rSExpr px.gList])) (q1 rMv (qN (qS (qR (q1 (rLp [pS px.gAtom, rSExpr px.gList] sh44) (bdE H fun x2 z1 H => (q1 (rCf Tryz.func68 (iareAtoms_ok fu px _ z1)) (q1 rMv ?_))))))))))
  refine spB 5 H (fun g3 H => ?_) fun g3 H => ?_
  · refine qg g3 (rLp [pS px.gAtom, rSExpr px.gList] sh44) (bdE H fun x5 z4 H => (qg g3 (rCf Tryz.func69 (iSExprDepth_ok fu px _ z4)) (qg g3 rLe (q1 (rPt g3) (q1 rMv ?_)))))
    refine spB 10 H (fun g6 H => ?_) fun g6 H => ?_
    · refine qg g6 (rLp [pS px.gAtom, rSExpr px.gList] sh44) (bdE H fun x8 z7 H => (qg g6 (rCf Tryz.func70 (iSExprSize_ok fu px _ z7)) (qg g6 rLe (q1 (rPt g6) (q1 rMv (qN (AWP.ret ?_)))))))
      obtain rfl : _ = r := (smI H :)
      exact qe1
    iterate 3 refine qk g6 ?_
    refine q1 (rPf g6) (q1 rMv (qN (AWP.ret ?_)))
    obtain rfl : _ = r := (smI H :)
    exact qe1
  iterate 3 refine qk g3 ?_
  refine q1 (rPf g3) (q1 rMv ?_)
  iterate 3 refine qk rfl ?_
  refine q1 (rPf rfl) (q1 rMv (qN (AWP.ret ?_)))
  obtain rfl : _ = r := (smI H :)
  exact qe1

end
end Go.Proofs.YtmpepccpnnldoaaGreat

namespace Go.Proofs.YtmpepccpnnldoaaGreat
set_option linter.unusedSimpArgs false
set_option linter.unusedVariables false
open Go.RowKit Go.Proofs

theorem bd_invF {α β : Type} {m : Option α} {f : α → Option β} {r : β} (h : bd m f = some r) : ∃ s, m = some s ∧ f s = some r := by
  cases m with
  | none => cases h
  | some s => exact ⟨s, rfl, h⟩
noncomputable def iFormatSExpr_M (fu : Nat) (px : GSExpr) : Option ByteArray := bd (iIsValidSExpr_M fu px) fun v => if v then (if (GSExpr.txt px).length ≤ 1099511627776 then some ⟨(GSExpr.txt px).toArray⟩ else none) else some ⟨#[]⟩
def iFormatSExpr_T (m : GSExpr → Option ByteArray) : Prop := ∀ (px : GSExpr) (r : ByteArray), m px = some r → AFun Tryz.prog 17 [(GSExpr.pv px)] (pS r : PV)
theorem GSExpr.pv_eq (x : GSExpr) : GSExpr.pv x = .agg (x.tr.map PV.t) := by cases x; rfl
theorem pv_rv {x : GSExpr} {cs : List Value} {w : World} (h : RepL w x.tr cs) : RV0 w (GSExpr.pv x) (.agg ⟨cs⟩) := by rw [GSExpr.pv_eq]; exact RV0.agg h
theorem pv_rep {x : GSExpr} {v : Value} {w : World} (h : RV0 w (GSExpr.pv x) v) : ∃ cs, v = .agg ⟨cs⟩ ∧ RepL w x.tr cs := by
  rw [GSExpr.pv_eq] at h
  obtain ⟨cs, rfl, h⟩ := h
  exact ⟨cs, rfl, RVL.ofTr h⟩
theorem builder_new {B b : Nat} {w : World} (h : OB w b 66 #[.pointer none, .slice none 0 0]) (hB : B ≤ b) : Lib.IsBuilderF 66 5 B b (Lib.byteCells []) w :=
  .inl ⟨hB, _, h, ⟨rfl, .inl ⟨rfl, rfl⟩⟩, by simp [Value.ownBlock]⟩
set_option maxRecDepth 100000 in
set_option maxHeartbeats 2000000 in
theorem formatSExpr_impl (fu : Nat) (x : GSExpr) (r : ByteArray) (H : iFormatSExpr_M fu x = some r) (cs : List Value) (w : World) (hr : RepL w x.tr cs) :
    Calls Tryz.prog 17 #[.agg ⟨cs⟩] w fun e w' => e = .returned (.string r) ∧ Ext w w' := by
  obtain ⟨vl, hv, he⟩ := bd_invF H
  have HV := Lib.hid (iIsValidSExpr_ok fu x vl hv)
  have HR := Lib.hid hr
  have HE := Lib.hid he
  have HL : Hid (cs.length = 2) := by rw [← hr.length, GSExpr.tr_len]; rfl
  have HI : Hid ((Tryz.prog.info? 44).map (·.size) = some cs.length) := by rw [HL.out]; exact isz44
  clear hr H hv he
  go_enter Tryz.func17, Tryz.ntmps17
  go_wp2_with (refine wpList_load_rep rfl 44 (.tmp 1) rfl w.heap.size 0 rfl cs _ Tryz.underlying44 HI.out (OB.cells0 (OB.new w _ _)) ?_)
  have hx1 : Ext w (w.alloc (Obj.cells ⟨cs⟩ 44)) := .alloc (.refl _) _
  have HX1 := Lib.hid hx1
  have hr1 := HR.out.ext hx1
  refine (HV.out.plain (w := w.alloc (Obj.cells ⟨cs⟩ 44)) (vals := [.agg ⟨cs⟩]) ⟨pv_rv hr1, trivial⟩).mono ?_; rintro e w1 ⟨rfl, hx2⟩
  have HX2 := Lib.hid (HX1.out.trans hx2)
  have HO1 := Lib.hid ((OB.new w 44 ⟨cs⟩).ext hx2)
  clear hx1 hr1 hx2
  go_wp2_with (first
    | (refine wpList_load_rep rfl 44 (.tmp 1) rfl w.heap.size 0 rfl cs _ Tryz.underlying44 HI.out (OB.cells0 (HO1.out.ext (.alloc (.refl _) _))) ?_))
  · have hh : (!vl) = true := by assumption
    have hv : vl = false := by simpa using hh
    have he := HE.out
    rw [hv] at he
    go_ret
    injection he with he
    rw [← he]
    exact ⟨rfl, HX2.out⟩
  · have hh : (!vl) = false := by assumption
    have hv : vl = true := by simpa using hh
    have he := HE.out
    rw [hv] at he
    by_cases hl : (GSExpr.txt x).length ≤ 1099511627776
    · rw [if_pos rfl, if_pos hl] at he
      injection he with he
      subst he
      have hz := HX2.out.size
      refine (writeSExpr_impl x [] w1.heap.size w1.heap.size cs w1 _ (HR.out.ext HX2.out) (.alloc (.refl w1) _) (Nat.le_refl _) (builder_new (OB.new w1 _ _) (Nat.le_refl _)) (by rw [List.nil_append]; omega) (by simp)).mono ?_; rintro e w2 ⟨rfl, h2⟩
      have HX3 := Lib.hid (HX2.out.trans (Ext.wr (.alloc (.refl w1) _) h2 (Nat.le_refl _)))
      have HB := Lib.hid h2.bld
      have hz2 := h2.size
      simp only [World.size_alloc] at hz2
      have HX4 := Lib.hid (Ext.trans HX2.out (Ext.wr (.alloc (.refl w1) (.cells #[.pointer none, .slice none 0 0] 66)) h2 (Nat.le_refl _)))
      clear h2
      go_wp2_with fail
      refine (b_String w1.heap.size w1.heap.size _ w2 HB.out (by omega)).mono ?_; rintro e w3 ⟨rfl, -, h3, -⟩
      have HX5 := Lib.hid (Below.trans HX4.out (h3.mono hz))
      clear h3
      go_wp2_with fail
      go_ret
      exact ⟨rfl, HX5.out⟩
    · rw [if_pos rfl, if_neg hl] at he
      cases he
theorem iFormatSExpr_ok (fu : Nat) : iFormatSExpr_T (iFormatSExpr_M fu) := by
  intro px r H
  have hz : LeafOk (.string r) := by
    show r.size ≤ maxLen
    obtain ⟨vl, -, he⟩ := bd_invF H
    cases vl with
    | false =>
      injection he with he
      rw [← he]
      exact Nat.zero_le _
    | true =>
      by_cases hl : (GSExpr.txt px).length ≤ 1099511627776
      · rw [if_pos rfl, if_pos hl] at he
        injection he with he
        rw [← he]
        show (GSExpr.txt px).toArray.size ≤ maxLen
        rw [List.size_toArray]
        unfold maxLen
        omega
      · rw [if_pos rfl, if_neg hl] at he
        cases he
  refine AFun.ofLeaf rfl hz fun w vals hv => ?_
  match vals, hv with
  | [v0], hv =>
    obtain ⟨cs, rfl, hr⟩ := pv_rep hv.1
    exact formatSExpr_impl fu px r H cs w hr
end Go.Proofs.YtmpepccpnnldoaaGreat
