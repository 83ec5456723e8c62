/- Words, rules and walks of several kinds, laid together: Pg, Ph, PgD, PgS, PmQ, MaFInt, MaDrEv, Ctr, Plain, SL, LEv, Val, EvTx, Reg, EvW, EvF, FIntZ, Tab, LayI, Mark, AccT. No conditions but those that each theorem states. -/
import Derived.Test.YtmpepccpnnldoaaDoorQh9676b04d
import Derived.Test.YtmpepccpnnldoaaDoorQh33f3f803
import Derived.Laws.BytesArg
import Derived.Test.YtmpepccpnnldoaaDoorProg
import Derived.BigQuiet
import Derived.Deep.QuietTactic
import Derived.Lib.ItoaLen
import Derived.Deep.RegionHeld3
import Derived.Laws.IdiomStrings
import Derived.Test.YtmpepccpnnldoaaDoorRows
import Derived.Lib.LaidTab
import Derived.Stop.LaidErr
import Derived.Shelf.Strconv.Itoa3
import Derived.Deep.AppendLies
set_option linter.unusedSimpArgs false
set_option linter.unusedVariables false
namespace Go.Proofs.YtmpepccpnnldoaaDoor
set_option linter.unusedSimpArgs false
set_option linter.unusedVariables false
open Go.RowKit Go.WalkArith Go.IntWalk Go.WideShapes

/-! ### Values -/
abbrev pI (x : Int) : PV := .t (.leaf (.int .i64 x))
abbrev pN (x : Nat) : PV := .t (.leaf (.int .i64 (x : Int)))
abbrev pS (x : ByteArray) : PV := .t (.leaf (.string x))
abbrev pB (x : Bool) : PV := .t (.leaf (.bool x))
abbrev rI (l : List Int) : PV := .t (.row 1 (intTrs l))
abbrev rU (l : List UInt8) : PV := .t (.row 1 (byteTrs l))
abbrev dC (d : DS) : List PV := [.t (.row 1 (byteTrs d.code)), .t (.leaf (.int .i64 (d.p : Int))), .t (.leaf (.int .i64 d.h))]

/-- Elements of lists, told as data. -/
class TC (α : Type) [Inhabited α] where
  cs : α → List Tr
  trs : List α → List (List Tr)
  sz : Nat
  at_ : ∀ {l : List α} {k : Nat}, k < l.length → (trs l)[k]? = some (cs (atD l k))
  len : ∀ l : List α, (trs l).length = l.length
  map : ∀ l : List α, trs l = l.map cs
  csz : ∀ a, (cs a).length = sz
instance : TC ByteArray := ⟨fun x => [.leaf (.string x)], strTrs, 1, strTrs_at, strTrs_len, fun _ => rfl, fun _ => rfl⟩
instance : TC Int := ⟨fun x => [.leaf (.int .i64 x)], intTrs, 1, intTrs_at, intTrs_len, fun _ => rfl, fun _ => rfl⟩
instance : TC UInt8 := ⟨fun x => [.leaf (.int .u8 (x.toNat : Int))], byteTrs, 1, byteTrs_at, byteTrs_len, fun _ => rfl, fun _ => rfl⟩
section
variable {α : Type} [Inhabited α] [TC α]
theorem TC.all (l : List α) : ∀ e ∈ TC.trs l, e.length = TC.sz α := fun e he => by
  rw [TC.map] at he
  obtain ⟨x, _, rfl⟩ := List.mem_map.1 he
  exact TC.csz x
theorem TC.app (a b : List α) : TC.trs a ++ TC.trs b = TC.trs (a ++ b) := by rw [TC.map, TC.map, TC.map, List.map_append]
end

/-! ### Models taken apart -/
def Hd {β : Type} (m : Option β) (K : β → Prop) : Prop := ∃ v, m = some v ∧ K v
section
variable {α β σ : Type} {K : β → Prop} {r : β}
theorem hd0 {m : Option β} (h : m = some r) : Hd m (fun v => v = r) := ⟨r, h, rfl⟩
theorem gdI {p : Prop} {x : Option β} (h : Hd (gd p x) K) : p ∧ Hd x K := by
  obtain ⟨v, h1, h2⟩ := h
  by_cases hp : p
  · rw [gdT hp rfl] at h1; exact ⟨hp, v, h1, h2⟩
  · rw [gdF hp] at h1; cases h1
theorem bdI {o : Option α} {f : α → Option β} (h : Hd (bd o f) K) : ∃ a, o = some a ∧ Hd (f a) K := by
  obtain ⟨v, h1, h2⟩ := h
  cases o with
  | none => cases h1
  | some a => exact ⟨a, rfl, v, h1, h2⟩
theorem gdE {G p : Prop} {x : Option β} (h : Hd (gd p x) K) (k : p → Hd x K → G) : G := k (gdI h).1 (gdI h).2
theorem bdE {G : Prop} {o : Option α} {f : α → Option β} (h : Hd (bd o f) K) (k : ∀ a, o = some a → Hd (f a) K → G) : G := by
  obtain ⟨a, h1, h2⟩ := bdI h
  exact k a h1 h2
theorem bdE2 {G : Prop} {A B : Type} {o : Option (A × B)} {f : A × B → Option β} (h : Hd (bd o f) K) (k : ∀ a b, o = some (a, b) → Hd (f (a, b)) K → G) : G := bdE h fun _ => k _ _
theorem ltQ {G : Prop} {x : α} {f : α → Option β} (h : Hd (lt x f) K) (k : ∀ y, y = x → Hd (f y) K → G) : G := k x rfl h
theorem swI1 {b : Bool} {x y : Option β} (h : Hd (sw b x y) K) (e : b = true) : Hd x K := by subst e; exact h
theorem swI0 {b : Bool} {x y : Option β} (h : Hd (sw b x y) K) (e : b = false) : Hd y K := by subst e; exact h
theorem smI {v : β} (h : Hd (some v) K) : K v := by
  obtain ⟨u, h1, h2⟩ := h
  cases h1
  exact h2
def SK (f : σ → Option β) (K : β → Prop) : β ⊕ σ → Prop
  | .inl x => K x
  | .inr s => Hd (f s) K
theorem soI {m : Option (β ⊕ σ)} {f : σ → Option β} (h : Hd (so m f) K) : Hd m (SK f K) := by
  obtain ⟨v, h1, h2⟩ := h
  cases m with
  | none => cases h1
  | some a =>
    refine ⟨a, rfl, ?_⟩
    cases a with
    | inl x => cases h1; exact h2
    | inr s => exact ⟨v, h1, h2⟩
def LK (f : Nat → σ → Option (LR σ β)) (n i : Nat) (K : β ⊕ σ → Prop) : LR σ β → Prop
  | .next s => Hd (loopN f (n - (i + 1)) (i + 1) s) K
  | .brk s => K (.inr s)
  | .ret x => K (.inl x)
def LW (f : σ → Option (LR σ β)) (k : Nat) (K : β ⊕ σ → Prop) : LR σ β → Prop
  | .next s => Hd (loopW f k s) K
  | .brk s => K (.inr s)
  | .ret x => K (.inl x)
theorem lnT {f : Nat → σ → Option (LR σ β)} {n i : Nat} {s : σ} {K : β ⊕ σ → Prop} (hl : i < n) (h : Hd (loopN f (n - i) i s) K) : Hd (f i s) (LK f n i K) := by
  obtain ⟨v, h1, h2⟩ := h
  rw [show n - i = (n - (i + 1)) + 1 by omega, loopN] at h1
  cases hf : f i s with
  | none => rw [hf] at h1; cases h1
  | some x =>
    rw [hf] at h1
    refine ⟨x, rfl, ?_⟩
    cases x with
    | next s' => exact ⟨v, h1, h2⟩
    | brk s' => cases h1; exact h2
    | ret x => cases h1; exact h2
theorem lnE {f : Nat → σ → Option (LR σ β)} {n i : Nat} {s : σ} {K : β ⊕ σ → Prop} (hl : n ≤ i) (h : Hd (loopN f (n - i) i s) K) : K (.inr s) := by
  obtain ⟨v, h1, h2⟩ := h
  rw [show n - i = 0 by omega, loopN] at h1
  cases h1
  exact h2
theorem lwT {f : σ → Option (LR σ β)} {k : Nat} {s : σ} {K : β ⊕ σ → Prop} (h : Hd (loopW f k s) K) : ∃ k', k = k' + 1 ∧ Hd (f s) (LW f k' K) := by
  obtain ⟨v, h1, h2⟩ := h
  cases k with
  | zero => cases h1
  | succ k =>
    rw [loopW] at h1
    refine ⟨k, rfl, ?_⟩
    cases hf : f s with
    | none => rw [hf] at h1; cases h1
    | some x =>
      rw [hf] at h1
      refine ⟨x, rfl, ?_⟩
      cases x with
      | next s' => exact ⟨v, h1, h2⟩
      | brk s' => cases h1; exact h2
      | ret x => cases h1; exact h2
end

/-! ### States that say less, found by themselves -/
section
variable {P : Program} {C : Ctx} {n : Nat} {s s' : AS}
theorem keepA {st' : Sto} (h : Keeps0 C.st st' := by first | exact keeps_nil (by assumption) | (refine keeps_all (by assumption) ?_ ?_; (first | exact boxes0 | exact boxes1 rfl | exact boxes2 rfl | exact boxes3 rfl); exact Nat.le_of_ble_eq_true rfl)) : Keeps0 C.st st' := h
theorem stleA {st st' : Sto} (hb : BoxLe st' st.boxes st'.boxes := by repeat' (first | exact trivial | refine ⟨⟨rfl, leA, rfl⟩, ?_⟩)) (hr : st.rows.take st'.rows.length = st'.rows := by first | rfl | simp) : StLe st st' := StLe.mk' hb hr
theorem wkA (hst : StLe s.st s'.st := by exact stleA) (hp : Keeps0 C.st s'.st := by exact keepA) (he : EnvLe s s'.st s'.env := by repeat' (first | exact trivial | refine ⟨⟨_, rfl, leA, rfl⟩, ?_⟩)) : Wk C n s s' := Wk.mk hst hp he
end

theorem nmD {P : Program} {f : FuncId} {args : List PV} {pre : Sto} {q : PV} {y d : DS} {T : TypeId} (hy : y = d) (h : ACalls P f args pre (fun r t => r = q ∧ t = DS.box T d)) : ACalls P f args pre (fun r t => r = q ∧ t = DS.box T y) := by subst hy; exact h
/-! ### Ways that meet, loops, ends -/
def cutQ {β σ : Type} (C : Ctx) (n : Nat) (I : σ → AS) (K : β ⊕ σ → Prop) (Q : Exit → AS → Prop) : Exit → AS → Prop
  | .normal, s => ∃ v, K (.inr v) ∧ Wk C n s (I v)
  | e, s => Q e s
def lpQ {β σ : Type} (C : Ctx) (n : Nat) (id : Nat) (I : Nat → σ → AS) (O : σ → AS) (f : Nat → σ → Option (LR σ β)) (m i : Nat) (K : β ⊕ σ → Prop) (Q : Exit → AS → Prop) : Exit → AS → Prop
  | .normal, s => i < m ∧ ∃ v, Hd (loopN f (m - (i + 1)) (i + 1) v) K ∧ Wk C n s (I (i + 1) v)
  | .exit j, s => if j = id then ∃ v, K (.inr v) ∧ Wk C n s (O v) else Q (.exit j) s
  | e, s => Q e s
def lwQ {β σ : Type} (C : Ctx) (n : Nat) (id : Nat) (I : σ → AS) (O : σ → AS) (f : σ → Option (LR σ β)) (k : Nat) (K : β ⊕ σ → Prop) (Q : Exit → AS → Prop) : Exit → AS → Prop
  | .normal, s => ∃ v, Hd (loopW f k v) K ∧ Wk C n s (I v)
  | .exit j, s => if j = id then ∃ v, K (.inr v) ∧ Wk C n s (O v) else Q (.exit j) s
  | e, s => Q e s
section
variable {P : Program} {C : Ctx} {n : Nat} {s : AS} {Q : Exit → AS → Prop} {β σ : Type}
theorem qcCutQ {I : σ → AS} {K : β ⊕ σ → Prop} (hq : QC C n Q) : QC C n (cutQ C n I K Q) := fun e s s' h k => by
  cases e with
  | normal => obtain ⟨v, h1, h2⟩ := k; exact ⟨v, h1, h.trans h2⟩
  | _ => exact hq _ s s' h k
theorem qcLpQ {id : Nat} {I : Nat → σ → AS} {O : σ → AS} {f : Nat → σ → Option (LR σ β)} {m i : Nat} {K : β ⊕ σ → Prop} (hq : QC C n Q) : QC C n (lpQ C n id I O f m i K Q) := fun e s s' h k => by
  cases e with
  | normal => obtain ⟨h0, v, h1, h2⟩ := k; exact ⟨h0, v, h1, h.trans h2⟩
  | exit j =>
    simp only [lpQ] at k ⊢
    split
    · rename_i hj; rw [if_pos hj] at k; obtain ⟨v, h1, h2⟩ := k; exact ⟨v, h1, h.trans h2⟩
    · rename_i hj; rw [if_neg hj] at k; exact hq _ s s' h k
  | _ => exact hq _ s s' h k
theorem qcLwQ {id : Nat} {I : σ → AS} {O : σ → AS} {f : σ → Option (LR σ β)} {m : Nat} {K : β ⊕ σ → Prop} (hq : QC C n Q) : QC C n (lwQ C n id I O f m K Q) := fun e s s' h k => by
  cases e with
  | normal => obtain ⟨v, h1, h2⟩ := k; exact ⟨v, h1, h.trans h2⟩
  | exit j =>
    simp only [lwQ] at k ⊢
    split
    · rename_i hj; rw [if_pos hj] at k; obtain ⟨v, h1, h2⟩ := k; exact ⟨v, h1, h.trans h2⟩
    · rename_i hj; rw [if_neg hj] at k; exact hq _ s s' h k
  | _ => exact hq _ s s' h k
theorem qcA (h : QC C n Q := by repeat' (first | exact qcEnds | exact ncAWP | apply qcCutQ | apply qcLpQ | apply qcLwQ | apply qcThen | apply qcBlock)) : QC C n Q := h
theorem cutB {c : Code} {m : Option (β ⊕ σ)} {K : β ⊕ σ → Prop} (I : σ → AS) (H : Hd m K) (h : Hd m K → AWP P C n c (cutQ C n I K Q) s) (k : ∀ v, K (.inr v) → Q .normal (I v)) (hq : QC C n Q := by exact qcA) : AWP P C n c Q s :=
  AWP.mono (h H) fun e s' hc => by
    cases e with
    | normal =>
      obtain ⟨v, h1, h2⟩ := hc
      exact hq _ _ _ h2 (k v h1)
    | _ => exact hc
theorem cutX {I : σ → AS} {K : β ⊕ σ → Prop} {e : Exit} (h : ∃ v, K (.inr v) ∧ Wk C n s (I v)) (he : e = .normal := by exact rfl) : cutQ C n I K Q e s := by subst he; exact h
theorem loopB {c : Code} {id : Nat} {f : Nat → σ → Option (LR σ β)} {m i0 : Nat} {v0 : σ} {K : β ⊕ σ → Prop} (I : Nat → σ → AS) (O : σ → AS) (H : Hd (loopN f (m - i0) i0 v0) K)
    (round : ∀ i v, Hd (loopN f (m - i) i v) K → AWP P C n c (lpQ C n id I O f m i K Q) (I i v)) (k : ∀ v, K (.inr v) → Q .normal (O v)) (h0 : Wk C n s (I i0 v0) := by exact wkA) (hq : QC C n Q := by exact qcA) : AWP P C n (.block id (.loop c)) Q s := by
  refine AWP.block ?_; refine AWP.loopJ (ι := Nat × σ) (fun x => Hd (loopN f (m - x.1) x.1 x.2) K) (fun x => I x.1 x.2) (fun x => m - x.1) (i0, v0) H h0 ?_; rintro ⟨i, v⟩ hj
  refine AWP.mono (round i v hj) fun e s' h => ?_
  cases e with
  | normal =>
    obtain ⟨h1, v', h2, h3⟩ := h
    exact ⟨(i + 1, v'), h2, h3, by show m - (i + 1) < m - i; omega⟩
  | exit j =>
    simp only [lpQ] at h
    show inBlockA id Q (.exit j) s'
    simp only [inBlockA]
    split
    · rename_i hj; rw [if_pos hj] at h; obtain ⟨v', h1, h2⟩ := h; exact hq _ _ _ h2 (k v' h1)
    · rename_i hj; rw [if_neg hj] at h; exact h
  | _ => exact h
theorem loopV {c : Code} {id : Nat} {f : σ → Option (LR σ β)} {k0 : Nat} {v0 : σ} {K : β ⊕ σ → Prop} (I : σ → AS) (O : σ → AS) (H : Hd (loopW f k0 v0) K)
    (round : ∀ k v, Hd (f v) (LW f k K) → AWP P C n c (lwQ C n id I O f k K Q) (I v)) (k : ∀ v, K (.inr v) → Q .normal (O v)) (h0 : Wk C n s (I v0) := by exact wkA) (hq : QC C n Q := by exact qcA) : AWP P C n (.block id (.loop c)) Q s := by
  refine AWP.block ?_; refine AWP.loopJ (ι := Nat × σ) (fun x => Hd (loopW f x.1 x.2) K) (fun x => I x.2) (fun x => x.1) (k0, v0) H h0 ?_; rintro ⟨i, v⟩ hj
  obtain ⟨i', rfl, hj'⟩ := lwT (f := f) (k := i) (s := v) hj
  refine AWP.mono (round i' v hj') fun e s' h => ?_
  cases e with
  | normal =>
    obtain ⟨v', h2, h3⟩ := h
    exact ⟨(i', v'), h2, h3, by show i' < i' + 1; omega⟩
  | exit j =>
    simp only [lwQ] at h
    show inBlockA id Q (.exit j) s'
    simp only [inBlockA]
    split
    · rename_i hj; rw [if_pos hj] at h; obtain ⟨v', h1, h2⟩ := h; exact hq _ _ _ h2 (k v' h1)
    · rename_i hj; rw [if_neg hj] at h; exact h
  | _ => exact h
theorem lpN {id : Nat} {I : Nat → σ → AS} {O : σ → AS} {f : Nat → σ → Option (LR σ β)} {m i : Nat} {K : β ⊕ σ → Prop} {e : Exit} (hi : i < m) (h : ∃ v, LK f m i K (.next v) ∧ Wk C n s (I (i + 1) v)) (he : e = .normal := by exact rfl) : lpQ C n id I O f m i K Q e s := by subst he; exact ⟨hi, h⟩
theorem lpX {id : Nat} {I : Nat → σ → AS} {O : σ → AS} {f : Nat → σ → Option (LR σ β)} {m i : Nat} {K : β ⊕ σ → Prop} {e : Exit} (h : ∃ v, K (.inr v) ∧ Wk C n s (O v)) (he : e = .exit id := by exact rfl) : lpQ C n id I O f m i K Q e s := by
  subst he
  simp only [lpQ, if_pos]
  exact h
theorem lwN {id : Nat} {I : σ → AS} {O : σ → AS} {f : σ → Option (LR σ β)} {k : Nat} {K : β ⊕ σ → Prop} {e : Exit} (h : ∃ v, LW f k K (.next v) ∧ Wk C n s (I v)) (he : e = .normal := by exact rfl) : lwQ C n id I O f k K Q e s := by subst he; exact h
theorem lwB {id : Nat} {I : σ → AS} {O : σ → AS} {f : σ → Option (LR σ β)} {k : Nat} {K : β ⊕ σ → Prop} {e : Exit} (h : ∃ v, LW f k K (.brk v) ∧ Wk C n s (O v)) (he : e = .exit id := by exact rfl) : lwQ C n id I O f k K Q e s := by
  subst he
  simp only [lwQ, if_pos]
  exact h
theorem cndB {K : β → Prop} {c : Operand} {b : Bool} {x y : Option β} {cx cy : Code} (H : Hd (sw b x y) K) (ht : b = true → Hd x K → AWP P C n cx Q s) (hf : b = false → Hd y K → AWP P C n cy Q s) (hc : s.ev c = some (.t (.leaf (.bool b))) := by exact rfl) : AWP P C n (.cond c cx cy) Q s :=
  AWP.cond hc (fun h => ht h (swI1 H h)) fun h => hf h (swI0 H h)
theorem cndT {c : Operand} {b : Bool} {cx cy : Code} (e : b = true) (h : AWP P C n cx Q s) (hc : s.ev c = some (.t (.leaf (.bool b))) := by exact rfl) : AWP P C n (.cond c cx cy) Q s := AWP.cond hc (fun _ => h) fun h => absurd (e.symm.trans h) (by decide)
/-- The loop's own test. -/
theorem cndL {K : β ⊕ σ → Prop} {f : Nat → σ → Option (LR σ β)} {m i : Nat} {v : σ} {c : Operand} {b : Bool} {cx cy : Code} (H : Hd (loopN f (m - i) i v) K) (ht : b = true → i < m → Hd (f i v) (LK f m i K) → AWP P C n cx Q s) (hf : b = false → K (.inr v) → AWP P C n cy Q s) (h1 : b = true → i < m := by first | exact nat_lt_of2 | exact nat_lt_of3) (h0 : b = false → m ≤ i := by first | exact nat_ge_of2 | exact nat_ge_of3) (hc : s.ev c = some (.t (.leaf (.bool b))) := by exact rfl) : AWP P C n (.cond c cx cy) Q s :=
  AWP.cond hc (fun h => ht h (h1 h) (lnT (h1 h) H)) fun h => hf h (lnE (h0 h) H)
theorem qI {f : FuncId} {fn : Func} {c : Code} {args : List PV} {pre : Sto} {R : PV → Sto → Prop} (hf : P.funcs[f]? = some fn) (h : ∀ C : Ctx, C.st = pre → AWP P C fn.ntmps c (Ends P C fn.ntmps fn R) ⟨argEnv 0 args, pre⟩) (hb : fn.body = some c := by exact rfl) (hn : args.length ≤ fn.ntmps := by first | decide | (simp; done) | (simp; decide)) : ACalls P f args pre R := ACalls.intro hf hb hn h
theorem qS {x y : Code} (h : AWP P C n x (thenA (AWP P C n y Q) Q) s) : AWP P C n (.seq x y) Q s := AWP.seq h
theorem qR {id : Nat} {l : List Oper} (h : AL P C n l.toArray l Q s) : AWP P C n (.region id l.toArray false) Q s := AWP.region_lit h
theorem qN {ops : Array Oper} (h : Q .normal s) : AL P C n ops [] Q s := AL.nil h
theorem q1 {ops : Array Oper} {o : Oper} {rest : List Oper} {s1 : AS} (ho : AOp P C n o s s1) (h : AL P C n ops rest Q s1) (hg : o.guard = none := by exact rfl) : AL P C n ops (o :: rest) Q s := AL.cons hg ho h
theorem qe1 {fn : Func} {R : PV → Sto → Prop} {e : Exit} {p q : PV} {st' : Sto} (hR : R q st' := by exact ⟨rfl, rfl⟩) (hr : ResL P s fn.results.toList [p] := by exact ⟨rfl, trivial⟩) (he : e = .normal ∨ e = .ret := by first | exact .inr rfl | exact .inl rfl)
    (hst : StLe s.st st' := by exact stleA) (hp : Keeps0 C.st st' := by exact keepA) (hle : PV.Le p q := by exact leA) (hk : PV.okIn st' q = true := by exact rfl) : Ends P C n fn R e s := Ends.mk he hr rfl hst hp hle hk hR
theorem qe2 {fn : Func} {R : PV → Sto → Prop} {e : Exit} {p1 p2 q : PV} {st' : Sto} (hR : R q st' := by exact ⟨rfl, rfl⟩) (hr : ResL P s fn.results.toList [p1, p2] := by exact ⟨rfl, rfl, trivial⟩) (he : e = .normal ∨ e = .ret := by first | exact .inr rfl | exact .inl rfl)
    (hst : StLe s.st st' := by exact stleA) (hp : Keeps0 C.st st' := by exact keepA) (hle : PV.Le (.tup [p1, p2]) q := by exact leA) (hk : PV.okIn st' q = true := by exact rfl) : Ends P C n fn R e s := Ends.mk he hr rfl hst hp hle hk hR
end

section
variable {P : Program} {C : Ctx} {n : Nat}
end
/-! ### Operations -/
instance : Inhabited DS := ⟨⟨[], 0, 0⟩⟩
instance : Inhabited PV := ⟨.nil⟩
instance : Inhabited Sto := ⟨⟨[], []⟩⟩
instance : Inhabited PRow := ⟨⟨0, 0, [], false⟩⟩
def evA (s : AS) : List Operand → Option (List PV)
  | [] => some []
  | x :: xs => match s.ev x with
    | some p => match evA s xs with
      | some ps => some (p :: ps)
      | none => none
    | none => none
theorem evA_map {s : AS} : ∀ {xs : List Operand} {ps : List PV}, evA s xs = some ps → xs.map s.ev = ps.map some
  | [], ps, h => by cases h; rfl
  | x :: xs, ps, h => by
    unfold evA at h
    split at h
    · rename_i p hp
      split at h
      · rename_i qs hq
        cases h
        rw [List.map_cons, List.map_cons, hp, evA_map hq]
      · cases h
    · cases h
section
variable {P : Program} {C : Ctx} {n : Nat} {s : AS} {o : Oper}
theorem rMv {x : Operand} {p : PV} (ho : o.op = .move x ∨ o.op = .assign x := by first | exact .inl rfl | exact .inr rfl) (hd : dstOk o.dst n = true := by exact rfl) (hx : s.ev x = some p := by exact rfl) : AOp P C n o s (s.putO o.dst p) := AOp.move ho hd hx
theorem rL1 {T : TypeId} {x : Operand} {k d z : Nat} {bx : PBox} {p : PV} (hT : shapeOf P T = some (false, z)) (ho : o.op = .load T x := by exact rfl) (hd : dstOk o.dst n = true := by exact rfl) (hx : s.ev x = some (.ptr k d) := by exact rfl) (hb : s.st.boxes[k]? = some (some bx) := by exact rfl) (hc : bx.cells[d]? = some p := by exact rfl) : AOp P C n o s (s.putO o.dst p) := AOp.loadPtr1 ho hd hx hb hT hc
theorem rLp {T : TypeId} {x : Operand} {k d z : Nat} {bx : PBox} (cs : List PV) (hT : shapeOf P T = some (true, z)) (ho : o.op = .load T x := by exact rfl) (hd : dstOk o.dst n = true := by exact rfl) (hx : s.ev x = some (.ptr k d) := by exact rfl) (hb : s.st.boxes[k]? = some (some bx) := by exact rfl) (hc : (bx.cells.drop d).take z = cs := by exact rfl) (hl : cs.length = z := by exact rfl) : AOp P C n o s (s.putO o.dst (.agg cs)) := AOp.loadPtr ho hd hx hb hT hc hl
theorem rK1 {T : TypeId} {x : Operand} {z : Nat} {d : Tr} {cs : List Tr} (hT : shapeOf P T = some (false, z)) (ho : o.op = .load T x := by exact rfl) (hd : dstOk o.dst n = true := by exact rfl) (hx : s.ev x = some (.eptr cs) := by exact rfl) (hc : cs[0]? = some d := by exact rfl) : AOp P C n o s (s.putO o.dst (.t d)) := AOp.loadEptr1 ho hd hx hT hc
theorem rFp {T : TypeId} {x : Operand} {f k d e : Nat} (hf : fieldOff P T f = some e) (ho : o.op = .fieldAddr T x f := by exact rfl) (hd : dstOk o.dst n = true := by exact rfl) (hx : s.ev x = some (.ptr k d) := by exact rfl) : AOp P C n o s (s.putO o.dst (.ptr k (d + e))) := AOp.fieldPtr ho hd hx hf
theorem rAl {T : TypeId} {ps : List PV} (hz : zerosOf P T = some ps) (ho : o.op = .alloc T := by exact rfl) (hd : dstOk o.dst n = true := by exact rfl) : AOp P C n o s ((⟨s.env, s.st.addBox ⟨T, ps⟩⟩ : AS).putO o.dst (.ptr s.st.boxes.length 0)) := AOp.alloc ho hd hz
theorem rSu {T : TypeId} {x y : Operand} {k d : Nat} {bx : PBox} {p : PV} {cs ds : List PV} (hT : (P.info? T).map (·.size) = some cs.length) (ho : o.op = .store T x y := by exact rfl) (hx : s.ev x = some (.ptr k d) := by exact rfl) (hb : s.st.boxes[k]? = some (some bx) := by exact rfl) (hy : s.ev y = some p := by exact rfl) (hc : cellsP p = cs := by exact rfl) (ht : notTup p = true := by exact rfl) (hf : flatP cs = true := by exact rfl)
    (hfit : d + cs.length ≤ bx.cells.length := by exact Nat.le_of_ble_eq_true rfl) (hds : bx.cells.take d ++ cs ++ bx.cells.drop (d + cs.length) = ds := by exact rfl) : AOp P C n o s ((⟨s.env, s.st.setBox k ⟨bx.ty, ds⟩⟩ : AS).delO o.dst) := AOp.storePtr ho hx hb hy hc ht hf hT hfit hds
theorem rLn {T : TypeId} {x : Operand} {p : PV} {sz N : Nat} {es : List (List Tr)} {E : Nat × Nat × Nat} (hT : elemOf? P T = some E) (hl : es.length = N) (ho : o.op = .call { callee := .builtin .len, args := #[x], argTypes := #[T] } := by exact rfl) (hd : dstOk o.dst n = true := by exact rfl) (hx : s.ev x = some p := by exact rfl) (hp : rowOf p = some (sz, es) := by exact rfl) : AOp P C n o s (s.putO o.dst (.t (.leaf (.int .i64 (N : Int))))) := AOp.lenN ho hd hx hp hT hl
theorem rEq {T yT : TypeId} {x y : Operand} {k : IntKind} {a b : Int} (ho : o.op = .binOp .eql T x y yT := by exact rfl) (hd : dstOk o.dst n = true := by exact rfl) (hx : s.ev x = some (.t (.leaf (.int k a))) := by exact rfl) (hy : s.ev y = some (.t (.leaf (.int k b))) := by exact rfl) : AOp P C n o s (s.putO o.dst (.t (.leaf (.bool (decide (a = b)))))) := AOp.eqlI ho hd hx hy
theorem rNe {T yT : TypeId} {x y : Operand} {k : IntKind} {a b : Int} (ho : o.op = .binOp .neq T x y yT := by exact rfl) (hd : dstOk o.dst n = true := by exact rfl) (hx : s.ev x = some (.t (.leaf (.int k a))) := by exact rfl) (hy : s.ev y = some (.t (.leaf (.int k b))) := by exact rfl) : AOp P C n o s (s.putO o.dst (.t (.leaf (.bool (!decide (a = b)))))) := AOp.neqI ho hd hx hy
theorem rLt {T yT : TypeId} {x y : Operand} {k : IntKind} {a b : Int} (ho : o.op = .binOp .lss T x y yT := by exact rfl) (hd : dstOk o.dst n = true := by exact rfl) (hx : s.ev x = some (.t (.leaf (.int k a))) := by exact rfl) (hy : s.ev y = some (.t (.leaf (.int k b))) := by exact rfl) : AOp P C n o s (s.putO o.dst (.t (.leaf (.bool (decide (a < b)))))) := AOp.lss ho hd hx hy
theorem rLe {T yT : TypeId} {x y : Operand} {k : IntKind} {a b : Int} (ho : o.op = .binOp .leq T x y yT := by exact rfl) (hd : dstOk o.dst n = true := by exact rfl) (hx : s.ev x = some (.t (.leaf (.int k a))) := by exact rfl) (hy : s.ev y = some (.t (.leaf (.int k b))) := by exact rfl) : AOp P C n o s (s.putO o.dst (.t (.leaf (.bool (decide (a ≤ b)))))) := AOp.leq ho hd hx hy
theorem rGt {T yT : TypeId} {x y : Operand} {k : IntKind} {a b : Int} (ho : o.op = .binOp .gtr T x y yT := by exact rfl) (hd : dstOk o.dst n = true := by exact rfl) (hx : s.ev x = some (.t (.leaf (.int k a))) := by exact rfl) (hy : s.ev y = some (.t (.leaf (.int k b))) := by exact rfl) : AOp P C n o s (s.putO o.dst (.t (.leaf (.bool (decide (a > b)))))) := AOp.gtr ho hd hx hy
theorem rGe {T yT : TypeId} {x y : Operand} {k : IntKind} {a b : Int} (ho : o.op = .binOp .geq T x y yT := by exact rfl) (hd : dstOk o.dst n = true := by exact rfl) (hx : s.ev x = some (.t (.leaf (.int k a))) := by exact rfl) (hy : s.ev y = some (.t (.leaf (.int k b))) := by exact rfl) : AOp P C n o s (s.putO o.dst (.t (.leaf (.bool (decide (a ≥ b)))))) := AOp.geq ho hd hx hy
theorem rSn {T yT : TypeId} {x y : Operand} {a b : ByteArray} (ho : o.op = .binOp .neq T x y yT := by exact rfl) (hd : dstOk o.dst n = true := by exact rfl) (hx : s.ev x = some (.t (.leaf (.string a))) := by exact rfl) (hy : s.ev y = some (.t (.leaf (.string b))) := by exact rfl) : AOp P C n o s (s.putO o.dst (.t (.leaf (.bool (!decide (a = b)))))) := AOp.neqS ho hd hx hy
theorem rNo {T : TypeId} {x : Operand} {b : Bool} (ho : o.op = .unOp .not T x := by exact rfl) (hd : dstOk o.dst n = true := by exact rfl) (hx : s.ev x = some (.t (.leaf (.bool b))) := by exact rfl) : AOp P C n o s (s.putO o.dst (.t (.leaf (.bool (!b))))) := AOp.notB ho hd hx
theorem rAw {T yT : TypeId} {x y : Operand} {k : IntKind} {a b : Int} (ho : o.op = .binOp .add T x y yT := by exact rfl) (hd : dstOk o.dst n = true := by exact rfl) (hx : s.ev x = some (.t (.leaf (.int k a))) := by exact rfl) (hy : s.ev y = some (.t (.leaf (.int k b))) := by exact rfl) : AOp P C n o s (s.putO o.dst (.t (.leaf (.int k (k.wrap (a + b)))))) := AOp.addW ho hd hx hy
theorem rSw {T yT : TypeId} {x y : Operand} {k : IntKind} {a b : Int} (ho : o.op = .binOp .sub T x y yT := by exact rfl) (hd : dstOk o.dst n = true := by exact rfl) (hx : s.ev x = some (.t (.leaf (.int k a))) := by exact rfl) (hy : s.ev y = some (.t (.leaf (.int k b))) := by exact rfl) : AOp P C n o s (s.putO o.dst (.t (.leaf (.int k (k.wrap (a - b)))))) := AOp.subW ho hd hx hy
theorem rIx {α : Type} [Inhabited α] [TC α] {l : List α} {T E sz by_ : Nat} {x i : Operand} {p : PV} {k : Nat} (h : k < l.length) (hT : elemOf? P T = some (E, sz, by_)) (ho : o.op = .indexAddr T x i := by exact rfl) (hd : dstOk o.dst n = true := by exact rfl) (hx : s.ev x = some p := by exact rfl) (hp : rowOf p = some (sz, TC.trs l) := by exact rfl) (hi : s.ev i = some (.t (.leaf (.int .i64 (k : Int)))) := by exact rfl) : AOp P C n o s (s.putO o.dst (.eptr (TC.cs (atD l k)))) := AOp.index ho hd hx hp hi (TC.at_ h) hT
theorem rEx {x : Operand} {i : Nat} {ps : List PV} {p : PV} (ho : o.op = .extract x i := by exact rfl) (hd : dstOk o.dst n = true := by exact rfl) (hx : s.ev x = some (.tup ps) := by exact rfl) (hi : ps[i]? = some p := by exact rfl) : AOp P C n o s (s.putO o.dst p) := AOp.extract ho hd hx hi
theorem rBd {T : TypeId} {parts : Array (Nat × Operand)} {ps : List (Nat × List PV)} {zs cs : List PV} {places : List (Nat × Nat)} (hz : zerosOf P T = some zs) (hpl : placesOf P T = some places) (ho : o.op = .build T parts := by exact rfl) (hd : dstOk o.dst n = true := by exact rfl) (hp : partsP s parts.toList = some ps := by exact rfl) (hc : fillP (fun i => places.toArray[i]?) zs ps = some cs := by exact rfl) : AOp P C n o s (s.putO o.dst (.agg cs)) := AOp.build ho hd hz hpl hp hc
theorem rBs {α : Type} [Inhabited α] [TC α] {T E by_ len : Nat} {parts : Array (Nat × Operand)} {ps : List (Nat × List PV)} {zs cs : List PV} (l : List α) (hT : elemOf? P T = some (E, TC.sz α, by_)) (hz : zerosOf P E = some zs) (ho : o.op = .buildSlice T len parts := by exact rfl) (hd : dstOk o.dst n = true := by exact rfl) (hp : partsP s parts.toList = some ps := by exact rfl)
    (hc : fillP (fun i => some (i * TC.sz α, TC.sz α)) (List.replicate len zs).flatten ps = some cs := by exact rfl) (hle : LeL cs ((l.map TC.cs).flatten.map PV.t) := by exact leA) (hel : l.length = len := by exact rfl) (hsz : 0 < TC.sz α := by decide) (hzl : zs.length = TC.sz α := by exact rfl) (hsm : len * TC.sz α ≤ 16777216 := by decide) : AOp P C n o s (s.putO o.dst (.t (.row (TC.sz α) (TC.trs l)))) :=
  AOp.buildSliceE (es := l.map TC.cs) ho hd hT hz hp hc hle (by rw [List.length_map]; exact hel) (fun e he => TC.all l e (by rw [TC.map]; exact he)) hsz hzl hsm (TC.map l).symm
theorem rBa {α : Type} [Inhabited α] [TC α] {T E by_ len : Nat} {parts : Array (Nat × Operand)} {ps : List (Nat × List PV)} {zs cs : List PV} (l : List α) (hT : elemOf? P T = some (E, TC.sz α, by_)) (hz : zerosOf P E = some zs) (ho : o.op = .buildSlice T len parts := by exact rfl) (hd : dstOk o.dst n = true := by exact rfl) (hp : partsP s parts.toList = some ps := by exact rfl)
    (hc : fillP (fun i => some (i * TC.sz α, TC.sz α)) (List.replicate len zs).flatten ps = some cs := by exact rfl) (hle : LeL cs ((l.map TC.cs).flatten.map PV.t) := by exact leA) (hel : l.length = len := by exact rfl) (hsz : 0 < TC.sz α := by decide) (hzl : zs.length = TC.sz α := by exact rfl) (hsm : len * TC.sz α ≤ 16777216 := by decide) : AOp P C n o s ((⟨s.env, s.st.addRow ⟨E, TC.sz α, TC.trs l, false⟩⟩ : AS).putO o.dst (.acc (TC.sz α) (TC.trs l) s.st.rows.length)) :=
  AOp.buildSliceA (es := l.map TC.cs) ho hd hT hz hp hc hle (by rw [List.length_map]; exact hel) (fun e he => TC.all l e (by rw [TC.map]; exact he)) hsz hzl hsm (TC.map l).symm
theorem rAp {α : Type} [Inhabited α] [TC α] {T E by_ : Nat} {x y : Operand} {a b : List α} {r : Nat} {row : PRow} {p : PV} (h : a.length + b.length ≤ 68719476736) (hT : elemOf? P T = some (E, TC.sz α, by_)) (hz : (P.info? E).bind (fun i => i.zero.map (fun z => z.cells.size)) = some (TC.sz α)) (ho : o.op = .call { callee := .builtin .append, args := #[x, y], argTypes := #[T, T] } := by exact rfl) (hd : dstOk o.dst n = true := by exact rfl)
    (hx : s.ev x = some (.acc (TC.sz α) (TC.trs a) r) := by exact rfl) (hrow : s.st.rows[r]? = some row := by exact rfl) (hes : row.es = TC.trs a := by exact rfl) (hE : row.E = E := by exact rfl) (hw : row.whole = false := by exact rfl) (hy : s.ev y = some p := by exact rfl) (hp : rowOf p = some (TC.sz α, TC.trs b) := by exact rfl)
    (hb : 0 < by_ := by decide) (hb2 : by_ ≤ 2048 := by decide) : AOp P C n o s ((⟨s.env, s.st.setRow r { row with es := TC.trs (a ++ b) }⟩ : AS).putO o.dst (.acc (TC.sz α) (TC.trs (a ++ b)) r)) :=
  AOp.appendE ho hd hx hrow hes hE hw hy hp (TC.all b) hT hz hb (by rw [TC.len, TC.len]; exact room_le h hb2) (TC.app a b)
theorem rPt {x y z : Operand} {b : Bool} {p : PV} (hb : b = true) (ho : o.op = .pick x y z := by exact rfl) (hd : dstOk o.dst n = true := by exact rfl) (hx : s.ev x = some (.t (.leaf (.bool b))) := by exact rfl) (hy : s.ev y = some p := by exact rfl) : AOp P C n o s (s.putO o.dst p) := AOp.pickT ho hd hx hb hy
theorem rPf {x y z : Operand} {b : Bool} {p : PV} (hb : b = false) (ho : o.op = .pick x y z := by exact rfl) (hd : dstOk o.dst n = true := by exact rfl) (hx : s.ev x = some (.t (.leaf (.bool b))) := by exact rfl) (hy : s.ev z = some p := by exact rfl) : AOp P C n o s (s.putO o.dst p) := AOp.pickF ho hd hx hb hy
theorem rCf {f : FuncId} {fn : Func} {xs : List Operand} {ts : Array TypeId} {ps qs : List PV} {res : PV} (hf : P.funcs[f]? = some fn) (hc : AFun P f qs res) (ho : o.op = .call { callee := .value (.func f), args := ⟨xs⟩, argTypes := ts } := by exact rfl) (hd : dstOk o.dst n = true := by exact rfl) (hnm : (fn.name == "runtime.NumGoroutine") = false := by kernel_rfl) (hb : fn.body.isNone = false := by exact rfl)
    (hx : evA s xs = some ps := by exact rfl) (hle : LeL ps qs := by exact leA) (h1 : freeL qs = true := by exact rfl) (h2 : PV.free res = true := by exact rfl) : AOp P C n o s (s.putO o.dst res) := AOp.callF ho hd hf hnm hb (evA_map hx) hle h1 h2 hc
theorem partA {S pre : Sto} {fb fr : List Nat} (hb : PartBoxes S fb fr pre fb pre.boxes := by repeat' (first | exact trivial | refine ⟨⟨_, rfl, rfl, leA, rfl⟩, ?_⟩)) (hr : PartRows S fr pre.rows := by repeat' (first | exact trivial | refine ⟨rfl, ?_⟩)) (h1 : fb.Nodup := by decide) (h2 : fr.Nodup := by decide) : Part0 S pre fb fr := Part0.of hb hr h1 h2
theorem rCp {f : FuncId} {fn : Func} {xs : List Operand} {ts : Array TypeId} {ps qs : List PV} {res : PV} {pre st' : Sto} (fb fr : List Nat) (hf : P.funcs[f]? = some fn) (hc : ACalls P f qs pre (fun r t => r = res ∧ t = st')) (ho : o.op = .call { callee := .value (.func f), args := ⟨xs⟩, argTypes := ts } := by exact rfl) (hd : dstOk o.dst n = true := by exact rfl) (hnm : (fn.name == "runtime.NumGoroutine") = false := by kernel_rfl) (hb : fn.body.isNone = false := by exact rfl)
    (hx : evA s xs = some ps := by exact rfl) (hp : Part0 s.st pre fb fr := by exact partA) (hle : LeL ps (renL fb fr qs) := by exact leA) (hok : okInL pre qs = true := by exact rfl) (hbl : st'.boxes.length = pre.boxes.length := by exact rfl) (hrl : st'.rows.length = pre.rows.length := by exact rfl) : AOp P C n o s ((⟨s.env, s.st.over st' fb fr⟩ : AS).putO o.dst (PV.ren fb fr res)) := AOp.callPE fb fr ho hd hf hnm hb (evA_map hx) rfl hp hle hok hbl hrl hc
end
end Go.Proofs.YtmpepccpnnldoaaDoor

namespace Go.Proofs.YtmpepccpnnldoaaDoor
set_option linter.unusedSimpArgs false
set_option linter.unusedVariables false
open Go.RowKit Go.WalkArith Go.IntWalk Go.WideShapes

section
variable {P : Program} {C : Ctx} {n : Nat} {o : Oper}
theorem upon_mono {a : Act} {K1 K : Act → World → Prop} {Q : Exit → Act → World → Prop} (hv : ∀ v w', K1 (a.put o.dst v) w' → K (a.put o.dst v) w')
    (hd : ∀ d w', K1 (({ a with defers := d :: a.defers } : Act).put o.dst undef) w' → K (({ a with defers := d :: a.defers } : Act).put o.dst undef) w') : ∀ r, o.upon P a K1 Q r → o.upon P a K Q r := by
  intro r h
  cases r with
  | ok x w' =>
    cases x with
    | value v => exact hv v w' h
    | skip => exact hv undef w' h
    | defer d => exact hd d w' h
    | enter f args =>
      refine Calls.mono h fun e w'' he => ?_
      cases e with
      | returned v => exact hv v w'' he
      | panicked c => exact he
      | outgrown => exact he
    | row r args => exact Rows.mono h fun v w'' he => hv v w'' he
    | _ => exact h
  | halt x w' =>
    cases x with
    | panic v => exact h
    | _ => exact h
theorem lk_putO (s : AS) (d : Nat) (p : PV) (i : Nat) : (s.putO (some d) p).lk i = if i = d then some p else s.lk i := AS.lk_put s d i p
/-- What was shown of an operation on what it leans on holds in every state that has as much. -/
theorem AOp.frame {E : List (Nat × PV)} {st st1 : Sto} {p : PV} {s' : AS} (h : ∀ C', AOp P C' n o ⟨E, st⟩ ((⟨E, st1⟩ : AS).putO o.dst p)) (hst : s'.st = st) (hl : ∀ t q, E.lookup t = some q → s'.lk t = some q) :
    AOp P C n o s' ((⟨s'.env, st1⟩ : AS).putO o.dst p) := fun m a w hr K Q hK => by
  subst hst
  have hr' : RA ⟨C.av, s'.st, m, w⟩ n ⟨E, s'.st⟩ m a w := ⟨hr.dfr, hr.tsz, hr.sto, fun i q hq => hr.env i q (hl i q hq), Ev.refl _ _ _⟩
  have h1 := h ⟨C.av, s'.st, m, w⟩ m a w hr' (fun a' w' => ∃ m', RA ⟨C.av, s'.st, m, w⟩ n ((⟨E, st1⟩ : AS).putO o.dst p) m' a' w') Q (fun m' a' w' h => ⟨m', h⟩)
  unfold Oper.wp at h1 ⊢
  refine upon_mono (fun v w' => ?_) (fun d w' => ?_) _ h1
  · rintro ⟨m', h2⟩
    refine hK m' _ w' ?_
    have key : ∀ (dst : Option Nat), dst = o.dst → RA C n ((⟨s'.env, st1⟩ : AS).putO dst p) m' (a.put dst v) w' := fun dst hdst => by
      rw [← hdst] at h2
      cases dst with
      | none =>
        have hE : Ev s'.st m w st1 m' w' := h2.ev
        exact ⟨h2.dfr, h2.tsz, h2.sto, fun i q hq => by
          obtain ⟨v', hv', hrv⟩ := hr.env i q hq
          exact ⟨v', hv', RV.mono hE q v' hrv⟩, hr.ev.trans hE⟩
      | some d =>
        have hE : Ev s'.st m w st1 m' w' := h2.ev
        refine ⟨h2.dfr, h2.tsz, h2.sto, fun i q hq => ?_, hr.ev.trans hE⟩
        rw [lk_putO] at hq
        by_cases hi : i = d
        · rw [if_pos hi] at hq
          cases hq
          exact h2.env i _ (by rw [lk_putO, if_pos hi])
        · rw [if_neg hi] at hq
          obtain ⟨v', hv', hrv⟩ := hr.env i q hq
          exact ⟨v', by simp only [Act.put]; rw [Array.getElem?_setIfInBounds_ne (fun e => hi e.symm)]; exact hv', RV.mono hE q v' hrv⟩
    exact key o.dst rfl
  · rintro ⟨m', h2⟩
    have h3 := h2.dfr
    have h4 : (({ a with defers := d :: a.defers } : Act).put o.dst undef).defers = d :: a.defers := by
      cases o.dst <;> rfl
    rw [h4] at h3
    cases h3
theorem AOp.frame0 {E : List (Nat × PV)} {st st1 : Sto} {s' : AS} (hn : o.dst = none) (h : ∀ C', AOp P C' n o ⟨E, st⟩ ⟨E, st1⟩) (hst : s'.st = st) (hl : ∀ t q, E.lookup t = some q → s'.lk t = some q) :
    AOp P C n o s' ⟨s'.env, st1⟩ := by
  have := AOp.frame (C := C) (P := P) (n := n) (o := o) (p := .nil) (E := E) (st := st) (st1 := st1) (s' := s') (by rw [hn]; exact h) hst hl
  rw [hn] at this
  exact this

/-- What is gathered on the way. A kind '.al' stands for an operation that does not look at the store. -/
structure DD where
  outs : List (Option PV)
  ks : List (Option DK)
  ins : List (List Nat)
  effs : List Nat
  fs : List (Option PBox → Sto)
  rds : List ((Nat × Nat) × Nat × Option (Option PBox))
  az : Option (Nat × PBox)
def DD.cz (g : DD) : Option PBox := g.az.map (·.2)
/-- A store with the region's own box, or without it. -/
def ab : Option PBox → Sto → Sto
  | none, st => st
  | some z, st => st.addBox z
/-- No store at all. -/
def badSto : Sto := ⟨[], [⟨0, 0, [], false⟩]⟩
theorem bad_rep {C : Ctx} {n : Nat} {env : List (Nat × PV)} {m : Lay} {a : Act} {w : World} (h : RA C n ⟨env, badSto⟩ m a w) : False := by
  have := (h.sto.row 0 ⟨0, 0, [], false⟩ rfl).1
  exact absurd this (by decide)
theorem AOp.bad {P : Program} {C : Ctx} {n : Nat} {o : Oper} {s s1 : AS} (hs : s.st = badSto) : AOp P C n o s s1 := fun m a w hr K Q hK => by
  obtain ⟨env, st⟩ := s
  cases hs
  exact (bad_rep hr).elim
/-- A pointer to a box that is not there. -/
theorem AOp.away {P : Program} {C : Ctx} {n : Nat} {o : Oper} {s s1 : AS} {t k off : Nat} (hl : s.lk t = some (.ptr k off)) (hk : s.st.boxes[k]? = none) : AOp P C n o s s1 := fun m a w hr K Q hK => by
  obtain ⟨v, -, ⟨x, hx⟩, -⟩ := hr.env t _ hl
  rw [hk] at hx
  cases hx
def rs (s : AS) : List Nat → List (Nat × PV)
  | [] => []
  | t :: ts => match s.lk t with
    | some p => (t, p) :: rs s ts
    | none => rs s ts
theorem rs_lk {s : AS} {t : Nat} {q : PV} : ∀ {I : List Nat}, (rs s I).lookup t = some q → t ∈ I ∧ s.lk t = some q
  | [], h => by cases h
  | x :: I, h => by
    unfold rs at h
    cases hx : s.lk x with
    | none =>
      rw [hx] at h
      obtain ⟨h1, h2⟩ := rs_lk (I := I) h
      exact ⟨.tail _ h1, h2⟩
    | some p =>
      rw [hx] at h
      dsimp only at h
      rw [List.lookup_cons] at h
      by_cases htx : t = x
      · subst htx
        simp only [BEq.rfl] at h
        cases h
        exact ⟨.head _, hx⟩
      · rw [show (t == x) = false by simp [htx]] at h
        obtain ⟨h1, h2⟩ := rs_lk (I := I) h
        exact ⟨.tail _ h1, h2⟩
def DSrc (l : List Oper) (e0 : List (Nat × PV)) (outs : List (Option PV)) (i t : Nat) (p : PV) : Prop :=
  (∃ (j : Nat) (o : Oper), j < i ∧ l[j]? = some o ∧ o.dst = some t ∧ outs[j]? = some (some p)) ∨ (e0.lookup t = some p ∧ ∀ (j : Nat) (o : Oper), j < i → l[j]? = some o → o.dst ≠ some t)
/-- Is it carried out? -/
inductive WD (l : List Oper) (e0 : List (Nat × PV)) (outs : List (Option PV)) (i : Nat) (o : Oper) : Bool → Prop
  | n : o.guard = none → WD l e0 outs i o true
  | y {j d : Nat} {b c : Bool} : o.guard = some (j, c) → (l[j]?).bind (·.dst) = some d → DSrc l e0 outs i d (.t (.leaf (.bool b))) → WD l e0 outs i o (b == c)
  | u {j d : Nat} {c : Bool} : o.guard = some (j, c) → (l[j]?).bind (·.dst) = some d → DSrc l e0 outs i d (.tup []) → WD l e0 outs i o false
inductive WS (l : List Oper) (s : AS) (o : Oper) : Bool → Prop
  | n : o.guard = none → WS l s o true
  | y {j d : Nat} {b c : Bool} : o.guard = some (j, c) → (l[j]?).bind (·.dst) = some d → s.lk d = some (.t (.leaf (.bool b))) → WS l s o (b == c)
  | u {j d : Nat} {c : Bool} : o.guard = some (j, c) → (l[j]?).bind (·.dst) = some d → s.lk d = some (.tup []) → WS l s o false
/-- What an operation has been shown to do (N boxes stood before the region; md: it makes a box at a time of its own). -/
inductive DDoes (P : Program) (n N : Nat) (md : Bool) (g : DD) (i : Nat) (o : Oper) (E : List (Nat × PV)) : Prop
  | q {p : PV} : g.ks[i]? = some none → g.outs[i]? = some (some p) → (∀ C' st, AOp P C' n o ⟨E, st⟩ ((⟨E, st⟩ : AS).putO o.dst p)) → DDoes P n N md g i o E
  | r {lo hi k : Nat} {X : Option (Option PBox)} {p : PV} : g.ks[i]? = some (some (.q lo hi)) → g.outs[i]? = some (some p) → ((lo, hi), k, X) ∈ g.rds → (md = true → k < N) → (∀ C' (st : Sto), st.boxes[k]? = X → AOp P C' n o ⟨E, st⟩ ((⟨E, st⟩ : AS).putO o.dst p)) → DDoes P n N md g i o E
  | c {j : Nat} {f : Option PBox → Sto} {p : PV} : g.ks[i]? = some (some (.q j j)) → g.outs[i]? = some (some p) → g.fs[j]? = some f → (∀ C' z, AOp P C' n o ⟨E, f z⟩ ((⟨E, f z⟩ : AS).putO o.dst p)) → DDoes P n N md g i o E
  | e {j : Nat} {f f1 : Option PBox → Sto} {p : PV} : g.ks[i]? = some (some (.ef j)) → g.outs[i]? = some (some p) → g.fs[j]? = some f → g.fs[j + 1]? = some f1 → (∀ C' z, AOp P C' n o ⟨E, f z⟩ ((⟨E, f1 z⟩ : AS).putO o.dst p)) → DDoes P n N md g i o E
  | e0 {j : Nat} {f f1 : Option PBox → Sto} : g.ks[i]? = some (some (.ef j)) → o.dst = none → g.fs[j]? = some f → g.fs[j + 1]? = some f1 → (∀ C' z, AOp P C' n o ⟨E, f z⟩ ⟨E, f1 z⟩) → DDoes P n N md g i o E
  | ea {j a t off : Nat} {zb : PBox} {f f1 : Option PBox → Sto} : g.az = some (a, zb) → g.ks[i]? = some (some (.ef j)) → o.dst = none → g.fs[j]? = some f → g.fs[j + 1]? = some f1 → E.lookup t = some (.ptr N off) → (f none = badSto ∨ (f none).boxes.length = N) → (∀ C', AOp P C' n o ⟨E, f (some zb)⟩ ⟨E, f1 (some zb)⟩) → DDoes P n N md g i o E
  | al {zb : PBox} : md = true → g.az = some (i, zb) → g.ks[i]? = some (some .al) → g.outs[i]? = some (some (.ptr N 0)) → (∀ C' st, st.boxes.length = N → AOp P C' n o ⟨[], st⟩ ((⟨[], st.addBox zb⟩ : AS).putO o.dst (.ptr N 0))) → DDoes P n N md g i o E
inductive DFact (P : Program) (n N : Nat) (md : Bool) (l : List Oper) (e0 : List (Nat × PV)) (g : DD) (i : Nat) (o : Oper) : Prop
  | does {E : List (Nat × PV)} {I : List Nat} : WD l e0 g.outs i o true → g.ins[i]? = some I → (∀ t q, E.lookup t = some q → t ∈ I ∧ DSrc l e0 g.outs i t q) → DDoes P n N md g i o E → DFact P n N md l e0 g i o
  | skip : WD l e0 g.outs i o false → g.ks[i]? = some none → g.outs[i]? = some (some (.tup [])) → dstOk o.dst n = true → DFact P n N md l e0 g i o
structure DD.le (g g' : DD) : Prop where
  outs : ∀ (i : Nat) (x : Option PV), g.outs[i]? = some x → g'.outs[i]? = some x
  ks : ∀ (i : Nat) (x : Option DK), g.ks[i]? = some x → g'.ks[i]? = some x
  ins : ∀ (i : Nat) (x : List Nat), g.ins[i]? = some x → g'.ins[i]? = some x
  fs : ∀ (i : Nat) (x : Option PBox → Sto), g.fs[i]? = some x → g'.fs[i]? = some x
  rds : ∀ x ∈ g.rds, x ∈ g'.rds
  az : ∀ x, g.az = some x → g'.az = some x
theorem src_le {g g' : DD} (h : g.le g') {l : List Oper} {e0 : List (Nat × PV)} {i t : Nat} {p : PV} (k : DSrc l e0 g.outs i t p) : DSrc l e0 g'.outs i t p := by
  rcases k with ⟨j, o, h1, h2, h3, h4⟩ | k
  · exact .inl ⟨j, o, h1, h2, h3, h.outs _ _ h4⟩
  · exact .inr k
theorem want_le {g g' : DD} (h : g.le g') {l : List Oper} {e0 : List (Nat × PV)} {i : Nat} {o : Oper} {b : Bool} (k : WD l e0 g.outs i o b) : WD l e0 g'.outs i o b := by
  cases k with
  | n a => exact .n a
  | y a b c => exact .y a b (src_le h c)
  | u a b c => exact .u a b (src_le h c)
theorem DFact.mono {N : Nat} {md : Bool} {l : List Oper} {e0 : List (Nat × PV)} {g g' : DD} {i : Nat} {o : Oper} (h : g.le g') (k : DFact P n N md l e0 g i o) : DFact P n N md l e0 g' i o := by
  cases k with
  | does h1 h2 h3 h4 =>
    refine .does (want_le h h1) (h.ins _ _ h2) (fun t q ht => ⟨(h3 t q ht).1, src_le h (h3 t q ht).2⟩) ?_
    cases h4 with
    | q a b c => exact .q (h.ks _ _ a) (h.outs _ _ b) c
    | r a b c d e => exact .r (h.ks _ _ a) (h.outs _ _ b) (h.rds _ c) d e
    | c a b c d => exact .c (h.ks _ _ a) (h.outs _ _ b) (h.fs _ _ c) d
    | e a b c d e => exact .e (h.ks _ _ a) (h.outs _ _ b) (h.fs _ _ c) (h.fs _ _ d) e
    | e0 a b c d e => exact .e0 (h.ks _ _ a) b (h.fs _ _ c) (h.fs _ _ d) e
    | ea z a b c d e f q => exact .ea (h.az _ z) (h.ks _ _ a) b (h.fs _ _ c) (h.fs _ _ d) e f q
    | al md z a b c => exact .al md (h.az _ z) (h.ks _ _ a) (h.outs _ _ b) c
  | skip h1 h2 h3 h4 => exact .skip (want_le h h1) (h.ks _ _ h2) (h.outs _ _ h3) h4
structure DInv (P : Program) (n : Nat) (md : Bool) (l : List Oper) (s0 : AS) (g : DD) (s : AS) : Prop where
  hs0 : ∃ f, g.fs[0]? = some f ∧ f none = s0.st
  hfl : g.fs.length = g.effs.length + 1
  hlast : ∃ f, g.fs[g.effs.length]? = some f ∧ f g.cz = s.st ∧ (md = false → f = fun _ => s.st) ∧ (md = true → g.az = none → f = fun z => ab z s.st)
  hk : g.ks.length = g.outs.length
  hi : g.ins.length = g.outs.length
  hz : md = true → ∀ f ∈ g.fs, f none = badSto ∨ ((f none).boxes.length = s0.st.boxes.length ∧ ∀ z, f (some z) = (f none).addBox z)
  hm : md = false → g.az = none
  hlk : ∀ t p, s.lk t = some p → DSrc l s0.env g.outs g.outs.length t p
  hf : ∀ (i : Nat) (o : Oper), l[i]? = some o → i < g.outs.length → DFact P n s0.st.boxes.length md l s0.env g i o
def DW (P : Program) (C : Ctx) (n id : Nat) (md : Bool) (l : List Oper) (Q : Exit → AS → Prop) (s0 : AS) (g : DD) (s : AS) (rest : List Oper) : Prop :=
  DInv P n md l s0 g s → l.drop g.outs.length = rest → AWP P C n (.region id l.toArray true) Q s0

variable {id : Nat} {l : List Oper} {Q : Exit → AS → Prop} {s0 s : AS} {g : DD} {rest : List Oper} {md : Bool}
theorem dW (h : DW P C n id false l Q s ⟨[], [], [], [], [fun _ => s.st], [], none⟩ s l) : AWP P C n (.region id l.toArray true) Q s :=
  h ⟨⟨_, rfl, rfl⟩, rfl, ⟨_, rfl, rfl, fun _ => rfl, fun h => (by cases h)⟩, rfl, rfl, fun h => (by cases h), fun _ => rfl, fun t p ht => .inr ⟨ht, fun j o hj => (by cases hj)⟩, fun i o _ hi => (by cases hi)⟩ rfl
theorem snoc_get {α : Type} {l : List α} {y : α} (i : Nat) (x : α) (h : l[i]? = some x) : (l ++ [y])[i]? = some x := by
  obtain ⟨hi, -⟩ := List.getElem?_eq_some_iff.1 h
  rw [List.getElem?_append_left hi]
  exact h
theorem snoc_last {α : Type} {l : List α} {y : α} {k : Nat} (h : l.length = k) : (l ++ [y])[k]? = some y := by subst h; simp
theorem drop_at {o : Oper} (h : l.drop g.outs.length = o :: rest) : l[g.outs.length]? = some o ∧ l.drop (g.outs.length + 1) = rest := by
  constructor
  · have := congrArg (fun x => x[0]?) h
    simpa using this
  · rw [← List.drop_drop, h]
    rfl
/-- One operation more. -/
theorem DInv.next {g' : DD} {s' : AS} (hv : DInv P n md l s0 g s) (ho : l[g.outs.length]? = some o) (hle : g.le g') (h0 : g'.outs.length = g.outs.length + 1) (hk : g'.ks.length = g.ks.length + 1) (hi : g'.ins.length = g.ins.length + 1) (hfl : g'.fs.length = g'.effs.length + 1)
    (hlast : ∃ f, g'.fs[g'.effs.length]? = some f ∧ f g'.cz = s'.st ∧ (md = false → f = fun _ => s'.st) ∧ (md = true → g'.az = none → f = fun z => ab z s'.st)) (hz : md = true → ∀ f ∈ g'.fs, f none = badSto ∨ ((f none).boxes.length = s0.st.boxes.length ∧ ∀ z, f (some z) = (f none).addBox z)) (hm : md = false → g'.az = none)
    (hlk : ∀ t p, s'.lk t = some p → (o.dst = some t ∧ g'.outs[g.outs.length]? = some (some p)) ∨ (o.dst ≠ some t ∧ s.lk t = some p)) (hf : DFact P n s0.st.boxes.length md l s0.env g' g.outs.length o) : DInv P n md l s0 g' s' where
  hs0 := by obtain ⟨f, h1, h2⟩ := hv.hs0; exact ⟨f, hle.fs _ _ h1, h2⟩
  hfl := hfl
  hlast := hlast
  hk := by rw [hk, h0, hv.hk]
  hi := by rw [hi, h0, hv.hi]
  hz := hz
  hm := hm
  hlk := fun t p ht => by
    rcases hlk t p ht with ⟨h1, h2⟩ | ⟨h1, h2⟩
    · exact .inl ⟨_, o, by omega, ho, h1, h2⟩
    · rcases hv.hlk t p h2 with ⟨j, oj, a, b, c, d⟩ | ⟨a, b⟩
      · exact .inl ⟨j, oj, by omega, b, c, hle.outs _ _ d⟩
      · refine .inr ⟨a, fun j oj hj hoj => ?_⟩
        rcases Nat.lt_or_ge j g.outs.length with hlt | hge
        · exact b j oj hlt hoj
        · obtain rfl : j = g.outs.length := by omega
          rw [ho] at hoj
          cases hoj
          exact h1
  hf := fun i oi hoi hi' => by
    rcases Nat.lt_or_ge i g.outs.length with hlt | hge
    · exact (hv.hf i oi hoi hlt).mono hle
    · obtain rfl : i = g.outs.length := by omega
      rw [ho] at hoi
      cases hoi
      exact hf
theorem lk_next {st1 : Sto} {p : PV} (t : Nat) (q : PV) (outs : List (Option PV)) (k : Nat) (hk : outs[k]? = some (some p)) (h : ((⟨s.env, st1⟩ : AS).putO o.dst p).lk t = some q) : (o.dst = some t ∧ outs[k]? = some (some q)) ∨ (o.dst ≠ some t ∧ s.lk t = some q) := by
  cases hd : o.dst with
  | none => rw [hd] at h; exact .inr ⟨by simp, h⟩
  | some d =>
    rw [hd, lk_putO] at h
    by_cases htd : t = d
    · rw [if_pos htd] at h
      cases h
      exact .inl ⟨by rw [htd], hk⟩
    · rw [if_neg htd] at h
      exact .inr ⟨fun e => htd (Option.some.inj e).symm, h⟩
theorem st_putO (s : AS) (d : Option Nat) (p : PV) : (s.putO d p).st = s.st := by cases d <;> rfl
theorem WS.wd {g' : DD} {b : Bool} (h : WS l s o b) (hv : DInv P n md l s0 g s) (hle : g.le g') : WD l s0.env g'.outs g.outs.length o b := by
  cases h with
  | n a => exact .n a
  | y a b c => exact .y a b (src_le hle (hv.hlk _ _ c))
  | u a b c => exact .u a b (src_le hle (hv.hlk _ _ c))
theorem rs_src {g' : DD} (hv : DInv P n md l s0 g s) (hle : g.le g') (I : List Nat) : ∀ t q, (rs s I).lookup t = some q → t ∈ I ∧ DSrc l s0.env g'.outs g.outs.length t q := fun t q h => ⟨(rs_lk h).1, src_le hle (hv.hlk t q (rs_lk h).2)⟩

/-- An operation that does not look at the store. -/
theorem dI (I : List Nat) {p : PV} (h : ∀ {C' : Ctx} {st : Sto}, AOp P C' n o ⟨rs s I, st⟩ ((⟨rs s I, st⟩ : AS).putO o.dst p)) (k : DW P C n id md l Q s0 ⟨g.outs ++ [some p], g.ks ++ [none], g.ins ++ [I], g.effs, g.fs, g.rds, g.az⟩ (s.putO o.dst p) rest) (hg : WS l s o true := by exact .n rfl) :
    DW P C n id md l Q s0 g s (o :: rest) := fun hv hr => by
  obtain ⟨ho, hd⟩ := drop_at hr
  have hle : g.le ⟨g.outs ++ [some p], g.ks ++ [none], g.ins ++ [I], g.effs, g.fs, g.rds, g.az⟩ := ⟨snoc_get, snoc_get, snoc_get, fun _ _ h => h, fun _ h => h, fun _ h => h⟩
  refine k (hv.next ho hle (by simp) (by simp) (by simp) hv.hfl (by rw [st_putO]; exact hv.hlast) hv.hz hv.hm (fun t q hq => lk_next t q _ _ (snoc_last rfl) hq) ?_) (by simpa using hd)
  exact .does (hg.wd hv hle) (snoc_last hv.hi) (rs_src hv hle I) (.q (snoc_last hv.hk) (snoc_last rfl) fun _ _ => h)
/-- One that looks at the store as it stands. -/
theorem dD (I : List Nat) {p : PV} (h : ∀ {C' : Ctx}, AOp P C' n o ⟨rs s I, s.st⟩ ((⟨rs s I, s.st⟩ : AS).putO o.dst p)) (k : DW P C n id false l Q s0 ⟨g.outs ++ [some p], g.ks ++ [some (.q g.effs.length g.effs.length)], g.ins ++ [I], g.effs, g.fs, g.rds, g.az⟩ (s.putO o.dst p) rest) (hg : WS l s o true := by exact .n rfl) :
    DW P C n id false l Q s0 g s (o :: rest) := fun hv hr => by
  obtain ⟨ho, hd⟩ := drop_at hr
  obtain ⟨f, q1, -, q2, -⟩ := hv.hlast
  have q2 := q2 rfl
  subst q2
  have hle : g.le ⟨g.outs ++ [some p], g.ks ++ [some (.q g.effs.length g.effs.length)], g.ins ++ [I], g.effs, g.fs, g.rds, g.az⟩ := ⟨snoc_get, snoc_get, snoc_get, fun _ _ h => h, fun _ h => h, fun _ h => h⟩
  refine k (hv.next ho hle (by simp) (by simp) (by simp) hv.hfl (by rw [st_putO]; exact hv.hlast) hv.hz hv.hm (fun t q hq => lk_next t q _ _ (snoc_last rfl) hq) ?_) (by simpa using hd)
  exact .does (hg.wd hv hle) (snoc_last hv.hi) (rs_src hv hle I) (.c (snoc_last hv.hk) (snoc_last rfl) q1 fun _ _ => h)
/-- One that looks at a box. -/
def RdOp (P : Program) (n : Nat) (o : Oper) (s : AS) (I : List Nat) (kb : Nat) (X : Option (Option PBox)) (p : PV) : Prop := ∀ C' (st : Sto), st.boxes[kb]? = X → AOp P C' n o ⟨rs s I, st⟩ ((⟨rs s I, st⟩ : AS).putO o.dst p)
theorem dB (I : List Nat) (lo hi : Nat) {kb : Nat} {X : Option (Option PBox)} {p : PV} (h : RdOp P n o s I kb X p) (k : DW P C n id false l Q s0 ⟨g.outs ++ [some p], g.ks ++ [some (.q lo hi)], g.ins ++ [I], g.effs, g.fs, g.rds ++ [((lo, hi), kb, X)], g.az⟩ (s.putO o.dst p) rest) (hg : WS l s o true := by exact .n rfl) :
    DW P C n id false l Q s0 g s (o :: rest) := fun hv hr => by
  obtain ⟨ho, hd⟩ := drop_at hr
  have hle : g.le ⟨g.outs ++ [some p], g.ks ++ [some (.q lo hi)], g.ins ++ [I], g.effs, g.fs, g.rds ++ [((lo, hi), kb, X)], g.az⟩ := ⟨snoc_get, snoc_get, snoc_get, fun _ _ h => h, fun _ h => List.mem_append_left _ h, fun _ h => h⟩
  refine k (hv.next ho hle (by simp) (by simp) (by simp) hv.hfl (by rw [st_putO]; exact hv.hlast) hv.hz hv.hm (fun t q hq => lk_next t q _ _ (snoc_last rfl) hq) ?_) (by simpa using hd)
  exact .does (hg.wd hv hle) (snoc_last hv.hi) (rs_src hv hle I) (.r (snoc_last hv.hk) (snoc_last rfl) (by simp) (fun h => by cases h) h)
theorem vL1 {I : List Nat} {T : TypeId} {x : Operand} {kb d z : Nat} {bx : PBox} {p : PV} (hT : shapeOf P T = some (false, z))
    (ho : o.op = .load T x := by exact rfl) (hd : dstOk o.dst n = true := by exact rfl) (hx : (⟨rs s I, s.st⟩ : AS).ev x = some (.ptr kb d) := by exact rfl) (hb : s.st.boxes[kb]? = some (some bx) := by exact rfl) (hc : bx.cells[d]? = some p := by exact rfl) : RdOp P n o s I kb (some (some bx)) p :=
  fun C' st hst => AOp.loadPtr1 ho hd (by cases x <;> exact hx) hst hT hc
/-- One that changes the store. -/
theorem dE (I : List Nat) {p : PV} {st1 : Sto} (h : ∀ {C' : Ctx}, AOp P C' n o ⟨rs s I, s.st⟩ ((⟨rs s I, st1⟩ : AS).putO o.dst p)) (k : DW P C n id false l Q s0 ⟨g.outs ++ [some p], g.ks ++ [some (.ef g.effs.length)], g.ins ++ [I], g.effs ++ [g.outs.length], g.fs ++ [fun _ => st1], g.rds, g.az⟩ ((⟨s.env, st1⟩ : AS).putO o.dst p) rest) (hg : WS l s o true := by exact .n rfl) :
    DW P C n id false l Q s0 g s (o :: rest) := fun hv hr => by
  obtain ⟨ho, hd⟩ := drop_at hr
  obtain ⟨f, q1, -, q2, -⟩ := hv.hlast
  have q2 := q2 rfl
  subst q2
  have hle : g.le ⟨g.outs ++ [some p], g.ks ++ [some (.ef g.effs.length)], g.ins ++ [I], g.effs ++ [g.outs.length], g.fs ++ [fun _ => st1], g.rds, g.az⟩ := ⟨snoc_get, snoc_get, snoc_get, snoc_get, fun _ h => h, fun _ h => h⟩
  refine k (hv.next ho hle (by simp) (by simp) (by simp) (by simp [hv.hfl]) (by rw [st_putO]; exact ⟨_, snoc_last (by simp [hv.hfl]), rfl, fun _ => rfl, fun h => by cases h⟩) (fun h => by cases h) hv.hm (fun t q hq => lk_next t q _ _ (snoc_last rfl) hq) ?_) (by simpa using hd)
  exact .does (hg.wd hv hle) (snoc_last hv.hi) (rs_src hv hle I) (.e (snoc_last hv.hk) (snoc_last rfl) (hle.fs _ _ q1) (snoc_last hv.hfl) fun _ _ => h)
theorem dE0 (I : List Nat) {st1 : Sto} (h : ∀ {C' : Ctx}, AOp P C' n o ⟨rs s I, s.st⟩ ⟨rs s I, st1⟩) (k : DW P C n id false l Q s0 ⟨g.outs ++ [none], g.ks ++ [some (.ef g.effs.length)], g.ins ++ [I], g.effs ++ [g.outs.length], g.fs ++ [fun _ => st1], g.rds, g.az⟩ ⟨s.env, st1⟩ rest) (hn : o.dst = none := by exact rfl) (hg : WS l s o true := by exact .n rfl) :
    DW P C n id false l Q s0 g s (o :: rest) := fun hv hr => by
  obtain ⟨ho, hd⟩ := drop_at hr
  obtain ⟨f, q1, -, q2, -⟩ := hv.hlast
  have q2 := q2 rfl
  subst q2
  have hle : g.le ⟨g.outs ++ [none], g.ks ++ [some (.ef g.effs.length)], g.ins ++ [I], g.effs ++ [g.outs.length], g.fs ++ [fun _ => st1], g.rds, g.az⟩ := ⟨snoc_get, snoc_get, snoc_get, snoc_get, fun _ h => h, fun _ h => h⟩
  refine k (hv.next ho hle (by simp) (by simp) (by simp) (by simp [hv.hfl]) ⟨_, snoc_last (by simp [hv.hfl]), rfl, fun _ => rfl, fun h => by cases h⟩ (fun h => by cases h) hv.hm (fun t q hq => .inr ⟨by rw [hn]; simp, hq⟩) ?_) (by simpa using hd)
  exact .does (hg.wd hv hle) (snoc_last hv.hi) (rs_src hv hle I) (.e0 (snoc_last hv.hk) hn (hle.fs _ _ q1) (snoc_last hv.hfl) fun _ _ => h)
/-- One that is not wanted. -/
theorem dS  (k : DW P C n id md l Q s0 ⟨g.outs ++ [some (.tup [])], g.ks ++ [none], g.ins ++ [[]], g.effs, g.fs, g.rds, g.az⟩ (s.putO o.dst (.tup [])) rest) (hg : WS l s o false) (hd' : dstOk o.dst n = true) :
    DW P C n id md l Q s0 g s (o :: rest) := fun hv hr => by
  obtain ⟨ho, hd⟩ := drop_at hr
  have hle : g.le ⟨g.outs ++ [some (.tup [])], g.ks ++ [none], g.ins ++ [[]], g.effs, g.fs, g.rds, g.az⟩ := ⟨snoc_get, snoc_get, snoc_get, fun _ _ h => h, fun _ h => h, fun _ h => h⟩
  refine k (hv.next ho hle (by simp) (by simp) (by simp) hv.hfl (by rw [st_putO]; exact hv.hlast) hv.hz hv.hm (fun t q hq => lk_next t q _ _ (snoc_last rfl) hq) ?_) (by simpa using hd)
  exact .skip (hg.wd hv hle) (snoc_last hv.hk) (snoc_last rfl) hd'
theorem dSk {j d : Nat} {b c e : Bool} (hv : b = e) (k : DW P C n id md l Q s0 ⟨g.outs ++ [some (.tup [])], g.ks ++ [none], g.ins ++ [[]], g.effs, g.fs, g.rds, g.az⟩ (s.putO o.dst (.tup [])) rest) (hg : o.guard = some (j, c) := by exact rfl) (hj : (l[j]?).bind (·.dst) = some d := by exact rfl) (hb : s.lk d = some (.t (.leaf (.bool b))) := by exact rfl) (hne : (e == c) = false := by exact rfl) (hd' : dstOk o.dst n = true := by exact rfl) :
    DW P C n id md l Q s0 g s (o :: rest) := dS k (by subst hv; have := WS.y hg hj hb; rwa [hne] at this) hd'
/-- A guard whose value is known. -/
theorem wantT {j d : Nat} {b c : Bool} (hv : b = c) (hg : o.guard = some (j, c) := by exact rfl) (hj : (l[j]?).bind (·.dst) = some d := by exact rfl) (hb : s.lk d = some (.t (.leaf (.bool b))) := by exact rfl) : WS l s o true := by
  subst hv
  have := WS.y hg hj hb
  rwa [BEq.rfl] at this

theorem anc_lt {ops : Array Oper} (h : ∀ i o, ops[i]? = some o → ∀ e ∈ o.after, Region.binds .any e = true → e.on < i) : ∀ (fuel i j : Nat), ancOf ops fuel i j = true → i < j
  | 0, _, _, h' => by simp [ancOf] at h'
  | fuel + 1, i, j, h' => by
    simp only [ancOf] at h'
    split at h'
    · rename_i o ho
      rw [List.any_eq_true] at h'
      obtain ⟨e, he, h'⟩ := h'
      simp only [Bool.and_eq_true, Bool.or_eq_true, beq_iff_eq] at h'
      have h1 := h j o ho e (by simpa using he) h'.1
      rcases h'.2 with h2 | h2
      · omega
      · have := anc_lt h fuel i e.on h2
        omega
    · cases h'
def srcOf (l : List Oper) (i t : Nat) : Option Nat := match writerOf l.toArray t with
  | some j => if j < i then some j else none
  | none => none
def DD.draw (g : DD) (l : List Oper) (s0 : AS) : Draw where
  ops := l.toArray
  env0 := s0.env
  F := fun j b => match g.fs[j]? with
    | some f => f (bif b then g.cz else none)
    | none => ab (bif b then g.cz else none) s0.st
  out := fun i => (g.outs[i]?).getD none
  kind := fun i => match g.ks[i]? with
    | some (some k) => k
    | _ => .q 0 g.effs.length
  effs := g.effs
  alloc := g.az.map (·.1)
  ins := fun i => ((g.ins[i]?).getD []).map fun t => (t, srcOf l i t)
def rdGot (fs : List (Option PBox → Sto)) (z : Option PBox) (x : (Nat × Nat) × Nat × Option (Option PBox)) : List (Option (Option (Option PBox))) := (List.range' x.1.1 (x.1.2 + 1 - x.1.1)).map fun j => (fs[j]?).map fun f => (f z).boxes[x.2.1]?
def rdAsk (x : (Nat × Nat) × Nat × Option (Option PBox)) : List (Option (Option (Option PBox))) := (List.range' x.1.1 (x.1.2 + 1 - x.1.1)).map fun _ => some x.2.2
theorem writer_at (hn : nodupDst l.toArray = true) {j t : Nat} (ho : l[j]? = some o) (hd : o.dst = some t) : writerOf l.toArray t = some j := nodup_writer hn (by simpa using ho) hd
theorem rd_of {fs : List (Option PBox → Sto)} {z : Option PBox} {rds : List ((Nat × Nat) × Nat × Option (Option PBox))} (h : rds.map (rdGot fs z) = rds.map rdAsk) {lo hi kb j : Nat} {X : Option (Option PBox)} (hm : ((lo, hi), kb, X) ∈ rds) (h1 : lo ≤ j) (h2 : j ≤ hi) {f : Option PBox → Sto} (hs : fs[j]? = some f) : (f z).boxes[kb]? = X := by
  have e := List.map_inj_left.1 h _ hm
  unfold rdGot rdAsk at e
  have := List.map_inj_left.1 e j (by simp [List.mem_range']; exact ⟨j - lo, by omega, by omega⟩)
  simpa [hs] using this
/-- All operations have been told. -/
theorem dN (h : Q .normal s) (hm : P.follows .mixedOrders = true := by exact mixed) (hok : (g.draw l s0).ok = true := by kernel_rfl) (hrd : g.rds.map (rdGot g.fs g.cz) = g.rds.map rdAsk := by kernel_rfl) : DW P C n id md l Q s0 g s [] := fun hv hr => by
  have hlen : l.length ≤ g.outs.length := by
    have := congrArg List.length hr
    simp at this
    omega
  have hok' := hok
  simp only [Draw.ok, Bool.and_eq_true] at hok'
  have hn : nodupDst l.toArray = true := hok'.1.1.1.2
  -- where a value comes from
  have hpv : ∀ i t q, DSrc l s0.env g.outs i t q → (g.draw l s0).pv (t, srcOf l i t) = some q := fun i t q hs => by
    rcases hs with ⟨j, oj, h1, h2, h3, h4⟩ | ⟨h1, h2⟩
    · have hw := writer_at hn h2 h3
      unfold srcOf
      rw [hw]
      dsimp only
      rw [if_pos h1]
      show (g.outs[j]?).getD none = some q
      rw [h4]
      rfl
    · have hw : srcOf l i t = none := by
        unfold srcOf
        split
        · rename_i j hj
          obtain ⟨-, oj, h3, h4⟩ := writerOf_spec hj
          split
          · rename_i hji
            exact absurd h4 (h2 j oj hji (by simpa using h3))
          · rfl
        · rfl
      rw [hw]
      exact h1
  have hF : ∀ {j : Nat} {f : Option PBox → Sto}, g.fs[j]? = some f → ∀ b, (g.draw l s0).F j b = f (bif b then g.cz else none) := fun {j f} hj b => by show (match g.fs[j]? with | some f => f (bif b then g.cz else none) | none => ab (bif b then g.cz else none) s0.st) = _; rw [hj]
  have hK : ∀ {i : Nat} {k : DK}, g.ks[i]? = some (some k) → (g.draw l s0).kind i = k := fun {i k} hk => by show (match g.ks[i]? with | some (some k) => k | _ => .q 0 g.effs.length) = _; rw [hk]
  have hK0 : ∀ {i : Nat}, g.ks[i]? = some none → (g.draw l s0).kind i = .q 0 g.effs.length := fun {i} hk => by show (match g.ks[i]? with | some (some k) => k | _ => DK.q 0 g.effs.length) = _; rw [hk]
  have hout : ∀ {i : Nat} {p : PV}, g.outs[i]? = some (some p) → (g.draw l s0).out i = some p := fun hp => by show (g.outs[_]?).getD none = _; rw [hp]; rfl
  have hops := hok'.1.1.1.1
  rw [List.all_eq_true] at hops
  have hgs : ∀ (i : Nat) (o : Oper) (j d : Nat) (c : Bool) (p : PV), l[i]? = some o → o.guard = some (j, c) → (l[j]?).bind (·.dst) = some d → DSrc l s0.env g.outs i d p → (g.draw l s0).out j = some p := fun i o j d c p ho hg hj hs => by
    obtain ⟨oj, hoj, hdj⟩ : ∃ oj, l[j]? = some oj ∧ oj.dst = some d := by
      cases hx : l[j]? with
      | none => rw [hx] at hj; cases hj
      | some oj => rw [hx] at hj; exact ⟨oj, rfl, hj⟩
    have hw := writer_at hn hoj hdj
    rcases hs with ⟨j', oj', h1, h2, h3, h4⟩ | ⟨h1, h2⟩
    · have hw' := writer_at hn h2 h3
      rw [hw] at hw'
      cases hw'
      exact hout h4
    · have hil := (List.getElem?_eq_some_iff.1 ho).1
      have h5 := hops i (by simpa [DD.draw] using hil)
      have ho' : (g.draw l s0).ops[i]? = some o := by simpa [DD.draw] using ho
      simp only [Draw.okOp, ho', hg, Bool.and_eq_true] at h5
      have h6 : (g.draw l s0).anc j i = true := h5.2.1
      have := anc_lt (fun i' o' ho' e he hb => by
        have hil' := (Array.getElem?_eq_some_iff.1 ho').1
        have h7 := hops i' (by simpa using hil')
        simp only [Draw.okOp, ho', Bool.and_eq_true, Array.all_eq_true'] at h7
        have h3 := h7.1 e he
        simpa [hb] using h3) _ _ _ h6
      exact absurd hdj (h2 j oj this hoj)
  have hwant : ∀ {i : Nat} {o : Oper} {b : Bool}, l[i]? = some o → WD l s0.env g.outs i o b → (g.draw l s0).want o = some b := fun {i o b} ho hw => by
    unfold Draw.want
    cases hw with
    | n a => rw [a]
    | y a b c => rw [a]; dsimp only; rw [hgs _ _ _ _ _ _ ho a b c]
    | u a b c => rw [a]; dsimp only; rw [hgs _ _ _ _ _ _ ho a b c]
  have hstep : ∀ i o, (g.draw l s0).ops[i]? = some o → (g.draw l s0).step P C n i o := fun i o ho => by
    have ho' : l[i]? = some o := by simpa [DD.draw] using ho
    obtain ⟨hil, -⟩ := List.getElem?_eq_some_iff.1 ho'
    cases hv.hf i o ho' (by omega) with
    | does h1 h2 h3 h4 =>
      rename_i E I
      refine .inl ⟨hwant ho' h1, ?_⟩
      have hl : ∀ s' : AS, (∀ t src p, (t, src) ∈ (g.draw l s0).ins i → (g.draw l s0).pv (t, src) = some p → s'.lk t = some p) → ∀ t q, E.lookup t = some q → s'.lk t = some q := fun s' hl t q ht => by
        obtain ⟨h5, h6⟩ := h3 t q ht
        refine hl t (srcOf l i t) q ?_ (hpv i t q h6)
        show (t, srcOf l i t) ∈ ((g.ins[i]?).getD []).map _
        rw [h2]
        exact List.mem_map.2 ⟨t, h5, rfl⟩
      unfold Draw.does
      cases h4 with
      | q a b c =>
        rw [hK0 a]
        exact fun s' j bb _ _ hs hin => ⟨_, hout b, AOp.frame (st := s'.st) (fun C' => c C' s'.st) rfl (hl s' hin)⟩
      | r a b c kN d =>
        rename_i lo hi kb X p
        have hk := hK a
        rw [hk]
        intro s' j bb q1 q2 hs hin
        have hjl : hi < g.fs.length := by
          have := hok'.1.1.2
          rw [List.all_eq_true] at this
          have := this i (by simpa [DD.draw] using hil)
          simp only [Bool.and_eq_true, Draw.okKind, hk] at this
          have h9 := this.1.1.1.1.1.2
          simp only [decide_eq_true_eq] at h9
          have h10 : hi ≤ g.effs.length := h9
          rw [hv.hfl]
          omega
        obtain ⟨f, hst⟩ : ∃ f, g.fs[j]? = some f := ⟨_, List.getElem?_eq_getElem (by omega)⟩
        have hX := rd_of hrd c q1 q2 hst
        rw [hF hst] at hs
        have hcase : s'.st = f g.cz ∨ (md = true ∧ s'.st = f none) := by
          cases bb with
          | true => exact .inl hs
          | false =>
            cases md with
            | true => exact .inr ⟨rfl, hs⟩
            | false =>
              have : g.cz = none := by unfold DD.cz; rw [hv.hm rfl]; rfl
              rw [this]
              exact .inl hs
        rcases hcase with hs | ⟨hmd, hs⟩
        · exact ⟨_, hout b, AOp.frame (st := s'.st) (fun C' => d C' s'.st (by rw [hs]; exact hX)) rfl (hl s' hin)⟩
        · rcases hv.hz hmd f (List.mem_iff_getElem?.2 ⟨_, hst⟩) with h9 | ⟨h9, h10⟩
          · exact ⟨_, hout b, AOp.bad (by rw [hs, h9])⟩
          · refine ⟨_, hout b, AOp.frame (st := s'.st) (fun C' => d C' s'.st ?_) rfl (hl s' hin)⟩
            rw [hs, ← hX]
            cases hz : g.cz with
            | none => rfl
            | some z =>
              rw [h10 z]
              show _ = ((f none).boxes ++ [some z])[kb]?
              rw [List.getElem?_append_left (by rw [h9]; exact kN hmd)]
      | c a b c d =>
        rename_i j f p
        rw [hK a]
        refine fun s' jj bb q1 q2 hs hin => ⟨_, hout b, ?_⟩
        obtain rfl : jj = j := by omega
        exact AOp.frame (st := s'.st) (fun C' => by rw [hs, hF c]; exact d C' _) rfl (hl s' hin)
      | e a b c d e =>
        rename_i j f f1 p
        rw [hK a]
        refine fun s' bb hs hin => .inl ⟨_, hout b, ?_⟩
        rw [hF d]
        exact AOp.frame (fun C' => e C' _) (by rw [hs, hF c]) (hl s' hin)
      | e0 a b c d e =>
        rename_i j f f1
        rw [hK a]
        refine fun s' bb hs hin => .inr ⟨b, ?_⟩
        rw [hF d]
        exact AOp.frame0 b (fun C' => e C' _) (by rw [hs, hF c]) (hl s' hin)
      | ea z a b c d e f q =>
        rename_i j a' t off zb f0 f1
        have hcz : g.cz = some zb := by unfold DD.cz; rw [z]; rfl
        rw [hK a]
        refine fun s' bb hs hin => .inr ⟨b, ?_⟩
        rw [hF d]
        rw [hF c] at hs
        cases bb with
        | true =>
          rw [hcz] at hs ⊢
          exact AOp.frame0 b q hs (hl s' hin)
        | false =>
          rcases f with f | f
          · exact AOp.bad (hs.trans f)
          · refine AOp.away (hl s' hin t _ e) ?_
            rw [hs]
            show (f0 none).boxes[_]? = none
            rw [List.getElem?_eq_none (by rw [f]; exact Nat.le_refl _)]
      | al hmd z a b c =>
        rename_i zb
        have hcz : g.cz = some zb := by unfold DD.cz; rw [z]; rfl
        rw [hK a]
        refine fun s' j hs => ⟨_, hout b, ?_⟩
        have key : s'.st = badSto ∨ (s'.st.boxes.length = s0.st.boxes.length ∧ (g.draw l s0).F j true = s'.st.addBox zb) := by
          cases hj : g.fs[j]? with
          | none =>
            have h8 : ∀ b, (g.draw l s0).F j b = ab (bif b then g.cz else none) s0.st := fun b => by show (match g.fs[j]? with | some f => f (bif b then g.cz else none) | none => ab (bif b then g.cz else none) s0.st) = _; rw [hj]
            rw [h8] at hs ⊢
            refine .inr ⟨by rw [hs]; rfl, ?_⟩
            rw [hs, hcz]
            rfl
          | some f =>
            rw [hF hj] at hs ⊢
            rcases hv.hz hmd f (List.mem_iff_getElem?.2 ⟨_, hj⟩) with h9 | ⟨h9, h10⟩
            · exact .inl (hs.trans h9)
            · refine .inr ⟨by rw [hs]; exact h9, ?_⟩
              rw [hs, hcz]
              exact h10 zb
        rcases key with h9 | ⟨h9, h10⟩
        · exact AOp.bad h9
        · rw [h10]
          exact AOp.frame (E := []) (fun C' => c C' s'.st h9) rfl (fun t q h => by cases h)
    | skip h1 h2 h3 h4 => exact .inr ⟨hwant ho' h1, ⟨_, _, hK0 h2⟩, .inr ⟨hout h3, h4⟩⟩
  intro m a w hra
  refine wp_mono (AWP.drawn (g.draw l s0) (Q := fun e s' => e = .normal ∧ s' = ⟨((List.range (g.draw l s0).ops.size).filterMap ((g.draw l s0).gX (Array.replicate (g.draw l s0).ops.size true))) ++ (g.draw l s0).env0, (g.draw l s0).F (g.draw l s0).effs.length (g.draw l s0).alloc.isSome⟩) hm hok rfl (by obtain ⟨f, h1, h2⟩ := hv.hs0; rw [hF h1]; exact h2.symm) hstep ⟨rfl, rfl⟩ m a w hra) fun e a' w' => ?_; rintro ⟨s', m', ⟨rfl, rfl⟩, h2⟩
  obtain ⟨f, q1, q2, -, -⟩ := hv.hlast
  refine ⟨s, m', h, RA.congr h2 ((hF q1 _).trans (Eq.trans (by cases ha : g.az with | none => (show f (bif (g.az.map (·.1)).isSome then g.cz else none) = f g.cz; unfold DD.cz; rw [ha]; rfl) | some x => (show f (bif (g.az.map (·.1)).isSome then g.cz else none) = f g.cz; unfold DD.cz; rw [ha]; rfl)) q2)) fun t p ht => ?_⟩
  show ((g.draw l s0).sX (Array.replicate (g.draw l s0).ops.size true)).lk t = some p
  rcases hv.hlk t p ht with ⟨j, oj, h1, h3, h4, h5⟩ | ⟨h1, h3⟩
  · have hjl : j < l.length := (List.getElem?_eq_some_iff.1 h3).1
    exact lkX_in hn (i := j) (o := oj) (by have : j < (g.draw l s0).ops.size := (by simpa [DD.draw] using hjl); simp [Array.getD_eq_getD_getElem?, this]) (by simpa [DD.draw] using h3) h4 (hout h5)
  · rw [lkX_out hn fun i hi => ?_]
    · exact h1
    · obtain ⟨hil, oi, h6, h7⟩ := writerOf_spec hi
      exact absurd h7 (h3 i oi (by have : i < l.length := (by simpa [DD.draw] using hil); omega) (by simpa [DD.draw] using h6))
end
end Go.Proofs.YtmpepccpnnldoaaDoor

namespace Go.Proofs.YtmpepccpnnldoaaDoor

instance : TC GInstanceRef := ⟨GInstanceRef.cs, GInstanceRef.trs, 2, GInstanceRef.trs_at, GInstanceRef.trs_len, fun l => by rw [GInstanceRef.trs_map]; exact List.map_congr_left fun x _ => GInstanceRef.tr_cs x, fun _ => rfl⟩
instance : TC GEvidence := ⟨GEvidence.cs, GEvidence.trs, 5, GEvidence.trs_at, GEvidence.trs_len, fun l => by rw [GEvidence.trs_map]; exact List.map_congr_left fun x _ => GEvidence.tr_cs x, fun _ => rfl⟩
abbrev rEvidence (l : List GEvidence) : PV := .t (.row 5 (GEvidence.trs l))
abbrev aEvidence (l : List GEvidence) (r : Nat) : PV := .acc 5 (GEvidence.trs l) r
end Go.Proofs.YtmpepccpnnldoaaDoor

namespace Go.Proofs.YtmpepccpnnldoaaDoor

abbrev s_ : ByteArray := ⟨#[]⟩
abbrev s_0 : ByteArray := ⟨#[48]⟩
abbrev x_2d : ByteArray := ⟨#[45]⟩
end Go.Proofs.YtmpepccpnnldoaaDoor

namespace Go.Proofs.YtmpepccpnnldoaaDoor
set_option linter.unusedSimpArgs false
set_option linter.unusedVariables false
open Go.RowKit Go.WalkArith Go.IntWalk Go.WideShapes

def toU8 (a : Int) : UInt8 := UInt8.ofNat (a % 256).toNat
theorem wrap_u8 (a : Int) : IntKind.wrap .u8 a = ((toU8 a).toNat : Int) := by
  unfold toU8 IntKind.wrap
  simp [IntKind.bits, IntKind.signed]
  omega
def bytesStr (l : List UInt8) : ByteArray := ⟨l.toArray⟩
theorem bytesStr_size (l : List UInt8) : (bytesStr l).size = l.length := by simp [bytesStr, ByteArray.size]
theorem bytesStr_nums (l : List UInt8) : strOfNums (l.map fun b => (b.toNat : Int)) = bytesStr l := by
  unfold strOfNums bytesStr
  congr 2
  rw [List.map_map]
  conv => rhs; rw [← List.map_id l]
  apply List.map_congr_left
  intro b _
  simp
section
variable {P : Program} {C : Ctx} {n : Nat} {s : AS} {o : Oper}
theorem AOp.quoI {T yT : TypeId} {x y : Operand} {a b : Int} (ho : o.op = .binOp .quo T x y yT) (hd : dstOk o.dst n = true) (hx : s.ev x = some (.t (.leaf (.int .i64 a)))) (hy : s.ev y = some (.t (.leaf (.int .i64 b)))) (hb : b ≠ 0) :
    AOp P C n o s (s.putO o.dst (.t (.leaf (.int .i64 (wrap64 (a.tdiv b)))))) := AOp.bin ho hd hx hy (fun w => by simp [eqGuard, binOp, Op.intDiv, hb, wrap64]) (wf_wrap .i64 _)
theorem AOp.remI {T yT : TypeId} {x y : Operand} {a b : Int} (ho : o.op = .binOp .rem T x y yT) (hd : dstOk o.dst n = true) (hx : s.ev x = some (.t (.leaf (.int .i64 a)))) (hy : s.ev y = some (.t (.leaf (.int .i64 b)))) (hb : b ≠ 0) :
    AOp P C n o s (s.putO o.dst (.t (.leaf (.int .i64 (a.tmod b))))) :=
  AOp.quiet (dstOk_lt hd) fun m ac w h => by
    obtain ⟨h1, h3⟩ := RepM.leaf_eq (h.eval hx)
    have h2 := (RepM.leaf_eq (h.eval hy)).1
    have h4 : -9223372036854775808 ≤ a ∧ a ≤ 9223372036854775807 := by
      have h5 : (Lit.int .i64 a).wf = true := h3
      simpa [Lit.wf, IntKind.min, IntKind.max, IntKind.bits, IntKind.signed] using h5
    have h6 : (a.tmod b).natAbs ≤ a.natAbs := by rw [Int.natAbs_tmod]; exact Nat.mod_le _ _
    have h7 : 0 ≤ a → 0 ≤ a.tmod b := fun h => Int.tmod_nonneg b h
    have h8 : a ≤ 0 → a.tmod b ≤ 0 := fun h => by have := Int.tmod_nonneg b (show 0 ≤ -a by omega); rw [Int.neg_tmod] at this; omega
    refine ⟨.int .i64 (a.tmod b), ?_, RepM.leaf (wf_i64 (by omega))⟩
    unfold execOp
    simp [ho, h1, h2, eqGuard, binOp, Op.intDiv, hb]
theorem AOp.convU8 {S T : TypeId} {x : Operand} {k : IntKind} {a : Int} (ho : o.op = .convert S T x) (hd : dstOk o.dst n = true) (hx : s.ev x = some (.t (.leaf (.int k a)))) (hS : ∃ k', P.underlying S = some (.int k')) (hT : P.underlying T = some (.int .u8)) :
    AOp P C n o s (s.putO o.dst (.t (.leaf (.int .u8 ((toU8 a).toNat : Int))))) :=
  AOp.quiet (dstOk_lt hd) fun m ac w h => ⟨.int .u8 ((toU8 a).toNat : Int), by
    have h3 := (RepM.leaf_eq (h.eval hx)).1
    obtain ⟨k', hS⟩ := hS
    unfold execOp
    simp [ho, h3, convert, run_underlying hS, run_underlying hT, Conv.intToInt, wrap_u8], RepM.leaf (by rw [← wrap_u8]; exact wf_wrap .u8 a)⟩
theorem AOp.bytesStr {S T e : TypeId} {x : Operand} {p : PV} {l : List UInt8} (ho : o.op = .convert S T x) (hd : dstOk o.dst n = true) (hx : s.ev x = some p) (hp : rowOf p = some (1, byteTrs l)) (hS : P.underlying S = some (.slice e)) (he : P.underlying e = some (.int .u8)) (hT : P.underlying T = some .string) :
    AOp P C n o s (s.putO o.dst (.t (.leaf (.string (bytesStr l))))) :=
  AOp.quiet (dstOk_lt hd) fun m ac w h => by
    have h1 := rowOf_rv hp (h.eval hx)
    obtain ⟨a0, cap0, hv0, hl0, hm0⟩ := h1.shape
    rw [byteTrs_len] at hl0
    have hsz : LeafOk (.string (Go.Proofs.YtmpepccpnnldoaaDoor.bytesStr l)) := by show (Go.Proofs.YtmpepccpnnldoaaDoor.bytesStr l).size ≤ maxLen; rw [bytesStr_size]; omega
    refine ⟨.string (Go.Proofs.YtmpepccpnnldoaaDoor.bytesStr l), ?_, RepM.leaf hsz⟩
    generalize hv : ac.eval x = v at *
    cases h1 with
    | row c q1 q2 q3 q4 =>
      have keyAll : ∀ (a : Option Addr) (cap : Nat) (q3 : byteTrs l ≠ [] → ∃ b off, a = some ⟨b, off, none⟩ ∧ b < w.heap.size ∧ ∀ (i : Nat) (e : List Tr), (byteTrs l)[i]? = some e → ∀ (j : Nat) (d : Tr), e[j]? = some d → okA C.av s.st m b (off + i * 1 + j) ∧ w.cell? ⟨b, off + i * 1 + j, none⟩ = some (c i j)), (convert S T (.slice a (byteTrs l).length cap)).run P w = .ok (.string (Go.Proofs.YtmpepccpnnldoaaDoor.bytesStr l)) w := fun a cap q3 => by
        by_cases hne : l = []
        · subst hne
          have hlen : (byteTrs []).length = 0 := rfl
          rw [hlen]
          cases a with
          | none => exact run_convert_bytes_nil (P := P) w S e hS he 0 cap T hT
          | some a =>
            obtain ⟨b, off, sp⟩ := a
            have hld : (loadCells ⟨b, off, sp⟩ 0).run P w = .ok (([] : List Int).map (Value.int .u8)).toArray w := by simp [loadCells, loadCellsFrom]
            rw [run_convert_bytes_string w S T e _ 0 cap hS he hT, run_bytesToString w _ 0 cap [] hld]
            rfl
        · obtain ⟨b, off, ha, hb, hc⟩ := q3 (by intro h0; apply hne; have := congrArg List.length h0; rw [byteTrs_len] at this; exact List.eq_nil_of_length_eq_zero this)
          subst ha
          have := run_convert_bytes_arg (P := P) w S e hS he b off (byteTrs l).length cap (l.map fun b => (b.toNat : Int)) (by simp [byteTrs_len]) (fun i hi => by
            rw [byteTrs_len] at hi
            have h4 := (hc i _ (byteTrs_cs hi) 0 (.leaf (.int .u8 ((l[i]).toNat : Int))) rfl).2
            have h5 := (q4 i _ (byteTrs_cs hi) 0 (.leaf (.int .u8 ((l[i]).toNat : Int))) rfl).rep.leaf_eq.1
            rw [Nat.mul_one, Nat.add_zero] at h4
            rw [h4, h5]
            simp [hi]) T hT
          rw [bytesStr_nums] at this
          exact this
      unfold execOp
      simp only [ho, hv]
      rw [Sem.run_bind, keyAll _ _ q3]
      rfl
end
end Go.Proofs.YtmpepccpnnldoaaDoor

namespace Go.Proofs.YtmpepccpnnldoaaDoor
set_option maxRecDepth 100000
set_option maxHeartbeats 40000000
noncomputable section
open Go.RowKit Go.Proofs
set_option linter.unusedSimpArgs false
set_option linter.unusedVariables false

attribute [local irreducible] lt

def sFormatInt_T (m : Int → Option ByteArray) : Prop := ∀ (pn : Int) (r : ByteArray), m pn = some r → AFun Tryd.prog 36 [pI pn] (pS r : PV)
def sFormatInt_F1 (fu : Nat) (pn : Int) : (Int × ByteArray) → Option (LR (Int × ByteArray) ByteArray) :=
 fun (v2, v3) => sw (!decide ((v2 : Int) = 0))
 (sw (decide (((v2).tmod 10 : Int) < 0))
 (gd ((bytesStr ([(toU8 (wrap64 (48 + (wrap64 (0 - ((v2).tmod 10))))))] : List UInt8)).size + (v3).size ≤ 1099511627776)
 (some (.next ((wrap64 ((v2).tdiv 10)), ((bytesStr ([(toU8 (wrap64 (48 + (wrap64 (0 - ((v2).tmod 10))))))] : List UInt8)) ++ v3)))))
 (gd ((bytesStr ([(toU8 (wrap64 (48 + ((v2).tmod 10))))] : List UInt8)).size + (v3).size ≤ 1099511627776)
 (some (.next ((wrap64 ((v2).tdiv 10)), ((bytesStr ([(toU8 (wrap64 (48 + ((v2).tmod 10))))] : List UInt8)) ++ v3))))))
 (some (.brk (v2, v3)))
def sFormatInt_R1 (fu : Nat) (pn : Int) : Option (ByteArray ⊕ (Int × ByteArray)) :=
 loopW (sFormatInt_F1 fu pn) fu (pn, s_)
def sFormatInt_M (fu : Nat) (pn : Int) : Option ByteArray :=
 sw (decide ((pn : Int) = 0))
 (some s_0)
 (so (sFormatInt_R1 fu pn) (fun (v2, v3) =>
 sw (decide ((pn : Int) < 0))
 (gd ((x_2d).size + (v3).size ≤ 1099511627776)
 (some (x_2d ++ v3)))
 (some v3)))
theorem sFormatInt_ok (fu : Nat)   : sFormatInt_T (sFormatInt_M fu) := by
  intro pn r H
  have H := hd0 H
  refine qI Tryd.func36 (fun C hC => ?_)
  refine qS (qR (q1 rMv (qN ?_)))
  iterate 2 refine qS ?_
  refine qR (q1 rMv (q1 rEq (qN ?_)))
  refine cndB H (fun h1 H => ?_) (fun h1 H => ?_)
  · refine qS (qR (q1 rMv (qN (AWP.ret ?_))))
    obtain rfl : _ = r := (smI H :)
    exact qe1
  refine AWP.skip (qS (qR (q1 rMv (q1 rLt (q1 rMv (qN (qS (qR (q1 rMv (qN (qS ?_)))))))))))
  refine loopV (σ := Int × ByteArray) (fun (v2, v3) => ⟨[(0, pI v2), (2, pS s_), (3, pB (decide ((pn : Int) < 0))), (4, pS v3)], ⟨[], []⟩⟩) (fun (v2, v3) => ⟨[(2, pS s_), (3, pB (decide ((pn : Int) < 0))), (4, pS v3)], ⟨[], []⟩⟩) (soI H) ?_ ?_
  · rintro k4 ⟨v2, v3⟩ H
    iterate 2 refine qS ?_
    refine qR (q1 rMv (q1 rNe (qN ?_)))
    refine cndB H (fun h5 H => ?_) (fun h5 H => ?_)
    · refine AWP.skip (AWP.block (qS (qR (q1 rMv (q1 (AOp.remI (a := v2) (b := 10) rfl rfl rfl rfl (by decide)) (q1 rMv (qN ?_)))))))
      iterate 2 refine qS ?_
      refine qR (q1 rMv (q1 rLt (qN ?_)))
      refine cndB H (fun h6 H => ?_) (fun h6 H => ?_)
      · refine qR (q1 rMv (q1 rSw (q1 rMv (qN (qS (qR (q1 rMv (q1 rAw (q1 (AOp.convU8 (a := wrap64 (48 + (wrap64 (0 - ((v2).tmod 10))))) rfl rfl rfl ⟨_, Tryd.underlying3⟩ Tryd.underlying5) (q1 (rBs ([(toU8 (wrap64 (48 + (wrap64 (0 - ((v2).tmod 10))))))] : List UInt8) el36 zr5) (q1 (AOp.bytesStr rfl rfl rfl rfl Tryd.underlying36 Tryd.underlying5 Tryd.underlying9) (q1 rMv (gdE H fun z7 H => ?_)))))))))))))
        refine q1 (AOp.addS rfl rfl rfl rfl (Nat.le_trans z7 (by decide))) (q1 rMv (qN (qR (q1 rMv (q1 (AOp.quoI (a := v2) (b := 10) rfl rfl rfl rfl (by decide)) (q1 rMv (qN ?_)))))))
        exact lwN ⟨_, (smI H :), wkA⟩
      refine AWP.skip (qS (qR (q1 rMv (q1 rAw (q1 (AOp.convU8 (a := wrap64 (48 + ((v2).tmod 10))) rfl rfl rfl ⟨_, Tryd.underlying3⟩ Tryd.underlying5) (q1 (rBs ([(toU8 (wrap64 (48 + ((v2).tmod 10))))] : List UInt8) el36 zr5) (q1 (AOp.bytesStr rfl rfl rfl rfl Tryd.underlying36 Tryd.underlying5 Tryd.underlying9) (q1 rMv (gdE H fun z8 H => (q1 (AOp.addS rfl rfl rfl rfl (Nat.le_trans z8 (by decide))) (q1 rMv (qN (qR ?_)))))))))))))
      refine q1 rMv (q1 (AOp.quoI (a := v2) (b := 10) rfl rfl rfl rfl (by decide)) (q1 rMv (qN ?_)))
      exact lwN ⟨_, (smI H :), wkA⟩
    refine AWP.exit ?_; exact lwB ⟨_, (smI H :), wkA⟩
  rintro ⟨v2, v3⟩ H
  iterate 2 refine qS ?_
  refine qR (q1 rMv (qN ?_))
  refine cndB H (fun h9 H => ?_) (fun h9 H => ?_)
  · refine qS (qR (q1 rMv (gdE H fun z10 H => (q1 (AOp.addS rfl rfl rfl rfl (Nat.le_trans z10 (by decide))) (q1 rMv (qN (AWP.ret ?_)))))))
    obtain rfl : _ = r := (smI H :)
    exact qe1
  refine AWP.skip (qS (qR ?_))
  iterate 2 refine q1 rMv ?_
  refine qN (AWP.ret ?_)
  obtain rfl : _ = r := (smI H :)
  exact qe1

end
end Go.Proofs.YtmpepccpnnldoaaDoor

namespace Go.Proofs.YtmpepccpnnldoaaDoor
set_option maxRecDepth 100000
set_option maxHeartbeats 40000000
noncomputable section
open Go.RowKit Go.Proofs
set_option linter.unusedSimpArgs false
set_option linter.unusedVariables false

attribute [local irreducible] lt

abbrev sl24Ev_Y := DS → Int → Option (GEvidence × DS)
def sl24Ev_T (m : sl24Ev_Y) : Prop := ∀ (pc : DS) (pdeep : Int) (r : GEvidence × DS), m pc pdeep = some r → AOwn Tryd.prog 38 [.ptr 0 0, pI pdeep] ⟨[some ⟨58, dC pc⟩], []⟩ [some ⟨58, dC r.2⟩] 32 5 (GEvidence.trs (r.1.gArgs)) (fun k => .agg [pI r.1.gKind, pI r.1.gN, pI r.1.gAt.gPackage, pI r.1.gAt.gAt, aEvidence r.1.gArgs k])
def sl24Ev_C1 (fu : Nat) (r_sl24Ev : sl24Ev_Y) (pc : DS) (pdeep : Int) (d1 : DS) : Option ((GEvidence × DS) ⊕ Int) :=
 sw (decide ((pdeep : Int) ≤ 0))
 (some (.inr 1))
 (some (.inr ((pc.below 6 : Nat) : Int)))
def sl24Ev_C2 (fu : Nat) (r_sl24Ev : sl24Ev_Y) (pc : DS) (pdeep : Int) (d1 : DS) (v3 : Int) : Option ((GEvidence × DS) ⊕ Bool) :=
 sw (decide ((v3 : Int) = 0))
 (some (.inr (decide ((v3 : Int) = 0))))
 (some (.inr (decide ((v3 : Int) = 4))))
def sl24Ev_F3 (fu : Nat) (r_sl24Ev : sl24Ev_Y) (pc : DS) (pdeep : Int) (d1 : DS) (v3 : Int) (v5 : Bool) (d8 d10 d12 : DS) : Nat → ((List GEvidence) × DS) → Option (LR ((List GEvidence) × DS) (GEvidence × DS)) :=
 fun i14 (v17, v15) => bd (r_sl24Ev v15 (wrap64 (pdeep - 1))) (fun (x21, x22) =>
 gd ((v17).length + (([(GEvidence.mk x21.gKind x21.gN x21.gAt x21.gArgs)] : List GEvidence)).length ≤ 68719476736)
 (some (.next ((v17 ++ ([(GEvidence.mk x21.gKind x21.gN x21.gAt x21.gArgs)] : List GEvidence)), x22))))
def sl24Ev_R3 (fu : Nat) (r_sl24Ev : sl24Ev_Y) (pc : DS) (pdeep : Int) (d1 : DS) (v3 : Int) (v5 : Bool) (d8 d10 d12 : DS) : Option ((GEvidence × DS) ⊕ ((List GEvidence) × DS)) :=
 loopN (sl24Ev_F3 fu r_sl24Ev pc pdeep d1 v3 v5 d8 d10 d12) (d10.below 3 - 0) 0 (([]), d12)
def sl24Ev_G (fu : Nat) (r_sl24Ev : sl24Ev_Y) (pc : DS) (pdeep : Int) : Option (GEvidence × DS) :=
 lt (pc.after 6) (fun d1 =>
 so (sl24Ev_C1 fu r_sl24Ev pc pdeep d1) (fun v3 =>
 so (sl24Ev_C2 fu r_sl24Ev pc pdeep d1 v3) (fun v5 =>
 sw (v5)
 (lt (d1.after 2) (fun d8 =>
 lt (d8.after 8) (fun d10 =>
 lt (d10.after 3) (fun d12 =>
 so (sl24Ev_R3 fu r_sl24Ev pc pdeep d1 v3 v5 d8 d10 d12) (fun (v17, v15) =>
 some ((GEvidence.mk 1 0 (GInstanceRef.mk ((d1.below 2 : Nat) : Int) ((d8.below 8 : Nat) : Int)) v17), v15))))))
 (sw (decide ((v3 : Int) = 2))
 (lt (d1.after 2) (fun d25 =>
 bd (r_sl24Ev d25 (wrap64 (pdeep - 1))) (fun (x28, x29) =>
 some ((GEvidence.mk 3 ((d1.below 2 : Nat) : Int) (GInstanceRef.mk 0 0) ([(GEvidence.mk x28.gKind x28.gN x28.gAt x28.gArgs)] : List GEvidence)), x29))))
 (sw (decide ((v3 : Int) = 3))
 (some ((GEvidence.mk 4 0 (GInstanceRef.mk 0 0) []), d1))
 (sw (decide ((v3 : Int) = 5))
 (some ((GEvidence.mk 5 0 (GInstanceRef.mk 0 0) []), d1))
 (lt (d1.after 3) (fun d32 =>
 some ((GEvidence.mk 2 ((d1.below 3 : Nat) : Int) (GInstanceRef.mk 0 0) []), d32)))))))))
theorem sl24Ev_step (fu : Nat) (r_sl24Ev : sl24Ev_Y) (h_sl24Ev : sl24Ev_T r_sl24Ev) : sl24Ev_T (sl24Ev_G fu r_sl24Ev) := by
  intro pc pdeep r H
  unfold AOwn
  have H := hd0 H
  refine qI Tryd.func38 (fun C hC => ?_)
  refine qS (qR (q1 (rAl zr32) (qN (qS (qR (q1 rMv (ltQ H fun d1 h2 H => (q1 (rCp [0] [] Tryd.func29 (nmD h2 (below_ok pc 6))) (q1 rMv (qN (qS ?_)))))))))))
  refine cutB (σ := Int) (fun v3 => ⟨[(0, .ptr 0 0), (1, pI pdeep), (4, .ptr 1 0), (5, pI v3)], ⟨[some ⟨58, dC d1⟩, some ⟨32, [pI 0, pI 0, pI 0, pI 0, .nil]⟩], []⟩⟩) (soI H) (fun H => ?_) ?_
  · refine qS (qR (q1 rMv (q1 rLe (qN ?_))))
    refine cndB H (fun h4 H => ?_) (fun h4 H => ?_)
    · refine qR (q1 rMv (qN ?_))
      exact cutX ⟨_, (smI H :), wkA⟩
    refine AWP.skip ?_; exact cutX ⟨_, (smI H :), wkA⟩
  rintro v3 H
  iterate 2 refine qS ?_
  refine qR (q1 rMv (qN (AWP.block (qS ?_))))
  refine cutB (σ := Bool) (fun v5 => ⟨[(0, .ptr 0 0), (1, pI pdeep), (4, .ptr 1 0), (13, pI v3), (14, pB v5)], ⟨[some ⟨58, dC d1⟩, some ⟨32, [pI 0, pI 0, pI 0, pI 0, .nil]⟩], []⟩⟩) (soI H) (fun H => ?_) ?_
  · refine qS (qR (q1 rEq (q1 rMv (qN ?_))))
    refine cndB H (fun h6 H => ?_) (fun h6 H => ?_)
    · refine AWP.skip ?_; exact cutX ⟨_, (smI H :), wkA⟩
    refine qR (q1 rEq (q1 rMv (qN ?_)))
    exact cutX ⟨_, (smI H :), wkA⟩
  rintro v5 H
  refine cndB H (fun h7 H => ?_) (fun h7 H => ?_)
  · refine qS (qR (q1 rMv (ltQ H fun d8 h9 H => (q1 (rCp [0] [] Tryd.func29 (nmD h9 (below_ok d1 2))) (q1 rMv (ltQ H fun d10 h11 H => (q1 (rCp [0] [] Tryd.func29 (nmD h11 (below_ok d8 8))) (q1 (rBd zr29 pl29) (q1 (rBd zr32 pl32) (q1 (rAl zr32) (q1 (rSu sz32) (qN (qS ?_)))))))))))))
    refine qR (q1 rMv (ltQ H fun d12 h13 H => (q1 (rCp [0] [] Tryd.func29 (nmD h13 (below_ok d10 3))) (q1 rMv (qN ?_)))))
    iterate 2 refine qS ?_
    refine qR (q1 rMv (qN (AWP.wk (Wk.regBox (k := 2) (j := 4) 32 5 (by decide) rfl rfl) ?_)))
    have hb18 := DS.below_lt (d := d10) (n := 3) (by decide)
    refine loopB (σ := (List GEvidence) × DS) (fun i14 (v17, v15) => ⟨[(0, .ptr 0 0), (1, pI pdeep), (4, .ptr 1 0), (6, .ptr 2 0), (7, pN (d10.below 3)), (8, pN i14)], ⟨[some ⟨58, dC v15⟩, some ⟨32, [pI 0, pI 0, pI 0, pI 0, .nil]⟩, some ⟨32, [pI 1, pI 0, pN (d1.below 2), pN (d8.below 8), aEvidence v17 0]⟩], [⟨32, 5, GEvidence.trs (v17), false⟩]⟩⟩) (fun (v17, v15) => ⟨[(0, .ptr 0 0), (4, .ptr 1 0), (6, .ptr 2 0)], ⟨[some ⟨58, dC v15⟩, some ⟨32, [pI 0, pI 0, pI 0, pI 0, .nil]⟩, some ⟨32, [pI 1, pI 0, pN (d1.below 2), pN (d8.below 8), aEvidence v17 0]⟩], [⟨32, 5, GEvidence.trs (v17), false⟩]⟩⟩) (soI H) ?_ ?_
    · rintro i14 ⟨v17, v15⟩ H
      iterate 2 refine qS ?_
      refine qR ?_
      iterate 2 refine q1 rMv ?_
      refine q1 rLt (qN ?_)
      refine cndL H (fun h19 h19l H => ?_) (fun h19 H => ?_)
      · have h19n : i14 < d10.below 3 := by have := of_decide_eq_true h19; omega
        refine AWP.skip (qS (AWP.block (bdE2 H fun x21 x22 z20 H => (gdE H fun z23 H => (dW (dI [6] (rFp fo32_3) (dB [30] 0 2 (vL1 sh30) (dI [0] rMv (dI [1] rMv (dI [33] rSw (dE [32, 34] (AOp.callOwn (pre := ⟨[some ⟨58, dC v15⟩], []⟩) (B := [some ⟨58, dC x22⟩]) (R := fun k => .agg [pI x21.gKind, pI x21.gN, pI x21.gAt.gPackage, pI x21.gAt.gAt, aEvidence x21.gArgs k]) (ps := [_, _]) (qs := [.ptr 0 0, pI (wrap64 (pdeep - 1))]) [0] rfl rfl Tryd.func38 (by kernel_rfl) rfl rfl rfl (Part0.of ⟨⟨_, rfl, rfl, leA, rfl⟩, trivial⟩ trivial (by decide) (by decide)) rfl leA rfl rfl rfl (fun k k' => (.agg (.cons (.free _ rfl) (.cons (.free _ rfl) (.cons (.free _ rfl) (.cons (.free _ rfl) (.cons Mv.acc MvL.nil))))))) (h_sl24Ev v15 (wrap64 (pdeep - 1)) _ z20)) (dE [35] (rBa ([(GEvidence.mk x21.gKind x21.gN x21.gAt x21.gArgs)] : List GEvidence) el30 zr32) (dE [31, 36] (rAp z23 el30 ze30) ?_)))))))))))))
        refine dI [6] (rFp fo32_3) (dE0 [38, 37] (rSu sz30) (dN (qR (q1 rMv (q1 (AOp.addI rfl rfl rfl rfl (c := ((i14 + 1 : Nat) : Int)) (by omega) (by omega)) (q1 rMv (qN ?_)))))))
        exact lpN h19l ⟨_, (smI H :), wkA⟩
      refine AWP.exit ?_; exact lpX ⟨_, H, wkA⟩
    rintro ⟨v17, v15⟩ H
    refine qS (qR (q1 (rLp [pI 1, pI 0, pN (d1.below 2), pN (d8.below 8), aEvidence v17 0] sh32) (q1 (rSu sz32) (qN (AWP.ret ?_)))))
    obtain rfl : _ = r := (smI H :)
    exact qe1 (st' := ⟨[some ⟨58, dC v15⟩], [⟨32, 5, GEvidence.trs (v17), false⟩]⟩) ⟨0, rfl, rfl, rfl⟩ (hr := ⟨⟨_, _, _, rfl, rfl, sh32, rfl, rfl⟩, trivial⟩)
  refine qS (qR (q1 rEq (q1 rMv (qN ?_))))
  refine cndB H (fun h24 H => ?_) (fun h24 H => ?_)
  · refine qS (qR (q1 rMv (ltQ H fun d25 h26 H => (q1 (rCp [0] [] Tryd.func29 (nmD h26 (below_ok d1 2))) ?_))))
    iterate 2 refine q1 rMv ?_
    refine q1 rSw (bdE2 H fun x28 x29 z27 H => (q1 (AOp.callOwn (pre := ⟨[some ⟨58, dC d25⟩], []⟩) (B := [some ⟨58, dC x29⟩]) (R := fun k => .agg [pI x28.gKind, pI x28.gN, pI x28.gAt.gPackage, pI x28.gAt.gAt, aEvidence x28.gArgs k]) (ps := [_, _]) (qs := [.ptr 0 0, pI (wrap64 (pdeep - 1))]) [0] rfl rfl Tryd.func38 (by kernel_rfl) rfl rfl rfl (Part0.of ⟨⟨_, rfl, rfl, leA, rfl⟩, trivial⟩ trivial (by decide) (by decide)) rfl leA rfl rfl rfl (fun k k' => (.agg (.cons (.free _ rfl) (.cons (.free _ rfl) (.cons (.free _ rfl) (.cons (.free _ rfl) (.cons Mv.acc MvL.nil))))))) (h_sl24Ev d25 (wrap64 (pdeep - 1)) _ z27)) (q1 (rBa ([(GEvidence.mk x28.gKind x28.gN x28.gAt x28.gArgs)] : List GEvidence) el30 zr32) (q1 (rBd zr32 pl32) (q1 (rSu sz32) (qN (AWP.ret ?_)))))))
    obtain rfl : _ = r := (smI H :)
    exact qe1 (st' := ⟨[some ⟨58, dC x29⟩], [⟨32, 5, GEvidence.trs (x28.gArgs), false⟩, ⟨32, 5, GEvidence.trs (([(GEvidence.mk x28.gKind x28.gN x28.gAt x28.gArgs)] : List GEvidence)), false⟩]⟩) ⟨1, rfl, rfl, rfl⟩ (hr := ⟨⟨_, _, _, rfl, rfl, sh32, rfl, rfl⟩, trivial⟩)
  refine qS (qR (q1 rEq (q1 rMv (qN ?_))))
  refine cndB H (fun h30 H => ?_) (fun h30 H => ?_)
  · refine qS (qR (q1 (rBd zr32 pl32) (q1 (rSu sz32) (qN (AWP.wk (Wk.regBox (k := 1) (j := 4) 32 5 (by decide) rfl rfl) (AWP.ret ?_))))))
    obtain rfl : _ = r := (smI H :)
    exact qe1 (st' := ⟨[some ⟨58, dC d1⟩], [⟨32, 5, GEvidence.trs ([]), false⟩]⟩) ⟨0, rfl, rfl, rfl⟩ (hr := ⟨⟨_, _, _, rfl, rfl, sh32, rfl, rfl⟩, trivial⟩)
  refine qS (qR (q1 rEq (q1 rMv (qN ?_))))
  refine cndB H (fun h31 H => ?_) (fun h31 H => ?_)
  · refine qS (qR (q1 (rBd zr32 pl32) (q1 (rSu sz32) (qN (AWP.wk (Wk.regBox (k := 1) (j := 4) 32 5 (by decide) rfl rfl) (AWP.ret ?_))))))
    obtain rfl : _ = r := (smI H :)
    exact qe1 (st' := ⟨[some ⟨58, dC d1⟩], [⟨32, 5, GEvidence.trs ([]), false⟩]⟩) ⟨0, rfl, rfl, rfl⟩ (hr := ⟨⟨_, _, _, rfl, rfl, sh32, rfl, rfl⟩, trivial⟩)
  refine AWP.skip (qS (qR (q1 rMv (ltQ H fun d32 h33 H => (q1 (rCp [0] [] Tryd.func29 (nmD h33 (below_ok d1 3))) (q1 (rBd zr32 pl32) (q1 (rSu sz32) (qN (AWP.wk (Wk.regBox (k := 1) (j := 4) 32 5 (by decide) rfl rfl) (AWP.ret ?_))))))))))
  obtain rfl : _ = r := (smI H :)
  exact qe1 (st' := ⟨[some ⟨58, dC d32⟩], [⟨32, 5, GEvidence.trs ([]), false⟩]⟩) ⟨0, rfl, rfl, rfl⟩ (hr := ⟨⟨_, _, _, rfl, rfl, sh32, rfl, rfl⟩, trivial⟩)
def sl24Ev_M : Nat → DS → Int → Option (GEvidence × DS)
  | 0, _, _ => none
  | fu + 1, pc, pdeep => sl24Ev_G fu (sl24Ev_M fu) pc pdeep
theorem sl24Ev_all (fu : Nat) : sl24Ev_T (sl24Ev_M fu) := by
  induction fu with
  | zero => exact (fun pc pdeep r H => by simp only [sl24Ev_M] at H; cases H)
  | succ fu ih => exact (fun pc pdeep r H => by simp only [sl24Ev_M] at H; exact sl24Ev_step fu (sl24Ev_M fu) ih pc pdeep r H)
theorem sl24Ev_ok (fu : Nat) : sl24Ev_T (sl24Ev_M fu) := (sl24Ev_all fu)

def sl1PickInt_T (m : DS → (List Int) → Option (Int × DS)) : Prop := ∀ (pc : DS) (plist : List Int) (r : Int × DS), m pc plist = some r → ACalls Tryd.prog 39 [.ptr 0 0, rI plist] ⟨[some ⟨58, dC pc⟩], []⟩ (fun q t => q = (pI r.1 : PV) ∧ t = ⟨[some ⟨58, dC r.2⟩], []⟩)
def sl1PickInt_M (fu : Nat) (pc : DS) (plist : List Int) : Option (Int × DS) :=
 lt (pc.after plist.length) (fun d1 =>
 gd (pc.below plist.length < (plist).length)
 (some ((atD plist (pc.below plist.length)), d1)))
theorem sl1PickInt_ok (fu : Nat)   : sl1PickInt_T (sl1PickInt_M fu) := by
  intro pc plist r H
  have H := hd0 H
  refine qI Tryd.func39 (fun C hC => ?_)
  refine qS (qR (q1 rMv (qN (qS (qR ?_)))))
  iterate 3 refine q1 rMv ?_
  refine q1 (rLn el38 (intTrs_len _)) (ltQ H fun d1 h2 H => (q1 (rCp [0] [] Tryd.func29 (nmD h2 (below_ok pc plist.length))) (gdE H fun z3 H => (q1 (rIx z3 el38) (q1 (rK1 sh3) (q1 rMv (qN (AWP.ret ?_))))))))
  obtain rfl : _ = r := (smI H :)
  exact qe1

def sl24Bent_T (m : DS → Option (GEvidence × DS)) : Prop := ∀ (pc : DS) (r : GEvidence × DS), m pc = some r → ACalls Tryd.prog 28 [.ptr 0 0] ⟨[some ⟨58, dC pc⟩], []⟩ (fun q t => q = ((GEvidence.pv r.1) : PV) ∧ t = ⟨[some ⟨58, dC r.2⟩], []⟩)
def sl24Bent_F1 (fu : Nat) (pc : DS) (x2 : GEvidence) (x3 d4 : DS) : Nat → ((List GEvidence)) → Option (LR ((List GEvidence)) (GEvidence × DS)) :=
 fun i18 v20 => gd ((v20).length + (([(GEvidence.mk 2 0 (GInstanceRef.mk 0 0) [])] : List GEvidence)).length ≤ 68719476736)
 (some (.next (v20 ++ ([(GEvidence.mk 2 0 (GInstanceRef.mk 0 0) [])] : List GEvidence))))
def sl24Bent_R1 (fu : Nat) (pc : DS) (x2 : GEvidence) (x3 d4 : DS) : Option ((GEvidence × DS) ⊕ ((List GEvidence))) :=
 loopN (sl24Bent_F1 fu pc x2 x3 d4) (4 - 0) 0 x2.gArgs
def sl24Bent_M (fu : Nat) (pc : DS) : Option (GEvidence × DS) :=
 bd (sl24Ev_M fu pc 3) (fun (x2, x3) =>
 lt (x3.after 10) (fun d4 =>
 sw (decide ((((x3.below 10 : Nat) : Int) : Int) = 0))
 (lt (d4.after 8) (fun d7 =>
 some ((GEvidence.mk (wrap64 (((d4.below 8 : Nat) : Int) - 1)) x2.gN x2.gAt x2.gArgs), d7)))
 (sw (decide ((((x3.below 10 : Nat) : Int) : Int) = 1))
 (bd (sl1PickInt_M fu d4 ([(-1), 0, 5] : List Int)) (fun (x11, x12) =>
 some ((GEvidence.mk x2.gKind x11 x2.gAt x2.gArgs), x12)))
 (sw (decide ((((x3.below 10 : Nat) : Int) : Int) = 2))
 (bd (sl1PickInt_M fu d4 ([(-1), 1] : List Int)) (fun (x15, x16) =>
 some ((GEvidence.mk x2.gKind x2.gN (GInstanceRef.mk x15 x2.gAt.gAt) x2.gArgs), x16)))
 (sw (decide ((((x3.below 10 : Nat) : Int) : Int) = 3))
 (so (sl24Bent_R1 fu pc x2 x3 d4) (fun v20 =>
 some ((GEvidence.mk x2.gKind x2.gN x2.gAt v20), d4)))
 (some ((GEvidence.mk x2.gKind x2.gN x2.gAt x2.gArgs), d4)))))))
theorem sl24Bent_ok (fu : Nat)   : sl24Bent_T (sl24Bent_M fu) := by
  intro pc r H
  have H := hd0 H
  refine qI Tryd.func28 (fun C hC => ?_)
  refine qS (qR (q1 (rAl zr32) (qN (qS (qR (q1 rMv (bdE2 H fun x2 x3 z1 H => (q1 (AOp.callOwn (pre := ⟨[some ⟨58, dC pc⟩], []⟩) (B := [some ⟨58, dC x3⟩]) (R := fun k => .agg [pI x2.gKind, pI x2.gN, pI x2.gAt.gPackage, pI x2.gAt.gAt, aEvidence x2.gArgs k]) (ps := [_, _]) (qs := [.ptr 0 0, pI 3]) [0] rfl rfl Tryd.func38 (by kernel_rfl) rfl rfl rfl (Part0.of ⟨⟨_, rfl, rfl, leA, rfl⟩, trivial⟩ trivial (by decide) (by decide)) rfl leA rfl rfl rfl (fun k k' => (.agg (.cons (.free _ rfl) (.cons (.free _ rfl) (.cons (.free _ rfl) (.cons (.free _ rfl) (.cons Mv.acc MvL.nil))))))) (sl24Ev_ok fu pc 3 _ z1)) (q1 (rAl zr32) (q1 (rSu sz32) (qN ?_)))))))))))
  iterate 2 refine qS ?_
  refine qR (q1 rMv (ltQ H fun d4 h5 H => (q1 (rCp [0] [] Tryd.func29 (nmD h5 (below_ok x3 10))) (qN (AWP.block (qS (qR (q1 rEq (q1 rMv (qN ?_))))))))))
  refine cndB H (fun h6 H => ?_) (fun h6 H => ?_)
  · refine qR (q1 rMv (ltQ H fun d7 h8 H => (q1 (rCp [0] [] Tryd.func29 (nmD h8 (below_ok d4 8))) (q1 rSw (q1 (rFp fo32_0) (q1 (rSu sz3) (qN (qS (qR (q1 (rLp [pI (wrap64 (((d4.below 8 : Nat) : Int) - 1)), pI x2.gN, pI x2.gAt.gPackage, pI x2.gAt.gAt, aEvidence x2.gArgs 0] sh32) (q1 (rSu sz32) (qN (AWP.ret ?_)))))))))))))
    obtain rfl : _ = r := (smI H :)
    exact qe1 (hr := ⟨⟨_, _, _, rfl, rfl, sh32, rfl, rfl⟩, trivial⟩)
  refine qS (qR (q1 rEq (q1 rMv (qN ?_))))
  refine cndB H (fun h9 H => ?_) (fun h9 H => ?_)
  · refine qR (q1 rMv (q1 (rBs ([(-1), 0, 5] : List Int) el38 zr3) (bdE2 H fun x11 x12 z10 H => (q1 (rCp [0] [] Tryd.func39 (sl1PickInt_ok fu d4 ([(-1), 0, 5] : List Int) _ z10)) (q1 (rFp fo32_1) (q1 (rSu sz3) (qN (qS (qR (q1 (rLp [pI x2.gKind, pI x11, pI x2.gAt.gPackage, pI x2.gAt.gAt, aEvidence x2.gArgs 0] sh32) (q1 (rSu sz32) (qN (AWP.ret ?_)))))))))))))
    obtain rfl : _ = r := (smI H :)
    exact qe1 (hr := ⟨⟨_, _, _, rfl, rfl, sh32, rfl, rfl⟩, trivial⟩)
  refine qS (qR (q1 rEq (q1 rMv (qN ?_))))
  refine cndB H (fun h13 H => ?_) (fun h13 H => ?_)
  · refine qR (q1 rMv (q1 (rBs ([(-1), 1] : List Int) el38 zr3) (bdE2 H fun x15 x16 z14 H => (q1 (rCp [0] [] Tryd.func39 (sl1PickInt_ok fu d4 ([(-1), 1] : List Int) _ z14)) (q1 (rFp fo32_2) (q1 (rFp fo29_0) (q1 (rSu sz3) (qN (qS (qR (q1 (rLp [pI x2.gKind, pI x2.gN, pI x15, pI x2.gAt.gAt, aEvidence x2.gArgs 0] sh32) (q1 (rSu sz32) (qN ?_)))))))))))))
    refine AWP.ret ?_
    obtain rfl : _ = r := (smI H :)
    exact qe1 (hr := ⟨⟨_, _, _, rfl, rfl, sh32, rfl, rfl⟩, trivial⟩)
  refine qS (qR (q1 rEq (q1 rMv (qN ?_))))
  refine cndB H (fun h17 H => ?_) (fun h17 H => ?_)
  · refine qS (qR (q1 rMv (qN ?_)))
    refine loopB (σ := (List GEvidence)) (fun i18 v20 => ⟨[(2, .ptr 1 0), (3, .ptr 2 0), (4, pN i18)], ⟨[some ⟨58, dC d4⟩, some ⟨32, [pI 0, pI 0, pI 0, pI 0, .nil]⟩, some ⟨32, [pI x2.gKind, pI x2.gN, pI x2.gAt.gPackage, pI x2.gAt.gAt, aEvidence v20 0]⟩], [⟨32, 5, GEvidence.trs (v20), false⟩]⟩⟩) (fun v20 => ⟨[(2, .ptr 1 0), (3, .ptr 2 0)], ⟨[some ⟨58, dC d4⟩, some ⟨32, [pI 0, pI 0, pI 0, pI 0, .nil]⟩, some ⟨32, [pI x2.gKind, pI x2.gN, pI x2.gAt.gPackage, pI x2.gAt.gAt, aEvidence v20 0]⟩], [⟨32, 5, GEvidence.trs (v20), false⟩]⟩⟩) (soI H) ?_ ?_
    · rintro i18 v20 H
      iterate 2 refine qS ?_
      refine qR (q1 rMv (q1 rLt (qN ?_)))
      refine cndL H (fun h21 h21l H => ?_) (fun h21 H => ?_)
      · have h21n : i18 < 4 := by have := of_decide_eq_true h21; omega
        refine AWP.skip (qS (AWP.block (qR (q1 (rFp fo32_3) (q1 (rL1 sh30) (q1 (rBd zr32 pl32) (q1 (rBs ([(GEvidence.mk 2 0 (GInstanceRef.mk 0 0) [])] : List GEvidence) el30 zr32) (gdE H fun z22 H => (q1 (rAp z22 el30 ze30) (q1 (rFp fo32_3) (q1 (rSu sz30) (qN (qR ?_)))))))))))))
        refine q1 rMv (q1 (AOp.addI rfl rfl rfl rfl (c := ((i18 + 1 : Nat) : Int)) (by omega) (by omega)) (q1 rMv (qN ?_)))
        exact lpN h21l ⟨_, (smI H :), wkA⟩
      refine AWP.exit ?_; exact lpX ⟨_, H, wkA⟩
    rintro v20 H
    refine qS (qR (q1 (rLp [pI x2.gKind, pI x2.gN, pI x2.gAt.gPackage, pI x2.gAt.gAt, aEvidence v20 0] sh32) (q1 (rSu sz32) (qN (AWP.ret ?_)))))
    obtain rfl : _ = r := (smI H :)
    exact qe1 (hr := ⟨⟨_, _, _, rfl, rfl, sh32, rfl, rfl⟩, trivial⟩)
  refine AWP.skip (qS (qR (q1 (rLp [pI x2.gKind, pI x2.gN, pI x2.gAt.gPackage, pI x2.gAt.gAt, aEvidence x2.gArgs 0] sh32) (q1 (rSu sz32) (qN (AWP.ret ?_))))))
  obtain rfl : _ = r := (smI H :)
  exact qe1 (hr := ⟨⟨_, _, _, rfl, rfl, sh32, rfl, rfl⟩, trivial⟩)

end
end Go.Proofs.YtmpepccpnnldoaaDoor

namespace Go.Proofs.YtmpepccpnnldoaaDoor
open Go.RowKit Go.Proofs

def ToC (f : FuncId) (ts : List Tr) : Prop := ∀ (cs : List Value) (w : World), RepL w ts cs → Tr.bulkL ts ≤ 68719476736 →
  Calls Tryd.prog f #[.agg ⟨cs⟩] w fun e w' => ∃ cs', e = .returned (.agg ⟨cs'⟩) ∧ Ext w w' ∧ OwnL w' ts cs' (Between w w')
def ToSC (f : FuncId) (sz : Nat) (es : List (List Tr)) : Prop := ∀ (s : Value) (w : World), Rep w (.row sz es) s → es.length + Tr.bulkAll es ≤ 68719476736 →
  Calls Tryd.prog f #[s] w fun e w' => ∃ s', e = .returned s' ∧ Ext w w' ∧ Own w' (.row sz es) s' (Between w w')
theorem isz30 : (Tryd.prog.info? 30).map (·.size) = some 1 := by kernel_rfl
theorem isz32 : (Tryd.prog.info? 32).map (·.size) = some 5 := by kernel_rfl
theorem iszb32 : (Tryd.prog.info? 32).map (fun i => (i.zero.isSome, i.size, i.bytes)) = some (true, 5, 56) := by kernel_rfl
theorem iszc32 : (Tryd.prog.info? 32).map (fun i => (i.zero.map (fun z => z.cells.size), i.size, i.bytes)) = some (some 5, 5, 56) := by kernel_rfl
end Go.Proofs.YtmpepccpnnldoaaDoor

namespace Go.Proofs.YtmpepccpnnldoaaDoor

def eqL {α : Type} (p : α → α → Bool) : List α → List α → Bool
  | [], [] => true
  | a :: l, b :: r => p a b && eqL p l r
  | _, _ => false
theorem eqL_len {α : Type} {p : α → α → Bool} : ∀ {l r : List α}, l.length ≠ r.length → eqL p l r = false
  | [], [], h => absurd rfl h
  | [], _ :: _, _ => rfl
  | _ :: _, [], _ => rfl
  | a :: l, b :: r, h => by simp [eqL, eqL_len (l := l) (r := r) (by simpa using h)]
theorem eqL_step {α : Type} {p : α → α → Bool} {l r : List α} {k : Nat} (h : k < l.length) (h' : k < r.length) : eqL p (l.drop k) (r.drop k) = (p l[k] r[k] && eqL p (l.drop (k + 1)) (r.drop (k + 1))) := by
  rw [List.drop_eq_getElem_cons h, List.drop_eq_getElem_cons h', eqL]
theorem eqL_end {α : Type} {p : α → α → Bool} {l r : List α} (h : l.length = r.length) : eqL p (l.drop l.length) (r.drop l.length) = true := by
  rw [List.drop_length, h, List.drop_length, eqL]

/-- The index of the first element that meets p, counted from i; -1 if there is none. -/
def idxL {α : Type} (p : α → Bool) : List α → Nat → Int
  | [], _ => -1
  | a :: l, i => if p a then i else idxL p l (i + 1)
theorem idxL_step {α : Type} {p : α → Bool} {l : List α} {k : Nat} (h : k < l.length) : idxL p (l.drop k) k = if p l[k] then (k : Int) else idxL p (l.drop (k + 1)) (k + 1) := by
  rw [List.drop_eq_getElem_cons h, idxL]
theorem idxL_any {α : Type} {p : α → Bool} : ∀ (l : List α) (i : Nat), decide (0 ≤ idxL p l i) = l.any p
  | [], i => by simp [idxL]
  | a :: l, i => by
    unfold idxL
    by_cases h : p a
    · simp [h]
    · simp [h, idxL_any l (i + 1)]
end Go.Proofs.YtmpepccpnnldoaaDoor

namespace Go.Proofs.YtmpepccpnnldoaaDoor
open Go.RowKit Go.Proofs


set_option maxRecDepth 100000 in
set_option maxHeartbeats 1000000 in
theorem same_31 {α : Type} (tr : α → List Tr) (p : α → α → Bool) (xs ys : List α) (hl : ∀ x, (tr x).length = 5)
    (H : ∀ x ∈ xs, ∀ y ∈ ys, ∀ cs ds w, RepL w (tr x) cs → RepL w (tr y) ds → Calls Tryd.prog 13 #[.agg ⟨cs⟩, .agg ⟨ds⟩] w fun e w' => e = .returned (.bool (p x y)) ∧ Ext w w')
    (s u : Value) (w : World) (hs : Rep w (.row 5 (xs.map tr)) s) (hu : Rep w (.row 5 (ys.map tr)) u) :
    Calls Tryd.prog 31 #[s, u] w fun e w' => e = .returned (.bool (eqL p xs ys)) ∧ Ext w w' := by
  obtain ⟨a, cap, rfl, hlc, hm⟩ := hs.shape
  obtain ⟨a', cap', rfl, hlc', hm'⟩ := hu.shape
  unfold maxLen at hm hm'
  rw [List.length_map] at hlc hlc' ⊢
  rw [List.length_map] at *
  by_cases hlen : xs.length = ys.length
  · have HS := Lib.hid hs
    have HU := Lib.hid hu
    have HH := Lib.hid H
    have HL := Lib.hid hl
    rw [← hlen] at hlc' ⊢
    have HLEN := Lib.hid hlen
    clear hs hu H hl hlen
    go_enter Tryd.func31, Tryd.ntmps31
    go_wp2_with fail
    go_loopw [5] (fun i wr => ∃ k : Nat, k ≤ xs.length ∧ i = .int .i64 k ∧ Ext w wr ∧ Hid (eqL p xs ys = eqL p (xs.drop k) (ys.drop k))) (fun i _ => xs.length - (intOf i).toNat)
    case atStart => exact ⟨0, Nat.zero_le _, rfl, .refl _, rfl⟩
    case round =>
      obtain ⟨k, hk, rfl, hw, HE⟩ := hrel
      by_cases hlt : k < xs.length
      · have hlt' : k < ys.length := HLEN.out ▸ hlt
        obtain ⟨b, off, cs, rfl, hb, hcs, hc⟩ := (HS.out.ext hw).at2 (k := k) (e := tr xs[k]) (by rw [List.getElem?_map, List.getElem?_eq_getElem hlt]; rfl)
        obtain ⟨b', off', ds, rfl, hb', hds, hd⟩ := (HU.out.ext hw).at2 (k := k) (e := tr ys[k]) (by rw [List.getElem?_map, List.getElem?_eq_getElem hlt']; rfl)
        have HST := Lib.hid (eqL_step (p := p) hlt hlt')
        have HM := Lib.hid (List.getElem_mem hlt)
        have HM' := Lib.hid (List.getElem_mem hlt')
        have HCS := Lib.hid hcs
        have HDS := Lib.hid hds
        have HC := Lib.hid hc
        have HD := Lib.hid hd
        have HI : Hid ((Tryd.prog.info? 32).map (·.size) = some cs.length) := by rw [← hcs.length, HL.out]; exact isz32
        have HJ : Hid ((Tryd.prog.info? 32).map (·.size) = some ds.length) := by rw [← hds.length, HL.out]; exact isz32
        clear hcs hds hc hd
        go_wp2_with fail
        have ki : (k : Int) < (xs.length : Int) := by omega
        have k0 : (0 : Int) ≤ (k : Int) := by omega
        refine wp_region_still_tail 8 (by kernel_rfl) (by kernel_rfl) ?_
        simp only [List.take_succ_cons, List.take_zero, List.drop_succ_cons, List.drop_zero]
        change wpStill _ _ wr.drew _ _ _
        repeat (first
          | (refine wpStill_load_rep rfl 32 (.tmp 19) rfl b (off + k * 5) rfl cs _ Tryd.underlying32 HI.out HC.out ?_; simp only [Act.put])
          | (refine wpStill_load_rep rfl 32 (.tmp 23) rfl b' (off' + k * 5) rfl ds _ Tryd.underlying32 HJ.out HD.out ?_; simp only [Act.put])
          | still_step)
        refine wpStill_nil ?_
        change wpList _ _ _ _ _ wr.drew
        go_wp2_with fail
        refine (HH.out _ HM.out _ HM'.out _ _ _ (HCS.out.ext (.drew (.refl _))) (HDS.out.ext (.drew (.refl _)))).mono ?_; rintro e w1 ⟨rfl, hw1⟩
        have HW1 := Lib.hid (hw.trans (.trans (.drew (.refl _)) hw1))
        clear hw1
        cases hp : p xs[k] ys[k]
        · have HP := Lib.hid hp
          clear hp
          go_wp2_with fail
          go_ret
          exact ⟨ret_bool (by rw [HE.out, HST.out, HP.out]; rfl), HW1.out⟩
        · have HP := Lib.hid hp
          clear hp
          go_wp2_with fail
          go_roundw
          case rel => exact ⟨k + 1, by omega, by go_num, HW1.out, by rw [HE.out, HST.out, HP.out]; rfl⟩
          case measure => simp [intOf]; omega
      · have hkl : k = xs.length := by omega
        go_wp2_with fail
        go_ret
        exact ⟨ret_bool (by rw [HE.out, hkl]; exact (eqL_end HLEN.out).symm), hw⟩
  · have hne : ((xs.length : Int) == (ys.length : Int)) = false := by simp; omega
    have hr := Lib.hid (eqL_len (p := p) hlen)
    clear hlen
    go_enter Tryd.func31, Tryd.ntmps31
    go_wp2_with fail
    go_ret
    exact ⟨ret_bool hr.out.symm, .refl _⟩


set_option maxRecDepth 100000 in
set_option maxHeartbeats 1000000 in
theorem equalFunc_33 {α : Type} (tr : α → List Tr) (p : α → α → Bool) (xs ys : List α) (g : FuncId) (hg : ∀ (args : Array Value) (w : World), (callFunc g args).run Tryd.prog w = .ok (.enter g args) w) (hl : ∀ x, (tr x).length = 5)
    (H : ∀ x ∈ xs, ∀ y ∈ ys, ∀ cs ds w, RepL w (tr x) cs → RepL w (tr y) ds → Calls Tryd.prog g #[.agg ⟨cs⟩, .agg ⟨ds⟩] w fun e w' => e = .returned (.bool (p x y)) ∧ Ext w w')
    (s u : Value) (w : World) (hs : Rep w (.row 5 (xs.map tr)) s) (hu : Rep w (.row 5 (ys.map tr)) u) :
    Calls Tryd.prog 33 #[s, u, .func (.func g) #[] #[]] w fun e w' => e = .returned (.bool (eqL p xs ys)) ∧ Ext w w' := by
  obtain ⟨a, cap, rfl, hlc, hm⟩ := hs.shape
  obtain ⟨a', cap', rfl, hlc', hm'⟩ := hu.shape
  unfold maxLen at hm hm'
  rw [List.length_map] at hlc hlc' ⊢
  rw [List.length_map] at *
  by_cases hlen : xs.length = ys.length
  · have HS := Lib.hid hs
    have HU := Lib.hid hu
    have HH := Lib.hid H
    have HL := Lib.hid hl
    rw [← hlen] at hlc' ⊢
    have HLEN := Lib.hid hlen
    clear hs hu H hl hlen
    go_enter Tryd.func33, Tryd.ntmps33
    go_wp2_with fail
    go_loopw [7, 17] (fun _ i wr => ∃ k : Nat, k ≤ xs.length ∧ i = .int .i64 k ∧ Ext w wr ∧ Hid (eqL p xs ys = eqL p (xs.drop k) (ys.drop k))) (fun _ i _ => xs.length - (intOf i).toNat)
    case atStart => exact ⟨0, Nat.zero_le _, rfl, .refl _, rfl⟩
    case round =>
      obtain ⟨k, hk, rfl, hw, HE⟩ := hrel
      by_cases hlt : k < xs.length
      · have hlt' : k < ys.length := HLEN.out ▸ hlt
        obtain ⟨b, off, cs, rfl, hb, hcs, hc⟩ := (HS.out.ext hw).at2 (k := k) (e := tr xs[k]) (by rw [List.getElem?_map, List.getElem?_eq_getElem hlt]; rfl)
        obtain ⟨b', off', ds, rfl, hb', hds, hd⟩ := (HU.out.ext hw).at2 (k := k) (e := tr ys[k]) (by rw [List.getElem?_map, List.getElem?_eq_getElem hlt']; rfl)
        have HST := Lib.hid (eqL_step (p := p) hlt hlt')
        have HM := Lib.hid (List.getElem_mem hlt)
        have HM' := Lib.hid (List.getElem_mem hlt')
        have HCS := Lib.hid hcs
        have HDS := Lib.hid hds
        have HC := Lib.hid hc
        have HD := Lib.hid hd
        have HCL : Hid (cs.length = 5) := by rw [← hcs.length, HL.out]; rfl
        have HDL : Hid (ds.length = 5) := by rw [← hds.length, HL.out]; rfl
        have HI : Hid ((Tryd.prog.info? 32).map (·.size) = some cs.length) := by rw [HCL.out]; exact isz32
        have HJ : Hid ((Tryd.prog.info? 32).map (·.size) = some ds.length) := by rw [HDL.out]; exact isz32
        clear hcs hds hc hd
        go_wp2_with (first
          | (refine wpList_load_rep rfl 32 (.tmp 20) rfl b (off + k * 5) rfl cs _ Tryd.underlying32 HI.out HC.out ?_)
          | (refine wpList_store_rep rfl 32 (.tmp 8) (.tmp 21) rfl wr.heap.size 0 rfl cs rfl 32 _ (OB.new wr _ _) HI.out (by rw [HCL.out]; exact Nat.le_refl _) HCS.out.one ?_; intro wb hob hgb hzb; rw [splice_whole (by rw [HCL.out]; rfl)] at hob; have HOB := Lib.hid hob; have HXB := Lib.hid (grown_ext (.alloc (.refl wr) _) hgb (Nat.le_refl _)); have HZB : Hid (wr.heap.size < wb.heap.size) := hob.lt; clear hob hgb hzb)
          | (refine wpList_load_rep rfl 32 (.tmp 24) rfl b' (off' + k * 5) rfl ds _ Tryd.underlying32 HJ.out (cells_ext HXB.out hb' HD.out) ?_)
          | (refine wpList_store_rep rfl 32 (.tmp 9) (.tmp 25) rfl wb.heap.size 0 rfl ds rfl 32 _ (OB.new wb _ _) HJ.out (by rw [HDL.out]; exact Nat.le_refl _) HDS.out.one ?_; intro wc hoc hgc hzc; rw [splice_whole (by rw [HDL.out]; rfl)] at hoc; have HOC := Lib.hid hoc; have HXC := Lib.hid (HXB.out.trans (grown_ext (.alloc (.refl wb) _) hgc (Nat.le_refl _))); have HOD := Lib.hid (HOB.out.ext (grown_ext (.alloc (.refl wb) _) hgc (Nat.le_refl _))); clear hoc hgc hzc)
          | (refine wpList_load_rep rfl 32 (.tmp 8) rfl wr.heap.size 0 rfl cs _ Tryd.underlying32 HI.out HOD.out.cells0 ?_)
          | (refine wpList_load_rep rfl 32 (.tmp 9) rfl wb.heap.size 0 rfl ds _ Tryd.underlying32 HJ.out HOC.out.cells0 ?_))
        refine (HH.out _ HM.out _ HM'.out _ _ _ (HCS.out.ext HXC.out) (HDS.out.ext HXC.out)).mono ?_; rintro e w1 ⟨rfl, hw1⟩
        have HW1 := Lib.hid (hw.trans (HXC.out.trans hw1))
        clear hw1
        cases hp : p xs[k] ys[k]
        · have HP := Lib.hid hp
          clear hp
          go_wp2_with fail
          go_ret
          exact ⟨ret_bool (by rw [HE.out, HST.out, HP.out]; rfl), HW1.out⟩
        · have HP := Lib.hid hp
          clear hp
          go_wp2_with fail
          go_roundw
          case rel => exact ⟨k + 1, by omega, by go_num, HW1.out, by rw [HE.out, HST.out, HP.out]; rfl⟩
          case measure => simp [intOf]; omega
      · have hkl : k = xs.length := by omega
        go_wp2_with fail
        go_ret
        exact ⟨ret_bool (by rw [HE.out, hkl]; exact (eqL_end HLEN.out).symm), hw⟩
  · have hne : ((xs.length : Int) == (ys.length : Int)) = false := by simp; omega
    have hr := Lib.hid (eqL_len (p := p) hlen)
    clear hlen
    go_enter Tryd.func33, Tryd.ntmps33
    go_wp2_with fail
    go_ret
    exact ⟨ret_bool hr.out.symm, .refl _⟩


set_option maxRecDepth 100000 in
set_option maxHeartbeats 1000000 in
theorem indexFunc_43 {α : Type} (tr : α → List Tr) (p : α → Bool) (xs : List α) (g : FuncId) (caps : Array Value) (hg : ∀ (args : Array Value) (w : World), (callFunc g args).run Tryd.prog w = .ok (.enter g args) w) (hl : ∀ x, (tr x).length = 5) (s : Value) (w : World)
    (H : ∀ x ∈ xs, ∀ cs w', Ext w w' → RepL w' (tr x) cs → Calls Tryd.prog g (#[.agg ⟨cs⟩] ++ caps) w' fun e w'' => e = .returned (.bool (p x)) ∧ Ext w' w'')
    (hs : Rep w (.row 5 (xs.map tr)) s) :
    Calls Tryd.prog 43 #[s, .func (.func g) #[] caps] w fun e w' => e = .returned (.int .i64 (idxL p xs 0)) ∧ Ext w w' := by
  obtain ⟨a, cap, rfl, hlc, hm⟩ := hs.shape
  unfold maxLen at hm
  rw [List.length_map] at hlc ⊢
  rw [List.length_map] at hs
  have HS := Lib.hid hs
  have HH := Lib.hid H
  have HL := Lib.hid hl
  clear hs H hl
  go_enter Tryd.func43, Tryd.ntmps43
  go_wp2_with fail
  go_loopw [5, 8] (fun _ i wr => ∃ k : Nat, k ≤ xs.length ∧ i = .int .i64 k ∧ Ext w wr ∧ Hid (idxL p xs 0 = idxL p (xs.drop k) k)) (fun _ i _ => xs.length - (intOf i).toNat)
  case atStart => exact ⟨0, Nat.zero_le _, rfl, .refl _, rfl⟩
  case round =>
    obtain ⟨k, hk, rfl, hw, HE⟩ := hrel
    by_cases hlt : k < xs.length
    · obtain ⟨b, off, cs, rfl, hb, hcs, hc⟩ := (HS.out.ext hw).at2 (k := k) (e := tr xs[k]) (by rw [List.getElem?_map, List.getElem?_eq_getElem hlt]; rfl)
      have HST := Lib.hid (idxL_step (p := p) hlt)
      have HM := Lib.hid (List.getElem_mem hlt)
      have HCS := Lib.hid hcs
      have HC := Lib.hid hc
      have HI : Hid ((Tryd.prog.info? 32).map (·.size) = some cs.length) := by rw [← hcs.length, HL.out]; exact isz32
      clear hcs hc
      go_wp2_with (refine wpList_load_rep rfl 32 (.tmp 14) rfl b (off + k * 5) rfl cs _ Tryd.underlying32 HI.out HC.out ?_)
      refine (HH.out _ HM.out _ _ hw HCS.out).mono ?_; rintro e w1 ⟨rfl, hw1⟩
      have HW1 := Lib.hid (hw.trans hw1)
      clear hw1
      cases hp : p xs[k]
      · have HP := Lib.hid hp
        clear hp
        go_wp2_with fail
        go_roundw
        case rel => exact ⟨k + 1, by omega, by go_num, HW1.out, by rw [HE.out, HST.out, HP.out]; rfl⟩
        case measure => simp [intOf]; omega
      · have HP := Lib.hid hp
        clear hp
        go_wp2_with fail
        go_ret
        exact ⟨ret_int (by rw [HE.out, HST.out, HP.out]; rfl), HW1.out⟩
    · have hkl : k = xs.length := by omega
      go_wp2_with fail
      go_ret
      exact ⟨ret_int (by rw [HE.out, hkl, List.drop_length]; rfl), hw⟩


set_option maxRecDepth 100000 in
set_option maxHeartbeats 1000000 in
theorem containsFunc_34 {α : Type} (tr : α → List Tr) (p : α → Bool) (xs : List α) (g : FuncId) (caps : Array Value) (hg : ∀ (args : Array Value) (w : World), (callFunc g args).run Tryd.prog w = .ok (.enter g args) w) (hl : ∀ x, (tr x).length = 5) (s : Value) (w : World)
    (H : ∀ x ∈ xs, ∀ cs w', Ext w w' → RepL w' (tr x) cs → Calls Tryd.prog g (#[.agg ⟨cs⟩] ++ caps) w' fun e w'' => e = .returned (.bool (p x)) ∧ Ext w' w'')
    (hs : Rep w (.row 5 (xs.map tr)) s) :
    Calls Tryd.prog 34 #[s, .func (.func g) #[] caps] w fun e w' => e = .returned (.bool (xs.any p)) ∧ Ext w w' := by
  have hc := Lib.hid (indexFunc_43 tr p xs g caps hg hl s w H hs)
  have hb := Lib.hid (idxL_any (p := p) xs 0)
  clear H hs hl hg
  go_enter Tryd.func34, Tryd.ntmps34
  go_wp2_with fail
  refine hc.out.mono ?_; rintro e w1 ⟨rfl, hw1⟩
  have HW1 := Lib.hid hw1
  clear hw1
  generalize idxL p xs 0 = q at *
  go_wp2_with fail
  go_ret
  exact ⟨ret_bool hb.out, HW1.out⟩

end Go.Proofs.YtmpepccpnnldoaaDoor

namespace Go.Proofs.YtmpepccpnnldoaaDoor
open Go.RowKit Go.Proofs

mutual
def GEvidence.size : GEvidence → Nat
  | .mk _ _ _ xs => 1 + GEvidence.sizes xs
def GEvidence.sizes : List GEvidence → Nat
  | [] => 0
  | e :: r => GEvidence.size e + GEvidence.sizes r
end
theorem GEvidence.sizes_step {l : List GEvidence} {k : Nat} (h : k < l.length) : GEvidence.sizes (l.drop k) = GEvidence.size l[k] + GEvidence.sizes (l.drop (k + 1)) := by
  rw [List.drop_eq_getElem_cons h, GEvidence.sizes]

def GRef_eq : GInstanceRef → GInstanceRef → Bool
  | .mk p a, .mk q b => p == q && a == b
mutual
def GEvidence.eq : GEvidence → GEvidence → Bool
  | .mk k n r xs, .mk l m s ys => k == l && (n == m && (GRef_eq r s && GEvidence.eqs xs ys))
def GEvidence.eqs : List GEvidence → List GEvidence → Bool
  | [], [] => true
  | a :: l, b :: r => GEvidence.eq a b && GEvidence.eqs l r
  | _, _ => false
end
theorem GEvidence.eqs_eqL : ∀ (l r : List GEvidence), GEvidence.eqs l r = eqL GEvidence.eq l r
  | [], [] => rfl
  | [], _ :: _ => rfl
  | _ :: _, [] => rfl
  | a :: l, b :: r => by rw [GEvidence.eqs, eqL, GEvidence.eqs_eqL l r]

/-- Size is at most one more than what is counted of the tree. -/
theorem GEvidence.size_bulk : ∀ e : GEvidence, GEvidence.size e ≤ 1 + Tr.bulkL e.tr := by
  refine GEvidence.ind fun v0 v1 v2 v3 h => ?_
  have : ∀ l : List GEvidence, (∀ x ∈ l, GEvidence.size x ≤ 1 + Tr.bulkL x.tr) → GEvidence.sizes l ≤ l.length + Tr.bulkAll (GEvidence.trs l) := by
    intro l
    induction l with
    | nil => intro _; simp [GEvidence.sizes]
    | cons a l ih =>
      intro hl
      have h1 := hl a (by simp)
      have h2 := ih fun x hx => hl x (by simp [hx])
      simp only [GEvidence.sizes, GEvidence.trs, Tr.bulkAll, List.length_cons]
      omega
  have := this v3 h
  simp only [GEvidence.size, GEvidence.tr, Tr.bulkL_append, Tr.bulkL, Tr.bulk, GEvidence.trs_len]
  omega

mutual
def GEvidence.depth : GEvidence → Nat
  | .mk _ _ _ xs => GEvidence.depths xs
def GEvidence.depths : List GEvidence → Nat
  | [] => 0
  | e :: r => max (1 + GEvidence.depth e) (GEvidence.depths r)
end
theorem GEvidence.depths_step {l : List GEvidence} {k : Nat} (h : k < l.length) : GEvidence.depths (l.drop k) = max (1 + GEvidence.depth l[k]) (GEvidence.depths (l.drop (k + 1))) := by
  rw [List.drop_eq_getElem_cons h, GEvidence.depths]
theorem GEvidence.depth_size : ∀ e : GEvidence, GEvidence.depth e ≤ GEvidence.size e := by
  refine GEvidence.ind fun v0 v1 v2 v3 h => ?_
  simp only [GEvidence.depth, GEvidence.size]
  induction v3 with
  | nil => simp [GEvidence.depths]
  | cons a l ih =>
    have h1 := h a (by simp)
    have h2 := ih fun x hx => h x (by simp [hx])
    simp only [GEvidence.depths, GEvidence.sizes]
    omega

theorem GEvidence.sizes_drop : ∀ (l : List GEvidence) (k : Nat), GEvidence.sizes (l.drop k) ≤ GEvidence.sizes l
  | [], k => by simp
  | a :: l, 0 => by simp
  | a :: l, k + 1 => by
    have := GEvidence.sizes_drop l k
    simp only [List.drop_succ_cons, GEvidence.sizes]
    omega

set_option maxHeartbeats 1000000 in
theorem evidenceSize_impl : ∀ (x : GEvidence) (cs : List Value) (w : World), RepL w x.tr cs → GEvidence.size x ≤ 1099511627776 →
    Calls Tryd.prog 16 #[.agg ⟨cs⟩] w fun e w' => e = .returned (.int .i64 (GEvidence.size x)) ∧ Ext w w' := by
  refine GEvidence.ind fun v0 v1 v2 xs ih => ?_
  obtain ⟨p, t⟩ := v2
  intro cs w hr hsz
  obtain ⟨x2, a, c, rfl, -, -, h2, h3⟩ := GEvidence.opened hr
  obtain ⟨rfl, -, -⟩ := GInstanceRef.opened h2
  obtain ⟨hl, hm, -⟩ := h3.lens
  have HS := Lib.hid h3
  have IH := Lib.hid ih
  simp only [GEvidence.size] at hsz
  simp only [GEvidence.size]
  clear hr h2 h3 ih
  simp only [List.cons_append, List.nil_append]
  go_enter Tryd.func16, Tryd.ntmps16
  go_wp2_with fail
  go_loopw [3, 9] (fun n i wr => ∃ k m : Nat, k ≤ xs.length ∧ i = .int .i64 k ∧ n = .int .i64 (m : Int) ∧ Ext w wr ∧ 1 ≤ m ∧ Hid (m + GEvidence.sizes (xs.drop k) = 1 + GEvidence.sizes xs)) (fun _ i _ => xs.length - (intOf i).toNat)
  case atStart => exact ⟨0, 1, Nat.zero_le _, rfl, rfl, .alloc (.refl _) _, by omega, by rfl⟩
  case round =>
    obtain ⟨k, m, hk, rfl, rfl, hw, hm1, HE⟩ := hrel
    by_cases hlt : k < xs.length
    · obtain ⟨b, off, cs, rfl, hb, hcs, hc⟩ := (HS.out.ext hw).at2 (k := k) (GEvidence.trs_get hlt)
      have HM := Lib.hid (List.getElem_mem hlt)
      have HCS := Lib.hid hcs
      have HC := Lib.hid hc
      have HI : Hid ((Tryd.prog.info? 32).map (·.size) = some cs.length) := by rw [← hcs.length, GEvidence.tr_len]; exact isz32
      have HCL : Hid (cs.length = 5) := by rw [← hcs.length, GEvidence.tr_len]; rfl
      clear hcs hc
      have HST := Lib.hid (GEvidence.sizes_step hlt)
      have he := HE.out
      have hst := HST.out
      have hx : GEvidence.size xs[k] ≤ 1099511627776 := by omega
      have hbd : m + GEvidence.size xs[k] ≤ 1099511627777 := by omega
      clear he hst
      go_wp2_with (first
        | (refine wpList_load_rep rfl 32 (.tmp 11) rfl b (off + k * 5) rfl cs _ Tryd.underlying32 HI.out HC.out ?_)
        | (refine wpList_store_rep rfl 32 (.tmp 5) (.tmp 12) rfl wr.heap.size 0 rfl cs rfl 32 _ (OB.new wr _ _) HI.out (by rw [HCL.out]; exact Nat.le_refl _) HCS.out.one ?_; intro wb hob hgb hzb; rw [splice_whole (by rw [HCL.out]; rfl)] at hob; have HOB := Lib.hid hob; have HXB := Lib.hid (grown_ext (.alloc (.refl wr) _) hgb (Nat.le_refl _)); clear hob hgb hzb)
        | (refine wpList_load_rep rfl 32 (.tmp 5) rfl wr.heap.size 0 rfl cs _ Tryd.underlying32 HI.out HOB.out.cells0 ?_))
      refine (IH.out _ HM.out _ _ (HCS.out.ext HXB.out) hx).mono ?_; rintro e w1 ⟨rfl, hw1⟩
      have HW1 := Lib.hid (hw.trans (HXB.out.trans hw1))
      clear hw1
      generalize GEvidence.size xs[k] = z at *
      go_wp2_with fail
      go_roundw
      case rel => exact ⟨k + 1, m + z, by omega, by go_num, by go_num, HW1.out, by omega, by have := HE.out; have := HST.out; show _ = _; omega⟩
      case measure => simp [intOf]; omega
    · have hkl : k = xs.length := by omega
      go_wp2_with fail
      go_ret
      have := HE.out
      rw [hkl, List.drop_length] at this
      simp only [GEvidence.sizes] at this
      exact ⟨ret_int (by omega), hw⟩

set_option maxHeartbeats 1000000 in
theorem evidenceDepth_impl : ∀ (x : GEvidence) (cs : List Value) (w : World), RepL w x.tr cs → GEvidence.size x ≤ 1099511627776 →
    Calls Tryd.prog 19 #[.agg ⟨cs⟩] w fun e w' => e = .returned (.int .i64 (GEvidence.depth x)) ∧ Ext w w' := by
  refine GEvidence.ind fun v0 v1 v2 xs ih => ?_
  obtain ⟨p, t⟩ := v2
  intro cs w hr hsz
  obtain ⟨x2, a, c, rfl, -, -, h2, h3⟩ := GEvidence.opened hr
  obtain ⟨rfl, -, -⟩ := GInstanceRef.opened h2
  obtain ⟨hl, hm, -⟩ := h3.lens
  have HS := Lib.hid h3
  have IH := Lib.hid ih
  simp only [GEvidence.size] at hsz
  simp only [GEvidence.depth]
  clear hr h2 h3 ih
  simp only [List.cons_append, List.nil_append]
  go_enter Tryd.func19, Tryd.ntmps19
  go_wp2_with fail
  go_loopw [3, 9] (fun n i wr => ∃ k m : Nat, k ≤ xs.length ∧ i = .int .i64 k ∧ n = .int .i64 (m : Int) ∧ Ext w wr ∧ m ≤ 1099511627776 ∧ Hid (max m (GEvidence.depths (xs.drop k)) = GEvidence.depths xs)) (fun _ i _ => xs.length - (intOf i).toNat)
  case atStart => exact ⟨0, 0, Nat.zero_le _, rfl, rfl, .alloc (.refl _) _, by omega, by show _ = _; simp⟩
  case round =>
    obtain ⟨k, m, hk, rfl, rfl, hw, hm1, HE⟩ := hrel
    by_cases hlt : k < xs.length
    · obtain ⟨b, off, cs, rfl, hb, hcs, hc⟩ := (HS.out.ext hw).at2 (k := k) (GEvidence.trs_get hlt)
      have HM := Lib.hid (List.getElem_mem hlt)
      have HCS := Lib.hid hcs
      have HC := Lib.hid hc
      have HI : Hid ((Tryd.prog.info? 32).map (·.size) = some cs.length) := by rw [← hcs.length, GEvidence.tr_len]; exact isz32
      have HCL : Hid (cs.length = 5) := by rw [← hcs.length, GEvidence.tr_len]; rfl
      clear hcs hc
      have HST := Lib.hid (GEvidence.depths_step hlt)
      have hx1 : GEvidence.size xs[k] + GEvidence.sizes (xs.drop (k + 1)) ≤ GEvidence.sizes xs := by rw [← GEvidence.sizes_step hlt]; exact GEvidence.sizes_drop xs k
      have hx : GEvidence.size xs[k] ≤ 1099511627776 := by omega
      have hx2 : GEvidence.size xs[k] < 1099511627776 := by omega
      clear hx1
      go_wp2_with (first
        | (refine wpList_load_rep rfl 32 (.tmp 11) rfl b (off + k * 5) rfl cs _ Tryd.underlying32 HI.out HC.out ?_)
        | (refine wpList_store_rep rfl 32 (.tmp 5) (.tmp 12) rfl wr.heap.size 0 rfl cs rfl 32 _ (OB.new wr _ _) HI.out (by rw [HCL.out]; exact Nat.le_refl _) HCS.out.one ?_; intro wb hob hgb hzb; rw [splice_whole (by rw [HCL.out]; rfl)] at hob; have HOB := Lib.hid hob; have HXB := Lib.hid (grown_ext (.alloc (.refl wr) _) hgb (Nat.le_refl _)); clear hob hgb hzb)
        | (refine wpList_load_rep rfl 32 (.tmp 5) rfl wr.heap.size 0 rfl cs _ Tryd.underlying32 HI.out HOB.out.cells0 ?_))
      refine (IH.out _ HM.out _ _ (HCS.out.ext HXB.out) hx).mono ?_; rintro e w1 ⟨rfl, hw1⟩
      have HW1 := Lib.hid (hw.trans (HXB.out.trans hw1))
      clear hw1
      have hbd : GEvidence.depth xs[k] < 1099511627776 := by have := GEvidence.depth_size xs[k]; omega
      generalize GEvidence.depth xs[k] = z at *
      go_wp2_with fail
      go_roundw
      case rel => exact ⟨k + 1, max m (z + 1), by omega, by go_num, by go_num, HW1.out, by omega, by have := HE.out; have := HST.out; show _ = _; omega⟩
      case measure => simp [intOf]; omega
    · have hkl : k = xs.length := by omega
      go_wp2_with fail
      go_ret
      have := HE.out
      rw [hkl, List.drop_length] at this
      simp only [GEvidence.depths] at this
      exact ⟨ret_int (by omega), hw⟩

end Go.Proofs.YtmpepccpnnldoaaDoor

namespace Go.Proofs.YtmpepccpnnldoaaDoor
open Go.RowKit Go.Proofs

mutual
def GEvidence.valid : GEvidence → Bool
  | .mk k n (.mk p a) xs =>
    (if k = 1 then decide (n = 0) && decide (0 ≤ p) && decide (0 ≤ a) && decide ((xs.length : Int) ≤ 4)
     else if k = 2 then decide (0 ≤ n) && decide (p = 0) && decide (a = 0) && ((xs.length : Int) == 0)
     else if k = 3 then decide (0 ≤ n) && decide (p = 0) && decide (a = 0) && ((xs.length : Int) == 1)
     else if k = 4 ∨ k = 5 then decide (n = 0) && decide (p = 0) && decide (a = 0) && ((xs.length : Int) == 0)
     else false) && GEvidence.valids xs
def GEvidence.valids : List GEvidence → Bool
  | [] => true
  | e :: r => GEvidence.valid e && GEvidence.valids r
end
theorem GEvidence.valids_step {l : List GEvidence} {k : Nat} (h : k < l.length) : GEvidence.valids (l.drop k) = (GEvidence.valid l[k] && GEvidence.valids (l.drop (k + 1))) := by
  rw [List.drop_eq_getElem_cons h, GEvidence.valids]
theorem kinds5 (v : Int) : v = 1 ∨ v = 2 ∨ v = 3 ∨ v = 4 ∨ v = 5 ∨ (v == 1) = false ∧ (v == 2) = false ∧ (v == 3) = false ∧ (v == 4) = false ∧ (v == 5) = false := by
  simp; omega

set_option maxHeartbeats 4000000 in
theorem evidenceValid_spec : ∀ (x : GEvidence) (cs : List Value) (w : World), RepL w x.tr cs →
    Calls Tryd.prog 18 #[.agg ⟨cs⟩] w fun e w' => e = .returned (.bool (GEvidence.valid x)) ∧ Ext w w' := by
  refine GEvidence.ind fun v0 v1 v2 xs ih => ?_
  obtain ⟨p, t⟩ := v2
  intro cs w hr
  obtain ⟨x2, a, c, rfl, -, -, h2, h3⟩ := GEvidence.opened hr
  obtain ⟨rfl, -, -⟩ := GInstanceRef.opened h2
  obtain ⟨hl, hm, -⟩ := h3.lens
  have HS := Lib.hid h3
  have IH := Lib.hid ih
  clear hr h2 h3 ih
  simp only [List.cons_append, List.nil_append]
  rcases kinds5 v0 with rfl | rfl | rfl | rfl | rfl | ⟨k1, k2, k3, k4, k5⟩
  all_goals go_enter Tryd.func18, Tryd.ntmps18
  all_goals go_wp2_with fail
  all_goals first
    | (go_ret; exact ⟨ret_bool (by simp_all [GEvidence.valid] <;> omega), .alloc (.refl _) _⟩)
    | skip
  all_goals
    go_loopw [4] (fun i wr => ∃ (k : Nat) (z : Int), k ≤ xs.length ∧ i = .int .i64 k ∧ Ext w wr ∧ Hid (OB wr w.heap.size 32 #[.int .i64 z, .int .i64 v1, .int .i64 p, .int .i64 t, .slice a xs.length c]) ∧ Hid (GEvidence.valids xs = GEvidence.valids (xs.drop k))) (fun i _ => xs.length - (intOf i).toNat)
    case atStart =>
      simp_all only []
      exact ⟨0, _, Nat.zero_le _, rfl, .alloc (.refl _) _, OB.new w _ _, rfl⟩
    case round =>
      obtain ⟨k, z0, hk, rfl, hw, HB, HE⟩ := hrel
      have hce := HB.out.cell
      by_cases hlt : k < xs.length
      · obtain ⟨b, off, cs, rfl, hb, hcs, hc⟩ := (HS.out.ext hw).at2 (k := k) (GEvidence.trs_get hlt)
        have HM := Lib.hid (List.getElem_mem hlt)
        have HCS := Lib.hid hcs
        have HC := Lib.hid hc
        have HI : Hid ((Tryd.prog.info? 32).map (·.size) = some cs.length) := by rw [← hcs.length, GEvidence.tr_len]; exact isz32
        have HCL : Hid (cs.length = 5) := by rw [← hcs.length, GEvidence.tr_len]; rfl
        clear hcs hc
        have HST := Lib.hid (GEvidence.valids_step hlt)
        go_wp2_with (refine wpList_load_rep rfl 32 (.tmp 70) rfl b (off + k * 5) rfl cs _ Tryd.underlying32 HI.out HC.out ?_)
        refine (IH.out _ HM.out _ _ HCS.out).mono ?_; rintro e w1 ⟨rfl, hw1⟩
        have HW1 := Lib.hid (hw.trans hw1)
        have HB1 := Lib.hid (HB.out.ext hw1)
        clear hw1
        cases hz : GEvidence.valid xs[k]
        · have HZ := Lib.hid hz
          clear hz
          go_wp2_with fail
          go_ret
          exact ⟨ret_bool (by have := HE.out; rw [HST.out, HZ.out] at this; simp [GEvidence.valid, this]), HW1.out⟩
        · have HZ := Lib.hid hz
          clear hz
          go_wp2_with fail
          go_roundw
          case rel =>
            exact ⟨k + 1, z0, by omega, by go_num, HW1.out, HB1.out, by have := HE.out; rw [HST.out, HZ.out] at this; exact this⟩
          case measure => simp [intOf]; omega
      · have hkl : k = xs.length := by omega
        go_wp2_with fail
        all_goals
          go_ret
          have := HE.out
          rw [hkl, List.drop_length] at this
          simp only [GEvidence.valids] at this
          exact ⟨ret_bool (by simp_all [GEvidence.valid] <;> omega), hw⟩
theorem GEvidence.valids_any : ∀ xs : List GEvidence, GEvidence.valids xs = !(xs.any fun a => !GEvidence.valid a)
  | [] => rfl
  | e :: r => by rw [GEvidence.valids, GEvidence.valids_any r]; simp

theorem ref4 (p t : Int) : p = 0 ∧ t = 0 ∨ p = 0 ∧ (t == 0) = false ∨ (p == 0) = false ∧ 0 ≤ p ∧ 0 < p ∨ (p == 0) = false ∧ p < 0 ∧ decide (0 ≤ p) = false := by
  simp; omega

def ValidC (f : FuncId) (x : GEvidence) (r : Bool) : Prop := ∀ (cs : List Value) (w : World), RepL w x.tr cs → Calls Tryd.prog f #[.agg ⟨cs⟩] w fun e w' => e = .returned (.bool r) ∧ Ext w w'

set_option maxHeartbeats 1000000 in
theorem evidenceValid_lam (x : GEvidence) (H : ValidC 17 x (GEvidence.valid x)) : ValidC 35 x (!GEvidence.valid x) := by
  intro cs w hr
  have HR := Lib.hid hr
  have HI : Hid ((Tryd.prog.info? 32).map (·.size) = some cs.length) := by rw [← hr.length, GEvidence.tr_len]; exact isz32
  have HH := Lib.hid H
  clear hr H
  go_enter Tryd.func35, Tryd.ntmps35
  go_wp2_with (refine wpList_load_rep rfl 32 (.tmp 1) rfl w.heap.size 0 rfl cs _ Tryd.underlying32 HI.out (OB.cells0 (OB.new w _ _)) ?_)
  refine (HH.out _ _ (HR.out.ext (.alloc (.refl _) _))).mono ?_; rintro e w1 ⟨rfl, hw1⟩
  have HW1 := Lib.hid hw1
  clear hw1
  generalize hq : GEvidence.valid x = q at *
  have HQ := Lib.hid hq
  clear hq
  go_wp2_with fail
  go_ret
  exact ⟨ret_bool (by simp [HQ.out]), .trans (.alloc (.refl _) _) HW1.out⟩

set_option maxHeartbeats 4000000 in
theorem evidenceValid_impl : ∀ (x : GEvidence), ValidC 17 x (GEvidence.valid x) := by
  refine GEvidence.ind fun v0 v1 v2 xs ih => ?_
  obtain ⟨p, t⟩ := v2
  intro cs w hr
  obtain ⟨x2, a, c, rfl, -, -, h2, h3⟩ := GEvidence.opened hr
  obtain ⟨rfl, -, -⟩ := GInstanceRef.opened h2
  obtain ⟨hl, hm, -⟩ := h3.lens
  rw [GEvidence.trs_map] at h3
  have HC := Lib.hid (fun w' hx => containsFunc_34 GEvidence.tr (fun a => !GEvidence.valid a) xs 35 #[] (run_callFunc_body Tryd.func35 (by kernel_rfl) (by kernel_rfl)) GEvidence.tr_len _ w' (fun x hx cs w' _ h => evidenceValid_lam x (ih x hx) cs w' h) (h3.ext hx))
  have HV := Lib.hid (GEvidence.valids_any xs)
  generalize hz : xs.any (fun a => !GEvidence.valid a) = z at *
  clear hr h2 h3 ih hz
  simp only [List.cons_append, List.nil_append]
  rcases kinds5 v0 with rfl | rfl | rfl | rfl | rfl | ⟨k1, k2, k3, k4, k5⟩
  all_goals rcases ref4 p t with ⟨rfl, rfl⟩ | ⟨rfl, p1⟩ | ⟨p1, p2, p3⟩ | ⟨p1, p2, p3⟩
  all_goals go_enter Tryd.func17, Tryd.ntmps17
  all_goals go_wp2_with fail
  all_goals go_quiet (fail)
  all_goals go_wp2_with fail
  all_goals try (go_quiet (fail); go_wp2_with fail)
  all_goals first
    | (go_ret; exact ⟨ret_bool (by simp_all [GEvidence.valid] <;> omega), by first | exact .drewN (.alloc (.refl _) _) _ | exact .drewN (.drewN (.alloc (.refl _) _) _) _⟩)
    | skip
  all_goals first
    | refine (HC.out _ ?_).mono ?_
    | (have hx0 : xs.length = 0 := by first | assumption | simp_all
       rw [hx0] at HC
       refine (HC.out _ ?_).mono ?_)
  all_goals first
    | exact .drewN (.alloc (.refl _) _) _
    | exact .drewN (.drewN (.alloc (.refl _) _) _) _
    | skip
  all_goals
    rintro e w1 ⟨rfl, hw1⟩
    have HW1 := Lib.hid hw1
    clear hw1
    go_wp2_with fail
    go_ret
    exact ⟨ret_bool (by have hv := HV.out; simp_all [GEvidence.valid] <;> omega), .trans (by first | exact .drewN (.alloc (.refl _) _) _ | exact .drewN (.drewN (.alloc (.refl _) _) _) _) HW1.out⟩

end Go.Proofs.YtmpepccpnnldoaaDoor

namespace Go.Proofs.YtmpepccpnnldoaaDoor
open Go.RowKit Go.Proofs

/-- A whole number as text. -/
def fmtI (n : Int) : ByteArray := ⟨(Lib.itoa n).toArray⟩
def fine (n : Int) : Prop := 0 ≤ n ∧ n ≤ 9223372036854775807
theorem fmtI_size {n : Int} (h : fine n) : (fmtI n).size ≤ 21 := by
  have := Lib.itoa_length_le n (by have := h.1; omega) h.2
  simpa [fmtI, ByteArray.size] using this
def sInst : ByteArray := ⟨#[105, 110, 115, 116, 32]⟩
def sDot : ByteArray := ⟨#[46]⟩
def sBound : ByteArray := ⟨#[98, 111, 117, 110, 100, 32]⟩
def sSuper : ByteArray := ⟨#[115, 117, 112, 101, 114, 32]⟩
def sDyn : ByteArray := ⟨#[100, 121, 110]⟩
def sAuto : ByteArray := ⟨#[97, 117, 116, 111]⟩
def sOpen : ByteArray := ⟨#[32, 40]⟩
def sShut : ByteArray := ⟨#[41]⟩
theorem bytesA (a b c : ByteArray) : (a ++ b) ++ c = a ++ (b ++ c) := ByteArray.append_assoc
theorem bytesE (a : ByteArray) : a ++ (⟨#[]⟩ : ByteArray) = a := ByteArray.append_empty
theorem bytesS (a b : ByteArray) : (a ++ b).size = a.size + b.size := ByteArray.size_append
/-- The text ahead of the arguments. -/
def evHead (k n p a : Int) : ByteArray := if k = 1 then sInst ++ fmtI p ++ sDot ++ fmtI a else if k = 2 then sBound ++ fmtI n else if k = 3 then sSuper ++ fmtI n else if k = 4 then sDyn else sAuto
mutual
def GEvidence.txt : GEvidence → ByteArray
  | .mk k n (.mk p a) xs => evHead k n p a ++ GEvidence.txts xs
def GEvidence.txts : List GEvidence → ByteArray
  | [] => ⟨#[]⟩
  | e :: r => (sOpen ++ GEvidence.txt e ++ sShut) ++ GEvidence.txts r
end
mutual
/-- The numbers that are written are of the kind 'g', and the kind is one of the five. -/
def GEvidence.okI (g : Int → Prop) : GEvidence → Prop
  | .mk k n (.mk p a) xs => (k = 1 ∧ g p ∧ g a ∨ (k = 2 ∨ k = 3) ∧ g n ∨ k = 4 ∨ k = 5) ∧ GEvidence.okIs g xs
def GEvidence.okIs (g : Int → Prop) : List GEvidence → Prop
  | [] => True
  | e :: r => GEvidence.okI g e ∧ GEvidence.okIs g r
end
theorem GEvidence.okIs_get {g : Int → Prop} : ∀ {l : List GEvidence}, GEvidence.okIs g l → ∀ x ∈ l, GEvidence.okI g x
  | a :: l, h, x, hx => by
    rcases List.mem_cons.1 hx with rfl | hx
    · exact h.1
    · exact GEvidence.okIs_get h.2 x hx
theorem GEvidence.okIs_of {g : Int → Prop} : ∀ {l : List GEvidence}, (∀ x ∈ l, GEvidence.okI g x) → GEvidence.okIs g l
  | [], _ => trivial
  | a :: l, h => ⟨h a (by simp), GEvidence.okIs_of fun x hx => h x (by simp [hx])⟩
theorem GEvidence.txts_step {l : List GEvidence} {k : Nat} (h : k < l.length) : GEvidence.txts (l.drop k) = (sOpen ++ GEvidence.txt l[k] ++ sShut) ++ GEvidence.txts (l.drop (k + 1)) := by
  rw [List.drop_eq_getElem_cons h, GEvidence.txts]
theorem evHead_size {g : Int → Prop} (hg : ∀ n, g n → fine n) {k n p a : Int} (h : k = 1 ∧ g p ∧ g a ∨ (k = 2 ∨ k = 3) ∧ g n ∨ k = 4 ∨ k = 5) : (evHead k n p a).size ≤ 48 := by
  have e1 : sInst.size = 5 := rfl
  have e2 : sDot.size = 1 := rfl
  have e3 : sBound.size = 6 := rfl
  have e4 : sSuper.size = 6 := rfl
  have e5 : sDyn.size = 3 := rfl
  have e6 : sAuto.size = 4 := rfl
  unfold evHead
  rcases h with ⟨rfl, h1, h2⟩ | ⟨rfl | rfl, h1⟩ | rfl | rfl
  · have := fmtI_size (hg _ h1)
    have := fmtI_size (hg _ h2)
    simp only [if_pos, bytesS]
    omega
  · have := fmtI_size (hg _ h1)
    simp only [bytesS, if_pos, show ¬ ((2 : Int) = 1) by decide, if_false]
    omega
  · have := fmtI_size (hg _ h1)
    simp only [bytesS, if_pos, show ¬ ((3 : Int) = 1) by decide, show ¬ ((3 : Int) = 2) by decide, if_false]
    omega
  · simp only [show ¬ ((4 : Int) = 1) by decide, show ¬ ((4 : Int) = 2) by decide, show ¬ ((4 : Int) = 3) by decide, if_false, if_pos]
    omega
  · simp only [show ¬ ((5 : Int) = 1) by decide, show ¬ ((5 : Int) = 2) by decide, show ¬ ((5 : Int) = 3) by decide, show ¬ ((5 : Int) = 4) by decide, if_false]
    omega
/-- A text is no longer than 51 bytes a node. -/
theorem GEvidence.txt_size {g : Int → Prop} (hg : ∀ n, g n → fine n) : ∀ e : GEvidence, GEvidence.okI g e → (GEvidence.txt e).size + 3 ≤ 51 * GEvidence.size e := by
  refine GEvidence.ind fun k n v2 xs ih => ?_
  obtain ⟨p, a⟩ := v2
  intro h
  have h1 := evHead_size hg h.1
  have h2 : ∀ l : List GEvidence, (∀ x ∈ l, GEvidence.okI g x → (GEvidence.txt x).size + 3 ≤ 51 * GEvidence.size x) → GEvidence.okIs g l → (GEvidence.txts l).size ≤ 51 * GEvidence.sizes l := by
    intro l
    induction l with
    | nil => intro _ _; exact Nat.zero_le _
    | cons a l ih =>
      intro hl ho
      have k1 := hl a (by simp) ho.1
      have k2 := ih (fun x hx => hl x (by simp [hx])) ho.2
      have e1 : sOpen.size = 2 := rfl
      have e2 : sShut.size = 1 := rfl
      simp only [GEvidence.txts, GEvidence.sizes, bytesS]
      omega
  have h3 := h2 xs ih h.2
  simp only [GEvidence.txt, GEvidence.size, bytesS]
  omega
theorem GEvidence.txts_size {g : Int → Prop} (hg : ∀ n, g n → fine n) : ∀ l : List GEvidence, GEvidence.okIs g l → (GEvidence.txts l).size ≤ 51 * GEvidence.sizes l
  | [], _ => Nat.zero_le _
  | a :: l, h => by
    have k1 := GEvidence.txt_size hg a h.1
    have k2 := GEvidence.txts_size hg l h.2
    have e1 : sOpen.size = 2 := rfl
    have e2 : sShut.size = 1 := rfl
    simp only [GEvidence.txts, GEvidence.sizes, bytesS]
    omega
end Go.Proofs.YtmpepccpnnldoaaDoor

namespace Go.Proofs.YtmpepccpnnldoaaDoor
open Go.RowKit

section
variable {P : Program} {ops : Array Oper} {Q : Exit → Act → World → Prop} {md : Region.Mode} {S : World → Prop}

theorem run_call_func {o : Oper} {ev : Operand → Value} {f : FuncId} {fn : Func} {ars : Array Operand} {ts : Array TypeId} (ho : o.op = .call { callee := .value (.func f), args := ars, argTypes := ts })
    (hev : ev (.func f) = .func (.func f) #[] #[]) (vals : Array Value) (hv : ars.map ev = vals) (hf : P.funcs[f]? = some fn) (hname : (fn.name == "runtime.NumGoroutine") = false) (hb : fn.body.isNone = false) (w : World) :
    (execOp ev o).run P w = .ok (.enter f vals) w := by
  have hc := run_callFunc_body (P := P) hf hname hb
  unfold execOp
  simp only [ho]
  simp [resolve, invoke, Deferred.ofValue, hev, hv, hc]

theorem wpAnyH_call {i : Nat} {o : Oper} {fuel : Nat} {listed : Array Bool} {a : Act} {w : World} {f : FuncId} {vals : Array Value} {R : Ending → World → Prop} (hr : Region.ready md ops listed = [i]) (ho : ops[i]? = some o) (hgd : o.guard = none)
    (hrun : (execOp a.eval o).run P w = .ok (.enter f vals) w) (hc : Calls P f vals w R)
    (h : ∀ e w', R e w' → ∃ v, e = .returned v ∧ S w' ∧ wpAnyH P md ops Q S fuel (listed.setIfInBounds i true) (a.put o.dst v) w') : wpAnyH P md ops Q S (fuel + 1) listed a w := by
  refine wpAnyH_all hr (by simp) fun j hj => ?_
  obtain rfl : j = i := by simpa using hj
  have hw : Region.wanted o (yielded ops a.tmps) = true := by simp [Region.wanted, hgd]
  unfold wpOp
  simp only [ho]
  rw [if_pos hw]
  refine .inl ?_
  unfold Oper.wp
  rw [hrun]
  refine hc.mono fun e w' hR => ?_
  obtain ⟨v, rfl, h1, h2⟩ := h e w' hR
  exact ⟨h1, h2⟩

theorem run_loadVar_cell {w : World} {p : Addr} {ty : TypeId} {v : Value} {d : TypeDesc} (hu : P.underlying ty = some d) (hd : (match d with | .struct _ | .array _ _ => true | _ => false) = false) (hc : w.cell? p = some v) :
    (loadVar ty p).run P w = .ok v w := by
  have hagg : (isAgg ty).run P w = .ok false w := by
    unfold isAgg
    rw [Sem.run_bind, run_underlying hu w]
    cases d <;> simp_all
  simp [loadVar, Sem.run_bind, hagg, hc]

theorem wpAnyH_cell {i : Nat} {oi : Oper} {fuel : Nat} {listed : Array Bool} {a : Act} {w : World} (hi : ops[i]? = some oi)
    (hs : Region.noSelect ops = true) (hf : Region.free md ops listed i = true) (hr : (Region.ready md ops listed).contains i = true) (hgd : oi.guard = none) (ty : TypeId) (x : Operand) (ho : oi.op = .load ty x)
    (b off : Nat) (hx : a.eval x = .pointer (some ⟨b, off, none⟩)) (v : Value) (d : TypeDesc) (hu : P.underlying ty = some d) (hd : (match d with | .struct _ | .array _ _ => true | _ => false) = false)
    (hS : ∀ w, S w → w.cell? ⟨b, off, none⟩ = some v) (hw : S w) (hQ2 : ∀ c a w v, Q (.panic c) (a.put oi.dst v) w → Q (.panic c) a w)
    (h : wpAnyH P md ops Q S fuel (listed.setIfInBounds i true) (a.put oi.dst v) w) : wpAnyH P md ops Q S (fuel + 1) listed a w :=
  wpAnyH_take hi hs hf hr (fun c a w => hQ2 c a w _) (.inl ⟨by simp [Region.wanted, hgd], fun w1 hw1 => by
    unfold execOp
    simp only [ho, hx, Instr.loadAt, Instr.sureAddr, Sem.run_bind, Sem.run_pure, Result.andThen_ok, run_loadVar_cell hu hd (hS w1 hw1)]⟩) hw h

theorem wpAnyH_index {i : Nat} {oi : Oper} {fuel : Nat} {listed : Array Bool} {a : Act} {w : World} (hi : ops[i]? = some oi)
    (hs : Region.noSelect ops = true) (hf : Region.free md ops listed i = true) (hr : (Region.ready md ops listed).contains i = true) (hgd : oi.guard = none) (ty : TypeId) (x y : Operand) (ho : oi.op = .indexAddr ty x y)
    (b off len cap k sz : Nat) (hx : a.eval x = .slice (some ⟨b, off, none⟩) len cap) (hy : a.eval y = .int .i64 (k : Int)) (hk : k < len) (hu : P.underlying ty = some (.slice (P.elem ty))) (hinfo : (P.info? (P.elem ty)).map (·.size) = some sz)
    (hw : S w) (hQ2 : ∀ c a w v, Q (.panic c) (a.put oi.dst v) w → Q (.panic c) a w)
    (h : wpAnyH P md ops Q S fuel (listed.setIfInBounds i true) (a.put oi.dst (.pointer (some ⟨b, off + k * sz, none⟩))) w) : wpAnyH P md ops Q S (fuel + 1) listed a w :=
  wpAnyH_take hi hs hf hr (fun c a w => hQ2 c a w _) (.inl ⟨by simp [Region.wanted, hgd], fun w1 _ => by
    have hsz : (Go.sizeOf (P.elem ty)).run P w1 = .ok sz w1 := by
      cases hq : P.info? (P.elem ty) with
      | none => simp [hq] at hinfo
      | some j => have : j.size = sz := by simpa [hq] using hinfo
                  simp [Go.sizeOf, typeInfo, hq, this]
    have hadd : ∀ n, (⟨b, off, none⟩ : Addr).add n = ⟨b, off + n, none⟩ := fun n => by unfold Addr.add; split <;> simp_all
    unfold execOp
    simp only [ho, hx, hy, run_indexAt_slice _ _ _ _ _ _ _ hu, Sem.run_bind, hsz, Result.andThen_ok]
    rw [if_pos ⟨by omega, by omega⟩]
    simp [hadd]⟩) hw h

/-- The one operation that may come up now, carried out: it yields a value, in another world. -/
theorem wpAnyH_run {i : Nat} {o : Oper} {fuel : Nat} {listed : Array Bool} {a : Act} {w w' : World} {v : Value} (hr : Region.ready md ops listed = [i]) (ho : ops[i]? = some o) (hgd : o.guard = none)
    (hrun : (execOp a.eval o).run P w = .ok (.value v) w') (hS : S w') (h : wpAnyH P md ops Q S fuel (listed.setIfInBounds i true) (a.put o.dst v) w') : wpAnyH P md ops Q S (fuel + 1) listed a w := by
  refine wpAnyH_all hr (by simp) fun j hj => ?_
  obtain rfl : j = i := by simpa using hj
  have hw : Region.wanted o (yielded ops a.tmps) = true := by simp [Region.wanted, hgd]
  unfold wpOp
  simp only [ho]
  rw [if_pos hw]
  refine .inl ?_
  unfold Oper.wp
  rw [hrun]
  exact ⟨hS, h⟩
/-- The one operation that may come up now is a store of a struct into a block of our own. -/
theorem wpAnyH_store_rep {i : Nat} {o : Oper} {fuel : Nat} {listed : Array Bool} {a : Act} {w : World} (hr : Region.ready md ops listed = [i]) (ho0 : ops[i]? = some o) (hgd : o.guard = none) (ty : TypeId) (x y : Operand) (ho : o.op = .store ty x y)
    (B off : Nat) (hx : a.eval x = .pointer (some ⟨B, off, none⟩)) (cs : List Value) (hy : a.eval y = .agg ⟨cs⟩) (T : TypeId) (arr : Array Value) (hob : OB w B T arr) (hi : (P.info? ty).map (·.size) = some cs.length)
    (hfit : off + cs.length ≤ arr.size) (h1 : ∀ v ∈ cs, v.oneCell' = true)
    (h : ∀ w', OB w' B T (splice arr off cs) → w.grownBy w' (some B) → w'.heap.size = w.heap.size → S w' ∧ wpAnyH P md ops Q S fuel (listed.setIfInBounds i true) (a.put o.dst undef) w') : wpAnyH P md ops Q S (fuel + 1) listed a w := by
  refine wpAnyH_all hr (by simp) fun j hj => ?_
  obtain rfl : j = i := by simpa using hj
  have hw : Region.wanted o (yielded ops a.tmps) = true := by simp [Region.wanted, hgd]
  have hst := run_storeCells_at P B off T cs 0 arr w hob (by simpa using hfit) h1
  cases hq : P.info? ty with
  | none => simp [hq] at hi
  | some inf =>
    have hs : inf.size = cs.length := by simpa [hq] using hi
    have hrun : (storeVar ty ⟨B, off, none⟩ (.agg ⟨cs⟩)).run P w = .ok () (w.setRow B (splice arr off cs)) := by
      simp [storeVar, Go.sizeOf, typeInfo, hq, Value.cells, hs, hst, splice]
    unfold wpOp
    simp only [ho0]
    rw [if_pos hw]
    refine .inl ?_
    unfold Oper.wp execOp
    simp only [ho, hx, hy, Instr.storeAt, Instr.sureAddr, Sem.run_bind, Sem.run_pure, Result.andThen_ok, hrun]
    exact h _ (setRow_heap w B arr _ T _ hob) ⟨rfl, rfl, rfl, by simp, fun k _ hk => setRow_other w B k _ (fun e => hk (by rw [e]))⟩ (by simp)

theorem run_op_load_rep {o : Oper} {ev : Operand → Value} {w : World} (ty : TypeId) (x : Operand) (ho : o.op = .load ty x) (b off : Nat) (hx : ev x = .pointer (some ⟨b, off, none⟩)) (cs : List Value) (fs : Array Field) (hu : P.underlying ty = some (.struct fs)) (hi : (P.info? ty).map (·.size) = some cs.length)
    (hc : ∀ j v, cs[j]? = some v → w.cell? ⟨b, off + j, none⟩ = some v) : (execOp ev o).run P w = .ok (.value (.agg ⟨cs⟩)) w := by
  unfold execOp
  simp only [ho, hx, Instr.loadAt, Instr.sureAddr, Sem.run_bind, Sem.run_pure, Result.andThen_ok, run_loadVar_rep w b off ty cs fs hu hi hc]

end
end Go.Proofs.YtmpepccpnnldoaaDoor

namespace Go.Proofs.YtmpepccpnnldoaaDoor
open Go.RowKit Go.Proofs

/-- A number's text: what holds of the function f, in worlds of the kind I, at numbers of the kind g. -/
structure NumT (f : FuncId) (g : Int → Prop) (I : World → Prop) : Prop where
  fine : ∀ n, g n → fine n
  ext : ∀ w w', Ext w w' → I w → I w'
  call : ∀ n, g n → ∀ w, I w → Calls Tryd.prog f #[.int .i64 n] w fun e w' => e = .returned (.string (fmtI n)) ∧ Ext w w'

theorem exec_cat {P : Program} {ev : Operand → Value} {o : Oper} {T yT : TypeId} {x y : Operand} {a b : ByteArray} (ho : o.op = .binOp .add T x y yT) (hx : ev x = .string a) (hy : ev y = .string b) (hb : a.size + b.size ≤ 9223372036854775807) (w : World) : (execOp ev o).run P w = .ok (.value (.string (a ++ b))) w := by
  have h2 : ¬ ((a.size : Int) + (b.size : Int) > 9223372036854775807) := by omega
  have h3 : IntKind.max .i64 = 9223372036854775807 := by decide
  unfold execOp
  simp only [ho]
  simp only [hx, hy]
  simp [eqGuard, binOp, Op.stringOp, h3]
  omega
theorem addrA (b : Nat) : (⟨b, 2, none⟩ : Addr).add 1 = ⟨b, 3, none⟩ := rfl
theorem addrB (b : Nat) : (⟨b, 2, none⟩ : Addr).add 0 = ⟨b, 2, none⟩ := rfl
theorem addrC (b : Nat) : (⟨b, 0, none⟩ : Addr).add 2 = ⟨b, 2, none⟩ := rfl
def TxC (f : FuncId) (g : Int → Prop) (I : World → Prop) (x : GEvidence) : Prop := ∀ (cs : List Value) (w : World), I w → RepL w x.tr cs → GEvidence.okI g x → GEvidence.size x ≤ 1099511627776 →
  Calls Tryd.prog f #[.agg ⟨cs⟩] w fun e w' => e = .returned (.string (GEvidence.txt x)) ∧ Ext w w'

set_option maxRecDepth 100000 in
set_option maxHeartbeats 4000000 in
theorem writeEvidence_impl {g : Int → Prop} {I : World → Prop} (hF : NumT 37 g I) : ∀ x : GEvidence, TxC 24 g I x := by
  refine GEvidence.ind fun v0 v1 v2 xs ih => ?_
  obtain ⟨p, t⟩ := v2
  intro cs w hI hr hok hsz
  obtain ⟨x2, a, c, rfl, -, -, h2, h3⟩ := GEvidence.opened hr
  obtain ⟨rfl, -, -⟩ := GInstanceRef.opened h2
  obtain ⟨hl, hm, -⟩ := h3.lens
  have HS := Lib.hid h3
  have IH := Lib.hid ih
  have HII := Lib.hid hI
  have HOKS := Lib.hid (GEvidence.okIs_get hok.2)
  have hh := hok.1
  have HT : Hid (GEvidence.txt (.mk v0 v1 (.mk p t) xs) = evHead v0 v1 p t ++ GEvidence.txts xs) := rfl
  have HEZ := Lib.hid (evHead_size hF.fine hh)
  have HTZ := Lib.hid (GEvidence.txts_size hF.fine xs hok.2)
  simp only [GEvidence.size] at hsz
  have HTS : Hid ((GEvidence.txt (.mk v0 v1 (.mk p t) xs)).size ≤ 100 + 51 * 1099511627776) := by have h1 := HEZ.out; have h2 := HTZ.out; show _ ≤ _; rw [HT.out, bytesS]; omega
  generalize GEvidence.txt (.mk v0 v1 (.mk p t) xs) = tx at *
  clear hr h2 h3 ih hI hok
  simp only [List.cons_append, List.nil_append]
  have HB := Lib.hid (fun W (hW : Ext (w.alloc (.cells #[.int .i64 v0, .int .i64 v1, .int .i64 p, .int .i64 t, .slice a xs.length c] 32)) W) => (OB.new w 32 #[.int .i64 v0, .int .i64 v1, .int .i64 p, .int .i64 t, .slice a xs.length c]).ext hW)
  rcases hh with ⟨rfl, hp, ha⟩ | ⟨rfl | rfl, hn⟩ | rfl | rfl
  · have HP := Lib.hid (fmtI_size (hF.fine p hp))
    have HA := Lib.hid (fmtI_size (hF.fine t ha))
    have S1 : Hid ((⟨#[105, 110, 115, 116, 32]⟩ : ByteArray).size + (fmtI p).size ≤ 26) := by have := HP.out; show 5 + _ ≤ _; omega
    have S2 : Hid ((⟨#[105, 110, 115, 116, 32]⟩ ++ fmtI p).size + (⟨#[46]⟩ : ByteArray).size ≤ 27) := by have := S1.out; show _ + 1 ≤ _; rw [bytesS]; omega
    have S3 : Hid ((⟨#[105, 110, 115, 116, 32]⟩ ++ fmtI p ++ ⟨#[46]⟩).size + (fmtI t).size ≤ 48) := by have := S2.out; have := HA.out; show _ ≤ _; rw [bytesS]; omega
    go_enter Tryd.func24, Tryd.ntmps24
    go_wp2_with fail
    refine wp_region_held_drew (S := Ext (w.alloc (.cells #[.int .i64 1, .int .i64 v1, .int .i64 p, .int .i64 t, .slice a xs.length c] 32))) (by kernel_rfl) ?_ (fun hHeld => ?_)
    · exact .drew (.refl _)
    refine wpAnyH_take (i := 0) rfl (by kernel_rfl) (by kernel_rfl) (by kernel_rfl) (fun _ _ _ h => h) (.inl ⟨rfl, fun _ _ => rfl⟩) (by assumption) ?_
    simp only [Act.put, List.getElem_toArray, List.getElem_cons_zero, List.setIfInBounds_toArray, List.set_cons_zero, List.set_cons_succ]
    refine wpAnyH_take (i := 1) rfl (by kernel_rfl) (by kernel_rfl) (by kernel_rfl) (fun _ _ _ h => h) (.inl ⟨rfl, fun _ _ => rfl⟩) (by assumption) ?_
    simp only [Act.put, List.getElem_toArray, List.getElem_cons_zero, List.getElem_cons_succ, List.setIfInBounds_toArray, List.set_cons_zero, List.set_cons_succ]
    refine wpAnyH_cell (i := 2) rfl (by kernel_rfl) (by kernel_rfl) (by kernel_rfl) rfl 3 (.tmp 11) rfl (w.heap.size) (2) rfl (.int .i64 p) _ Tryd.underlying3 rfl (fun W hW => (HB.out W hW).cell 2) (by assumption) (fun _ _ _ _ h => h) ?_
    simp only [Act.put, List.getElem_toArray, List.getElem_cons_zero, List.getElem_cons_succ, List.setIfInBounds_toArray, List.set_cons_zero, List.set_cons_succ]
    refine wpAnyH_take (i := 6) rfl (by kernel_rfl) (by kernel_rfl) (by kernel_rfl) (fun _ _ _ h => h) (.inl ⟨rfl, fun _ _ => rfl⟩) (by assumption) ?_
    simp only [Act.put, List.getElem_toArray, List.getElem_cons_zero, List.getElem_cons_succ, List.setIfInBounds_toArray, List.set_cons_zero, List.set_cons_succ]
    refine wpAnyH_take (i := 7) rfl (by kernel_rfl) (by kernel_rfl) (by kernel_rfl) (fun _ _ _ h => h) (.inl ⟨rfl, fun _ _ => rfl⟩) (by assumption) ?_
    simp only [Act.put, List.getElem_toArray, List.getElem_cons_zero, List.getElem_cons_succ, List.setIfInBounds_toArray, List.set_cons_zero, List.set_cons_succ]
    refine wpAnyH_cell (i := 8) rfl (by kernel_rfl) (by kernel_rfl) (by kernel_rfl) rfl 3 (.tmp 17) rfl (w.heap.size) (3) rfl (.int .i64 t) _ Tryd.underlying3 rfl (fun W hW => (HB.out W hW).cell 3) (by assumption) (fun _ _ _ _ h => h) ?_
    simp only [Act.put, List.getElem_toArray, List.getElem_cons_zero, List.getElem_cons_succ, List.setIfInBounds_toArray, List.set_cons_zero, List.set_cons_succ]
    refine wpAnyH_call (i := 3) (by kernel_rfl) rfl rfl (run_call_func rfl rfl #[.int .i64 p] (by simp only [List.map_toArray, List.map_cons, List.map_nil, Act.eval]; rfl) Tryd.func37 (by kernel_rfl) (by kernel_rfl) _) (hF.call p hp _ (hF.ext _ _ (Ext.trans (.alloc (.refl _) _) hHeld) HII.out)) ?_; rintro e w1 ⟨rfl, hw1⟩
    have hs1 := Ext.trans hHeld hw1
    refine ⟨_, rfl, hs1, ?_⟩
    simp only [Act.put, List.getElem_toArray, List.getElem_cons_zero, List.getElem_cons_succ, List.setIfInBounds_toArray, List.set_cons_zero, List.set_cons_succ]
    refine wpAnyH_take (i := 4) rfl (by kernel_rfl) (by kernel_rfl) (by kernel_rfl) (fun _ _ _ h => h) (.inl ⟨rfl, fun _ _ => exec_cat rfl rfl rfl (Nat.le_trans S1.out (by decide)) _⟩) (by assumption) ?_
    simp only [Act.put, List.getElem_toArray, List.getElem_cons_zero, List.getElem_cons_succ, List.setIfInBounds_toArray, List.set_cons_zero, List.set_cons_succ]
    refine wpAnyH_take (i := 5) rfl (by kernel_rfl) (by kernel_rfl) (by kernel_rfl) (fun _ _ _ h => h) (.inl ⟨rfl, fun _ _ => exec_cat rfl rfl rfl (Nat.le_trans S2.out (by decide)) _⟩) (by assumption) ?_
    simp only [Act.put, List.getElem_toArray, List.getElem_cons_zero, List.getElem_cons_succ, List.setIfInBounds_toArray, List.set_cons_zero, List.set_cons_succ]
    refine wpAnyH_call (i := 9) (by kernel_rfl) rfl rfl (run_call_func rfl rfl #[.int .i64 t] (by simp only [List.map_toArray, List.map_cons, List.map_nil, Act.eval]; rfl) Tryd.func37 (by kernel_rfl) (by kernel_rfl) _) (hF.call t ha _ (hF.ext _ _ (Ext.trans (.alloc (.refl _) _) hs1) HII.out)) ?_; rintro e w2 ⟨rfl, hw2⟩
    have hs2 := Ext.trans hs1 hw2
    refine ⟨_, rfl, hs2, ?_⟩
    simp only [Act.put, List.getElem_toArray, List.getElem_cons_zero, List.getElem_cons_succ, List.setIfInBounds_toArray, List.set_cons_zero, List.set_cons_succ]
    refine wpAnyH_take (i := 10) rfl (by kernel_rfl) (by kernel_rfl) (by kernel_rfl) (fun _ _ _ h => h) (.inl ⟨rfl, fun _ _ => exec_cat rfl rfl rfl (Nat.le_trans S3.out (by decide)) _⟩) (by assumption) ?_
    simp only [Act.put, List.getElem_toArray, List.getElem_cons_zero, List.getElem_cons_succ, List.setIfInBounds_toArray, List.set_cons_zero, List.set_cons_succ]
    refine wpAnyH_take (i := 11) rfl (by kernel_rfl) (by kernel_rfl) (by kernel_rfl) (fun _ _ _ h => h) (.inl ⟨rfl, fun _ _ => rfl⟩) (by assumption) ?_
    simp only [Act.put, List.getElem_toArray, List.getElem_cons_zero, List.getElem_cons_succ, List.setIfInBounds_toArray, List.set_cons_zero, List.set_cons_succ]
    refine wpAnyH_done (by kernel_rfl) ?_ _
    clear hHeld hs1
    simp only [addrA, addrB, addrC]
    have hce := (HB.out _ hs2).cell
    have HXX : Hid (Ext w w2) := Ext.trans (.alloc (.refl _) _) hs2
    go_wp2_with fail
    go_loopw [3, 40] (fun o i wr => ∃ (k : Nat) (s : ByteArray), k ≤ xs.length ∧ i = .int .i64 k ∧ o = .string s ∧ Ext w wr ∧ Hid (s ++ GEvidence.txts (xs.drop k) = tx)) (fun _ i _ => xs.length - (intOf i).toNat)
    case atStart => exact ⟨0, _, Nat.zero_le _, rfl, rfl, HXX.out, by rw [List.drop_zero]; exact HT.out.symm⟩
    case round =>
      obtain ⟨k, s, hk, rfl, rfl, hw, HE⟩ := hrel
      by_cases hlt : k < xs.length
      · obtain ⟨b, off, cs, rfl, hb, hcs, hc⟩ := (HS.out.ext hw).at2 (k := k) (GEvidence.trs_get hlt)
        have HM := Lib.hid (List.getElem_mem hlt)
        have HCS := Lib.hid hcs
        have HC := Lib.hid hc
        have HI : Hid ((Tryd.prog.info? 32).map (·.size) = some cs.length) := by rw [← hcs.length, GEvidence.tr_len]; exact isz32
        have HCL : Hid (cs.length = 5) := by rw [← hcs.length, GEvidence.tr_len]; rfl
        clear hcs hc
        have HST := Lib.hid (GEvidence.txts_step hlt)
        have HSZ : Hid (GEvidence.size xs[k] ≤ 1099511627776) := by have h1 := GEvidence.sizes_step hlt; have h2 := GEvidence.sizes_drop xs k; show _ ≤ _; omega
        have HZ : Hid (s.size + (2 + (GEvidence.txt xs[k]).size + 1) ≤ 9223372036854775807) := by
          have h1 := congrArg ByteArray.size HE.out
          rw [HST.out] at h1
          simp only [bytesS] at h1
          have h2 : sOpen.size = 2 := rfl
          have h3 : sShut.size = 1 := rfl
          have h4 := HTS.out
          show _ ≤ _
          omega
        go_wp2_with (first
          | (refine wpList_load_rep rfl 32 (.tmp 42) rfl b (off + k * 5) rfl cs _ Tryd.underlying32 HI.out HC.out ?_)
          | (refine wpList_store_rep rfl 32 (.tmp 5) (.tmp 43) rfl wr.heap.size 0 rfl cs rfl 32 _ (OB.new wr _ _) HI.out (by rw [HCL.out]; exact Nat.le_refl _) HCS.out.one ?_; intro wb hob hgb hzb; rw [splice_whole (by rw [HCL.out]; rfl)] at hob; have HOB := Lib.hid hob; have HXB := Lib.hid (grown_ext (.alloc (.refl wr) _) hgb (Nat.le_refl _)); clear hob hgb hzb)
          | (refine wpList_load_rep rfl 32 (.tmp 5) rfl wr.heap.size 0 rfl cs _ Tryd.underlying32 HI.out HOB.out.cells0 ?_))
        refine (IH.out _ HM.out _ _ (hF.ext _ _ (hw.trans HXB.out) HII.out) (HCS.out.ext HXB.out) (HOKS.out _ HM.out) HSZ.out).mono ?_; rintro e w1 ⟨rfl, hw1⟩
        have HW1 := Lib.hid (hw.trans (HXB.out.trans hw1))
        clear hw1
        generalize GEvidence.txt xs[k] = z at *
        go_wp2_with fail
        any_goals (exfalso; have := HZ.out; omega)
        go_roundw
        case rel => exact ⟨k + 1, _, by omega, by go_num, rfl, HW1.out, by have h1 := HE.out; rw [HST.out] at h1; show _ = _; rw [← h1]; simp only [bytesA]; rfl⟩
        case measure => simp [intOf]; omega
      · have hkl : k = xs.length := by omega
        go_wp2_with fail
        go_ret
        have := HE.out
        rw [hkl, List.drop_length, GEvidence.txts, bytesE] at this
        exact ⟨by rw [this]; rfl, hw⟩
  · have HN := Lib.hid (fmtI_size (hF.fine v1 hn))
    have S1 : Hid ((⟨#[98, 111, 117, 110, 100, 32]⟩ : ByteArray).size + (fmtI v1).size ≤ 27) := by have := HN.out; show 6 + _ ≤ _; omega
    go_enter Tryd.func24, Tryd.ntmps24
    go_wp2_with fail
    refine (hF.call v1 hn _ (hF.ext _ _ (.alloc (.refl _) _) HII.out)).mono ?_; rintro e w1 ⟨rfl, hw1⟩
    have hce := (HB.out _ hw1).cell
    have HXX : Hid (Ext w w1) := Ext.trans (.alloc (.refl _) _) hw1
    go_wp2_with fail
    any_goals (exfalso; have h1 := S1.out; have h2 : (⟨#[98, 111, 117, 110, 100, 32]⟩ : ByteArray).size = 6 := rfl; omega)
    go_loopw [3, 40] (fun o i wr => ∃ (k : Nat) (s : ByteArray), k ≤ xs.length ∧ i = .int .i64 k ∧ o = .string s ∧ Ext w wr ∧ Hid (s ++ GEvidence.txts (xs.drop k) = tx)) (fun _ i _ => xs.length - (intOf i).toNat)
    case atStart => exact ⟨0, _, Nat.zero_le _, rfl, rfl, HXX.out, by rw [List.drop_zero]; exact HT.out.symm⟩
    case round =>
      obtain ⟨k, s, hk, rfl, rfl, hw, HE⟩ := hrel
      by_cases hlt : k < xs.length
      · obtain ⟨b, off, cs, rfl, hb, hcs, hc⟩ := (HS.out.ext hw).at2 (k := k) (GEvidence.trs_get hlt)
        have HM := Lib.hid (List.getElem_mem hlt)
        have HCS := Lib.hid hcs
        have HC := Lib.hid hc
        have HI : Hid ((Tryd.prog.info? 32).map (·.size) = some cs.length) := by rw [← hcs.length, GEvidence.tr_len]; exact isz32
        have HCL : Hid (cs.length = 5) := by rw [← hcs.length, GEvidence.tr_len]; rfl
        clear hcs hc
        have HST := Lib.hid (GEvidence.txts_step hlt)
        have HSZ : Hid (GEvidence.size xs[k] ≤ 1099511627776) := by have h1 := GEvidence.sizes_step hlt; have h2 := GEvidence.sizes_drop xs k; show _ ≤ _; omega
        have HZ : Hid (s.size + (2 + (GEvidence.txt xs[k]).size + 1) ≤ 9223372036854775807) := by
          have h1 := congrArg ByteArray.size HE.out
          rw [HST.out] at h1
          simp only [bytesS] at h1
          have h2 : sOpen.size = 2 := rfl
          have h3 : sShut.size = 1 := rfl
          have h4 := HTS.out
          show _ ≤ _
          omega
        go_wp2_with (first
          | (refine wpList_load_rep rfl 32 (.tmp 42) rfl b (off + k * 5) rfl cs _ Tryd.underlying32 HI.out HC.out ?_)
          | (refine wpList_store_rep rfl 32 (.tmp 5) (.tmp 43) rfl wr.heap.size 0 rfl cs rfl 32 _ (OB.new wr _ _) HI.out (by rw [HCL.out]; exact Nat.le_refl _) HCS.out.one ?_; intro wb hob hgb hzb; rw [splice_whole (by rw [HCL.out]; rfl)] at hob; have HOB := Lib.hid hob; have HXB := Lib.hid (grown_ext (.alloc (.refl wr) _) hgb (Nat.le_refl _)); clear hob hgb hzb)
          | (refine wpList_load_rep rfl 32 (.tmp 5) rfl wr.heap.size 0 rfl cs _ Tryd.underlying32 HI.out HOB.out.cells0 ?_))
        refine (IH.out _ HM.out _ _ (hF.ext _ _ (hw.trans HXB.out) HII.out) (HCS.out.ext HXB.out) (HOKS.out _ HM.out) HSZ.out).mono ?_; rintro e w1 ⟨rfl, hw1⟩
        have HW1 := Lib.hid (hw.trans (HXB.out.trans hw1))
        clear hw1
        generalize GEvidence.txt xs[k] = z at *
        go_wp2_with fail
        any_goals (exfalso; have := HZ.out; omega)
        go_roundw
        case rel => exact ⟨k + 1, _, by omega, by go_num, rfl, HW1.out, by have h1 := HE.out; rw [HST.out] at h1; show _ = _; rw [← h1]; simp only [bytesA]; rfl⟩
        case measure => simp [intOf]; omega
      · have hkl : k = xs.length := by omega
        go_wp2_with fail
        go_ret
        have := HE.out
        rw [hkl, List.drop_length, GEvidence.txts, bytesE] at this
        exact ⟨by rw [this]; rfl, hw⟩
  · have HN := Lib.hid (fmtI_size (hF.fine v1 hn))
    have S1 : Hid ((⟨#[115, 117, 112, 101, 114, 32]⟩ : ByteArray).size + (fmtI v1).size ≤ 27) := by have := HN.out; show 6 + _ ≤ _; omega
    go_enter Tryd.func24, Tryd.ntmps24
    go_wp2_with fail
    refine (hF.call v1 hn _ (hF.ext _ _ (.alloc (.refl _) _) HII.out)).mono ?_; rintro e w1 ⟨rfl, hw1⟩
    have hce := (HB.out _ hw1).cell
    have HXX : Hid (Ext w w1) := Ext.trans (.alloc (.refl _) _) hw1
    go_wp2_with fail
    any_goals (exfalso; have h1 := S1.out; have h2 : (⟨#[115, 117, 112, 101, 114, 32]⟩ : ByteArray).size = 6 := rfl; omega)
    go_loopw [3, 40] (fun o i wr => ∃ (k : Nat) (s : ByteArray), k ≤ xs.length ∧ i = .int .i64 k ∧ o = .string s ∧ Ext w wr ∧ Hid (s ++ GEvidence.txts (xs.drop k) = tx)) (fun _ i _ => xs.length - (intOf i).toNat)
    case atStart => exact ⟨0, _, Nat.zero_le _, rfl, rfl, HXX.out, by rw [List.drop_zero]; exact HT.out.symm⟩
    case round =>
      obtain ⟨k, s, hk, rfl, rfl, hw, HE⟩ := hrel
      by_cases hlt : k < xs.length
      · obtain ⟨b, off, cs, rfl, hb, hcs, hc⟩ := (HS.out.ext hw).at2 (k := k) (GEvidence.trs_get hlt)
        have HM := Lib.hid (List.getElem_mem hlt)
        have HCS := Lib.hid hcs
        have HC := Lib.hid hc
        have HI : Hid ((Tryd.prog.info? 32).map (·.size) = some cs.length) := by rw [← hcs.length, GEvidence.tr_len]; exact isz32
        have HCL : Hid (cs.length = 5) := by rw [← hcs.length, GEvidence.tr_len]; rfl
        clear hcs hc
        have HST := Lib.hid (GEvidence.txts_step hlt)
        have HSZ : Hid (GEvidence.size xs[k] ≤ 1099511627776) := by have h1 := GEvidence.sizes_step hlt; have h2 := GEvidence.sizes_drop xs k; show _ ≤ _; omega
        have HZ : Hid (s.size + (2 + (GEvidence.txt xs[k]).size + 1) ≤ 9223372036854775807) := by
          have h1 := congrArg ByteArray.size HE.out
          rw [HST.out] at h1
          simp only [bytesS] at h1
          have h2 : sOpen.size = 2 := rfl
          have h3 : sShut.size = 1 := rfl
          have h4 := HTS.out
          show _ ≤ _
          omega
        go_wp2_with (first
          | (refine wpList_load_rep rfl 32 (.tmp 42) rfl b (off + k * 5) rfl cs _ Tryd.underlying32 HI.out HC.out ?_)
          | (refine wpList_store_rep rfl 32 (.tmp 5) (.tmp 43) rfl wr.heap.size 0 rfl cs rfl 32 _ (OB.new wr _ _) HI.out (by rw [HCL.out]; exact Nat.le_refl _) HCS.out.one ?_; intro wb hob hgb hzb; rw [splice_whole (by rw [HCL.out]; rfl)] at hob; have HOB := Lib.hid hob; have HXB := Lib.hid (grown_ext (.alloc (.refl wr) _) hgb (Nat.le_refl _)); clear hob hgb hzb)
          | (refine wpList_load_rep rfl 32 (.tmp 5) rfl wr.heap.size 0 rfl cs _ Tryd.underlying32 HI.out HOB.out.cells0 ?_))
        refine (IH.out _ HM.out _ _ (hF.ext _ _ (hw.trans HXB.out) HII.out) (HCS.out.ext HXB.out) (HOKS.out _ HM.out) HSZ.out).mono ?_; rintro e w1 ⟨rfl, hw1⟩
        have HW1 := Lib.hid (hw.trans (HXB.out.trans hw1))
        clear hw1
        generalize GEvidence.txt xs[k] = z at *
        go_wp2_with fail
        any_goals (exfalso; have := HZ.out; omega)
        go_roundw
        case rel => exact ⟨k + 1, _, by omega, by go_num, rfl, HW1.out, by have h1 := HE.out; rw [HST.out] at h1; show _ = _; rw [← h1]; simp only [bytesA]; rfl⟩
        case measure => simp [intOf]; omega
      · have hkl : k = xs.length := by omega
        go_wp2_with fail
        go_ret
        have := HE.out
        rw [hkl, List.drop_length, GEvidence.txts, bytesE] at this
        exact ⟨by rw [this]; rfl, hw⟩
  · go_enter Tryd.func24, Tryd.ntmps24
    go_wp2_with fail
    have HXX : Hid (Ext w (w.alloc (.cells #[.int .i64 4, .int .i64 v1, .int .i64 p, .int .i64 t, .slice a xs.length c] 32))) := .alloc (.refl _) _
    go_loopw [3, 40] (fun o i wr => ∃ (k : Nat) (s : ByteArray), k ≤ xs.length ∧ i = .int .i64 k ∧ o = .string s ∧ Ext w wr ∧ Hid (s ++ GEvidence.txts (xs.drop k) = tx)) (fun _ i _ => xs.length - (intOf i).toNat)
    case atStart => exact ⟨0, _, Nat.zero_le _, rfl, rfl, HXX.out, by rw [List.drop_zero]; exact HT.out.symm⟩
    case round =>
      obtain ⟨k, s, hk, rfl, rfl, hw, HE⟩ := hrel
      by_cases hlt : k < xs.length
      · obtain ⟨b, off, cs, rfl, hb, hcs, hc⟩ := (HS.out.ext hw).at2 (k := k) (GEvidence.trs_get hlt)
        have HM := Lib.hid (List.getElem_mem hlt)
        have HCS := Lib.hid hcs
        have HC := Lib.hid hc
        have HI : Hid ((Tryd.prog.info? 32).map (·.size) = some cs.length) := by rw [← hcs.length, GEvidence.tr_len]; exact isz32
        have HCL : Hid (cs.length = 5) := by rw [← hcs.length, GEvidence.tr_len]; rfl
        clear hcs hc
        have HST := Lib.hid (GEvidence.txts_step hlt)
        have HSZ : Hid (GEvidence.size xs[k] ≤ 1099511627776) := by have h1 := GEvidence.sizes_step hlt; have h2 := GEvidence.sizes_drop xs k; show _ ≤ _; omega
        have HZ : Hid (s.size + (2 + (GEvidence.txt xs[k]).size + 1) ≤ 9223372036854775807) := by
          have h1 := congrArg ByteArray.size HE.out
          rw [HST.out] at h1
          simp only [bytesS] at h1
          have h2 : sOpen.size = 2 := rfl
          have h3 : sShut.size = 1 := rfl
          have h4 := HTS.out
          show _ ≤ _
          omega
        go_wp2_with (first
          | (refine wpList_load_rep rfl 32 (.tmp 42) rfl b (off + k * 5) rfl cs _ Tryd.underlying32 HI.out HC.out ?_)
          | (refine wpList_store_rep rfl 32 (.tmp 5) (.tmp 43) rfl wr.heap.size 0 rfl cs rfl 32 _ (OB.new wr _ _) HI.out (by rw [HCL.out]; exact Nat.le_refl _) HCS.out.one ?_; intro wb hob hgb hzb; rw [splice_whole (by rw [HCL.out]; rfl)] at hob; have HOB := Lib.hid hob; have HXB := Lib.hid (grown_ext (.alloc (.refl wr) _) hgb (Nat.le_refl _)); clear hob hgb hzb)
          | (refine wpList_load_rep rfl 32 (.tmp 5) rfl wr.heap.size 0 rfl cs _ Tryd.underlying32 HI.out HOB.out.cells0 ?_))
        refine (IH.out _ HM.out _ _ (hF.ext _ _ (hw.trans HXB.out) HII.out) (HCS.out.ext HXB.out) (HOKS.out _ HM.out) HSZ.out).mono ?_; rintro e w1 ⟨rfl, hw1⟩
        have HW1 := Lib.hid (hw.trans (HXB.out.trans hw1))
        clear hw1
        generalize GEvidence.txt xs[k] = z at *
        go_wp2_with fail
        any_goals (exfalso; have := HZ.out; omega)
        go_roundw
        case rel => exact ⟨k + 1, _, by omega, by go_num, rfl, HW1.out, by have h1 := HE.out; rw [HST.out] at h1; show _ = _; rw [← h1]; simp only [bytesA]; rfl⟩
        case measure => simp [intOf]; omega
      · have hkl : k = xs.length := by omega
        go_wp2_with fail
        go_ret
        have := HE.out
        rw [hkl, List.drop_length, GEvidence.txts, bytesE] at this
        exact ⟨by rw [this]; rfl, hw⟩
  · go_enter Tryd.func24, Tryd.ntmps24
    go_wp2_with fail
    have HXX : Hid (Ext w (w.alloc (.cells #[.int .i64 5, .int .i64 v1, .int .i64 p, .int .i64 t, .slice a xs.length c] 32))) := .alloc (.refl _) _
    go_loopw [3, 40] (fun o i wr => ∃ (k : Nat) (s : ByteArray), k ≤ xs.length ∧ i = .int .i64 k ∧ o = .string s ∧ Ext w wr ∧ Hid (s ++ GEvidence.txts (xs.drop k) = tx)) (fun _ i _ => xs.length - (intOf i).toNat)
    case atStart => exact ⟨0, _, Nat.zero_le _, rfl, rfl, HXX.out, by rw [List.drop_zero]; exact HT.out.symm⟩
    case round =>
      obtain ⟨k, s, hk, rfl, rfl, hw, HE⟩ := hrel
      by_cases hlt : k < xs.length
      · obtain ⟨b, off, cs, rfl, hb, hcs, hc⟩ := (HS.out.ext hw).at2 (k := k) (GEvidence.trs_get hlt)
        have HM := Lib.hid (List.getElem_mem hlt)
        have HCS := Lib.hid hcs
        have HC := Lib.hid hc
        have HI : Hid ((Tryd.prog.info? 32).map (·.size) = some cs.length) := by rw [← hcs.length, GEvidence.tr_len]; exact isz32
        have HCL : Hid (cs.length = 5) := by rw [← hcs.length, GEvidence.tr_len]; rfl
        clear hcs hc
        have HST := Lib.hid (GEvidence.txts_step hlt)
        have HSZ : Hid (GEvidence.size xs[k] ≤ 1099511627776) := by have h1 := GEvidence.sizes_step hlt; have h2 := GEvidence.sizes_drop xs k; show _ ≤ _; omega
        have HZ : Hid (s.size + (2 + (GEvidence.txt xs[k]).size + 1) ≤ 9223372036854775807) := by
          have h1 := congrArg ByteArray.size HE.out
          rw [HST.out] at h1
          simp only [bytesS] at h1
          have h2 : sOpen.size = 2 := rfl
          have h3 : sShut.size = 1 := rfl
          have h4 := HTS.out
          show _ ≤ _
          omega
        go_wp2_with (first
          | (refine wpList_load_rep rfl 32 (.tmp 42) rfl b (off + k * 5) rfl cs _ Tryd.underlying32 HI.out HC.out ?_)
          | (refine wpList_store_rep rfl 32 (.tmp 5) (.tmp 43) rfl wr.heap.size 0 rfl cs rfl 32 _ (OB.new wr _ _) HI.out (by rw [HCL.out]; exact Nat.le_refl _) HCS.out.one ?_; intro wb hob hgb hzb; rw [splice_whole (by rw [HCL.out]; rfl)] at hob; have HOB := Lib.hid hob; have HXB := Lib.hid (grown_ext (.alloc (.refl wr) _) hgb (Nat.le_refl _)); clear hob hgb hzb)
          | (refine wpList_load_rep rfl 32 (.tmp 5) rfl wr.heap.size 0 rfl cs _ Tryd.underlying32 HI.out HOB.out.cells0 ?_))
        refine (IH.out _ HM.out _ _ (hF.ext _ _ (hw.trans HXB.out) HII.out) (HCS.out.ext HXB.out) (HOKS.out _ HM.out) HSZ.out).mono ?_; rintro e w1 ⟨rfl, hw1⟩
        have HW1 := Lib.hid (hw.trans (HXB.out.trans hw1))
        clear hw1
        generalize GEvidence.txt xs[k] = z at *
        go_wp2_with fail
        any_goals (exfalso; have := HZ.out; omega)
        go_roundw
        case rel => exact ⟨k + 1, _, by omega, by go_num, rfl, HW1.out, by have h1 := HE.out; rw [HST.out] at h1; show _ = _; rw [← h1]; simp only [bytesA]; rfl⟩
        case measure => simp [intOf]; omega
      · have hkl : k = xs.length := by omega
        go_wp2_with fail
        go_ret
        have := HE.out
        rw [hkl, List.drop_length, GEvidence.txts, bytesE] at this
        exact ⟨by rw [this]; rfl, hw⟩

set_option maxRecDepth 100000 in
set_option maxHeartbeats 4000000 in
theorem l24Text_spec {g : Int → Prop} {I : World → Prop} (hF : NumT 36 g I) : ∀ x : GEvidence, TxC 21 g I x := by
  refine GEvidence.ind fun v0 v1 v2 xs ih => ?_
  obtain ⟨p, t⟩ := v2
  intro cs w hI hr hok hsz
  obtain ⟨x2, a, c, rfl, -, -, h2, h3⟩ := GEvidence.opened hr
  obtain ⟨rfl, -, -⟩ := GInstanceRef.opened h2
  obtain ⟨hl, hm, -⟩ := h3.lens
  have HS := Lib.hid h3
  have IH := Lib.hid ih
  have HII := Lib.hid hI
  have HOKS := Lib.hid (GEvidence.okIs_get hok.2)
  have hh := hok.1
  have HT : Hid (GEvidence.txt (.mk v0 v1 (.mk p t) xs) = evHead v0 v1 p t ++ GEvidence.txts xs) := rfl
  have HEZ := Lib.hid (evHead_size hF.fine hh)
  have HTZ := Lib.hid (GEvidence.txts_size hF.fine xs hok.2)
  simp only [GEvidence.size] at hsz
  have HTS : Hid ((GEvidence.txt (.mk v0 v1 (.mk p t) xs)).size ≤ 100 + 51 * 1099511627776) := by have h1 := HEZ.out; have h2 := HTZ.out; show _ ≤ _; rw [HT.out, bytesS]; omega
  generalize GEvidence.txt (.mk v0 v1 (.mk p t) xs) = tx at *
  clear hr h2 h3 ih hI hok
  simp only [List.cons_append, List.nil_append]
  have HB := Lib.hid (fun W (hW : Ext (w.alloc (.cells #[.int .i64 v0, .int .i64 v1, .int .i64 p, .int .i64 t, .slice a xs.length c] 32)) W) => (OB.new w 32 #[.int .i64 v0, .int .i64 v1, .int .i64 p, .int .i64 t, .slice a xs.length c]).ext hW)
  rcases hh with ⟨rfl, hp, ha⟩ | ⟨rfl | rfl, hn⟩ | rfl | rfl
  · have HP := Lib.hid (fmtI_size (hF.fine p hp))
    have HA := Lib.hid (fmtI_size (hF.fine t ha))
    have S1 : Hid ((⟨#[105, 110, 115, 116, 32]⟩ : ByteArray).size + (fmtI p).size ≤ 26) := by have := HP.out; show 5 + _ ≤ _; omega
    have S2 : Hid ((⟨#[105, 110, 115, 116, 32]⟩ ++ fmtI p).size + (⟨#[46]⟩ : ByteArray).size ≤ 27) := by have := S1.out; show _ + 1 ≤ _; rw [bytesS]; omega
    have S3 : Hid ((⟨#[105, 110, 115, 116, 32]⟩ ++ fmtI p ++ ⟨#[46]⟩).size + (fmtI t).size ≤ 48) := by have := S2.out; have := HA.out; show _ ≤ _; rw [bytesS]; omega
    go_enter Tryd.func21, Tryd.ntmps21
    go_wp2_with fail
    refine wp_region_held_drew (S := Ext (w.alloc (.cells #[.int .i64 1, .int .i64 v1, .int .i64 p, .int .i64 t, .slice a xs.length c] 32))) (by kernel_rfl) ?_ (fun hHeld => ?_)
    · exact .drew (.refl _)
    refine wpAnyH_take (i := 0) rfl (by kernel_rfl) (by kernel_rfl) (by kernel_rfl) (fun _ _ _ h => h) (.inl ⟨rfl, fun _ _ => rfl⟩) (by assumption) ?_
    simp only [Act.put, List.getElem_toArray, List.getElem_cons_zero, List.setIfInBounds_toArray, List.set_cons_zero, List.set_cons_succ]
    refine wpAnyH_take (i := 1) rfl (by kernel_rfl) (by kernel_rfl) (by kernel_rfl) (fun _ _ _ h => h) (.inl ⟨rfl, fun _ _ => rfl⟩) (by assumption) ?_
    simp only [Act.put, List.getElem_toArray, List.getElem_cons_zero, List.getElem_cons_succ, List.setIfInBounds_toArray, List.set_cons_zero, List.set_cons_succ]
    refine wpAnyH_cell (i := 2) rfl (by kernel_rfl) (by kernel_rfl) (by kernel_rfl) rfl 3 (.tmp 10) rfl (w.heap.size) (2) rfl (.int .i64 p) _ Tryd.underlying3 rfl (fun W hW => (HB.out W hW).cell 2) (by assumption) (fun _ _ _ _ h => h) ?_
    simp only [Act.put, List.getElem_toArray, List.getElem_cons_zero, List.getElem_cons_succ, List.setIfInBounds_toArray, List.set_cons_zero, List.set_cons_succ]
    refine wpAnyH_take (i := 6) rfl (by kernel_rfl) (by kernel_rfl) (by kernel_rfl) (fun _ _ _ h => h) (.inl ⟨rfl, fun _ _ => rfl⟩) (by assumption) ?_
    simp only [Act.put, List.getElem_toArray, List.getElem_cons_zero, List.getElem_cons_succ, List.setIfInBounds_toArray, List.set_cons_zero, List.set_cons_succ]
    refine wpAnyH_take (i := 7) rfl (by kernel_rfl) (by kernel_rfl) (by kernel_rfl) (fun _ _ _ h => h) (.inl ⟨rfl, fun _ _ => rfl⟩) (by assumption) ?_
    simp only [Act.put, List.getElem_toArray, List.getElem_cons_zero, List.getElem_cons_succ, List.setIfInBounds_toArray, List.set_cons_zero, List.set_cons_succ]
    refine wpAnyH_cell (i := 8) rfl (by kernel_rfl) (by kernel_rfl) (by kernel_rfl) rfl 3 (.tmp 16) rfl (w.heap.size) (3) rfl (.int .i64 t) _ Tryd.underlying3 rfl (fun W hW => (HB.out W hW).cell 3) (by assumption) (fun _ _ _ _ h => h) ?_
    simp only [Act.put, List.getElem_toArray, List.getElem_cons_zero, List.getElem_cons_succ, List.setIfInBounds_toArray, List.set_cons_zero, List.set_cons_succ]
    refine wpAnyH_call (i := 3) (by kernel_rfl) rfl rfl (run_call_func rfl rfl #[.int .i64 p] (by simp only [List.map_toArray, List.map_cons, List.map_nil, Act.eval]; rfl) Tryd.func36 (by kernel_rfl) (by kernel_rfl) _) (hF.call p hp _ (hF.ext _ _ (Ext.trans (.alloc (.refl _) _) hHeld) HII.out)) ?_; rintro e w1 ⟨rfl, hw1⟩
    have hs1 := Ext.trans hHeld hw1
    refine ⟨_, rfl, hs1, ?_⟩
    simp only [Act.put, List.getElem_toArray, List.getElem_cons_zero, List.getElem_cons_succ, List.setIfInBounds_toArray, List.set_cons_zero, List.set_cons_succ]
    refine wpAnyH_take (i := 4) rfl (by kernel_rfl) (by kernel_rfl) (by kernel_rfl) (fun _ _ _ h => h) (.inl ⟨rfl, fun _ _ => exec_cat rfl rfl rfl (Nat.le_trans S1.out (by decide)) _⟩) (by assumption) ?_
    simp only [Act.put, List.getElem_toArray, List.getElem_cons_zero, List.getElem_cons_succ, List.setIfInBounds_toArray, List.set_cons_zero, List.set_cons_succ]
    refine wpAnyH_take (i := 5) rfl (by kernel_rfl) (by kernel_rfl) (by kernel_rfl) (fun _ _ _ h => h) (.inl ⟨rfl, fun _ _ => exec_cat rfl rfl rfl (Nat.le_trans S2.out (by decide)) _⟩) (by assumption) ?_
    simp only [Act.put, List.getElem_toArray, List.getElem_cons_zero, List.getElem_cons_succ, List.setIfInBounds_toArray, List.set_cons_zero, List.set_cons_succ]
    refine wpAnyH_call (i := 9) (by kernel_rfl) rfl rfl (run_call_func rfl rfl #[.int .i64 t] (by simp only [List.map_toArray, List.map_cons, List.map_nil, Act.eval]; rfl) Tryd.func36 (by kernel_rfl) (by kernel_rfl) _) (hF.call t ha _ (hF.ext _ _ (Ext.trans (.alloc (.refl _) _) hs1) HII.out)) ?_; rintro e w2 ⟨rfl, hw2⟩
    have hs2 := Ext.trans hs1 hw2
    refine ⟨_, rfl, hs2, ?_⟩
    simp only [Act.put, List.getElem_toArray, List.getElem_cons_zero, List.getElem_cons_succ, List.setIfInBounds_toArray, List.set_cons_zero, List.set_cons_succ]
    refine wpAnyH_take (i := 10) rfl (by kernel_rfl) (by kernel_rfl) (by kernel_rfl) (fun _ _ _ h => h) (.inl ⟨rfl, fun _ _ => exec_cat rfl rfl rfl (Nat.le_trans S3.out (by decide)) _⟩) (by assumption) ?_
    simp only [Act.put, List.getElem_toArray, List.getElem_cons_zero, List.getElem_cons_succ, List.setIfInBounds_toArray, List.set_cons_zero, List.set_cons_succ]
    refine wpAnyH_take (i := 11) rfl (by kernel_rfl) (by kernel_rfl) (by kernel_rfl) (fun _ _ _ h => h) (.inl ⟨rfl, fun _ _ => rfl⟩) (by assumption) ?_
    simp only [Act.put, List.getElem_toArray, List.getElem_cons_zero, List.getElem_cons_succ, List.setIfInBounds_toArray, List.set_cons_zero, List.set_cons_succ]
    refine wpAnyH_done (by kernel_rfl) ?_ _
    clear hHeld hs1
    simp only [addrA, addrB, addrC]
    have HXX := Lib.hid hs2
    go_wp2_with fail
    go_loopw [3, 4] (fun o i wr => ∃ (k : Nat) (s : ByteArray), k ≤ xs.length ∧ i = .int .i64 k ∧ o = .string s ∧ Ext (w.alloc (.cells #[.int .i64 1, .int .i64 v1, .int .i64 p, .int .i64 t, .slice a xs.length c] 32)) wr ∧ Hid (s ++ GEvidence.txts (xs.drop k) = tx)) (fun _ i _ => xs.length - (intOf i).toNat)
    case atStart => exact ⟨0, _, Nat.zero_le _, rfl, rfl, HXX.out, by rw [List.drop_zero]; exact HT.out.symm⟩
    case round =>
      obtain ⟨k, s, hk, rfl, rfl, hw, HE⟩ := hrel
      have hce := (HB.out _ hw).cell
      by_cases hlt : k < xs.length
      · have hwX := Ext.trans (Ext.alloc (.refl w) _) hw
        obtain ⟨b, off, cs, rfl, hb, hcs, hc⟩ := (HS.out.ext hwX).at2 (k := k) (GEvidence.trs_get hlt)
        have HM := Lib.hid (List.getElem_mem hlt)
        have HCS := Lib.hid hcs
        have HC := Lib.hid hc
        have HI : Hid ((Tryd.prog.info? 32).map (·.size) = some cs.length) := by rw [← hcs.length, GEvidence.tr_len]; exact isz32
        have HCL : Hid (cs.length = 5) := by rw [← hcs.length, GEvidence.tr_len]; rfl
        clear hcs hc
        have HST := Lib.hid (GEvidence.txts_step hlt)
        have HSZ : Hid (GEvidence.size xs[k] ≤ 1099511627776) := by have h1 := GEvidence.sizes_step hlt; have h2 := GEvidence.sizes_drop xs k; show _ ≤ _; omega
        have HZ : Hid (s.size + 2 + (GEvidence.txt xs[k]).size + 1 ≤ 9223372036854775807) := by
          have h1 := congrArg ByteArray.size HE.out
          rw [HST.out] at h1
          simp only [bytesS] at h1
          have h2 : sOpen.size = 2 := rfl
          have h3 : sShut.size = 1 := rfl
          have h4 := HTS.out
          show _ ≤ _
          omega
        go_wp2_with (refine wpList_load_rep rfl 32 (.tmp 46) rfl b (off + k * 5) rfl cs _ Tryd.underlying32 HI.out HC.out ?_)
        any_goals (exfalso; have := HZ.out; omega)
        refine (IH.out _ HM.out _ _ (hF.ext _ _ (Ext.trans (.alloc (.refl _) _) hw) HII.out) HCS.out (HOKS.out _ HM.out) HSZ.out).mono ?_; rintro e w1 ⟨rfl, hw1⟩
        have HW1 := Lib.hid (hw.trans hw1)
        clear hw1
        generalize GEvidence.txt xs[k] = z at *
        go_wp2_with fail
        any_goals (exfalso; have := HZ.out; omega)
        go_roundw
        case rel => exact ⟨k + 1, _, by omega, by go_num, rfl, HW1.out, by have h1 := HE.out; rw [HST.out] at h1; show _ = _; rw [← h1]; simp only [bytesA]; rfl⟩
        case measure => simp [intOf]; omega
      · have hkl : k = xs.length := by omega
        go_wp2_with fail
        go_ret
        have := HE.out
        rw [hkl, List.drop_length, GEvidence.txts, bytesE] at this
        exact ⟨by rw [this]; rfl, Ext.trans (.alloc (.refl _) _) hw⟩
  · have HN := Lib.hid (fmtI_size (hF.fine v1 hn))
    have S1 : Hid ((⟨#[98, 111, 117, 110, 100, 32]⟩ : ByteArray).size + (fmtI v1).size ≤ 27) := by have := HN.out; show 6 + _ ≤ _; omega
    go_enter Tryd.func21, Tryd.ntmps21
    go_wp2_with fail
    refine (hF.call v1 hn _ (hF.ext _ _ (.alloc (.refl _) _) HII.out)).mono ?_; rintro e w1 ⟨rfl, hw1⟩
    have HXX : Hid (Ext (w.alloc (.cells #[.int .i64 2, .int .i64 v1, .int .i64 p, .int .i64 t, .slice a xs.length c] 32)) w1) := hw1
    go_wp2_with fail
    any_goals (exfalso; have h1 := S1.out; have h2 : (⟨#[98, 111, 117, 110, 100, 32]⟩ : ByteArray).size = 6 := rfl; omega)
    go_loopw [3, 4] (fun o i wr => ∃ (k : Nat) (s : ByteArray), k ≤ xs.length ∧ i = .int .i64 k ∧ o = .string s ∧ Ext (w.alloc (.cells #[.int .i64 2, .int .i64 v1, .int .i64 p, .int .i64 t, .slice a xs.length c] 32)) wr ∧ Hid (s ++ GEvidence.txts (xs.drop k) = tx)) (fun _ i _ => xs.length - (intOf i).toNat)
    case atStart => exact ⟨0, _, Nat.zero_le _, rfl, rfl, HXX.out, by rw [List.drop_zero]; exact HT.out.symm⟩
    case round =>
      obtain ⟨k, s, hk, rfl, rfl, hw, HE⟩ := hrel
      have hce := (HB.out _ hw).cell
      by_cases hlt : k < xs.length
      · have hwX := Ext.trans (Ext.alloc (.refl w) _) hw
        obtain ⟨b, off, cs, rfl, hb, hcs, hc⟩ := (HS.out.ext hwX).at2 (k := k) (GEvidence.trs_get hlt)
        have HM := Lib.hid (List.getElem_mem hlt)
        have HCS := Lib.hid hcs
        have HC := Lib.hid hc
        have HI : Hid ((Tryd.prog.info? 32).map (·.size) = some cs.length) := by rw [← hcs.length, GEvidence.tr_len]; exact isz32
        have HCL : Hid (cs.length = 5) := by rw [← hcs.length, GEvidence.tr_len]; rfl
        clear hcs hc
        have HST := Lib.hid (GEvidence.txts_step hlt)
        have HSZ : Hid (GEvidence.size xs[k] ≤ 1099511627776) := by have h1 := GEvidence.sizes_step hlt; have h2 := GEvidence.sizes_drop xs k; show _ ≤ _; omega
        have HZ : Hid (s.size + 2 + (GEvidence.txt xs[k]).size + 1 ≤ 9223372036854775807) := by
          have h1 := congrArg ByteArray.size HE.out
          rw [HST.out] at h1
          simp only [bytesS] at h1
          have h2 : sOpen.size = 2 := rfl
          have h3 : sShut.size = 1 := rfl
          have h4 := HTS.out
          show _ ≤ _
          omega
        go_wp2_with (refine wpList_load_rep rfl 32 (.tmp 46) rfl b (off + k * 5) rfl cs _ Tryd.underlying32 HI.out HC.out ?_)
        any_goals (exfalso; have := HZ.out; omega)
        refine (IH.out _ HM.out _ _ (hF.ext _ _ (Ext.trans (.alloc (.refl _) _) hw) HII.out) HCS.out (HOKS.out _ HM.out) HSZ.out).mono ?_; rintro e w1 ⟨rfl, hw1⟩
        have HW1 := Lib.hid (hw.trans hw1)
        clear hw1
        generalize GEvidence.txt xs[k] = z at *
        go_wp2_with fail
        any_goals (exfalso; have := HZ.out; omega)
        go_roundw
        case rel => exact ⟨k + 1, _, by omega, by go_num, rfl, HW1.out, by have h1 := HE.out; rw [HST.out] at h1; show _ = _; rw [← h1]; simp only [bytesA]; rfl⟩
        case measure => simp [intOf]; omega
      · have hkl : k = xs.length := by omega
        go_wp2_with fail
        go_ret
        have := HE.out
        rw [hkl, List.drop_length, GEvidence.txts, bytesE] at this
        exact ⟨by rw [this]; rfl, Ext.trans (.alloc (.refl _) _) hw⟩
  · have HN := Lib.hid (fmtI_size (hF.fine v1 hn))
    have S1 : Hid ((⟨#[115, 117, 112, 101, 114, 32]⟩ : ByteArray).size + (fmtI v1).size ≤ 27) := by have := HN.out; show 6 + _ ≤ _; omega
    go_enter Tryd.func21, Tryd.ntmps21
    go_wp2_with fail
    refine (hF.call v1 hn _ (hF.ext _ _ (.alloc (.refl _) _) HII.out)).mono ?_; rintro e w1 ⟨rfl, hw1⟩
    have HXX : Hid (Ext (w.alloc (.cells #[.int .i64 3, .int .i64 v1, .int .i64 p, .int .i64 t, .slice a xs.length c] 32)) w1) := hw1
    go_wp2_with fail
    any_goals (exfalso; have h1 := S1.out; have h2 : (⟨#[115, 117, 112, 101, 114, 32]⟩ : ByteArray).size = 6 := rfl; omega)
    go_loopw [3, 4] (fun o i wr => ∃ (k : Nat) (s : ByteArray), k ≤ xs.length ∧ i = .int .i64 k ∧ o = .string s ∧ Ext (w.alloc (.cells #[.int .i64 3, .int .i64 v1, .int .i64 p, .int .i64 t, .slice a xs.length c] 32)) wr ∧ Hid (s ++ GEvidence.txts (xs.drop k) = tx)) (fun _ i _ => xs.length - (intOf i).toNat)
    case atStart => exact ⟨0, _, Nat.zero_le _, rfl, rfl, HXX.out, by rw [List.drop_zero]; exact HT.out.symm⟩
    case round =>
      obtain ⟨k, s, hk, rfl, rfl, hw, HE⟩ := hrel
      have hce := (HB.out _ hw).cell
      by_cases hlt : k < xs.length
      · have hwX := Ext.trans (Ext.alloc (.refl w) _) hw
        obtain ⟨b, off, cs, rfl, hb, hcs, hc⟩ := (HS.out.ext hwX).at2 (k := k) (GEvidence.trs_get hlt)
        have HM := Lib.hid (List.getElem_mem hlt)
        have HCS := Lib.hid hcs
        have HC := Lib.hid hc
        have HI : Hid ((Tryd.prog.info? 32).map (·.size) = some cs.length) := by rw [← hcs.length, GEvidence.tr_len]; exact isz32
        have HCL : Hid (cs.length = 5) := by rw [← hcs.length, GEvidence.tr_len]; rfl
        clear hcs hc
        have HST := Lib.hid (GEvidence.txts_step hlt)
        have HSZ : Hid (GEvidence.size xs[k] ≤ 1099511627776) := by have h1 := GEvidence.sizes_step hlt; have h2 := GEvidence.sizes_drop xs k; show _ ≤ _; omega
        have HZ : Hid (s.size + 2 + (GEvidence.txt xs[k]).size + 1 ≤ 9223372036854775807) := by
          have h1 := congrArg ByteArray.size HE.out
          rw [HST.out] at h1
          simp only [bytesS] at h1
          have h2 : sOpen.size = 2 := rfl
          have h3 : sShut.size = 1 := rfl
          have h4 := HTS.out
          show _ ≤ _
          omega
        go_wp2_with (refine wpList_load_rep rfl 32 (.tmp 46) rfl b (off + k * 5) rfl cs _ Tryd.underlying32 HI.out HC.out ?_)
        any_goals (exfalso; have := HZ.out; omega)
        refine (IH.out _ HM.out _ _ (hF.ext _ _ (Ext.trans (.alloc (.refl _) _) hw) HII.out) HCS.out (HOKS.out _ HM.out) HSZ.out).mono ?_; rintro e w1 ⟨rfl, hw1⟩
        have HW1 := Lib.hid (hw.trans hw1)
        clear hw1
        generalize GEvidence.txt xs[k] = z at *
        go_wp2_with fail
        any_goals (exfalso; have := HZ.out; omega)
        go_roundw
        case rel => exact ⟨k + 1, _, by omega, by go_num, rfl, HW1.out, by have h1 := HE.out; rw [HST.out] at h1; show _ = _; rw [← h1]; simp only [bytesA]; rfl⟩
        case measure => simp [intOf]; omega
      · have hkl : k = xs.length := by omega
        go_wp2_with fail
        go_ret
        have := HE.out
        rw [hkl, List.drop_length, GEvidence.txts, bytesE] at this
        exact ⟨by rw [this]; rfl, Ext.trans (.alloc (.refl _) _) hw⟩
  · go_enter Tryd.func21, Tryd.ntmps21
    go_wp2_with fail
    have HXX : Hid (Ext (w.alloc (.cells #[.int .i64 4, .int .i64 v1, .int .i64 p, .int .i64 t, .slice a xs.length c] 32)) (w.alloc (.cells #[.int .i64 4, .int .i64 v1, .int .i64 p, .int .i64 t, .slice a xs.length c] 32))) := .refl _
    go_loopw [3, 4] (fun o i wr => ∃ (k : Nat) (s : ByteArray), k ≤ xs.length ∧ i = .int .i64 k ∧ o = .string s ∧ Ext (w.alloc (.cells #[.int .i64 4, .int .i64 v1, .int .i64 p, .int .i64 t, .slice a xs.length c] 32)) wr ∧ Hid (s ++ GEvidence.txts (xs.drop k) = tx)) (fun _ i _ => xs.length - (intOf i).toNat)
    case atStart => exact ⟨0, _, Nat.zero_le _, rfl, rfl, HXX.out, by rw [List.drop_zero]; exact HT.out.symm⟩
    case round =>
      obtain ⟨k, s, hk, rfl, rfl, hw, HE⟩ := hrel
      have hce := (HB.out _ hw).cell
      by_cases hlt : k < xs.length
      · have hwX := Ext.trans (Ext.alloc (.refl w) _) hw
        obtain ⟨b, off, cs, rfl, hb, hcs, hc⟩ := (HS.out.ext hwX).at2 (k := k) (GEvidence.trs_get hlt)
        have HM := Lib.hid (List.getElem_mem hlt)
        have HCS := Lib.hid hcs
        have HC := Lib.hid hc
        have HI : Hid ((Tryd.prog.info? 32).map (·.size) = some cs.length) := by rw [← hcs.length, GEvidence.tr_len]; exact isz32
        have HCL : Hid (cs.length = 5) := by rw [← hcs.length, GEvidence.tr_len]; rfl
        clear hcs hc
        have HST := Lib.hid (GEvidence.txts_step hlt)
        have HSZ : Hid (GEvidence.size xs[k] ≤ 1099511627776) := by have h1 := GEvidence.sizes_step hlt; have h2 := GEvidence.sizes_drop xs k; show _ ≤ _; omega
        have HZ : Hid (s.size + 2 + (GEvidence.txt xs[k]).size + 1 ≤ 9223372036854775807) := by
          have h1 := congrArg ByteArray.size HE.out
          rw [HST.out] at h1
          simp only [bytesS] at h1
          have h2 : sOpen.size = 2 := rfl
          have h3 : sShut.size = 1 := rfl
          have h4 := HTS.out
          show _ ≤ _
          omega
        go_wp2_with (refine wpList_load_rep rfl 32 (.tmp 46) rfl b (off + k * 5) rfl cs _ Tryd.underlying32 HI.out HC.out ?_)
        any_goals (exfalso; have := HZ.out; omega)
        refine (IH.out _ HM.out _ _ (hF.ext _ _ (Ext.trans (.alloc (.refl _) _) hw) HII.out) HCS.out (HOKS.out _ HM.out) HSZ.out).mono ?_; rintro e w1 ⟨rfl, hw1⟩
        have HW1 := Lib.hid (hw.trans hw1)
        clear hw1
        generalize GEvidence.txt xs[k] = z at *
        go_wp2_with fail
        any_goals (exfalso; have := HZ.out; omega)
        go_roundw
        case rel => exact ⟨k + 1, _, by omega, by go_num, rfl, HW1.out, by have h1 := HE.out; rw [HST.out] at h1; show _ = _; rw [← h1]; simp only [bytesA]; rfl⟩
        case measure => simp [intOf]; omega
      · have hkl : k = xs.length := by omega
        go_wp2_with fail
        go_ret
        have := HE.out
        rw [hkl, List.drop_length, GEvidence.txts, bytesE] at this
        exact ⟨by rw [this]; rfl, Ext.trans (.alloc (.refl _) _) hw⟩
  · go_enter Tryd.func21, Tryd.ntmps21
    go_wp2_with fail
    have HXX : Hid (Ext (w.alloc (.cells #[.int .i64 5, .int .i64 v1, .int .i64 p, .int .i64 t, .slice a xs.length c] 32)) (w.alloc (.cells #[.int .i64 5, .int .i64 v1, .int .i64 p, .int .i64 t, .slice a xs.length c] 32))) := .refl _
    go_loopw [3, 4] (fun o i wr => ∃ (k : Nat) (s : ByteArray), k ≤ xs.length ∧ i = .int .i64 k ∧ o = .string s ∧ Ext (w.alloc (.cells #[.int .i64 5, .int .i64 v1, .int .i64 p, .int .i64 t, .slice a xs.length c] 32)) wr ∧ Hid (s ++ GEvidence.txts (xs.drop k) = tx)) (fun _ i _ => xs.length - (intOf i).toNat)
    case atStart => exact ⟨0, _, Nat.zero_le _, rfl, rfl, HXX.out, by rw [List.drop_zero]; exact HT.out.symm⟩
    case round =>
      obtain ⟨k, s, hk, rfl, rfl, hw, HE⟩ := hrel
      have hce := (HB.out _ hw).cell
      by_cases hlt : k < xs.length
      · have hwX := Ext.trans (Ext.alloc (.refl w) _) hw
        obtain ⟨b, off, cs, rfl, hb, hcs, hc⟩ := (HS.out.ext hwX).at2 (k := k) (GEvidence.trs_get hlt)
        have HM := Lib.hid (List.getElem_mem hlt)
        have HCS := Lib.hid hcs
        have HC := Lib.hid hc
        have HI : Hid ((Tryd.prog.info? 32).map (·.size) = some cs.length) := by rw [← hcs.length, GEvidence.tr_len]; exact isz32
        have HCL : Hid (cs.length = 5) := by rw [← hcs.length, GEvidence.tr_len]; rfl
        clear hcs hc
        have HST := Lib.hid (GEvidence.txts_step hlt)
        have HSZ : Hid (GEvidence.size xs[k] ≤ 1099511627776) := by have h1 := GEvidence.sizes_step hlt; have h2 := GEvidence.sizes_drop xs k; show _ ≤ _; omega
        have HZ : Hid (s.size + 2 + (GEvidence.txt xs[k]).size + 1 ≤ 9223372036854775807) := by
          have h1 := congrArg ByteArray.size HE.out
          rw [HST.out] at h1
          simp only [bytesS] at h1
          have h2 : sOpen.size = 2 := rfl
          have h3 : sShut.size = 1 := rfl
          have h4 := HTS.out
          show _ ≤ _
          omega
        go_wp2_with (refine wpList_load_rep rfl 32 (.tmp 46) rfl b (off + k * 5) rfl cs _ Tryd.underlying32 HI.out HC.out ?_)
        any_goals (exfalso; have := HZ.out; omega)
        refine (IH.out _ HM.out _ _ (hF.ext _ _ (Ext.trans (.alloc (.refl _) _) hw) HII.out) HCS.out (HOKS.out _ HM.out) HSZ.out).mono ?_; rintro e w1 ⟨rfl, hw1⟩
        have HW1 := Lib.hid (hw.trans hw1)
        clear hw1
        generalize GEvidence.txt xs[k] = z at *
        go_wp2_with fail
        any_goals (exfalso; have := HZ.out; omega)
        go_roundw
        case rel => exact ⟨k + 1, _, by omega, by go_num, rfl, HW1.out, by have h1 := HE.out; rw [HST.out] at h1; show _ = _; rw [← h1]; simp only [bytesA]; rfl⟩
        case measure => simp [intOf]; omega
      · have hkl : k = xs.length := by omega
        go_wp2_with fail
        go_ret
        have := HE.out
        rw [hkl, List.drop_length, GEvidence.txts, bytesE] at this
        exact ⟨by rw [this]; rfl, Ext.trans (.alloc (.refl _) _) hw⟩

end Go.Proofs.YtmpepccpnnldoaaDoor

namespace Go.Proofs.YtmpepccpnnldoaaDoor
open Go.RowKit Go.Proofs

def evFmt (x : GEvidence) : ByteArray := if GEvidence.valid x then GEvidence.txt x else ⟨#[]⟩

set_option maxHeartbeats 1000000 in
theorem formatEvidence_impl {g : Int → Prop} {I : World → Prop} (hF : NumT 37 g I) (x : GEvidence) (cs : List Value) (w : World) (hI : I w) (hr : RepL w x.tr cs) (hok : GEvidence.valid x = true → GEvidence.okI g x) (hsz : GEvidence.size x ≤ 1099511627776) :
    Calls Tryd.prog 8 #[.agg ⟨cs⟩] w fun e w' => e = .returned (.string (evFmt x)) ∧ Ext w w' := by
  have HR := Lib.hid hr
  have HI : Hid ((Tryd.prog.info? 32).map (·.size) = some cs.length) := by rw [← hr.length, GEvidence.tr_len]; exact isz32
  have HOK := Lib.hid hok
  have HII := Lib.hid hI
  clear hr hok hI
  go_enter Tryd.func8, Tryd.ntmps8
  go_wp2_with (refine wpList_load_rep rfl 32 (.tmp 1) rfl w.heap.size 0 rfl cs _ Tryd.underlying32 HI.out (OB.cells0 (OB.new w _ _)) ?_)
  refine (evidenceValid_impl x _ _ (HR.out.ext (.alloc (.refl _) _))).mono ?_; rintro e w1 ⟨rfl, hw1⟩
  have HOB := Lib.hid ((OB.new w 32 ⟨cs⟩).ext hw1)
  have HW1 := Lib.hid (Ext.trans (.alloc (.refl w) _) hw1)
  clear hw1
  cases hv : GEvidence.valid x
  · have HV := Lib.hid hv
    clear hv
    go_wp2_with fail
    go_ret
    exact ⟨by unfold evFmt; rw [HV.out]; rfl, HW1.out⟩
  · have HV := Lib.hid hv
    clear hv
    go_wp2_with (refine wpList_load_rep rfl 32 (.tmp 1) rfl w.heap.size 0 rfl cs _ Tryd.underlying32 HI.out HOB.out.cells0 ?_)
    refine (writeEvidence_impl hF x _ _ (hF.ext _ _ HW1.out HII.out) (HR.out.ext HW1.out) (HOK.out HV.out) hsz).mono ?_; rintro e w2 ⟨rfl, hw2⟩
    have HW2 := Lib.hid (HW1.out.trans hw2)
    clear hw2
    go_wp2_with fail
    go_ret
    exact ⟨by unfold evFmt; rw [HV.out]; rfl, HW2.out⟩

set_option maxHeartbeats 1000000 in
theorem formatEvidence_spec {g : Int → Prop} {I : World → Prop} (hF : NumT 36 g I) (x : GEvidence) (cs : List Value) (w : World) (hI : I w) (hr : RepL w x.tr cs) (hok : GEvidence.valid x = true → GEvidence.okI g x) (hsz : GEvidence.size x ≤ 1099511627776) :
    Calls Tryd.prog 6 #[.agg ⟨cs⟩] w fun e w' => e = .returned (.string (evFmt x)) ∧ Ext w w' := by
  have HR := Lib.hid hr
  have HI : Hid ((Tryd.prog.info? 32).map (·.size) = some cs.length) := by rw [← hr.length, GEvidence.tr_len]; exact isz32
  have HOK := Lib.hid hok
  have HII := Lib.hid hI
  clear hr hok hI
  go_enter Tryd.func6, Tryd.ntmps6
  go_wp2_with (refine wpList_load_rep rfl 32 (.tmp 1) rfl w.heap.size 0 rfl cs _ Tryd.underlying32 HI.out (OB.cells0 (OB.new w _ _)) ?_)
  refine (evidenceValid_spec x _ _ (HR.out.ext (.alloc (.refl _) _))).mono ?_; rintro e w1 ⟨rfl, hw1⟩
  have HOB := Lib.hid ((OB.new w 32 ⟨cs⟩).ext hw1)
  have HW1 := Lib.hid (Ext.trans (.alloc (.refl w) _) hw1)
  clear hw1
  cases hv : GEvidence.valid x
  · have HV := Lib.hid hv
    clear hv
    go_wp2_with fail
    go_ret
    exact ⟨by unfold evFmt; rw [HV.out]; rfl, HW1.out⟩
  · have HV := Lib.hid hv
    clear hv
    go_wp2_with (refine wpList_load_rep rfl 32 (.tmp 1) rfl w.heap.size 0 rfl cs _ Tryd.underlying32 HI.out HOB.out.cells0 ?_)
    refine (l24Text_spec hF x _ _ (hF.ext _ _ HW1.out HII.out) (HR.out.ext HW1.out) (HOK.out HV.out) hsz).mono ?_; rintro e w2 ⟨rfl, hw2⟩
    have HW2 := Lib.hid (HW1.out.trans hw2)
    clear hw2
    go_wp2_with fail
    go_ret
    exact ⟨by unfold evFmt; rw [HV.out]; rfl, HW2.out⟩
end Go.Proofs.YtmpepccpnnldoaaDoor

namespace Go.Proofs.YtmpepccpnnldoaaDoor
open Go.RowKit Go.Proofs

/-- The digits of a number; none of nought. -/
def dgs (m : Nat) : List UInt8 := if m = 0 then [] else Lib.decDigits m
theorem dgs_step {m : Nat} (h : m ≠ 0) : dgs m = dgs (m / 10) ++ [UInt8.ofNat (48 + m % 10)] := by
  unfold dgs
  rw [if_neg h]
  by_cases h10 : m < 10
  · rw [Lib.decDigits_one h10, if_pos (by omega), Nat.mod_eq_of_lt h10]
    rfl
  · rw [if_neg (by omega), Lib.decDigits, dif_neg h10]
theorem dgs_len (m : Nat) (h : m ≤ 9223372036854775807) : (dgs m).length ≤ 21 := by
  unfold dgs
  split
  · exact Nat.zero_le _
  · have := Lib.itoa_length_le (m : Int) (by omega) (by omega)
    rwa [Lib.itoa_nonneg] at this
theorem wrap_fine {x : Int} (h0 : 0 ≤ x) (h1 : x ≤ 9223372036854775807) : wrap64 x = x := by
  unfold wrap64 IntKind.wrap
  simp [IntKind.bits, IntKind.signed]
  omega
theorem ba_cat (a b : List UInt8) : (⟨a.toArray⟩ : ByteArray) ++ (⟨b.toArray⟩ : ByteArray) = ⟨(a ++ b).toArray⟩ := by
  apply ByteArray.ext
  simp [ByteArray.data_append]
theorem digit_u8 {m : Nat} : toU8 (wrap64 (48 + ((m : Int).tmod 10))) = UInt8.ofNat (48 + m % 10) := by
  rw [Int.tmod_eq_emod_of_nonneg (by omega), wrap_fine (by omega) (by omega)]
  unfold toU8
  congr 1
  omega
theorem fmt_loop (fu0 : Nat) (pn : Int) : ∀ (k m : Nat) (l : List UInt8), m < k → l.length + (dgs m).length ≤ 1000 → m ≤ 9223372036854775807 → loopW (sFormatInt_F1 fu0 pn) k ((m : Int), (⟨l.toArray⟩ : ByteArray)) = some (.inr ((0 : Int), (⟨(dgs m ++ l).toArray⟩ : ByteArray)))
  | 0, m, l, h, _, _ => by omega
  | k + 1, m, l, h, h2, h3 => by
    by_cases h0 : m = 0
    · subst h0
      exact loopW_brk rfl rfl
    · have hs := dgs_step h0
      have hl : (dgs m).length = (dgs (m / 10)).length + 1 := by rw [hs]; simp
      have e : sFormatInt_F1 fu0 pn ((m : Int), (⟨l.toArray⟩ : ByteArray)) = some (.next (((m / 10 : Nat) : Int), (⟨(UInt8.ofNat (48 + m % 10) :: l).toArray⟩ : ByteArray))) := by
        unfold sFormatInt_F1
        have hz : (bytesStr ([(toU8 (wrap64 (48 + (((m : Int)).tmod 10))))] : List UInt8)).size + (⟨l.toArray⟩ : ByteArray).size ≤ 1099511627776 := by
          simp only [bytesStr, ByteArray.size, List.size_toArray, List.length_cons, List.length_nil]
          omega
        refine swT (by simp; omega) (swF (by rw [Int.tmod_eq_emod_of_nonneg (by omega)]; simp; omega) (gdT hz ?_))
        rw [digit_u8, Int.tdiv_eq_ediv_of_nonneg (by omega), wrap_fine (by omega) (by omega)]
        have := ba_cat [UInt8.ofNat (48 + m % 10)] l
        unfold bytesStr
        rw [this]
        rfl
      rw [loopW_next rfl e, fmt_loop fu0 pn k (m / 10) _ (by omega) (by simp only [List.length_cons]; omega) (by omega), hs]
      simp
theorem sFmt_val {n : Int} (h : fine n) : ∃ fu, sFormatInt_M fu n = some (fmtI n) := by
  obtain ⟨m, rfl⟩ := Int.eq_ofNat_of_zero_le h.1
  have hm : m ≤ 9223372036854775807 := by have := h.2; omega
  by_cases h0 : m = 0
  · subst h0
    refine ⟨0, ?_⟩
    unfold sFormatInt_M
    refine swT (by rfl) ?_
    rw [fmtI, Lib.itoa_nonneg, Lib.decDigits_one (by omega)]
    rfl
  · refine ⟨m + 1, ?_⟩
    have hl := dgs_len m hm
    unfold sFormatInt_M
    refine swF (by simp; omega) ?_
    have e : sFormatInt_R1 (m + 1) (m : Int) = some (.inr ((0 : Int), (⟨(dgs m ++ []).toArray⟩ : ByteArray))) := fmt_loop (m + 1) (m : Int) (m + 1) m [] (by omega) (by simp only [List.length_nil]; omega) hm
    rw [e]
    simp only [so]
    refine swF (by simp) ?_
    rw [fmtI, Lib.itoa_nonneg]
    simp [dgs, h0]
theorem formatInt_spec : NumT 36 fine (fun _ => True) where
  fine := fun _ h => h
  ext := fun _ _ _ _ => trivial
  call := fun n hn w _ => by
    obtain ⟨fu, e⟩ := sFmt_val hn
    refine AFun.plain (sFormatInt_ok fu n _ e) (vals := [.int .i64 n]) ⟨?_, trivial⟩
    exact RV0.t (.leaf (by
      have h0 := hn.1
      have h1 := hn.2
      have e1 : IntKind.i64.max = 9223372036854775807 := by decide
      have e2 : IntKind.i64.min = -9223372036854775808 := by decide
      show Lit.wf (.int .i64 n) = true
      simp only [Lit.wf, Bool.and_eq_true, decide_eq_true_eq]
      omega))
end Go.Proofs.YtmpepccpnnldoaaDoor

namespace Go.Proofs.YtmpepccpnnldoaaDoor
open Go.RowKit Go.Proofs

/-- The variable's name, as the row has it. -/
def tabName : String := ((Rows.fnExactFormatEvidenceRow.laid.drop 2).map (·.1)).headD default
/-- The table of powers of ten is laid. -/
def TabOk (w : World) : Prop := Lib.TabIs Tryd.prog w tabName .u64 Lib.pow10Tab
theorem TabOk.ext {w w' : World} (h : TabOk w) (hx : Ext w w') : TabOk w' := by
  unfold TabOk Lib.TabIs World.var? at h ⊢
  cases hg : Tryd.prog.globalNamed tabName with
  | none => rw [hg] at h; simp at h
  | some g =>
    rw [hg] at h
    simp only [Option.bind_some] at h ⊢
    have hlt : g < w.heap.size := by
      rcases Nat.lt_or_ge g w.heap.size with h' | h'
      · exact h'
      · rw [Array.getElem?_eq_none h'] at h
        simp at h
    rw [hx.block g hlt]
    exact h
end Go.Proofs.YtmpepccpnnldoaaDoor

namespace Go.Proofs.YtmpepccpnnldoaaDoor
open Go.RowKit Go.Proofs Go.Shelf

def layI_ren : Go.Shelf.Ren := ⟨fun | 171 => 44 | 243 => 45 | 246 => 46 | 283 => 47 | 284 => 48 | 285 => 49 | 286 => 50 | 129 => 52 | 317 => 51 | 318 => 53 | 319 => 54 | 320 => 55 | 337 => 56 | 338 => 57 | n => n, fun | 3 => 3 | 9 => 9 | 2 => 2 | 4 => 4 | 171 => 66 | 0 => 0 | 53 => 67 | 37 => 36 | 5 => 5 | 173 => 70 | 212 => 74 | 51 => 75 | 20 => 20 | 213 => 76 | 46 => 64 | 232 => 80 | 233 => 81 | n => n, fun | 17 => 0 | 18 => 1 | 19 => 2 | n => n⟩
theorem layI : Go.Proofs.LaysM.n171 Tryd.prog layI_ren := {
  mixed := by kernel_rfl
  f129 := Tryd.func52.trans (congrArg some (by kernel_rfl))
  f171 := Tryd.func44.trans (congrArg some (by kernel_rfl))
  f243 := Tryd.func45.trans (congrArg some (by kernel_rfl))
  f246 := Tryd.func46.trans (congrArg some (by kernel_rfl))
  f283 := Tryd.func47.trans (congrArg some (by kernel_rfl))
  f284 := Tryd.func48.trans (congrArg some (by kernel_rfl))
  f285 := Tryd.func49.trans (congrArg some (by kernel_rfl))
  f286 := Tryd.func50.trans (congrArg some (by kernel_rfl))
  f317 := Tryd.func51.trans (congrArg some (by kernel_rfl))
  f318 := Tryd.func53.trans (congrArg some (by kernel_rfl))
  f319 := Tryd.func54.trans (congrArg some (by kernel_rfl))
  f320 := Tryd.func55.trans (congrArg some (by kernel_rfl))
  f337 := Tryd.func56.trans (congrArg some (by kernel_rfl))
  f338 := Tryd.func57.trans (congrArg some (by kernel_rfl))
  t0 := Tryd.underlying0
  a0 := Tryd.isAgg0
  z0 := Tryd.sizeOf0
  v0 := Tryd.zeroValue0
  t2 := Tryd.underlying2
  a2 := Tryd.isAgg2
  z2 := Tryd.sizeOf2
  v2 := Tryd.zeroValue2
  t3 := Tryd.underlying3
  a3 := Tryd.isAgg3
  z3 := Tryd.sizeOf3
  v3 := Tryd.zeroValue3
  t4 := Tryd.underlying4
  a4 := Tryd.isAgg4
  z4 := Tryd.sizeOf4
  v4 := Tryd.zeroValue4
  t5 := Tryd.underlying5
  a5 := Tryd.isAgg5
  z5 := Tryd.sizeOf5
  v5 := Tryd.zeroValue5
  t9 := Tryd.underlying9
  a9 := Tryd.isAgg9
  z9 := Tryd.sizeOf9
  v9 := Tryd.zeroValue9
  t20 := Tryd.underlying20
  a20 := Tryd.isAgg20
  z20 := Tryd.sizeOf20
  v20 := Tryd.zeroValue20
  t37 := Tryd.underlying36
  a37 := Tryd.isAgg36
  z37 := Tryd.sizeOf36
  v37 := Tryd.zeroValue36
  t46 := Tryd.underlying64
  a46 := Tryd.isAgg64
  z46 := Tryd.sizeOf64
  v46 := Tryd.zeroValue64
  t51 := Tryd.underlying75
  a51 := Tryd.isAgg75
  z51 := Tryd.sizeOf75
  v51 := Tryd.zeroValue75
  t53 := Tryd.underlying67
  a53 := Tryd.isAgg67
  z53 := Tryd.sizeOf67
  v53 := Tryd.zeroValue67
  t171 := Tryd.underlying66
  a171 := Tryd.isAgg66
  z171 := Tryd.sizeOf66
  v171 := Tryd.zeroValue66
  t173 := Tryd.underlying70
  a173 := Tryd.isAgg70
  z173 := Tryd.sizeOf70
  v173 := Tryd.zeroValue70
  t212 := Tryd.underlying74
  a212 := Tryd.isAgg74
  z212 := Tryd.sizeOf74
  v212 := Tryd.zeroValue74
  t213 := Tryd.underlying76
  a213 := Tryd.isAgg76
  z213 := Tryd.sizeOf76
  t232 := Tryd.underlying80
  a232 := Tryd.isAgg80
  z232 := Tryd.sizeOf80
  v232 := Tryd.zeroValue80
  t233 := Tryd.underlying81
  a233 := Tryd.isAgg81
  z233 := Tryd.sizeOf81
  v233 := Tryd.zeroValue81
  g17 := by kernel_rfl
  g18 := by kernel_rfl
  g19 := by kernel_rfl
  i0 := by kernel_rfl
  i2 := by kernel_rfl
  i3 := by kernel_rfl
  i4 := by kernel_rfl
  i5 := by kernel_rfl
  i9 := by kernel_rfl
  i20 := by kernel_rfl
  i37 := by kernel_rfl
  i46 := by kernel_rfl
  i51 := by kernel_rfl
  i53 := by kernel_rfl
  i171 := by kernel_rfl
  i173 := by kernel_rfl
  i212 := by kernel_rfl
  i232 := by kernel_rfl
  i233 := by kernel_rfl
  m17 := by kernel_rfl
  m18 := by kernel_rfl
  m19 := by kernel_rfl }

theorem formatInt_small : NumT 37 (fun n => 0 ≤ n ∧ n < 100) (fun _ => True) where
  fine := fun n h => ⟨h.1, by omega⟩
  ext := fun _ _ _ _ => trivial
  call := fun n hn w _ => by
    obtain ⟨i, rfl⟩ := Int.eq_ofNat_of_zero_le hn.1
    have hi : i < 100 := by omega
    go_enter Tryd.func37, Tryd.ntmps37
    go_wp2_with fail
    refine (Any.strconv_Itoa_small { layI with } i hi _).mono ?_; rintro e w' ⟨rfl, rfl⟩
    go_wp2_with fail
    go_ret
    exact ⟨by rw [fmtI, Lib.itoa_nonneg]; rfl, .refl _⟩
end Go.Proofs.YtmpepccpnnldoaaDoor

namespace Go.Proofs.YtmpepccpnnldoaaDoor
open Go.RowKit

def digits (k : Nat) : List UInt8 := if _h : k = 0 then [] else digits (k / 10) ++ [UInt8.ofNat (48 + k % 10)]
termination_by k
decreasing_by omega
mutual
def Tr.cnt : Tr → Nat
  | .leaf _ => 1
  | .row _ es => Tr.cntE es
def Tr.cntL : List Tr → Nat
  | [] => 0
  | t :: r => Tr.cnt t + Tr.cntL r
def Tr.cntE : List (List Tr) → Nat
  | [] => 0
  | e :: r => Tr.cntL e + Tr.cntE r
end
/-- Blocks outside S hold what they held; the rest of the world is as it was. -/
structure Chg (S : Nat → Prop) (w w' : World) : Prop where
  os : w'.os = w.os
  tape : w'.tape = w.tape
  output : w'.output = w.output
  size : w.heap.size ≤ w'.heap.size
  block : ∀ b, b < w.heap.size → ¬ S b → w'.heap[b]? = w.heap[b]?
theorem Chg.refl (S : Nat → Prop) (w : World) : Chg S w w := ⟨rfl, rfl, rfl, Nat.le_refl _, fun _ _ _ => rfl⟩
theorem Chg.trans {S : Nat → Prop} {a b c : World} (h : Chg S a b) (k : Chg S b c) : Chg S a c :=
  ⟨k.os.trans h.os, k.tape.trans h.tape, k.output.trans h.output, Nat.le_trans h.size k.size, fun x hx hs => (k.block x (Nat.lt_of_lt_of_le hx h.size) hs).trans (h.block x hx hs)⟩
theorem Chg.mono {S S' : Nat → Prop} {a b : World} (h : Chg S a b) (hS : ∀ x, S x → S' x) : Chg S' a b := ⟨h.os, h.tape, h.output, h.size, fun x hx hn => h.block x hx fun hs => hn (hS x hs)⟩
theorem Chg.of_ext {S : Nat → Prop} {a b : World} (h : Ext a b) : Chg S a b := ⟨h.os, h.tape, h.output, h.size, fun x hx _ => h.block x hx⟩
theorem Chg.of_grown {S : Nat → Prop} {B : Nat} {a b : World} (h : a.grownBy b (some B)) (hB : S B) : Chg S a b := ⟨h.os, h.tape, h.output, h.size, fun x hx hs => h.block x hx (by simp; rintro rfl; exact hs hB)⟩
theorem Chg.ext {S : Nat → Prop} {a b c : World} (h : Ext a b) (k : Chg S b c) (hS : ∀ x, S x → a.heap.size ≤ x) : Ext a c :=
  ⟨k.os.trans h.os, k.tape.trans h.tape, k.output.trans h.output, Nat.le_trans h.size k.size, fun x hx => (k.block x (Nat.lt_of_lt_of_le hx h.size) (fun hs => by have := hS x hs; omega)).trans (h.block x hx)⟩

/-- One element of an own slice, taken out and put back changed. -/
theorem Own.focus {w : World} {sz : Nat} {es : List (List Tr)} {a : Option Addr} {n cap i : Nat} {S : Nat → Prop} {e : List Tr} (h : Own w (.row sz es) (.slice a n cap) S) (hi : es[i]? = some e) (hl : ∀ x ∈ es, x.length = sz) :
    ∃ b off E arr cs T, a = some ⟨b, off, none⟩ ∧ OB w b E arr ∧ S b ∧ OwnL w e cs T ∧ (∀ x, T x → S x ∧ x ≠ b) ∧ cs.length = sz ∧ (0 < sz → off + i * sz + sz ≤ arr.size) ∧ (∀ j v, cs[j]? = some v → arr[off + i * sz + j]? = some v) ∧
      ∀ w' cs' e', e'.length = sz → OB w' b E (splice arr (off + i * sz) cs') → OwnL w' e' cs' T → (∀ x, x < w.heap.size → S x → x ≠ b → ¬ T x → w'.heap[x]? = w.heap[x]?) → off + i * sz + sz ≤ arr.size →
        Own w' (.row sz (es.set i e')) (.slice a n cap) S := by
  cases h with
  | row c T h1 h2 h3 h4 h5 h6 =>
    have hne : es ≠ [] := by rintro rfl; simp at hi
    obtain ⟨b, off, E, arr, rfl, hob, hs, hc⟩ := h3 hne
    have hlt : i < es.length := (List.getElem?_eq_some_iff.1 hi).1
    have hel : e.length = sz := hl e (List.mem_of_getElem? hi)
    have hgj : ∀ j, j < sz → ∃ d, e[j]? = some d := fun j hj => ⟨e[j]'(by omega), List.getElem?_eq_getElem _⟩
    refine ⟨b, off, E, arr, (List.range sz).map (c i), fun x => ∃ j, j < sz ∧ T i j x, rfl, hob, hs, ?_, ?_, by simp, ?_, ?_, ?_⟩
    · refine ⟨by simp [hel], fun j x => j < sz ∧ T i j x, ?_, ?_, ?_⟩
      · intro j d hd
        have hj : j < sz := by rw [← hel]; exact (List.getElem?_eq_some_iff.1 hd).1
        exact ⟨c i j, by simp [hj], (h4 i e hi j d hd).mono fun x hx => ⟨hj, hx⟩⟩
      · intro j d hd x hx
        exact ⟨j, hx⟩
      · intro j d hd j' d' hd' hne x hx hx'
        exact h6 i e hi j d hd i e hi j' d' hd' (fun _ => hne) x hx.2 hx'.2
    · rintro x ⟨j, hj, hx⟩
      obtain ⟨d, hd⟩ := hgj j hj
      exact ⟨h5 i e hi j d hd x hx, (hc i e hi j d hd).2 x hx⟩
    · intro h0
      obtain ⟨d, hd⟩ := hgj (sz - 1) (by omega)
      have := (hc i e hi _ d hd).1
      have := (Array.getElem?_eq_some_iff.1 this).1
      omega
    · intro j v hv
      rw [List.getElem?_map] at hv
      rcases Nat.lt_or_ge j sz with hj | hj
      · rw [List.getElem?_range hj] at hv
        simp at hv
        obtain ⟨d, hd⟩ := hgj j hj
        rw [← hv]
        exact (hc i e hi j d hd).1
      · rw [List.getElem?_eq_none (by simpa using hj)] at hv
        simp at hv
    · intro w' cs' e' hel' hob' how hx hfit
      obtain ⟨hcl, U, u1, u2, u3⟩ := how
      have hcl : cs'.length = sz := by omega
      have hset : (es.set i e').length = es.length := by simp
      have get : ∀ i' e2, (es.set i e')[i']? = some e2 → (i' = i ∧ e2 = e') ∨ (i' ≠ i ∧ es[i']? = some e2) := by
        intro i' e2 h
        rw [List.getElem?_set] at h
        split at h
        · rename_i hii
          subst hii
          simp only [Option.some.injEq] at h
          exact .inl ⟨rfl, h.symm⟩
        · rename_i hii
          exact .inr ⟨fun e => hii e.symm, h⟩
      have keep : ∀ i' e2, i' ≠ i → es[i']? = some e2 → ∀ j d, e2[j]? = some d → ∀ x, T i' j x → x < w.heap.size → w'.heap[x]? = w.heap[x]? := by
        intro i' e2 hne' he2 j d hd x hx' hxl
        refine hx x hxl (h5 i' e2 he2 j d hd x hx') ((hc i' e2 he2 j d hd).2 x hx') ?_; rintro ⟨j', hj', hT⟩
        obtain ⟨d', hd'⟩ := hgj j' hj'
        exact h6 i' e2 he2 j d hd i e hi j' d' hd' (fun h => absurd h hne') x hx' hT
      rw [← hset]
      refine .row (fun i' j => if i' = i then (cs'[j]?).getD undef else c i' j) (fun i' j => if i' = i then U j else T i' j) (by rw [hset]; exact h1) h2 ?_ ?_ ?_ ?_
      · intro _
        refine ⟨b, off, E, _, rfl, hob', hs, ?_⟩
        intro i' e2 he2 j d hd
        rcases get i' e2 he2 with ⟨rfl, rfl⟩ | ⟨hne', he2⟩
        · simp only [if_true]
          have hj : j < sz := by rw [← hel']; exact (List.getElem?_eq_some_iff.1 hd).1
          refine ⟨?_, fun x hx' => ?_⟩
          · have h7 := splice_same (arr := arr) (o := off + i' * sz) (vs := cs') (by omega)
            have h8 : (((splice arr (off + i' * sz) cs').toList.drop (off + i' * sz)).take cs'.length)[j]? = cs'[j]? := by rw [h7]
            rw [List.getElem?_take, if_pos (by omega), List.getElem?_drop] at h8
            have h9 : cs'[j]? = some (cs'[j]'(by omega)) := List.getElem?_eq_getElem _
            rw [h9] at h8 ⊢
            simpa using h8
          · obtain ⟨j2, hj2, hT⟩ := u2 j d hd x hx'
            obtain ⟨d2, hd2⟩ := hgj j2 hj2
            exact (hc i' e hi j2 d2 hd2).2 x hT
        · simp only [if_neg hne']
          obtain ⟨q1, q2⟩ := hc i' e2 he2 j d hd
          have hl2 : e2.length = sz := hl e2 (List.mem_of_getElem? he2)
          have hj : j < sz := by rw [← hl2]; exact (List.getElem?_eq_some_iff.1 hd).1
          refine ⟨?_, q2⟩
          rw [← q1]
          unfold splice
          have hsz : 0 < sz := by omega
          rcases Nat.lt_or_ge i' i with hlt' | hge
          · have h10 : (i' + 1) * sz ≤ i * sz := Nat.mul_le_mul_right _ hlt'
            rw [Nat.succ_mul] at h10
            rw [List.getElem?_toArray, List.append_assoc, List.getElem?_append_left (by simp; omega), List.getElem?_take, if_pos (by omega)]
            simp
          · have h10 : (i + 1) * sz ≤ i' * sz := Nat.mul_le_mul_right _ (by omega)
            rw [Nat.succ_mul] at h10
            rw [List.getElem?_toArray, List.getElem?_append_right (by simp; omega), List.getElem?_drop]
            simp only [List.length_append, List.length_take, Array.length_toList]
            rw [Nat.min_eq_left (by omega), Array.getElem?_toList]
            congr 1
            omega
      · intro i' e2 he2 j d hd
        rcases get i' e2 he2 with ⟨rfl, rfl⟩ | ⟨hne', he2⟩
        · simp only [if_true]
          obtain ⟨v, hv, ho⟩ := u1 j d hd
          simpa [hv] using ho
        · simp only [if_neg hne']
          exact (h4 i' e2 he2 j d hd).keep fun x hx' hxl => keep i' e2 hne' he2 j d hd x hx' hxl
      · intro i' e2 he2 j d hd x hx'
        rcases get i' e2 he2 with ⟨rfl, rfl⟩ | ⟨hne', he2⟩
        · simp only [if_true] at hx'
          obtain ⟨j2, hj2, hT⟩ := u2 j d hd x hx'
          obtain ⟨d2, hd2⟩ := hgj j2 hj2
          exact h5 i' e hi j2 d2 hd2 x hT
        · simp only [if_neg hne'] at hx'
          exact h5 i' e2 he2 j d hd x hx'
      · intro i' e2 he2 j d hd i'' e3 he3 j' d' hd' hne x hx1 hx2
        rcases get i' e2 he2 with ⟨rfl, rfl⟩ | ⟨hne', he2⟩
        · simp only [if_true] at hx1
          rcases get i'' e3 he3 with ⟨rfl, rfl⟩ | ⟨hne'', he3⟩
          · simp only [if_true] at hx2
            exact u3 j d hd j' d' hd' (hne rfl) x hx1 hx2
          · simp only [if_neg hne''] at hx2
            obtain ⟨j2, hj2, hT⟩ := u2 j d hd x hx1
            obtain ⟨d2, hd2⟩ := hgj j2 hj2
            exact h6 i'' e3 he3 j' d' hd' i' e hi j2 d2 hd2 (fun h => absurd h hne'') x hx2 hT
        · simp only [if_neg hne'] at hx1
          have he2' := he2
          rcases get i'' e3 he3 with ⟨rfl, rfl⟩ | ⟨hne'', he3⟩
          · simp only [if_true] at hx2
            obtain ⟨j2, hj2, hT⟩ := u2 j' d' hd' x hx2
            obtain ⟨d2, hd2⟩ := hgj j2 hj2
            exact h6 i' e2 he2' j d hd i'' e hi j2 d2 hd2 (fun h => absurd h hne') x hx1 hT
          · simp only [if_neg hne''] at hx2
            exact h6 i' e2 he2 j d hd i'' e3 he3 j' d' hd' hne x hx1 hx2

end Go.Proofs.YtmpepccpnnldoaaDoor

namespace Go.Proofs.YtmpepccpnnldoaaDoor
open Go.RowKit

/-- The slice is nil, or its row is known whole: it begins at 0 and the row's size is the capacity's. -/
def Whole (E : TypeId) (base sz : Nat) (w : World) (n : Nat) (v : Value) : Prop :=
  (v = .slice none 0 0 ∧ n = 0) ∨ ∃ g cap cur, v = .slice (some ⟨g, 0, none⟩) n cap ∧ base ≤ g ∧ OB w g E cur ∧ n ≤ cap ∧ cap ≤ maxLen ∧ cur.size = cap * sz

structure Acc (E : TypeId) (base sz : Nat) (w : World) (es : List (List Tr)) (v : Value) (S : Nat → Prop) : Prop where
  own : Own w (.row sz es) v S
  whole : Whole E base sz w es.length v
  lens : ∀ e ∈ es, e.length = sz
  lt : ∀ x, S x → base ≤ x ∧ x < w.heap.size

theorem Acc.rep {E : TypeId} {base sz : Nat} {w : World} {es : List (List Tr)} {v : Value} {S : Nat → Prop} (h : Acc E base sz w es v S) : Rep w (.row sz es) v := h.own.rep
theorem Acc.nil (E : TypeId) (base sz : Nat) (w : World) : Acc E base sz w [] (.slice none 0 0) (fun _ => False) :=
  ⟨Own.row (es := []) (fun _ _ => undef) (fun _ _ _ => False) (by simp) (by unfold maxLen; omega) (by simp) (by simp) (by simp) (by simp), .inl ⟨rfl, rfl⟩, by simp, by simp⟩
/-- An empty slice with a row of its own. -/
theorem Acc.empty {E : TypeId} {base sz : Nat} {w : World} {g cap : Nat} {cur : Array Value} (hb : base ≤ g) (ho : OB w g E cur) (hm : cap ≤ maxLen) (hc : cur.size = cap * sz) : Acc E base sz w [] (.slice (some ⟨g, 0, none⟩) 0 cap) (fun _ => False) :=
  ⟨Own.row (es := []) (fun _ _ => undef) (fun _ _ _ => False) (by simp) hm (by simp) (by simp) (by simp) (by simp), .inr ⟨g, cap, cur, rfl, hb, ho, Nat.zero_le _, hm, hc⟩, by simp, by simp⟩
theorem Acc.keep {E : TypeId} {base sz : Nat} {w w' : World} {es : List (List Tr)} {v : Value} {S : Nat → Prop} (h : Acc E base sz w es v S) (hz : w.heap.size ≤ w'.heap.size)
    (hx : ∀ b, S b ∨ v.ownBlock = some b → b < w.heap.size → w'.heap[b]? = w.heap[b]?) : Acc E base sz w' es v S := by
  refine ⟨h.own.keep fun b hb => hx b (.inl hb), ?_, h.lens, fun x hs => ⟨(h.lt x hs).1, Nat.lt_of_lt_of_le (h.lt x hs).2 hz⟩⟩
  rcases h.whole with h1 | ⟨g, cap, cur, rfl, h2, h3, h4⟩
  · exact .inl h1
  · exact .inr ⟨g, cap, cur, rfl, h2, (hx g (.inr rfl) h3.lt).trans h3, h4⟩
theorem Acc.ext {E : TypeId} {base sz : Nat} {w w' : World} {es : List (List Tr)} {v : Value} {S : Nat → Prop} (h : Acc E base sz w es v S) (hx : Ext w w') : Acc E base sz w' es v S := h.keep hx.size fun b _ hb => hx.block b hb
theorem Acc.mono {E : TypeId} {base base' sz : Nat} {w : World} {es : List (List Tr)} {v : Value} {S S' : Nat → Prop} (h : Acc E base sz w es v S) (hb : base' ≤ base) (hS : ∀ x, S x → S' x) (hl : ∀ x, S' x → base' ≤ x ∧ x < w.heap.size) : Acc E base' sz w es v S' := by
  refine ⟨h.own.mono hS, ?_, h.lens, hl⟩
  rcases h.whole with h1 | ⟨g, cap, cur, h1, h2, h3⟩
  · exact .inl h1
  · exact .inr ⟨g, cap, cur, h1, by omega, h3⟩

theorem Acc.owns {E : TypeId} {base sz : Nat} {w : World} {es : List (List Tr)} {v : Value} {S : Nat → Prop} (h : Acc E base sz w es v S) : ∃ xs, w.ownsRow base E sz v es.length xs := by
  rcases h.whole with ⟨h1, h2⟩ | ⟨g, cap, cur, h1, h2, h3, h4, h5, h6⟩
  · exact ⟨[], by simp [h2], .inl ⟨h1, h2⟩⟩
  · exact ⟨cur.toList.take (es.length * sz), by have := Nat.mul_le_mul_right sz h4; simp only [List.length_take, Array.length_toList]; omega, .inr ⟨g, cap, cur, h1, h2, h3, h4, h5, h6, rfl⟩⟩

theorem getE_append {α : Type} {es : List α} {e y : α} {i : Nat} (h : (es ++ [e])[i]? = some y) : (i < es.length ∧ es[i]? = some y) ∨ (i = es.length ∧ y = e) := by
  rcases Nat.lt_or_ge i es.length with hi | hi
  · rw [List.getElem?_append_left hi] at h
    exact .inl ⟨hi, h⟩
  · rw [List.getElem?_append_right hi] at h
    rcases hk : i - es.length with _ | k
    · rw [hk] at h
      simp at h
      exact .inr ⟨by omega, h.symm⟩
    · rw [hk] at h
      simp at h

theorem Acc.snoc {E : TypeId} {base base' sz : Nat} {w w' : World} {es : List (List Tr)} {e : List Tr} {v : Value} {S T : Nat → Prop} {xs cs : List Value} {g cap : Nat} (h : Acc E base sz w es v S) (hr : w.ownsRow base' E sz v es.length xs)
    (he : e.length = sz) (ho : OwnL w e cs T) (hST : ∀ x, S x → T x → False) (hT : ∀ x, T x → base ≤ x ∧ x < w.heap.size) (hTv : ∀ x, v.ownBlock = some x → ¬ T x)
    (hr' : w'.ownsRow base E sz (.slice (some ⟨g, 0, none⟩) (es.length + 1) cap) (es.length + 1) (xs ++ cs)) (hg : w.grownBy w' v.ownBlock) (hgg : v.ownBlock = some g ∨ g = w.heap.size) (_hbw : base ≤ w.heap.size) :
    Acc E base sz w' (es ++ [e]) (.slice (some ⟨g, 0, none⟩) (es.length + 1) cap) (fun x => S x ∨ T x ∨ x = g) := by
  obtain ⟨hown, hwh, hlens, hlt⟩ := h
  have hel : (es ++ [e]).length = es.length + 1 := by simp
  obtain ⟨hxl', hr'⟩ := hr'
  rcases hr' with ⟨h1, -⟩ | ⟨g', cap', cur', h1, hbg, hob', hcap, hmax, hcs', htake'⟩
  · simp at h1
  injection h1 with h1 h2 h3
  injection h1 with h1
  injection h1 with h1
  subst h1 h3
  have hgl : g < w'.heap.size := OB.lt hob'
  have hvlt : ∀ x, v.ownBlock = some x → x < w.heap.size := by
    intro x hx
    rcases hwh with ⟨rfl, -⟩ | ⟨g0, c0, u0, rfl, -, h3, -⟩
    · simp [Value.ownBlock] at hx
    · simp [Value.ownBlock] at hx
      subst hx
      exact h3.lt
  have hxl : xs.length = es.length * sz := hr.1
  have hlens' : ∀ y ∈ es ++ [e], y.length = sz := by
    intro y hy
    rcases List.mem_append.1 hy with hy | hy
    · exact hlens y hy
    · simp at hy; rw [hy, he]
  have hcur' : ∀ i, i < (es.length + 1) * sz → cur'[i]? = (xs ++ cs)[i]? := by
    intro i hi
    have h8 : (cur'.toList.take ((es.length + 1) * sz))[i]? = (xs ++ cs)[i]? := by rw [htake']
    rw [List.getElem?_take, if_pos hi] at h8
    simpa using h8
  obtain ⟨hcl, U, u1, u2, u3⟩ := ho
  have hTg : ∀ x, T x → x ≠ g := by
    rintro x hx rfl
    rcases hgg with h | h
    · exact hTv _ h hx
    · have := (hT _ hx).2; omega
  cases hown with
  | row c T0 o1 o2 o3 o4 o5 o6 =>
    rename_i a cap0
    have keepb : ∀ b, b < w.heap.size → (Value.slice a es.length cap0).ownBlock ≠ some b → w'.heap[b]? = w.heap[b]? := fun b hb hne => hg.block b hb (fun h => hne h.symm)
    -- the old cells, seen from the list
    have hold : ∀ i y, es[i]? = some y → ∀ j d, y[j]? = some d → xs[i * sz + j]? = some (c i j) ∧ (∀ x, T0 i j x → (Value.slice a es.length cap0).ownBlock ≠ some x) := by
      intro i y hy j d hd
      have hne : es ≠ [] := by rintro rfl; simp at hy
      obtain ⟨b, off, E1, arr, rfl, hob, hs, hc⟩ := o3 hne
      obtain ⟨hc1, hc2⟩ := hc i y hy j d hd
      rcases hr.2 with ⟨h1, -⟩ | ⟨g1, c1, cur1, h1, -, hob1, q4, q5, q6, q7⟩
      · simp at h1
      injection h1 with h1 h2 h3
      injection h1 with h1
      injection h1 with h1 h4
      subst h1 h4
      have hoo := hob.symm.trans hob1
      injection hoo with hoo
      injection hoo with hoo
      subst hoo
      have hi : i < es.length := (List.getElem?_eq_some_iff.1 hy).1
      have hj : j < sz := by rw [← hlens y (List.mem_of_getElem? hy)]; exact (List.getElem?_eq_some_iff.1 hd).1
      have hij : i * sz + j < es.length * sz := by
        have : (i + 1) * sz ≤ es.length * sz := Nat.mul_le_mul_right _ hi
        rw [Nat.succ_mul] at this
        omega
      refine ⟨?_, fun x hx hh => ?_⟩
      · rw [← q7, List.getElem?_take, if_pos hij]
        rw [Nat.zero_add] at hc1
        simpa using hc1
      · simp [Value.ownBlock] at hh
        exact hc2 x hx hh.symm
    have hgS : ∀ i y, es[i]? = some y → ∀ j d, y[j]? = some d → ∀ x, T0 i j x → x ≠ g := by
      intro i y hy j d hd x hx
      rintro rfl
      rcases hgg with h | h
      · exact (hold i y hy j d hd).2 _ hx h
      · have := (hlt _ (o5 i y hy j d hd _ hx)).2; omega
    refine ⟨?_, .inr ⟨g, cap, cur', by rw [hel], hbg, hob', by rw [hel]; exact hcap, hmax, hcs'⟩, hlens', ?_⟩
    · rw [← hel]
      refine Own.row (fun i j => (cur'[i * sz + j]?).getD undef) (fun i j => if i < es.length then T0 i j else U j) (by rw [hel]; exact hcap) hmax ?_ ?_ ?_ ?_
      · intro _
        refine ⟨g, 0, E, cur', rfl, hob', .inr (.inr rfl), ?_⟩
        intro i y hy j d hd
        have hj : j < sz := by rw [← hlens' y (List.mem_of_getElem? hy)]; exact (List.getElem?_eq_some_iff.1 hd).1
        have hi : i < es.length + 1 := by rw [← hel]; exact (List.getElem?_eq_some_iff.1 hy).1
        have hij : i * sz + j < (es.length + 1) * sz := by
          have : (i + 1) * sz ≤ (es.length + 1) * sz := Nat.mul_le_mul_right _ hi
          rw [Nat.succ_mul] at this
          omega
        have hle : (es.length + 1) * sz ≤ cap * sz := Nat.mul_le_mul_right _ hcap
        refine ⟨?_, fun x hx => ?_⟩
        · rw [Nat.zero_add, Array.getElem?_eq_getElem (by omega)]; rfl
        · rcases getE_append hy with ⟨hi2, hy2⟩ | ⟨rfl, rfl⟩
          · simp only [if_pos hi2] at hx
            exact hgS i y hy2 j d hd x hx
          · simp only [Nat.lt_irrefl, if_false] at hx
            exact hTg x (u2 j d hd x hx)
      · intro i y hy j d hd
        have hj : j < sz := by rw [← hlens' y (List.mem_of_getElem? hy)]; exact (List.getElem?_eq_some_iff.1 hd).1
        have hi : i < es.length + 1 := by rw [← hel]; exact (List.getElem?_eq_some_iff.1 hy).1
        have hij : i * sz + j < (es.length + 1) * sz := by
          have : (i + 1) * sz ≤ (es.length + 1) * sz := Nat.mul_le_mul_right _ hi
          rw [Nat.succ_mul] at this
          omega
        have hcu := hcur' (i * sz + j) hij
        rcases getE_append hy with ⟨hi2, hy2⟩ | ⟨rfl, rfl⟩
        · simp only [if_pos hi2]
          obtain ⟨h8, h9⟩ := hold i y hy2 j d hd
          rw [List.getElem?_append_left (List.getElem?_eq_some_iff.1 h8).1, h8] at hcu
          rw [hcu]
          exact (o4 i y hy2 j d hd).keep fun b hb hbl => keepb b hbl (h9 b hb)
        · simp only [Nat.lt_irrefl, if_false]
          obtain ⟨v1, hv1, how⟩ := u1 j d hd
          rw [List.getElem?_append_right (by omega), hxl, Nat.add_sub_cancel_left, hv1] at hcu
          rw [hcu]
          exact how.keep fun b hb hbl => keepb b hbl (fun hh => hTv b hh (u2 j d hd b hb))
      · intro i y hy j d hd x hx
        rcases getE_append hy with ⟨hi2, hy2⟩ | ⟨rfl, rfl⟩
        · simp only [if_pos hi2] at hx
          exact .inl (o5 i y hy2 j d hd x hx)
        · simp only [Nat.lt_irrefl, if_false] at hx
          exact .inr (.inl (u2 j d hd x hx))
      · intro i y hy j d hd i' y' hy' j' d' hd' hne x hx hx'
        rcases getE_append hy with ⟨hi2, hy2⟩ | ⟨rfl, rfl⟩
        · simp only [if_pos hi2] at hx
          rcases getE_append hy' with ⟨hi2', hy2'⟩ | ⟨rfl, rfl⟩
          · simp only [if_pos hi2'] at hx'
            exact o6 i y hy2 j d hd i' y' hy2' j' d' hd' hne x hx hx'
          · simp only [Nat.lt_irrefl, if_false] at hx'
            exact hST x (o5 i y hy2 j d hd x hx) (u2 j' d' hd' x hx')
        · simp only [Nat.lt_irrefl, if_false] at hx
          rcases getE_append hy' with ⟨hi2', hy2'⟩ | ⟨hi3, rfl⟩
          · simp only [if_pos hi2'] at hx'
            exact hST x (o5 i' y' hy2' j' d' hd' x hx') (u2 j d hd x hx)
          · subst hi3
            simp only [Nat.lt_irrefl, if_false] at hx'
            exact u3 j d hd j' d' hd' (hne rfl) x hx hx'
    · intro x hx
      rcases hx with hx | hx | rfl
      · exact ⟨(hlt x hx).1, Nat.lt_of_lt_of_le (hlt x hx).2 hg.size⟩
      · exact ⟨(hT x hx).1, Nat.lt_of_lt_of_le (hT x hx).2 hg.size⟩
      · exact ⟨hbg, hgl⟩

theorem Acc.blk {E : TypeId} {base sz : Nat} {w : World} {es : List (List Tr)} {v : Value} {S : Nat → Prop} (h : Acc E base sz w es v S) {x : Nat} (hx : v.ownBlock = some x) : base ≤ x ∧ x < w.heap.size := by
  rcases h.whole with ⟨rfl, -⟩ | ⟨g0, c0, u0, rfl, h1, h3, -⟩
  · simp [Value.ownBlock] at hx
  · simp [Value.ownBlock] at hx
    subst hx
    exact ⟨h1, h3.lt⟩
theorem Acc.shape {E : TypeId} {base sz : Nat} {w : World} {es : List (List Tr)} {v : Value} {S : Nat → Prop} (h : Acc E base sz w es v S) : ∃ a cap, v = .slice a es.length cap ∧ es.length ≤ cap ∧ cap ≤ maxLen := h.rep.shape
/-- The world behind an append onto a slice of our own, as seen from an elder world. -/
theorem grown_ext_own {a w w' : World} {v : Value} (h : Ext a w) (hg : w.grownBy w' v.ownBlock) (hB : ∀ x, v.ownBlock = some x → a.heap.size ≤ x) : Ext a w' := Below.grown h hg h.size hB
theorem Chg.of_grown_own {w w' : World} {v : Value} (hg : w.grownBy w' v.ownBlock) : Chg (fun b => v.ownBlock = some b) w w' :=
  ⟨hg.os, hg.tape, hg.output, hg.size, fun x hx hs => hg.block x hx (fun h => hs h.symm)⟩

/-- append of one element onto a slice of our own. -/
theorem wpList_append_acc {P : Program} {ops : Array Oper} {rest : List Oper} {o : Oper} {a : Act} {w : World} {Q : Exit → Act → World → Prop} (hgd : o.guard = none) (s x : Operand) (t : TypeId)
    (ho : o.op = .call { callee := .builtin .append, args := #[s, x], argTypes := #[t, t] }) (E : TypeId) (sz bytes : Nat) (ht : P.underlying t = some (.slice E))
    (hi : (P.info? E).map (fun i => (i.zero.map (fun z => z.cells.size), i.size, i.bytes)) = some (some sz, sz, bytes)) (hsz : 0 < sz) (hby : bytes ≤ 100)
    (base : Nat) (es : List (List Tr)) (n : Nat) (hn : es.length = n) (v : Value) (S : Nat → Prop) (hs : a.eval s = v) (hacc : Acc E base sz w es v S)
    (e : List Tr) (cs : List Value) (T : Nat → Prop) (he : e.length = sz) (ho2 : OwnL w e cs T) (hST : ∀ x, S x → T x → False) (hT : ∀ x, T x → base ≤ x ∧ x < w.heap.size) (hTv : ∀ x, v.ownBlock = some x → ¬ T x)
    (B c : Nat) (E2 : TypeId) (hx : a.eval x = .slice (some ⟨B, 0, none⟩) 1 c) (hB : OB w B E2 ⟨cs⟩) (hlen : n ≤ 1099511627776) (hbase : base ≤ w.heap.size)
    (h : ∀ g cap w', Acc E base sz w' (es ++ [e]) (.slice (some ⟨g, 0, none⟩) (n + 1) cap) (fun x => S x ∨ T x ∨ x = g) → w.grownBy w' v.ownBlock → (v.ownBlock = some g ∨ g = w.heap.size) → g < w'.heap.size →
      wpList P ops Q rest (a.put o.dst (.slice (some ⟨g, 0, none⟩) (n + 1) cap)) w') : wpList P ops Q (o :: rest) a w := by
  subst hn
  obtain ⟨xs, hxs⟩ := hacc.owns
  cases hq : P.info? E with
  | none => simp [hq] at hi
  | some i =>
    simp only [hq, Option.map_some, Option.some.injEq, Prod.mk.injEq] at hi
    obtain ⟨h1, h2, h3⟩ := hi
    cases hz : i.zero with
    | none => simp [hz] at h1
    | some z =>
      simp only [hz, Option.map_some, Option.some.injEq] at h1
      have hcl : cs.length = sz := by rw [ho2.1, he]
      have hbb : (es.length + 1) * bytes ≤ 1099511627777 * 100 := Nat.mul_le_mul (by omega) hby
      refine wpList_append_lies w hgd s x t ho base E i z sz bytes ht hq hz h2 h3 h1 hsz v es.length xs hs hxs ⟨B, 0, none⟩ 1 c cs hx (by omega) ?_ (ho2.rep.one) (by omega) (by unfold maxLen; omega) (by omega) hbase _ rfl ?_
      · intro j u hu
        exact World.news_of_block hB j u (by simpa using hu)
      · intro g cap w' k1 k2 k3 k4
        exact h g cap w' (hacc.snoc hxs he ho2 hST hT hTv k1 k2 k3 hbase) k2 k3 k4

/-- From world w on, a slice v of our own has been appended to: by now it is v' and holds es. -/
structure AccRun (E : TypeId) (base sz : Nat) (w : World) (v : Value) (w' : World) (es : List (List Tr)) (v' : Value) : Prop where
  acc : ∃ U, Acc E base sz w' es v' U
  chg : Chg (fun b => v.ownBlock = some b) w w'
  row : ∀ b, v'.ownBlock = some b → v.ownBlock = some b ∨ w.heap.size ≤ b
theorem AccRun.refl {E : TypeId} {base sz : Nat} {w : World} {es : List (List Tr)} {v : Value} {U : Nat → Prop} (h : Acc E base sz w es v U) : AccRun E base sz w v w es v := ⟨⟨U, h⟩, Chg.refl _ _, fun _ h => .inl h⟩
theorem AccRun.ext {E : TypeId} {base sz : Nat} {w w1 w2 : World} {es : List (List Tr)} {v v' : Value} (h : AccRun E base sz w v w1 es v') (hx : Ext w1 w2) : AccRun E base sz w v w2 es v' := by
  obtain ⟨U, h1⟩ := h.acc
  exact ⟨⟨U, h1.ext hx⟩, h.chg.trans (.of_ext hx), h.row⟩
theorem AccRun.trans {E : TypeId} {base sz : Nat} {w w1 w2 : World} {es es2 : List (List Tr)} {v v1 v2 : Value} (h : AccRun E base sz w v w1 es v1) (k : AccRun E base sz w1 v1 w2 es2 v2) : AccRun E base sz w v w2 es2 v2 := by
  refine ⟨k.acc, ⟨k.chg.os.trans h.chg.os, k.chg.tape.trans h.chg.tape, k.chg.output.trans h.chg.output, Nat.le_trans h.chg.size k.chg.size, fun b hb hn => ?_⟩, fun b hb => ?_⟩
  · refine (k.chg.block b (Nat.lt_of_lt_of_le hb h.chg.size) fun h1 => ?_).trans (h.chg.block b hb hn)
    rcases h.row b h1 with h2 | h2
    · exact hn h2
    · omega
  · rcases k.row b hb with h1 | h1
    · exact h.row b h1
    · exact .inr (Nat.le_trans h.chg.size h1)
theorem AccRun.snoc {E : TypeId} {base sz : Nat} {w w' : World} {es : List (List Tr)} {v v' : Value} {U : Nat → Prop} {g cap n : Nat} (hv : v' = .slice (some ⟨g, 0, none⟩) n cap) (h : Acc E base sz w' es v' U) (hg : w.grownBy w' v.ownBlock) (hgg : v.ownBlock = some g ∨ g = w.heap.size) : AccRun E base sz w v w' es v' := by
  refine ⟨⟨U, h⟩, Chg.of_grown_own hg, fun b hb => ?_⟩
  subst hv
  simp [Value.ownBlock] at hb
  subst hb
  rcases hgg with h1 | h1
  · exact .inl h1
  · exact .inr (by omega)
/-- What lies elsewhere stays. -/
theorem AccRun.ob {E : TypeId} {base sz : Nat} {w w' : World} {es : List (List Tr)} {v v' : Value} (h : AccRun E base sz w v w' es v') {B : Nat} {T : TypeId} {cs : Array Value} (hB : OB w B T cs) (hn : v.ownBlock ≠ some B) : OB w' B T cs ∧ v'.ownBlock ≠ some B := by
  refine ⟨(h.chg.block B hB.lt hn).trans hB, fun h1 => ?_⟩
  rcases h.row B h1 with h2 | h2
  · exact hn h2
  · have := hB.lt; omega
theorem AccRun.old {E : TypeId} {base sz : Nat} {w0 w w' : World} {es : List (List Tr)} {v v' : Value} (h : AccRun E base sz w v w' es v') (hx : Ext w0 w) (hv : ∀ b, v.ownBlock = some b → w0.heap.size ≤ b) : Ext w0 w' := Chg.ext hx h.chg hv

end Go.Proofs.YtmpepccpnnldoaaDoor
