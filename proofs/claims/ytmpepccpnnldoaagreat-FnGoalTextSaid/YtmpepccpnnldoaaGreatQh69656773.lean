/- Words, rules and walks of several kinds, laid together: ParS, ParT, ParU, GlC, MaLGoalText, Bk, OkDr, GlZ. No conditions but those that each theorem states. -/
import Derived.Test.YtmpepccpnnldoaaGreatQhd6ad8ebd
import Derived.Test.YtmpepccpnnldoaaGreatQh26493c2d
import Derived.Test.YtmpepccpnnldoaaGreatQhb90f6f50
import Derived.Test.YtmpepccpnnldoaaGreatQhec5c59e3
import Derived.Test.YtmpepccpnnldoaaGreatQhc4eb6a9a
set_option linter.unusedSimpArgs false
set_option linter.unusedVariables false
namespace Go.Proofs.YtmpepccpnnldoaaGreat
set_option linter.unusedSimpArgs false
set_option linter.unusedVariables false
open Go.RowKit Go.Proofs

theorem wrap_ok (E : Int) : -9223372036854775808 ≤ E ∧ E ≤ 9223372036854775807 → wrap64 E = E := fun h => by
  unfold wrap64 IntKind.wrap
  simp [IntKind.bits, IntKind.signed]
  omega
theorem cnt_pos (x : GSExpr) : 1 ≤ GSExpr.cnt x := by
  cases x
  rw [GSExpr.cnt]
  omega
theorem okq {p : Prop} (h : p := by first | omega | (dsimp only; omega) | trivial | (dsimp only; trivial)) : p := h
theorem Ok.next {σ β : Type} {N E : σ → Prop} {Q : β → Prop} {s : σ} (h : N s) : Ok (Option.some (LR.next s)) (PL Q N E) := ⟨_, rfl, h⟩
theorem Ok.brk {σ β : Type} {N E : σ → Prop} {Q : β → Prop} {s : σ} (h : E s) : Ok (Option.some (LR.brk s)) (PL Q N E) := ⟨_, rfl, h⟩
theorem Ok.ret {σ β : Type} {N E : σ → Prop} {Q : β → Prop} {x : β} (h : Q x) : Ok (Option.some (LR.ret (σ := σ) x)) (PL Q N E) := ⟨_, rfl, h⟩
theorem Ok.swd {α : Type} {p : Prop} [Decidable p] {a b : Option α} {P : α → Prop} (ht : p → Ok a P) (hf : ¬ p → Ok b P) : Ok (Go.Proofs.YtmpepccpnnldoaaGreat.sw (decide p) a b) P := Ok.sw (fun h => ht (of_decide_eq_true h)) (fun h => hf (of_decide_eq_false h))
theorem Ok.swn {α : Type} {p : Prop} [Decidable p] {a b : Option α} {P : α → Prop} (ht : ¬ p → Ok a P) (hf : p → Ok b P) : Ok (Go.Proofs.YtmpepccpnnldoaaGreat.sw (!decide p) a b) P := Ok.sw (fun h => ht (by simpa using h)) (fun h => hf (by simpa using h))
theorem Ok.swb {α : Type} {x : Bool} {a b : Option α} {P : α → Prop} (ht : x = false → Ok a P) (hf : x = true → Ok b P) : Ok (Go.Proofs.YtmpepccpnnldoaaGreat.sw (!x) a b) P := Ok.sw (fun h => ht (by simpa using h)) (fun h => hf (by simpa using h))
def K_sl2Byte (fu : Nat) : Prop := ∀ c : UInt8, Ok (sl2Byte_M fu c) (fun _ => True)
theorem k_sl2Byte : Evt K_sl2Byte := .all fun fu c => ⟨_, byS_s fu c, trivial⟩
def SkipP (p r : Gl2In) : Prop := r.gs = p.gs ∧ p.gat ≤ r.gat ∧ r.gat ≤ ((p.gs.size : Nat) : Int) ∧ r.gdeep = p.gdeep ∧ r.gbad = p.gbad
def K_sl2Skip (fu : Nat) : Prop := ∀ p : Gl2In, 0 ≤ p.gat → p.gat ≤ ((p.gs.size : Nat) : Int) → p.gs.size ≤ 1048576 → Ok (sl2Skip_M fu p) (SkipP p)
theorem k_sl2Skip : Evt K_sl2Skip := (Evt.ge 2147483648).imp fun fu hfu p h0 h1 h2 => by
  unfold sl2Skip_M
  refine Ok.sok (E := fun v1 => p.gat ≤ v1 ∧ v1 ≤ ((p.gs.size : Nat) : Int)) ?_ (fun v1 h => Ok.some ⟨rfl, h.1, h.2, rfl, rfl⟩)
  unfold sl2Skip_R1
  refine Ok.loopW (fun v1 => p.gat ≤ v1 ∧ v1 ≤ ((p.gs.size : Nat) : Int)) (fun v1 => (((p.gs.size : Nat) : Int) - v1).toNat) ?_ _ _ okq okq
  intro v1 hI
  have := wrap_ok (v1 + 1)
  unfold sl2Skip_F1
  refine Ok.swd (fun g => ?_) (fun g => Ok.brk hI)
  refine Ok.gdk okq (fun z => ?_)
  refine Ok.swd (fun _ => Ok.next okq) (fun _ => ?_)
  refine Ok.swd (fun _ => Ok.next okq) (fun _ => Ok.brk hI)
def ReadP (p : Gl2In) (r : GSExpr × Gl2In) : Prop := r.2.gs = p.gs ∧ p.gat ≤ r.2.gat ∧ r.2.gat ≤ ((p.gs.size : Nat) : Int) ∧ (r.2.gbad = false → r.2.gdeep = p.gdeep ∧ (GSExpr.cnt r.1 : Int) ≤ r.2.gat - p.gat)
def ReadK (n : Nat) (r : Gl2In → Option (GSExpr × Gl2In)) : Prop := ∀ p : Gl2In, (14 - p.gdeep).toNat < n → 0 ≤ p.gat → p.gat ≤ ((p.gs.size : Nat) : Int) → p.gs.size ≤ 1048576 → 0 ≤ p.gdeep → p.gdeep ≤ 14 → p.gbad = false → Ok (r p) (ReadP p)
theorem sl2Read_of (n fu : Nat) (hfu : 2147483648 ≤ fu) (k1 : K_sl2Skip fu) (k2 : K_sl2Byte fu) (r : sl2Read_Y) (hr : ReadK n r) : ReadK (n + 1) (sl2Read_G fu r) := by
  intro p hn h0 h1 h2 hd hd2 hb
  unfold sl2Read_G
  refine Ok.bd (k1 p h0 h1 h2) ?_; rintro x ⟨e1, e2, e3, e4, e5⟩
  have e3' : x.gat ≤ ((x.gs.size : Nat) : Int) := by rw [e1]; exact e3
  have bad : ∀ v : Int, p.gat ≤ v → v ≤ ((p.gs.size : Nat) : Int) → Ok (some ((GSExpr.mk s_ []), (Gl2In.mk x.gs v x.gdeep (wrap64 (x.gsize + 1)) true))) (ReadP p) := fun v hv hv2 => Ok.some ⟨e1, hv, hv2, fun h => by cases h⟩
  refine Ok.swd (fun _ => bad _ e2 e3) (fun g1 => ?_)
  refine Ok.swd (fun _ => bad _ e2 e3) (fun g2 => ?_)
  refine Ok.sok (E := fun v => x.gat ≤ v ∧ v ≤ ((x.gs.size : Nat) : Int)) ?_ ?_
  · unfold sl2Read_R1
    have hz : x.gs.size ≤ 1048576 := by rw [e1]; exact h2
    refine Ok.loopW (fun v1 => x.gat ≤ v1 ∧ v1 ≤ ((x.gs.size : Nat) : Int)) (fun v1 => (((x.gs.size : Nat) : Int) - v1).toNat) ?_ _ _ okq okq
    intro v1 hI
    have := wrap_ok (v1 + 1)
    unfold sl2Read_F1
    refine Ok.swd (fun g => ?_) (fun g => Ok.brk hI)
    refine Ok.gdk okq (fun z => ?_)
    refine Ok.bd (k2 _) ?_; rintro b -
    exact Ok.sw (fun _ => Ok.next okq) (fun _ => Ok.brk hI)
  intro v hv
  refine Ok.swd (fun g3 => ?_) (fun g3 => ?_)
  · refine Ok.gdk okq (fun z => Ok.some ⟨e1, by show _ ≤ v; omega, by show v ≤ _; rw [← e1]; exact hv.2, fun _ => ⟨e4, ?_⟩⟩)
    show (GSExpr.cnt (GSExpr.mk _ []) : Int) ≤ v - p.gat
    rw [cnt_atom]
    omega
  · refine Ok.gdk okq (fun z => ?_)
    have hvp : v ≤ ((p.gs.size : Nat) : Int) := by rw [← e1]; exact hv.2
    refine Ok.swn (fun _ => bad _ (by omega) hvp) (fun g4 => ?_)
    refine Ok.swd (fun _ => bad _ (by omega) hvp) (fun g5 => ?_)
    have w1 := wrap_ok (v + 1)
    have w2 := wrap_ok (x.gdeep + 1)
    have hz : x.gs.size ≤ 1048576 := by rw [e1]; exact h2
    refine Ok.sok (E := fun (q : ByteArray × Int × Int × Int × Bool × List GSExpr) => q.1 = p.gs ∧ p.gat ≤ q.2.1 ∧ q.2.1 ≤ ((p.gs.size : Nat) : Int) ∧ q.2.2.2.2.1 = true) ?_ ?_
    · unfold sl2Read_R2
      refine Ok.loopW (fun (q : ByteArray × Int × Int × Int × Bool × List GSExpr) => q.1 = p.gs ∧ v + 1 ≤ q.2.1 ∧ q.2.1 ≤ ((p.gs.size : Nat) : Int) ∧ (q.2.2.2.2.1 = false → q.2.2.1 = p.gdeep + 1 ∧ (GSExpr.cnts q.2.2.2.2.2 : Int) ≤ q.2.1 - (v + 1))) (fun q => (2 * (((p.gs.size : Nat) : Int) - q.2.1)).toNat + (if q.2.2.2.2.1 then 0 else 1)) ?_ _ _ ?_ ?_
      · rintro ⟨v17, v18, v19, v20, v21, v23⟩ ⟨i1, i2, i3, i4⟩
        dsimp only at i1 i2 i3 i4
        subst i1
        unfold sl2Read_F2
        refine Ok.swb (fun g6 => ?_) (fun g6 => Ok.brk ⟨rfl, by show p.gat ≤ v18; omega, i3, g6⟩)
        subst g6
        obtain ⟨i5, i6⟩ := i4 rfl
        subst i5
        refine Ok.bd (k1 _ (by show 0 ≤ v18; omega) i3 h2) ?_; rintro y ⟨f1, f2, f3, f4, f5⟩
        replace f1 : y.gs = p.gs := f1
        replace f2 : v18 ≤ y.gat := f2
        replace f3 : y.gat ≤ ((p.gs.size : Nat) : Int) := f3
        replace f4 : y.gdeep = p.gdeep + 1 := f4
        replace f5 : y.gbad = false := f5
        have hl := GSExpr.cnts_len v23
        have step : ∀ q : GSExpr × Gl2In, ReadP y q → Ok (gd ((v23).length + (([q.1] : List GSExpr)).length ≤ 68719476736) (some (LR.next (q.2.gs, q.2.gat, q.2.gdeep, q.2.gsize, q.2.gbad, (v23 ++ ([q.1] : List GSExpr)))))) (PL (ReadP p) (fun s' => (fun (q : ByteArray × Int × Int × Int × Bool × List GSExpr) => q.1 = p.gs ∧ v + 1 ≤ q.2.1 ∧ q.2.1 ≤ ((p.gs.size : Nat) : Int) ∧ (q.2.2.2.2.1 = false → q.2.2.1 = p.gdeep + 1 ∧ (GSExpr.cnts q.2.2.2.2.2 : Int) ≤ q.2.1 - (v + 1))) s' ∧ (fun (q : ByteArray × Int × Int × Int × Bool × List GSExpr) => (2 * (((p.gs.size : Nat) : Int) - q.2.1)).toNat + (if q.2.2.2.2.1 then 0 else 1)) s' < (fun (q : ByteArray × Int × Int × Int × Bool × List GSExpr) => (2 * (((p.gs.size : Nat) : Int) - q.2.1)).toNat + (if q.2.2.2.2.1 then 0 else 1)) (p.gs, v18, p.gdeep + 1, v20, false, v23)) (fun (q : ByteArray × Int × Int × Int × Bool × List GSExpr) => q.1 = p.gs ∧ p.gat ≤ q.2.1 ∧ q.2.1 ≤ ((p.gs.size : Nat) : Int) ∧ q.2.2.2.2.1 = true)) := by
          rintro ⟨a, b⟩ ⟨j1, j2, j3, j4⟩
          dsimp only at j1 j2 j3 j4
          have j3' : b.gat ≤ ((p.gs.size : Nat) : Int) := by rw [← f1]; exact j3
          refine Ok.gdk (by dsimp only; simp only [List.length_singleton]; omega) (fun _ => Ok.next ⟨⟨j1.trans f1, by show v + 1 ≤ b.gat; omega, j3', fun hb2 => ?_⟩, ?_⟩)
          · obtain ⟨j5, j6⟩ := j4 hb2
            refine ⟨by show b.gdeep = _; rw [j5, f4], ?_⟩
            show (GSExpr.cnts (v23 ++ [a]) : Int) ≤ b.gat - (v + 1)
            have := GSExpr.cnts_app v23 [a]
            rw [GSExpr.cnts, GSExpr.cnts] at this
            omega
          · dsimp only
            cases hbb : b.gbad with
            | true => simp; omega
            | false =>
              obtain ⟨j5, j6⟩ := j4 hbb
              have hpos := cnt_pos a
              simp
              omega
        have call : Ok (r y) (ReadP y) := hr y (by rw [f4]; omega) (by omega) (by rw [f1]; exact f3) (by rw [f1]; exact h2) (by rw [f4]; omega) (by rw [f4]; omega) f5
        have w3 := wrap_ok (y.gat + 1)
        have w4 := wrap_ok (y.gdeep - 1)
        have hys : y.gs.size = p.gs.size := by rw [f1]
        refine Ok.swd (fun g7 => ?_) (fun g7 => Ok.bd call step)
        refine Ok.gdk (by omega) (fun z2 => ?_)
        refine Ok.swd (fun g8 => Ok.ret ⟨f1, by show p.gat ≤ wrap64 _; omega, by show wrap64 _ ≤ _; omega, fun _ => ⟨by show wrap64 _ = _; omega, ?_⟩⟩) (fun g8 => Ok.bd call step)
        show (GSExpr.cnt (GSExpr.mk s_ v23) : Int) ≤ wrap64 (y.gat + 1) - p.gat
        rw [GSExpr.cnt]
        omega
      · dsimp only
        have : ∀ b : Bool, (if b then 0 else 1) ≤ 1 := by decide
        have := this x.gbad
        omega
      · have hxs : x.gs.size = p.gs.size := by rw [e1]
        refine ⟨e1, by dsimp only; omega, by dsimp only; omega, fun _ => ⟨by dsimp only; omega, ?_⟩⟩
        show ((GSExpr.cnts ([] : List GSExpr) : Nat) : Int) ≤ wrap64 (v + 1) - (v + 1)
        have : GSExpr.cnts ([] : List GSExpr) = 0 := by rw [GSExpr.cnts]
        omega
    · rintro ⟨v17, v18, v19, v20, v21, v23⟩ ⟨i1, i2, i3, i4⟩
      dsimp only at i1 i2 i3 i4
      exact Ok.some ⟨i1, i2, i3, fun h => by rw [show v21 = false from h] at i4; cases i4⟩
theorem sl2Read_n (n : Nat) : Evt fun fu => ReadK n (sl2Read_M fu) := by
  induction n with
  | zero => exact .all fun fu p h => absurd h (Nat.not_lt_zero _)
  | succ n ih =>
    refine Evt.succ ((ih.and (((Evt.ge 2147483648).and k_sl2Skip).and k_sl2Byte)).imp fun fu h => ?_)
    intro p
    rw [sl2Read_M]
    exact sl2Read_of n fu h.2.1.1 h.2.1.2 h.2.2 _ h.1 p

/-! ### more fuel -/
def LE {α : Type} (o o' : Option α) : Prop := ∀ r, o = some r → o' = some r
theorem LE.refl {α : Type} (o : Option α) : LE o o := fun _ h => h
theorem LE.bd {α β : Type} {m m' : Option α} {f f' : α → Option β} (h : LE m m') (k : ∀ a, LE (f a) (f' a)) : LE (Go.Proofs.YtmpepccpnnldoaaGreat.bd m f) (Go.Proofs.YtmpepccpnnldoaaGreat.bd m' f') := fun r hr => by
  cases m with
  | none => cases hr
  | some a =>
    rw [h a rfl]
    exact k a r hr
theorem LE.sw {α : Type} {c : Bool} {a b a' b' : Option α} (h : LE a a') (k : LE b b') : LE (Go.Proofs.YtmpepccpnnldoaaGreat.sw c a b) (Go.Proofs.YtmpepccpnnldoaaGreat.sw c a' b') := by
  cases c
  · exact k
  · exact h
theorem LE.gd {α : Type} {p : Prop} {a a' : Option α} (h : LE a a') : LE (Go.Proofs.YtmpepccpnnldoaaGreat.gd p a) (Go.Proofs.YtmpepccpnnldoaaGreat.gd p a') := fun r hr => by
  by_cases hp : p
  · rw [gdT hp rfl] at hr ⊢
    exact h r hr
  · rw [gdF hp] at hr
    cases hr
theorem LE.so {σ β : Type} {m m' : Option (β ⊕ σ)} {f f' : σ → Option β} (h : LE m m') (k : ∀ s, LE (f s) (f' s)) : LE (Go.Proofs.YtmpepccpnnldoaaGreat.so m f) (Go.Proofs.YtmpepccpnnldoaaGreat.so m' f') := fun r hr => by
  cases m with
  | none => cases hr
  | some a =>
    rw [h a rfl]
    cases a with
    | inl x => exact hr
    | inr s => exact k s r hr
theorem LE.loopW {σ β : Type} {f f' : σ → Option (LR σ β)} (h : ∀ s, LE (f s) (f' s)) : ∀ (k k' : Nat) (s : σ), k ≤ k' → LE (Go.Proofs.YtmpepccpnnldoaaGreat.loopW f k s) (Go.Proofs.YtmpepccpnnldoaaGreat.loopW f' k' s)
  | 0, k', s, _ => fun r hr => by cases hr
  | k + 1, k', s, hk => fun r hr => by
    obtain ⟨m, rfl⟩ : ∃ m, k' = m + 1 := ⟨k' - 1, by omega⟩
    unfold Go.Proofs.YtmpepccpnnldoaaGreat.loopW at hr ⊢
    cases hf : f s with
    | none => rw [hf] at hr; cases hr
    | some a =>
      rw [hf] at hr
      rw [h s a hf]
      cases a with
      | next s' => exact LE.loopW h k m s' (by omega) r hr
      | brk s' => exact hr
      | ret x => exact hr
theorem skip_mono {fu fu' : Nat} (h : fu ≤ fu') (p : Gl2In) : LE (sl2Skip_M fu p) (sl2Skip_M fu' p) := by
  unfold sl2Skip_M sl2Skip_R1
  exact LE.so (LE.loopW (fun s => LE.refl _) _ _ _ h) (fun s => LE.refl _)
theorem read_mono : ∀ (fu fu' : Nat) (p : Gl2In), fu ≤ fu' → LE (sl2Read_M fu p) (sl2Read_M fu' p)
  | 0, fu', p, _ => fun r hr => by cases hr
  | fu + 1, fu', p, hk => by
    obtain ⟨m, rfl⟩ : ∃ m, fu' = m + 1 := ⟨fu' - 1, by omega⟩
    have hm : fu ≤ m := by omega
    show LE (sl2Read_G fu (sl2Read_M fu) p) (sl2Read_G m (sl2Read_M m) p)
    unfold sl2Read_G
    refine LE.bd (skip_mono hm p) fun x => LE.sw (LE.refl _) (LE.sw (LE.refl _) (LE.so ?_ fun v => LE.sw (LE.refl _) (LE.gd (LE.sw (LE.refl _) (LE.sw (LE.refl _) (LE.so ?_ fun q => LE.refl _))))))
    · unfold sl2Read_R1
      refine LE.loopW (fun s => ?_) _ _ _ hm
      unfold sl2Read_F1
      exact LE.sw (LE.gd (LE.bd (fun r hr => by rw [byS_s] at hr ⊢; exact hr) fun b => LE.refl _)) (LE.refl _)
    · unfold sl2Read_R2
      refine LE.loopW (fun s => ?_) _ _ _ hm
      obtain ⟨v17, v18, v19, v20, v21, v23⟩ := s
      unfold sl2Read_F2
      refine LE.sw (LE.bd (skip_mono hm _) fun y => LE.sw (LE.gd (LE.sw (LE.refl _) (LE.bd (read_mono fu m y hm) fun q => ?_))) (LE.bd (read_mono fu m y hm) fun q => ?_)) (LE.refl _)
      · obtain ⟨a, b⟩ := q
        exact LE.refl _
      · obtain ⟨a, b⟩ := q
        exact LE.refl _
/-- What the reference reads, for all great enough fuels. -/
theorem read_tot (s : ByteArray) (hs : s.size ≤ 1048576) : ∃ x y, Evt (fun fu => sl2Read_M fu (Gl2In.mk s 0 0 0 false) = some (x, y)) ∧ ReadP (Gl2In.mk s 0 0 0 false) (x, y) := by
  obtain ⟨fu0, h⟩ := (sl2Read_n 15).get
  obtain ⟨⟨x, y⟩, h1, h2⟩ := h (Gl2In.mk s 0 0 0 false) (by show (14 - (0 : Int)).toNat < 15; decide) (Int.le_refl _) (by show (0 : Int) ≤ _; omega) hs (Int.le_refl _) (by show (0 : Int) ≤ 14; decide) rfl
  exact ⟨x, y, ⟨fu0, fun fu hfu => read_mono fu0 fu _ hfu _ h1⟩, h2⟩
theorem skip_tot (p : Gl2In) (h0 : 0 ≤ p.gat) (h1 : p.gat ≤ ((p.gs.size : Nat) : Int)) (hs : p.gs.size ≤ 1048576) : ∃ y, Evt (fun fu => sl2Skip_M fu p = some y) ∧ SkipP p y := by
  obtain ⟨fu0, h⟩ := k_sl2Skip.get
  obtain ⟨y, h2, h3⟩ := h p h0 h1 hs
  exact ⟨y, ⟨fu0, fun fu hfu => skip_mono hfu p _ h2⟩, h3⟩
end Go.Proofs.YtmpepccpnnldoaaGreat

namespace Go.Proofs.YtmpepccpnnldoaaGreat
set_option linter.unusedSimpArgs false
set_option linter.unusedVariables false
open Go.RowKit Go.Proofs

section
variable {σ β : Type} {f : σ → Option (LR σ β)}
theorem loopW_nx {k : Nat} {s s' : σ} (e : f s = some (.next s')) : loopW f (k + 1) s = loopW f k s' := by
  conv => lhs; unfold loopW
  rw [e]
theorem loopW_bk {k : Nat} {s s' : σ} (e : f s = some (.brk s')) : loopW f (k + 1) s = some (.inr s') := by
  unfold loopW
  rw [e]
theorem loopW_rt {k : Nat} {s : σ} {x : β} (e : f s = some (.ret x)) : loopW f (k + 1) s = some (.inl x) := by
  unfold loopW
  rw [e]
end
def Blank (c : UInt8) : Prop := c = 32 ∨ c = 10
theorem toN (i : Nat) : ((i : Nat) : Int).toNat = i := Int.toNat_natCast i
theorem skipF_stay (fu : Nat) (s : ByteArray) (i : Nat) (d z : Int) (b : Bool) (h : i < s.size → ¬ Blank (bAt s i)) : sl2Skip_F1 fu (Gl2In.mk s i d z b) (i : Int) = some (.brk (i : Int)) := by
  unfold sl2Skip_F1
  show sw (decide ((i : Int) < ((s.size : Nat) : Int))) (gd (0 ≤ (i : Int) ∧ ((i : Int)).toNat < s.size) _) _ = _
  by_cases hi : i < s.size
  · have hb := h hi
    refine swT (decide_eq_true (by omega)) (gdT ⟨by omega, by rw [toN]; exact hi⟩ ?_)
    rw [toN]
    refine swF (decide_eq_false fun e => hb (.inl (byte_of (k := 32) e))) (swF (decide_eq_false fun e => hb (.inr (byte_of (k := 10) e))) rfl)
  · exact swF (decide_eq_false (by omega)) rfl
theorem skipF_go (fu : Nat) (s : ByteArray) (i : Nat) (d z : Int) (b : Bool) (pr : Gl2In) (hp : pr.gs = s) (hi : i < s.size) (hs : s.size ≤ 1048576) (h : bAt s i = 32) : sl2Skip_F1 fu pr (i : Int) = some (.next ((i + 1 : Nat) : Int)) := by
  unfold sl2Skip_F1
  rw [hp]
  refine swT (decide_eq_true (by omega)) (gdT ⟨by omega, by rw [toN]; exact hi⟩ ?_)
  rw [toN, h]
  refine swT rfl ?_
  rw [wrap_ok _ ⟨by omega, by omega⟩]
  rfl
theorem skip_stay {fu : Nat} (hf : 1 ≤ fu) (s : ByteArray) (i : Nat) (d z : Int) (b : Bool) (h : i < s.size → ¬ Blank (bAt s i)) : sl2Skip_M fu (Gl2In.mk s i d z b) = some (Gl2In.mk s i d z b) := by
  obtain ⟨k, rfl⟩ : ∃ k, fu = k + 1 := ⟨fu - 1, by omega⟩
  unfold sl2Skip_M sl2Skip_R1
  exact soR (loopW_bk (skipF_stay _ s i d z b h)) rfl
theorem skipF_stay' (fu : Nat) (s : ByteArray) (i : Nat) (pr : Gl2In) (hp : pr.gs = s) (h : i < s.size → ¬ Blank (bAt s i)) : sl2Skip_F1 fu pr (i : Int) = some (.brk (i : Int)) := by
  have := skipF_stay fu s i 0 0 false h
  unfold sl2Skip_F1 at this ⊢
  rw [hp]
  exact this
theorem skip_one {fu : Nat} (hf : 2 ≤ fu) (s : ByteArray) (i : Nat) (d z : Int) (b : Bool) (hi : i < s.size) (hs : s.size ≤ 1048576) (h : bAt s i = 32) (h2 : i + 1 < s.size → ¬ Blank (bAt s (i + 1))) : sl2Skip_M fu (Gl2In.mk s i d z b) = some (Gl2In.mk s ((i + 1 : Nat) : Int) d z b) := by
  obtain ⟨k, rfl⟩ : ∃ k, fu = k + 1 + 1 := ⟨fu - 2, by omega⟩
  unfold sl2Skip_M sl2Skip_R1
  refine soR (s := ((i + 1 : Nat) : Int)) ?_ rfl
  show loopW _ (k + 1 + 1) (i : Int) = _
  rw [loopW_nx (skipF_go _ s i d z b _ rfl hi hs h)]
  exact loopW_bk (skipF_stay' _ s (i + 1) _ rfl h2)
theorem byS_ok {c : UInt8} (h : okC39 c = true) : byS c = true := by
  have h1 := abyte_s 0 h
  rw [byS_s] at h1
  exact Option.some.inj h1
theorem byS_delim {c : UInt8} (h : c = 32 ∨ c = 41 ∨ c = 40) : byS c = false := by rcases h with rfl | rfl | rfl <;> decide
/-- The bytes of an atom are read to their end. -/
theorem readR_atom (fu : Nat) (r : sl2Read_Y) (p : Gl2In) (s : ByteArray) (hs : s.size ≤ 1048576) (x2 : Gl2In) (hx : x2.gs = s) : ∀ (l : List UInt8) (i k : Nat), l.length + 1 ≤ k → Here s i l → (∀ c ∈ l, byS c = true) → i + l.length ≤ s.size → (i + l.length < s.size → byS (bAt s (i + l.length)) = false) →
    loopW (sl2Read_F1 fu r p x2) k (i : Int) = some (.inr ((i + l.length : Nat) : Int))
  | [], i, k, hk, _, _, hz, hn => by
    obtain ⟨m, rfl⟩ : ∃ m, k = m + 1 := ⟨k - 1, by simp at hk; omega⟩
    refine loopW_bk ?_
    unfold sl2Read_F1
    rw [hx]
    by_cases hi : i < s.size
    · refine swT (decide_eq_true (by omega)) (gdT ⟨by omega, by rw [toN]; exact hi⟩ ?_)
      rw [toN, byS_s]
      have := hn (by simpa using hi)
      simp only [List.length_nil, Nat.add_zero] at this
      rw [this]
      rfl
    · exact swF (decide_eq_false (by omega)) rfl
  | c :: l, i, k, hk, h, hc, hz, hn => by
    obtain ⟨m, rfl⟩ : ∃ m, k = m + 1 := ⟨k - 1, by simp at hk; omega⟩
    obtain ⟨h1, h2⟩ := h.byte
    have ht : Here s (i + 1) l := Here.tail (l := [c]) h
    have hstep : sl2Read_F1 fu r p x2 (i : Int) = some (.next ((i + 1 : Nat) : Int)) := by
      unfold sl2Read_F1
      rw [hx]
      refine swT (decide_eq_true (by omega)) (gdT ⟨by omega, by rw [toN]; exact h1⟩ ?_)
      rw [toN, byS_s, h2, hc c (by simp)]
      show some (LR.next (wrap64 _)) = _
      rw [wrap_ok _ ⟨by omega, by omega⟩]
      rfl
    rw [loopW_nx hstep]
    have e : i + 1 + l.length = i + (c :: l).length := by simp; omega
    rw [readR_atom fu r p s hs x2 hx l (i + 1) m (by simp at hk; omega) ht (fun c' hc' => hc c' (by simp [hc'])) (by rw [e]; exact hz) (fun h => by rw [e] at h ⊢; exact hn h), e]
theorem txt_head : ∀ x : GSExpr, GSExpr.okF x → ∃ c r, GSExpr.txt x = c :: r ∧ ¬ Blank c ∧ ¬ c = 41
  | .mk a xs, h => by
    rw [GSExpr.okF] at h
    rcases h with ⟨ha, rfl⟩ | ⟨rfl, hl⟩
    · match hq : a.data.toList with
      | [] => have h9 : a.data.toList.length = 0 := (by rw [hq]; rfl); rw [dataLen] at h9; have := ha.low; omega
      | c :: r =>
        obtain ⟨h1, h2, h3, h4⟩ := okC_facts (ha.all c (by rw [hq]; simp))
        exact ⟨c, r, by rw [GSExpr.txt, if_neg ha.ne, hq], h2, h4⟩
    · exact ⟨40, GSExpr.txts true xs ++ [41], by rw [GSExpr.txt, if_pos rfl], by rintro (h | h) <;> exact absurd h (by decide), by decide⟩
theorem dps_le : ∀ {xs : List GSExpr} {x : GSExpr}, x ∈ xs → GSExpr.dp x ≤ GSExpr.dps xs
  | [], x, h => by simp at h
  | a :: r, x, h => by
    rw [GSExpr.dps]
    rcases List.mem_cons.1 h with rfl | h
    · omega
    · have := dps_le h; omega
theorem read_txt (s : ByteArray) (hs : s.size ≤ 1048576) : ∀ x : GSExpr, GSExpr.okF x → ∀ (n fu i : Nat) (d z : Int), GSExpr.dp x ≤ n → 1048580 + n < fu → Here s i (GSExpr.txt x) → Delim s (i + (GSExpr.txt x).length) → 0 ≤ d → d + (GSExpr.dp x : Int) ≤ 14 → 0 ≤ z → z + (GSExpr.cnt x : Int) ≤ 900 →
    sl2Read_M fu (Gl2In.mk s i d z false) = some (x, Gl2In.mk s ((i + (GSExpr.txt x).length : Nat) : Int) d (z + (GSExpr.cnt x : Int)) false) := by
  refine GSExpr.ind fun a xs ih hf n fu i d z hn hfu hh hd hd0 hdep hz0 hz => ?_
  obtain ⟨c, r, hc, hb, hcl⟩ := txt_head _ hf
  have hsz := hh.size (by rw [hc]; simp)
  have hh' := hh
  rw [hc] at hh'
  obtain ⟨hi, hbyte⟩ := hh'.byte
  rw [GSExpr.okF] at hf
  obtain ⟨k, rfl⟩ : ∃ k, fu = k + 1 := ⟨fu - 1, by omega⟩
  show sl2Read_G k (sl2Read_M k) _ = _
  unfold sl2Read_G
  have hcp := cnt_pos (GSExpr.mk a xs)
  have hw := wrap_ok (z + 1) ⟨by omega, by omega⟩
  refine bdS (skip_stay (by omega) s i d z false (fun _ => by rw [hbyte]; exact hb)) ?_; refine swF (decide_eq_false (show ¬ ((i : Int) ≥ ((s.size : Nat) : Int)) by omega)) ?_; refine swF (decide_eq_false (show ¬ (wrap64 (z + 1) > 900) by rw [hw]; omega)) ?_
  rcases hf with ⟨ha, rfl⟩ | ⟨rfl, hl⟩
  · have htx : GSExpr.txt (.mk a []) = a.data.toList := by rw [GSExpr.txt, if_neg ha.ne]
    rw [htx] at hh hd ⊢
    rw [htx] at hsz
    rw [dataLen] at hd hsz ⊢
    have hlow := ha.low
    have hup := ha.up
    refine soR (s := ((i + a.size : Nat) : Int)) ?_ ?_
    · unfold sl2Read_R1
      have := readR_atom k (sl2Read_M k) (Gl2In.mk s i d z false) s hs (Gl2In.mk s i d z false) rfl a.data.toList i k (by rw [dataLen]; omega) hh (fun c hc => byS_ok (ha.all c hc)) (by rw [dataLen]; omega) (fun h => by rw [dataLen] at h ⊢; exact byS_delim (by rcases hd h with h | h; exact .inl h; exact .inr (.inl h)))
      rw [dataLen] at this
      exact this
    refine swT (decide_eq_true (show ((i + a.size : Nat) : Int) > (i : Int) by omega)) ?_; refine gdT (show (0 : Int) ≤ (i : Int) ∧ (i : Int) ≤ ((i + a.size : Nat) : Int) ∧ ((i + a.size : Nat) : Int) ≤ ((s.size : Nat) : Int) from ⟨by omega, by omega, by omega⟩) ?_
    show some (GSExpr.mk (s.extract ((i : Int)).toNat (((i + a.size : Nat) : Int)).toNat) [], Gl2In.mk s ((i + a.size : Nat) : Int) d (wrap64 (z + 1)) false) = _
    rw [toN, toN, hw, cnt_atom, show s.extract i (i + a.size) = a from sub_here hh]
    rfl
  · have htx : GSExpr.txt (.mk s_ xs) = 40 :: (GSExpr.txts true xs ++ [41]) := by rw [GSExpr.txt, if_pos rfl]
    have hdp : GSExpr.dp (.mk s_ xs) = GSExpr.dps xs + 1 := by rw [GSExpr.dp, if_pos rfl]
    have hcn : GSExpr.cnt (.mk s_ xs) = 1 + GSExpr.cnts xs := by rw [GSExpr.cnt]
    rw [hdp] at hdep hn
    rw [hcn] at hz ⊢
    rw [htx] at hh ⊢
    have hb40 := hh.byte.2
    have hll := GSExpr.cnts_len xs
    refine soR (s := (i : Int)) ?_ ?_
    · unfold sl2Read_R1
      have := readR_atom k (sl2Read_M k) (Gl2In.mk s i d z false) s hs (Gl2In.mk s i d z false) rfl [] i k (by simp; omega) ⟨_, rfl⟩ (fun c hc => by simp at hc) (by simp; omega) (fun h => by simp only [List.length_nil, Nat.add_zero]; rw [hb40]; exact byS_delim (.inr (.inr rfl)))
      simpa using this
    refine swF (decide_eq_false (show ¬ ((i : Int) > (i : Int)) by omega)) ?_; refine gdT (show 0 ≤ (i : Int) ∧ ((i : Int)).toNat < s.size from ⟨by omega, by rw [toN]; exact hi⟩) ?_; refine swF (show (!decide ((((bAt s ((i : Int)).toNat).toNat : Int) : Int) = 40)) = false by rw [toN, hb40]; rfl) ?_; refine swF (decide_eq_false (show ¬ (d = 14) by omega)) ?_
    have hwi := wrap_ok ((i : Int) + 1) ⟨by omega, by omega⟩
    have hwd := wrap_ok (d + 1) ⟨by omega, by omega⟩
    have inner : ∀ (ys : List GSExpr), (∀ y ∈ ys, y ∈ xs) → ∀ (b : Bool) (acc : List GSExpr) (j m : Nat) (zz : Int), ys.length + 1 ≤ m → Here s j (GSExpr.txts b ys ++ [41]) → 0 ≤ zz → zz + (GSExpr.cnts ys : Int) ≤ 900 → acc.length + ys.length ≤ 1000 →
        loopW (sl2Read_F2 k (sl2Read_M k) (Gl2In.mk s i d z false) (Gl2In.mk s i d z false) (i : Int)) m (s, (j : Int), d + 1, zz, false, acc) = some (.inl (GSExpr.mk s_ (acc ++ ys), Gl2In.mk s ((j + (GSExpr.txts b ys).length + 1 : Nat) : Int) d (zz + (GSExpr.cnts ys : Int)) false)) := by
      intro ys
      induction ys with
      | nil =>
        intro _ b acc j m zz hm hj hz1 hz2 hacc
        obtain ⟨m, rfl⟩ : ∃ m', m = m' + 1 := ⟨m - 1, by simp at hm; omega⟩
        rw [GSExpr.txts, List.nil_append] at hj
        obtain ⟨g1, g2⟩ := hj.byte
        refine loopW_rt ?_
        unfold sl2Read_F2
        refine swT rfl (bdS (skip_stay (by omega) s j (d + 1) zz false (fun _ => by rw [g2]; rintro (h | h) <;> exact absurd h (by decide))) ?_)
        refine swT (decide_eq_true (show (j : Int) < ((s.size : Nat) : Int) by omega)) ?_; refine gdT (show 0 ≤ (j : Int) ∧ ((j : Int)).toNat < s.size from ⟨by omega, by rw [toN]; exact g1⟩) ?_; refine swT (decide_eq_true (show (((bAt s ((j : Int)).toNat).toNat : Int) : Int) = 41 by rw [toN, g2]; rfl)) ?_
        show some (LR.ret (GSExpr.mk s_ acc, Gl2In.mk s (wrap64 ((j : Int) + 1)) (wrap64 (d + 1 - 1)) zz false)) = _
        rw [wrap_ok ((j : Int) + 1) ⟨by omega, by omega⟩, wrap_ok (d + 1 - 1) ⟨by omega, by omega⟩, GSExpr.txts, GSExpr.cnts, List.append_nil]
        rw [show (d + 1 - 1 : Int) = d by omega, show (zz + ((0 : Nat) : Int)) = zz by omega, show (((j + ([] : List UInt8).length + 1 : Nat)) : Int) = (j : Int) + 1 by simp]
      | cons y r ihr =>
        intro hmem b acc j m zz hm hj hz1 hz2 hacc
        obtain ⟨m, rfl⟩ : ∃ m', m = m' + 1 := ⟨m - 1, by simp at hm; omega⟩
        have hym := hmem y (by simp)
        have hyf := GSExpr.okFs_all hl y hym
        have hyd := dps_le hym
        rw [GSExpr.cnts] at hz2
        have hyc := cnt_pos y
        obtain ⟨c', r', hc', hb', hcl'⟩ := txt_head y hyf
        simp only [List.length_cons] at hm hacc
        -- from the place where the element's text begins
        have go : ∀ (j0 j : Nat), (sl2Skip_M k (Gl2In.mk s (j0 : Int) (d + 1) zz false) = some (Gl2In.mk s (j : Int) (d + 1) zz false)) → Here s j (GSExpr.txt y ++ (GSExpr.txts false r ++ [41])) →
            loopW (sl2Read_F2 k (sl2Read_M k) (Gl2In.mk s i d z false) (Gl2In.mk s i d z false) (i : Int)) (m + 1) (s, (j0 : Int), d + 1, zz, false, acc) = some (.inl (GSExpr.mk s_ (acc ++ (y :: r)), Gl2In.mk s ((j + (GSExpr.txt y).length + (GSExpr.txts false r).length + 1 : Nat) : Int) d (zz + ((GSExpr.cnt y + GSExpr.cnts r : Nat) : Int)) false)) := by
          intro j0 j hsk hjj
          have hjy := hjj
          rw [hc', List.cons_append] at hjy
          obtain ⟨g1, g2⟩ := hjy.byte
          have hdl : Delim s (j + (GSExpr.txt y).length) := fun _ => by
            have ht := hjj.tail
            cases r with
            | nil => rw [GSExpr.txts, List.nil_append] at ht; exact .inr ht.byte.2
            | cons y' r' =>
              rw [GSExpr.txts] at ht
              exact .inl (Here.byte (l := GSExpr.txt y' ++ GSExpr.txts false r' ++ [41]) (by simpa using ht)).2
          have hrd := ih y hym hyf (n - 1) k j (d + 1) zz (by omega) (by omega) hjj.head hdl (by omega) (by omega) hz1 (by omega)
          have hstep : sl2Read_F2 k (sl2Read_M k) (Gl2In.mk s i d z false) (Gl2In.mk s i d z false) (i : Int) (s, (j0 : Int), d + 1, zz, false, acc) = some (.next (s, ((j + (GSExpr.txt y).length : Nat) : Int), d + 1, zz + (GSExpr.cnt y : Int), false, acc ++ [y])) := by
            unfold sl2Read_F2
            refine swT rfl (bdS hsk ?_)
            refine swT (decide_eq_true (show (j : Int) < ((s.size : Nat) : Int) by omega)) ?_; refine gdT (show 0 ≤ (j : Int) ∧ ((j : Int)).toNat < s.size from ⟨by omega, by rw [toN]; exact g1⟩) ?_; refine swF (decide_eq_false (show ¬ ((((bAt s ((j : Int)).toNat).toNat : Int) : Int) = 41) by rw [toN, g2]; exact fun e => hcl' (byte_of (k := 41) e))) ?_; refine bdS hrd ?_; exact gdT (show acc.length + [y].length ≤ 68719476736 by simp; omega) rfl
          rw [loopW_nx hstep, ihr (fun y' hy' => hmem y' (by simp [hy'])) false (acc ++ [y]) (j + (GSExpr.txt y).length) m (zz + (GSExpr.cnt y : Int)) (by omega) hjj.tail (by omega) (by omega) (by simp; omega)]
          rw [List.append_assoc, List.singleton_append, show zz + (GSExpr.cnt y : Int) + (GSExpr.cnts r : Int) = zz + ((GSExpr.cnt y + GSExpr.cnts r : Nat) : Int) by omega]
        have htxs : GSExpr.txts b (y :: r) = (if b then [] else [32]) ++ (GSExpr.txt y ++ GSExpr.txts false r) := by rw [GSExpr.txts]
        rw [htxs] at hj ⊢
        rw [GSExpr.cnts]
        cases b with
        | true =>
          simp only [if_true, List.nil_append] at hj ⊢
          have hj2 : Here s j (GSExpr.txt y ++ (GSExpr.txts false r ++ [41])) := by simpa using hj
          have hjy := hj2
          rw [hc', List.cons_append] at hjy
          rw [go j j (skip_stay (by omega) s j (d + 1) zz false (fun _ => by rw [hjy.byte.2]; exact hb')) hj2]
          simp [Nat.add_assoc]
        | false =>
          simp only [Bool.false_eq_true, if_false] at hj ⊢
          obtain ⟨g1, g2⟩ := Here.byte (c := 32) (l := GSExpr.txt y ++ (GSExpr.txts false r ++ [41])) (by simpa using hj)
          have hj2 : Here s (j + 1) (GSExpr.txt y ++ (GSExpr.txts false r ++ [41])) := Here.tail (l := [32]) (by simpa using hj)
          have hjy := hj2
          rw [hc', List.cons_append] at hjy
          rw [go j (j + 1) (skip_one (by omega) s j (d + 1) zz false g1 hs g2 (fun _ => by rw [hjy.byte.2]; exact hb')) hj2]
          simp [Nat.add_assoc, Nat.add_comm, Nat.add_left_comm]
    have hin := inner xs (fun y hy => hy) true [] (i + 1) k (z + 1) (by omega) (Here.tail (l := [40]) hh) (by omega) (by omega) (by simp; omega)
    have hR : sl2Read_R2 k (sl2Read_M k) (Gl2In.mk s i d z false) (Gl2In.mk s i d z false) (i : Int) = some (.inl (GSExpr.mk s_ xs, Gl2In.mk s ((i + 1 + (GSExpr.txts true xs).length + 1 : Nat) : Int) d (z + 1 + (GSExpr.cnts xs : Int)) false)) := by
      unfold sl2Read_R2
      show loopW _ k (s, wrap64 ((i : Int) + 1), wrap64 (d + 1), wrap64 (z + 1), false, []) = _
      rw [hwi, hwd, hw]
      rw [List.nil_append] at hin
      exact hin
    refine (soL hR).trans ?_
    rw [show z + 1 + (GSExpr.cnts xs : Int) = z + ((1 + GSExpr.cnts xs : Nat) : Int) by omega]
    simp [Nat.add_assoc, Nat.add_comm, Nat.add_left_comm]
end Go.Proofs.YtmpepccpnnldoaaGreat

namespace Go.Proofs.YtmpepccpnnldoaaGreat
set_option linter.unusedSimpArgs false
set_option linter.unusedVariables false
open Go.RowKit Go.Proofs

theorem dec_sizeS : ∀ x : GSExpr, GType.size (decS x) ≤ GSExpr.cnt x := by
  refine GSExpr.ind fun a l ih => ?_
  have hs : ∀ l : List GSExpr, (∀ x ∈ l, GType.size (decS x) ≤ GSExpr.cnt x) → ∀ k, GType.sizes ((decSs l).drop k) ≤ GSExpr.cnts l := by
    intro l
    induction l with
    | nil => intro _ k; simp [decSs, GType.sizes]
    | cons a l ihl =>
      intro h k
      have h1 := h a (by simp)
      have h2 := ihl fun x hx => h x (by simp [hx])
      cases k with
      | zero =>
        have := h2 0
        rw [List.drop_zero] at this ⊢
        rw [decSs, GType.sizes, GSExpr.cnts]
        omega
      | succ k =>
        have := h2 k
        rw [decSs, List.drop_succ_cons, GSExpr.cnts]
        omega
  have h1 := hs l ih 1
  have h2 := hs l ih 2
  rw [decS, GSExpr.cnt]
  repeat' split
  all_goals first | (rw [GType.size]; omega) | (rw [GType.size, GType.sizes]; omega)
theorem goalTxt_some {b : GBound} {s : ByteArray} (h : goalTxt b = s) (hs : ¬ s = s_) : vldBd b = true := by
  unfold goalTxt at h
  cases hv : vldBd b with
  | true => rfl
  | false => rw [hv] at h; exact absurd h.symm hs
theorem parse_s (s : ByteArray) (hs : s.size ≤ 1048576) : Evt fun fu => sParseGoal_M fu s = some (goalOf s) := by
  by_cases hex : ∃ b, vldBd b = true ∧ goalTxt b = s
  · obtain ⟨b, hv, ht, hg⟩ := goalOf_some hex
    rw [hg]
    obtain ⟨h1, h2, h3, h4, h5⟩ := goal_ok hv
    obtain ⟨g1, g2, g3⟩ := goalX_ok hv
    have hsz : GType.size b.gType ≤ 4294967296 := by unfold vldBd vldT at hv; simp only [Bool.and_eq_true, decide_eq_true_eq] at hv; omega
    have hst : s = bytesStr (GSExpr.txt (goalX b)) := by rw [← ht]; exact goalTxt_ne hv
    have hzs : s.size = (GSExpr.txt (goalX b)).length := by rw [hst]; exact bytesStr_size _
    have hsne : ¬ s = s_ := by
      intro e
      have h0 : s.size = 0 := by rw [e]; rfl
      obtain ⟨c, r, hc, -⟩ := txt_head _ g1
      rw [hzs, hc] at h0
      simp at h0
    refine ((vldX_s g1 (by omega) (by omega)).and ((dec_s (GType.enc b.gType) (by omega)).and ((fmt_s b hsz).and (Evt.ge 1048600)))).imp fun fu ⟨e1, e2, e3, e4⟩ => ?_
    have hrd := read_txt s hs (goalX b) g1 8 fu 0 0 0 g3 (by omega) ⟨[], by rw [hst, bytesStr_data]; simp⟩ (fun h => by rw [← hzs] at h; omega) (by omega) (by omega) (by omega) (by omega)
    have hp : sParseSExpr_M fu s = some (goalX b, true) := by
      unfold sParseSExpr_M
      refine bdS hrd ?_; refine bdS (skip_stay (by omega) s _ 0 _ false (fun h => by omega)) ?_; refine swF rfl ?_; refine swF (show (!decide (((0 + (GSExpr.txt (goalX b)).length : Nat) : Int) = ((s.size : Nat) : Int))) = false by rw [decide_eq_true (by omega)]; rfl) ?_; refine bdS e1 ?_; exact swF rfl rfl
    have hb : GBound.mk ((atD (goalX b).gList 0).gAtom) b.gType = b := by cases b; rfl
    have e2' : sl5Ty_M fu (atD (goalX b).gList 1) = some b.gType := e2.trans (by rw [dec_enc_s _ h2])
    have e3' : sFormatGoal_M fu (GBound.mk ((atD (goalX b).gList 0).gAtom) b.gType) = some s := by rw [hb, e3, ht]
    unfold sParseGoal_M
    refine bdS hp ?_; refine swF rfl ?_; refine swF rfl ?_; refine gdT (by simp [goalX]) (gdT (by simp [goalX]) ?_)
    refine bdS e2' ?_; refine bdS e3' ?_; refine swF (decide_eq_false hsne) ?_; refine swF (by simp) ?_
    rw [hb]
  · rw [goalOf_none hex]
    obtain ⟨x, y, hr, hp1, hp2, hp3, hp4⟩ := read_tot s hs
    replace hp1 : y.gs = s := hp1
    replace hp2 : 0 ≤ y.gat := hp2
    replace hp3 : y.gat ≤ ((s.size : Nat) : Int) := hp3
    obtain ⟨y', hk, hk1, hk2, hk3, hk4, hk5⟩ := skip_tot y hp2 (by rw [hp1]; exact hp3) (by rw [hp1]; exact hs)
    have hbad : (∀ fu, sl2Read_M fu (Gl2In.mk s 0 0 0 false) = some (x, y) → sl2Skip_M fu y = some y' → sParseSExpr_M fu s = some (GSExpr.mk s_ [], false)) → Evt fun fu => sParseGoal_M fu s = some (zeroB, false) := fun h => (hr.and hk).imp fun fu ⟨e1, e2⟩ => by
      unfold sParseGoal_M
      rw [h fu e1 e2]
      rfl
    cases hgb : y'.gbad with
    | true => exact hbad fun fu e1 e2 => by unfold sParseSExpr_M; exact bdS e1 (bdS e2 (swT hgb rfl))
    | false =>
      have hyb : y.gbad = false := by rw [← hk5]; exact hgb
      obtain ⟨-, hcx⟩ := hp4 hyb
      replace hcx : (GSExpr.cnt x : Int) ≤ y.gat - 0 := hcx
      by_cases hgat : y'.gat = ((s.size : Nat) : Int)
      · obtain ⟨v, hv⟩ := vldS x (by omega)
        have hpm : ∀ fu, sl2Read_M fu (Gl2In.mk s 0 0 0 false) = some (x, y) → sl2Skip_M fu y = some y' → sIsValidSExpr_M fu x = some v → sParseSExpr_M fu s = some (if v = true then (x, true) else (.mk s_ [], false)) := fun fu e1 e2 e3 => by
          unfold sParseSExpr_M
          refine bdS e1 (bdS e2 (swF hgb (swF (by rw [decide_eq_true hgat]; rfl) (bdS e3 ?_))))
          cases v <;> rfl
        cases v with
        | false =>
          refine (hr.and (hk.and hv)).imp fun fu ⟨e1, e2, e3⟩ => ?_
          unfold sParseGoal_M
          rw [hpm fu e1 e2 e3]
          rfl
        | true =>
          by_cases hl : x.gList.length = 2
          · have hm : atD x.gList 1 ∈ x.gList := atD_mem (by omega)
            have hc1 := GSExpr.cnts_le hm
            have hcl : GSExpr.cnts x.gList ≤ GSExpr.cnt x := by cases x; rw [GSExpr.gList_mk, GSExpr.cnt]; omega
            have hds := dec_sizeS (atD x.gList 1)
            refine ((hr.and (hk.and hv)).and ((dec_s (atD x.gList 1) (by omega)).and (fmt_s (GBound.mk ((atD x.gList 0).gAtom) (decS (atD x.gList 1))) (by rw [GBound.gType_mk]; omega)))).imp fun fu ⟨⟨e1, e2, e3⟩, e4, e5⟩ => ?_
            unfold sParseGoal_M
            refine bdS (hpm fu e1 e2 e3) ?_; refine swF rfl ?_; refine swF (by show (!decide (((x.gList.length : Nat) : Int) = 2)) = false; rw [decide_eq_true (by omega)]; rfl) ?_; refine gdT (by show 0 < x.gList.length; omega) (gdT (by show 1 < x.gList.length; omega) ?_)
            refine bdS e4 ?_; refine bdS e5 ?_
            by_cases hz : goalTxt (GBound.mk ((atD x.gList 0).gAtom) (decS (atD x.gList 1))) = s_
            · exact swT (decide_eq_true hz) rfl
            · refine swF (decide_eq_false hz) ?_; refine swT (by rw [decide_eq_false (fun h => hex ⟨_, goalTxt_some rfl hz, h⟩)]; rfl) rfl
          · refine (hr.and (hk.and hv)).imp fun fu ⟨e1, e2, e3⟩ => ?_
            unfold sParseGoal_M
            refine bdS (hpm fu e1 e2 e3) ?_; refine swF rfl ?_; exact swT (by show (!decide (((x.gList.length : Nat) : Int) = 2)) = true; rw [decide_eq_false (by omega)]; rfl) rfl
      · exact hbad fun fu e1 e2 => by
          unfold sParseSExpr_M
          exact bdS e1 (bdS e2 (swF hgb (swT (by rw [decide_eq_false hgat]; rfl) rfl)))
end Go.Proofs.YtmpepccpnnldoaaGreat

namespace Go.Proofs.YtmpepccpnnldoaaGreat
set_option linter.unusedSimpArgs false
set_option linter.unusedVariables false
open Go.RowKit Go.Proofs

theorem sFmtGoal_fn (b : GBound) (h : GType.size (GBound.gType b) ≤ 4294967296) : AFun Tryz.prog 10 [(GBound.pv b)] (pS (goalTxt b)) := by
  obtain ⟨fu, e⟩ := (fmt_s b h).get
  exact sFormatGoal_ok fu b _ e
theorem iFmtGoal_fn (b : GBound) (h : GType.size (GBound.gType b) ≤ 4294967296) : AFun Tryz.prog 6 [(GBound.pv b)] (pS (goalTxt b)) := by
  obtain ⟨fu, e⟩ := (fmt_i b h).get
  exact iFormatGoal_ok fu b _ e
theorem sParGoal_fn (s : ByteArray) (h : s.size ≤ 1048576) : AFun Tryz.prog 9 [pS s] (.tup [(GBound.pv (goalOf s).1), pB (goalOf s).2]) := by
  obtain ⟨fu, e⟩ := (parse_s s h).get
  exact sParseGoal_ok fu s _ e
theorem iParGoal_fn (s : ByteArray) (h : s.size ≤ 1048576) : AFun Tryz.prog 7 [pS s] (.tup [(GBound.pv (goalOf s).1), pB (goalOf s).2]) := by
  obtain ⟨fu, e⟩ := (parse_i s (by omega)).get
  exact iParseGoal_ok fu s _ e
theorem sValidBd_fn (b : GBound) (h : GType.size (GBound.gType b) ≤ 4294967296) : AFun Tryz.prog 11 [(GBound.pv b)] (pB (vldBd b)) := by
  obtain ⟨fu, e⟩ := (vldBd_s b h).get
  exact sIsValidBound_ok fu b _ e
theorem iValidBd_fn (b : GBound) (h : GType.size (GBound.gType b) ≤ 4294967296) : AFun Tryz.prog 12 [(GBound.pv b)] (pB (vldBd b)) := by
  obtain ⟨fu, e⟩ := (vldBd_i b h).get
  exact iIsValidBound_ok fu b _ e
/-- A valid goal's text is read as that goal. -/
theorem goalOf_txt {b : GBound} (hv : vldBd b = true) (hs : (goalTxt b).size ≤ 1099511627776) : goalOf (goalTxt b) = (b, true) := by
  obtain ⟨c, hc, ht, hg⟩ := goalOf_some (s := goalTxt b) ⟨b, hv, rfl⟩
  rw [hg]
  obtain ⟨g1, g2, g3⟩ := goalX_ok hv
  obtain ⟨k1, k2, k3⟩ := goalX_ok hc
  obtain ⟨fu, e1, e2⟩ := ((vldX_i g1 (by omega) (by omega)).and (vldX_i k1 (by omega) (by omega))).get
  have p1 := parse_txt g1 (by omega) (by omega) e1
  have p2 := parse_txt k1 (by omega) (by omega) e2
  rw [← goalTxt_ne hv] at p1
  rw [← goalTxt_ne hc, ht, p1] at p2
  have hx : goalX b = goalX c := by injection p2 with p2; exact congrArg Prod.fst p2
  obtain ⟨-, h2, -, -, -⟩ := goal_ok hv
  obtain ⟨-, h2c, -, -, -⟩ := goal_ok hc
  have d1 := dec_enc _ h2
  have d2 := dec_enc _ h2c
  obtain ⟨n, t⟩ := b
  obtain ⟨n', t'⟩ := c
  unfold goalX at hx
  injection hx with _ hx
  injection hx with h3 h4
  injection h4 with h4 _
  injection h3 with h3 _
  have h3 : n = n' := h3
  have h4 : GType.enc t = GType.enc t' := h4
  have d1 : decI (GType.enc t) = t := d1
  have d2 : decI (GType.enc t') = t' := d2
  rw [h4, d2] at d1
  rw [h3, d1]
theorem goalOf_bad {b : GBound} (hv : vldBd b = false) : goalOf (goalTxt b) = (zeroB, false) := by
  refine goalOf_none ?_; rintro ⟨c, hc, ht⟩
  have e : goalTxt b = s_ := by unfold goalTxt; rw [hv]; rfl
  rw [e, goalTxt_ne hc] at ht
  obtain ⟨g1, g2, g3⟩ := goalX_ok hc
  obtain ⟨c', r, hr, -⟩ := txt_head _ g1
  have := congrArg ByteArray.size ht
  rw [bytesStr_size, hr] at this
  have e0 : s_.size = 0 := rfl
  rw [e0] at this
  exact absurd this (by simp)
end Go.Proofs.YtmpepccpnnldoaaGreat

namespace Go.Proofs.YtmpepccpnnldoaaGreat.W
set_option maxRecDepth 100000
set_option maxHeartbeats 40000000
noncomputable section
open Go.RowKit Go.Proofs
set_option linter.unusedSimpArgs false
set_option linter.unusedVariables false

attribute [local irreducible] lt

abbrev iEqualType_Y := GType → GType → Option Bool
abbrev gEqualFunc_Type__iEqualType_Y := (List GType) → (List GType) → Option Bool
def iEqualType_T (m : iEqualType_Y) : Prop := ∀ (pa : GType) (pb : GType) (r : Bool), m pa pb = some r → AFun Tryz.prog 32 [(GType.pv pa), (GType.pv pb)] (pB r : PV)
def gEqualFunc_Type__iEqualType_T (m : gEqualFunc_Type__iEqualType_Y) : Prop := ∀ (ps1 : List GType) (ps2 : List GType) (r : Bool), m ps1 ps2 = some r → AFun Tryz.prog 64 [rType ps1, rType ps2, .fn 32 []] (pB r : PV)
def iEqualType_G (fu : Nat) (r_iEqualType : iEqualType_Y) (r_gEqualFunc_Type__iEqualType : gEqualFunc_Type__iEqualType_Y) (pa pb : GType) : Option Bool :=
 sw (decide ((pa.gKind : Int) = pb.gKind))
 (sw (decide (pa.gName = pb.gName))
 (bd (r_gEqualFunc_Type__iEqualType pa.gArgs pb.gArgs) (fun x4 =>
 some x4))
 (some false))
 (some false)
theorem iEqualType_step (fu : Nat) (r_iEqualType : iEqualType_Y) (r_gEqualFunc_Type__iEqualType : gEqualFunc_Type__iEqualType_Y) (h_iEqualType : iEqualType_T r_iEqualType) (h_gEqualFunc_Type__iEqualType : gEqualFunc_Type__iEqualType_T r_gEqualFunc_Type__iEqualType) : iEqualType_T (iEqualType_G fu r_iEqualType r_gEqualFunc_Type__iEqualType) := by
  intro pa pb r H
  have H := hd0 H
  refine qI Tryz.func32 (fun C hC => ?_)
  refine qS (qR (q1 (rBx (cType pa)) (q1 (rBx (cType pb)) (q1 rMv (qN (qS (qR (q1 (rFp fo26_0) (q1 (rL1 sh3) (q1 (rFp fo26_0) (q1 (rL1 sh3) (q1 rEq (q1 rMv ?_)))))))))))))
  refine spB 10 H (fun g1 H => ?_) fun g1 H => ?_
  · refine qg g1 (rFp fo26_1) (qg g1 (rL1 sh9) (qg g1 (rFp fo26_1) (qg g1 (rL1 sh9) (qg g1 rSe (q1 (rPt g1) (q1 rMv ?_))))))
    refine spB 17 H (fun g2 H => ?_) fun g2 H => ?_
    · refine qg g2 (rFp fo26_2) (qg g2 (rL1 sh24) (qg g2 (rFp fo26_2) (qg g2 (rL1 sh24) (bdE H fun x4 z3 H => (qg g2 (rCf Tryz.func64 (h_gEqualFunc_Type__iEqualType pa.gArgs pb.gArgs _ z3)) (q1 (rPt g2) (q1 rMv (qN (AWP.ret ?_)))))))))
      obtain rfl : _ = r := (smI H :)
      exact qe1
    iterate 5 refine qk g2 ?_
    refine q1 (rPf g2) (q1 rMv (qN (AWP.ret ?_)))
    obtain rfl : _ = r := (smI H :)
    exact qe1
  iterate 5 refine qk g1 ?_
  refine q1 (rPf g1) (q1 rMv ?_)
  iterate 5 refine qk rfl ?_
  refine q1 (rPf rfl) (q1 rMv (qN (AWP.ret ?_)))
  obtain rfl : _ = r := (smI H :)
  exact qe1
def gEqualFunc_Type__iEqualType_F1 (fu : Nat) (r_iEqualType : iEqualType_Y) (r_gEqualFunc_Type__iEqualType : gEqualFunc_Type__iEqualType_Y) (ps1 ps2 : List GType) : Nat → Unit → Option (LR Unit Bool) :=
 fun i2 _ => gd (i2 < (ps2).length)
 (bd (r_iEqualType (atD ps1 i2) (atD ps2 i2)) (fun x7 =>
 sw (!(x7))
 (some (.ret false))
 (some (.next ()))))
def gEqualFunc_Type__iEqualType_R1 (fu : Nat) (r_iEqualType : iEqualType_Y) (r_gEqualFunc_Type__iEqualType : gEqualFunc_Type__iEqualType_Y) (ps1 ps2 : List GType) : Option (Bool ⊕ Unit) :=
 loopN (gEqualFunc_Type__iEqualType_F1 fu r_iEqualType r_gEqualFunc_Type__iEqualType ps1 ps2) (ps1.length - 0) 0 ()
def gEqualFunc_Type__iEqualType_G (fu : Nat) (r_iEqualType : iEqualType_Y) (r_gEqualFunc_Type__iEqualType : gEqualFunc_Type__iEqualType_Y) (ps1 ps2 : List GType) : Option Bool :=
 sw (!decide ((((ps1.length : Nat) : Int) : Int) = ((ps2.length : Nat) : Int)))
 (some false)
 (so (gEqualFunc_Type__iEqualType_R1 fu r_iEqualType r_gEqualFunc_Type__iEqualType ps1 ps2) (fun _ =>
 some true))
theorem gEqualFunc_Type__iEqualType_step (fu : Nat) (r_iEqualType : iEqualType_Y) (r_gEqualFunc_Type__iEqualType : gEqualFunc_Type__iEqualType_Y) (h_iEqualType : iEqualType_T r_iEqualType) (h_gEqualFunc_Type__iEqualType : gEqualFunc_Type__iEqualType_T r_gEqualFunc_Type__iEqualType) : gEqualFunc_Type__iEqualType_T (gEqualFunc_Type__iEqualType_G fu r_iEqualType r_gEqualFunc_Type__iEqualType) := by
  intro ps1 ps2 r H
  have H := hd0 H
  refine qI Tryz.func64 (fun C hC => ?_)
  refine qS (qR (q1 rMv (qN ?_)))
  iterate 2 refine qS ?_
  refine qR (q1 rMv (q1 (rLn el24 (GType.trs_len _)) (q1 rMv (q1 (rLn el24 (GType.trs_len _)) (q1 rNe (qN ?_))))))
  refine cndB H (fun h1 H => ?_) (fun h1 H => ?_)
  · refine qS (qR (q1 rMv (qN (AWP.ret ?_))))
    obtain rfl : _ = r := (smI H :)
    exact qe1
  refine AWP.skip ?_
  iterate 2 refine qS ?_
  refine qR (q1 rMv (q1 (rLn el24 (GType.trs_len _)) (q1 rMv (qN ?_))))
  refine lenF 0 (GType.trs_len _) (fun hl3 => ?_)
  refine loopB (σ := Unit) (fun i2 _ => ⟨[(1, rType ps2), (2, .fn 32 []), (6, pB false), (15, rType ps1), (16, pN ps1.length), (17, pN i2)], ⟨[], []⟩⟩) (fun _ => ⟨[(6, pB false)], ⟨[], []⟩⟩) (soI H) ?_ ?_
  · rintro i2 ⟨⟩ H
    refine qS (qR (q1 rLt (qN (qS ?_))))
    refine cndL H (fun h4 h4l H => ?_) (fun h4 H => ?_)
    · have h4n := nat_lt_of h4
      refine AWP.skip (qS (AWP.block (qS (qR (q1 rMv (q1 (rIx h4n el24) (q1 (rKe (GType.cs (atD ps1 i2)) sh26) (q1 (rAl zr26) (q1 rMv (q1 (rSu sz26) (qN (qS (qR ?_)))))))))))))
      iterate 2 refine q1 rMv ?_
      refine gdE H fun z5 H => (q1 (rIx z5 el24) (q1 (rKe (GType.cs (atD ps2 i2)) sh26) (q1 (rAl zr26) (q1 (rSu sz26) (qN (qS (qR (q1 rMv (q1 (rLp [pI ((atD ps1 i2).gKind), pS ((atD ps1 i2).gName), rType ((atD ps1 i2).gArgs)] sh26) (q1 (rLp [pI ((atD ps2 i2).gKind), pS ((atD ps2 i2).gName), rType ((atD ps2 i2).gArgs)] sh26) (bdE H fun x7 z6 H => (q1 (rCv Tryz.func32 (h_iEqualType (atD ps1 i2) (atD ps2 i2) _ z6)) (q1 rNo ?_)))))))))))))
      refine qN ?_; refine cndB H (fun h8 H => ?_) (fun h8 H => ?_)
      · refine qS (qR (q1 rMv (qN (AWP.ret ?_))))
        obtain rfl : _ = r := (lkR (smI H) :)
        exact qe1
      refine AWP.skip (qR (q1 (AOp.addI rfl rfl rfl rfl (c := ((i2 + 1 : Nat) : Int)) (by omega) (by omega)) (q1 rMv (qN ?_))))
      exact lpN h4l ⟨_, (smI H :), wkA⟩
    refine AWP.exit ?_; exact lpX ⟨_, H, wkA⟩
  rintro ⟨⟩ H
  refine qS (qR (q1 rMv (qN (AWP.ret ?_))))
  obtain rfl : _ = r := (smI H :)
  exact qe1
mutual
def iEqualType_M : Nat → GType → GType → Option Bool
  | 0, _, _ => none
  | fu + 1, pa, pb => iEqualType_G fu (iEqualType_M fu) (gEqualFunc_Type__iEqualType_M fu) pa pb
def gEqualFunc_Type__iEqualType_M : Nat → (List GType) → (List GType) → Option Bool
  | 0, _, _ => none
  | fu + 1, ps1, ps2 => gEqualFunc_Type__iEqualType_G fu (iEqualType_M fu) (gEqualFunc_Type__iEqualType_M fu) ps1 ps2
end
theorem iEqualType_all (fu : Nat) : iEqualType_T (iEqualType_M fu) ∧ gEqualFunc_Type__iEqualType_T (gEqualFunc_Type__iEqualType_M fu) := by
  induction fu with
  | zero => exact ⟨(fun pa pb r H => by simp only [iEqualType_M] at H; cases H), (fun ps1 ps2 r H => by simp only [gEqualFunc_Type__iEqualType_M] at H; cases H)⟩
  | succ fu ih => exact ⟨(fun pa pb r H => by simp only [iEqualType_M] at H; exact iEqualType_step fu (iEqualType_M fu) (gEqualFunc_Type__iEqualType_M fu) ih.1 ih.2 pa pb r H), (fun ps1 ps2 r H => by simp only [gEqualFunc_Type__iEqualType_M] at H; exact gEqualFunc_Type__iEqualType_step fu (iEqualType_M fu) (gEqualFunc_Type__iEqualType_M fu) ih.1 ih.2 ps1 ps2 r H)⟩
theorem iEqualType_ok (fu : Nat) : iEqualType_T (iEqualType_M fu) := (iEqualType_all fu).1
def iEqualGoal_T (m : GBound → GBound → Option Bool) : Prop := ∀ (pa : GBound) (pb : GBound) (r : Bool), m pa pb = some r → AFun Tryz.prog 13 [(GBound.pv pa), (GBound.pv pb)] (pB r : PV)
def iEqualGoal_M (fu : Nat) (pa pb : GBound) : Option Bool :=
 sw (decide (pa.gTrait = pb.gTrait))
 (bd (iEqualType_M fu pa.gType pb.gType) (fun x3 =>
 some x3))
 (some false)
theorem iEqualGoal_ok (fu : Nat)   : iEqualGoal_T (iEqualGoal_M fu) := by
  intro pa pb r H
  have H := hd0 H
  refine qI Tryz.func13 (fun C hC => ?_)
  refine qS (qR (q1 (rBx (cBound pa)) (q1 (rBx (cBound pb)) (q1 rMv (qN (qS (qR (q1 (rFp fo28_0) (q1 (rL1 sh9) (q1 (rFp fo28_0) (q1 (rL1 sh9) (q1 rSe (q1 rMv ?_)))))))))))))
  refine spB 10 H (fun g1 H => ?_) fun g1 H => ?_
  · refine qg g1 (rFp fo28_1) (qg g1 (rLp [pI pa.gType.gKind, pS pa.gType.gName, rType pa.gType.gArgs] sh26) (qg g1 (rFp fo28_1) (qg g1 (rLp [pI pb.gType.gKind, pS pb.gType.gName, rType pb.gType.gArgs] sh26) (bdE H fun x3 z2 H => (qg g1 (rCf Tryz.func32 (iEqualType_ok fu pa.gType pb.gType _ z2)) (q1 (rPt g1) (q1 rMv (qN (AWP.ret ?_)))))))))
    obtain rfl : _ = r := (smI H :)
    exact qe1
  iterate 5 refine qk g1 ?_
  refine q1 (rPf g1) (q1 rMv (qN (AWP.ret ?_)))
  obtain rfl : _ = r := (smI H :)
  exact qe1

def lbig_T (m : (List UInt8) → Option Bool) : Prop := ∀ (pcode : List UInt8) (r : Bool), m pcode = some r → AFun Tryz.prog 4 [rU pcode] (pB r : PV)
def lbig_M (fu : Nat) (pcode : List UInt8) : Option Bool :=
 some (decide ((((pcode.length : Nat) : Int) : Int) > 1048576))
theorem lbig_ok (fu : Nat)   : lbig_T (lbig_M fu) := by
  intro pcode r H
  have H := hd0 H
  refine qI Tryz.func4 (fun C hC => ?_)
  refine qS (qR (q1 rMv (qN (qS (qR (q1 rMv (q1 (rLn el22 (byteTrs_len _)) (q1 rGt (q1 rMv (qN (AWP.ret ?_)))))))))))
  obtain rfl : _ = r := (smI H :)
  exact qe1

def sDrawFormatGoal_T (m : (List UInt8) → Option GBound) : Prop := ∀ (pcode : List UInt8) (r : GBound), m pcode = some r → AFun Tryz.prog 5 [rU pcode] ((GBound.pv r) : PV)
def sDrawFormatGoal_M (fu : Nat) (pcode : List UInt8) : Option GBound :=
 gd ((pcode).length ≤ 1048576)
 (lt ((DS.start pcode).after ([s_show, s_, s_int] : List ByteArray).length) (fun d2 =>
 lt ((DS.start pcode).pick ([s_show, s_, s_int] : List ByteArray)) (fun y4 =>
 bd (sl4Bent_M fu d2) (fun (x7, x8) =>
 some (GBound.mk y4 x7)))))
theorem sDrawFormatGoal_ok (fu : Nat)   : sDrawFormatGoal_T (sDrawFormatGoal_M fu) := by
  intro pcode r H
  have H := hd0 H
  refine qI Tryz.func5 (fun C hC => ?_)
  refine qS (qR (q1 (rAl zr28) (qN (qS (qR (q1 rMv (gdE H fun z1 H => (q1 (AOp.callNew (ps := [_]) rfl rfl Tryz.func14 (by kernel_rfl) rfl rfl leA rfl rfl (new_ok pcode z1)) (q1 rMv (qN (qS (qR (q1 rMv ?_)))))))))))))
  refine q1 (rBs ([s_show, s_, s_int] : List ByteArray) el39 zr9) (ltQ H fun d2 h3 H => (ltQ H fun y4 h5 H => (q1 (rCp [1] [] Tryz.func15 (nmP h3 h5 (pick_ok (DS.start pcode) ([s_show, s_, s_int] : List ByteArray) (by decide)))) (q1 rMv (bdE2 H fun x7 x8 z6 H => (q1 (rCp [1] [] Tryz.func16 (sl4Bent_ok fu d2 _ z6)) (q1 (rBd zr28 pl28) (q1 (rSu sz28) (qN (AWP.ret ?_))))))))))
  obtain rfl : _ = r := (smI H :)
  exact qe1 (hr := ⟨⟨_, _, _, rfl, rfl, sh28, rfl, rfl⟩, trivial⟩)

def sDrawParseGoal_T (m : (List UInt8) → Option ByteArray) : Prop := ∀ (pcode : List UInt8) (r : ByteArray), m pcode = some r → AFun Tryz.prog 8 [rU pcode] (pS r : PV)
def sDrawParseGoal_M (fu : Nat) (pcode : List UInt8) : Option ByteArray :=
 gd ((pcode).length ≤ 1048576)
 (bd (sl20Goal_M fu (DS.start pcode)) (fun (x3, x4) =>
 gd (GType.size (GBound.gType x3) ≤ 4294967296)
 (bd (sl1Turned_M fu x4 (goalTxt x3) ([x_20, x_28, x_29, s_int] : List ByteArray)) (fun (x7, x8) =>
 some x7))))
theorem sDrawParseGoal_ok (fu : Nat)   : sDrawParseGoal_T (sDrawParseGoal_M fu) := by
  intro pcode r H
  have H := hd0 H
  refine qI Tryz.func8 (fun C hC => ?_)
  refine qS (qR (q1 rMv (qN (qS (qR (q1 rMv (gdE H fun z1 H => (q1 (AOp.callNew (ps := [_]) rfl rfl Tryz.func14 (by kernel_rfl) rfl rfl leA rfl rfl (new_ok pcode z1)) (q1 rMv (qN (qS (qR ?_))))))))))))
  iterate 2 refine q1 rMv ?_
  refine bdE2 H fun x3 x4 z2 H => (q1 (rCp [0] [] Tryz.func24 (sl20Goal_ok fu (DS.start pcode) _ z2)) (gdE H fun z5 H => (q1 (rCf Tryz.func10 (sFmtGoal_fn x3 z5)) (q1 (rBs ([x_20, x_28, x_29, s_int] : List ByteArray) el39 zr9) (bdE2 H fun x7 x8 z6 H => (q1 (rCp [0] [] Tryz.func23 (sl1Turned_ok fu x4 (goalTxt x3) ([x_20, x_28, x_29, s_int] : List ByteArray) _ z6)) (q1 rMv (qN (AWP.ret ?_)))))))))
  obtain rfl : _ = r := (smI H :)
  exact qe1

def lFnGoalText_T (m : (List UInt8) → Option Bool) : Prop := ∀ (pa0 : List UInt8) (r : Bool), m pa0 = some r → AFun Tryz.prog 3 [rU pa0] (pB r : PV)
def lFnGoalText_M (fu : Nat) (pa0 : List UInt8) : Option Bool :=
 bd (lbig_M fu pa0) (fun x2 =>
 sw (x2)
 (some true)
 (bd (sDrawFormatGoal_M fu pa0) (fun x5 =>
 gd (GType.size (GBound.gType x5) ≤ 4294967296)
 (gd (((goalTxt x5)).size ≤ 1048576)
 (bd (sDrawParseGoal_M fu pa0) (fun x9 =>
 gd ((x9).size ≤ 1048576)
 (sw (decide ((goalTxt x5) = (goalTxt x5)))
 (sw (decide (((goalOf (goalTxt x5)).2 : Bool) = (vldBd x5)))
 (sw (decide ((vldBd x5 : Bool) = ((goalOf (goalTxt x5)).2)))
 (sw (!((goalOf (goalTxt x5)).2))
 (sw (decide (((goalOf x9).2 : Bool) = ((goalOf x9).2)))
 (sw (!((goalOf x9).2))
 (some true)
 (gd (GType.size (GBound.gType ((goalOf x9).1)) ≤ 4294967296)
 (some (decide ((goalTxt ((goalOf x9).1)) = x9)))))
 (some false))
 (bd (iEqualGoal_M fu x5 ((goalOf (goalTxt x5)).1)) (fun x19 =>
 sw (x19)
 (sw (decide (((goalOf x9).2 : Bool) = ((goalOf x9).2)))
 (sw (!((goalOf x9).2))
 (some true)
 (gd (GType.size (GBound.gType ((goalOf x9).1)) ≤ 4294967296)
 (some (decide ((goalTxt ((goalOf x9).1)) = x9)))))
 (some false))
 (some false))))
 (some false))
 (some false))
 (some false))))))))
theorem lFnGoalText_ok (fu : Nat)   : lFnGoalText_T (lFnGoalText_M fu) := by
  intro pa0 r H
  have H := hd0 H
  refine qI Tryz.func3 (fun C hC => ?_)
  refine qS (qR (q1 rMv (qN ?_)))
  iterate 2 refine qS ?_
  refine qR (q1 rMv (bdE H fun x2 z1 H => (q1 (rCf Tryz.func4 (lbig_ok fu pa0 _ z1)) (qN ?_))))
  refine cndB H (fun h3 H => ?_) (fun h3 H => ?_)
  · refine qS (qR (q1 rMv (qN (AWP.ret ?_))))
    obtain rfl : _ = r := (smI H :)
    exact qe1
  refine AWP.skip (qS (qR (q1 rMv (bdE H fun x5 z4 H => (q1 (rCf Tryz.func5 (sDrawFormatGoal_ok fu pa0 _ z4)) (q1 (rAl zr28) (q1 (rSu sz28) (qN (qS (qR (q1 (rLp [pS x5.gTrait, pI x5.gType.gKind, pS x5.gType.gName, rType x5.gType.gArgs] sh28) (gdE H fun z6 H => (q1 (rCf Tryz.func6 (iFmtGoal_fn x5 z6)) ?_)))))))))))))
  refine q1 rMv (qN (qS (qR (q1 rMv (gdE H fun z7 H => (q1 (rCf Tryz.func7 (iParGoal_fn (goalTxt x5) z7)) (q1 rMv ?_)))))))
  iterate 2 refine q1 rEx ?_
  refine q1 (rAl zr28) (q1 (rSu sz28) (q1 rMv (qN (qS (qR (q1 rMv (bdE H fun x9 z8 H => (q1 (rCf Tryz.func8 (sDrawParseGoal_ok fu pa0 _ z8)) (q1 rMv (qN (qS (qR (q1 rMv ?_)))))))))))))
  refine gdE H fun z10 H => (q1 (rCf Tryz.func7 (iParGoal_fn x9 z10)) (q1 rMv ?_))
  iterate 2 refine q1 rEx ?_
  refine q1 (rAl zr28) (q1 (rSu sz28) (q1 rMv (qN (qS (qR (q1 rMv (q1 (rCf Tryz.func9 (sParGoal_fn x9 z10)) (q1 rMv ?_))))))))
  iterate 2 refine q1 rEx ?_
  refine q1 (rAl zr28) (q1 (rSu sz28) (q1 rMv (qN (qS (qR (q1 rMv (q1 (rLp [pS x5.gTrait, pI x5.gType.gKind, pS x5.gType.gName, rType x5.gType.gArgs] sh28) (q1 (rCf Tryz.func10 (sFmtGoal_fn x5 z6)) (q1 rSe (q1 rMv ?_))))))))))
  refine spB 39 H (fun g11 H => ?_) fun g11 H => ?_
  · refine qg g11 rMv (qg g11 (rLp [pS x5.gTrait, pI x5.gType.gKind, pS x5.gType.gName, rType x5.gType.gArgs] sh28) (qg g11 (rCf Tryz.func11 (sValidBd_fn x5 z6)) (qg g11 (AOp.eqlB rfl rfl rfl rfl Tryz.underlying4) (q1 (rPt g11) (q1 rMv ?_)))))
    refine spB 45 H (fun g12 H => ?_) fun g12 H => ?_
    · refine qg g12 (rLp [pS x5.gTrait, pI x5.gType.gKind, pS x5.gType.gName, rType x5.gType.gArgs] sh28) (qg g12 (rCf Tryz.func12 (iValidBd_fn x5 z6)) (qg g12 rMv (qg g12 (AOp.eqlB rfl rfl rfl rfl Tryz.underlying4) (q1 (rPt g12) (q1 rMv ?_)))))
      refine spB 51 H (fun g13 H => ?_) fun g13 H => ?_
      · refine qg g13 rMv (qg g13 rNo (qg g13 rMv ?_))
        refine spB 54 H (fun g14 H => ?_) fun g14 H => ?_
        · refine qk g14 ?_
          iterate 2 refine qk g14 ?_
          refine qg g13 (rPt g14) (q1 (rPt g13) (q1 rMv ?_))
          iterate 2 refine qg rfl rMv ?_
          refine qg rfl (AOp.eqlB rfl rfl rfl rfl Tryz.underlying4) (q1 (rPt rfl) (q1 rMv ?_))
          refine spB 65 H (fun g15 H => ?_) fun g15 H => ?_
          · refine qg g15 rMv (qg g15 rNo (qg g15 rMv ?_))
            refine spB 68 H (fun g16 H => ?_) fun g16 H => ?_
            · refine qk g16 ?_
              iterate 3 refine qk g16 ?_
              refine qg g15 (rPt g16) (q1 (rPt g15) (q1 rMv (qN (AWP.ret ?_))))
              obtain rfl : _ = r := (smI H :)
              exact qe1
            refine qg g16 (rLp [pS (((goalOf x9).1).gTrait), pI (((goalOf x9).1).gType.gKind), pS (((goalOf x9).1).gType.gName), rType (((goalOf x9).1).gType.gArgs)] sh28) (gdE H fun z17 H => (qg g16 (rCf Tryz.func6 (iFmtGoal_fn ((goalOf x9).1) z17)) (qg g16 rMv (qg g16 rSe (qg g15 (rPf g16) (q1 (rPt g15) (q1 rMv (qN (AWP.ret ?_)))))))))
            obtain rfl : _ = r := (smI H :)
            exact qe1
          iterate 3 refine qk g15 ?_
          iterate 4 refine qku ?_
          refine qk g15 (q1 (rPf g15) (q1 rMv (qN (AWP.ret ?_))))
          obtain rfl : _ = r := (smI H :)
          exact qe1
        refine qg g14 (rLp [pS x5.gTrait, pI x5.gType.gKind, pS x5.gType.gName, rType x5.gType.gArgs] sh28) (qg g14 (rLp [pS (((goalOf (goalTxt x5)).1).gTrait), pI (((goalOf (goalTxt x5)).1).gType.gKind), pS (((goalOf (goalTxt x5)).1).gType.gName), rType (((goalOf (goalTxt x5)).1).gType.gArgs)] sh28) (bdE H fun x19 z18 H => (qg g14 (rCf Tryz.func13 (iEqualGoal_ok fu x5 ((goalOf (goalTxt x5)).1) _ z18)) (qg g13 (rPf g14) (q1 (rPt g13) (q1 rMv ?_))))))
        refine spB 60 H (fun g20 H => ?_) fun g20 H => ?_
        · refine qg g20 rMv (qg g20 rMv (qg g20 (AOp.eqlB rfl rfl rfl rfl Tryz.underlying4) (q1 (rPt g20) (q1 rMv ?_))))
          refine spB 65 H (fun g21 H => ?_) fun g21 H => ?_
          · refine qg g21 rMv (qg g21 rNo (qg g21 rMv ?_))
            refine spB 68 H (fun g22 H => ?_) fun g22 H => ?_
            · refine qk g22 ?_
              iterate 3 refine qk g22 ?_
              refine qg g21 (rPt g22) (q1 (rPt g21) (q1 rMv (qN (AWP.ret ?_))))
              obtain rfl : _ = r := (smI H :)
              exact qe1
            refine qg g22 (rLp [pS (((goalOf x9).1).gTrait), pI (((goalOf x9).1).gType.gKind), pS (((goalOf x9).1).gType.gName), rType (((goalOf x9).1).gType.gArgs)] sh28) (gdE H fun z23 H => (qg g22 (rCf Tryz.func6 (iFmtGoal_fn ((goalOf x9).1) z23)) (qg g22 rMv (qg g22 rSe (qg g21 (rPf g22) (q1 (rPt g21) (q1 rMv (qN (AWP.ret ?_)))))))))
            obtain rfl : _ = r := (smI H :)
            exact qe1
          iterate 3 refine qk g21 ?_
          iterate 4 refine qku ?_
          refine qk g21 (q1 (rPf g21) (q1 rMv (qN (AWP.ret ?_))))
          obtain rfl : _ = r := (smI H :)
          exact qe1
        iterate 3 refine qk g20 ?_
        refine q1 (rPf g20) (q1 rMv ?_)
        iterate 3 refine qk rfl ?_
        iterate 4 refine qku ?_
        refine qk rfl (q1 (rPf rfl) (q1 rMv (qN (AWP.ret ?_))))
        obtain rfl : _ = r := (smI H :)
        exact qe1
      iterate 3 refine qk g13 ?_
      iterate 3 refine qku ?_
      refine qk g13 (q1 (rPf g13) (q1 rMv ?_))
      iterate 3 refine qk rfl ?_
      refine q1 (rPf rfl) (q1 rMv ?_)
      iterate 3 refine qk rfl ?_
      iterate 4 refine qku ?_
      refine qk rfl (q1 (rPf rfl) (q1 rMv (qN (AWP.ret ?_))))
      obtain rfl : _ = r := (smI H :)
      exact qe1
    iterate 4 refine qk g12 ?_
    refine q1 (rPf g12) (q1 rMv ?_)
    iterate 3 refine qk rfl ?_
    iterate 3 refine qku ?_
    refine qk rfl (q1 (rPf rfl) (q1 rMv ?_))
    iterate 3 refine qk rfl ?_
    refine q1 (rPf rfl) (q1 rMv ?_)
    iterate 3 refine qk rfl ?_
    iterate 4 refine qku ?_
    refine qk rfl (q1 (rPf rfl) (q1 rMv (qN (AWP.ret ?_))))
    obtain rfl : _ = r := (smI H :)
    exact qe1
  iterate 4 refine qk g11 ?_
  refine q1 (rPf g11) (q1 rMv ?_)
  iterate 4 refine qk rfl ?_
  refine q1 (rPf rfl) (q1 rMv ?_)
  iterate 3 refine qk rfl ?_
  iterate 3 refine qku ?_
  refine qk rfl (q1 (rPf rfl) (q1 rMv ?_))
  iterate 3 refine qk rfl ?_
  refine q1 (rPf rfl) (q1 rMv ?_)
  iterate 3 refine qk rfl ?_
  iterate 4 refine qku ?_
  refine qk rfl (q1 (rPf rfl) (q1 rMv (qN (AWP.ret ?_))))
  obtain rfl : _ = r := (smI H :)
  exact qe1

end
end Go.Proofs.YtmpepccpnnldoaaGreat.W

namespace Go.Proofs.YtmpepccpnnldoaaGreat
set_option linter.unusedSimpArgs false
set_option linter.unusedVariables false
open Go.RowKit

theorem bulkL_app : ∀ (a b : List Tr), Tr.bulkL (a ++ b) = Tr.bulkL a + Tr.bulkL b
  | [], b => by simp [Tr.bulkL]
  | t :: a, b => by simp [Tr.bulkL, bulkL_app a b, Nat.add_assoc]
theorem bulkAll_app : ∀ (a b : List (List Tr)), Tr.bulkAll (a ++ b) = Tr.bulkAll a + Tr.bulkAll b
  | [], b => by simp [Tr.bulkAll]
  | t :: a, b => by simp [Tr.bulkAll, bulkAll_app a b, Nat.add_assoc]
theorem GType.bk_mk (v0 : Int) (v1 : ByteArray) (v2 : List GType) : Tr.bulkL (GType.tr (.mk v0 v1 v2)) = v1.size + (v2.length + Tr.bulkAll (GType.trs v2)) := by
  simp only [GType.tr, bulkL_app, Tr.bulkL, Tr.bulk, strTrs_len, intTrs_len, intTrs_bulk, GType.trs_len]
  first | done | omega
theorem GType.bks_nil : Tr.bulkAll (GType.trs []) = 0 := by simp [GType.trs_map, Tr.bulkAll]
theorem GType.bks_cons (a : GType) (l : List GType) : Tr.bulkAll (GType.trs (a :: l)) = Tr.bulkL (GType.tr a) + Tr.bulkAll (GType.trs l) := by simp [GType.trs_map, Tr.bulkAll]
theorem GType.bks_app (a b : List GType) : Tr.bulkAll (GType.trs (a ++ b)) = Tr.bulkAll (GType.trs a) + Tr.bulkAll (GType.trs b) := by rw [← bulkAll_app]; simp [GType.trs_map]
end Go.Proofs.YtmpepccpnnldoaaGreat

namespace Go.Proofs.YtmpepccpnnldoaaGreat.W
set_option linter.unusedSimpArgs false
set_option linter.unusedVariables false
open Go.RowKit Go.WalkArith Go.IntWalk

theorem ltE2 {α β : Type} (x : α) (f : α → Option β) : lt x f = f x := rfl
theorem ty_eta (t : GType) : GType.mk t.gKind t.gName t.gArgs = t := by cases t; rfl
/-- A projection has an argument, a variable none, int and bool none. -/
def NodeOk (u : GType) : Prop := (u.gKind = 3 → u.gArgs ≠ []) ∧ (u.gKind = 1 → u.gArgs = []) ∧ (u.gKind = 2 → u.gName = ⟨#[105, 110, 116]⟩ ∨ u.gName = ⟨#[98, 111, 111, 108]⟩ → u.gArgs = [])
def GoodT (t : GType) : Prop := ∀ u ∈ t.pre, NodeOk u
theorem good_mk {k : Int} {n : ByteArray} {xs : List GType} (h : NodeOk (.mk k n xs)) (hx : ∀ x ∈ xs, GoodT x) : GoodT (GType.mk k n xs) := by
  intro u hu
  rw [GType.pre] at hu
  rcases List.mem_cons.1 hu with rfl | hu
  · exact h
  · have : ∀ (xs : List GType), (∀ x ∈ xs, GoodT x) → u ∈ GType.pres xs → NodeOk u := by
      intro xs
      induction xs with
      | nil => intro _ h; simp [GType.pres] at h
      | cons a l ih =>
        intro hx hu
        rw [GType.pres, List.mem_append] at hu
        rcases hu with hu | hu
        · exact hx a (by simp) u hu
        · exact ih (fun x hx' => hx x (by simp [hx'])) hu
    exact this xs hx hu
theorem good0 {k : Int} {n : ByteArray} (h : k ≠ 3) : GoodT (GType.mk k n []) := good_mk ⟨fun e => absurd e h, fun _ => rfl, fun _ _ => rfl⟩ (by simp)
theorem nodeN {k : Int} {n : ByteArray} {xs : List GType} (hx : xs ≠ []) (hk : k ≠ 1) (hn : k = 2 → n ≠ ⟨#[105, 110, 116]⟩ ∧ n ≠ ⟨#[98, 111, 111, 108]⟩) : NodeOk (.mk k n xs) :=
  ⟨fun _ => hx, fun e => absurd e hk, fun e h => by
    have := hn e
    rcases h with h | h
    · exact absurd h this.1
    · exact absurd h this.2⟩
theorem ty_bulk (k : Int) (n : ByteArray) (xs : List GType) : Tr.bulkL (GType.mk k n xs).tr = n.size + (xs.length + Tr.bulkAll (GType.trs xs)) := GType.bk_mk k n xs
/-- Not greater than b, and good. -/
def TyG (b : Nat) (t : GType) : Prop := Tr.bulkL t.tr ≤ b ∧ GoodT t
theorem TyG.mono {b c : Nat} {t : GType} (h : TyG b t) (hc : b ≤ c) : TyG c t := ⟨Nat.le_trans h.1 hc, h.2⟩
theorem tyG0 {k : Int} {n : ByteArray} {b : Nat} (h : k ≠ 3) (hn : n.size ≤ b) : TyG b (.mk k n []) := ⟨by rw [ty_bulk, GType.bks_nil]; simpa using hn, good0 h⟩
theorem tyG1 {k : Int} {n : ByteArray} {b c : Nat} {x : GType} (hx : TyG b x) (hn : n.size + 1 + b ≤ c) (hk : k ≠ 1) (h2 : k = 2 → n ≠ ⟨#[105, 110, 116]⟩ ∧ n ≠ ⟨#[98, 111, 111, 108]⟩) : TyG c (.mk k n [x]) := ⟨by
  rw [ty_bulk, GType.bks_cons, GType.bks_nil]
  have := hx.1
  simp only [List.length_cons, List.length_nil]
  omega, good_mk (nodeN (by simp) hk h2) (by simpa using hx.2)⟩
theorem tyG2 {k : Int} {n : ByteArray} {b c : Nat} {x y : GType} (hx : TyG b x) (hy : TyG b y) (hn : n.size + 2 + b + b ≤ c) (hk : k ≠ 1) (h2 : k = 2 → n ≠ ⟨#[105, 110, 116]⟩ ∧ n ≠ ⟨#[98, 111, 111, 108]⟩) : TyG c (.mk k n [x, y]) := ⟨by
  rw [ty_bulk, GType.bks_cons, GType.bks_cons, GType.bks_nil]
  have := hx.1
  have := hy.1
  simp only [List.length_cons, List.length_nil]
  omega, good_mk (nodeN (by simp) hk h2) (by
    intro z hz
    rcases List.mem_cons.1 hz with rfl | hz
    · exact hx.2
    · obtain rfl := List.mem_singleton.1 hz
      exact hy.2)⟩
theorem con_ok (fu : Nat) (n : ByteArray) (xs : List GType) (h : xs.length ≤ 68719476736) : Ok (sl4Con_M fu n xs) (fun t => t = .mk 2 n xs) := by
  unfold sl4Con_M
  try simp only [ltE2, ty_eta, s_, s_A, s_a, s_abcdefghi, s_add, s_assoc, s_b, s_bool, s_box, s_case, s_dyn, s_eq, s_false, s_if, s_int, s_let, s_list, s_method, s_new, s_ord, s_pack, s_pair, s_show, s_true, s_unit, x_20, x_27, x_272d2b2a3c3d2e, x_28, x_29]
  exact Ok.gd (by simpa using h) (Ok.some (by simp))
theorem var_ok (fu : Nat) (n : ByteArray) : Ok (sl4Var_M fu n) (fun t => t = .mk 1 n []) := Ok.some rfl
theorem int_ok (fu : Nat) : Ok (sl4Int_M fu) (fun t => t = .mk 2 ⟨#[105, 110, 116]⟩ []) := by
  unfold sl4Int_M
  try simp only [ltE2, ty_eta, s_, s_A, s_a, s_abcdefghi, s_add, s_assoc, s_b, s_bool, s_box, s_case, s_dyn, s_eq, s_false, s_if, s_int, s_let, s_list, s_method, s_new, s_ord, s_pack, s_pair, s_show, s_true, s_unit, x_20, x_27, x_272d2b2a3c3d2e, x_28, x_29]
  refine Ok.bd (con_ok fu _ _ (by simp)) ?_; rintro t rfl
  exact Ok.some rfl
theorem copy_ok : ∀ (t : GType) (fu : Nat), 2 * GType.size t ≤ fu → Tr.bulkL t.tr ≤ 68719476735 → Ok (sl4Copy_M fu t) (fun u => u = t) := by
  refine GType.ind fun k n xs ih => ?_; intro fu hf hb
  rw [ty_bulk] at hb
  simp only [GType.size] at hf
  obtain ⟨f1, rfl⟩ : ∃ f1, fu = f1 + 1 + 1 := ⟨fu - 2, by omega⟩
  simp only [sl4Copy_M]
  unfold sl4Copy_G
  refine Ok.bd (Q := fun l => l = xs) ?_ (fun l hl => by subst hl; exact Ok.some rfl)
  simp only [GType.gArgs_mk, sl4Copies_M]
  unfold sl4Copies_G
  refine Ok.sok (E := fun l => l = xs) ?_ (fun l hl => by subst hl; exact Ok.some rfl)
  unfold sl4Copies_R1
  refine Ok.loopN0 (fun i l => i ≤ xs.length ∧ l = xs.take i) ⟨Nat.zero_le _, by simp⟩ ?_ ?_
  · rintro i l hi ⟨hi2, rfl⟩
    exact List.take_of_length_le (by omega)
  · rintro i l hi ⟨hi2, rfl⟩
    have hi : i < xs.length := by omega
    unfold sl4Copies_F1
    rw [atD_eq hi]
    have hz : GType.size xs[i] ≤ GType.sizes xs := by
      have h1 := GType.sizes_step hi
      have h2 := GType.sizes_drop xs i
      omega
    have hbx : Tr.bulkL (xs[i]).tr ≤ Tr.bulkAll (GType.trs xs) := by
      have h1 : i < (GType.trs xs).length := by rw [GType.trs_len]; exact hi
      have h2 := Tr.bulkAll_le h1
      have h3 : (GType.trs xs)[i] = (xs[i]).tr := by have h4 := GType.trs_get hi; rw [List.getElem?_eq_getElem h1] at h4; exact Option.some.inj h4
      rwa [h3] at h2
    refine Ok.bd (ih _ (List.getElem_mem hi) f1 (by omega) (by omega)) ?_; rintro x rfl
    refine Ok.gdk (by simp only [List.length_take, List.length_cons, List.length_nil]; omega) (fun _ => Ok.some ⟨by omega, ?_⟩)
    rw [List.take_succ_eq_append_getElem hi]
theorem proj_ok (fu : Nat) (n : ByteArray) (t : GType) (h : Tr.bulkL t.tr ≤ 1048576) (hf : 2097154 ≤ fu) : Ok (sl4Proj_M fu n t) (fun u => u = .mk 3 n [t]) := by
  have hz := GType.size_bulk t
  unfold sl4Proj_M
  refine Ok.bd (copy_ok t fu (by omega) (by omega)) ?_; rintro u rfl
  exact Ok.some rfl
def bty : Nat → Nat
  | 0 => 20
  | n + 1 => 2 * bty n + 20
theorem bty_ge : ∀ n, 20 ≤ bty n
  | 0 => Nat.le_refl _
  | n + 1 => by unfold bty; omega
theorem names3 {a b c : ByteArray} {k : Nat} (ha : a.size ≤ k) (hb : b.size ≤ k) (hc : c.size ≤ k) : ∀ v ∈ [a, b, c], v.size ≤ k := by
  intro v hv
  simp only [List.mem_cons, List.not_mem_nil, or_false] at hv
  rcases hv with rfl | rfl | rfl <;> assumption
theorem names2 {a b : ByteArray} {k : Nat} (ha : a.size ≤ k) (hb : b.size ≤ k) : ∀ v ∈ [a, b], v.size ≤ k := by
  intro v hv
  simp only [List.mem_cons, List.not_mem_nil, or_false] at hv
  rcases hv with rfl | rfl <;> assumption
theorem lists_name (d : DS) : d.pick [⟨#[108, 105, 115, 116]⟩, ⟨#[108, 105, 115, 116]⟩, ⟨#[98, 111, 120]⟩] ≠ ⟨#[105, 110, 116]⟩ ∧ d.pick [⟨#[108, 105, 115, 116]⟩, ⟨#[108, 105, 115, 116]⟩, ⟨#[98, 111, 120]⟩] ≠ ⟨#[98, 111, 111, 108]⟩ := by
  have := d.pick_mem (l := [⟨#[108, 105, 115, 116]⟩, ⟨#[108, 105, 115, 116]⟩, ⟨#[98, 111, 120]⟩]) (by simp)
  simp only [List.mem_cons, List.not_mem_nil, or_false] at this
  rcases this with h | h | h <;> rw [h] <;> decide
theorem ty_step (fu : Nat) (r : DS → List ByteArray → Int → Option (GType × DS)) (n : Nat) (hn : n ≤ 50) (hr : ∀ m, n = m + 1 → ∀ d vs, (∀ v ∈ vs, v.size ≤ 8) → Ok (r d vs (m : Int)) (fun q => TyG (bty m) q.1)) (d : DS) (vs : List ByteArray) (hv : ∀ v ∈ vs, v.size ≤ 8) :
    Ok (sl4Ty_G fu r d vs (n : Int)) (fun q => TyG (bty n) q.1) := by
  have hB := bty_ge n
  have leaf : ∀ (x : ByteArray) (D : DS), x.size ≤ 8 → Ok (bd (sl4Con_M fu x []) (fun t => some (t, D))) (fun q => TyG (bty n) q.1) := fun x D hx => by
    refine Ok.bd (con_ok fu _ _ (by simp)) ?_; rintro t rfl
    exact Ok.some (tyG0 (by decide) (by omega))
  have hrec : ¬ ((n : Int) ≤ 0) → ∀ D, Ok (r D vs (wrap64 ((n : Int) - 1))) (fun q => 2 * bty (n - 1) + 20 = bty n ∧ TyG (bty (n - 1)) q.1) := fun h0 D => by
    obtain ⟨m, rfl⟩ : ∃ m, n = m + 1 := ⟨n - 1, by omega⟩
    rw [wrap_pred (by omega)]
    exact (hr m rfl D vs hv).mono fun q hq => ⟨rfl, hq⟩
  unfold sl4Ty_G
  try simp only [ltE2, ty_eta, s_, s_A, s_a, s_abcdefghi, s_add, s_assoc, s_b, s_bool, s_box, s_case, s_dyn, s_eq, s_false, s_if, s_int, s_let, s_list, s_method, s_new, s_ord, s_pack, s_pair, s_show, s_true, s_unit, x_20, x_27, x_272d2b2a3c3d2e, x_28, x_29]
  have mid : ∀ D : DS, Ok (sw (decide ((((D.below 8 : Nat) : Int) : Int) < 5)) (bd (sl4Con_M fu ((D.after 8).pick [⟨#[105, 110, 116]⟩, ⟨#[98, 111, 111, 108]⟩, ⟨#[117, 110, 105, 116]⟩]) []) (fun x => some (x, (D.after 8).after 3)))
      (sw (decide ((n : Int) ≤ 0)) (bd (sl4Con_M fu ((D.after 8).pick [⟨#[105, 110, 116]⟩, ⟨#[98, 111, 111, 108]⟩, ⟨#[117, 110, 105, 116]⟩]) []) (fun x => some (x, (D.after 8).after 3)))
      (sw (decide ((((D.below 8 : Nat) : Int) : Int) = 5)) (bd (r (D.after 8) vs (wrap64 ((n : Int) - 1))) (fun q => bd (r q.2 vs (wrap64 ((n : Int) - 1))) (fun q2 => bd (sl4Con_M fu ⟨#[112, 97, 105, 114]⟩ [q.1, q2.1]) (fun x => some (x, q2.2)))))
        (bd (r ((D.after 8).after 3) vs (wrap64 ((n : Int) - 1))) (fun q => bd (sl4Con_M fu ((D.after 8).pick [⟨#[108, 105, 115, 116]⟩, ⟨#[108, 105, 115, 116]⟩, ⟨#[98, 111, 120]⟩]) [q.1]) (fun x => some (x, q.2))))))) (fun q => TyG (bty n) q.1) := fun D => by
    have hp := DS.pick_size (D.after 8) (l := [⟨#[105, 110, 116]⟩, ⟨#[98, 111, 111, 108]⟩, ⟨#[117, 110, 105, 116]⟩]) (k := 8) (by simp) (names3 (by decide) (by decide) (by decide))
    refine Ok.sw (fun _ => leaf _ _ hp) fun _ => Ok.sw (fun _ => leaf _ _ hp) fun h0 => Ok.sw (fun _ => ?_) fun _ => ?_
    · have h0 := of_decide_eq_false h0
      refine Ok.bd (hrec h0 _) fun q hq => Ok.bd (hrec h0 _) fun q2 hq2 => Ok.bd (con_ok fu _ _ (by simp)) ?_; rintro t rfl
      exact Ok.some (tyG2 hq.2 hq2.2 (by have := hq.1; show 4 + _ + _ + _ ≤ _; omega) (by decide) (fun _ => by decide))
    · have h0 := of_decide_eq_false h0
      refine Ok.bd (hrec h0 _) fun q hq => Ok.bd (con_ok fu _ _ (by simp)) ?_; rintro t rfl
      have hp2 := DS.pick_size (D.after 8) (l := [⟨#[108, 105, 115, 116]⟩, ⟨#[108, 105, 115, 116]⟩, ⟨#[98, 111, 120]⟩]) (k := 8) (by simp) (names3 (by decide) (by decide) (by decide))
      exact Ok.some (tyG1 hq.2 (by have := hq.1; omega) (by decide) (fun _ => lists_name _))
  refine Ok.sw (fun _ => Ok.sw (fun h => ?_) fun _ => ?_) fun _ => ?_
  · have hl : 0 < vs.length := by have := of_decide_eq_true h; omega
    have hlt := (d.after 8).below_lt hl
    refine Ok.gd hlt (Ok.bd (var_ok fu _) ?_)
    rintro t rfl
    exact Ok.some (tyG0 (by decide) (by have := hv _ (atD_mem hlt); omega))
  · exact mid d
  · exact mid d
def TTy (fu : Nat) : Prop := ∀ n : Nat, n ≤ 50 → ∀ d vs, (∀ v ∈ vs, v.size ≤ 8) → Ok (sl4Ty_M fu d vs (n : Int)) (fun q => TyG (bty n) q.1)
theorem ty_ok : ∀ n : Nat, n ≤ 50 → Evt fun fu => ∀ d vs, (∀ v ∈ vs, v.size ≤ 8) → Ok (sl4Ty_M fu d vs (n : Int)) (fun q => TyG (bty n) q.1)
  | 0, hn => Evt.succ (.all fun fu d vs hv => ty_step fu _ 0 hn (fun m h => by omega) d vs hv)
  | n + 1, hn => Evt.succ ((ty_ok n (by omega)).imp fun fu hf d vs hv => ty_step fu _ (n + 1) hn (fun m h => by have e : m = n := (by omega); subst e; exact hf) d vs hv)
theorem tTy : Evt TTy := (Evt.below (k := 51) fun i hi => ty_ok i (by omega)).imp fun fu h n hn => h n (by omega)
theorem ab_names : ∀ v ∈ ([⟨#[97]⟩, ⟨#[98]⟩] : List ByteArray), v.size ≤ 8 := names2 (by decide) (by decide)
def TFree (fu : Nat) : Prop := ∀ n : Nat, n ≤ 20 → bty n ≤ 1048576 → ∀ d, Ok (sl4Free_M fu d (n : Int)) (fun q => TyG (bty n + 20) q.1)
theorem tFree : Evt TFree := (tTy.and (Evt.ge 2097154)).imp fun fu hf2 n hn hb d => by
  obtain ⟨hf, hfu⟩ := hf2
  unfold sl4Free_M
  try simp only [ltE2, ty_eta, s_, s_A, s_a, s_abcdefghi, s_add, s_assoc, s_b, s_bool, s_box, s_case, s_dyn, s_eq, s_false, s_if, s_int, s_let, s_list, s_method, s_new, s_ord, s_pack, s_pair, s_show, s_true, s_unit, x_20, x_27, x_272d2b2a3c3d2e, x_28, x_29]
  refine Ok.bd (hf n (by omega) d _ ab_names) ?_; rintro ⟨t, D⟩ ht
  have hp := DS.pick_size (D.after 8) (l := [⟨#[97, 100, 100]⟩, ⟨#[115, 104, 111, 119]⟩]) (k := 8) (by simp) (names2 (by decide) (by decide))
  have hle : Tr.bulkL t.tr ≤ 1048576 := by have h1 : Tr.bulkL t.tr ≤ bty n := ht.1; omega
  dsimp only
  refine Ok.sw (fun _ => ?_) fun _ => Ok.sw (fun _ => ?_) fun _ => Ok.sw (fun _ => ?_) fun _ => ?_
  · refine Ok.bd (proj_ok fu _ _ hle hfu) ?_; rintro u rfl
    exact Ok.some (tyG1 ht (by omega) (by decide) (fun h => absurd h (by decide)))
  · refine Ok.bd (proj_ok fu _ _ hle hfu) ?_; rintro u rfl
    refine Ok.bd (con_ok fu _ _ (by simp)) ?_; rintro u rfl
    exact Ok.some (tyG1 (b := bty n + 4) (tyG1 ht (by show 3 + 1 + _ ≤ _; omega) (by decide) (fun h => absurd h (by decide))) (by show 4 + 1 + _ ≤ _; omega) (by decide) (fun _ => by decide))
  · exact Ok.some (tyG0 (by decide) (by show 4 ≤ _; omega))
  · exact Ok.some (ht.mono (by omega))

end Go.Proofs.YtmpepccpnnldoaaGreat.W

namespace Go.Proofs.YtmpepccpnnldoaaGreat.W
set_option linter.unusedSimpArgs false
set_option linter.unusedVariables false
open Go.RowKit Go.WalkArith Go.IntWalk

theorem names5 {a b c d e : ByteArray} {k : Nat} (ha : a.size ≤ k) (hb : b.size ≤ k) (hc : c.size ≤ k) (hd : d.size ≤ k) (he : e.size ≤ k) : ∀ v ∈ [a, b, c, d, e], v.size ≤ k := by
  intro v hv
  simp only [List.mem_cons, List.not_mem_nil, or_false] at hv
  rcases hv with rfl | rfl | rfl | rfl | rfl <;> assumption
/-- A type that may be bent. -/
def TBent (fu : Nat) : Prop := ∀ d, Ok (sl4Bent_M fu d) (fun q => Tr.bulkL q.1.tr ≤ 1000)
theorem tBent : Evt TBent := tFree.imp fun fu hF d => by
  unfold sl4Bent_M
  refine Ok.bd (hF 3 (by omega) (by decide) d) ?_; rintro ⟨⟨k, n, xs⟩, D⟩ ht
  have hb : Tr.bulkL (GType.mk k n xs).tr ≤ 320 := ht.1
  rw [ty_bulk] at hb
  dsimp only [ltE2, GType.gKind_mk, GType.gName_mk, GType.gArgs_mk]
  refine Ok.sw (fun _ => Ok.some ?_) (fun _ => ?_)
  · rw [ty_bulk]; omega
  refine Ok.sw (fun _ => Ok.some ?_) (fun _ => ?_)
  · have hp := DS.pick_size (D.after 12) (l := [s_, s_int, s_A, s_assoc, s_abcdefghi]) (k := 9) (by simp) (names5 (by decide) (by decide) (by decide) (by decide) (by decide))
    rw [ty_bulk]; omega
  refine Ok.sw (fun _ => ?_) (fun _ => ?_)
  · refine Ok.bd (int_ok fu) ?_; rintro u rfl
    refine Ok.bd (Q := fun u => u = .mk 2 s_bool []) (by unfold sl4Bool_M; refine Ok.bd (con_ok fu _ _ (by simp)) ?_; rintro t rfl; exact Ok.some rfl) ?_; rintro u rfl
    refine Ok.gd (by simp only [List.length_cons, List.length_nil]; omega) (Ok.some ?_)
    rw [ty_bulk, GType.bks_app, GType.bks_cons, GType.bks_cons, GType.bks_cons, GType.bks_nil, ty_bulk, ty_bulk, GType.bks_nil]
    have h1 : (⟨#[105, 110, 116]⟩ : ByteArray).size = 3 := rfl
    have h2 : s_bool.size = 4 := rfl
    simp only [List.length_append, List.length_cons, List.length_nil]
    omega
  refine Ok.sw (fun _ => ?_) (fun _ => Ok.some (by rw [ty_bulk]; omega))
  refine Ok.sok (E := fun q : Int × ByteArray × List GType => Tr.bulkL (GType.mk q.1 q.2.1 q.2.2).tr ≤ 1000) ?_ ?_
  · unfold sl4Bent_R1
    refine Ok.loopN0 (fun i (q : Int × ByteArray × List GType) => i ≤ 6 ∧ Tr.bulkL (GType.mk q.1 q.2.1 q.2.2).tr ≤ 320 + 5 * i) ⟨by omega, by dsimp only [GType.gKind_mk, GType.gName_mk, GType.gArgs_mk]; rw [ty_bulk]; omega⟩ ?_ ?_
    · rintro i q hi ⟨h1, h2⟩
      omega
    · rintro i ⟨a, b, c⟩ hi ⟨h1, h2⟩
      dsimp only at h2
      unfold sl4Bent_F1
      refine Ok.bd (con_ok fu _ _ (by simp)) ?_; rintro t rfl
      refine Ok.some ⟨by omega, ?_⟩
      dsimp only [GType.gKind_mk, GType.gName_mk, GType.gArgs_mk]
      rw [ty_bulk, GType.bks_cons, GType.bks_nil]
      have h3 : s_list.size = 4 := rfl
      simp only [List.length_cons, List.length_nil]
      omega
  · rintro ⟨a, b, c⟩ h
    exact Ok.some h
theorem names4 {a b c d : ByteArray} {k : Nat} (ha : a.size ≤ k) (hb : b.size ≤ k) (hc : c.size ≤ k) (hd : d.size ≤ k) : ∀ v ∈ [a, b, c, d], v.size ≤ k := by
  intro v hv
  simp only [List.mem_cons, List.not_mem_nil, or_false] at hv
  rcases hv with rfl | rfl | rfl | rfl <;> assumption
theorem tGoal : Evt fun fu => ∀ code : List UInt8, code.length ≤ 1048576 → Ok (sDrawFormatGoal_M fu code) (fun b => GType.size (GBound.gType b) ≤ 1001) := tBent.imp fun fu h code hc => by
  unfold sDrawFormatGoal_M
  refine Ok.gd hc ?_
  dsimp only [ltE2]
  refine Ok.bd (h _) ?_; rintro ⟨t, d⟩ ht
  have ht : Tr.bulkL t.tr ≤ 1000 := ht
  refine Ok.some ?_
  have := GType.size_bulk t
  show GType.size t ≤ 1001
  omega
/-! ### the text of a goal is short -/
theorem txt_len : ∀ x : GSExpr, GSExpr.okF x → (GSExpr.txt x).length + 1 ≤ 16 * GSExpr.cnt x := by
  refine GSExpr.ind fun a xs ih h => ?_
  rw [GSExpr.okF] at h
  rcases h with ⟨ha, rfl⟩ | ⟨rfl, hl⟩
  · rw [GSExpr.txt, if_neg ha.ne, dataLen, GSExpr.cnt, GSExpr.cnts]
    have := ha.up
    omega
  · have : ∀ (l : List GSExpr) (z : Bool), (∀ x ∈ l, (GSExpr.txt x).length + 1 ≤ 16 * GSExpr.cnt x) → (GSExpr.txts z l).length ≤ 16 * GSExpr.cnts l := by
      intro l
      induction l with
      | nil => intro z _; simp [GSExpr.txts]
      | cons a l ihl =>
        intro z h
        have h1 := h a (by simp)
        have h2 := ihl false fun x hx => h x (by simp [hx])
        rw [GSExpr.txts, GSExpr.cnts]
        have h3 : (if z then [] else [32] : List UInt8).length ≤ 1 := by cases z <;> simp
        rw [List.length_append, List.length_append]
        omega
    have h1 := this xs true fun x hx => ih x hx (GSExpr.okFs_all hl x hx)
    rw [GSExpr.txt, if_pos rfl, GSExpr.cnt, List.length_cons, List.length_append]
    simp only [List.length_cons, List.length_nil]
    omega
theorem goalTxt_size (b : GBound) : (goalTxt b).size ≤ 3000 := by
  cases hv : vldBd b with
  | false =>
    have e : goalTxt b = s_ := by unfold goalTxt; rw [hv]; rfl
    rw [e]
    decide
  | true =>
    obtain ⟨g1, g2, g3⟩ := goalX_ok hv
    have := txt_len _ g1
    rw [goalTxt_ne hv, bytesStr_size]
    omega
theorem ext_size (s : ByteArray) (i j : Nat) : (s.extract i j).size ≤ s.size := by rw [ByteArray.size_extract]; omega
theorem tText : Evt fun fu => ∀ code : List UInt8, code.length ≤ 1048576 → Ok (sDrawParseGoal_M fu code) (fun s => s.size ≤ 10000) := tFree.imp fun fu hF code hc => by
  unfold sDrawParseGoal_M
  refine Ok.gd hc ?_; refine Ok.bd (Q := fun q => GType.size (GBound.gType q.1) ≤ 1001) ?_ ?_
  · unfold sl20Goal_M
    dsimp only [ltE2]
    refine Ok.bd (hF 2 (by omega) (by decide) _) ?_; rintro ⟨t, d⟩ ht
    have ht : Tr.bulkL t.tr ≤ 180 := Nat.le_trans ht.1 (by decide)
    refine Ok.some ?_
    have := GType.size_bulk t
    show GType.size t ≤ 1001
    omega
  rintro ⟨b, d⟩ hb
  dsimp only at hb ⊢
  refine Ok.gd (by omega) ?_
  have hz := goalTxt_size b
  refine Ok.bd (Q := fun q => q.1.size ≤ 10000) ?_ (fun q hq => by obtain ⟨a, b⟩ := q; exact Ok.some hq)
  generalize goalTxt b = s at hz
  unfold sl1Turned_M
  dsimp only [ltE2]
  have hlt := d.below_lt (n := s.size + 1) (by omega)
  have hp := DS.pick_size ((d.after (s.size + 1)).after 6) (l := [x_20, x_28, x_29, s_int]) (k := 3) (by simp) (names4 (by decide) (by decide) (by decide) (by decide))
  generalize ((d.after (s.size + 1)).after 6).pick [x_20, x_28, x_29, s_int] = y at *
  have e1 := ext_size s (0 : Int).toNat ((((d.below (s.size + 1)) : Nat) : Int)).toNat
  have e2 := ext_size s ((((d.below (s.size + 1)) : Nat) : Int)).toNat (((s.size : Nat) : Int)).toNat
  refine Ok.gd (by omega) ?_; refine Ok.sw (fun _ => ?_) (fun _ => Ok.sw (fun _ => ?_) (fun _ => Ok.some (by show s.size ≤ _; omega)))
  · refine Ok.gd ⟨by omega, by omega, by omega⟩ (Ok.gd (by simp) (Ok.gd (by omega) (Ok.gd ⟨by omega, by omega, by omega⟩ (Ok.gd ?_ (Ok.some ?_)))))
    · rw [sizeApp]; omega
    · show ((_ ++ _) ++ _ : ByteArray).size ≤ _
      rw [sizeApp, sizeApp]; omega
  · refine Ok.gd ⟨by omega, by omega, by omega⟩ (Ok.some ?_)
    show (s.extract _ _).size ≤ _
    omega
/-! ### a goal equals itself -/
theorem sizes_le : ∀ {xs : List GType} {x : GType}, x ∈ xs → GType.size x ≤ GType.sizes xs
  | [], x, h => by simp at h
  | a :: r, x, h => by
    rw [GType.sizes]
    rcases List.mem_cons.1 h with rfl | h
    · omega
    · have := sizes_le h; omega
theorem eqT_all : ∀ n : Nat, Evt fun fu => ∀ t : GType, GType.size t ≤ n → iEqualType_M fu t t = some true
  | 0 => .all fun fu t h => by cases t; rw [GType.size] at h; omega
  | n + 1 => Evt.succ (Evt.succ ((eqT_all n).imp fun fu h t ht => by
    obtain ⟨k, m, xs⟩ := t
    rw [GType.size] at ht
    show iEqualType_G (fu + 1) (iEqualType_M (fu + 1)) (gEqualFunc_Type__iEqualType_M (fu + 1)) _ _ = _
    unfold iEqualType_G
    refine swT (decide_eq_true rfl) (swT (decide_eq_true rfl) (bdS ?_ rfl))
    show gEqualFunc_Type__iEqualType_G fu (iEqualType_M fu) (gEqualFunc_Type__iEqualType_M fu) xs xs = _
    unfold gEqualFunc_Type__iEqualType_G
    refine swF (by rw [decide_eq_true rfl]; rfl) (soR (s := ()) ?_ rfl)
    unfold gEqualFunc_Type__iEqualType_R1
    refine loopN_inv (fun _ => ()) (n := xs.length) fun i hi => ?_
    unfold gEqualFunc_Type__iEqualType_F1
    have hm : atD xs i ∈ xs := atD_mem hi
    have := sizes_le hm
    exact gdT hi (bdS (h _ (by omega)) (swF rfl rfl))))
theorem eqG_all : Evt fun fu => ∀ b : GBound, GType.size b.gType ≤ 1001 → iEqualGoal_M fu b b = some true := (eqT_all 1001).imp fun fu h b hb => by
  unfold iEqualGoal_M
  exact swT (decide_eq_true rfl) (bdS (h _ hb) rfl)
theorem goalText_law (code : List UInt8) : ∃ fu, lFnGoalText_M fu code = some true := by
  obtain ⟨fu, h1, h2, h3⟩ := (tGoal.and (tText.and eqG_all)).get
  refine ⟨fu, ?_⟩
  unfold lFnGoalText_M
  refine bdS (show lbig_M fu code = some _ from rfl) ?_
  by_cases hc : ((code.length : Nat) : Int) > 1048576
  · exact swT (decide_eq_true hc) rfl
  refine swF (decide_eq_false hc) ?_
  obtain ⟨b, e1, hb⟩ := h1 code (by omega)
  obtain ⟨s, e2, hs⟩ := h2 code (by omega)
  have hz := goalTxt_size b
  refine bdS e1 (gdT (by omega) (gdT (by omega) (bdS e2 (gdT (by omega) ?_))))
  have tail : ∀ z : Bool, sw (decide (((goalOf s).2 : Bool) = ((goalOf s).2))) (sw (!((goalOf s).2)) (some true) (gd (GType.size (GBound.gType ((goalOf s).1)) ≤ 4294967296) (some (decide ((goalTxt ((goalOf s).1)) = s))))) (some z) = some true := fun z => by
    refine swT (decide_eq_true rfl) ?_
    by_cases hex : ∃ c, vldBd c = true ∧ goalTxt c = s
    · obtain ⟨c, hv, ht, hg⟩ := goalOf_some hex
      rw [hg]
      refine swF rfl (gdT ?_ ?_)
      · show GType.size c.gType ≤ _
        unfold vldBd vldT at hv
        simp only [Bool.and_eq_true, decide_eq_true_eq] at hv
        omega
      · rw [decide_eq_true ht]
    · rw [goalOf_none hex]
      exact swT rfl rfl
  refine swT (decide_eq_true rfl) ?_
  cases hv : vldBd b with
  | true =>
    have hg := goalOf_txt hv (by omega)
    rw [hg]
    refine swT (decide_eq_true rfl) (swT (decide_eq_true rfl) (swF rfl (bdS (h3 b hb) (swT rfl ?_))))
    exact tail _
  | false =>
    have hg := goalOf_bad hv
    rw [hg]
    refine swT (decide_eq_true rfl) (swT (decide_eq_true rfl) (swT rfl ?_))
    exact tail _
theorem goalText_ok (code : List UInt8) : AFun Tryz.prog 3 [rU code] (pB true) := by
  obtain ⟨fu, e⟩ := goalText_law code
  exact lFnGoalText_ok fu code _ e
end Go.Proofs.YtmpepccpnnldoaaGreat.W
