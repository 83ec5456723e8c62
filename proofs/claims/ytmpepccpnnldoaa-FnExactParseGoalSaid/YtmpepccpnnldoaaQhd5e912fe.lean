/- Words, rules and walks of several kinds, laid together: ParT, ParU, ParG, RepX, Cnt, ParL, FocL, MarksB. No conditions but those that each theorem states. -/
import Derived.Test.YtmpepccpnnldoaaQh70cfe8fe
import Derived.Deep.DeepCutAuto
import Derived.Test.YtmpepccpnnldoaaQh0f9ffd1e
import Derived.Test.YtmpepccpnnldoaaQh88715e30
import Derived.WalkArith
import Derived.Test.YtmpepccpnnldoaaQh04771900
import Derived.Test.YtmpepccpnnldoaaQhe6026572
set_option linter.unusedSimpArgs false
set_option linter.unusedVariables false
namespace Go.Proofs.Ytmpepccpnnldoaa
set_option linter.unusedSimpArgs false
set_option linter.unusedVariables false
open Go.RowKit Go.Proofs

section
variable {σ β : Type} {f : σ → Option (LR σ β)}
theorem loopW_nx {k : Nat} {s s' : σ} (e : f s = some (.next s')) : loopW f (k + 1) s = loopW f k s' := by
  conv => lhs; unfold loopW
  rw [e]
theorem loopW_bk {k : Nat} {s s' : σ} (e : f s = some (.brk s')) : loopW f (k + 1) s = some (.inr s') := by
  unfold loopW
  rw [e]
theorem loopW_rt {k : Nat} {s : σ} {x : β} (e : f s = some (.ret x)) : loopW f (k + 1) s = some (.inl x) := by
  unfold loopW
  rw [e]
end
def Blank (c : UInt8) : Prop := c = 32 ∨ c = 10
theorem toN (i : Nat) : ((i : Nat) : Int).toNat = i := Int.toNat_natCast i
theorem skipF_stay (fu : Nat) (s : ByteArray) (i : Nat) (d z : Int) (b : Bool) (h : i < s.size → ¬ Blank (bAt s i)) : sl2Skip_F1 fu (Gl2In.mk s i d z b) (i : Int) = some (.brk (i : Int)) := by
  unfold sl2Skip_F1
  show sw (decide ((i : Int) < ((s.size : Nat) : Int))) (gd (0 ≤ (i : Int) ∧ ((i : Int)).toNat < s.size) _) _ = _
  by_cases hi : i < s.size
  · have hb := h hi
    refine swT (decide_eq_true (by omega)) (gdT ⟨by omega, by rw [toN]; exact hi⟩ ?_)
    rw [toN]
    refine swF (decide_eq_false fun e => hb (.inl (byte_of (k := 32) e))) (swF (decide_eq_false fun e => hb (.inr (byte_of (k := 10) e))) rfl)
  · exact swF (decide_eq_false (by omega)) rfl
theorem skipF_go (fu : Nat) (s : ByteArray) (i : Nat) (d z : Int) (b : Bool) (pr : Gl2In) (hp : pr.gs = s) (hi : i < s.size) (hs : s.size ≤ 1048576) (h : bAt s i = 32) : sl2Skip_F1 fu pr (i : Int) = some (.next ((i + 1 : Nat) : Int)) := by
  unfold sl2Skip_F1
  rw [hp]
  refine swT (decide_eq_true (by omega)) (gdT ⟨by omega, by rw [toN]; exact hi⟩ ?_)
  rw [toN, h]
  refine swT rfl ?_
  rw [wrap_ok _ ⟨by omega, by omega⟩]
  rfl
theorem skip_stay {fu : Nat} (hf : 1 ≤ fu) (s : ByteArray) (i : Nat) (d z : Int) (b : Bool) (h : i < s.size → ¬ Blank (bAt s i)) : sl2Skip_M fu (Gl2In.mk s i d z b) = some (Gl2In.mk s i d z b) := by
  obtain ⟨k, rfl⟩ : ∃ k, fu = k + 1 := ⟨fu - 1, by omega⟩
  unfold sl2Skip_M sl2Skip_R1
  exact soR (loopW_bk (skipF_stay _ s i d z b h)) rfl
theorem skipF_stay' (fu : Nat) (s : ByteArray) (i : Nat) (pr : Gl2In) (hp : pr.gs = s) (h : i < s.size → ¬ Blank (bAt s i)) : sl2Skip_F1 fu pr (i : Int) = some (.brk (i : Int)) := by
  have := skipF_stay fu s i 0 0 false h
  unfold sl2Skip_F1 at this ⊢
  rw [hp]
  exact this
theorem skip_one {fu : Nat} (hf : 2 ≤ fu) (s : ByteArray) (i : Nat) (d z : Int) (b : Bool) (hi : i < s.size) (hs : s.size ≤ 1048576) (h : bAt s i = 32) (h2 : i + 1 < s.size → ¬ Blank (bAt s (i + 1))) : sl2Skip_M fu (Gl2In.mk s i d z b) = some (Gl2In.mk s ((i + 1 : Nat) : Int) d z b) := by
  obtain ⟨k, rfl⟩ : ∃ k, fu = k + 1 + 1 := ⟨fu - 2, by omega⟩
  unfold sl2Skip_M sl2Skip_R1
  refine soR (s := ((i + 1 : Nat) : Int)) ?_ rfl
  show loopW _ (k + 1 + 1) (i : Int) = _
  rw [loopW_nx (skipF_go _ s i d z b _ rfl hi hs h)]
  exact loopW_bk (skipF_stay' _ s (i + 1) _ rfl h2)
theorem byS_ok {c : UInt8} (h : okC39 c = true) : byS c = true := by
  have h1 := abyte_s 0 h
  rw [byS_s] at h1
  exact Option.some.inj h1
theorem byS_delim {c : UInt8} (h : c = 32 ∨ c = 41 ∨ c = 40) : byS c = false := by rcases h with rfl | rfl | rfl <;> decide
/-- The bytes of an atom are read to their end. -/
theorem readR_atom (fu : Nat) (r : sl2Read_Y) (p : Gl2In) (s : ByteArray) (hs : s.size ≤ 1048576) (x2 : Gl2In) (hx : x2.gs = s) : ∀ (l : List UInt8) (i k : Nat), l.length + 1 ≤ k → Here s i l → (∀ c ∈ l, byS c = true) → i + l.length ≤ s.size → (i + l.length < s.size → byS (bAt s (i + l.length)) = false) →
    loopW (sl2Read_F1 fu r p x2) k (i : Int) = some (.inr ((i + l.length : Nat) : Int))
  | [], i, k, hk, _, _, hz, hn => by
    obtain ⟨m, rfl⟩ : ∃ m, k = m + 1 := ⟨k - 1, by simp at hk; omega⟩
    refine loopW_bk ?_
    unfold sl2Read_F1
    rw [hx]
    by_cases hi : i < s.size
    · refine swT (decide_eq_true (by omega)) (gdT ⟨by omega, by rw [toN]; exact hi⟩ ?_)
      rw [toN, byS_s]
      have := hn (by simpa using hi)
      simp only [List.length_nil, Nat.add_zero] at this
      rw [this]
      rfl
    · exact swF (decide_eq_false (by omega)) rfl
  | c :: l, i, k, hk, h, hc, hz, hn => by
    obtain ⟨m, rfl⟩ : ∃ m, k = m + 1 := ⟨k - 1, by simp at hk; omega⟩
    obtain ⟨h1, h2⟩ := h.byte
    have ht : Here s (i + 1) l := Here.tail (l := [c]) h
    have hstep : sl2Read_F1 fu r p x2 (i : Int) = some (.next ((i + 1 : Nat) : Int)) := by
      unfold sl2Read_F1
      rw [hx]
      refine swT (decide_eq_true (by omega)) (gdT ⟨by omega, by rw [toN]; exact h1⟩ ?_)
      rw [toN, byS_s, h2, hc c (by simp)]
      show some (LR.next (wrap64 _)) = _
      rw [wrap_ok _ ⟨by omega, by omega⟩]
      rfl
    rw [loopW_nx hstep]
    have e : i + 1 + l.length = i + (c :: l).length := by simp; omega
    rw [readR_atom fu r p s hs x2 hx l (i + 1) m (by simp at hk; omega) ht (fun c' hc' => hc c' (by simp [hc'])) (by rw [e]; exact hz) (fun h => by rw [e] at h ⊢; exact hn h), e]
theorem txt_head : ∀ x : GSExpr, GSExpr.okF x → ∃ c r, GSExpr.txt x = c :: r ∧ ¬ Blank c ∧ ¬ c = 41
  | .mk a xs, h => by
    rw [GSExpr.okF] at h
    rcases h with ⟨ha, rfl⟩ | ⟨rfl, hl⟩
    · match hq : a.data.toList with
      | [] => have h9 : a.data.toList.length = 0 := (by rw [hq]; rfl); rw [dataLen] at h9; have := ha.low; omega
      | c :: r =>
        obtain ⟨h1, h2, h3, h4⟩ := okC_facts (ha.all c (by rw [hq]; simp))
        exact ⟨c, r, by rw [GSExpr.txt, if_neg ha.ne, hq], h2, h4⟩
    · exact ⟨40, GSExpr.txts true xs ++ [41], by rw [GSExpr.txt, if_pos rfl], by rintro (h | h) <;> exact absurd h (by decide), by decide⟩
theorem dps_le : ∀ {xs : List GSExpr} {x : GSExpr}, x ∈ xs → GSExpr.dp x ≤ GSExpr.dps xs
  | [], x, h => by simp at h
  | a :: r, x, h => by
    rw [GSExpr.dps]
    rcases List.mem_cons.1 h with rfl | h
    · omega
    · have := dps_le h; omega
theorem read_txt (s : ByteArray) (hs : s.size ≤ 1048576) : ∀ x : GSExpr, GSExpr.okF x → ∀ (n fu i : Nat) (d z : Int), GSExpr.dp x ≤ n → 1048580 + n < fu → Here s i (GSExpr.txt x) → Delim s (i + (GSExpr.txt x).length) → 0 ≤ d → d + (GSExpr.dp x : Int) ≤ 14 → 0 ≤ z → z + (GSExpr.cnt x : Int) ≤ 900 →
    sl2Read_M fu (Gl2In.mk s i d z false) = some (x, Gl2In.mk s ((i + (GSExpr.txt x).length : Nat) : Int) d (z + (GSExpr.cnt x : Int)) false) := by
  refine GSExpr.ind fun a xs ih hf n fu i d z hn hfu hh hd hd0 hdep hz0 hz => ?_
  obtain ⟨c, r, hc, hb, hcl⟩ := txt_head _ hf
  have hsz := hh.size (by rw [hc]; simp)
  have hh' := hh
  rw [hc] at hh'
  obtain ⟨hi, hbyte⟩ := hh'.byte
  rw [GSExpr.okF] at hf
  obtain ⟨k, rfl⟩ : ∃ k, fu = k + 1 := ⟨fu - 1, by omega⟩
  show sl2Read_G k (sl2Read_M k) _ = _
  unfold sl2Read_G
  have hcp := cnt_pos (GSExpr.mk a xs)
  have hw := wrap_ok (z + 1) ⟨by omega, by omega⟩
  refine bdS (skip_stay (by omega) s i d z false (fun _ => by rw [hbyte]; exact hb)) ?_; refine swF (decide_eq_false (show ¬ ((i : Int) ≥ ((s.size : Nat) : Int)) by omega)) ?_; refine swF (decide_eq_false (show ¬ (wrap64 (z + 1) > 900) by rw [hw]; omega)) ?_
  rcases hf with ⟨ha, rfl⟩ | ⟨rfl, hl⟩
  · have htx : GSExpr.txt (.mk a []) = a.data.toList := by rw [GSExpr.txt, if_neg ha.ne]
    rw [htx] at hh hd ⊢
    rw [htx] at hsz
    rw [dataLen] at hd hsz ⊢
    have hlow := ha.low
    have hup := ha.up
    refine soR (s := ((i + a.size : Nat) : Int)) ?_ ?_
    · unfold sl2Read_R1
      have := readR_atom k (sl2Read_M k) (Gl2In.mk s i d z false) s hs (Gl2In.mk s i d z false) rfl a.data.toList i k (by rw [dataLen]; omega) hh (fun c hc => byS_ok (ha.all c hc)) (by rw [dataLen]; omega) (fun h => by rw [dataLen] at h ⊢; exact byS_delim (by rcases hd h with h | h; exact .inl h; exact .inr (.inl h)))
      rw [dataLen] at this
      exact this
    refine swT (decide_eq_true (show ((i + a.size : Nat) : Int) > (i : Int) by omega)) ?_; refine gdT (show (0 : Int) ≤ (i : Int) ∧ (i : Int) ≤ ((i + a.size : Nat) : Int) ∧ ((i + a.size : Nat) : Int) ≤ ((s.size : Nat) : Int) from ⟨by omega, by omega, by omega⟩) ?_
    show some (GSExpr.mk (s.extract ((i : Int)).toNat (((i + a.size : Nat) : Int)).toNat) [], Gl2In.mk s ((i + a.size : Nat) : Int) d (wrap64 (z + 1)) false) = _
    rw [toN, toN, hw, cnt_atom, show s.extract i (i + a.size) = a from sub_here hh]
    rfl
  · have htx : GSExpr.txt (.mk s_ xs) = 40 :: (GSExpr.txts true xs ++ [41]) := by rw [GSExpr.txt, if_pos rfl]
    have hdp : GSExpr.dp (.mk s_ xs) = GSExpr.dps xs + 1 := by rw [GSExpr.dp, if_pos rfl]
    have hcn : GSExpr.cnt (.mk s_ xs) = 1 + GSExpr.cnts xs := by rw [GSExpr.cnt]
    rw [hdp] at hdep hn
    rw [hcn] at hz ⊢
    rw [htx] at hh ⊢
    have hb40 := hh.byte.2
    have hll := GSExpr.cnts_len xs
    refine soR (s := (i : Int)) ?_ ?_
    · unfold sl2Read_R1
      have := readR_atom k (sl2Read_M k) (Gl2In.mk s i d z false) s hs (Gl2In.mk s i d z false) rfl [] i k (by simp; omega) ⟨_, rfl⟩ (fun c hc => by simp at hc) (by simp; omega) (fun h => by simp only [List.length_nil, Nat.add_zero]; rw [hb40]; exact byS_delim (.inr (.inr rfl)))
      simpa using this
    refine swF (decide_eq_false (show ¬ ((i : Int) > (i : Int)) by omega)) ?_; refine gdT (show 0 ≤ (i : Int) ∧ ((i : Int)).toNat < s.size from ⟨by omega, by rw [toN]; exact hi⟩) ?_; refine swF (show (!decide ((((bAt s ((i : Int)).toNat).toNat : Int) : Int) = 40)) = false by rw [toN, hb40]; rfl) ?_; refine swF (decide_eq_false (show ¬ (d = 14) by omega)) ?_
    have hwi := wrap_ok ((i : Int) + 1) ⟨by omega, by omega⟩
    have hwd := wrap_ok (d + 1) ⟨by omega, by omega⟩
    have inner : ∀ (ys : List GSExpr), (∀ y ∈ ys, y ∈ xs) → ∀ (b : Bool) (acc : List GSExpr) (j m : Nat) (zz : Int), ys.length + 1 ≤ m → Here s j (GSExpr.txts b ys ++ [41]) → 0 ≤ zz → zz + (GSExpr.cnts ys : Int) ≤ 900 → acc.length + ys.length ≤ 1000 →
        loopW (sl2Read_F2 k (sl2Read_M k) (Gl2In.mk s i d z false) (Gl2In.mk s i d z false) (i : Int)) m (s, (j : Int), d + 1, zz, false, acc) = some (.inl (GSExpr.mk s_ (acc ++ ys), Gl2In.mk s ((j + (GSExpr.txts b ys).length + 1 : Nat) : Int) d (zz + (GSExpr.cnts ys : Int)) false)) := by
      intro ys
      induction ys with
      | nil =>
        intro _ b acc j m zz hm hj hz1 hz2 hacc
        obtain ⟨m, rfl⟩ : ∃ m', m = m' + 1 := ⟨m - 1, by simp at hm; omega⟩
        rw [GSExpr.txts, List.nil_append] at hj
        obtain ⟨g1, g2⟩ := hj.byte
        refine loopW_rt ?_
        unfold sl2Read_F2
        refine swT rfl (bdS (skip_stay (by omega) s j (d + 1) zz false (fun _ => by rw [g2]; rintro (h | h) <;> exact absurd h (by decide))) ?_)
        refine swT (decide_eq_true (show (j : Int) < ((s.size : Nat) : Int) by omega)) ?_; refine gdT (show 0 ≤ (j : Int) ∧ ((j : Int)).toNat < s.size from ⟨by omega, by rw [toN]; exact g1⟩) ?_; refine swT (decide_eq_true (show (((bAt s ((j : Int)).toNat).toNat : Int) : Int) = 41 by rw [toN, g2]; rfl)) ?_
        show some (LR.ret (GSExpr.mk s_ acc, Gl2In.mk s (wrap64 ((j : Int) + 1)) (wrap64 (d + 1 - 1)) zz false)) = _
        rw [wrap_ok ((j : Int) + 1) ⟨by omega, by omega⟩, wrap_ok (d + 1 - 1) ⟨by omega, by omega⟩, GSExpr.txts, GSExpr.cnts, List.append_nil]
        rw [show (d + 1 - 1 : Int) = d by omega, show (zz + ((0 : Nat) : Int)) = zz by omega, show (((j + ([] : List UInt8).length + 1 : Nat)) : Int) = (j : Int) + 1 by simp]
      | cons y r ihr =>
        intro hmem b acc j m zz hm hj hz1 hz2 hacc
        obtain ⟨m, rfl⟩ : ∃ m', m = m' + 1 := ⟨m - 1, by simp at hm; omega⟩
        have hym := hmem y (by simp)
        have hyf := GSExpr.okFs_all hl y hym
        have hyd := dps_le hym
        rw [GSExpr.cnts] at hz2
        have hyc := cnt_pos y
        obtain ⟨c', r', hc', hb', hcl'⟩ := txt_head y hyf
        simp only [List.length_cons] at hm hacc
        -- from the place where the element's text begins
        have go : ∀ (j0 j : Nat), (sl2Skip_M k (Gl2In.mk s (j0 : Int) (d + 1) zz false) = some (Gl2In.mk s (j : Int) (d + 1) zz false)) → Here s j (GSExpr.txt y ++ (GSExpr.txts false r ++ [41])) →
            loopW (sl2Read_F2 k (sl2Read_M k) (Gl2In.mk s i d z false) (Gl2In.mk s i d z false) (i : Int)) (m + 1) (s, (j0 : Int), d + 1, zz, false, acc) = some (.inl (GSExpr.mk s_ (acc ++ (y :: r)), Gl2In.mk s ((j + (GSExpr.txt y).length + (GSExpr.txts false r).length + 1 : Nat) : Int) d (zz + ((GSExpr.cnt y + GSExpr.cnts r : Nat) : Int)) false)) := by
          intro j0 j hsk hjj
          have hjy := hjj
          rw [hc', List.cons_append] at hjy
          obtain ⟨g1, g2⟩ := hjy.byte
          have hdl : Delim s (j + (GSExpr.txt y).length) := fun _ => by
            have ht := hjj.tail
            cases r with
            | nil => rw [GSExpr.txts, List.nil_append] at ht; exact .inr ht.byte.2
            | cons y' r' =>
              rw [GSExpr.txts] at ht
              exact .inl (Here.byte (l := GSExpr.txt y' ++ GSExpr.txts false r' ++ [41]) (by simpa using ht)).2
          have hrd := ih y hym hyf (n - 1) k j (d + 1) zz (by omega) (by omega) hjj.head hdl (by omega) (by omega) hz1 (by omega)
          have hstep : sl2Read_F2 k (sl2Read_M k) (Gl2In.mk s i d z false) (Gl2In.mk s i d z false) (i : Int) (s, (j0 : Int), d + 1, zz, false, acc) = some (.next (s, ((j + (GSExpr.txt y).length : Nat) : Int), d + 1, zz + (GSExpr.cnt y : Int), false, acc ++ [y])) := by
            unfold sl2Read_F2
            refine swT rfl (bdS hsk ?_)
            refine swT (decide_eq_true (show (j : Int) < ((s.size : Nat) : Int) by omega)) ?_; refine gdT (show 0 ≤ (j : Int) ∧ ((j : Int)).toNat < s.size from ⟨by omega, by rw [toN]; exact g1⟩) ?_; refine swF (decide_eq_false (show ¬ ((((bAt s ((j : Int)).toNat).toNat : Int) : Int) = 41) by rw [toN, g2]; exact fun e => hcl' (byte_of (k := 41) e))) ?_; refine bdS hrd ?_; exact gdT (show acc.length + [y].length ≤ 68719476736 by simp; omega) rfl
          rw [loopW_nx hstep, ihr (fun y' hy' => hmem y' (by simp [hy'])) false (acc ++ [y]) (j + (GSExpr.txt y).length) m (zz + (GSExpr.cnt y : Int)) (by omega) hjj.tail (by omega) (by omega) (by simp; omega)]
          rw [List.append_assoc, List.singleton_append, show zz + (GSExpr.cnt y : Int) + (GSExpr.cnts r : Int) = zz + ((GSExpr.cnt y + GSExpr.cnts r : Nat) : Int) by omega]
        have htxs : GSExpr.txts b (y :: r) = (if b then [] else [32]) ++ (GSExpr.txt y ++ GSExpr.txts false r) := by rw [GSExpr.txts]
        rw [htxs] at hj ⊢
        rw [GSExpr.cnts]
        cases b with
        | true =>
          simp only [if_true, List.nil_append] at hj ⊢
          have hj2 : Here s j (GSExpr.txt y ++ (GSExpr.txts false r ++ [41])) := by simpa using hj
          have hjy := hj2
          rw [hc', List.cons_append] at hjy
          rw [go j j (skip_stay (by omega) s j (d + 1) zz false (fun _ => by rw [hjy.byte.2]; exact hb')) hj2]
          simp [Nat.add_assoc]
        | false =>
          simp only [Bool.false_eq_true, if_false] at hj ⊢
          obtain ⟨g1, g2⟩ := Here.byte (c := 32) (l := GSExpr.txt y ++ (GSExpr.txts false r ++ [41])) (by simpa using hj)
          have hj2 : Here s (j + 1) (GSExpr.txt y ++ (GSExpr.txts false r ++ [41])) := Here.tail (l := [32]) (by simpa using hj)
          have hjy := hj2
          rw [hc', List.cons_append] at hjy
          rw [go j (j + 1) (skip_one (by omega) s j (d + 1) zz false g1 hs g2 (fun _ => by rw [hjy.byte.2]; exact hb')) hj2]
          simp [Nat.add_assoc, Nat.add_comm, Nat.add_left_comm]
    have hin := inner xs (fun y hy => hy) true [] (i + 1) k (z + 1) (by omega) (Here.tail (l := [40]) hh) (by omega) (by omega) (by simp; omega)
    have hR : sl2Read_R2 k (sl2Read_M k) (Gl2In.mk s i d z false) (Gl2In.mk s i d z false) (i : Int) = some (.inl (GSExpr.mk s_ xs, Gl2In.mk s ((i + 1 + (GSExpr.txts true xs).length + 1 : Nat) : Int) d (z + 1 + (GSExpr.cnts xs : Int)) false)) := by
      unfold sl2Read_R2
      show loopW _ k (s, wrap64 ((i : Int) + 1), wrap64 (d + 1), wrap64 (z + 1), false, []) = _
      rw [hwi, hwd, hw]
      rw [List.nil_append] at hin
      exact hin
    refine (soL hR).trans ?_
    rw [show z + 1 + (GSExpr.cnts xs : Int) = z + ((1 + GSExpr.cnts xs : Nat) : Int) by omega]
    simp [Nat.add_assoc, Nat.add_comm, Nat.add_left_comm]
end Go.Proofs.Ytmpepccpnnldoaa

namespace Go.Proofs.Ytmpepccpnnldoaa
set_option linter.unusedSimpArgs false
set_option linter.unusedVariables false
open Go.RowKit Go.Proofs

theorem dec_sizeS : ∀ x : GSExpr, GType.size (decS x) ≤ GSExpr.cnt x := by
  refine GSExpr.ind fun a l ih => ?_
  have hs : ∀ l : List GSExpr, (∀ x ∈ l, GType.size (decS x) ≤ GSExpr.cnt x) → ∀ k, GType.sizes ((decSs l).drop k) ≤ GSExpr.cnts l := by
    intro l
    induction l with
    | nil => intro _ k; simp [decSs, GType.sizes]
    | cons a l ihl =>
      intro h k
      have h1 := h a (by simp)
      have h2 := ihl fun x hx => h x (by simp [hx])
      cases k with
      | zero =>
        have := h2 0
        rw [List.drop_zero] at this ⊢
        rw [decSs, GType.sizes, GSExpr.cnts]
        omega
      | succ k =>
        have := h2 k
        rw [decSs, List.drop_succ_cons, GSExpr.cnts]
        omega
  have h1 := hs l ih 1
  have h2 := hs l ih 2
  rw [decS, GSExpr.cnt]
  repeat' split
  all_goals first | (rw [GType.size]; omega) | (rw [GType.size, GType.sizes]; omega)
theorem goalTxt_some {b : GBound} {s : ByteArray} (h : goalTxt b = s) (hs : ¬ s = s_) : vldBd b = true := by
  unfold goalTxt at h
  cases hv : vldBd b with
  | true => rfl
  | false => rw [hv] at h; exact absurd h.symm hs
theorem parse_s (s : ByteArray) (hs : s.size ≤ 1048576) : Evt fun fu => sParseGoal_M fu s = some (goalOf s) := by
  by_cases hex : ∃ b, vldBd b = true ∧ goalTxt b = s
  · obtain ⟨b, hv, ht, hg⟩ := goalOf_some hex
    rw [hg]
    obtain ⟨h1, h2, h3, h4, h5⟩ := goal_ok hv
    obtain ⟨g1, g2, g3⟩ := goalX_ok hv
    have hsz : GType.size b.gType ≤ 4294967296 := by unfold vldBd vldT at hv; simp only [Bool.and_eq_true, decide_eq_true_eq] at hv; omega
    have hst : s = bytesStr (GSExpr.txt (goalX b)) := by rw [← ht]; exact goalTxt_ne hv
    have hzs : s.size = (GSExpr.txt (goalX b)).length := by rw [hst]; exact bytesStr_size _
    have hsne : ¬ s = s_ := by
      intro e
      have h0 : s.size = 0 := by rw [e]; rfl
      obtain ⟨c, r, hc, -⟩ := txt_head _ g1
      rw [hzs, hc] at h0
      simp at h0
    refine ((vldX_s g1 (by omega) (by omega)).and ((dec_s (GType.enc b.gType) (by omega)).and ((fmt_s b hsz).and (Evt.ge 1048600)))).imp fun fu ⟨e1, e2, e3, e4⟩ => ?_
    have hrd := read_txt s hs (goalX b) g1 8 fu 0 0 0 g3 (by omega) ⟨[], by rw [hst, bytesStr_data]; simp⟩ (fun h => by rw [← hzs] at h; omega) (by omega) (by omega) (by omega) (by omega)
    have hp : sParseSExpr_M fu s = some (goalX b, true) := by
      unfold sParseSExpr_M
      refine bdS hrd ?_; refine bdS (skip_stay (by omega) s _ 0 _ false (fun h => by omega)) ?_; refine swF rfl ?_; refine swF (show (!decide (((0 + (GSExpr.txt (goalX b)).length : Nat) : Int) = ((s.size : Nat) : Int))) = false by rw [decide_eq_true (by omega)]; rfl) ?_; refine bdS e1 ?_; exact swF rfl rfl
    have hb : GBound.mk ((atD (goalX b).gList 0).gAtom) b.gType = b := by cases b; rfl
    have e2' : sl5Ty_M fu (atD (goalX b).gList 1) = some b.gType := e2.trans (by rw [dec_enc_s _ h2])
    have e3' : sFormatGoal_M fu (GBound.mk ((atD (goalX b).gList 0).gAtom) b.gType) = some s := by rw [hb, e3, ht]
    unfold sParseGoal_M
    refine bdS hp ?_; refine swF rfl ?_; refine swF rfl ?_; refine gdT (by simp [goalX]) (gdT (by simp [goalX]) ?_)
    refine bdS e2' ?_; refine bdS e3' ?_; refine swF (decide_eq_false hsne) ?_; refine swF (by simp) ?_
    rw [hb]
  · rw [goalOf_none hex]
    obtain ⟨x, y, hr, hp1, hp2, hp3, hp4⟩ := read_tot s hs
    replace hp1 : y.gs = s := hp1
    replace hp2 : 0 ≤ y.gat := hp2
    replace hp3 : y.gat ≤ ((s.size : Nat) : Int) := hp3
    obtain ⟨y', hk, hk1, hk2, hk3, hk4, hk5⟩ := skip_tot y hp2 (by rw [hp1]; exact hp3) (by rw [hp1]; exact hs)
    have hbad : (∀ fu, sl2Read_M fu (Gl2In.mk s 0 0 0 false) = some (x, y) → sl2Skip_M fu y = some y' → sParseSExpr_M fu s = some (GSExpr.mk s_ [], false)) → Evt fun fu => sParseGoal_M fu s = some (zeroB, false) := fun h => (hr.and hk).imp fun fu ⟨e1, e2⟩ => by
      unfold sParseGoal_M
      rw [h fu e1 e2]
      rfl
    cases hgb : y'.gbad with
    | true => exact hbad fun fu e1 e2 => by unfold sParseSExpr_M; exact bdS e1 (bdS e2 (swT hgb rfl))
    | false =>
      have hyb : y.gbad = false := by rw [← hk5]; exact hgb
      obtain ⟨-, hcx⟩ := hp4 hyb
      replace hcx : (GSExpr.cnt x : Int) ≤ y.gat - 0 := hcx
      by_cases hgat : y'.gat = ((s.size : Nat) : Int)
      · obtain ⟨v, hv⟩ := vldS x (by omega)
        have hpm : ∀ fu, sl2Read_M fu (Gl2In.mk s 0 0 0 false) = some (x, y) → sl2Skip_M fu y = some y' → sIsValidSExpr_M fu x = some v → sParseSExpr_M fu s = some (if v = true then (x, true) else (.mk s_ [], false)) := fun fu e1 e2 e3 => by
          unfold sParseSExpr_M
          refine bdS e1 (bdS e2 (swF hgb (swF (by rw [decide_eq_true hgat]; rfl) (bdS e3 ?_))))
          cases v <;> rfl
        cases v with
        | false =>
          refine (hr.and (hk.and hv)).imp fun fu ⟨e1, e2, e3⟩ => ?_
          unfold sParseGoal_M
          rw [hpm fu e1 e2 e3]
          rfl
        | true =>
          by_cases hl : x.gList.length = 2
          · have hm : atD x.gList 1 ∈ x.gList := atD_mem (by omega)
            have hc1 := GSExpr.cnts_le hm
            have hcl : GSExpr.cnts x.gList ≤ GSExpr.cnt x := by cases x; rw [GSExpr.gList_mk, GSExpr.cnt]; omega
            have hds := dec_sizeS (atD x.gList 1)
            refine ((hr.and (hk.and hv)).and ((dec_s (atD x.gList 1) (by omega)).and (fmt_s (GBound.mk ((atD x.gList 0).gAtom) (decS (atD x.gList 1))) (by rw [GBound.gType_mk]; omega)))).imp fun fu ⟨⟨e1, e2, e3⟩, e4, e5⟩ => ?_
            unfold sParseGoal_M
            refine bdS (hpm fu e1 e2 e3) ?_; refine swF rfl ?_; refine swF (by show (!decide (((x.gList.length : Nat) : Int) = 2)) = false; rw [decide_eq_true (by omega)]; rfl) ?_; refine gdT (by show 0 < x.gList.length; omega) (gdT (by show 1 < x.gList.length; omega) ?_)
            refine bdS e4 ?_; refine bdS e5 ?_
            by_cases hz : goalTxt (GBound.mk ((atD x.gList 0).gAtom) (decS (atD x.gList 1))) = s_
            · exact swT (decide_eq_true hz) rfl
            · refine swF (decide_eq_false hz) ?_; refine swT (by rw [decide_eq_false (fun h => hex ⟨_, goalTxt_some rfl hz, h⟩)]; rfl) rfl
          · refine (hr.and (hk.and hv)).imp fun fu ⟨e1, e2, e3⟩ => ?_
            unfold sParseGoal_M
            refine bdS (hpm fu e1 e2 e3) ?_; refine swF rfl ?_; exact swT (by show (!decide (((x.gList.length : Nat) : Int) = 2)) = true; rw [decide_eq_false (by omega)]; rfl) rfl
      · exact hbad fun fu e1 e2 => by
          unfold sParseSExpr_M
          exact bdS e1 (bdS e2 (swF hgb (swT (by rw [decide_eq_false hgat]; rfl) rfl)))
end Go.Proofs.Ytmpepccpnnldoaa

namespace Go.Proofs.Ytmpepccpnnldoaa
set_option linter.unusedSimpArgs false
set_option linter.unusedVariables false
open Go.RowKit Go.Proofs

/-- The goal that a list of two may be. -/
def gOf (x : GSExpr) : GBound := .mk (atD x.gList 0).gAtom (decI (atD x.gList 1))
theorem parse_out (s : ByteArray) (hs : s.size ≤ 1048576) : ∃ x ok, (∃ fu, parseM fu s = some (x, ok)) ∧ GSExpr.cnt x ≤ 1800 ∧ ((ok = false ∨ ¬ x.gList.length = 2) → goalOf s = (zeroB, false)) ∧
    (ok = true → x.gList.length = 2 → goalOf s = if vldBd (gOf x) = true ∧ goalTxt (gOf x) = s then (gOf x, true) else (zeroB, false)) := by
  by_cases hex : ∃ b, vldBd b = true ∧ goalTxt b = s
  · obtain ⟨b, hv, ht, hg⟩ := goalOf_some hex
    obtain ⟨h1, h2, h3, h4, h5⟩ := goal_ok hv
    obtain ⟨g1, g2, g3⟩ := goalX_ok hv
    obtain ⟨fu, e1⟩ := (vldX_i g1 (by omega) (by omega)).get
    have hb : gOf (goalX b) = b := by
      unfold gOf
      have e : decI (atD (goalX b).gList 1) = b.gType := dec_enc _ h2
      rw [e]
      cases b
      rfl
    refine ⟨goalX b, true, ⟨fu, by rw [← ht, goalTxt_ne hv]; exact parse_txt g1 (by omega) (by omega) e1⟩, by omega, fun h => ?_, fun _ _ => ?_⟩
    · rcases h with h | h
      · cases h
      · exact absurd rfl h
    · rw [hb, if_pos ⟨hv, ht⟩, hg]
  · have hno : ∀ x, (if vldBd (gOf x) = true ∧ goalTxt (gOf x) = s then (gOf x, true) else (zeroB, false)) = (zeroB, false) := fun x => if_neg fun h => hex ⟨_, h⟩
    have hg := goalOf_none hex
    have hbad : (∀ fu, parseM fu s = some (.mk s_ [], false)) → _ := fun h => (⟨.mk s_ [], false, ⟨0, h 0⟩, by rw [GSExpr.cnt, GSExpr.cnts]; decide, fun _ => hg, fun h => by cases h⟩ : ∃ x ok, (∃ fu, parseM fu s = some (x, ok)) ∧ GSExpr.cnt x ≤ 1800 ∧ ((ok = false ∨ ¬ x.gList.length = 2) → goalOf s = (zeroB, false)) ∧
      (ok = true → x.gList.length = 2 → goalOf s = if vldBd (gOf x) = true ∧ goalTxt (gOf x) = s then (gOf x, true) else (zeroB, false)))
    cases hr : prun s s.size pinit with
    | none => exact hbad fun fu => by unfold parseM; rw [hr]
    | some p =>
      have htot := prun_tot _ _ _ hr (by simp [pinit, tot, GSExpr.cnts]) (by simp [pinit])
      by_cases hx : ∃ x, p.st = [[x]]
      · obtain ⟨x, hq⟩ := hx
        rw [hq] at htot
        have hcx : GSExpr.cnt x ≤ 1800 := by simpa [tot, GSExpr.cnts] using htot
        obtain ⟨v, hv⟩ := vldI x (by omega)
        obtain ⟨fu, hv⟩ := hv.get
        have hpm : parseM fu s = some (if v = true then (x, true) else (.mk s_ [], false)) := by
          unfold parseM
          rw [hr]
          dsimp only
          rw [hq]
          dsimp only
          rw [hv]
          rfl
        cases v with
        | true => exact ⟨x, true, ⟨fu, hpm⟩, hcx, fun _ => hg, fun _ _ => by rw [hno]; exact hg⟩
        | false => exact ⟨.mk s_ [], false, ⟨fu, hpm⟩, by rw [GSExpr.cnt, GSExpr.cnts]; decide, fun _ => hg, fun h => by cases h⟩
      · exact hbad fun fu => by
          unfold parseM
          rw [hr]
          dsimp only
          split
          · rename_i x hx'
            exact absurd ⟨x, hx'⟩ hx
          · rfl
theorem GBound.tr_cons (a : ByteArray) (t : GType) : GBound.tr (.mk a t) = .leaf (.string a) :: t.tr := by simp [GBound.tr]
def zeroBc : List Value := [.string ⟨#[]⟩, .int .i64 0, .string ⟨#[]⟩, .slice none 0 0]
theorem zeroBc_one : ∀ v ∈ zeroBc, v.oneCell' = true := by
  intro v hv
  simp only [zeroBc, List.mem_cons, List.not_mem_nil, or_false] at hv
  rcases hv with rfl | rfl | rfl | rfl <;> rfl
theorem zeroB_own (w : World) (S : Nat → Prop) : OwnL w zeroB.tr zeroBc S :=
  OwnL.cons_leaf (v := .string ⟨#[]⟩) (by show (0 : Nat) ≤ maxLen; omega) (flat_own (show _ = true from rfl) (by show (0 : Nat) ≤ maxLen; omega))
theorem isValidBound_impl (x : GBound) (cs : List Value) (w : World) (hr : RepL w x.tr cs) (hz : GType.size x.gType ≤ 4294967296) :
    Calls Try.prog 37 #[.agg ⟨cs⟩] w fun e w' => e = .returned (.bool (vldBd x)) ∧ Ext w w' := by
  obtain ⟨fu, e⟩ := (vldBd_i x hz).get
  exact (iIsValidBound_ok fu x _ e).plain (.cons (GBound.pv_rv hr) .nil)

def PGPost (s : ByteArray) (w : World) (e : Ending) (w' : World) : Prop := ∃ cs, e = .returned (.tuple #[.agg ⟨cs⟩, .bool (goalOf s).2]) ∧ Ext w w' ∧ OwnL w' (goalOf s).1.tr cs (Between w w')

set_option maxRecDepth 100000 in
set_option maxHeartbeats 4000000 in
theorem parseGoal_impl (s : ByteArray) (hs : s.size ≤ 1048576) (w : World) : Calls Try.prog 20 #[.string s] w (PGPost s w) := by
  obtain ⟨x, ok, ⟨fu, HP⟩, hcx, hz, hgo⟩ := parse_out s hs
  have HPW := Lib.hid (parse_walk fu s (by omega) (x, ok) HP)
  have HGO := Lib.hid hgo
  have HCX := Lib.hid hcx
  have h0x := (HPW.out (w.alloc (.cells #[.string ⟨#[]⟩, .int .i64 0, .string ⟨#[]⟩, .slice none 0 0] 41)))
  obtain ⟨n, l⟩ := x
  rw [GSExpr.gList_mk] at *
  clear HP hgo hcx
  by_cases hbad : ok = false ∨ ¬ l.length = 2
  · have HG : Hid (goalOf s = (zeroB, false)) := hz hbad
    have hor : ok = false ∨ (ok = true ∧ ¬ ((l.length : Nat) : Int) = 2) := by
      cases ok with
      | false => exact .inl rfl
      | true => exact .inr ⟨rfl, fun h => (hbad.resolve_left (by decide)) (by omega)⟩
    clear hz hbad h0x
    rcases hor with rfl | ⟨rfl, hln⟩
    · go_enter Try.func20, Try.ntmps20
      go_wp2_with fail
      refine (HPW.out _).mono ?_; rintro e w1 ⟨cs1, rfl, hw1, ho1⟩
      obtain ⟨a, c, rfl, k0, h1⟩ := GSExpr.opened ho1.rep
      simp only [List.cons_append, List.nil_append] at *
      have HB2 := Lib.hid ((OB.new w 41 #[.string ⟨#[]⟩, .int .i64 0, .string ⟨#[]⟩, .slice none 0 0]).ext hw1)
      have HX1 := Lib.hid (Ext.trans (.alloc (.refl w) (.cells #[.string ⟨#[]⟩, .int .i64 0, .string ⟨#[]⟩, .slice none 0 0] 41)) hw1)
      have HS := Lib.hid h1
      have hz1 : w.heap.size < w1.heap.size := HB2.out.lt
      clear hw1 ho1 k0 h1
      go_wp2_with (first
        | (refine wpList_store_rep rfl 73 (.tmp 4) (.tmp 10) rfl w1.heap.size 0 rfl [.string n, .slice a l.length c] rfl 73 _ (OB.new w1 _ _) isz73 (by simp) (two_ones rfl) ?_; intro w2 hob hg hz; have HOB4 := Lib.hid (show OB w2 w1.heap.size 73 ⟨[.string n, .slice a l.length c]⟩ from hob); have HX2 := Lib.hid (HX1.out.trans (grown_ext (.alloc (.refl w1) _) hg (Nat.le_refl _))); have HB2b := Lib.hid (HB2.out.ext (grown_ext (.alloc (.refl w1) _) hg (Nat.le_refl _))); have hl2 : w2.cell? ⟨w1.heap.size, 1, none⟩ = some (.slice a l.length c) := (by rw [HOB4.out.cell]; rfl); have hz2 : w1.heap.size < w2.heap.size := hob.lt; clear hob hg hz)
        | (refine wpList_store_rep rfl 41 (.tmp 2) (.tmp 20) rfl w.heap.size 0 rfl zeroBc rfl 41 _ HB2b.out isz41 (by simp [zeroBc]) zeroBc_one ?_; intro w3 hob hg hz; have HOB3 := Lib.hid (show OB w3 w.heap.size 41 ⟨zeroBc⟩ from hob); have HX3 := Lib.hid (grown_ext HX2.out hg (Nat.le_refl _)); clear hob hg hz))
      refine bodyPost_ret (results_cell_row_tmp (P := Try.prog) Try.results20 _ _ w.heap.size 41 ⟨zeroBc⟩ _ _ _ rfl rfl HOB3.out Try.underlying41 rfl isz41) rfl ⟨zeroBc, ?_, HX3.out, ?_⟩
      · rw [HG.out]; rfl
      · rw [HG.out]; exact zeroB_own _ _
    · go_enter Try.func20, Try.ntmps20
      go_wp2_with fail
      refine (HPW.out _).mono ?_; rintro e w1 ⟨cs1, rfl, hw1, ho1⟩
      obtain ⟨a, c, rfl, k0, h1⟩ := GSExpr.opened ho1.rep
      simp only [List.cons_append, List.nil_append] at *
      have HB2 := Lib.hid ((OB.new w 41 #[.string ⟨#[]⟩, .int .i64 0, .string ⟨#[]⟩, .slice none 0 0]).ext hw1)
      have HX1 := Lib.hid (Ext.trans (.alloc (.refl w) (.cells #[.string ⟨#[]⟩, .int .i64 0, .string ⟨#[]⟩, .slice none 0 0] 41)) hw1)
      have HS := Lib.hid h1
      have hz1 : w.heap.size < w1.heap.size := HB2.out.lt
      clear hw1 ho1 k0 h1
      go_wp2_with (first
        | (refine wpList_store_rep rfl 73 (.tmp 4) (.tmp 10) rfl w1.heap.size 0 rfl [.string n, .slice a l.length c] rfl 73 _ (OB.new w1 _ _) isz73 (by simp) (two_ones rfl) ?_; intro w2 hob hg hz; have HOB4 := Lib.hid (show OB w2 w1.heap.size 73 ⟨[.string n, .slice a l.length c]⟩ from hob); have HX2 := Lib.hid (HX1.out.trans (grown_ext (.alloc (.refl w1) _) hg (Nat.le_refl _))); have HB2b := Lib.hid (HB2.out.ext (grown_ext (.alloc (.refl w1) _) hg (Nat.le_refl _))); have hl2 : w2.cell? ⟨w1.heap.size, 1, none⟩ = some (.slice a l.length c) := (by rw [HOB4.out.cell]; rfl); have hz2 : w1.heap.size < w2.heap.size := hob.lt; clear hob hg hz)
        | (refine wpList_store_rep rfl 41 (.tmp 2) (.tmp 20) rfl w.heap.size 0 rfl zeroBc rfl 41 _ HB2b.out isz41 (by simp [zeroBc]) zeroBc_one ?_; intro w3 hob hg hz; have HOB3 := Lib.hid (show OB w3 w.heap.size 41 ⟨zeroBc⟩ from hob); have HX3 := Lib.hid (grown_ext HX2.out hg (Nat.le_refl _)); clear hob hg hz))
      refine bodyPost_ret (results_cell_row_tmp (P := Try.prog) Try.results20 _ _ w.heap.size 41 ⟨zeroBc⟩ _ _ _ rfl rfl HOB3.out Try.underlying41 rfl isz41) rfl ⟨zeroBc, ?_, HX3.out, ?_⟩
      · rw [HG.out]; rfl
      · rw [HG.out]; exact zeroB_own _ _
  · have hok : ok = true := by cases ok with
      | true => rfl
      | false => exact absurd (.inl rfl) hbad
    subst hok
    have hl2n : l.length = 2 := Classical.byContradiction fun h => hbad (.inr h)
    have hgo2 : goalOf s = if vldBd (gOf (.mk n l)) = true ∧ goalTxt (gOf (.mk n l)) = s then (gOf (.mk n l), true) else (zeroB, false) := HGO.out rfl hl2n
    have hb2 : gOf (.mk n l) = .mk (atD l 0).gAtom (decI (atD l 1)) := rfl
    have hc1 : GSExpr.cnt (atD l 1) ≤ 1800 := by have h1 := GSExpr.cnts_le (atD_mem (l := l) (i := 1) (by omega)); have h2 := HCX.out; rw [GSExpr.cnt] at h2; omega
    have hds := dec_size (atD l 1)
    have e0 : (GSExpr.trs l)[0]? = some (GSExpr.tr (atD l 0)) := by rw [atD_eq (by omega)]; exact GSExpr.trs_get (by omega)
    have e1 : (GSExpr.trs l)[1]? = some (GSExpr.tr (atD l 1)) := by rw [atD_eq (by omega)]; exact GSExpr.trs_get (by omega)
    rw [hb2] at hgo2
    have HG0 := Lib.hid hgo2
    have HE0 := Lib.hid e0
    have HE1 := Lib.hid e1
    have hlt0 : 0 < l.length := by omega
    have hlt1 : 1 < l.length := by omega
    have hdc := decT (atD l 1)
    unfold DecC at hdc
    have HDC := Lib.hid hdc
    clear hdc
    have HC1 := Lib.hid hc1
    have HDS : Hid (GType.size (decI (atD l 1)) ≤ 4294967296) := by show _ ≤ _; omega
    have hli : ((l.length : Nat) : Int) = 2 := by omega
    have HLI := Lib.hid hli
    clear hz hbad h0x HGO hgo2 hb2 hc1 hds e0 e1 hli hl2n
    generalize atD l 0 = x0 at *
    generalize atD l 1 = x1 at *
    obtain ⟨n0, l0⟩ := x0
    rw [GSExpr.gAtom_mk] at HG0
    generalize decI x1 = t1 at *
    go_enter Try.func20, Try.ntmps20
    go_wp2_with fail
    refine (HPW.out _).mono ?_; rintro e w1 ⟨cs1, rfl, hw1, ho1⟩
    obtain ⟨a, c, rfl, k0, h1⟩ := GSExpr.opened ho1.rep
    simp only [List.cons_append, List.nil_append] at *
    have HB2 := Lib.hid ((OB.new w 41 #[.string ⟨#[]⟩, .int .i64 0, .string ⟨#[]⟩, .slice none 0 0]).ext hw1)
    have HX1 := Lib.hid (Ext.trans (.alloc (.refl w) (.cells #[.string ⟨#[]⟩, .int .i64 0, .string ⟨#[]⟩, .slice none 0 0] 41)) hw1)
    have HS := Lib.hid h1
    have hz1 : w.heap.size < w1.heap.size := HB2.out.lt
    clear hw1 ho1 k0 h1
    have hb0 := HS.out.at2 (k := 0) HE0.out
    obtain ⟨b, off, cs0, rfl, hb, hcs0, hc0⟩ := hb0
    obtain ⟨b', off', cs1, he, hb', hcs1, hc1⟩ := HS.out.at2 (k := 1) HE1.out
    cases he
    obtain ⟨sa0, sc0, rfl, kn0, -⟩ := GSExpr.opened hcs0
    have KN0 := Lib.hid kn0
    have HCS1 := Lib.hid hcs1
    have HCL1 : Hid (cs1.length = 2) := by rw [← hcs1.length, GSExpr.tr_len]; rfl
    have HI1 : Hid ((Try.prog.info? 73).map (·.size) = some cs1.length) := by rw [HCL1.out]; exact isz73
    have HBB := Lib.hid hb
    have HC0 : Hid (∀ W, Ext w1 W → W.cell? ⟨b, off, none⟩ = some (.string n0)) := fun W hW => by simpa using cells_ext hW hb hc0 0 (.string n0) rfl
    have HC1c : Hid (∀ W, Ext w1 W → ∀ (j : Nat) (v : Value), cs1[j]? = some v → W.cell? ⟨b, off + 1 * 2 + j, none⟩ = some v) := fun W hW => cells_ext hW hb hc1
    clear kn0 hcs0 hcs1 hc0 hc1 hb hb'
    have hng : ((l.length : Nat) : Int) = 2 := HLI.out
    go_upto_region 4 with ((refine wpList_store_rep rfl 73 (.tmp 4) (.tmp 10) rfl w1.heap.size 0 rfl [.string n, .slice (some ⟨b, off, none⟩) l.length c] rfl 73 _ (OB.new w1 _ _) isz73 (by simp) (two_ones rfl) ?_; intro w2 hob hg hz; have HOB4 := Lib.hid (show OB w2 w1.heap.size 73 ⟨[.string n, .slice (some ⟨b, off, none⟩) l.length c]⟩ from hob); have HX12 := Lib.hid (grown_ext (.alloc (.refl w1) (.cells #[.string ⟨#[]⟩, .slice none 0 0] 73)) hg (Nat.le_refl _)); have HX2 := Lib.hid (HX1.out.trans (grown_ext (.alloc (.refl w1) _) hg (Nat.le_refl _))); have HB2b := Lib.hid (HB2.out.ext (grown_ext (.alloc (.refl w1) _) hg (Nat.le_refl _))); have hl2 : w2.cell? ⟨w1.heap.size, 1, none⟩ = some (.slice (some ⟨b, off, none⟩) l.length c) := (by rw [HOB4.out.cell]; rfl); have hz2 : w1.heap.size < w2.heap.size := hob.lt; clear hob hg hz))
    clear hng
    try simp only [Act.put, List.getElem_toArray, List.getElem_cons_zero, List.getElem_cons_succ, List.setIfInBounds_toArray, List.set_cons_zero, List.set_cons_succ]
    go_cut [6] (fun s6 wx => ∃ (B : Nat) (cs : List Value) (lo hi : Nat), s6 = .pointer (some ⟨B, 0, none⟩) ∧ Hid (Ext w2 wx) ∧ w2.heap.size ≤ B ∧ Hid (OB wx B 41 ⟨.string n0 :: cs⟩) ∧ Hid (OwnL wx (GType.tr t1) cs (fun x => lo ≤ x ∧ x < hi)) ∧ w2.heap.size ≤ lo ∧ hi ≤ wx.heap.size ∧ (B < lo ∨ hi ≤ B))
    case first =>
      have HQ : Hid (∀ W : World, Ext w2 W → ∀ q : Nat, W.cell? ⟨w1.heap.size, q, none⟩ = (#[.string n, .slice (some ⟨b, off, none⟩) l.length c] : Array Value)[q]?) := fun W hW q => (HOB4.out.ext hW).cell q
      refine wp_region_held_drew (S := Ext w2) (by kernel_rfl) (.drew (.refl _)) (fun hHeld => ?_)
      refine wpAnyH_take (i := 0) rfl (by kernel_rfl) (by kernel_rfl) (by kernel_rfl) (fun _ _ _ h => h) (.inl ⟨rfl, fun _ _ => rfl⟩) (by assumption) ?_
      simp only [Act.put, List.getElem_toArray, List.getElem_cons_zero, List.setIfInBounds_toArray, List.set_cons_zero, List.set_cons_succ]
      refine wpAnyH_cell (i := 1) rfl (by kernel_rfl) (by kernel_rfl) (by kernel_rfl) rfl 71 (.tmp 21) rfl w1.heap.size 1 rfl (.slice (some ⟨b, off, none⟩) l.length c) _ Try.underlying71 rfl (fun W hW => HQ.out W hW 1) (by assumption) (fun _ _ _ _ h => h) ?_
      simp only [Act.put, List.getElem_toArray, List.getElem_cons_zero, List.getElem_cons_succ, List.setIfInBounds_toArray, List.set_cons_zero, List.set_cons_succ]
      refine wpAnyH_index (i := 2) rfl (by kernel_rfl) (by kernel_rfl) (by kernel_rfl) rfl 71 (.tmp 22) (.const (.int .i64 0)) rfl b off l.length c 0 2 rfl rfl hlt0 Try.underlying71 (by kernel_rfl) (by assumption) (fun _ _ _ _ h => h) ?_
      simp only [Act.put, List.getElem_toArray, List.getElem_cons_zero, List.getElem_cons_succ, List.setIfInBounds_toArray, List.set_cons_zero, List.set_cons_succ]
      refine wpAnyH_take (i := 3) rfl (by kernel_rfl) (by kernel_rfl) (by kernel_rfl) (fun _ _ _ h => h) (.inl ⟨rfl, fun _ _ => rfl⟩) (by assumption) ?_
      simp only [Act.put, List.getElem_toArray, List.getElem_cons_zero, List.getElem_cons_succ, List.setIfInBounds_toArray, List.set_cons_zero, List.set_cons_succ]
      refine wpAnyH_cell (i := 4) rfl (by kernel_rfl) (by kernel_rfl) (by kernel_rfl) rfl 9 (.tmp 24) rfl b (off + 0 * 2 + 0) rfl (.string n0) _ Try.underlying9 rfl (fun W hW => HC0.out W (HX12.out.trans hW)) (by assumption) (fun _ _ _ _ h => h) ?_
      simp only [Act.put, List.getElem_toArray, List.getElem_cons_zero, List.getElem_cons_succ, List.setIfInBounds_toArray, List.set_cons_zero, List.set_cons_succ]
      refine wpAnyH_take (i := 5) rfl (by kernel_rfl) (by kernel_rfl) (by kernel_rfl) (fun _ _ _ h => h) (.inl ⟨rfl, fun _ _ => rfl⟩) (by assumption) ?_
      simp only [Act.put, List.getElem_toArray, List.getElem_cons_zero, List.getElem_cons_succ, List.setIfInBounds_toArray, List.set_cons_zero, List.set_cons_succ]
      refine wpAnyH_cell (i := 6) rfl (by kernel_rfl) (by kernel_rfl) (by kernel_rfl) rfl 71 (.tmp 26) rfl w1.heap.size 1 rfl (.slice (some ⟨b, off, none⟩) l.length c) _ Try.underlying71 rfl (fun W hW => HQ.out W hW 1) (by assumption) (fun _ _ _ _ h => h) ?_
      simp only [Act.put, List.getElem_toArray, List.getElem_cons_zero, List.getElem_cons_succ, List.setIfInBounds_toArray, List.set_cons_zero, List.set_cons_succ]
      refine wpAnyH_index (i := 7) rfl (by kernel_rfl) (by kernel_rfl) (by kernel_rfl) rfl 71 (.tmp 27) (.const (.int .i64 1)) rfl b off l.length c 1 2 rfl rfl hlt1 Try.underlying71 (by kernel_rfl) (by assumption) (fun _ _ _ _ h => h) ?_
      simp only [Act.put, List.getElem_toArray, List.getElem_cons_zero, List.getElem_cons_succ, List.setIfInBounds_toArray, List.set_cons_zero, List.set_cons_succ]
      refine wpAnyH_load_rep (i := 8) rfl (by kernel_rfl) (by kernel_rfl) (by kernel_rfl) (fun _ _ _ h => h) rfl 73 (.tmp 28) rfl b (off + 1 * 2) rfl cs1 _ Try.underlying73 HI1.out (fun W hW => HC1c.out W (HX12.out.trans hW)) (by assumption) (fun _ _ _ _ h => h) ?_
      simp only [Act.put, List.getElem_toArray, List.getElem_cons_zero, List.getElem_cons_succ, List.setIfInBounds_toArray, List.set_cons_zero, List.set_cons_succ]
      have hzd : w2.drew.heap.size = w2.heap.size := rfl
      refine wpAnyH_all (rs := [9, 11]) (by kernel_rfl) (by simp) (fun i hi => ?_)
      rcases (by simpa using hi : i = 9 ∨ i = 11) with rfl | rfl
      · refine wpOp_call rfl rfl (run_call_func rfl rfl #[.agg ⟨cs1⟩] (by simp only [List.map_toArray, List.map_cons, List.map_nil, Act.eval]; rfl) Try.func46 (by kernel_rfl) (by kernel_rfl) _) (HDC.out _ _ (HCS1.out.ext (HX12.out.trans hHeld)) (by have := HC1.out; omega)) ?_; rintro e w4 ⟨ct, rfl, hw4, ho4⟩
        obtain ⟨d0, d1, d2, rfl⟩ := list3 (ho4.1.trans (GType.tr_len t1))
        have HO4 := Lib.hid ho4
        clear ho4
        have hs4 := Ext.trans hHeld hw4
        refine ⟨_, rfl, hs4, ?_⟩
        simp only [Act.put, List.getElem_toArray, List.getElem_cons_zero, List.getElem_cons_succ, List.setIfInBounds_toArray, List.set_cons_zero, List.set_cons_succ]
        have hz4 : w2.heap.size ≤ w4.heap.size := hw4.size
        refine wpAnyH_take (i := 10) (v := .agg ⟨[.string n0, d0, d1, d2]⟩) rfl (by kernel_rfl) (by kernel_rfl) (by kernel_rfl) (fun _ _ _ h => h) (.inl ⟨rfl, fun _ _ => by simp [execOp, go_sem]⟩) (by assumption) ?_
        simp only [Act.put, List.getElem_toArray, List.getElem_cons_zero, List.getElem_cons_succ, List.setIfInBounds_toArray, List.set_cons_zero, List.set_cons_succ]
        have hs5 := Ext.trans hs4 (Ext.alloc (.refl w4) (.cells #[.string ⟨#[]⟩, .int .i64 0, .string ⟨#[]⟩, .slice none 0 0] 41))
        refine wpAnyH_run (i := 11) (v := .pointer (some ⟨w4.heap.size, 0, none⟩)) (w' := w4.alloc (.cells #[.string ⟨#[]⟩, .int .i64 0, .string ⟨#[]⟩, .slice none 0 0] 41)) (by kernel_rfl) rfl rfl (by simp [execOp, go_sem]) hs5 ?_
        simp only [Act.put, List.getElem_toArray, List.getElem_cons_zero, List.getElem_cons_succ, List.setIfInBounds_toArray, List.set_cons_zero, List.set_cons_succ]
        have hoba := OB.new w4 41 #[.string ⟨#[]⟩, .int .i64 0, .string ⟨#[]⟩, .slice none 0 0]
        have hw5 := Ext.alloc (.refl w4) (.cells #[.string ⟨#[]⟩, .int .i64 0, .string ⟨#[]⟩, .slice none 0 0] 41)
        have hga := (hs4).size
        obtain ⟨w5, hN⟩ : ∃ x, w4.alloc (.cells #[.string ⟨#[]⟩, .int .i64 0, .string ⟨#[]⟩, .slice none 0 0] 41) = x := ⟨_, rfl⟩
        rw [hN] at hoba hw5 hs5 ⊢
        clear hN
        obtain ⟨gA, hgA⟩ : ∃ x, w4.heap.size = x := ⟨_, rfl⟩
        rw [hgA] at hoba hga ⊢
        have hla := hoba.lt
        have hone : Hid (∀ v ∈ ([.string n0, d0, d1, d2] : List Value), v.oneCell' = true) := by
          intro v hv
          rcases List.mem_cons.1 hv with rfl | hv
          · rfl
          · exact HO4.out.rep.one v hv
        refine wpAnyH_store_rep (i := 12) (by kernel_rfl) rfl rfl 41 (.tmp 6) (.tmp 31) rfl gA 0 rfl [.string n0, d0, d1, d2] rfl 41 #[.string ⟨#[]⟩, .int .i64 0, .string ⟨#[]⟩, .slice none 0 0] (hoba) isz41 (by simp) hone.out ?_; intro w7 hob hgb hzb
        have hs7 := grown_ext hs5 hgb (by omega)
        refine ⟨hs7, ?_⟩
        simp only [Act.put, List.getElem_toArray, List.getElem_cons_zero, List.getElem_cons_succ, List.setIfInBounds_toArray, List.set_cons_zero, List.set_cons_succ]
        have hor := OwnL.keep (HO4.out.ext hw5) (w' := w7) fun x hx hxl => hgb.block x hxl (by intro h; injection h with h; have h1 := hx.1; have h2 := hx.2; omega)
        refine wpAnyH_done (by kernel_rfl) ?_ _
        have HSF := Lib.hid hs7
        have HOBF := Lib.hid (show OB w7 gA 41 ⟨.string n0 :: [d0, d1, d2]⟩ from hob)
        have HORF := Lib.hid hor
        have hzf := hgb.size
        clear hob hor hgb hzb hHeld hs4 hw4 hs5
        go_wp2_with fail
        go_meet
        exact ⟨gA, [d0, d1, d2], w2.drew.heap.size, w4.heap.size, rfl, HSF.out, by omega, HOBF.out, HORF.out, by omega, by omega, by omega⟩
      · have hs5 := Ext.trans hHeld (Ext.alloc (.refl w2.drew) (.cells #[.string ⟨#[]⟩, .int .i64 0, .string ⟨#[]⟩, .slice none 0 0] 41))
        refine wpOp_run (v := .pointer (some ⟨w2.drew.heap.size, 0, none⟩)) (w' := w2.drew.alloc (.cells #[.string ⟨#[]⟩, .int .i64 0, .string ⟨#[]⟩, .slice none 0 0] 41)) rfl rfl (by simp [execOp, go_sem]) ⟨hs5, ?_⟩
        simp only [Act.put, List.getElem_toArray, List.getElem_cons_zero, List.getElem_cons_succ, List.setIfInBounds_toArray, List.set_cons_zero, List.set_cons_succ]
        have hoba := OB.new w2.drew 41 #[.string ⟨#[]⟩, .int .i64 0, .string ⟨#[]⟩, .slice none 0 0]
        have hw5 := Ext.alloc (.refl w2.drew) (.cells #[.string ⟨#[]⟩, .int .i64 0, .string ⟨#[]⟩, .slice none 0 0] 41)
        have hga := (hHeld).size
        obtain ⟨w5, hN⟩ : ∃ x, w2.drew.alloc (.cells #[.string ⟨#[]⟩, .int .i64 0, .string ⟨#[]⟩, .slice none 0 0] 41) = x := ⟨_, rfl⟩
        rw [hN] at hoba hw5 hs5 ⊢
        clear hN
        obtain ⟨gA, hgA⟩ : ∃ x, w2.drew.heap.size = x := ⟨_, rfl⟩
        rw [hgA] at hoba hga ⊢
        have hla := hoba.lt
        refine wpAnyH_call (i := 9) (by kernel_rfl) rfl rfl (run_call_func rfl rfl #[.agg ⟨cs1⟩] (by simp only [List.map_toArray, List.map_cons, List.map_nil, Act.eval]; rfl) Try.func46 (by kernel_rfl) (by kernel_rfl) _) (HDC.out _ _ (HCS1.out.ext (HX12.out.trans hs5)) (by have := HC1.out; omega)) ?_; rintro e w4 ⟨ct, rfl, hw4, ho4⟩
        obtain ⟨d0, d1, d2, rfl⟩ := list3 (ho4.1.trans (GType.tr_len t1))
        have HO4 := Lib.hid ho4
        clear ho4
        have hs4 := Ext.trans hs5 hw4
        refine ⟨_, rfl, hs4, ?_⟩
        simp only [Act.put, List.getElem_toArray, List.getElem_cons_zero, List.getElem_cons_succ, List.setIfInBounds_toArray, List.set_cons_zero, List.set_cons_succ]
        have hz4 : w5.heap.size ≤ w4.heap.size := hw4.size
        refine wpAnyH_take (i := 10) (v := .agg ⟨[.string n0, d0, d1, d2]⟩) rfl (by kernel_rfl) (by kernel_rfl) (by kernel_rfl) (fun _ _ _ h => h) (.inl ⟨rfl, fun _ _ => by simp [execOp, go_sem]⟩) (by assumption) ?_
        simp only [Act.put, List.getElem_toArray, List.getElem_cons_zero, List.getElem_cons_succ, List.setIfInBounds_toArray, List.set_cons_zero, List.set_cons_succ]
        have hone : Hid (∀ v ∈ ([.string n0, d0, d1, d2] : List Value), v.oneCell' = true) := by
          intro v hv
          rcases List.mem_cons.1 hv with rfl | hv
          · rfl
          · exact HO4.out.rep.one v hv
        refine wpAnyH_store_rep (i := 12) (by kernel_rfl) rfl rfl 41 (.tmp 6) (.tmp 31) rfl gA 0 rfl [.string n0, d0, d1, d2] rfl 41 #[.string ⟨#[]⟩, .int .i64 0, .string ⟨#[]⟩, .slice none 0 0] (hoba.ext hw4) isz41 (by simp) hone.out ?_; intro w7 hob hgb hzb
        have hs7 := grown_ext hs4 hgb (by omega)
        refine ⟨hs7, ?_⟩
        simp only [Act.put, List.getElem_toArray, List.getElem_cons_zero, List.getElem_cons_succ, List.setIfInBounds_toArray, List.set_cons_zero, List.set_cons_succ]
        have hor := OwnL.keep (HO4.out) (w' := w7) fun x hx hxl => hgb.block x hxl (by intro h; injection h with h; have h1 := hx.1; have h2 := hx.2; omega)
        refine wpAnyH_done (by kernel_rfl) ?_ _
        have HSF := Lib.hid hs7
        have HOBF := Lib.hid (show OB w7 gA 41 ⟨.string n0 :: [d0, d1, d2]⟩ from hob)
        have HORF := Lib.hid hor
        have hzf := hgb.size
        clear hob hor hgb hzb hHeld hs4 hs5 hw4
        go_wp2_with fail
        go_meet
        exact ⟨gA, [d0, d1, d2], w5.heap.size, w4.heap.size, rfl, HSF.out, by omega, HOBF.out, HORF.out, by omega, by omega, by omega⟩
    obtain ⟨B, cs, lo, hi, rfl, HXC, hgB, HOBB, HOWN, hlo, hhi, hdj⟩ := hcut
    obtain ⟨w3, hwe⟩ : ∃ x, x = wc := ⟨_, rfl⟩
    rw [← hwe] at HXC HOBB HOWN hhi ⊢
    clear hwe
    obtain ⟨d0, d1, d2, rfl⟩ := list3 (HOWN.out.1.trans (GType.tr_len t1))
    have HB3 := Lib.hid (HB2b.out.ext HXC.out)
    have HX3 := Lib.hid (HX2.out.trans HXC.out)
    have hz3 : w2.heap.size ≤ w3.heap.size := HXC.out.size
    have hlB : B < w3.heap.size := HOBB.out.lt
    have HRB : Hid (RepL w3 (GBound.tr (.mk n0 t1)) [.string n0, d0, d1, d2]) := by show RepL _ _ _; rw [GBound.tr_cons]; exact ⟨.leaf KN0.out, HOWN.out.rep⟩
    have hone : Hid (∀ v ∈ ([.string n0, d0, d1, d2] : List Value), v.oneCell' = true) := HRB.out.one
    have hld : ∀ (w' : World), OB w' B 41 ⟨.string n0 :: [d0, d1, d2]⟩ → True := fun _ _ => trivial
    clear hld
    go_wp2_with (refine wpList_load_rep rfl 41 (.tmp 6) rfl B 0 rfl [.string n0, d0, d1, d2] _ Try.underlying41 isz41 (OB.cells0 HOBB.out) ?_)
    refine (isValidBound_impl (.mk n0 t1) _ _ HRB.out (by rw [GBound.gType_mk]; exact HDS.out)).mono ?_; rintro e w4 ⟨rfl, hw4⟩
    have HOBB4 := Lib.hid (HOBB.out.ext hw4)
    have HB4 := Lib.hid (HB3.out.ext hw4)
    have HX4 := Lib.hid (HX3.out.trans hw4)
    have HRB4 := Lib.hid (HRB.out.ext hw4)
    have HOWN4 := Lib.hid (HOWN.out.ext hw4)
    have hz4 : w3.heap.size ≤ w4.heap.size := hw4.size
    clear hw4
    cases hv : vldBd (.mk n0 t1) with
    | false =>
      have HG : Hid (goalOf s = (zeroB, false)) := by show _ = _; rw [HG0.out, if_neg (fun h => by rw [hv] at h; exact absurd h.1 (by decide))]
      go_wp2_with (refine wpList_store_rep rfl 41 (.tmp 2) (.tmp 41) rfl w.heap.size 0 rfl zeroBc rfl 41 _ HB4.out isz41 (by simp [zeroBc]) zeroBc_one ?_; intro w3 hob hg hz; have HOB3 := Lib.hid (show OB w3 w.heap.size 41 ⟨zeroBc⟩ from hob); have HXR := Lib.hid (grown_ext HX4.out hg (Nat.le_refl _)); clear hob hg hz)
      refine bodyPost_ret (results_cell_row_tmp (P := Try.prog) Try.results20 _ _ w.heap.size 41 ⟨zeroBc⟩ _ _ _ rfl rfl HOB3.out Try.underlying41 rfl isz41) rfl ⟨zeroBc, ?_, HXR.out, ?_⟩
      · rw [HG.out]; rfl
      · rw [HG.out]; exact zeroB_own _ _
    | true =>
      go_wp2_with (refine wpList_load_rep_g (by rfl) 41 (.tmp 6) rfl B 0 rfl [.string n0, d0, d1, d2] _ Try.underlying41 isz41 (OB.cells0 HOBB4.out) ?_)
      refine (fmtGoal_impl (.mk n0 t1) _ _ HRB4.out (by rw [GBound.gType_mk]; exact HDS.out)).mono ?_; rintro e w5 ⟨rfl, hw5⟩
      have HOBB5 := Lib.hid (HOBB4.out.ext hw5)
      have HB5 := Lib.hid (HB4.out.ext hw5)
      have HX5 := Lib.hid (HX4.out.trans hw5)
      have HOWN5 := Lib.hid (HOWN4.out.ext hw5)
      have hz5 : w4.heap.size ≤ w5.heap.size := hw5.size
      clear hw5
      by_cases hts : goalTxt (.mk n0 t1) = s
      · have HG : Hid (goalOf s = (.mk n0 t1, true)) := by show _ = _; rw [HG0.out, if_pos ⟨hv, hts⟩]
        have hteq : ((goalTxt (.mk n0 t1)).toList == s.toList) = true := by rw [hts]; simp
        go_wp2_with (first
          | (refine wpList_load_rep rfl 41 (.tmp 6) rfl B 0 rfl [.string n0, d0, d1, d2] _ Try.underlying41 isz41 (OB.cells0 HOBB5.out) ?_)
          | (refine wpList_store_rep rfl 41 (.tmp 2) (.tmp 42) rfl w.heap.size 0 rfl [.string n0, d0, d1, d2] rfl 41 _ HB5.out isz41 (by simp) hone.out ?_; intro w6 hob hg hz; have HOB6 := Lib.hid (show OB w6 w.heap.size 41 ⟨[.string n0, d0, d1, d2]⟩ from hob); have HG6 := Lib.hid hg; clear hob hg hz))
        refine bodyPost_ret (results_cell_row_tmp (P := Try.prog) Try.results20 _ _ w.heap.size 41 ⟨[.string n0, d0, d1, d2]⟩ _ _ _ rfl rfl HOB6.out Try.underlying41 rfl isz41) rfl ⟨[.string n0, d0, d1, d2], ?_, grown_ext HX5.out HG6.out (Nat.le_refl _), ?_⟩
        · rw [HG.out]; rfl
        · rw [HG.out]
          have hor := OwnL.keep HOWN5.out (w' := w6) fun x hx hxl => HG6.out.block x hxl (by intro h; injection h with h; have h1 := hx.1; omega)
          have hs6 := HG6.out.size
          show OwnL _ (GBound.tr (.mk n0 t1)) _ _
          rw [GBound.tr_cons]
          exact OwnL.cons_leaf KN0.out (hor.mono fun x hx => ⟨by have h1 := hx.1; omega, by have h2 := hx.2; omega⟩)
      · have HG : Hid (goalOf s = (zeroB, false)) := by show _ = _; rw [HG0.out, if_neg (fun h => hts h.2)]
        have htne : ((goalTxt (.mk n0 t1)).toList == s.toList) = false := beq_eq_false_iff_ne.2 fun h => hts (bytes_inj h)
        go_wp2_with (refine wpList_store_rep rfl 41 (.tmp 2) (.tmp 41) rfl w.heap.size 0 rfl zeroBc rfl 41 _ HB5.out isz41 (by simp [zeroBc]) zeroBc_one ?_; intro w3 hob hg hz; have HOB3 := Lib.hid (show OB w3 w.heap.size 41 ⟨zeroBc⟩ from hob); have HXR := Lib.hid (grown_ext HX5.out hg (Nat.le_refl _)); clear hob hg hz)
        refine bodyPost_ret (results_cell_row_tmp (P := Try.prog) Try.results20 _ _ w.heap.size 41 ⟨zeroBc⟩ _ _ _ rfl rfl HOB3.out Try.underlying41 rfl isz41) rfl ⟨zeroBc, ?_, HXR.out, ?_⟩
        · rw [HG.out]; rfl
        · rw [HG.out]; exact zeroB_own _ _
end Go.Proofs.Ytmpepccpnnldoaa

namespace Go.Proofs.Ytmpepccpnnldoaa
set_option linter.unusedSimpArgs false
set_option linter.unusedVariables false
open Go.RowKit

def okX (g : Nat) : Nat → Nat → Prop := fun b _ => b ≠ g
/-- The trees lie there, and nothing of them lies in block g. -/
abbrev RepLX (g : Nat) (w : World) (ts : List Tr) (cs : List Value) : Prop := RVL (okX g) ⟨[], []⟩ lay0 w (ts.map PV.t) cs
theorem RVL.monoT {ok ok' : Nat → Nat → Prop} {st st' : Sto} {m m' : Lay} {w w' : World} (hz : w.heap.size ≤ w'.heap.size) (hk : ∀ b o, b < w.heap.size → ok b o → ok' b o) (hc : ∀ b o, b < w.heap.size → ok b o → w'.cell? ⟨b, o, none⟩ = w.cell? ⟨b, o, none⟩) :
    ∀ (ts : List Tr) (cs : List Value), RVL ok st m w (ts.map PV.t) cs → RVL ok' st' m' w' (ts.map PV.t) cs
  | [], [], h => h
  | [], _ :: _, h => h.elim
  | _ :: _, [], h => h.elim
  | t :: ts, v :: vs, h => ⟨RepM.mono h.1 hz hk hc, RVL.monoT hz hk hc ts vs h.2⟩
theorem RepLX.rep {g : Nat} {w : World} {ts : List Tr} {cs : List Value} (h : RepLX g w ts cs) : RepL w ts cs := RVL.ofTr h
theorem RepLX.ext {g : Nat} {w w' : World} {ts : List Tr} {cs : List Value} (h : RepLX g w ts cs) (hx : Ext w w') : RepLX g w' ts cs := RVL.monoT hx.size (fun _ _ _ h => h) (fun _ _ hb _ => heap_other_cell (hx.block _ hb)) ts cs h
theorem RepLX.grown {g : Nat} {w w' : World} {ts : List Tr} {cs : List Value} (h : RepLX g w ts cs) (hx : w.grownBy w' (some g)) : RepLX g w' ts cs :=
  RVL.monoT hx.size (fun _ _ _ h => h) (fun b _ hb hne => heap_other_cell (hx.block b hb (fun e => hne (by cases e; rfl)))) ts cs h
end Go.Proofs.Ytmpepccpnnldoaa

namespace Go.Proofs.Ytmpepccpnnldoaa
theorem Tr.topN_cnt : ∀ ts : List Tr, Tr.topN ts ≤ Tr.cntL ts
  | [] => by simp [Tr.topN]
  | .leaf v :: r => by have := Tr.topN_cnt r; simp only [Tr.topN, Tr.cntL, Tr.cnt]; omega
  | .row sz es :: r => by have := Tr.topN_cnt r; simp only [Tr.topN, Tr.cntL, Tr.cnt]; omega
end Go.Proofs.Ytmpepccpnnldoaa

namespace Go.Proofs.Ytmpepccpnnldoaa
set_option linter.unusedSimpArgs false
set_option linter.unusedVariables false
open Go.RowKit Go.Proofs

theorem GType.cnt_size : ∀ t : GType, Tr.cntL t.tr ≤ 3 * GType.size t := by
  refine GType.ind fun v0 v1 xs ih => ?_
  have : ∀ l : List GType, (∀ x ∈ l, Tr.cntL x.tr ≤ 3 * GType.size x) → Tr.cntE (GType.trs l) ≤ 3 * GType.sizes l := by
    intro l
    induction l with
    | nil => intro _; simp [GType.trs, Tr.cntE, GType.sizes]
    | cons a l ihl =>
      intro h
      have h1 := h a (by simp)
      have h2 := ihl fun x hx => h x (by simp [hx])
      simp only [GType.trs, Tr.cntE, GType.sizes]
      omega
  have h := this xs ih
  simp only [GType.tr, Tr.cntL_append, Tr.cntL, Tr.cnt, GType.size]
  omega
theorem goalOf_top (s : ByteArray) : 1 + Tr.topN (goalOf s).1.tr ≤ 1152921504606846976 := by
  by_cases hex : ∃ b, vldBd b = true ∧ goalTxt b = s
  · obtain ⟨b, hv, ht, hg⟩ := goalOf_some hex
    rw [hg]
    obtain ⟨n, t⟩ := b
    have h1 := Tr.topN_cnt (GBound.tr (.mk n t))
    have h2 := GType.cnt_size t
    have hsz : GType.size t ≤ 60 := by unfold vldBd vldT at hv; simp only [Bool.and_eq_true, decide_eq_true_eq] at hv; have h9 := hv.2.2.2; rw [GBound.gType_mk] at h9; omega
    rw [GBound.tr_cons, Tr.cntL, Tr.cnt] at h1
    show 1 + Tr.topN (GBound.tr (.mk n t)) ≤ _
    rw [GBound.tr_cons]
    omega
  · rw [goalOf_none hex]
    decide
theorem AFun.plainAB {P : Program} {f : FuncId} {args : List PV} {ts : List Tr} {d : Value} (h : AFun P f args (.tup [.agg (ts.map PV.t), .t (.leaf d)])) {w : World} {vals : List Value} (hv : RVL0 w args vals) : Calls P f ⟨vals⟩ w fun e w' => ∃ cs, e = .returned (.tuple #[.agg ⟨cs⟩, d]) ∧ Ext w w' ∧ RepL w' ts cs :=
  (h av0 lay0 w vals (sto0 w) hv).mono fun e w' => by
    rintro ⟨res, st', m', v, rfl, ⟨rfl, rfl⟩, -, he, vs, rfl, hr⟩
    match vs, hr with
    | [u, x], hr =>
      obtain ⟨rfl, -⟩ := (RepM.rep (show RepM _ _ (.leaf d) x from hr.2.1)).leaf_eq
      obtain ⟨cs, rfl, hl⟩ := hr.1
      exact ⟨cs, rfl, he.ext, RVL.ofTr hl⟩
theorem parse_fn (s : ByteArray) (hs : s.size ≤ 1048576) : AFun Try.prog 19 [pS s] (.tup [.agg ((goalOf s).1.tr.map PV.t), pB (goalOf s).2]) := by
  obtain ⟨fu, e⟩ := (parse_s s hs).get
  have h := sParseGoal_ok fu s _ e
  rwa [GBound.pv_eq] at h
theorem str_leaf {s : ByteArray} (hs : s.size ≤ 1048576) : LeafOk (.string s) := by show s.size ≤ maxLen; unfold maxLen; omega
theorem parseP_spec (s : ByteArray) (w : World) (hs : s.size ≤ 1048576) :
    Calls Try.prog 19 #[.string s] w fun e w' => ∃ cs, e = .returned (.tuple #[.agg ⟨cs⟩, .bool (goalOf s).2]) ∧ Ext w w' ∧ RepL w' (goalOf s).1.tr cs :=
  (parse_fn s hs).plainAB (.cons (RV0.t (.leaf (str_leaf hs))) .nil)
theorem parseP_impl (s : ByteArray) (w : World) (hs : s.size ≤ 1048576) :
    Calls Try.prog 20 #[.string s] w fun e w' => ∃ cs, e = .returned (.tuple #[.agg ⟨cs⟩, .bool (goalOf s).2]) ∧ Ext w w' ∧ OwnL w' (goalOf s).1.tr cs (Between w w') := parseGoal_impl s hs w
end Go.Proofs.Ytmpepccpnnldoaa

namespace Go.Proofs.Ytmpepccpnnldoaa
set_option linter.unusedSimpArgs false
set_option linter.unusedVariables false
open Go.RowKit Go.Proofs
theorem OwnL.focus {w : World} {a b c : List Tr} {x y z : List Value} {S : Nat → Prop} (h : OwnL w (a ++ (b ++ c)) (x ++ (y ++ z)) S) (hx : x.length = a.length) (hy : y.length = b.length) :
    ∃ U : Nat → Prop, OwnL w b y U ∧ (∀ q, U q → S q) ∧ ∀ w' b', OwnL w' b' y U → b'.length = b.length → (∀ q, q < w.heap.size → S q → ¬ U q → w'.heap[q]? = w.heap[q]?) → OwnL w' (a ++ (b' ++ c)) (x ++ (y ++ z)) S := by
  obtain ⟨hl, T, h1, h2, h3⟩ := h
  have get : ∀ (b : List Tr) (hb : y.length = b.length) j d, b[j]? = some d → (a ++ (b ++ c))[a.length + j]? = some d := by
    intro b hb j d hd
    have hj : j < b.length := (List.getElem?_eq_some_iff.1 hd).1
    rw [List.getElem?_append_right (by omega), Nat.add_sub_cancel_left, List.getElem?_append_left hj]
    exact hd
  refine ⟨fun q => ∃ j, j < b.length ∧ T (a.length + j) q, ⟨hy, fun j => T (a.length + j), ?_, ?_, ?_⟩, ?_, ?_⟩
  · intro j d hd
    have hj : j < b.length := (List.getElem?_eq_some_iff.1 hd).1
    obtain ⟨v, hv, ho⟩ := h1 _ d (get b hy j d hd)
    refine ⟨v, ?_, ho⟩
    rw [List.getElem?_append_right (by omega), hx, Nat.add_sub_cancel_left, List.getElem?_append_left (by omega)] at hv
    exact hv
  · intro j d hd q hq
    exact ⟨j, (List.getElem?_eq_some_iff.1 hd).1, hq⟩
  · intro j d hd j' d' hd' hne
    exact h3 _ d (get b hy j d hd) _ d' (get b hy j' d' hd') (by omega)
  · rintro q ⟨j, hj, hq⟩
    exact h2 _ _ (get b hy j _ (List.getElem?_eq_getElem hj)) q hq
  · intro w' b' hb' hlen hk
    obtain ⟨hl', T', k1, k2, k3⟩ := hb'
    have old : ∀ i d, (a ++ (b' ++ c))[i]? = some d → (∃ j, i = a.length + j ∧ j < b.length ∧ b'[j]? = some d) ∨ ((i < a.length ∨ a.length + b.length ≤ i) ∧ (a ++ (b ++ c))[i]? = some d) := by
      intro i d hd
      by_cases h : i < a.length
      · rw [List.getElem?_append_left h] at hd
        exact .inr ⟨.inl h, by rw [List.getElem?_append_left h]; exact hd⟩
      · by_cases h' : i < a.length + b.length
        · refine .inl ⟨i - a.length, by omega, by omega, ?_⟩
          rw [List.getElem?_append_right (by omega), List.getElem?_append_left (by omega)] at hd
          exact hd
        · refine .inr ⟨.inr (by omega), ?_⟩
          rw [List.getElem?_append_right (by omega), List.getElem?_append_right (by omega), hlen] at hd
          rw [List.getElem?_append_right (by omega), List.getElem?_append_right (by omega)]
          exact hd
    have oldU : ∀ i d, (i < a.length ∨ a.length + b.length ≤ i) → (a ++ (b ++ c))[i]? = some d → ∀ q, T i q → ¬ ∃ j, j < b.length ∧ T (a.length + j) q := by
      rintro i d hi hd q hq ⟨j, hj, hq'⟩
      exact h3 i d hd _ _ (get b hy j _ (List.getElem?_eq_getElem hj)) (by omega) q hq hq'
    refine ⟨by simp only [List.length_append] at hl ⊢; omega, fun i q => if i < a.length ∨ a.length + b.length ≤ i then T i q else T' (i - a.length) q, ?_, ?_, ?_⟩
    · intro i d hd
      rcases old i d hd with ⟨j, rfl, hj, hd⟩ | ⟨hi, hd⟩
      · obtain ⟨v, hv, ho⟩ := k1 j d hd
        refine ⟨v, ?_, ?_⟩
        · rw [List.getElem?_append_right (by omega), hx, Nat.add_sub_cancel_left, List.getElem?_append_left (by omega)]
          exact hv
        · show Own w' d v (fun q => if a.length + j < a.length ∨ a.length + b.length ≤ a.length + j then T (a.length + j) q else T' (a.length + j - a.length) q)
          rw [show (fun q => if a.length + j < a.length ∨ a.length + b.length ≤ a.length + j then T (a.length + j) q else T' (a.length + j - a.length) q) = T' j from funext fun q => by rw [if_neg (by omega), Nat.add_sub_cancel_left]]
          exact ho
      · obtain ⟨v, hv, ho⟩ := h1 i d hd
        refine ⟨v, hv, ?_⟩
        show Own w' d v (fun q => if i < a.length ∨ a.length + b.length ≤ i then T i q else T' (i - a.length) q)
        rw [show (fun q => if i < a.length ∨ a.length + b.length ≤ i then T i q else T' (i - a.length) q) = T i from funext fun q => by rw [if_pos hi]]
        exact ho.keep fun q hq hlt => hk q hlt (h2 i d hd q hq) (oldU i d hi hd q hq)
    · intro i d hd q hq
      rcases old i d hd with ⟨j, rfl, hj, hd⟩ | ⟨hi, hd⟩
      · rw [if_neg (by omega), Nat.add_sub_cancel_left] at hq
        obtain ⟨j', hj', hq'⟩ := k2 j d hd q hq
        exact h2 _ _ (get b hy j' _ (List.getElem?_eq_getElem hj')) q hq'
      · rw [if_pos hi] at hq
        exact h2 i d hd q hq
    · intro i d hd i' d' hd' hne q hq hq'
      rcases old i d hd with ⟨j, rfl, hj, hd⟩ | ⟨hi, hd⟩ <;> rcases old i' d' hd' with ⟨j', rfl, hj', hd'⟩ | ⟨hi', hd'⟩
      · rw [if_neg (by omega), Nat.add_sub_cancel_left] at hq hq'
        exact k3 j d hd j' d' hd' (by omega) q hq hq'
      · rw [if_neg (by omega), Nat.add_sub_cancel_left] at hq
        rw [if_pos hi'] at hq'
        exact oldU i' d' hi' hd' q hq' (k2 j d hd q hq)
      · rw [if_pos hi] at hq
        rw [if_neg (by omega), Nat.add_sub_cancel_left] at hq'
        exact oldU i d hi hd q hq (k2 j' d' hd' q hq')
      · rw [if_pos hi] at hq
        rw [if_pos hi'] at hq'
        exact h3 i d hd i' d' hd' hne q hq hq'
theorem OB.chgF {w w' : World} {S : Nat → Prop} {g : Nat} {t : TypeId} {cs : Array Value} (h : OB w g t cs) (hc : Chg S w w') (hn : ¬ S g) : OB w' g t cs := (hc.block g h.lt hn).trans h
end Go.Proofs.Ytmpepccpnnldoaa

namespace Go.Proofs.Ytmpepccpnnldoaa
open Go.RowKit Go.Proofs

set_option maxRecDepth 100000 in
set_option maxHeartbeats 2000000 in
theorem markBound_all (x : GBound) : MarkC 21 x.tr := by
  obtain ⟨v0, ⟨v1_0, v1_1, v1_2⟩⟩ := x
  have HM1 : Hid (MarkC 47 [.leaf (.int .i64 v1_0), .leaf (.string v1_1), .row 3 (GType.trs v1_2)]) := by have h1 := markType_all (.mk v1_0 v1_1 v1_2); rw [show GType.tr (.mk v1_0 v1_1 v1_2) = [.leaf (.int .i64 v1_0), .leaf (.string v1_1), .row 3 (GType.trs v1_2)] from by simp [GType.tr]] at h1; exact h1
  have htr : GBound.tr (.mk v0 (.mk v1_0 v1_1 v1_2)) = [.leaf (.string v0), .leaf (.int .i64 v1_0), .leaf (.string v1_1), .row 3 (GType.trs v1_2)] := by simp [GBound.tr, GType.tr]
  rw [htr]
  clear htr
  intro cs kz k S w hz ho hS hbd
  subst hz
  simp only [Tr.topN, Tr.topL, Nat.add_zero] at *
  have hr := ho.rep
  obtain ⟨d0, d1, d2, d3, rfl⟩ := list4 hr.length.symm
  have HR0 := Lib.hid (hr.1)
  obtain ⟨rfl, -⟩ := HR0.out.leaf_eq
  have HR1 := Lib.hid (hr.2.1)
  obtain ⟨rfl, -⟩ := HR1.out.leaf_eq
  have HR2 := Lib.hid (hr.2.2.1)
  obtain ⟨rfl, -⟩ := HR2.out.leaf_eq
  have HR3 := Lib.hid (hr.2.2.2.1)
  obtain ⟨sa3, sc3, hd3, -, -⟩ := HR3.out.shape
  rw [GType.trs_len] at hd3
  subst hd3
  have HO0 := Lib.hid (ho.ext (.alloc (.refl w) (.cells #[.string v0, .int .i64 v1_0, .string v1_1, .slice sa3 (v1_2).length sc3] 41)))
  have HSS := Lib.hid hS
  clear ho hS hr
  go_enter Try.func21, Try.ntmps21
  go_wp2_with (refine wpList_load_rep rfl 27 _ rfl w.heap.size 1 rfl [_, _, .slice sa3 _ sc3] _ Try.underlying27 isz27 (fun j v hv => by rw [(OB.new w 41 #[.string v0, .int .i64 v1_0, .string v1_1, .slice sa3 (v1_2).length sc3]).cell]; rcases j with _ | _ | _ | j <;> first | (simp at hv; done) | simpa using hv) ?_)
  obtain ⟨U1, hu1, hu2, hu3⟩ := OwnL.focus (a := [.leaf (.string v0)]) (b := [.leaf (.int .i64 v1_0), .leaf (.string v1_1), .row 3 (GType.trs v1_2)]) (c := []) (x := [_]) (y := [_, _, _]) (z := []) HO0.out rfl rfl
  have HU1_1 := Lib.hid hu1
  have HU2_1 := Lib.hid hu2
  have HU3_1 := Lib.hid hu3
  clear hu1 hu2 hu3
  refine (HM1.out _ _ (k) U1 _ (by rfl) HU1_1.out (fun x hx => by have h1 := HSS.out x (HU2_1.out x hx); simp only [World.size_alloc]; omega) (by simp only [Tr.topN]; omega)).mono ?_; rintro e w1 ⟨rfl, how, hch⟩
  have HO1 := Lib.hid (HU3_1.out w1 [.leaf (.int .i64 v1_0), .leaf (.string v1_1), .row 3 (Tr.markE (GType.trs v1_2) (k))] how rfl (fun x hx _ hn => hch.block x hx hn))
  have HC1 := Lib.hid (Chg.trans (Chg.of_ext (.alloc (.refl w) (.cells #[.string v0, .int .i64 v1_0, .string v1_1, .slice sa3 (v1_2).length sc3] 41))) (hch.mono HU2_1.out))
  have HOB1 := Lib.hid (OB.chgF (OB.new w 41 #[.string v0, .int .i64 v1_0, .string v1_1, .slice sa3 (v1_2).length sc3]) hch (fun h => by have h1 := HSS.out _ (HU2_1.out _ h); omega))
  clear how hch
  try simp only [Tr.topN, Nat.add_zero]
  try simp only [← Nat.add_assoc]
  go_wp2_with fail
  go_ret
  exact ⟨by first | rfl | (show Ending.returned (Value.int .i64 _) = _; congr 2 <;> omega), HO1.out, HC1.out⟩

set_option maxRecDepth 100000 in
set_option maxHeartbeats 2000000 in
theorem heldBound_all (x : GBound) : HeldC 22 x.tr := by
  obtain ⟨v0, ⟨v1_0, v1_1, v1_2⟩⟩ := x
  have HM1 : Hid (HeldC 48 [.leaf (.int .i64 v1_0), .leaf (.string v1_1), .row 3 (GType.trs v1_2)]) := by have h1 := heldType_all (.mk v1_0 v1_1 v1_2); rw [show GType.tr (.mk v1_0 v1_1 v1_2) = [.leaf (.int .i64 v1_0), .leaf (.string v1_1), .row 3 (GType.trs v1_2)] from by simp [GType.tr]] at h1; exact h1
  have htr : GBound.tr (.mk v0 (.mk v1_0 v1_1 v1_2)) = [.leaf (.string v0), .leaf (.int .i64 v1_0), .leaf (.string v1_1), .row 3 (GType.trs v1_2)] := by simp [GBound.tr, GType.tr]
  rw [htr]
  clear htr
  intro cs kz k w hz hr hbd
  subst hz
  simp only [Tr.topN, Tr.topL, Nat.add_zero] at *
  obtain ⟨d0, d1, d2, d3, rfl⟩ := list4 hr.length.symm
  have HR0 := Lib.hid (hr.1)
  obtain ⟨rfl, -⟩ := HR0.out.leaf_eq
  have HR1 := Lib.hid (hr.2.1)
  obtain ⟨rfl, -⟩ := HR1.out.leaf_eq
  have HR2 := Lib.hid (hr.2.2.1)
  obtain ⟨rfl, -⟩ := HR2.out.leaf_eq
  have HR3 := Lib.hid (hr.2.2.2.1)
  obtain ⟨sa3, sc3, hd3, -, -⟩ := HR3.out.shape
  rw [Tr.markE_length] at hd3
  rw [GType.trs_len] at hd3
  subst hd3
  clear hr
  go_enter Try.func22, Try.ntmps22
  go_wp2_with (refine wpList_load_rep rfl 27 _ rfl w.heap.size 1 rfl [_, _, .slice sa3 _ sc3] _ Try.underlying27 isz27 (fun j v hv => by rw [(OB.new w 41 #[.string v0, .int .i64 v1_0, .string v1_1, .slice sa3 (v1_2).length sc3]).cell]; rcases j with _ | _ | _ | j <;> first | (simp at hv; done) | simpa using hv) ?_)
  refine (HM1.out _ _ (k) _ (by rfl) (RepL.ext (show RepL w [.leaf (.int .i64 v1_0), .leaf (.string v1_1), .row 3 (Tr.markE (GType.trs v1_2) (k))] [.int .i64 v1_0, .string v1_1, .slice sa3 (v1_2).length sc3] from ⟨HR1.out, HR2.out, HR3.out, trivial⟩) (.alloc (.refl _) _)) (by simp only [Tr.topN]; omega)).mono ?_; rintro e w1 ⟨rfl, hw1⟩
  have HW1 := Lib.hid (Ext.trans (.alloc (.refl w) (.cells #[.string v0, .int .i64 v1_0, .string v1_1, .slice sa3 (v1_2).length sc3] 41)) hw1)
  have HOB1 := Lib.hid (OB.ext (OB.new w 41 #[.string v0, .int .i64 v1_0, .string v1_1, .slice sa3 (v1_2).length sc3]) hw1)
  clear hw1
  try simp only [Tr.topN, Nat.add_zero]
  try simp only [← Nat.add_assoc]
  have hng1 : ¬ ((k + Tr.cntE (GType.trs v1_2) : Nat) : Int) < 0 := by omega
  go_wp2_with fail
  go_ret
  exact ⟨by first | rfl | (show Ending.returned (Value.int .i64 _) = _; congr 2 <;> omega), HW1.out⟩

end Go.Proofs.Ytmpepccpnnldoaa
