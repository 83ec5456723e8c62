/- Lengths of slices that lie in boxes; an index that is an integer. No conditions. -/
import Derived.Test.YtnakkelglbcecaaGreatPmW
namespace Go.Proofs.YtnakkelglbcecaaGreat
set_option linter.unusedSimpArgs false
set_option linter.unusedVariables false
open Go.RowKit Go.WalkArith Go.IntWalk Go.WideShapes

theorem bool2 (b : Bool) : b = true ∨ b = false := by cases b <;> simp
section
variable {P : Program} {C : Ctx} {n : Nat} {s : AS} {o : Oper}
theorem box_lenN (k j : Nat) {bx : PBox} {p : PV} {sz N : Nat} {es : List (List Tr)} (hb : s.st.boxes[k]? = some (some bx)) (hx : bx.cells[j]? = some p) (hp : rowOf p = some (sz, es)) (hl : es.length = N) : ∀ m a w, RA C n s m a w → N ≤ 9223372036854775807 := by
  subst hl
  exact box_len k j hb hx hp
theorem box_len2 (k j : Nat) {bx : PBox} {p : PV} {sz sz2 i j2 N : Nat} {es es2 : List (List Tr)} {e : List Tr} (hb : s.st.boxes[k]? = some (some bx)) (hx : bx.cells[j]? = some p) (hp : rowOf p = some (sz, es)) (he : es[i]? = some e) (h2 : e[j2]? = some (.row sz2 es2)) (hl : es2.length = N) : ∀ m a w, RA C n s m a w → N ≤ 9223372036854775807 := fun m a w h => by
  subst hl
  obtain ⟨vs, -, h1⟩ := h.sto.box k bx hb
  obtain ⟨v, -, hr⟩ := h1.get hx
  have hr := rowOf_rv hp hr
  cases hr with
  | row c h3 h4 h5 h6 =>
    obtain ⟨ad, cap, -, k2, k3⟩ := (h6 i e he j2 _ h2).shape
    unfold maxLen at k3
    omega
theorem AOp.indexI {T E sz by_ : Nat} {x i : Operand} {p : PV} {es : List (List Tr)} {e : List Tr} {y : Int} (ho : o.op = .indexAddr T x i) (hd : dstOk o.dst n = true) (hx : s.ev x = some p) (hp : rowOf p = some (sz, es)) (hi : s.ev i = some (.t (.leaf (.int .i64 y)))) (h0 : 0 ≤ y)
    (he : es[y.toNat]? = some e) (hT : elemOf? P T = some (E, sz, by_)) : AOp P C n o s (s.putO o.dst (.eptr e)) :=
  AOp.index (k := y.toNat) ho hd hx hp (by rw [hi, Int.toNat_of_nonneg h0]) he hT
end
end Go.Proofs.YtnakkelglbcecaaGreat
