/- Rules in the forms that a printed walk uses. No conditions. -/
import Derived.Test.YtnakkelglbcecaaGreatPmD
namespace Go.Proofs.YtnakkelglbcecaaGreat
set_option linter.unusedSimpArgs false
set_option linter.unusedVariables false
open Go.RowKit Go.WalkArith Go.IntWalk Go.WideShapes

section
variable {P : Program} {C : Ctx} {n : Nat} {s : AS} {Q : Exit → AS → Prop} {o : Oper} {ops : Array Oper} {rest : List Oper}
theorem AL.splitB (d : Nat) {b : Bool} {l : List Oper} (_hb : s.lk d = some (.t (.leaf (.bool b)))) (h1 : b = true → AL P C n ops l Q s) (h2 : b = false → AL P C n ops l Q s) : AL P C n ops l Q s := by
  cases b
  · exact h2 rfl
  · exact h1 rfl
theorem AL.cons_gv {s1 : AS} {j d : Nat} {b c : Bool} (hg : o.guard = some (j, c)) (hj : (ops[j]?).bind (·.dst) = some d) (hb : s.lk d = some (.t (.leaf (.bool b)))) (hv : b = c) (ho : AOp P C n o s s1) (h : AL P C n ops rest Q s1) : AL P C n ops (o :: rest) Q s := by
  subst hv
  exact AL.cons_g hg hj hb ho h
theorem AL.skip_v {j d : Nat} {b c e : Bool} (hg : o.guard = some (j, c)) (hj : (ops[j]?).bind (·.dst) = some d) (hb : s.lk d = some (.t (.leaf (.bool b)))) (hv : b = e) (hne : (e == c) = false) (h : AL P C n ops rest Q (s.delO o.dst)) : AL P C n ops (o :: rest) Q s := by
  subst hv
  exact AL.skip hg hj hb hne h
theorem AOp.pickT {x y z : Operand} {b : Bool} {p : PV} (ho : o.op = .pick x y z) (hd : dstOk o.dst n = true) (hx : s.ev x = some (.t (.leaf (.bool b)))) (hb : b = true) (hy : s.ev y = some p) : AOp P C n o s (s.putO o.dst p) :=
  AOp.pick ho hd hx (fun _ => hy) (q := p) (fun h => by rw [hb] at h; cases h)
theorem AOp.pickF {x y z : Operand} {b : Bool} {p : PV} (ho : o.op = .pick x y z) (hd : dstOk o.dst n = true) (hx : s.ev x = some (.t (.leaf (.bool b)))) (hb : b = false) (hz : s.ev z = some p) : AOp P C n o s (s.putO o.dst p) :=
  AOp.pick ho hd hx (fun h => by rw [hb] at h; cases h) (q := p) (fun _ => hz)
theorem AOp.lenN {T : TypeId} {x : Operand} {p : PV} {sz N : Nat} {es : List (List Tr)} {E : Nat × Nat × Nat} (ho : o.op = .call { callee := .builtin .len, args := #[x], argTypes := #[T] }) (hd : dstOk o.dst n = true) (hx : s.ev x = some p) (hp : rowOf p = some (sz, es)) (hT : elemOf? P T = some E) (hl : es.length = N) :
    AOp P C n o s (s.putO o.dst (.t (.leaf (.int .i64 (N : Int))))) := by
  subst hl
  exact AOp.len (ty := 0) ho hd hx hp hT
theorem lk_lenN (i : Nat) {p : PV} {sz N : Nat} {es : List (List Tr)} (hx : s.lk i = some p) (hp : rowOf p = some (sz, es)) (hl : es.length = N) : ∀ m a w, RA C n s m a w → N ≤ 9223372036854775807 := by
  subst hl
  exact lk_len i hx hp
theorem keeps_nil {st' : Sto} (h : C.st = ⟨[], []⟩) : Keeps0 C.st st' := by rw [h]; exact Keeps0.nil
end
theorem nat_lt_of {a b : Nat} (h : decide ((a : Int) < (b : Int)) = true) : a < b := by
  have := of_decide_eq_true h
  omega
theorem nat_ge_of {a b : Nat} (h : decide ((a : Int) < (b : Int)) = false) : b ≤ a := by
  have := of_decide_eq_false h
  omega
end Go.Proofs.YtnakkelglbcecaaGreat
