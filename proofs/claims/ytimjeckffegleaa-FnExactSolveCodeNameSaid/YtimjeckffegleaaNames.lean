/- Both name functions agree at every code: the walks of the two laws. No conditions. -/
import Derived.Test.YtimjeckffegleaaProg
import Derived.Test.YtimjeckffegleaaCore
namespace Go.Proofs.Ytimjeckffegleaa
open Go.RowKit Go.Proofs

set_option maxHeartbeats 2000000 in
theorem FnExactCoherenceErrorName_at (c : Int) (w : World) (h0 : 0 ≤ c) (h1 : c ≤ 6) :
    Calls Try.prog 3 #[.int .i64 c] w fun e w' => e = .returned (.bool true) ∧ Ext w w' := by
  obtain rfl | rfl | rfl | rfl | rfl | rfl | rfl : c = 0 ∨ c = 1 ∨ c = 2 ∨ c = 3 ∨ c = 4 ∨ c = 5 ∨ c = 6 := by omega
  all_goals
    go_enter Try.func3, Try.ntmps3
    go_wp2
    go_ret
    exact ⟨rfl, .alloc (.alloc (.refl _) _) _⟩
set_option maxHeartbeats 1000000 in
theorem FnExactCoherenceErrorName_low (c : Int) (w : World) (h0 : c < 0) :
    Calls Try.prog 3 #[.int .i64 c] w fun e w' => e = .returned (.bool true) ∧ Ext w w' := by
  have g : decide (c < 0) = true := by simpa using h0
  have g1 : decide (0 ≤ c) = false := by simpa using h0
  go_enter Try.func3, Try.ntmps3
  go_wp2
  go_ret
  exact ⟨rfl, .alloc (.refl _) _⟩
set_option maxHeartbeats 1000000 in
theorem FnExactCoherenceErrorName_high (c : Int) (w : World) (h0 : 6 < c) :
    Calls Try.prog 3 #[.int .i64 c] w fun e w' => e = .returned (.bool true) ∧ Ext w w' := by
  have g : decide (c < 0) = false := by simp; omega
  have g1 : decide (0 ≤ c) = true := by simp; omega
  have g2 : decide (c ≤ 6) = false := by simp; omega
  have g3 : decide (7 ≤ c) = true := by simp; omega
  go_enter Try.func3, Try.ntmps3
  go_wp2
  go_ret
  exact ⟨rfl, .alloc (.refl _) _⟩
theorem law_FnExactCoherenceErrorName (w : World) (a0 : Int) : Calls Try.prog 3 #[.int .i64 a0] w fun e w' => e = .returned (.bool true) ∧ Below w.heap.size w w' := by
  rcases Int.lt_or_le a0 0 with h | h
  · exact FnExactCoherenceErrorName_low a0 w h
  · rcases Int.lt_or_le 6 a0 with h1 | h1
    · exact FnExactCoherenceErrorName_high a0 w h1
    · exact FnExactCoherenceErrorName_at a0 w h h1

set_option maxHeartbeats 2000000 in
theorem FnExactSolveCodeName_at (c : Int) (w : World) (h0 : 0 ≤ c) (h1 : c ≤ 3) :
    Calls Try.prog 4 #[.int .i64 c] w fun e w' => e = .returned (.bool true) ∧ Ext w w' := by
  obtain rfl | rfl | rfl | rfl : c = 0 ∨ c = 1 ∨ c = 2 ∨ c = 3 := by omega
  all_goals
    go_enter Try.func4, Try.ntmps4
    go_wp2
    go_ret
    exact ⟨rfl, .alloc (.alloc (.refl _) _) _⟩
set_option maxHeartbeats 1000000 in
theorem FnExactSolveCodeName_low (c : Int) (w : World) (h0 : c < 0) :
    Calls Try.prog 4 #[.int .i64 c] w fun e w' => e = .returned (.bool true) ∧ Ext w w' := by
  have g : decide (c < 0) = true := by simpa using h0
  have g1 : decide (0 ≤ c) = false := by simpa using h0
  go_enter Try.func4, Try.ntmps4
  go_wp2
  go_ret
  exact ⟨rfl, .alloc (.refl _) _⟩
set_option maxHeartbeats 1000000 in
theorem FnExactSolveCodeName_high (c : Int) (w : World) (h0 : 3 < c) :
    Calls Try.prog 4 #[.int .i64 c] w fun e w' => e = .returned (.bool true) ∧ Ext w w' := by
  have g : decide (c < 0) = false := by simp; omega
  have g1 : decide (0 ≤ c) = true := by simp; omega
  have g2 : decide (c ≤ 3) = false := by simp; omega
  have g3 : decide (4 ≤ c) = true := by simp; omega
  go_enter Try.func4, Try.ntmps4
  go_wp2
  go_ret
  exact ⟨rfl, .alloc (.refl _) _⟩
theorem law_FnExactSolveCodeName (w : World) (a0 : Int) : Calls Try.prog 4 #[.int .i64 a0] w fun e w' => e = .returned (.bool true) ∧ Below w.heap.size w w' := by
  rcases Int.lt_or_le a0 0 with h | h
  · exact FnExactSolveCodeName_low a0 w h
  · rcases Int.lt_or_le 3 a0 with h1 | h1
    · exact FnExactSolveCodeName_high a0 w h1
    · exact FnExactSolveCodeName_at a0 w h h1

end Go.Proofs.Ytimjeckffegleaa
