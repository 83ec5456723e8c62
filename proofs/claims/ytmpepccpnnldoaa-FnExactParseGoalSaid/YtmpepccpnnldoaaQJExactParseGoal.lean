/- What the form asks of FnExactParseGoal beside the walk: closed facts on the translated text. No conditions. -/
import Derived.Test.YtmpepccpnnldoaaRows
import Derived.ProofKit
import Derived.OpenShut
import Derived.ShutString
import Derived.ChangeOld
set_option linter.unusedSimpArgs false
set_option linter.unusedVariables false
namespace Go.Proofs.Ytmpepccpnnldoaa.fnExactParseGoalDone
open Go.Proofs Go.Proofs.Ytmpepccpnnldoaa Go.ChangeShapes Go.WideShapes Go.ChangeAt Go.RowKit
theorem fnNamed : Try.pinned.checked.prog.funcNamed Rows.fnExactParseGoalRow.func = some 5 := by kernel_rfl
theorem factsJoin : joinedFacts Try.pinned.checked.prog 5 Try.f5 Rows.fnExactParseGoalSpec Rows.fnExactParseGoalRow = true := by kernel_rfl
theorem wrapper : Try.f5.isWrapper Try.pinned.checked.prog Rows.fnExactParseGoalRow.wrapper Rows.fnExactParseGoalRow.mainSum := (by unfold Func.isWrapper; first | (rw [if_pos (by decide +kernel)]; kernel_rfl) | (rw [if_neg (by decide +kernel)]; exact ⟨rfl, rfl⟩))

end Go.Proofs.Ytmpepccpnnldoaa.fnExactParseGoalDone
