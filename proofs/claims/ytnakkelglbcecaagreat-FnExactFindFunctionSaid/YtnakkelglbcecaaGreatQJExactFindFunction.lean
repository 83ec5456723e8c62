/- What the form asks of FnExactFindFunction beside the walk: closed facts on the translated text. No conditions. -/
import Derived.Test.YtnakkelglbcecaaGreatRows
import Derived.ProofKit
import Derived.Test.YtnakkelglbcecaaGreatQJMay
import Derived.OpenShut
import Derived.ShutString
import Derived.ChangeOld
set_option linter.unusedSimpArgs false
set_option linter.unusedVariables false
namespace Go.Proofs.YtnakkelglbcecaaGreat.fnExactFindFunctionDone
open Go.Proofs Go.Proofs.YtnakkelglbcecaaGreat Go.ChangeShapes Go.WideShapes Go.ChangeAt Go.RowKit
theorem fnNamed : Tryz.pinned.checked.prog.funcNamed Rows.fnExactFindFunctionRow.func = some 14 := by kernel_rfl
theorem inPlaceFact : (Rows.fnExactFindFunctionRow.inPlace == Tryz.pinned.checked.prog.inPlace 14) = true := by kernel_rfl
theorem unfollowedFact : (Rows.fnExactFindFunctionRow.unfollowed == Tryz.pinned.checked.prog.unfollowed 14) = true := by kernel_rfl
theorem recursesFact : (Rows.fnExactFindFunctionRow.recurses == Tryz.pinned.checked.prog.recurses 14) = true := by kernel_rfl
theorem namedFact : (Rows.fnExactFindFunctionRow.named == Tryz.pinned.checked.prog.varsNamed 14) = true := by kernel_rfl
theorem liftsFact : (Rows.fnExactFindFunctionRow.lifted == Tryz.pinned.checked.prog.liftsFinal) = true := by kernel_rfl
theorem makeFact : (Tryz.pinned.checked.prog.make == some Rows.fnExactFindFunctionRow.make) = true := by kernel_rfl
theorem factsJoin : joinedFacts Tryz.pinned.checked.prog 14 Tryz.f14 Rows.fnExactFindFunctionSpec Rows.fnExactFindFunctionRow = true := by rw [joinedFacts, mayEnterFact, inPlaceFact, unfollowedFact, recursesFact, namedFact, liftsFact, makeFact]; kernel_rfl
theorem wrapper : Tryz.f14.isWrapper Tryz.pinned.checked.prog Rows.fnExactFindFunctionRow.wrapper Rows.fnExactFindFunctionRow.mainSum := (by unfold Func.isWrapper; first | (rw [if_pos (by decide +kernel)]; kernel_rfl) | (rw [if_neg (by decide +kernel)]; exact ⟨rfl, rfl⟩))

end Go.Proofs.YtnakkelglbcecaaGreat.fnExactFindFunctionDone
