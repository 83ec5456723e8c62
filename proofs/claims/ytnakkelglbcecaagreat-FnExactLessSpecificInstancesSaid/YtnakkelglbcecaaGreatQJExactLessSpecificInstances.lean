/- What the form asks of FnExactLessSpecificInstances beside the walk: closed facts on the translated text. No conditions. -/
import Derived.Test.YtnakkelglbcecaaGreatRows
import Derived.ProofKit
import Derived.Test.YtnakkelglbcecaaGreatQJMay
import Derived.OpenShut
import Derived.ShutString
import Derived.ChangeOld
set_option linter.unusedSimpArgs false
set_option linter.unusedVariables false
namespace Go.Proofs.YtnakkelglbcecaaGreat.fnExactLessSpecificInstancesDone
open Go.Proofs Go.Proofs.YtnakkelglbcecaaGreat Go.ChangeShapes Go.WideShapes Go.ChangeAt Go.RowKit
theorem fnNamed : Tryz.pinned.checked.prog.funcNamed Rows.fnExactLessSpecificInstancesRow.func = some 11 := by kernel_rfl
theorem inPlaceFact : (Rows.fnExactLessSpecificInstancesRow.inPlace == Tryz.pinned.checked.prog.inPlace 11) = true := by kernel_rfl
theorem unfollowedFact : (Rows.fnExactLessSpecificInstancesRow.unfollowed == Tryz.pinned.checked.prog.unfollowed 11) = true := by kernel_rfl
theorem recursesFact : (Rows.fnExactLessSpecificInstancesRow.recurses == Tryz.pinned.checked.prog.recurses 11) = true := by kernel_rfl
theorem namedFact : (Rows.fnExactLessSpecificInstancesRow.named == Tryz.pinned.checked.prog.varsNamed 11) = true := by kernel_rfl
theorem liftsFact : (Rows.fnExactLessSpecificInstancesRow.lifted == Tryz.pinned.checked.prog.liftsFinal) = true := by kernel_rfl
theorem makeFact : (Tryz.pinned.checked.prog.make == some Rows.fnExactLessSpecificInstancesRow.make) = true := by kernel_rfl
theorem factsJoin : joinedFacts Tryz.pinned.checked.prog 11 Tryz.f11 Rows.fnExactLessSpecificInstancesSpec Rows.fnExactLessSpecificInstancesRow = true := by rw [joinedFacts, mayEnterFact, inPlaceFact, unfollowedFact, recursesFact, namedFact, liftsFact, makeFact]; kernel_rfl
theorem wrapper : Tryz.f11.isWrapper Tryz.pinned.checked.prog Rows.fnExactLessSpecificInstancesRow.wrapper Rows.fnExactLessSpecificInstancesRow.mainSum := (by unfold Func.isWrapper; first | (rw [if_pos (by decide +kernel)]; kernel_rfl) | (rw [if_neg (by decide +kernel)]; exact ⟨rfl, rfl⟩))

end Go.Proofs.YtnakkelglbcecaaGreat.fnExactLessSpecificInstancesDone
