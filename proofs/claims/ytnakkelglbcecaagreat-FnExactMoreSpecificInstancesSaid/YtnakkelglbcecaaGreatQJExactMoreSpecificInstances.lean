/- What the form asks of FnExactMoreSpecificInstances beside the walk: closed facts on the translated text. No conditions. -/
import Derived.Test.YtnakkelglbcecaaGreatRows
import Derived.ProofKit
import Derived.Test.YtnakkelglbcecaaGreatQJMay
import Derived.OpenShut
import Derived.ShutString
import Derived.ChangeOld
set_option linter.unusedSimpArgs false
set_option linter.unusedVariables false
namespace Go.Proofs.YtnakkelglbcecaaGreat.fnExactMoreSpecificInstancesDone
open Go.Proofs Go.Proofs.YtnakkelglbcecaaGreat Go.ChangeShapes Go.WideShapes Go.ChangeAt Go.RowKit
theorem fnNamed : Tryz.pinned.checked.prog.funcNamed Rows.fnExactMoreSpecificInstancesRow.func = some 12 := by kernel_rfl
theorem inPlaceFact : (Rows.fnExactMoreSpecificInstancesRow.inPlace == Tryz.pinned.checked.prog.inPlace 12) = true := by kernel_rfl
theorem unfollowedFact : (Rows.fnExactMoreSpecificInstancesRow.unfollowed == Tryz.pinned.checked.prog.unfollowed 12) = true := by kernel_rfl
theorem recursesFact : (Rows.fnExactMoreSpecificInstancesRow.recurses == Tryz.pinned.checked.prog.recurses 12) = true := by kernel_rfl
theorem namedFact : (Rows.fnExactMoreSpecificInstancesRow.named == Tryz.pinned.checked.prog.varsNamed 12) = true := by kernel_rfl
theorem liftsFact : (Rows.fnExactMoreSpecificInstancesRow.lifted == Tryz.pinned.checked.prog.liftsFinal) = true := by kernel_rfl
theorem makeFact : (Tryz.pinned.checked.prog.make == some Rows.fnExactMoreSpecificInstancesRow.make) = true := by kernel_rfl
theorem factsJoin : joinedFacts Tryz.pinned.checked.prog 12 Tryz.f12 Rows.fnExactMoreSpecificInstancesSpec Rows.fnExactMoreSpecificInstancesRow = true := by rw [joinedFacts, mayEnterFact, inPlaceFact, unfollowedFact, recursesFact, namedFact, liftsFact, makeFact]; kernel_rfl
theorem wrapper : Tryz.f12.isWrapper Tryz.pinned.checked.prog Rows.fnExactMoreSpecificInstancesRow.wrapper Rows.fnExactMoreSpecificInstancesRow.mainSum := (by unfold Func.isWrapper; first | (rw [if_pos (by decide +kernel)]; kernel_rfl) | (rw [if_neg (by decide +kernel)]; exact ⟨rfl, rfl⟩))

end Go.Proofs.YtnakkelglbcecaaGreat.fnExactMoreSpecificInstancesDone
