/- What the form asks of FnExactOrphanInstances beside the walk: closed facts on the translated text. No conditions. -/
import Derived.Test.YtnakkelglbcecaaGreatRows
import Derived.ProofKit
import Derived.Test.YtnakkelglbcecaaGreatQJMay
import Derived.OpenShut
import Derived.ShutString
import Derived.ChangeOld
set_option linter.unusedSimpArgs false
set_option linter.unusedVariables false
namespace Go.Proofs.YtnakkelglbcecaaGreat.fnExactOrphanInstancesDone
open Go.Proofs Go.Proofs.YtnakkelglbcecaaGreat Go.ChangeShapes Go.WideShapes Go.ChangeAt Go.RowKit
theorem fnNamed : Tryz.pinned.checked.prog.funcNamed Rows.fnExactOrphanInstancesRow.func = some 7 := by kernel_rfl
theorem inPlaceFact : (Rows.fnExactOrphanInstancesRow.inPlace == Tryz.pinned.checked.prog.inPlace 7) = true := by kernel_rfl
theorem unfollowedFact : (Rows.fnExactOrphanInstancesRow.unfollowed == Tryz.pinned.checked.prog.unfollowed 7) = true := by kernel_rfl
theorem recursesFact : (Rows.fnExactOrphanInstancesRow.recurses == Tryz.pinned.checked.prog.recurses 7) = true := by kernel_rfl
theorem namedFact : (Rows.fnExactOrphanInstancesRow.named == Tryz.pinned.checked.prog.varsNamed 7) = true := by kernel_rfl
theorem liftsFact : (Rows.fnExactOrphanInstancesRow.lifted == Tryz.pinned.checked.prog.liftsFinal) = true := by kernel_rfl
theorem makeFact : (Tryz.pinned.checked.prog.make == some Rows.fnExactOrphanInstancesRow.make) = true := by kernel_rfl
theorem factsJoin : joinedFacts Tryz.pinned.checked.prog 7 Tryz.f7 Rows.fnExactOrphanInstancesSpec Rows.fnExactOrphanInstancesRow = true := by rw [joinedFacts, mayEnterFact, inPlaceFact, unfollowedFact, recursesFact, namedFact, liftsFact, makeFact]; kernel_rfl
theorem wrapper : Tryz.f7.isWrapper Tryz.pinned.checked.prog Rows.fnExactOrphanInstancesRow.wrapper Rows.fnExactOrphanInstancesRow.mainSum := (by unfold Func.isWrapper; first | (rw [if_pos (by decide +kernel)]; kernel_rfl) | (rw [if_neg (by decide +kernel)]; exact ⟨rfl, rfl⟩))

end Go.Proofs.YtnakkelglbcecaaGreat.fnExactOrphanInstancesDone
