/- What the form asks of FnExactCandidateInstances beside the walk: closed facts on the translated text. No conditions. -/
import Derived.Test.YtnakkelglbcecaaGreatRows
import Derived.ProofKit
import Derived.Test.YtnakkelglbcecaaGreatQJMay
import Derived.OpenShut
import Derived.ShutString
import Derived.ChangeOld
set_option linter.unusedSimpArgs false
set_option linter.unusedVariables false
namespace Go.Proofs.YtnakkelglbcecaaGreat.fnExactCandidateInstancesDone
open Go.Proofs Go.Proofs.YtnakkelglbcecaaGreat Go.ChangeShapes Go.WideShapes Go.ChangeAt Go.RowKit
theorem fnNamed : Tryz.pinned.checked.prog.funcNamed Rows.fnExactCandidateInstancesRow.func = some 10 := by kernel_rfl
theorem inPlaceFact : (Rows.fnExactCandidateInstancesRow.inPlace == Tryz.pinned.checked.prog.inPlace 10) = true := by kernel_rfl
theorem unfollowedFact : (Rows.fnExactCandidateInstancesRow.unfollowed == Tryz.pinned.checked.prog.unfollowed 10) = true := by kernel_rfl
theorem recursesFact : (Rows.fnExactCandidateInstancesRow.recurses == Tryz.pinned.checked.prog.recurses 10) = true := by kernel_rfl
theorem namedFact : (Rows.fnExactCandidateInstancesRow.named == Tryz.pinned.checked.prog.varsNamed 10) = true := by kernel_rfl
theorem liftsFact : (Rows.fnExactCandidateInstancesRow.lifted == Tryz.pinned.checked.prog.liftsFinal) = true := by kernel_rfl
theorem makeFact : (Tryz.pinned.checked.prog.make == some Rows.fnExactCandidateInstancesRow.make) = true := by kernel_rfl
theorem factsJoin : joinedFacts Tryz.pinned.checked.prog 10 Tryz.f10 Rows.fnExactCandidateInstancesSpec Rows.fnExactCandidateInstancesRow = true := by rw [joinedFacts, mayEnterFact, inPlaceFact, unfollowedFact, recursesFact, namedFact, liftsFact, makeFact]; kernel_rfl
theorem wrapper : Tryz.f10.isWrapper Tryz.pinned.checked.prog Rows.fnExactCandidateInstancesRow.wrapper Rows.fnExactCandidateInstancesRow.mainSum := (by unfold Func.isWrapper; first | (rw [if_pos (by decide +kernel)]; kernel_rfl) | (rw [if_neg (by decide +kernel)]; exact ⟨rfl, rfl⟩))

end Go.Proofs.YtnakkelglbcecaaGreat.fnExactCandidateInstancesDone
