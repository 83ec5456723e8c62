/- What the form asks of FnExactAssumptions beside the walk: closed facts on the translated text. No conditions. -/
import Derived.Test.YtnakkelglbcecaaGreatRows
import Derived.ProofKit
import Derived.Test.YtnakkelglbcecaaGreatQJMay
import Derived.OpenShut
import Derived.ShutString
import Derived.ChangeOld
set_option linter.unusedSimpArgs false
set_option linter.unusedVariables false
namespace Go.Proofs.YtnakkelglbcecaaGreat.fnExactAssumptionsDone
open Go.Proofs Go.Proofs.YtnakkelglbcecaaGreat Go.ChangeShapes Go.WideShapes Go.ChangeAt Go.RowKit
theorem fnNamed : Tryz.pinned.checked.prog.funcNamed Rows.fnExactAssumptionsRow.func = some 9 := by kernel_rfl
theorem inPlaceFact : (Rows.fnExactAssumptionsRow.inPlace == Tryz.pinned.checked.prog.inPlace 9) = true := by kernel_rfl
theorem unfollowedFact : (Rows.fnExactAssumptionsRow.unfollowed == Tryz.pinned.checked.prog.unfollowed 9) = true := by kernel_rfl
theorem recursesFact : (Rows.fnExactAssumptionsRow.recurses == Tryz.pinned.checked.prog.recurses 9) = true := by kernel_rfl
theorem namedFact : (Rows.fnExactAssumptionsRow.named == Tryz.pinned.checked.prog.varsNamed 9) = true := by kernel_rfl
theorem liftsFact : (Rows.fnExactAssumptionsRow.lifted == Tryz.pinned.checked.prog.liftsFinal) = true := by kernel_rfl
theorem makeFact : (Tryz.pinned.checked.prog.make == some Rows.fnExactAssumptionsRow.make) = true := by kernel_rfl
theorem factsJoin : joinedFacts Tryz.pinned.checked.prog 9 Tryz.f9 Rows.fnExactAssumptionsSpec Rows.fnExactAssumptionsRow = true := by rw [joinedFacts, mayEnterFact, inPlaceFact, unfollowedFact, recursesFact, namedFact, liftsFact, makeFact]; kernel_rfl
theorem wrapper : Tryz.f9.isWrapper Tryz.pinned.checked.prog Rows.fnExactAssumptionsRow.wrapper Rows.fnExactAssumptionsRow.mainSum := (by unfold Func.isWrapper; first | (rw [if_pos (by decide +kernel)]; kernel_rfl) | (rw [if_neg (by decide +kernel)]; exact ⟨rfl, rfl⟩))

end Go.Proofs.YtnakkelglbcecaaGreat.fnExactAssumptionsDone
