/- What the form asks of FnExactAllSupertraits beside the walk: closed facts on the translated text. No conditions. -/
import Derived.Test.YtnakkelglbcecaaGreatRows
import Derived.ProofKit
import Derived.Test.YtnakkelglbcecaaGreatQJMay
import Derived.OpenShut
import Derived.ShutString
import Derived.ChangeOld
set_option linter.unusedSimpArgs false
set_option linter.unusedVariables false
namespace Go.Proofs.YtnakkelglbcecaaGreat.fnExactAllSupertraitsDone
open Go.Proofs Go.Proofs.YtnakkelglbcecaaGreat Go.ChangeShapes Go.WideShapes Go.ChangeAt Go.RowKit
theorem fnNamed : Tryz.pinned.checked.prog.funcNamed Rows.fnExactAllSupertraitsRow.func = some 5 := by kernel_rfl
theorem inPlaceFact : (Rows.fnExactAllSupertraitsRow.inPlace == Tryz.pinned.checked.prog.inPlace 5) = true := by kernel_rfl
theorem unfollowedFact : (Rows.fnExactAllSupertraitsRow.unfollowed == Tryz.pinned.checked.prog.unfollowed 5) = true := by kernel_rfl
theorem recursesFact : (Rows.fnExactAllSupertraitsRow.recurses == Tryz.pinned.checked.prog.recurses 5) = true := by kernel_rfl
theorem namedFact : (Rows.fnExactAllSupertraitsRow.named == Tryz.pinned.checked.prog.varsNamed 5) = true := by kernel_rfl
theorem liftsFact : (Rows.fnExactAllSupertraitsRow.lifted == Tryz.pinned.checked.prog.liftsFinal) = true := by kernel_rfl
theorem makeFact : (Tryz.pinned.checked.prog.make == some Rows.fnExactAllSupertraitsRow.make) = true := by kernel_rfl
theorem factsJoin : joinedFacts Tryz.pinned.checked.prog 5 Tryz.f5 Rows.fnExactAllSupertraitsSpec Rows.fnExactAllSupertraitsRow = true := by rw [joinedFacts, mayEnterFact, inPlaceFact, unfollowedFact, recursesFact, namedFact, liftsFact, makeFact]; kernel_rfl
theorem wrapper : Tryz.f5.isWrapper Tryz.pinned.checked.prog Rows.fnExactAllSupertraitsRow.wrapper Rows.fnExactAllSupertraitsRow.mainSum := (by unfold Func.isWrapper; first | (rw [if_pos (by decide +kernel)]; kernel_rfl) | (rw [if_neg (by decide +kernel)]; exact ⟨rfl, rfl⟩))

end Go.Proofs.YtnakkelglbcecaaGreat.fnExactAllSupertraitsDone
