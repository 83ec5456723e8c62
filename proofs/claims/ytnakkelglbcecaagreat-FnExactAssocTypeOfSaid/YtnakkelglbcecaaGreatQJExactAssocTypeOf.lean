/- What the form asks of FnExactAssocTypeOf beside the walk: closed facts on the translated text. No conditions. -/
import Derived.Test.YtnakkelglbcecaaGreatRows
import Derived.ProofKit
import Derived.Test.YtnakkelglbcecaaGreatQJMay
import Derived.OpenShut
import Derived.ShutString
import Derived.ChangeOld
set_option linter.unusedSimpArgs false
set_option linter.unusedVariables false
namespace Go.Proofs.YtnakkelglbcecaaGreat.fnExactAssocTypeOfDone
open Go.Proofs Go.Proofs.YtnakkelglbcecaaGreat Go.ChangeShapes Go.WideShapes Go.ChangeAt Go.RowKit
theorem fnNamed : Tryz.pinned.checked.prog.funcNamed Rows.fnExactAssocTypeOfRow.func = some 8 := by kernel_rfl
theorem inPlaceFact : (Rows.fnExactAssocTypeOfRow.inPlace == Tryz.pinned.checked.prog.inPlace 8) = true := by kernel_rfl
theorem unfollowedFact : (Rows.fnExactAssocTypeOfRow.unfollowed == Tryz.pinned.checked.prog.unfollowed 8) = true := by kernel_rfl
theorem recursesFact : (Rows.fnExactAssocTypeOfRow.recurses == Tryz.pinned.checked.prog.recurses 8) = true := by kernel_rfl
theorem namedFact : (Rows.fnExactAssocTypeOfRow.named == Tryz.pinned.checked.prog.varsNamed 8) = true := by kernel_rfl
theorem liftsFact : (Rows.fnExactAssocTypeOfRow.lifted == Tryz.pinned.checked.prog.liftsFinal) = true := by kernel_rfl
theorem makeFact : (Tryz.pinned.checked.prog.make == some Rows.fnExactAssocTypeOfRow.make) = true := by kernel_rfl
theorem factsJoin : joinedFacts Tryz.pinned.checked.prog 8 Tryz.f8 Rows.fnExactAssocTypeOfSpec Rows.fnExactAssocTypeOfRow = true := by rw [joinedFacts, mayEnterFact, inPlaceFact, unfollowedFact, recursesFact, namedFact, liftsFact, makeFact]; kernel_rfl
theorem wrapper : Tryz.f8.isWrapper Tryz.pinned.checked.prog Rows.fnExactAssocTypeOfRow.wrapper Rows.fnExactAssocTypeOfRow.mainSum := (by unfold Func.isWrapper; first | (rw [if_pos (by decide +kernel)]; kernel_rfl) | (rw [if_neg (by decide +kernel)]; exact ⟨rfl, rfl⟩))

end Go.Proofs.YtnakkelglbcecaaGreat.fnExactAssocTypeOfDone
