/- What the form asks of FnExactFindTrait beside the walk: closed facts on the translated text. No conditions. -/
import Derived.Test.YtnakkelglbcecaaGreatRows
import Derived.ProofKit
import Derived.Test.YtnakkelglbcecaaGreatQJMay
import Derived.OpenShut
import Derived.ShutString
import Derived.ChangeOld
set_option linter.unusedSimpArgs false
set_option linter.unusedVariables false
namespace Go.Proofs.YtnakkelglbcecaaGreat.fnExactFindTraitDone
open Go.Proofs Go.Proofs.YtnakkelglbcecaaGreat Go.ChangeShapes Go.WideShapes Go.ChangeAt Go.RowKit
theorem fnNamed : Tryz.pinned.checked.prog.funcNamed Rows.fnExactFindTraitRow.func = some 13 := by kernel_rfl
theorem inPlaceFact : (Rows.fnExactFindTraitRow.inPlace == Tryz.pinned.checked.prog.inPlace 13) = true := by kernel_rfl
theorem unfollowedFact : (Rows.fnExactFindTraitRow.unfollowed == Tryz.pinned.checked.prog.unfollowed 13) = true := by kernel_rfl
theorem recursesFact : (Rows.fnExactFindTraitRow.recurses == Tryz.pinned.checked.prog.recurses 13) = true := by kernel_rfl
theorem namedFact : (Rows.fnExactFindTraitRow.named == Tryz.pinned.checked.prog.varsNamed 13) = true := by kernel_rfl
theorem liftsFact : (Rows.fnExactFindTraitRow.lifted == Tryz.pinned.checked.prog.liftsFinal) = true := by kernel_rfl
theorem makeFact : (Tryz.pinned.checked.prog.make == some Rows.fnExactFindTraitRow.make) = true := by kernel_rfl
theorem factsJoin : joinedFacts Tryz.pinned.checked.prog 13 Tryz.f13 Rows.fnExactFindTraitSpec Rows.fnExactFindTraitRow = true := by rw [joinedFacts, mayEnterFact, inPlaceFact, unfollowedFact, recursesFact, namedFact, liftsFact, makeFact]; kernel_rfl
theorem wrapper : Tryz.f13.isWrapper Tryz.pinned.checked.prog Rows.fnExactFindTraitRow.wrapper Rows.fnExactFindTraitRow.mainSum := (by unfold Func.isWrapper; first | (rw [if_pos (by decide +kernel)]; kernel_rfl) | (rw [if_neg (by decide +kernel)]; exact ⟨rfl, rfl⟩))

end Go.Proofs.YtnakkelglbcecaaGreat.fnExactFindTraitDone
