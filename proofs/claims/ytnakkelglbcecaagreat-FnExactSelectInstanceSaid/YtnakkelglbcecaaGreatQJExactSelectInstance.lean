/- What the form asks of FnExactSelectInstance beside the walk: closed facts on the translated text. No conditions. -/
import Derived.Test.YtnakkelglbcecaaGreatRows
import Derived.ProofKit
import Derived.Test.YtnakkelglbcecaaGreatQJMay
import Derived.OpenShut
import Derived.ShutString
import Derived.ChangeOld
set_option linter.unusedSimpArgs false
set_option linter.unusedVariables false
namespace Go.Proofs.YtnakkelglbcecaaGreat.fnExactSelectInstanceDone
open Go.Proofs Go.Proofs.YtnakkelglbcecaaGreat Go.ChangeShapes Go.WideShapes Go.ChangeAt Go.RowKit
theorem fnNamed : Tryz.pinned.checked.prog.funcNamed Rows.fnExactSelectInstanceRow.func = some 4 := by kernel_rfl
theorem inPlaceFact : (Rows.fnExactSelectInstanceRow.inPlace == Tryz.pinned.checked.prog.inPlace 4) = true := by kernel_rfl
theorem unfollowedFact : (Rows.fnExactSelectInstanceRow.unfollowed == Tryz.pinned.checked.prog.unfollowed 4) = true := by kernel_rfl
theorem recursesFact : (Rows.fnExactSelectInstanceRow.recurses == Tryz.pinned.checked.prog.recurses 4) = true := by kernel_rfl
theorem namedFact : (Rows.fnExactSelectInstanceRow.named == Tryz.pinned.checked.prog.varsNamed 4) = true := by kernel_rfl
theorem liftsFact : (Rows.fnExactSelectInstanceRow.lifted == Tryz.pinned.checked.prog.liftsFinal) = true := by kernel_rfl
theorem makeFact : (Tryz.pinned.checked.prog.make == some Rows.fnExactSelectInstanceRow.make) = true := by kernel_rfl
theorem factsJoin : joinedFacts Tryz.pinned.checked.prog 4 Tryz.f4 Rows.fnExactSelectInstanceSpec Rows.fnExactSelectInstanceRow = true := by rw [joinedFacts, mayEnterFact, inPlaceFact, unfollowedFact, recursesFact, namedFact, liftsFact, makeFact]; kernel_rfl
theorem wrapper : Tryz.f4.isWrapper Tryz.pinned.checked.prog Rows.fnExactSelectInstanceRow.wrapper Rows.fnExactSelectInstanceRow.mainSum := (by unfold Func.isWrapper; first | (rw [if_pos (by decide +kernel)]; kernel_rfl) | (rw [if_neg (by decide +kernel)]; exact ⟨rfl, rfl⟩))

end Go.Proofs.YtnakkelglbcecaaGreat.fnExactSelectInstanceDone
