/- What the form asks of FnExactSatisfiesOrphanRule beside the walk: closed facts on the translated text. No conditions. -/
import Derived.Test.YtnakkelglbcecaaGreatRows
import Derived.ProofKit
import Derived.Test.YtnakkelglbcecaaGreatJMay
import Derived.OpenShut
import Derived.ShutString
import Derived.ChangeOld
namespace Go.Proofs.YtnakkelglbcecaaGreat.fnExactSatisfiesOrphanRuleDone
open Go.Proofs Go.Proofs.YtnakkelglbcecaaGreat Go.ChangeShapes Go.WideShapes Go.ChangeAt Go.RowKit
theorem fnNamed : Tryz.pinned.checked.prog.funcNamed Rows.fnExactSatisfiesOrphanRuleRow.func = some 3 := by kernel_rfl
theorem inPlaceFact : (Rows.fnExactSatisfiesOrphanRuleRow.inPlace == Tryz.pinned.checked.prog.inPlace 3) = true := by kernel_rfl
theorem unfollowedFact : (Rows.fnExactSatisfiesOrphanRuleRow.unfollowed == Tryz.pinned.checked.prog.unfollowed 3) = true := by kernel_rfl
theorem recursesFact : (Rows.fnExactSatisfiesOrphanRuleRow.recurses == Tryz.pinned.checked.prog.recurses 3) = true := by kernel_rfl
theorem namedFact : (Rows.fnExactSatisfiesOrphanRuleRow.named == Tryz.pinned.checked.prog.varsNamed 3) = true := by kernel_rfl
theorem liftsFact : (Rows.fnExactSatisfiesOrphanRuleRow.lifted == Tryz.pinned.checked.prog.liftsFinal) = true := by kernel_rfl
theorem makeFact : (Tryz.pinned.checked.prog.make == some Rows.fnExactSatisfiesOrphanRuleRow.make) = true := by kernel_rfl
theorem factsJoin : joinedFacts Tryz.pinned.checked.prog 3 Tryz.f3 Rows.fnExactSatisfiesOrphanRuleSpec Rows.fnExactSatisfiesOrphanRuleRow = true := by rw [joinedFacts, mayEnterFact, inPlaceFact, unfollowedFact, recursesFact, namedFact, liftsFact, makeFact]; kernel_rfl
theorem wrapper : Tryz.f3.isWrapper Tryz.pinned.checked.prog Rows.fnExactSatisfiesOrphanRuleRow.wrapper Rows.fnExactSatisfiesOrphanRuleRow.mainSum := (by unfold Func.isWrapper; first | (rw [if_pos (by decide +kernel)]; kernel_rfl) | (rw [if_neg (by decide +kernel)]; exact ⟨rfl, rfl⟩))

end Go.Proofs.YtnakkelglbcecaaGreat.fnExactSatisfiesOrphanRuleDone
