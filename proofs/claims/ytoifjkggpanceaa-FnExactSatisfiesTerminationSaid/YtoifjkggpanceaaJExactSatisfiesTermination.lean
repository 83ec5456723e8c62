/- What the form asks of FnExactSatisfiesTermination beside the walk: closed facts on the translated text. No conditions. -/
import Derived.Test.YtoifjkggpanceaaRows
import Derived.ProofKit
import Derived.OpenShut
import Derived.ShutString
import Derived.ChangeOld
namespace Go.Proofs.Ytoifjkggpanceaa.fnExactSatisfiesTerminationDone
open Go.Proofs Go.Proofs.Ytoifjkggpanceaa Go.ChangeShapes Go.WideShapes Go.ChangeAt Go.RowKit
theorem fnNamed : Try.pinned.checked.prog.funcNamed Rows.fnExactSatisfiesTerminationRow.func = some 13 := by kernel_rfl
theorem factsJoin : joinedFacts Try.pinned.checked.prog 13 Try.f13 Rows.fnExactSatisfiesTerminationSpec Rows.fnExactSatisfiesTerminationRow = true := by kernel_rfl
theorem wrapper : Try.f13.isWrapper Try.pinned.checked.prog Rows.fnExactSatisfiesTerminationRow.wrapper Rows.fnExactSatisfiesTerminationRow.mainSum := (by unfold Func.isWrapper; first | (rw [if_pos (by decide +kernel)]; kernel_rfl) | (rw [if_neg (by decide +kernel)]; exact ⟨rfl, rfl⟩))

end Go.Proofs.Ytoifjkggpanceaa.fnExactSatisfiesTerminationDone
