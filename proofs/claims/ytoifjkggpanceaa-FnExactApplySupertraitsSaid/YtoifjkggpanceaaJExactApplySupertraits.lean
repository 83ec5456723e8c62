/- What the form asks of FnExactApplySupertraits beside the walk: closed facts on the translated text. No conditions. -/
import Derived.Test.YtoifjkggpanceaaRows
import Derived.ProofKit
import Derived.OpenShut
import Derived.ShutString
import Derived.ChangeOld
namespace Go.Proofs.Ytoifjkggpanceaa.fnExactApplySupertraitsDone
open Go.Proofs Go.Proofs.Ytoifjkggpanceaa Go.ChangeShapes Go.WideShapes Go.ChangeAt Go.RowKit
theorem fnNamed : Try.pinned.checked.prog.funcNamed Rows.fnExactApplySupertraitsRow.func = some 4 := by kernel_rfl
theorem factsJoin : joinedFacts Try.pinned.checked.prog 4 Try.f4 Rows.fnExactApplySupertraitsSpec Rows.fnExactApplySupertraitsRow = true := by kernel_rfl
theorem wrapper : Try.f4.isWrapper Try.pinned.checked.prog Rows.fnExactApplySupertraitsRow.wrapper Rows.fnExactApplySupertraitsRow.mainSum := (by unfold Func.isWrapper; first | (rw [if_pos (by decide +kernel)]; kernel_rfl) | (rw [if_neg (by decide +kernel)]; exact ⟨rfl, rfl⟩))

end Go.Proofs.Ytoifjkggpanceaa.fnExactApplySupertraitsDone
