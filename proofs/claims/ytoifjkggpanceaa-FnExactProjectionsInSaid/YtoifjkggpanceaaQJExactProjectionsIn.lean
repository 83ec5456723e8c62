/- What the form asks of FnExactProjectionsIn beside the walk: closed facts on the translated text. No conditions. -/
import Derived.Test.YtoifjkggpanceaaRows
import Derived.ProofKit
import Derived.OpenShut
import Derived.ShutString
import Derived.ChangeOld
import Derived.Test.YtoifjkggpanceaaQ1LExactProjectionsIn
import Derived.Test.YtoifjkggpanceaaQ2LExactProjectionsIn
import Derived.Test.YtoifjkggpanceaaQ3LExactProjectionsIn
import Derived.Test.YtoifjkggpanceaaQ4LExactProjectionsIn
import Derived.Test.YtoifjkggpanceaaQ5LExactProjectionsIn
set_option linter.unusedSimpArgs false
set_option linter.unusedVariables false
namespace Go.Proofs.Ytoifjkggpanceaa.fnExactProjectionsInDone
open Go.Proofs Go.Proofs.Ytoifjkggpanceaa Go.ChangeShapes Go.WideShapes Go.ChangeAt Go.RowKit
theorem fnNamed : Try.pinned.checked.prog.funcNamed Rows.fnExactProjectionsInRow.func = some 7 := by kernel_rfl
theorem factsJoin : joinedFacts Try.pinned.checked.prog 7 Try.f7 Rows.fnExactProjectionsInSpec Rows.fnExactProjectionsInRow = true := by kernel_rfl
theorem wrapper : Try.f7.isWrapper Try.pinned.checked.prog Rows.fnExactProjectionsInRow.wrapper Rows.fnExactProjectionsInRow.mainSum := (by unfold Func.isWrapper; first | (rw [if_pos (by decide +kernel)]; kernel_rfl) | (rw [if_neg (by decide +kernel)]; exact ⟨rfl, rfl⟩))

end Go.Proofs.Ytoifjkggpanceaa.fnExactProjectionsInDone
