/- What the form asks of FnOwn beside the walk: closed facts on the translated text. No conditions. -/
import Derived.Test.YtlijdhhajojenaaRows
import Derived.ProofKit
import Derived.OpenShut
import Derived.ShutString
import Derived.ChangeOld
set_option linter.unusedSimpArgs false
set_option linter.unusedVariables false
namespace Go.Proofs.Ytlijdhhajojenaa.fnOwnDone
open Go.Proofs Go.Proofs.Ytlijdhhajojenaa Go.ChangeShapes Go.WideShapes Go.ChangeAt Go.RowKit
theorem fnNamed : Try.pinned.checked.prog.funcNamed Rows.fnOwnRow.func = some 3 := by kernel_rfl
theorem factsJoin : joinedFacts Try.pinned.checked.prog 3 Try.f3 Rows.fnOwnSpec Rows.fnOwnRow = true := by kernel_rfl
theorem wrapper : Try.f3.isWrapper Try.pinned.checked.prog Rows.fnOwnRow.wrapper Rows.fnOwnRow.mainSum := (by unfold Func.isWrapper; first | (rw [if_pos (by decide +kernel)]; kernel_rfl) | (rw [if_neg (by decide +kernel)]; exact ⟨rfl, rfl⟩))

end Go.Proofs.Ytlijdhhajojenaa.fnOwnDone
