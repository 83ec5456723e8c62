/- What the form asks of FnEvText beside the walk: closed facts on the translated text. No conditions. -/
import Derived.Test.YtmpepccpnnldoaaDoorRows
import Derived.ProofKit
import Derived.OpenShut
import Derived.ShutString
import Derived.ChangeOld
set_option linter.unusedSimpArgs false
set_option linter.unusedVariables false
namespace Go.Proofs.YtmpepccpnnldoaaDoor.fnEvTextDone
open Go.Proofs Go.Proofs.YtmpepccpnnldoaaDoor Go.ChangeShapes Go.WideShapes Go.ChangeAt Go.RowKit
theorem fnNamed : Tryd.pinned.checked.prog.funcNamed Rows.fnEvTextRow.func = some 4 := by kernel_rfl
theorem factsJoin : joinedFacts Tryd.pinned.checked.prog 4 Tryd.f4 Rows.fnEvTextSpec Rows.fnEvTextRow = true := by kernel_rfl
theorem wrapper : Tryd.f4.isWrapper Tryd.pinned.checked.prog Rows.fnEvTextRow.wrapper Rows.fnEvTextRow.mainSum := (by unfold Func.isWrapper; first | (rw [if_pos (by decide +kernel)]; kernel_rfl) | (rw [if_neg (by decide +kernel)]; exact ⟨rfl, rfl⟩))

end Go.Proofs.YtmpepccpnnldoaaDoor.fnEvTextDone
