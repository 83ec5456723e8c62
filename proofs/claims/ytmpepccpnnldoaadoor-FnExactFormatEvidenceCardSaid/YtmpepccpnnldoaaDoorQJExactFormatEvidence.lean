/- What the form asks of FnExactFormatEvidence beside the walk: closed facts on the translated text. No conditions. -/
import Derived.Test.YtmpepccpnnldoaaDoorRows
import Derived.ProofKit
import Derived.OpenShut
import Derived.ShutString
import Derived.ChangeOld
set_option linter.unusedSimpArgs false
set_option linter.unusedVariables false
namespace Go.Proofs.YtmpepccpnnldoaaDoor.fnExactFormatEvidenceDone
open Go.Proofs Go.Proofs.YtmpepccpnnldoaaDoor Go.ChangeShapes Go.WideShapes Go.ChangeAt Go.RowKit
theorem fnNamed : Tryd.pinned.checked.prog.funcNamed Rows.fnExactFormatEvidenceRow.func = some 3 := by kernel_rfl
theorem factsJoin : joinedFacts Tryd.pinned.checked.prog 3 Tryd.f3 Rows.fnExactFormatEvidenceSpec Rows.fnExactFormatEvidenceRow = true := by kernel_rfl
theorem wrapper : Tryd.f3.isWrapper Tryd.pinned.checked.prog Rows.fnExactFormatEvidenceRow.wrapper Rows.fnExactFormatEvidenceRow.mainSum := (by unfold Func.isWrapper; first | (rw [if_pos (by decide +kernel)]; kernel_rfl) | (rw [if_neg (by decide +kernel)]; exact ⟨rfl, rfl⟩))

end Go.Proofs.YtmpepccpnnldoaaDoor.fnExactFormatEvidenceDone
