/- What the form asks of FnExactHomePackage beside the walk: closed facts on the translated text. No conditions. -/
import Derived.Test.YtnakkelglbcecaaRows
import Derived.ProofKit
import Derived.OpenShut
import Derived.ShutString
import Derived.ChangeOld
namespace Go.Proofs.Ytnakkelglbcecaa.fnExactHomePackageDone
open Go.Proofs Go.Proofs.Ytnakkelglbcecaa Go.ChangeShapes Go.WideShapes Go.ChangeAt Go.RowKit
theorem fnNamed : Try.pinned.checked.prog.funcNamed Rows.fnExactHomePackageRow.func = some 3 := by kernel_rfl
theorem factsJoin : joinedFacts Try.pinned.checked.prog 3 Try.f3 Rows.fnExactHomePackageSpec Rows.fnExactHomePackageRow = true := by kernel_rfl
theorem wrapper : Try.f3.isWrapper Try.pinned.checked.prog Rows.fnExactHomePackageRow.wrapper Rows.fnExactHomePackageRow.mainSum := (by unfold Func.isWrapper; first | (rw [if_pos (by decide +kernel)]; kernel_rfl) | (rw [if_neg (by decide +kernel)]; exact ⟨rfl, rfl⟩))

end Go.Proofs.Ytnakkelglbcecaa.fnExactHomePackageDone
