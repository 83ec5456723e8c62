/- What the form asks of FnExactSupertraitsAcyclic beside the walk: closed facts on the translated text. No conditions. -/
import Derived.Test.YtnakkelglbcecaaRows
import Derived.ProofKit
import Derived.OpenShut
import Derived.ShutString
import Derived.ChangeOld
namespace Go.Proofs.Ytnakkelglbcecaa.fnExactSupertraitsAcyclicDone
open Go.Proofs Go.Proofs.Ytnakkelglbcecaa Go.ChangeShapes Go.WideShapes Go.ChangeAt Go.RowKit
theorem fnNamed : Try.pinned.checked.prog.funcNamed Rows.fnExactSupertraitsAcyclicRow.func = some 4 := by kernel_rfl
theorem factsJoin : joinedFacts Try.pinned.checked.prog 4 Try.f4 Rows.fnExactSupertraitsAcyclicSpec Rows.fnExactSupertraitsAcyclicRow = true := by kernel_rfl
theorem wrapper : Try.f4.isWrapper Try.pinned.checked.prog Rows.fnExactSupertraitsAcyclicRow.wrapper Rows.fnExactSupertraitsAcyclicRow.mainSum := (by unfold Func.isWrapper; first | (rw [if_pos (by decide +kernel)]; kernel_rfl) | (rw [if_neg (by decide +kernel)]; exact ⟨rfl, rfl⟩))

end Go.Proofs.Ytnakkelglbcecaa.fnExactSupertraitsAcyclicDone
