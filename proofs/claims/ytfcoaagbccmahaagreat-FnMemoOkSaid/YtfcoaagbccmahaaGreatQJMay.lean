/- One closed fact on the translated text that takes a text of its own: no call enters what may not be entered. No conditions. -/
import Derived.Test.YtfcoaagbccmahaaGreatRows
import Derived.ProofKit
import Derived.ChangeOld
set_option linter.unusedSimpArgs false
set_option linter.unusedVariables false
namespace Go.Proofs.YtfcoaagbccmahaaGreat
open Go.Proofs Go.Proofs.YtfcoaagbccmahaaGreat
theorem mayEnterFact:Tryz.pinned.checked.prog.mayEnter=true:=by kernel_rfl
end Go.Proofs.YtfcoaagbccmahaaGreat
