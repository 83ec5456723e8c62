/- What the form asks of FnMemoOk beside the walk: closed facts on the translated text. No conditions. -/
import Derived.Test.YtfcoaagbccmahaaGreatRows
import Derived.ProofKit
import Derived.Test.YtfcoaagbccmahaaGreatQJMay
import Derived.OpenShut
import Derived.ShutString
import Derived.ChangeOld
set_option linter.unusedSimpArgs false
set_option linter.unusedVariables false
namespace Go.Proofs.YtfcoaagbccmahaaGreat.fnMemoOkDone
open Go.Proofs Go.Proofs.YtfcoaagbccmahaaGreat Go.ChangeShapes Go.WideShapes Go.ChangeAt Go.RowKit
theorem fnNamed:Tryz.pinned.checked.prog.funcNamed Rows.fnMemoOkRow.func=some 6:=by kernel_rfl
theorem inPlaceFact:(Rows.fnMemoOkRow.inPlace==Tryz.pinned.checked.prog.inPlace 6)=true:=by kernel_rfl
theorem unfollowedFact:(Rows.fnMemoOkRow.unfollowed==Tryz.pinned.checked.prog.unfollowed 6)=true:=by kernel_rfl
theorem recursesFact:(Rows.fnMemoOkRow.recurses==Tryz.pinned.checked.prog.recurses 6)=true:=by kernel_rfl
theorem namedFact:(Rows.fnMemoOkRow.named==Tryz.pinned.checked.prog.varsNamed 6)=true:=by kernel_rfl
theorem liftsFact:(Rows.fnMemoOkRow.lifted==Tryz.pinned.checked.prog.liftsFinal)=true:=by kernel_rfl
theorem makeFact:(Tryz.pinned.checked.prog.make==some Rows.fnMemoOkRow.make)=true:=by kernel_rfl
theorem factsJoin:joinedFacts Tryz.pinned.checked.prog 6 Tryz.f6 Rows.fnMemoOkSpec Rows.fnMemoOkRow=true:=by rw [joinedFacts,mayEnterFact,inPlaceFact,unfollowedFact,recursesFact,namedFact,liftsFact,makeFact];kernel_rfl
theorem wrapper:Tryz.f6.isWrapper Tryz.pinned.checked.prog Rows.fnMemoOkRow.wrapper Rows.fnMemoOkRow.mainSum:=(by unfold Func.isWrapper;first|(rw [if_pos (by decide+kernel)];kernel_rfl)|(rw [if_neg (by decide+kernel)];exact⟨rfl,rfl⟩))
end Go.Proofs.YtfcoaagbccmahaaGreat.fnMemoOkDone
