/- What the form asks of FnNormal beside the walk: closed facts on the translated text. No conditions. -/
import Derived.Test.YtfcoaagbccmahaaGreatRows
import Derived.ProofKit
import Derived.Test.YtfcoaagbccmahaaGreatQJMay
import Derived.OpenShut
import Derived.ShutString
import Derived.ChangeOld
set_option linter.unusedSimpArgs false
set_option linter.unusedVariables false
namespace Go.Proofs.YtfcoaagbccmahaaGreat.fnNormalDone
open Go.Proofs Go.Proofs.YtfcoaagbccmahaaGreat Go.ChangeShapes Go.WideShapes Go.ChangeAt Go.RowKit
theorem fnNamed:Tryz.pinned.checked.prog.funcNamed Rows.fnNormalRow.func=some 7:=by kernel_rfl
theorem inPlaceFact:(Rows.fnNormalRow.inPlace==Tryz.pinned.checked.prog.inPlace 7)=true:=by kernel_rfl
theorem unfollowedFact:(Rows.fnNormalRow.unfollowed==Tryz.pinned.checked.prog.unfollowed 7)=true:=by kernel_rfl
theorem recursesFact:(Rows.fnNormalRow.recurses==Tryz.pinned.checked.prog.recurses 7)=true:=by kernel_rfl
theorem namedFact:(Rows.fnNormalRow.named==Tryz.pinned.checked.prog.varsNamed 7)=true:=by kernel_rfl
theorem liftsFact:(Rows.fnNormalRow.lifted==Tryz.pinned.checked.prog.liftsFinal)=true:=by kernel_rfl
theorem makeFact:(Tryz.pinned.checked.prog.make==some Rows.fnNormalRow.make)=true:=by kernel_rfl
theorem factsJoin:joinedFacts Tryz.pinned.checked.prog 7 Tryz.f7 Rows.fnNormalSpec Rows.fnNormalRow=true:=by rw [joinedFacts,mayEnterFact,inPlaceFact,unfollowedFact,recursesFact,namedFact,liftsFact,makeFact];kernel_rfl
theorem wrapper:Tryz.f7.isWrapper Tryz.pinned.checked.prog Rows.fnNormalRow.wrapper Rows.fnNormalRow.mainSum:=(by unfold Func.isWrapper;first|(rw [if_pos (by decide+kernel)];kernel_rfl)|(rw [if_neg (by decide+kernel)];exact⟨rfl,rfl⟩))
end Go.Proofs.YtfcoaagbccmahaaGreat.fnNormalDone
