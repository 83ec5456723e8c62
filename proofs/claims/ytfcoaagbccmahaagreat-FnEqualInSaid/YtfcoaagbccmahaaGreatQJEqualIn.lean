/- What the form asks of FnEqualIn beside the walk: closed facts on the translated text. No conditions. -/
import Derived.Test.YtfcoaagbccmahaaGreatRows
import Derived.ProofKit
import Derived.Test.YtfcoaagbccmahaaGreatQJMay
import Derived.OpenShut
import Derived.ShutString
import Derived.ChangeOld
set_option linter.unusedSimpArgs false
set_option linter.unusedVariables false
namespace Go.Proofs.YtfcoaagbccmahaaGreat.fnEqualInDone
open Go.Proofs Go.Proofs.YtfcoaagbccmahaaGreat Go.ChangeShapes Go.WideShapes Go.ChangeAt Go.RowKit
theorem fnNamed:Tryz.pinned.checked.prog.funcNamed Rows.fnEqualInRow.func=some 8:=by kernel_rfl
theorem inPlaceFact:(Rows.fnEqualInRow.inPlace==Tryz.pinned.checked.prog.inPlace 8)=true:=by kernel_rfl
theorem unfollowedFact:(Rows.fnEqualInRow.unfollowed==Tryz.pinned.checked.prog.unfollowed 8)=true:=by kernel_rfl
theorem recursesFact:(Rows.fnEqualInRow.recurses==Tryz.pinned.checked.prog.recurses 8)=true:=by kernel_rfl
theorem namedFact:(Rows.fnEqualInRow.named==Tryz.pinned.checked.prog.varsNamed 8)=true:=by kernel_rfl
theorem liftsFact:(Rows.fnEqualInRow.lifted==Tryz.pinned.checked.prog.liftsFinal)=true:=by kernel_rfl
theorem makeFact:(Tryz.pinned.checked.prog.make==some Rows.fnEqualInRow.make)=true:=by kernel_rfl
theorem factsJoin:joinedFacts Tryz.pinned.checked.prog 8 Tryz.f8 Rows.fnEqualInSpec Rows.fnEqualInRow=true:=by rw [joinedFacts,mayEnterFact,inPlaceFact,unfollowedFact,recursesFact,namedFact,liftsFact,makeFact];kernel_rfl
theorem wrapper:Tryz.f8.isWrapper Tryz.pinned.checked.prog Rows.fnEqualInRow.wrapper Rows.fnEqualInRow.mainSum:=(by unfold Func.isWrapper;first|(rw [if_pos (by decide+kernel)];kernel_rfl)|(rw [if_neg (by decide+kernel)];exact⟨rfl,rfl⟩))
end Go.Proofs.YtfcoaagbccmahaaGreat.fnEqualInDone
