/- What the form asks of FnSolve beside the walk: closed facts on the translated text. No conditions. -/
import Derived.Test.YtfcoaagbccmahaaGreatRows
import Derived.ProofKit
import Derived.Test.YtfcoaagbccmahaaGreatQJMay
import Derived.OpenShut
import Derived.ShutString
import Derived.ChangeOld
set_option linter.unusedSimpArgs false
set_option linter.unusedVariables false
namespace Go.Proofs.YtfcoaagbccmahaaGreat.fnSolveDone
open Go.Proofs Go.Proofs.YtfcoaagbccmahaaGreat Go.ChangeShapes Go.WideShapes Go.ChangeAt Go.RowKit
theorem fnNamed:Tryz.pinned.checked.prog.funcNamed Rows.fnSolveRow.func=some 4:=by kernel_rfl
theorem inPlaceFact:(Rows.fnSolveRow.inPlace==Tryz.pinned.checked.prog.inPlace 4)=true:=by kernel_rfl
theorem unfollowedFact:(Rows.fnSolveRow.unfollowed==Tryz.pinned.checked.prog.unfollowed 4)=true:=by kernel_rfl
theorem recursesFact:(Rows.fnSolveRow.recurses==Tryz.pinned.checked.prog.recurses 4)=true:=by kernel_rfl
theorem namedFact:(Rows.fnSolveRow.named==Tryz.pinned.checked.prog.varsNamed 4)=true:=by kernel_rfl
theorem liftsFact:(Rows.fnSolveRow.lifted==Tryz.pinned.checked.prog.liftsFinal)=true:=by kernel_rfl
theorem makeFact:(Tryz.pinned.checked.prog.make==some Rows.fnSolveRow.make)=true:=by kernel_rfl
theorem factsJoin:joinedFacts Tryz.pinned.checked.prog 4 Tryz.f4 Rows.fnSolveSpec Rows.fnSolveRow=true:=by rw [joinedFacts,mayEnterFact,inPlaceFact,unfollowedFact,recursesFact,namedFact,liftsFact,makeFact];kernel_rfl
theorem wrapper:Tryz.f4.isWrapper Tryz.pinned.checked.prog Rows.fnSolveRow.wrapper Rows.fnSolveRow.mainSum:=(by unfold Func.isWrapper;first|(rw [if_pos (by decide+kernel)];kernel_rfl)|(rw [if_neg (by decide+kernel)];exact⟨rfl,rfl⟩))
end Go.Proofs.YtfcoaagbccmahaaGreat.fnSolveDone
