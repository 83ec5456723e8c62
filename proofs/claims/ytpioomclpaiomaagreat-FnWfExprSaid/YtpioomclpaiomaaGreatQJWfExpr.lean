/- What the form asks of FnWfExpr beside the walk: closed facts on the translated text. No conditions. -/
import Derived.Test.YtpioomclpaiomaaGreatRows
import Derived.ProofKit
import Derived.Test.YtpioomclpaiomaaGreatQJMay
import Derived.OpenShut
import Derived.ShutString
import Derived.ChangeOld
set_option linter.unusedSimpArgs false
set_option linter.unusedVariables false
namespace Go.Proofs.YtpioomclpaiomaaGreat.fnWfExprDone
open Go.Proofs Go.Proofs.YtpioomclpaiomaaGreat Go.ChangeShapes Go.WideShapes Go.ChangeAt Go.RowKit
theorem fnNamed:Tryz.pinned.checked.prog.funcNamed Rows.fnWfExprRow.func=some 9:=by kernel_rfl
theorem inPlaceFact:(Rows.fnWfExprRow.inPlace==Tryz.pinned.checked.prog.inPlace 9)=true:=by kernel_rfl
theorem unfollowedFact:(Rows.fnWfExprRow.unfollowed==Tryz.pinned.checked.prog.unfollowed 9)=true:=by kernel_rfl
theorem recursesFact:(Rows.fnWfExprRow.recurses==Tryz.pinned.checked.prog.recurses 9)=true:=by kernel_rfl
theorem namedFact:(Rows.fnWfExprRow.named==Tryz.pinned.checked.prog.varsNamed 9)=true:=by kernel_rfl
theorem liftsFact:(Rows.fnWfExprRow.lifted==Tryz.pinned.checked.prog.liftsFinal)=true:=by kernel_rfl
theorem makeFact:(Tryz.pinned.checked.prog.make==some Rows.fnWfExprRow.make)=true:=by kernel_rfl
theorem factsJoin:joinedFacts Tryz.pinned.checked.prog 9 Tryz.f9 Rows.fnWfExprSpec Rows.fnWfExprRow=true:=by rw [joinedFacts,mayEnterFact,inPlaceFact,unfollowedFact,recursesFact,namedFact,liftsFact,makeFact];kernel_rfl
theorem wrapper:Tryz.f9.isWrapper Tryz.pinned.checked.prog Rows.fnWfExprRow.wrapper Rows.fnWfExprRow.mainSum:=(by unfold Func.isWrapper;first|(rw [if_pos (by decide+kernel)];kernel_rfl)|(rw [if_neg (by decide+kernel)];exact⟨rfl,rfl⟩))
end Go.Proofs.YtpioomclpaiomaaGreat.fnWfExprDone
