/- What the form asks of FnOwnOf beside the walk: closed facts on the translated text. No conditions. -/
import Derived.Test.YtpioomclpaiomaaGreatRows
import Derived.ProofKit
import Derived.Test.YtpioomclpaiomaaGreatQJMay
import Derived.OpenShut
import Derived.ShutString
import Derived.ChangeOld
set_option linter.unusedSimpArgs false
set_option linter.unusedVariables false
namespace Go.Proofs.YtpioomclpaiomaaGreat.fnOwnOfDone
open Go.Proofs Go.Proofs.YtpioomclpaiomaaGreat Go.ChangeShapes Go.WideShapes Go.ChangeAt Go.RowKit
theorem fnNamed:Tryz.pinned.checked.prog.funcNamed Rows.fnOwnOfRow.func=some 6:=by kernel_rfl
theorem inPlaceFact:(Rows.fnOwnOfRow.inPlace==Tryz.pinned.checked.prog.inPlace 6)=true:=by kernel_rfl
theorem unfollowedFact:(Rows.fnOwnOfRow.unfollowed==Tryz.pinned.checked.prog.unfollowed 6)=true:=by kernel_rfl
theorem recursesFact:(Rows.fnOwnOfRow.recurses==Tryz.pinned.checked.prog.recurses 6)=true:=by kernel_rfl
theorem namedFact:(Rows.fnOwnOfRow.named==Tryz.pinned.checked.prog.varsNamed 6)=true:=by kernel_rfl
theorem liftsFact:(Rows.fnOwnOfRow.lifted==Tryz.pinned.checked.prog.liftsFinal)=true:=by kernel_rfl
theorem makeFact:(Tryz.pinned.checked.prog.make==some Rows.fnOwnOfRow.make)=true:=by kernel_rfl
theorem factsJoin:joinedFacts Tryz.pinned.checked.prog 6 Tryz.f6 Rows.fnOwnOfSpec Rows.fnOwnOfRow=true:=by rw [joinedFacts,KL,inPlaceFact,unfollowedFact,recursesFact,namedFact,liftsFact,makeFact];kernel_rfl
theorem wrapper:Tryz.f6.isWrapper Tryz.pinned.checked.prog Rows.fnOwnOfRow.wrapper Rows.fnOwnOfRow.mainSum:=(by unfold Func.isWrapper;first|(rw [if_pos (by decide+kernel)];kernel_rfl)|(rw [if_neg (by decide+kernel)];exact⟨rfl,rfl⟩))
end Go.Proofs.YtpioomclpaiomaaGreat.fnOwnOfDone
