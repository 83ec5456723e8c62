/- What the form asks of FnOrphan beside the walk: closed facts on the translated text. No conditions. -/
import Derived.Test.YtpioomclpaiomaaGreatRows
import Derived.ProofKit
import Derived.Test.YtpioomclpaiomaaGreatQJMay
import Derived.OpenShut
import Derived.ShutString
import Derived.ChangeOld
set_option linter.unusedSimpArgs false
set_option linter.unusedVariables false
namespace Go.Proofs.YtpioomclpaiomaaGreat.fnOrphanDone
open Go.Proofs Go.Proofs.YtpioomclpaiomaaGreat Go.ChangeShapes Go.WideShapes Go.ChangeAt Go.RowKit
theorem fnNamed:Tryz.pinned.checked.prog.funcNamed Rows.fnOrphanRow.func=some 5:=by kernel_rfl
theorem inPlaceFact:(Rows.fnOrphanRow.inPlace==Tryz.pinned.checked.prog.inPlace 5)=true:=by kernel_rfl
theorem unfollowedFact:(Rows.fnOrphanRow.unfollowed==Tryz.pinned.checked.prog.unfollowed 5)=true:=by kernel_rfl
theorem recursesFact:(Rows.fnOrphanRow.recurses==Tryz.pinned.checked.prog.recurses 5)=true:=by kernel_rfl
theorem namedFact:(Rows.fnOrphanRow.named==Tryz.pinned.checked.prog.varsNamed 5)=true:=by kernel_rfl
theorem liftsFact:(Rows.fnOrphanRow.lifted==Tryz.pinned.checked.prog.liftsFinal)=true:=by kernel_rfl
theorem makeFact:(Tryz.pinned.checked.prog.make==some Rows.fnOrphanRow.make)=true:=by kernel_rfl
theorem factsJoin:joinedFacts Tryz.pinned.checked.prog 5 Tryz.f5 Rows.fnOrphanSpec Rows.fnOrphanRow=true:=by rw [joinedFacts,SZ,inPlaceFact,unfollowedFact,recursesFact,namedFact,liftsFact,makeFact];kernel_rfl
theorem wrapper:Tryz.f5.isWrapper Tryz.pinned.checked.prog Rows.fnOrphanRow.wrapper Rows.fnOrphanRow.mainSum:=(by unfold Func.isWrapper;first|(rw [if_pos (by decide+kernel)];kernel_rfl)|(rw [if_neg (by decide+kernel)];exact⟨rfl,rfl⟩))
end Go.Proofs.YtpioomclpaiomaaGreat.fnOrphanDone
