/- What the form asks of FnChosen beside the walk: closed facts on the translated text. No conditions. -/
import Derived.Test.YtpioomclpaiomaaGreatRows
import Derived.ProofKit
import Derived.Test.YtpioomclpaiomaaGreatQJMay
import Derived.OpenShut
import Derived.ShutString
import Derived.ChangeOld
set_option linter.unusedSimpArgs false
set_option linter.unusedVariables false
namespace Go.Proofs.YtpioomclpaiomaaGreat.fnChosenDone
open Go.Proofs Go.Proofs.YtpioomclpaiomaaGreat Go.ChangeShapes Go.WideShapes Go.ChangeAt Go.RowKit
theorem fnNamed:Tryz.pinned.checked.prog.funcNamed Rows.fnChosenRow.func=some 7:=by kernel_rfl
theorem inPlaceFact:(Rows.fnChosenRow.inPlace==Tryz.pinned.checked.prog.inPlace 7)=true:=by kernel_rfl
theorem unfollowedFact:(Rows.fnChosenRow.unfollowed==Tryz.pinned.checked.prog.unfollowed 7)=true:=by kernel_rfl
theorem recursesFact:(Rows.fnChosenRow.recurses==Tryz.pinned.checked.prog.recurses 7)=true:=by kernel_rfl
theorem namedFact:(Rows.fnChosenRow.named==Tryz.pinned.checked.prog.varsNamed 7)=true:=by kernel_rfl
theorem liftsFact:(Rows.fnChosenRow.lifted==Tryz.pinned.checked.prog.liftsFinal)=true:=by kernel_rfl
theorem makeFact:(Tryz.pinned.checked.prog.make==some Rows.fnChosenRow.make)=true:=by kernel_rfl
theorem factsJoin:joinedFacts Tryz.pinned.checked.prog 7 Tryz.f7 Rows.fnChosenSpec Rows.fnChosenRow=true:=by rw [joinedFacts,X9,inPlaceFact,unfollowedFact,recursesFact,namedFact,liftsFact,makeFact];kernel_rfl
theorem wrapper:Tryz.f7.isWrapper Tryz.pinned.checked.prog Rows.fnChosenRow.wrapper Rows.fnChosenRow.mainSum:=(by unfold Func.isWrapper;first|(rw [if_pos (by decide+kernel)];kernel_rfl)|(rw [if_neg (by decide+kernel)];exact⟨rfl,rfl⟩))
end Go.Proofs.YtpioomclpaiomaaGreat.fnChosenDone
