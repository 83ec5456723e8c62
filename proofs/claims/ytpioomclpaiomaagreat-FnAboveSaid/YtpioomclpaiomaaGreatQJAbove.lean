/- What the form asks of FnAbove beside the walk: closed facts on the translated text. No conditions. -/
import Derived.Test.YtpioomclpaiomaaGreatRows
import Derived.ProofKit
import Derived.Test.YtpioomclpaiomaaGreatQJMay
import Derived.OpenShut
import Derived.ShutString
import Derived.ChangeOld
set_option linter.unusedSimpArgs false
set_option linter.unusedVariables false
namespace Go.Proofs.YtpioomclpaiomaaGreat.fnAboveDone
open Go.Proofs Go.Proofs.YtpioomclpaiomaaGreat Go.ChangeShapes Go.WideShapes Go.ChangeAt Go.RowKit
theorem fnNamed:Tryz.pinned.checked.prog.funcNamed Rows.fnAboveRow.func=some 4:=by kernel_rfl
theorem inPlaceFact:(Rows.fnAboveRow.inPlace==Tryz.pinned.checked.prog.inPlace 4)=true:=by kernel_rfl
theorem unfollowedFact:(Rows.fnAboveRow.unfollowed==Tryz.pinned.checked.prog.unfollowed 4)=true:=by kernel_rfl
theorem recursesFact:(Rows.fnAboveRow.recurses==Tryz.pinned.checked.prog.recurses 4)=true:=by kernel_rfl
theorem namedFact:(Rows.fnAboveRow.named==Tryz.pinned.checked.prog.varsNamed 4)=true:=by kernel_rfl
theorem liftsFact:(Rows.fnAboveRow.lifted==Tryz.pinned.checked.prog.liftsFinal)=true:=by kernel_rfl
theorem makeFact:(Tryz.pinned.checked.prog.make==some Rows.fnAboveRow.make)=true:=by kernel_rfl
theorem factsJoin:joinedFacts Tryz.pinned.checked.prog 4 Tryz.f4 Rows.fnAboveSpec Rows.fnAboveRow=true:=by rw [joinedFacts,SN,inPlaceFact,unfollowedFact,recursesFact,namedFact,liftsFact,makeFact];kernel_rfl
theorem wrapper:Tryz.f4.isWrapper Tryz.pinned.checked.prog Rows.fnAboveRow.wrapper Rows.fnAboveRow.mainSum:=(by unfold Func.isWrapper;first|(rw [if_pos (by decide+kernel)];kernel_rfl)|(rw [if_neg (by decide+kernel)];exact⟨rfl,rfl⟩))
end Go.Proofs.YtpioomclpaiomaaGreat.fnAboveDone
