/-
  NARROWER THAN 'FOR EVERY INPUT', by the rows' own cells (each row's printed sentence says how): FnExactFormatGoal: loops.
  DERIVED. THE GIVEN ROWS OF THIS SEAT. 3 by the template 'for every input the law returns true; each argument reads behind the call as it read before'; 0 by the template 'total and deterministic' (their statements: YtmpepccpnnldoaaTotals.lean).
  GIVEN WITH THE SEED: the statements are not yours to turn. If you find one false, say at which input.
  Laid BY PROGRAM, IN A SANDBOX (cutbox-rows.mjs): the forced cells as the released guide's own fill.sh prints them over the translation 97af86b141f6bfa4… (all of the seat's roots in one cut). By AI agents, Wed Nov 11 2026. No macro, syntax, notation, axiom, sorry.
-/
import Derived.Test.YtmpepccpnnldoaaChecked
import GoSem.Claim
import GoSem.ClaimJoined
import GoSem.ClaimMapViews
import Derived.JoinedTies
import Derived.KernelRfl
namespace Go.Proofs.Ytmpepccpnnldoaa
/- THE CELL 'sum', in the pinned program and in every row, IS THE sha256 OF THE DUMP (.gsa) THAT YtmpepccpnnldoaaProg.lean LOADS. Nothing in Lean hashes anything: it is a label: what it is worth is what the hold of that sum in a sandbox is worth. -/
noncomputable def Try.pinned : Pinned := { name := "ytmpepccpnnldoaa", sum := "97af86b141f6bfa44236733b09098474ea4c4541a232caddb7ab4872e19327a5", checked := Try.checked }
namespace Rows
def none {H : Type} : Left H := { results := [], args := [] }

/-- 'laws.FnEnds': WHATEVER THE INPUT: true; the input reads as it did. -/
def fnEndsSpec : ChangeSpec := { name := "fnEnds", fn := fun _ => fun
  | [d] => { results := [.lit (.bool true)], args := [d] }
  | _ => none }
def fnEndsRow : OpenClaim := { program := "ytmpepccpnnldoaa", sum := "97af86b141f6bfa44236733b09098474ea4c4541a232caddb7ab4872e19327a5", func := "loop.example/g00508/laws.FnEnds", spec := "fnEnds", unfollowed := true, recurses := true, apart := false }
def FnEndsSaid : Prop := fnEndsRow.holds Try.pinned (OpenSpec.ofChange fnEndsSpec)

/-- ITS FALSE NEIGHBOUR: 'it returns false'. Refute it at one input. -/
def fnEndsWrong : ChangeSpec := { name := "fnEnds", fn := fun _ => fun
  | [d] => { results := [.lit (.bool false)], args := [d] }
  | _ => none }
def FnEndsWrongFalsely : Prop := fnEndsRow.holds Try.pinned (OpenSpec.ofChange fnEndsWrong)

/-- 'laws.FnExactFormatGoal': WHATEVER THE INPUT: true; the input reads as it did. -/
def fnExactFormatGoalSpec : ChangeSpec := { name := "fnExactFormatGoal", fn := fun _ => fun
  | [d] => { results := [.lit (.bool true)], args := [d] }
  | _ => none }
def fnExactFormatGoalRow : OpenClaim := { program := "ytmpepccpnnldoaa", sum := "97af86b141f6bfa44236733b09098474ea4c4541a232caddb7ab4872e19327a5", func := "loop.example/g00508/laws.FnExactFormatGoal", spec := "fnExactFormatGoal", inPlace := ["internal/bytealg.IndexByteString", "internal/abi.NoEscape"], unfollowed := true, recurses := true, loops := true, apart := false }
def FnExactFormatGoalSaid : Prop := fnExactFormatGoalRow.holds Try.pinned (OpenSpec.ofChange fnExactFormatGoalSpec)

/-- ITS FALSE NEIGHBOUR: 'it returns false'. Refute it at one input. -/
def fnExactFormatGoalWrong : ChangeSpec := { name := "fnExactFormatGoal", fn := fun _ => fun
  | [d] => { results := [.lit (.bool false)], args := [d] }
  | _ => none }
def FnExactFormatGoalWrongFalsely : Prop := fnExactFormatGoalRow.holds Try.pinned (OpenSpec.ofChange fnExactFormatGoalWrong)

/-- 'laws.FnExactParseGoal': WHATEVER THE INPUT: true; the input reads as it did. -/
def fnExactParseGoalSpec : ChangeSpec := { name := "fnExactParseGoal", fn := fun _ => fun
  | [d] => { results := [.lit (.bool true)], args := [d] }
  | _ => none }
def fnExactParseGoalRow : OpenClaim := { program := "ytmpepccpnnldoaa", sum := "97af86b141f6bfa44236733b09098474ea4c4541a232caddb7ab4872e19327a5", func := "loop.example/g00508/laws.FnExactParseGoal", spec := "fnExactParseGoal", inPlace := ["internal/bytealg.IndexByteString", "internal/abi.NoEscape"], unfollowed := true, recurses := true, apart := false }
def FnExactParseGoalSaid : Prop := fnExactParseGoalRow.holds Try.pinned (OpenSpec.ofChange fnExactParseGoalSpec)

/-- ITS FALSE NEIGHBOUR: 'it returns false'. Refute it at one input. -/
def fnExactParseGoalWrong : ChangeSpec := { name := "fnExactParseGoal", fn := fun _ => fun
  | [d] => { results := [.lit (.bool false)], args := [d] }
  | _ => none }
def FnExactParseGoalWrongFalsely : Prop := fnExactParseGoalRow.holds Try.pinned (OpenSpec.ofChange fnExactParseGoalWrong)

/- THE SECOND FORM. 'bulk': how many values and letters a reading holds, each counted each time it is reached (what is shared counts as often as it is met; a slice's spare places count too). A statement '..UptoSaid' is the law's where the arguments, and the package variables that the reading takes, are together of bulk at most 1048576: NARROWER than '..Said'. Prove '..Said' where nothing that the law and all that it calls make is longer than what came in: it says more and counts as full. Else prove '..UptoSaid'. A law counts once. -/
mutual
def uptoBulk {H : Type} : DataW H → Nat
  | .lit (.string bytes) => bytes.length + 1
  | .lit _ => 1
  | .nil => 1
  | .ptr d => uptoBulk d + 1
  | .slice elems spare => uptoBulkAll elems + uptoBulkAll spare + 1
  | .agg parts => uptoBulkAll parts + 1
  | .iface _ d => uptoBulk d + 1
  | .map entries => uptoBulkEntries entries + 1
  | .held _ => 1
def uptoBulkAll {H : Type} : List (DataW H) → Nat
  | [] => 0
  | d :: r => uptoBulk d + uptoBulkAll r
def uptoBulkEntries {H : Type} : List (Lit × DataW H) → Nat
  | [] => 0
  | x :: r => uptoBulkEntry x + uptoBulkEntries r
def uptoBulkEntry {H : Type} : Lit × DataW H → Nat
  | (.string bytes, d) => bytes.length + uptoBulk d + 1
  | (_, d) => uptoBulk d + 1
 end
def uptoSmall : (H : Type) → List (DataW H) → Bool := fun _ ds => decide (uptoBulkAll ds ≤ 1048576)
def OpenSpec.upto (s : _root_.Go.ChangeSpec) : _root_.Go.OpenSpec := { _root_.Go.OpenSpec.ofChange s with cond := some uptoSmall }

/-- 'laws.FnEnds', WHERE WHAT IT READS IS OF BULK AT MOST 1048576: true; the input reads as it did. -/
def fnEndsUptoRow : OpenClaim := { program := "ytmpepccpnnldoaa", sum := "97af86b141f6bfa44236733b09098474ea4c4541a232caddb7ab4872e19327a5", func := "loop.example/g00508/laws.FnEnds", spec := "fnEnds", unfollowed := true, recurses := true, apart := false, narrowed := true }
def FnEndsUptoSaid : Prop := fnEndsUptoRow.holds Try.pinned (OpenSpec.upto fnEndsSpec)

/-- 'laws.FnExactFormatGoal', WHERE WHAT IT READS IS OF BULK AT MOST 1048576: true; the input reads as it did. -/
def fnExactFormatGoalUptoRow : OpenClaim := { program := "ytmpepccpnnldoaa", sum := "97af86b141f6bfa44236733b09098474ea4c4541a232caddb7ab4872e19327a5", func := "loop.example/g00508/laws.FnExactFormatGoal", spec := "fnExactFormatGoal", inPlace := ["internal/bytealg.IndexByteString", "internal/abi.NoEscape"], unfollowed := true, recurses := true, loops := true, apart := false, narrowed := true }
def FnExactFormatGoalUptoSaid : Prop := fnExactFormatGoalUptoRow.holds Try.pinned (OpenSpec.upto fnExactFormatGoalSpec)

/-- 'laws.FnExactParseGoal', WHERE WHAT IT READS IS OF BULK AT MOST 1048576: true; the input reads as it did. -/
def fnExactParseGoalUptoRow : OpenClaim := { program := "ytmpepccpnnldoaa", sum := "97af86b141f6bfa44236733b09098474ea4c4541a232caddb7ab4872e19327a5", func := "loop.example/g00508/laws.FnExactParseGoal", spec := "fnExactParseGoal", inPlace := ["internal/bytealg.IndexByteString", "internal/abi.NoEscape"], unfollowed := true, recurses := true, apart := false, narrowed := true }
def FnExactParseGoalUptoSaid : Prop := fnExactParseGoalUptoRow.holds Try.pinned (OpenSpec.upto fnExactParseGoalSpec)

end Rows
end Go.Proofs.Ytmpepccpnnldoaa
