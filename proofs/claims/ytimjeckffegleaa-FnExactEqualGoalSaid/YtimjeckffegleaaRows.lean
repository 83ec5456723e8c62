/-
  NARROWER THAN 'FOR EVERY INPUT', by the rows' own cells (each row's printed sentence says how): FnExactEvidenceSize: loops · FnExactEvidenceDepth: loops · FnExactEqualEvidence: loops · FnExactEqualGoal: loops · FnExactIsValidEvidence: loops.
  DERIVED. THE GIVEN ROWS OF THIS SEAT. 7 by the template 'for every input the law returns true; each argument reads behind the call as it read before'; 0 by the template 'total and deterministic' (their statements: YtimjeckffegleaaTotals.lean).
  GIVEN WITH THE SEED: the statements are not yours to turn. If you find one false, say at which input.
  Laid BY PROGRAM, IN A SANDBOX (cutbox-rows.mjs): the forced cells as the released guide's own fill.sh prints them over the translation d518e97ca1c655b4… (all of the seat's roots in one cut). By AI agents, Wed Nov 11 2026. No macro, syntax, notation, axiom, sorry.
-/
import Derived.Test.YtimjeckffegleaaChecked
import GoSem.Claim
import GoSem.ClaimJoined
import GoSem.ClaimMapViews
import Derived.JoinedTies
import Derived.KernelRfl
namespace Go.Proofs.Ytimjeckffegleaa
/- THE CELL 'sum', in the pinned program and in every row, IS THE sha256 OF THE DUMP (.gsa) THAT YtimjeckffegleaaProg.lean LOADS. Nothing in Lean hashes anything: it is a label: what it is worth is what the hold of that sum in a sandbox is worth. -/
noncomputable def Try.pinned : Pinned := { name := "ytimjeckffegleaa", sum := "d518e97ca1c655b4ad4ca53a32b638de63d16a8f88fd3ca0bee956e2ba37ca51", checked := Try.checked }
namespace Rows
def none {H : Type} : Left H := { results := [], args := [] }

/-- 'laws.FnExactCoherenceErrorName': WHATEVER THE INPUT: true; the input reads as it did. -/
def fnExactCoherenceErrorNameSpec : ChangeSpec := { name := "fnExactCoherenceErrorName", fn := fun _ => fun
  | [d] => { results := [.lit (.bool true)], args := [d] }
  | _ => none }
def fnExactCoherenceErrorNameRow : OpenClaim := { program := "ytimjeckffegleaa", sum := "d518e97ca1c655b4ad4ca53a32b638de63d16a8f88fd3ca0bee956e2ba37ca51", func := "loop.example/g00508/laws.FnExactCoherenceErrorName", spec := "fnExactCoherenceErrorName", apart := false }
def FnExactCoherenceErrorNameSaid : Prop := fnExactCoherenceErrorNameRow.holds Try.pinned (OpenSpec.ofChange fnExactCoherenceErrorNameSpec)

/-- ITS FALSE NEIGHBOUR: 'it returns false'. Refute it at one input. -/
def fnExactCoherenceErrorNameWrong : ChangeSpec := { name := "fnExactCoherenceErrorName", fn := fun _ => fun
  | [d] => { results := [.lit (.bool false)], args := [d] }
  | _ => none }
def FnExactCoherenceErrorNameWrongFalsely : Prop := fnExactCoherenceErrorNameRow.holds Try.pinned (OpenSpec.ofChange fnExactCoherenceErrorNameWrong)

/-- 'laws.FnExactSolveCodeName': WHATEVER THE INPUT: true; the input reads as it did. -/
def fnExactSolveCodeNameSpec : ChangeSpec := { name := "fnExactSolveCodeName", fn := fun _ => fun
  | [d] => { results := [.lit (.bool true)], args := [d] }
  | _ => none }
def fnExactSolveCodeNameRow : OpenClaim := { program := "ytimjeckffegleaa", sum := "d518e97ca1c655b4ad4ca53a32b638de63d16a8f88fd3ca0bee956e2ba37ca51", func := "loop.example/g00508/laws.FnExactSolveCodeName", spec := "fnExactSolveCodeName", apart := false }
def FnExactSolveCodeNameSaid : Prop := fnExactSolveCodeNameRow.holds Try.pinned (OpenSpec.ofChange fnExactSolveCodeNameSpec)

/-- ITS FALSE NEIGHBOUR: 'it returns false'. Refute it at one input. -/
def fnExactSolveCodeNameWrong : ChangeSpec := { name := "fnExactSolveCodeName", fn := fun _ => fun
  | [d] => { results := [.lit (.bool false)], args := [d] }
  | _ => none }
def FnExactSolveCodeNameWrongFalsely : Prop := fnExactSolveCodeNameRow.holds Try.pinned (OpenSpec.ofChange fnExactSolveCodeNameWrong)

/-- 'laws.FnExactEvidenceSize': WHATEVER THE INPUT: true; the input reads as it did. -/
def fnExactEvidenceSizeSpec : ChangeSpec := { name := "fnExactEvidenceSize", fn := fun _ => fun
  | [d] => { results := [.lit (.bool true)], args := [d] }
  | _ => none }
def fnExactEvidenceSizeRow : OpenClaim := { program := "ytimjeckffegleaa", sum := "d518e97ca1c655b4ad4ca53a32b638de63d16a8f88fd3ca0bee956e2ba37ca51", func := "loop.example/g00508/laws.FnExactEvidenceSize", spec := "fnExactEvidenceSize", recurses := true, loops := true, apart := false }
def FnExactEvidenceSizeSaid : Prop := fnExactEvidenceSizeRow.holds Try.pinned (OpenSpec.ofChange fnExactEvidenceSizeSpec)

/-- ITS FALSE NEIGHBOUR: 'it returns false'. Refute it at one input. -/
def fnExactEvidenceSizeWrong : ChangeSpec := { name := "fnExactEvidenceSize", fn := fun _ => fun
  | [d] => { results := [.lit (.bool false)], args := [d] }
  | _ => none }
def FnExactEvidenceSizeWrongFalsely : Prop := fnExactEvidenceSizeRow.holds Try.pinned (OpenSpec.ofChange fnExactEvidenceSizeWrong)

/-- 'laws.FnExactEvidenceDepth': WHATEVER THE INPUT: true; the input reads as it did. -/
def fnExactEvidenceDepthSpec : ChangeSpec := { name := "fnExactEvidenceDepth", fn := fun _ => fun
  | [d] => { results := [.lit (.bool true)], args := [d] }
  | _ => none }
def fnExactEvidenceDepthRow : OpenClaim := { program := "ytimjeckffegleaa", sum := "d518e97ca1c655b4ad4ca53a32b638de63d16a8f88fd3ca0bee956e2ba37ca51", func := "loop.example/g00508/laws.FnExactEvidenceDepth", spec := "fnExactEvidenceDepth", recurses := true, loops := true, apart := false }
def FnExactEvidenceDepthSaid : Prop := fnExactEvidenceDepthRow.holds Try.pinned (OpenSpec.ofChange fnExactEvidenceDepthSpec)

/-- ITS FALSE NEIGHBOUR: 'it returns false'. Refute it at one input. -/
def fnExactEvidenceDepthWrong : ChangeSpec := { name := "fnExactEvidenceDepth", fn := fun _ => fun
  | [d] => { results := [.lit (.bool false)], args := [d] }
  | _ => none }
def FnExactEvidenceDepthWrongFalsely : Prop := fnExactEvidenceDepthRow.holds Try.pinned (OpenSpec.ofChange fnExactEvidenceDepthWrong)

/-- 'laws.FnExactEqualEvidence': WHATEVER THE INPUT: true; the input reads as it did. -/
def fnExactEqualEvidenceSpec : ChangeSpec := { name := "fnExactEqualEvidence", fn := fun _ => fun
  | [d1, d2] => { results := [.lit (.bool true)], args := [d1, d2] }
  | _ => none }
def fnExactEqualEvidenceRow : OpenClaim := { program := "ytimjeckffegleaa", sum := "d518e97ca1c655b4ad4ca53a32b638de63d16a8f88fd3ca0bee956e2ba37ca51", func := "loop.example/g00508/laws.FnExactEqualEvidence", spec := "fnExactEqualEvidence", unfollowed := true, recurses := true, loops := true, apart := false }
def FnExactEqualEvidenceSaid : Prop := fnExactEqualEvidenceRow.holds Try.pinned (OpenSpec.ofChange fnExactEqualEvidenceSpec)

/-- ITS FALSE NEIGHBOUR: 'it returns false'. Refute it at one input. -/
def fnExactEqualEvidenceWrong : ChangeSpec := { name := "fnExactEqualEvidence", fn := fun _ => fun
  | [d1, d2] => { results := [.lit (.bool false)], args := [d1, d2] }
  | _ => none }
def FnExactEqualEvidenceWrongFalsely : Prop := fnExactEqualEvidenceRow.holds Try.pinned (OpenSpec.ofChange fnExactEqualEvidenceWrong)

/-- 'laws.FnExactEqualGoal': WHATEVER THE INPUT: true; the input reads as it did. -/
def fnExactEqualGoalSpec : ChangeSpec := { name := "fnExactEqualGoal", fn := fun _ => fun
  | [d1, d2] => { results := [.lit (.bool true)], args := [d1, d2] }
  | _ => none }
def fnExactEqualGoalRow : OpenClaim := { program := "ytimjeckffegleaa", sum := "d518e97ca1c655b4ad4ca53a32b638de63d16a8f88fd3ca0bee956e2ba37ca51", func := "loop.example/g00508/laws.FnExactEqualGoal", spec := "fnExactEqualGoal", unfollowed := true, recurses := true, loops := true, apart := false }
def FnExactEqualGoalSaid : Prop := fnExactEqualGoalRow.holds Try.pinned (OpenSpec.ofChange fnExactEqualGoalSpec)

/-- ITS FALSE NEIGHBOUR: 'it returns false'. Refute it at one input. -/
def fnExactEqualGoalWrong : ChangeSpec := { name := "fnExactEqualGoal", fn := fun _ => fun
  | [d1, d2] => { results := [.lit (.bool false)], args := [d1, d2] }
  | _ => none }
def FnExactEqualGoalWrongFalsely : Prop := fnExactEqualGoalRow.holds Try.pinned (OpenSpec.ofChange fnExactEqualGoalWrong)

/-- 'laws.FnExactIsValidEvidence': WHATEVER THE INPUT: true; the input reads as it did. -/
def fnExactIsValidEvidenceSpec : ChangeSpec := { name := "fnExactIsValidEvidence", fn := fun _ => fun
  | [d] => { results := [.lit (.bool true)], args := [d] }
  | _ => none }
def fnExactIsValidEvidenceRow : OpenClaim := { program := "ytimjeckffegleaa", sum := "d518e97ca1c655b4ad4ca53a32b638de63d16a8f88fd3ca0bee956e2ba37ca51", func := "loop.example/g00508/laws.FnExactIsValidEvidence", spec := "fnExactIsValidEvidence", unfollowed := true, recurses := true, loops := true, apart := false }
def FnExactIsValidEvidenceSaid : Prop := fnExactIsValidEvidenceRow.holds Try.pinned (OpenSpec.ofChange fnExactIsValidEvidenceSpec)

/-- ITS FALSE NEIGHBOUR: 'it returns false'. Refute it at one input. -/
def fnExactIsValidEvidenceWrong : ChangeSpec := { name := "fnExactIsValidEvidence", fn := fun _ => fun
  | [d] => { results := [.lit (.bool false)], args := [d] }
  | _ => none }
def FnExactIsValidEvidenceWrongFalsely : Prop := fnExactIsValidEvidenceRow.holds Try.pinned (OpenSpec.ofChange fnExactIsValidEvidenceWrong)

/- THE SECOND FORM. 'bulk': how many values and letters a reading holds, each counted each time it is reached (what is shared counts as often as it is met; a slice's spare places count too). A statement '..UptoSaid' is the law's where the arguments, and the package variables that the reading takes, are together of bulk at most 1048576: NARROWER than '..Said'. Prove '..Said' where nothing that the law and all that it calls make is longer than what came in: it says more and counts as full. Else prove '..UptoSaid'. A law counts once. -/
mutual
def uptoBulk {H : Type} : DataW H → Nat
  | .lit (.string bytes) => bytes.length + 1
  | .lit _ => 1
  | .nil => 1
  | .ptr d => uptoBulk d + 1
  | .slice elems spare => uptoBulkAll elems + uptoBulkAll spare + 1
  | .agg parts => uptoBulkAll parts + 1
  | .iface _ d => uptoBulk d + 1
  | .map entries => uptoBulkEntries entries + 1
  | .held _ => 1
def uptoBulkAll {H : Type} : List (DataW H) → Nat
  | [] => 0
  | d :: r => uptoBulk d + uptoBulkAll r
def uptoBulkEntries {H : Type} : List (Lit × DataW H) → Nat
  | [] => 0
  | x :: r => uptoBulkEntry x + uptoBulkEntries r
def uptoBulkEntry {H : Type} : Lit × DataW H → Nat
  | (.string bytes, d) => bytes.length + uptoBulk d + 1
  | (_, d) => uptoBulk d + 1
 end
def uptoSmall : (H : Type) → List (DataW H) → Bool := fun _ ds => decide (uptoBulkAll ds ≤ 1048576)
def OpenSpec.upto (s : _root_.Go.ChangeSpec) : _root_.Go.OpenSpec := { _root_.Go.OpenSpec.ofChange s with cond := some uptoSmall }

/-- 'laws.FnExactCoherenceErrorName', WHERE WHAT IT READS IS OF BULK AT MOST 1048576: true; the input reads as it did. -/
def fnExactCoherenceErrorNameUptoRow : OpenClaim := { program := "ytimjeckffegleaa", sum := "d518e97ca1c655b4ad4ca53a32b638de63d16a8f88fd3ca0bee956e2ba37ca51", func := "loop.example/g00508/laws.FnExactCoherenceErrorName", spec := "fnExactCoherenceErrorName", apart := false, narrowed := true }
def FnExactCoherenceErrorNameUptoSaid : Prop := fnExactCoherenceErrorNameUptoRow.holds Try.pinned (OpenSpec.upto fnExactCoherenceErrorNameSpec)

/-- 'laws.FnExactSolveCodeName', WHERE WHAT IT READS IS OF BULK AT MOST 1048576: true; the input reads as it did. -/
def fnExactSolveCodeNameUptoRow : OpenClaim := { program := "ytimjeckffegleaa", sum := "d518e97ca1c655b4ad4ca53a32b638de63d16a8f88fd3ca0bee956e2ba37ca51", func := "loop.example/g00508/laws.FnExactSolveCodeName", spec := "fnExactSolveCodeName", apart := false, narrowed := true }
def FnExactSolveCodeNameUptoSaid : Prop := fnExactSolveCodeNameUptoRow.holds Try.pinned (OpenSpec.upto fnExactSolveCodeNameSpec)

/-- 'laws.FnExactEvidenceSize', WHERE WHAT IT READS IS OF BULK AT MOST 1048576: true; the input reads as it did. -/
def fnExactEvidenceSizeUptoRow : OpenClaim := { program := "ytimjeckffegleaa", sum := "d518e97ca1c655b4ad4ca53a32b638de63d16a8f88fd3ca0bee956e2ba37ca51", func := "loop.example/g00508/laws.FnExactEvidenceSize", spec := "fnExactEvidenceSize", recurses := true, loops := true, apart := false, narrowed := true }
def FnExactEvidenceSizeUptoSaid : Prop := fnExactEvidenceSizeUptoRow.holds Try.pinned (OpenSpec.upto fnExactEvidenceSizeSpec)

/-- 'laws.FnExactEvidenceDepth', WHERE WHAT IT READS IS OF BULK AT MOST 1048576: true; the input reads as it did. -/
def fnExactEvidenceDepthUptoRow : OpenClaim := { program := "ytimjeckffegleaa", sum := "d518e97ca1c655b4ad4ca53a32b638de63d16a8f88fd3ca0bee956e2ba37ca51", func := "loop.example/g00508/laws.FnExactEvidenceDepth", spec := "fnExactEvidenceDepth", recurses := true, loops := true, apart := false, narrowed := true }
def FnExactEvidenceDepthUptoSaid : Prop := fnExactEvidenceDepthUptoRow.holds Try.pinned (OpenSpec.upto fnExactEvidenceDepthSpec)

/-- 'laws.FnExactEqualEvidence', WHERE WHAT IT READS IS OF BULK AT MOST 1048576: true; the input reads as it did. -/
def fnExactEqualEvidenceUptoRow : OpenClaim := { program := "ytimjeckffegleaa", sum := "d518e97ca1c655b4ad4ca53a32b638de63d16a8f88fd3ca0bee956e2ba37ca51", func := "loop.example/g00508/laws.FnExactEqualEvidence", spec := "fnExactEqualEvidence", unfollowed := true, recurses := true, loops := true, apart := false, narrowed := true }
def FnExactEqualEvidenceUptoSaid : Prop := fnExactEqualEvidenceUptoRow.holds Try.pinned (OpenSpec.upto fnExactEqualEvidenceSpec)

/-- 'laws.FnExactEqualGoal', WHERE WHAT IT READS IS OF BULK AT MOST 1048576: true; the input reads as it did. -/
def fnExactEqualGoalUptoRow : OpenClaim := { program := "ytimjeckffegleaa", sum := "d518e97ca1c655b4ad4ca53a32b638de63d16a8f88fd3ca0bee956e2ba37ca51", func := "loop.example/g00508/laws.FnExactEqualGoal", spec := "fnExactEqualGoal", unfollowed := true, recurses := true, loops := true, apart := false, narrowed := true }
def FnExactEqualGoalUptoSaid : Prop := fnExactEqualGoalUptoRow.holds Try.pinned (OpenSpec.upto fnExactEqualGoalSpec)

/-- 'laws.FnExactIsValidEvidence', WHERE WHAT IT READS IS OF BULK AT MOST 1048576: true; the input reads as it did. -/
def fnExactIsValidEvidenceUptoRow : OpenClaim := { program := "ytimjeckffegleaa", sum := "d518e97ca1c655b4ad4ca53a32b638de63d16a8f88fd3ca0bee956e2ba37ca51", func := "loop.example/g00508/laws.FnExactIsValidEvidence", spec := "fnExactIsValidEvidence", unfollowed := true, recurses := true, loops := true, apart := false, narrowed := true }
def FnExactIsValidEvidenceUptoSaid : Prop := fnExactIsValidEvidenceUptoRow.holds Try.pinned (OpenSpec.upto fnExactIsValidEvidenceSpec)

end Rows
end Go.Proofs.Ytimjeckffegleaa
