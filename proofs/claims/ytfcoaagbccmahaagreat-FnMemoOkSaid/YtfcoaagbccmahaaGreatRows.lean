/-
  No cell of these rows narrows 'for every input' (looked for: loops, veiled, ifaces, maps, wideKeys, modest, calm, conditions, laid).
  DERIVED. THE GIVEN ROWS OF THIS SEAT. 6 by the template 'for every input the law returns true; each argument reads behind the call as it read before'; 0 by the template 'total and deterministic' (their statements: YtfcoaagbccmahaaGreatTotals.lean).
  GIVEN WITH THE SEED: the statements are not yours to turn. If you find one false, say at which input.
  Laid BY PROGRAM, IN A SANDBOX (cutbox-rows.mjs): the forced cells as the released guide's own fill.sh prints them over the translation 7d14ebdd544d9ec6… (all of the seat's roots in one cut). By AI agents, Wed Nov 11 2026. No macro, syntax, notation, axiom, sorry.
-/
import Derived.Test.YtfcoaagbccmahaaGreatChecked
import GoSem.Claim
import GoSem.ClaimJoined
import GoSem.ClaimMapViews
import Derived.JoinedTies
import Derived.KernelRfl
namespace Go.Proofs.YtfcoaagbccmahaaGreat
/- THE CELL 'sum', in the pinned program and in every row, IS THE sha256 OF THE DUMP (.gsa) THAT YtfcoaagbccmahaaGreatProg.lean LOADS. Nothing in Lean hashes anything: it is a label: what it is worth is what the hold of that sum in a sandbox is worth. -/
noncomputable def Tryz.pinned : Pinned := { name := "ytfcoaagbccmahaagreat", sum := "7d14ebdd544d9ec6364f97d886c0a59380ff1fb2b49729ada254cc53b21da87a", checked := Tryz.checked }
namespace Rows
def none {H : Type} : Left H := { results := [], args := [] }

/-- 'laws.FnAuto': WHATEVER THE INPUT: true; the input reads as it did. -/
def fnAutoSpec : ChangeSpec := { name := "fnAuto", fn := fun _ => fun
  | [d] => { results := [.lit (.bool true)], args := [d] }
  | _ => none }
def fnAutoRow : OpenClaim := { program := "ytfcoaagbccmahaagreat", sum := "7d14ebdd544d9ec6364f97d886c0a59380ff1fb2b49729ada254cc53b21da87a", func := "loop.example/g00508/laws.FnAuto", spec := "fnAuto", unfollowed := true, recurses := true, apart := false }
def FnAutoSaid : Prop := fnAutoRow.holds Tryz.pinned (OpenSpec.ofChange fnAutoSpec)

/-- ITS FALSE NEIGHBOUR: 'it returns false'. Refute it at one input. -/
def fnAutoWrong : ChangeSpec := { name := "fnAuto", fn := fun _ => fun
  | [d] => { results := [.lit (.bool false)], args := [d] }
  | _ => none }
def FnAutoWrongFalsely : Prop := fnAutoRow.holds Tryz.pinned (OpenSpec.ofChange fnAutoWrong)

/-- 'laws.FnSolve': WHATEVER THE INPUT: true; the input reads as it did. -/
def fnSolveSpec : ChangeSpec := { name := "fnSolve", fn := fun _ => fun
  | [d] => { results := [.lit (.bool true)], args := [d] }
  | _ => none }
def fnSolveRow : OpenClaim := { program := "ytfcoaagbccmahaagreat", sum := "7d14ebdd544d9ec6364f97d886c0a59380ff1fb2b49729ada254cc53b21da87a", func := "loop.example/g00508/laws.FnSolve", spec := "fnSolve", unfollowed := true, recurses := true, apart := false }
def FnSolveSaid : Prop := fnSolveRow.holds Tryz.pinned (OpenSpec.ofChange fnSolveSpec)

/-- ITS FALSE NEIGHBOUR: 'it returns false'. Refute it at one input. -/
def fnSolveWrong : ChangeSpec := { name := "fnSolve", fn := fun _ => fun
  | [d] => { results := [.lit (.bool false)], args := [d] }
  | _ => none }
def FnSolveWrongFalsely : Prop := fnSolveRow.holds Tryz.pinned (OpenSpec.ofChange fnSolveWrong)

/-- 'laws.FnMemo': WHATEVER THE INPUT: true; the input reads as it did. -/
def fnMemoSpec : ChangeSpec := { name := "fnMemo", fn := fun _ => fun
  | [d] => { results := [.lit (.bool true)], args := [d] }
  | _ => none }
def fnMemoRow : OpenClaim := { program := "ytfcoaagbccmahaagreat", sum := "7d14ebdd544d9ec6364f97d886c0a59380ff1fb2b49729ada254cc53b21da87a", func := "loop.example/g00508/laws.FnMemo", spec := "fnMemo", unfollowed := true, recurses := true, apart := false }
def FnMemoSaid : Prop := fnMemoRow.holds Tryz.pinned (OpenSpec.ofChange fnMemoSpec)

/-- ITS FALSE NEIGHBOUR: 'it returns false'. Refute it at one input. -/
def fnMemoWrong : ChangeSpec := { name := "fnMemo", fn := fun _ => fun
  | [d] => { results := [.lit (.bool false)], args := [d] }
  | _ => none }
def FnMemoWrongFalsely : Prop := fnMemoRow.holds Tryz.pinned (OpenSpec.ofChange fnMemoWrong)

/-- 'laws.FnMemoOk': WHATEVER THE INPUT: true; the input reads as it did. -/
def fnMemoOkSpec : ChangeSpec := { name := "fnMemoOk", fn := fun _ => fun
  | [d] => { results := [.lit (.bool true)], args := [d] }
  | _ => none }
def fnMemoOkRow : OpenClaim := { program := "ytfcoaagbccmahaagreat", sum := "7d14ebdd544d9ec6364f97d886c0a59380ff1fb2b49729ada254cc53b21da87a", func := "loop.example/g00508/laws.FnMemoOk", spec := "fnMemoOk", unfollowed := true, recurses := true, apart := false }
def FnMemoOkSaid : Prop := fnMemoOkRow.holds Tryz.pinned (OpenSpec.ofChange fnMemoOkSpec)

/-- ITS FALSE NEIGHBOUR: 'it returns false'. Refute it at one input. -/
def fnMemoOkWrong : ChangeSpec := { name := "fnMemoOk", fn := fun _ => fun
  | [d] => { results := [.lit (.bool false)], args := [d] }
  | _ => none }
def FnMemoOkWrongFalsely : Prop := fnMemoOkRow.holds Tryz.pinned (OpenSpec.ofChange fnMemoOkWrong)

/-- 'laws.FnNormal': WHATEVER THE INPUT: true; the input reads as it did. -/
def fnNormalSpec : ChangeSpec := { name := "fnNormal", fn := fun _ => fun
  | [d] => { results := [.lit (.bool true)], args := [d] }
  | _ => none }
def fnNormalRow : OpenClaim := { program := "ytfcoaagbccmahaagreat", sum := "7d14ebdd544d9ec6364f97d886c0a59380ff1fb2b49729ada254cc53b21da87a", func := "loop.example/g00508/laws.FnNormal", spec := "fnNormal", unfollowed := true, recurses := true, apart := false }
def FnNormalSaid : Prop := fnNormalRow.holds Tryz.pinned (OpenSpec.ofChange fnNormalSpec)

/-- ITS FALSE NEIGHBOUR: 'it returns false'. Refute it at one input. -/
def fnNormalWrong : ChangeSpec := { name := "fnNormal", fn := fun _ => fun
  | [d] => { results := [.lit (.bool false)], args := [d] }
  | _ => none }
def FnNormalWrongFalsely : Prop := fnNormalRow.holds Tryz.pinned (OpenSpec.ofChange fnNormalWrong)

/-- 'laws.FnEqualIn': WHATEVER THE INPUT: true; the input reads as it did. -/
def fnEqualInSpec : ChangeSpec := { name := "fnEqualIn", fn := fun _ => fun
  | [d] => { results := [.lit (.bool true)], args := [d] }
  | _ => none }
def fnEqualInRow : OpenClaim := { program := "ytfcoaagbccmahaagreat", sum := "7d14ebdd544d9ec6364f97d886c0a59380ff1fb2b49729ada254cc53b21da87a", func := "loop.example/g00508/laws.FnEqualIn", spec := "fnEqualIn", unfollowed := true, recurses := true, apart := false }
def FnEqualInSaid : Prop := fnEqualInRow.holds Tryz.pinned (OpenSpec.ofChange fnEqualInSpec)

/-- ITS FALSE NEIGHBOUR: 'it returns false'. Refute it at one input. -/
def fnEqualInWrong : ChangeSpec := { name := "fnEqualIn", fn := fun _ => fun
  | [d] => { results := [.lit (.bool false)], args := [d] }
  | _ => none }
def FnEqualInWrongFalsely : Prop := fnEqualInRow.holds Tryz.pinned (OpenSpec.ofChange fnEqualInWrong)

/- THE SECOND FORM. 'bulk': how many values and letters a reading holds, each counted each time it is reached (what is shared counts as often as it is met; a slice's spare places count too). A statement '..UptoSaid' is the law's where the arguments, and the package variables that the reading takes, are together of bulk at most 1048576: NARROWER than '..Said'. Prove '..Said' where nothing that the law and all that it calls make is longer than what came in: it says more and counts as full. Else prove '..UptoSaid'. A law counts once. -/
mutual
def uptoBulk {H : Type} : DataW H → Nat
  | .lit (.string bytes) => bytes.length + 1
  | .lit _ => 1
  | .nil => 1
  | .ptr d => uptoBulk d + 1
  | .slice elems spare => uptoBulkAll elems + uptoBulkAll spare + 1
  | .agg parts => uptoBulkAll parts + 1
  | .iface _ d => uptoBulk d + 1
  | .map entries => uptoBulkEntries entries + 1
  | .held _ => 1
def uptoBulkAll {H : Type} : List (DataW H) → Nat
  | [] => 0
  | d :: r => uptoBulk d + uptoBulkAll r
def uptoBulkEntries {H : Type} : List (Lit × DataW H) → Nat
  | [] => 0
  | x :: r => uptoBulkEntry x + uptoBulkEntries r
def uptoBulkEntry {H : Type} : Lit × DataW H → Nat
  | (.string bytes, d) => bytes.length + uptoBulk d + 1
  | (_, d) => uptoBulk d + 1
 end
def uptoSmall : (H : Type) → List (DataW H) → Bool := fun _ ds => decide (uptoBulkAll ds ≤ 1048576)
def OpenSpec.upto (s : _root_.Go.ChangeSpec) : _root_.Go.OpenSpec := { _root_.Go.OpenSpec.ofChange s with cond := some uptoSmall }

/-- 'laws.FnAuto', WHERE WHAT IT READS IS OF BULK AT MOST 1048576: true; the input reads as it did. -/
def fnAutoUptoRow : OpenClaim := { program := "ytfcoaagbccmahaagreat", sum := "7d14ebdd544d9ec6364f97d886c0a59380ff1fb2b49729ada254cc53b21da87a", func := "loop.example/g00508/laws.FnAuto", spec := "fnAuto", unfollowed := true, recurses := true, apart := false, narrowed := true }
def FnAutoUptoSaid : Prop := fnAutoUptoRow.holds Tryz.pinned (OpenSpec.upto fnAutoSpec)

/-- 'laws.FnSolve', WHERE WHAT IT READS IS OF BULK AT MOST 1048576: true; the input reads as it did. -/
def fnSolveUptoRow : OpenClaim := { program := "ytfcoaagbccmahaagreat", sum := "7d14ebdd544d9ec6364f97d886c0a59380ff1fb2b49729ada254cc53b21da87a", func := "loop.example/g00508/laws.FnSolve", spec := "fnSolve", unfollowed := true, recurses := true, apart := false, narrowed := true }
def FnSolveUptoSaid : Prop := fnSolveUptoRow.holds Tryz.pinned (OpenSpec.upto fnSolveSpec)

/-- 'laws.FnMemo', WHERE WHAT IT READS IS OF BULK AT MOST 1048576: true; the input reads as it did. -/
def fnMemoUptoRow : OpenClaim := { program := "ytfcoaagbccmahaagreat", sum := "7d14ebdd544d9ec6364f97d886c0a59380ff1fb2b49729ada254cc53b21da87a", func := "loop.example/g00508/laws.FnMemo", spec := "fnMemo", unfollowed := true, recurses := true, apart := false, narrowed := true }
def FnMemoUptoSaid : Prop := fnMemoUptoRow.holds Tryz.pinned (OpenSpec.upto fnMemoSpec)

/-- 'laws.FnMemoOk', WHERE WHAT IT READS IS OF BULK AT MOST 1048576: true; the input reads as it did. -/
def fnMemoOkUptoRow : OpenClaim := { program := "ytfcoaagbccmahaagreat", sum := "7d14ebdd544d9ec6364f97d886c0a59380ff1fb2b49729ada254cc53b21da87a", func := "loop.example/g00508/laws.FnMemoOk", spec := "fnMemoOk", unfollowed := true, recurses := true, apart := false, narrowed := true }
def FnMemoOkUptoSaid : Prop := fnMemoOkUptoRow.holds Tryz.pinned (OpenSpec.upto fnMemoOkSpec)

/-- 'laws.FnNormal', WHERE WHAT IT READS IS OF BULK AT MOST 1048576: true; the input reads as it did. -/
def fnNormalUptoRow : OpenClaim := { program := "ytfcoaagbccmahaagreat", sum := "7d14ebdd544d9ec6364f97d886c0a59380ff1fb2b49729ada254cc53b21da87a", func := "loop.example/g00508/laws.FnNormal", spec := "fnNormal", unfollowed := true, recurses := true, apart := false, narrowed := true }
def FnNormalUptoSaid : Prop := fnNormalUptoRow.holds Tryz.pinned (OpenSpec.upto fnNormalSpec)

/-- 'laws.FnEqualIn', WHERE WHAT IT READS IS OF BULK AT MOST 1048576: true; the input reads as it did. -/
def fnEqualInUptoRow : OpenClaim := { program := "ytfcoaagbccmahaagreat", sum := "7d14ebdd544d9ec6364f97d886c0a59380ff1fb2b49729ada254cc53b21da87a", func := "loop.example/g00508/laws.FnEqualIn", spec := "fnEqualIn", unfollowed := true, recurses := true, apart := false, narrowed := true }
def FnEqualInUptoSaid : Prop := fnEqualInUptoRow.holds Tryz.pinned (OpenSpec.upto fnEqualInSpec)

end Rows
end Go.Proofs.YtfcoaagbccmahaaGreat
