/-
  NARROWER THAN 'FOR EVERY INPUT', by the rows' own cells (each row's printed sentence says how): FnExactBoundIsSmaller: loops · FnExactApplySupertraits: loops · FnExactFindAssumption: loops · FnExactProjectionsIn: loops · FnExactCacheIndex: loops · FnExactFormatGoal: loops · FnExactAssocTypeIsCovered: loops · FnExactSatisfiesTermination: loops.
  DERIVED. THE GIVEN ROWS OF THIS SEAT. 12 by the template 'for every input the law returns true; each argument reads behind the call as it read before'; 0 by the template 'total and deterministic' (their statements: YtoifjkggpanceaaTotals.lean).
  GIVEN WITH THE SEED: the statements are not yours to turn. If you find one false, say at which input.
  Laid BY PROGRAM, IN A SANDBOX (cutbox-rows.mjs): the forced cells as the released guide's own fill.sh prints them over the translation c2aa78a78d531f24… (all of the seat's roots in one cut). By AI agents, Wed Nov 11 2026. No macro, syntax, notation, axiom, sorry.
-/
import Derived.Test.YtoifjkggpanceaaChecked
import GoSem.Claim
import GoSem.ClaimJoined
import GoSem.ClaimMapViews
import Derived.JoinedTies
import Derived.KernelRfl
namespace Go.Proofs.Ytoifjkggpanceaa
/- THE CELL 'sum', in the pinned program and in every row, IS THE sha256 OF THE DUMP (.gsa) THAT YtoifjkggpanceaaProg.lean LOADS. Nothing in Lean hashes anything: it is a label: what it is worth is what the hold of that sum in a sandbox is worth. -/
noncomputable def Try.pinned : Pinned := { name := "ytoifjkggpanceaa", sum := "c2aa78a78d531f24a028cde9311a101b1fc3ffcf3e04a376e7393a1db0a117b6", checked := Try.checked }
namespace Rows
def none {H : Type} : Left H := { results := [], args := [] }

/-- 'laws.FnExactBoundIsSmaller': WHATEVER THE INPUT: true; the input reads as it did. -/
def fnExactBoundIsSmallerSpec : ChangeSpec := { name := "fnExactBoundIsSmaller", fn := fun _ => fun
  | [d1, d2] => { results := [.lit (.bool true)], args := [d1, d2] }
  | _ => none }
def fnExactBoundIsSmallerRow : OpenClaim := { program := "ytoifjkggpanceaa", sum := "c2aa78a78d531f24a028cde9311a101b1fc3ffcf3e04a376e7393a1db0a117b6", func := "loop.example/g00508/laws.FnExactBoundIsSmaller", spec := "fnExactBoundIsSmaller", unfollowed := true, recurses := true, loops := true, apart := false }
def FnExactBoundIsSmallerSaid : Prop := fnExactBoundIsSmallerRow.holds Try.pinned (OpenSpec.ofChange fnExactBoundIsSmallerSpec)

/-- ITS FALSE NEIGHBOUR: 'it returns false'. Refute it at one input. -/
def fnExactBoundIsSmallerWrong : ChangeSpec := { name := "fnExactBoundIsSmaller", fn := fun _ => fun
  | [d1, d2] => { results := [.lit (.bool false)], args := [d1, d2] }
  | _ => none }
def FnExactBoundIsSmallerWrongFalsely : Prop := fnExactBoundIsSmallerRow.holds Try.pinned (OpenSpec.ofChange fnExactBoundIsSmallerWrong)

/-- 'laws.FnExactApplySupertraits': WHATEVER THE INPUT: true; the input reads as it did. -/
def fnExactApplySupertraitsSpec : ChangeSpec := { name := "fnExactApplySupertraits", fn := fun _ => fun
  | [d1, d2] => { results := [.lit (.bool true)], args := [d1, d2] }
  | _ => none }
def fnExactApplySupertraitsRow : OpenClaim := { program := "ytoifjkggpanceaa", sum := "c2aa78a78d531f24a028cde9311a101b1fc3ffcf3e04a376e7393a1db0a117b6", func := "loop.example/g00508/laws.FnExactApplySupertraits", spec := "fnExactApplySupertraits", recurses := true, loops := true, apart := false }
def FnExactApplySupertraitsSaid : Prop := fnExactApplySupertraitsRow.holds Try.pinned (OpenSpec.ofChange fnExactApplySupertraitsSpec)

/-- ITS FALSE NEIGHBOUR: 'it returns false'. Refute it at one input. -/
def fnExactApplySupertraitsWrong : ChangeSpec := { name := "fnExactApplySupertraits", fn := fun _ => fun
  | [d1, d2] => { results := [.lit (.bool false)], args := [d1, d2] }
  | _ => none }
def FnExactApplySupertraitsWrongFalsely : Prop := fnExactApplySupertraitsRow.holds Try.pinned (OpenSpec.ofChange fnExactApplySupertraitsWrong)

/-- 'laws.FnSupers': WHATEVER THE INPUT: true; the input reads as it did. -/
def fnSupersSpec : ChangeSpec := { name := "fnSupers", fn := fun _ => fun
  | [d] => { results := [.lit (.bool true)], args := [d] }
  | _ => none }
def fnSupersRow : OpenClaim := { program := "ytoifjkggpanceaa", sum := "c2aa78a78d531f24a028cde9311a101b1fc3ffcf3e04a376e7393a1db0a117b6", func := "loop.example/g00508/laws.FnSupers", spec := "fnSupers", recurses := true, apart := false }
def FnSupersSaid : Prop := fnSupersRow.holds Try.pinned (OpenSpec.ofChange fnSupersSpec)

/-- ITS FALSE NEIGHBOUR: 'it returns false'. Refute it at one input. -/
def fnSupersWrong : ChangeSpec := { name := "fnSupers", fn := fun _ => fun
  | [d] => { results := [.lit (.bool false)], args := [d] }
  | _ => none }
def FnSupersWrongFalsely : Prop := fnSupersRow.holds Try.pinned (OpenSpec.ofChange fnSupersWrong)

/-- 'laws.FnExactFindAssumption': WHATEVER THE INPUT: true; the input reads as it did. -/
def fnExactFindAssumptionSpec : ChangeSpec := { name := "fnExactFindAssumption", fn := fun _ => fun
  | [d1, d2] => { results := [.lit (.bool true)], args := [d1, d2] }
  | _ => none }
def fnExactFindAssumptionRow : OpenClaim := { program := "ytoifjkggpanceaa", sum := "c2aa78a78d531f24a028cde9311a101b1fc3ffcf3e04a376e7393a1db0a117b6", func := "loop.example/g00508/laws.FnExactFindAssumption", spec := "fnExactFindAssumption", unfollowed := true, recurses := true, loops := true, apart := false }
def FnExactFindAssumptionSaid : Prop := fnExactFindAssumptionRow.holds Try.pinned (OpenSpec.ofChange fnExactFindAssumptionSpec)

/-- ITS FALSE NEIGHBOUR: 'it returns false'. Refute it at one input. -/
def fnExactFindAssumptionWrong : ChangeSpec := { name := "fnExactFindAssumption", fn := fun _ => fun
  | [d1, d2] => { results := [.lit (.bool false)], args := [d1, d2] }
  | _ => none }
def FnExactFindAssumptionWrongFalsely : Prop := fnExactFindAssumptionRow.holds Try.pinned (OpenSpec.ofChange fnExactFindAssumptionWrong)

/-- 'laws.FnExactProjectionsIn': WHATEVER THE INPUT: true; the input reads as it did. -/
def fnExactProjectionsInSpec : ChangeSpec := { name := "fnExactProjectionsIn", fn := fun _ => fun
  | [d] => { results := [.lit (.bool true)], args := [d] }
  | _ => none }
def fnExactProjectionsInRow : OpenClaim := { program := "ytoifjkggpanceaa", sum := "c2aa78a78d531f24a028cde9311a101b1fc3ffcf3e04a376e7393a1db0a117b6", func := "loop.example/g00508/laws.FnExactProjectionsIn", spec := "fnExactProjectionsIn", unfollowed := true, recurses := true, loops := true, apart := false }
def FnExactProjectionsInSaid : Prop := fnExactProjectionsInRow.holds Try.pinned (OpenSpec.ofChange fnExactProjectionsInSpec)

/-- ITS FALSE NEIGHBOUR: 'it returns false'. Refute it at one input. -/
def fnExactProjectionsInWrong : ChangeSpec := { name := "fnExactProjectionsIn", fn := fun _ => fun
  | [d] => { results := [.lit (.bool false)], args := [d] }
  | _ => none }
def FnExactProjectionsInWrongFalsely : Prop := fnExactProjectionsInRow.holds Try.pinned (OpenSpec.ofChange fnExactProjectionsInWrong)

/-- 'laws.FnOwn': WHATEVER THE INPUT: true; the input reads as it did. -/
def fnOwnSpec : ChangeSpec := { name := "fnOwn", fn := fun _ => fun
  | [d] => { results := [.lit (.bool true)], args := [d] }
  | _ => none }
def fnOwnRow : OpenClaim := { program := "ytoifjkggpanceaa", sum := "c2aa78a78d531f24a028cde9311a101b1fc3ffcf3e04a376e7393a1db0a117b6", func := "loop.example/g00508/laws.FnOwn", spec := "fnOwn", unfollowed := true, recurses := true, apart := false }
def FnOwnSaid : Prop := fnOwnRow.holds Try.pinned (OpenSpec.ofChange fnOwnSpec)

/-- ITS FALSE NEIGHBOUR: 'it returns false'. Refute it at one input. -/
def fnOwnWrong : ChangeSpec := { name := "fnOwn", fn := fun _ => fun
  | [d] => { results := [.lit (.bool false)], args := [d] }
  | _ => none }
def FnOwnWrongFalsely : Prop := fnOwnRow.holds Try.pinned (OpenSpec.ofChange fnOwnWrong)

/-- 'laws.FnExactCacheIndex': WHATEVER THE INPUT: true; the input reads as it did. -/
def fnExactCacheIndexSpec : ChangeSpec := { name := "fnExactCacheIndex", fn := fun _ => fun
  | [d1, d2] => { results := [.lit (.bool true)], args := [d1, d2] }
  | _ => none }
def fnExactCacheIndexRow : OpenClaim := { program := "ytoifjkggpanceaa", sum := "c2aa78a78d531f24a028cde9311a101b1fc3ffcf3e04a376e7393a1db0a117b6", func := "loop.example/g00508/laws.FnExactCacheIndex", spec := "fnExactCacheIndex", unfollowed := true, recurses := true, loops := true, apart := false }
def FnExactCacheIndexSaid : Prop := fnExactCacheIndexRow.holds Try.pinned (OpenSpec.ofChange fnExactCacheIndexSpec)

/-- ITS FALSE NEIGHBOUR: 'it returns false'. Refute it at one input. -/
def fnExactCacheIndexWrong : ChangeSpec := { name := "fnExactCacheIndex", fn := fun _ => fun
  | [d1, d2] => { results := [.lit (.bool false)], args := [d1, d2] }
  | _ => none }
def FnExactCacheIndexWrongFalsely : Prop := fnExactCacheIndexRow.holds Try.pinned (OpenSpec.ofChange fnExactCacheIndexWrong)

/-- 'laws.FnEnds': WHATEVER THE INPUT: true; the input reads as it did. -/
def fnEndsSpec : ChangeSpec := { name := "fnEnds", fn := fun _ => fun
  | [d] => { results := [.lit (.bool true)], args := [d] }
  | _ => none }
def fnEndsRow : OpenClaim := { program := "ytoifjkggpanceaa", sum := "c2aa78a78d531f24a028cde9311a101b1fc3ffcf3e04a376e7393a1db0a117b6", func := "loop.example/g00508/laws.FnEnds", spec := "fnEnds", unfollowed := true, recurses := true, apart := false }
def FnEndsSaid : Prop := fnEndsRow.holds Try.pinned (OpenSpec.ofChange fnEndsSpec)

/-- ITS FALSE NEIGHBOUR: 'it returns false'. Refute it at one input. -/
def fnEndsWrong : ChangeSpec := { name := "fnEnds", fn := fun _ => fun
  | [d] => { results := [.lit (.bool false)], args := [d] }
  | _ => none }
def FnEndsWrongFalsely : Prop := fnEndsRow.holds Try.pinned (OpenSpec.ofChange fnEndsWrong)

/-- 'laws.FnExactFormatGoal': WHATEVER THE INPUT: true; the input reads as it did. -/
def fnExactFormatGoalSpec : ChangeSpec := { name := "fnExactFormatGoal", fn := fun _ => fun
  | [d] => { results := [.lit (.bool true)], args := [d] }
  | _ => none }
def fnExactFormatGoalRow : OpenClaim := { program := "ytoifjkggpanceaa", sum := "c2aa78a78d531f24a028cde9311a101b1fc3ffcf3e04a376e7393a1db0a117b6", func := "loop.example/g00508/laws.FnExactFormatGoal", spec := "fnExactFormatGoal", inPlace := ["internal/bytealg.IndexByteString", "internal/abi.NoEscape"], unfollowed := true, recurses := true, loops := true, apart := false }
def FnExactFormatGoalSaid : Prop := fnExactFormatGoalRow.holds Try.pinned (OpenSpec.ofChange fnExactFormatGoalSpec)

/-- ITS FALSE NEIGHBOUR: 'it returns false'. Refute it at one input. -/
def fnExactFormatGoalWrong : ChangeSpec := { name := "fnExactFormatGoal", fn := fun _ => fun
  | [d] => { results := [.lit (.bool false)], args := [d] }
  | _ => none }
def FnExactFormatGoalWrongFalsely : Prop := fnExactFormatGoalRow.holds Try.pinned (OpenSpec.ofChange fnExactFormatGoalWrong)

/-- 'laws.FnExactAssocTypeIsCovered': WHATEVER THE INPUT: true; the input reads as it did. -/
def fnExactAssocTypeIsCoveredSpec : ChangeSpec := { name := "fnExactAssocTypeIsCovered", fn := fun _ => fun
  | [d] => { results := [.lit (.bool true)], args := [d] }
  | _ => none }
def fnExactAssocTypeIsCoveredRow : OpenClaim := { program := "ytoifjkggpanceaa", sum := "c2aa78a78d531f24a028cde9311a101b1fc3ffcf3e04a376e7393a1db0a117b6", func := "loop.example/g00508/laws.FnExactAssocTypeIsCovered", spec := "fnExactAssocTypeIsCovered", unfollowed := true, recurses := true, loops := true, apart := false }
def FnExactAssocTypeIsCoveredSaid : Prop := fnExactAssocTypeIsCoveredRow.holds Try.pinned (OpenSpec.ofChange fnExactAssocTypeIsCoveredSpec)

/-- ITS FALSE NEIGHBOUR: 'it returns false'. Refute it at one input. -/
def fnExactAssocTypeIsCoveredWrong : ChangeSpec := { name := "fnExactAssocTypeIsCovered", fn := fun _ => fun
  | [d] => { results := [.lit (.bool false)], args := [d] }
  | _ => none }
def FnExactAssocTypeIsCoveredWrongFalsely : Prop := fnExactAssocTypeIsCoveredRow.holds Try.pinned (OpenSpec.ofChange fnExactAssocTypeIsCoveredWrong)

/-- 'laws.FnExactSatisfiesTermination': WHATEVER THE INPUT: true; the input reads as it did. -/
def fnExactSatisfiesTerminationSpec : ChangeSpec := { name := "fnExactSatisfiesTermination", fn := fun _ => fun
  | [d] => { results := [.lit (.bool true)], args := [d] }
  | _ => none }
def fnExactSatisfiesTerminationRow : OpenClaim := { program := "ytoifjkggpanceaa", sum := "c2aa78a78d531f24a028cde9311a101b1fc3ffcf3e04a376e7393a1db0a117b6", func := "loop.example/g00508/laws.FnExactSatisfiesTermination", spec := "fnExactSatisfiesTermination", unfollowed := true, recurses := true, loops := true, apart := false }
def FnExactSatisfiesTerminationSaid : Prop := fnExactSatisfiesTerminationRow.holds Try.pinned (OpenSpec.ofChange fnExactSatisfiesTerminationSpec)

/-- ITS FALSE NEIGHBOUR: 'it returns false'. Refute it at one input. -/
def fnExactSatisfiesTerminationWrong : ChangeSpec := { name := "fnExactSatisfiesTermination", fn := fun _ => fun
  | [d] => { results := [.lit (.bool false)], args := [d] }
  | _ => none }
def FnExactSatisfiesTerminationWrongFalsely : Prop := fnExactSatisfiesTerminationRow.holds Try.pinned (OpenSpec.ofChange fnExactSatisfiesTerminationWrong)

/-- 'laws.FnExactParseGoal': WHATEVER THE INPUT: true; the input reads as it did. -/
def fnExactParseGoalSpec : ChangeSpec := { name := "fnExactParseGoal", fn := fun _ => fun
  | [d] => { results := [.lit (.bool true)], args := [d] }
  | _ => none }
def fnExactParseGoalRow : OpenClaim := { program := "ytoifjkggpanceaa", sum := "c2aa78a78d531f24a028cde9311a101b1fc3ffcf3e04a376e7393a1db0a117b6", func := "loop.example/g00508/laws.FnExactParseGoal", spec := "fnExactParseGoal", inPlace := ["internal/bytealg.IndexByteString", "internal/abi.NoEscape"], unfollowed := true, recurses := true, apart := false }
def FnExactParseGoalSaid : Prop := fnExactParseGoalRow.holds Try.pinned (OpenSpec.ofChange fnExactParseGoalSpec)

/-- ITS FALSE NEIGHBOUR: 'it returns false'. Refute it at one input. -/
def fnExactParseGoalWrong : ChangeSpec := { name := "fnExactParseGoal", fn := fun _ => fun
  | [d] => { results := [.lit (.bool false)], args := [d] }
  | _ => none }
def FnExactParseGoalWrongFalsely : Prop := fnExactParseGoalRow.holds Try.pinned (OpenSpec.ofChange fnExactParseGoalWrong)

/- THE SECOND FORM. 'bulk': how many values and letters a reading holds, each counted each time it is reached (what is shared counts as often as it is met; a slice's spare places count too). A statement '..UptoSaid' is the law's where the arguments, and the package variables that the reading takes, are together of bulk at most 1048576: NARROWER than '..Said'. Prove '..Said' where nothing that the law and all that it calls make is longer than what came in: it says more and counts as full. Else prove '..UptoSaid'. A law counts once. -/
mutual
def uptoBulk {H : Type} : DataW H → Nat
  | .lit (.string bytes) => bytes.length + 1
  | .lit _ => 1
  | .nil => 1
  | .ptr d => uptoBulk d + 1
  | .slice elems spare => uptoBulkAll elems + uptoBulkAll spare + 1
  | .agg parts => uptoBulkAll parts + 1
  | .iface _ d => uptoBulk d + 1
  | .map entries => uptoBulkEntries entries + 1
  | .held _ => 1
def uptoBulkAll {H : Type} : List (DataW H) → Nat
  | [] => 0
  | d :: r => uptoBulk d + uptoBulkAll r
def uptoBulkEntries {H : Type} : List (Lit × DataW H) → Nat
  | [] => 0
  | x :: r => uptoBulkEntry x + uptoBulkEntries r
def uptoBulkEntry {H : Type} : Lit × DataW H → Nat
  | (.string bytes, d) => bytes.length + uptoBulk d + 1
  | (_, d) => uptoBulk d + 1
 end
def uptoSmall : (H : Type) → List (DataW H) → Bool := fun _ ds => decide (uptoBulkAll ds ≤ 1048576)
def OpenSpec.upto (s : _root_.Go.ChangeSpec) : _root_.Go.OpenSpec := { _root_.Go.OpenSpec.ofChange s with cond := some uptoSmall }

/-- 'laws.FnExactBoundIsSmaller', WHERE WHAT IT READS IS OF BULK AT MOST 1048576: true; the input reads as it did. -/
def fnExactBoundIsSmallerUptoRow : OpenClaim := { program := "ytoifjkggpanceaa", sum := "c2aa78a78d531f24a028cde9311a101b1fc3ffcf3e04a376e7393a1db0a117b6", func := "loop.example/g00508/laws.FnExactBoundIsSmaller", spec := "fnExactBoundIsSmaller", unfollowed := true, recurses := true, loops := true, apart := false, narrowed := true }
def FnExactBoundIsSmallerUptoSaid : Prop := fnExactBoundIsSmallerUptoRow.holds Try.pinned (OpenSpec.upto fnExactBoundIsSmallerSpec)

/-- 'laws.FnExactApplySupertraits', WHERE WHAT IT READS IS OF BULK AT MOST 1048576: true; the input reads as it did. -/
def fnExactApplySupertraitsUptoRow : OpenClaim := { program := "ytoifjkggpanceaa", sum := "c2aa78a78d531f24a028cde9311a101b1fc3ffcf3e04a376e7393a1db0a117b6", func := "loop.example/g00508/laws.FnExactApplySupertraits", spec := "fnExactApplySupertraits", recurses := true, loops := true, apart := false, narrowed := true }
def FnExactApplySupertraitsUptoSaid : Prop := fnExactApplySupertraitsUptoRow.holds Try.pinned (OpenSpec.upto fnExactApplySupertraitsSpec)

/-- 'laws.FnSupers', WHERE WHAT IT READS IS OF BULK AT MOST 1048576: true; the input reads as it did. -/
def fnSupersUptoRow : OpenClaim := { program := "ytoifjkggpanceaa", sum := "c2aa78a78d531f24a028cde9311a101b1fc3ffcf3e04a376e7393a1db0a117b6", func := "loop.example/g00508/laws.FnSupers", spec := "fnSupers", recurses := true, apart := false, narrowed := true }
def FnSupersUptoSaid : Prop := fnSupersUptoRow.holds Try.pinned (OpenSpec.upto fnSupersSpec)

/-- 'laws.FnExactFindAssumption', WHERE WHAT IT READS IS OF BULK AT MOST 1048576: true; the input reads as it did. -/
def fnExactFindAssumptionUptoRow : OpenClaim := { program := "ytoifjkggpanceaa", sum := "c2aa78a78d531f24a028cde9311a101b1fc3ffcf3e04a376e7393a1db0a117b6", func := "loop.example/g00508/laws.FnExactFindAssumption", spec := "fnExactFindAssumption", unfollowed := true, recurses := true, loops := true, apart := false, narrowed := true }
def FnExactFindAssumptionUptoSaid : Prop := fnExactFindAssumptionUptoRow.holds Try.pinned (OpenSpec.upto fnExactFindAssumptionSpec)

/-- 'laws.FnExactProjectionsIn', WHERE WHAT IT READS IS OF BULK AT MOST 1048576: true; the input reads as it did. -/
def fnExactProjectionsInUptoRow : OpenClaim := { program := "ytoifjkggpanceaa", sum := "c2aa78a78d531f24a028cde9311a101b1fc3ffcf3e04a376e7393a1db0a117b6", func := "loop.example/g00508/laws.FnExactProjectionsIn", spec := "fnExactProjectionsIn", unfollowed := true, recurses := true, loops := true, apart := false, narrowed := true }
def FnExactProjectionsInUptoSaid : Prop := fnExactProjectionsInUptoRow.holds Try.pinned (OpenSpec.upto fnExactProjectionsInSpec)

/-- 'laws.FnOwn', WHERE WHAT IT READS IS OF BULK AT MOST 1048576: true; the input reads as it did. -/
def fnOwnUptoRow : OpenClaim := { program := "ytoifjkggpanceaa", sum := "c2aa78a78d531f24a028cde9311a101b1fc3ffcf3e04a376e7393a1db0a117b6", func := "loop.example/g00508/laws.FnOwn", spec := "fnOwn", unfollowed := true, recurses := true, apart := false, narrowed := true }
def FnOwnUptoSaid : Prop := fnOwnUptoRow.holds Try.pinned (OpenSpec.upto fnOwnSpec)

/-- 'laws.FnExactCacheIndex', WHERE WHAT IT READS IS OF BULK AT MOST 1048576: true; the input reads as it did. -/
def fnExactCacheIndexUptoRow : OpenClaim := { program := "ytoifjkggpanceaa", sum := "c2aa78a78d531f24a028cde9311a101b1fc3ffcf3e04a376e7393a1db0a117b6", func := "loop.example/g00508/laws.FnExactCacheIndex", spec := "fnExactCacheIndex", unfollowed := true, recurses := true, loops := true, apart := false, narrowed := true }
def FnExactCacheIndexUptoSaid : Prop := fnExactCacheIndexUptoRow.holds Try.pinned (OpenSpec.upto fnExactCacheIndexSpec)

/-- 'laws.FnEnds', WHERE WHAT IT READS IS OF BULK AT MOST 1048576: true; the input reads as it did. -/
def fnEndsUptoRow : OpenClaim := { program := "ytoifjkggpanceaa", sum := "c2aa78a78d531f24a028cde9311a101b1fc3ffcf3e04a376e7393a1db0a117b6", func := "loop.example/g00508/laws.FnEnds", spec := "fnEnds", unfollowed := true, recurses := true, apart := false, narrowed := true }
def FnEndsUptoSaid : Prop := fnEndsUptoRow.holds Try.pinned (OpenSpec.upto fnEndsSpec)

/-- 'laws.FnExactFormatGoal', WHERE WHAT IT READS IS OF BULK AT MOST 1048576: true; the input reads as it did. -/
def fnExactFormatGoalUptoRow : OpenClaim := { program := "ytoifjkggpanceaa", sum := "c2aa78a78d531f24a028cde9311a101b1fc3ffcf3e04a376e7393a1db0a117b6", func := "loop.example/g00508/laws.FnExactFormatGoal", spec := "fnExactFormatGoal", inPlace := ["internal/bytealg.IndexByteString", "internal/abi.NoEscape"], unfollowed := true, recurses := true, loops := true, apart := false, narrowed := true }
def FnExactFormatGoalUptoSaid : Prop := fnExactFormatGoalUptoRow.holds Try.pinned (OpenSpec.upto fnExactFormatGoalSpec)

/-- 'laws.FnExactAssocTypeIsCovered', WHERE WHAT IT READS IS OF BULK AT MOST 1048576: true; the input reads as it did. -/
def fnExactAssocTypeIsCoveredUptoRow : OpenClaim := { program := "ytoifjkggpanceaa", sum := "c2aa78a78d531f24a028cde9311a101b1fc3ffcf3e04a376e7393a1db0a117b6", func := "loop.example/g00508/laws.FnExactAssocTypeIsCovered", spec := "fnExactAssocTypeIsCovered", unfollowed := true, recurses := true, loops := true, apart := false, narrowed := true }
def FnExactAssocTypeIsCoveredUptoSaid : Prop := fnExactAssocTypeIsCoveredUptoRow.holds Try.pinned (OpenSpec.upto fnExactAssocTypeIsCoveredSpec)

/-- 'laws.FnExactSatisfiesTermination', WHERE WHAT IT READS IS OF BULK AT MOST 1048576: true; the input reads as it did. -/
def fnExactSatisfiesTerminationUptoRow : OpenClaim := { program := "ytoifjkggpanceaa", sum := "c2aa78a78d531f24a028cde9311a101b1fc3ffcf3e04a376e7393a1db0a117b6", func := "loop.example/g00508/laws.FnExactSatisfiesTermination", spec := "fnExactSatisfiesTermination", unfollowed := true, recurses := true, loops := true, apart := false, narrowed := true }
def FnExactSatisfiesTerminationUptoSaid : Prop := fnExactSatisfiesTerminationUptoRow.holds Try.pinned (OpenSpec.upto fnExactSatisfiesTerminationSpec)

/-- 'laws.FnExactParseGoal', WHERE WHAT IT READS IS OF BULK AT MOST 1048576: true; the input reads as it did. -/
def fnExactParseGoalUptoRow : OpenClaim := { program := "ytoifjkggpanceaa", sum := "c2aa78a78d531f24a028cde9311a101b1fc3ffcf3e04a376e7393a1db0a117b6", func := "loop.example/g00508/laws.FnExactParseGoal", spec := "fnExactParseGoal", inPlace := ["internal/bytealg.IndexByteString", "internal/abi.NoEscape"], unfollowed := true, recurses := true, apart := false, narrowed := true }
def FnExactParseGoalUptoSaid : Prop := fnExactParseGoalUptoRow.holds Try.pinned (OpenSpec.upto fnExactParseGoalSpec)

end Rows
end Go.Proofs.Ytoifjkggpanceaa
