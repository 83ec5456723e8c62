/-
  NARROWER THAN 'FOR EVERY INPUT', by the rows' own cells (each row's printed sentence says how): FnExactSatisfiesOrphanRule: loops · FnExactSelectInstance: loops · FnExactAllSupertraits: loops · FnExactSupertraitPath: loops · FnExactOrphanInstances: loops · FnExactAssocTypeOf: loops · FnExactAssumptions: loops · FnExactCandidateInstances: loops · FnExactLessSpecificInstances: loops · FnExactMoreSpecificInstances: loops · FnExactFindTrait: loops · FnExactFindFunction: loops.
  DERIVED. THE GIVEN ROWS OF THIS SEAT. 12 by the template 'for every input the law returns true; each argument reads behind the call as it read before'; 0 by the template 'total and deterministic' (their statements: YtnakkelglbcecaaGreatTotals.lean).
  GIVEN WITH THE SEED: the statements are not yours to turn. If you find one false, say at which input.
  Laid BY PROGRAM, IN A SANDBOX (cutbox-rows.mjs): the forced cells as the released guide's own fill.sh prints them over the translation 0580edf17534ace0… (all of the seat's roots in one cut). By AI agents, Wed Nov 11 2026. No macro, syntax, notation, axiom, sorry.
-/
import Derived.Test.YtnakkelglbcecaaGreatChecked
import GoSem.Claim
import GoSem.ClaimJoined
import GoSem.ClaimMapViews
import Derived.JoinedTies
import Derived.KernelRfl
namespace Go.Proofs.YtnakkelglbcecaaGreat
/- THE CELL 'sum', in the pinned program and in every row, IS THE sha256 OF THE DUMP (.gsa) THAT YtnakkelglbcecaaGreatProg.lean LOADS. Nothing in Lean hashes anything: it is a label: what it is worth is what the hold of that sum in a sandbox is worth. -/
noncomputable def Tryz.pinned : Pinned := { name := "ytnakkelglbcecaagreat", sum := "0580edf17534ace01c19d1bb3f0ba815d4f51aa985efc0bf3fa0c9f911055ed4", checked := Tryz.checked }
namespace Rows
def none {H : Type} : Left H := { results := [], args := [] }

/-- 'laws.FnExactSatisfiesOrphanRule': WHATEVER THE INPUT: true; the input reads as it did. -/
def fnExactSatisfiesOrphanRuleSpec : ChangeSpec := { name := "fnExactSatisfiesOrphanRule", fn := fun _ => fun
  | [d1, d2] => { results := [.lit (.bool true)], args := [d1, d2] }
  | _ => none }
def fnExactSatisfiesOrphanRuleRow : OpenClaim := { program := "ytnakkelglbcecaagreat", sum := "0580edf17534ace01c19d1bb3f0ba815d4f51aa985efc0bf3fa0c9f911055ed4", func := "loop.example/g00508/laws.FnExactSatisfiesOrphanRule", spec := "fnExactSatisfiesOrphanRule", recurses := true, loops := true, apart := false }
def FnExactSatisfiesOrphanRuleSaid : Prop := fnExactSatisfiesOrphanRuleRow.holds Tryz.pinned (OpenSpec.ofChange fnExactSatisfiesOrphanRuleSpec)

/-- ITS FALSE NEIGHBOUR: 'it returns false'. Refute it at one input. -/
def fnExactSatisfiesOrphanRuleWrong : ChangeSpec := { name := "fnExactSatisfiesOrphanRule", fn := fun _ => fun
  | [d1, d2] => { results := [.lit (.bool false)], args := [d1, d2] }
  | _ => none }
def FnExactSatisfiesOrphanRuleWrongFalsely : Prop := fnExactSatisfiesOrphanRuleRow.holds Tryz.pinned (OpenSpec.ofChange fnExactSatisfiesOrphanRuleWrong)

/-- 'laws.FnExactSelectInstance': WHATEVER THE INPUT: true; the input reads as it did. -/
def fnExactSelectInstanceSpec : ChangeSpec := { name := "fnExactSelectInstance", fn := fun _ => fun
  | [d1, d2] => { results := [.lit (.bool true)], args := [d1, d2] }
  | _ => none }
def fnExactSelectInstanceRow : OpenClaim := { program := "ytnakkelglbcecaagreat", sum := "0580edf17534ace01c19d1bb3f0ba815d4f51aa985efc0bf3fa0c9f911055ed4", func := "loop.example/g00508/laws.FnExactSelectInstance", spec := "fnExactSelectInstance", unfollowed := true, recurses := true, loops := true, apart := false }
def FnExactSelectInstanceSaid : Prop := fnExactSelectInstanceRow.holds Tryz.pinned (OpenSpec.ofChange fnExactSelectInstanceSpec)

/-- ITS FALSE NEIGHBOUR: 'it returns false'. Refute it at one input. -/
def fnExactSelectInstanceWrong : ChangeSpec := { name := "fnExactSelectInstance", fn := fun _ => fun
  | [d1, d2] => { results := [.lit (.bool false)], args := [d1, d2] }
  | _ => none }
def FnExactSelectInstanceWrongFalsely : Prop := fnExactSelectInstanceRow.holds Tryz.pinned (OpenSpec.ofChange fnExactSelectInstanceWrong)

/-- 'laws.FnExactAllSupertraits': WHATEVER THE INPUT: true; the input reads as it did. -/
def fnExactAllSupertraitsSpec : ChangeSpec := { name := "fnExactAllSupertraits", fn := fun _ => fun
  | [d1, d2] => { results := [.lit (.bool true)], args := [d1, d2] }
  | _ => none }
def fnExactAllSupertraitsRow : OpenClaim := { program := "ytnakkelglbcecaagreat", sum := "0580edf17534ace01c19d1bb3f0ba815d4f51aa985efc0bf3fa0c9f911055ed4", func := "loop.example/g00508/laws.FnExactAllSupertraits", spec := "fnExactAllSupertraits", recurses := true, loops := true, apart := false }
def FnExactAllSupertraitsSaid : Prop := fnExactAllSupertraitsRow.holds Tryz.pinned (OpenSpec.ofChange fnExactAllSupertraitsSpec)

/-- ITS FALSE NEIGHBOUR: 'it returns false'. Refute it at one input. -/
def fnExactAllSupertraitsWrong : ChangeSpec := { name := "fnExactAllSupertraits", fn := fun _ => fun
  | [d1, d2] => { results := [.lit (.bool false)], args := [d1, d2] }
  | _ => none }
def FnExactAllSupertraitsWrongFalsely : Prop := fnExactAllSupertraitsRow.holds Tryz.pinned (OpenSpec.ofChange fnExactAllSupertraitsWrong)

/-- 'laws.FnExactSupertraitPath': WHATEVER THE INPUT: true; the input reads as it did. -/
def fnExactSupertraitPathSpec : ChangeSpec := { name := "fnExactSupertraitPath", fn := fun _ => fun
  | [d1, d2, d3] => { results := [.lit (.bool true)], args := [d1, d2, d3] }
  | _ => none }
def fnExactSupertraitPathRow : OpenClaim := { program := "ytnakkelglbcecaagreat", sum := "0580edf17534ace01c19d1bb3f0ba815d4f51aa985efc0bf3fa0c9f911055ed4", func := "loop.example/g00508/laws.FnExactSupertraitPath", spec := "fnExactSupertraitPath", recurses := true, loops := true, apart := false }
def FnExactSupertraitPathSaid : Prop := fnExactSupertraitPathRow.holds Tryz.pinned (OpenSpec.ofChange fnExactSupertraitPathSpec)

/-- ITS FALSE NEIGHBOUR: 'it returns false'. Refute it at one input. -/
def fnExactSupertraitPathWrong : ChangeSpec := { name := "fnExactSupertraitPath", fn := fun _ => fun
  | [d1, d2, d3] => { results := [.lit (.bool false)], args := [d1, d2, d3] }
  | _ => none }
def FnExactSupertraitPathWrongFalsely : Prop := fnExactSupertraitPathRow.holds Tryz.pinned (OpenSpec.ofChange fnExactSupertraitPathWrong)

/-- 'laws.FnExactOrphanInstances': WHATEVER THE INPUT: true; the input reads as it did. -/
def fnExactOrphanInstancesSpec : ChangeSpec := { name := "fnExactOrphanInstances", fn := fun _ => fun
  | [d] => { results := [.lit (.bool true)], args := [d] }
  | _ => none }
def fnExactOrphanInstancesRow : OpenClaim := { program := "ytnakkelglbcecaagreat", sum := "0580edf17534ace01c19d1bb3f0ba815d4f51aa985efc0bf3fa0c9f911055ed4", func := "loop.example/g00508/laws.FnExactOrphanInstances", spec := "fnExactOrphanInstances", unfollowed := true, recurses := true, loops := true, apart := false }
def FnExactOrphanInstancesSaid : Prop := fnExactOrphanInstancesRow.holds Tryz.pinned (OpenSpec.ofChange fnExactOrphanInstancesSpec)

/-- ITS FALSE NEIGHBOUR: 'it returns false'. Refute it at one input. -/
def fnExactOrphanInstancesWrong : ChangeSpec := { name := "fnExactOrphanInstances", fn := fun _ => fun
  | [d] => { results := [.lit (.bool false)], args := [d] }
  | _ => none }
def FnExactOrphanInstancesWrongFalsely : Prop := fnExactOrphanInstancesRow.holds Tryz.pinned (OpenSpec.ofChange fnExactOrphanInstancesWrong)

/-- 'laws.FnExactAssocTypeOf': WHATEVER THE INPUT: true; the input reads as it did. -/
def fnExactAssocTypeOfSpec : ChangeSpec := { name := "fnExactAssocTypeOf", fn := fun _ => fun
  | [d1, d2, d3] => { results := [.lit (.bool true)], args := [d1, d2, d3] }
  | _ => none }
def fnExactAssocTypeOfRow : OpenClaim := { program := "ytnakkelglbcecaagreat", sum := "0580edf17534ace01c19d1bb3f0ba815d4f51aa985efc0bf3fa0c9f911055ed4", func := "loop.example/g00508/laws.FnExactAssocTypeOf", spec := "fnExactAssocTypeOf", unfollowed := true, recurses := true, loops := true, apart := false }
def FnExactAssocTypeOfSaid : Prop := fnExactAssocTypeOfRow.holds Tryz.pinned (OpenSpec.ofChange fnExactAssocTypeOfSpec)

/-- ITS FALSE NEIGHBOUR: 'it returns false'. Refute it at one input. -/
def fnExactAssocTypeOfWrong : ChangeSpec := { name := "fnExactAssocTypeOf", fn := fun _ => fun
  | [d1, d2, d3] => { results := [.lit (.bool false)], args := [d1, d2, d3] }
  | _ => none }
def FnExactAssocTypeOfWrongFalsely : Prop := fnExactAssocTypeOfRow.holds Tryz.pinned (OpenSpec.ofChange fnExactAssocTypeOfWrong)

/-- 'laws.FnExactAssumptions': WHATEVER THE INPUT: true; the input reads as it did. -/
def fnExactAssumptionsSpec : ChangeSpec := { name := "fnExactAssumptions", fn := fun _ => fun
  | [d1, d2] => { results := [.lit (.bool true)], args := [d1, d2] }
  | _ => none }
def fnExactAssumptionsRow : OpenClaim := { program := "ytnakkelglbcecaagreat", sum := "0580edf17534ace01c19d1bb3f0ba815d4f51aa985efc0bf3fa0c9f911055ed4", func := "loop.example/g00508/laws.FnExactAssumptions", spec := "fnExactAssumptions", recurses := true, loops := true, apart := false }
def FnExactAssumptionsSaid : Prop := fnExactAssumptionsRow.holds Tryz.pinned (OpenSpec.ofChange fnExactAssumptionsSpec)

/-- ITS FALSE NEIGHBOUR: 'it returns false'. Refute it at one input. -/
def fnExactAssumptionsWrong : ChangeSpec := { name := "fnExactAssumptions", fn := fun _ => fun
  | [d1, d2] => { results := [.lit (.bool false)], args := [d1, d2] }
  | _ => none }
def FnExactAssumptionsWrongFalsely : Prop := fnExactAssumptionsRow.holds Tryz.pinned (OpenSpec.ofChange fnExactAssumptionsWrong)

/-- 'laws.FnExactCandidateInstances': WHATEVER THE INPUT: true; the input reads as it did. -/
def fnExactCandidateInstancesSpec : ChangeSpec := { name := "fnExactCandidateInstances", fn := fun _ => fun
  | [d1, d2] => { results := [.lit (.bool true)], args := [d1, d2] }
  | _ => none }
def fnExactCandidateInstancesRow : OpenClaim := { program := "ytnakkelglbcecaagreat", sum := "0580edf17534ace01c19d1bb3f0ba815d4f51aa985efc0bf3fa0c9f911055ed4", func := "loop.example/g00508/laws.FnExactCandidateInstances", spec := "fnExactCandidateInstances", unfollowed := true, recurses := true, loops := true, apart := false }
def FnExactCandidateInstancesSaid : Prop := fnExactCandidateInstancesRow.holds Tryz.pinned (OpenSpec.ofChange fnExactCandidateInstancesSpec)

/-- ITS FALSE NEIGHBOUR: 'it returns false'. Refute it at one input. -/
def fnExactCandidateInstancesWrong : ChangeSpec := { name := "fnExactCandidateInstances", fn := fun _ => fun
  | [d1, d2] => { results := [.lit (.bool false)], args := [d1, d2] }
  | _ => none }
def FnExactCandidateInstancesWrongFalsely : Prop := fnExactCandidateInstancesRow.holds Tryz.pinned (OpenSpec.ofChange fnExactCandidateInstancesWrong)

/-- 'laws.FnExactLessSpecificInstances': WHATEVER THE INPUT: true; the input reads as it did. -/
def fnExactLessSpecificInstancesSpec : ChangeSpec := { name := "fnExactLessSpecificInstances", fn := fun _ => fun
  | [d1, d2] => { results := [.lit (.bool true)], args := [d1, d2] }
  | _ => none }
def fnExactLessSpecificInstancesRow : OpenClaim := { program := "ytnakkelglbcecaagreat", sum := "0580edf17534ace01c19d1bb3f0ba815d4f51aa985efc0bf3fa0c9f911055ed4", func := "loop.example/g00508/laws.FnExactLessSpecificInstances", spec := "fnExactLessSpecificInstances", unfollowed := true, recurses := true, loops := true, apart := false }
def FnExactLessSpecificInstancesSaid : Prop := fnExactLessSpecificInstancesRow.holds Tryz.pinned (OpenSpec.ofChange fnExactLessSpecificInstancesSpec)

/-- ITS FALSE NEIGHBOUR: 'it returns false'. Refute it at one input. -/
def fnExactLessSpecificInstancesWrong : ChangeSpec := { name := "fnExactLessSpecificInstances", fn := fun _ => fun
  | [d1, d2] => { results := [.lit (.bool false)], args := [d1, d2] }
  | _ => none }
def FnExactLessSpecificInstancesWrongFalsely : Prop := fnExactLessSpecificInstancesRow.holds Tryz.pinned (OpenSpec.ofChange fnExactLessSpecificInstancesWrong)

/-- 'laws.FnExactMoreSpecificInstances': WHATEVER THE INPUT: true; the input reads as it did. -/
def fnExactMoreSpecificInstancesSpec : ChangeSpec := { name := "fnExactMoreSpecificInstances", fn := fun _ => fun
  | [d1, d2] => { results := [.lit (.bool true)], args := [d1, d2] }
  | _ => none }
def fnExactMoreSpecificInstancesRow : OpenClaim := { program := "ytnakkelglbcecaagreat", sum := "0580edf17534ace01c19d1bb3f0ba815d4f51aa985efc0bf3fa0c9f911055ed4", func := "loop.example/g00508/laws.FnExactMoreSpecificInstances", spec := "fnExactMoreSpecificInstances", unfollowed := true, recurses := true, loops := true, apart := false }
def FnExactMoreSpecificInstancesSaid : Prop := fnExactMoreSpecificInstancesRow.holds Tryz.pinned (OpenSpec.ofChange fnExactMoreSpecificInstancesSpec)

/-- ITS FALSE NEIGHBOUR: 'it returns false'. Refute it at one input. -/
def fnExactMoreSpecificInstancesWrong : ChangeSpec := { name := "fnExactMoreSpecificInstances", fn := fun _ => fun
  | [d1, d2] => { results := [.lit (.bool false)], args := [d1, d2] }
  | _ => none }
def FnExactMoreSpecificInstancesWrongFalsely : Prop := fnExactMoreSpecificInstancesRow.holds Tryz.pinned (OpenSpec.ofChange fnExactMoreSpecificInstancesWrong)

/-- 'laws.FnExactFindTrait': WHATEVER THE INPUT: true; the input reads as it did. -/
def fnExactFindTraitSpec : ChangeSpec := { name := "fnExactFindTrait", fn := fun _ => fun
  | [d1, d2] => { results := [.lit (.bool true)], args := [d1, d2] }
  | _ => none }
def fnExactFindTraitRow : OpenClaim := { program := "ytnakkelglbcecaagreat", sum := "0580edf17534ace01c19d1bb3f0ba815d4f51aa985efc0bf3fa0c9f911055ed4", func := "loop.example/g00508/laws.FnExactFindTrait", spec := "fnExactFindTrait", recurses := true, loops := true, apart := false }
def FnExactFindTraitSaid : Prop := fnExactFindTraitRow.holds Tryz.pinned (OpenSpec.ofChange fnExactFindTraitSpec)

/-- ITS FALSE NEIGHBOUR: 'it returns false'. Refute it at one input. -/
def fnExactFindTraitWrong : ChangeSpec := { name := "fnExactFindTrait", fn := fun _ => fun
  | [d1, d2] => { results := [.lit (.bool false)], args := [d1, d2] }
  | _ => none }
def FnExactFindTraitWrongFalsely : Prop := fnExactFindTraitRow.holds Tryz.pinned (OpenSpec.ofChange fnExactFindTraitWrong)

/-- 'laws.FnExactFindFunction': WHATEVER THE INPUT: true; the input reads as it did. -/
def fnExactFindFunctionSpec : ChangeSpec := { name := "fnExactFindFunction", fn := fun _ => fun
  | [d1, d2] => { results := [.lit (.bool true)], args := [d1, d2] }
  | _ => none }
def fnExactFindFunctionRow : OpenClaim := { program := "ytnakkelglbcecaagreat", sum := "0580edf17534ace01c19d1bb3f0ba815d4f51aa985efc0bf3fa0c9f911055ed4", func := "loop.example/g00508/laws.FnExactFindFunction", spec := "fnExactFindFunction", recurses := true, loops := true, apart := false }
def FnExactFindFunctionSaid : Prop := fnExactFindFunctionRow.holds Tryz.pinned (OpenSpec.ofChange fnExactFindFunctionSpec)

/-- ITS FALSE NEIGHBOUR: 'it returns false'. Refute it at one input. -/
def fnExactFindFunctionWrong : ChangeSpec := { name := "fnExactFindFunction", fn := fun _ => fun
  | [d1, d2] => { results := [.lit (.bool false)], args := [d1, d2] }
  | _ => none }
def FnExactFindFunctionWrongFalsely : Prop := fnExactFindFunctionRow.holds Tryz.pinned (OpenSpec.ofChange fnExactFindFunctionWrong)

/- THE SECOND FORM. 'bulk': how many values and letters a reading holds, each counted each time it is reached (what is shared counts as often as it is met; a slice's spare places count too). A statement '..UptoSaid' is the law's where the arguments, and the package variables that the reading takes, are together of bulk at most 1048576: NARROWER than '..Said'. Prove '..Said' where nothing that the law and all that it calls make is longer than what came in: it says more and counts as full. Else prove '..UptoSaid'. A law counts once. -/
mutual
def uptoBulk {H : Type} : DataW H → Nat
  | .lit (.string bytes) => bytes.length + 1
  | .lit _ => 1
  | .nil => 1
  | .ptr d => uptoBulk d + 1
  | .slice elems spare => uptoBulkAll elems + uptoBulkAll spare + 1
  | .agg parts => uptoBulkAll parts + 1
  | .iface _ d => uptoBulk d + 1
  | .map entries => uptoBulkEntries entries + 1
  | .held _ => 1
def uptoBulkAll {H : Type} : List (DataW H) → Nat
  | [] => 0
  | d :: r => uptoBulk d + uptoBulkAll r
def uptoBulkEntries {H : Type} : List (Lit × DataW H) → Nat
  | [] => 0
  | x :: r => uptoBulkEntry x + uptoBulkEntries r
def uptoBulkEntry {H : Type} : Lit × DataW H → Nat
  | (.string bytes, d) => bytes.length + uptoBulk d + 1
  | (_, d) => uptoBulk d + 1
 end
def uptoSmall : (H : Type) → List (DataW H) → Bool := fun _ ds => decide (uptoBulkAll ds ≤ 1048576)
def OpenSpec.upto (s : _root_.Go.ChangeSpec) : _root_.Go.OpenSpec := { _root_.Go.OpenSpec.ofChange s with cond := some uptoSmall }

/-- 'laws.FnExactSatisfiesOrphanRule', WHERE WHAT IT READS IS OF BULK AT MOST 1048576: true; the input reads as it did. -/
def fnExactSatisfiesOrphanRuleUptoRow : OpenClaim := { program := "ytnakkelglbcecaagreat", sum := "0580edf17534ace01c19d1bb3f0ba815d4f51aa985efc0bf3fa0c9f911055ed4", func := "loop.example/g00508/laws.FnExactSatisfiesOrphanRule", spec := "fnExactSatisfiesOrphanRule", recurses := true, loops := true, apart := false, narrowed := true }
def FnExactSatisfiesOrphanRuleUptoSaid : Prop := fnExactSatisfiesOrphanRuleUptoRow.holds Tryz.pinned (OpenSpec.upto fnExactSatisfiesOrphanRuleSpec)

/-- 'laws.FnExactSelectInstance', WHERE WHAT IT READS IS OF BULK AT MOST 1048576: true; the input reads as it did. -/
def fnExactSelectInstanceUptoRow : OpenClaim := { program := "ytnakkelglbcecaagreat", sum := "0580edf17534ace01c19d1bb3f0ba815d4f51aa985efc0bf3fa0c9f911055ed4", func := "loop.example/g00508/laws.FnExactSelectInstance", spec := "fnExactSelectInstance", unfollowed := true, recurses := true, loops := true, apart := false, narrowed := true }
def FnExactSelectInstanceUptoSaid : Prop := fnExactSelectInstanceUptoRow.holds Tryz.pinned (OpenSpec.upto fnExactSelectInstanceSpec)

/-- 'laws.FnExactAllSupertraits', WHERE WHAT IT READS IS OF BULK AT MOST 1048576: true; the input reads as it did. -/
def fnExactAllSupertraitsUptoRow : OpenClaim := { program := "ytnakkelglbcecaagreat", sum := "0580edf17534ace01c19d1bb3f0ba815d4f51aa985efc0bf3fa0c9f911055ed4", func := "loop.example/g00508/laws.FnExactAllSupertraits", spec := "fnExactAllSupertraits", recurses := true, loops := true, apart := false, narrowed := true }
def FnExactAllSupertraitsUptoSaid : Prop := fnExactAllSupertraitsUptoRow.holds Tryz.pinned (OpenSpec.upto fnExactAllSupertraitsSpec)

/-- 'laws.FnExactSupertraitPath', WHERE WHAT IT READS IS OF BULK AT MOST 1048576: true; the input reads as it did. -/
def fnExactSupertraitPathUptoRow : OpenClaim := { program := "ytnakkelglbcecaagreat", sum := "0580edf17534ace01c19d1bb3f0ba815d4f51aa985efc0bf3fa0c9f911055ed4", func := "loop.example/g00508/laws.FnExactSupertraitPath", spec := "fnExactSupertraitPath", recurses := true, loops := true, apart := false, narrowed := true }
def FnExactSupertraitPathUptoSaid : Prop := fnExactSupertraitPathUptoRow.holds Tryz.pinned (OpenSpec.upto fnExactSupertraitPathSpec)

/-- 'laws.FnExactOrphanInstances', WHERE WHAT IT READS IS OF BULK AT MOST 1048576: true; the input reads as it did. -/
def fnExactOrphanInstancesUptoRow : OpenClaim := { program := "ytnakkelglbcecaagreat", sum := "0580edf17534ace01c19d1bb3f0ba815d4f51aa985efc0bf3fa0c9f911055ed4", func := "loop.example/g00508/laws.FnExactOrphanInstances", spec := "fnExactOrphanInstances", unfollowed := true, recurses := true, loops := true, apart := false, narrowed := true }
def FnExactOrphanInstancesUptoSaid : Prop := fnExactOrphanInstancesUptoRow.holds Tryz.pinned (OpenSpec.upto fnExactOrphanInstancesSpec)

/-- 'laws.FnExactAssocTypeOf', WHERE WHAT IT READS IS OF BULK AT MOST 1048576: true; the input reads as it did. -/
def fnExactAssocTypeOfUptoRow : OpenClaim := { program := "ytnakkelglbcecaagreat", sum := "0580edf17534ace01c19d1bb3f0ba815d4f51aa985efc0bf3fa0c9f911055ed4", func := "loop.example/g00508/laws.FnExactAssocTypeOf", spec := "fnExactAssocTypeOf", unfollowed := true, recurses := true, loops := true, apart := false, narrowed := true }
def FnExactAssocTypeOfUptoSaid : Prop := fnExactAssocTypeOfUptoRow.holds Tryz.pinned (OpenSpec.upto fnExactAssocTypeOfSpec)

/-- 'laws.FnExactAssumptions', WHERE WHAT IT READS IS OF BULK AT MOST 1048576: true; the input reads as it did. -/
def fnExactAssumptionsUptoRow : OpenClaim := { program := "ytnakkelglbcecaagreat", sum := "0580edf17534ace01c19d1bb3f0ba815d4f51aa985efc0bf3fa0c9f911055ed4", func := "loop.example/g00508/laws.FnExactAssumptions", spec := "fnExactAssumptions", recurses := true, loops := true, apart := false, narrowed := true }
def FnExactAssumptionsUptoSaid : Prop := fnExactAssumptionsUptoRow.holds Tryz.pinned (OpenSpec.upto fnExactAssumptionsSpec)

/-- 'laws.FnExactCandidateInstances', WHERE WHAT IT READS IS OF BULK AT MOST 1048576: true; the input reads as it did. -/
def fnExactCandidateInstancesUptoRow : OpenClaim := { program := "ytnakkelglbcecaagreat", sum := "0580edf17534ace01c19d1bb3f0ba815d4f51aa985efc0bf3fa0c9f911055ed4", func := "loop.example/g00508/laws.FnExactCandidateInstances", spec := "fnExactCandidateInstances", unfollowed := true, recurses := true, loops := true, apart := false, narrowed := true }
def FnExactCandidateInstancesUptoSaid : Prop := fnExactCandidateInstancesUptoRow.holds Tryz.pinned (OpenSpec.upto fnExactCandidateInstancesSpec)

/-- 'laws.FnExactLessSpecificInstances', WHERE WHAT IT READS IS OF BULK AT MOST 1048576: true; the input reads as it did. -/
def fnExactLessSpecificInstancesUptoRow : OpenClaim := { program := "ytnakkelglbcecaagreat", sum := "0580edf17534ace01c19d1bb3f0ba815d4f51aa985efc0bf3fa0c9f911055ed4", func := "loop.example/g00508/laws.FnExactLessSpecificInstances", spec := "fnExactLessSpecificInstances", unfollowed := true, recurses := true, loops := true, apart := false, narrowed := true }
def FnExactLessSpecificInstancesUptoSaid : Prop := fnExactLessSpecificInstancesUptoRow.holds Tryz.pinned (OpenSpec.upto fnExactLessSpecificInstancesSpec)

/-- 'laws.FnExactMoreSpecificInstances', WHERE WHAT IT READS IS OF BULK AT MOST 1048576: true; the input reads as it did. -/
def fnExactMoreSpecificInstancesUptoRow : OpenClaim := { program := "ytnakkelglbcecaagreat", sum := "0580edf17534ace01c19d1bb3f0ba815d4f51aa985efc0bf3fa0c9f911055ed4", func := "loop.example/g00508/laws.FnExactMoreSpecificInstances", spec := "fnExactMoreSpecificInstances", unfollowed := true, recurses := true, loops := true, apart := false, narrowed := true }
def FnExactMoreSpecificInstancesUptoSaid : Prop := fnExactMoreSpecificInstancesUptoRow.holds Tryz.pinned (OpenSpec.upto fnExactMoreSpecificInstancesSpec)

/-- 'laws.FnExactFindTrait', WHERE WHAT IT READS IS OF BULK AT MOST 1048576: true; the input reads as it did. -/
def fnExactFindTraitUptoRow : OpenClaim := { program := "ytnakkelglbcecaagreat", sum := "0580edf17534ace01c19d1bb3f0ba815d4f51aa985efc0bf3fa0c9f911055ed4", func := "loop.example/g00508/laws.FnExactFindTrait", spec := "fnExactFindTrait", recurses := true, loops := true, apart := false, narrowed := true }
def FnExactFindTraitUptoSaid : Prop := fnExactFindTraitUptoRow.holds Tryz.pinned (OpenSpec.upto fnExactFindTraitSpec)

/-- 'laws.FnExactFindFunction', WHERE WHAT IT READS IS OF BULK AT MOST 1048576: true; the input reads as it did. -/
def fnExactFindFunctionUptoRow : OpenClaim := { program := "ytnakkelglbcecaagreat", sum := "0580edf17534ace01c19d1bb3f0ba815d4f51aa985efc0bf3fa0c9f911055ed4", func := "loop.example/g00508/laws.FnExactFindFunction", spec := "fnExactFindFunction", recurses := true, loops := true, apart := false, narrowed := true }
def FnExactFindFunctionUptoSaid : Prop := fnExactFindFunctionUptoRow.holds Tryz.pinned (OpenSpec.upto fnExactFindFunctionSpec)

end Rows
end Go.Proofs.YtnakkelglbcecaaGreat
