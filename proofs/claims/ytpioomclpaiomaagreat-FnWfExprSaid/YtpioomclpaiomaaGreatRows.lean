/-
  No cell of these rows narrows 'for every input' (looked for: loops, veiled, ifaces, maps, wideKeys, modest, calm, conditions, laid).
  DERIVED. THE GIVEN ROWS OF THIS SEAT. 7 by the template 'for every input the law returns true; each argument reads behind the call as it read before'; 0 by the template 'total and deterministic' (their statements: YtpioomclpaiomaaGreatTotals.lean).
  GIVEN WITH THE SEED: the statements are not yours to turn. If you find one false, say at which input.
  Laid BY PROGRAM, IN A SANDBOX (cutbox-rows.mjs): the forced cells as the released guide's own fill.sh prints them over the translation 8b7c945fd1a12223… (all of the seat's roots in one cut). By AI agents, Wed Nov 11 2026. No macro, syntax, notation, axiom, sorry.
-/
import Derived.Test.YtpioomclpaiomaaGreatChecked
import GoSem.Claim
import GoSem.ClaimJoined
import GoSem.ClaimMapViews
import Derived.JoinedTies
import Derived.KernelRfl
namespace Go.Proofs.YtpioomclpaiomaaGreat
/- THE CELL 'sum', in the pinned program and in every row, IS THE sha256 OF THE DUMP (.gsa) THAT YtpioomclpaiomaaGreatProg.lean LOADS. Nothing in Lean hashes anything: it is a label: what it is worth is what the hold of that sum in a sandbox is worth. -/
noncomputable def Tryz.pinned : Pinned := { name := "ytpioomclpaiomaagreat", sum := "8b7c945fd1a122237059aae61ea8fff578350f017be2ee2238df5a4620c4a391", checked := Tryz.checked }
namespace Rows
def none {H : Type} : Left H := { results := [], args := [] }

/-- 'laws.FnFacts': WHATEVER THE INPUT: true; the input reads as it did. -/
def fnFactsSpec : ChangeSpec := { name := "fnFacts", fn := fun _ => fun
  | [d] => { results := [.lit (.bool true)], args := [d] }
  | _ => none }
def fnFactsRow : OpenClaim := { program := "ytpioomclpaiomaagreat", sum := "8b7c945fd1a122237059aae61ea8fff578350f017be2ee2238df5a4620c4a391", func := "loop.example/g00508/laws.FnFacts", spec := "fnFacts", unfollowed := true, recurses := true, apart := false }
def FnFactsSaid : Prop := fnFactsRow.holds Tryz.pinned (OpenSpec.ofChange fnFactsSpec)

/-- ITS FALSE NEIGHBOUR: 'it returns false'. Refute it at one input. -/
def fnFactsWrong : ChangeSpec := { name := "fnFacts", fn := fun _ => fun
  | [d] => { results := [.lit (.bool false)], args := [d] }
  | _ => none }
def FnFactsWrongFalsely : Prop := fnFactsRow.holds Tryz.pinned (OpenSpec.ofChange fnFactsWrong)

/-- 'laws.FnAbove': WHATEVER THE INPUT: true; the input reads as it did. -/
def fnAboveSpec : ChangeSpec := { name := "fnAbove", fn := fun _ => fun
  | [d] => { results := [.lit (.bool true)], args := [d] }
  | _ => none }
def fnAboveRow : OpenClaim := { program := "ytpioomclpaiomaagreat", sum := "8b7c945fd1a122237059aae61ea8fff578350f017be2ee2238df5a4620c4a391", func := "loop.example/g00508/laws.FnAbove", spec := "fnAbove", unfollowed := true, recurses := true, apart := false }
def FnAboveSaid : Prop := fnAboveRow.holds Tryz.pinned (OpenSpec.ofChange fnAboveSpec)

/-- ITS FALSE NEIGHBOUR: 'it returns false'. Refute it at one input. -/
def fnAboveWrong : ChangeSpec := { name := "fnAbove", fn := fun _ => fun
  | [d] => { results := [.lit (.bool false)], args := [d] }
  | _ => none }
def FnAboveWrongFalsely : Prop := fnAboveRow.holds Tryz.pinned (OpenSpec.ofChange fnAboveWrong)

/-- 'laws.FnOrphan': WHATEVER THE INPUT: true; the input reads as it did. -/
def fnOrphanSpec : ChangeSpec := { name := "fnOrphan", fn := fun _ => fun
  | [d] => { results := [.lit (.bool true)], args := [d] }
  | _ => none }
def fnOrphanRow : OpenClaim := { program := "ytpioomclpaiomaagreat", sum := "8b7c945fd1a122237059aae61ea8fff578350f017be2ee2238df5a4620c4a391", func := "loop.example/g00508/laws.FnOrphan", spec := "fnOrphan", unfollowed := true, recurses := true, apart := false }
def FnOrphanSaid : Prop := fnOrphanRow.holds Tryz.pinned (OpenSpec.ofChange fnOrphanSpec)

/-- ITS FALSE NEIGHBOUR: 'it returns false'. Refute it at one input. -/
def fnOrphanWrong : ChangeSpec := { name := "fnOrphan", fn := fun _ => fun
  | [d] => { results := [.lit (.bool false)], args := [d] }
  | _ => none }
def FnOrphanWrongFalsely : Prop := fnOrphanRow.holds Tryz.pinned (OpenSpec.ofChange fnOrphanWrong)

/-- 'laws.FnOwnOf': WHATEVER THE INPUT: true; the input reads as it did. -/
def fnOwnOfSpec : ChangeSpec := { name := "fnOwnOf", fn := fun _ => fun
  | [d] => { results := [.lit (.bool true)], args := [d] }
  | _ => none }
def fnOwnOfRow : OpenClaim := { program := "ytpioomclpaiomaagreat", sum := "8b7c945fd1a122237059aae61ea8fff578350f017be2ee2238df5a4620c4a391", func := "loop.example/g00508/laws.FnOwnOf", spec := "fnOwnOf", unfollowed := true, recurses := true, apart := false }
def FnOwnOfSaid : Prop := fnOwnOfRow.holds Tryz.pinned (OpenSpec.ofChange fnOwnOfSpec)

/-- ITS FALSE NEIGHBOUR: 'it returns false'. Refute it at one input. -/
def fnOwnOfWrong : ChangeSpec := { name := "fnOwnOf", fn := fun _ => fun
  | [d] => { results := [.lit (.bool false)], args := [d] }
  | _ => none }
def FnOwnOfWrongFalsely : Prop := fnOwnOfRow.holds Tryz.pinned (OpenSpec.ofChange fnOwnOfWrong)

/-- 'laws.FnChosen': WHATEVER THE INPUT: true; the input reads as it did. -/
def fnChosenSpec : ChangeSpec := { name := "fnChosen", fn := fun _ => fun
  | [d] => { results := [.lit (.bool true)], args := [d] }
  | _ => none }
def fnChosenRow : OpenClaim := { program := "ytpioomclpaiomaagreat", sum := "8b7c945fd1a122237059aae61ea8fff578350f017be2ee2238df5a4620c4a391", func := "loop.example/g00508/laws.FnChosen", spec := "fnChosen", unfollowed := true, recurses := true, apart := false }
def FnChosenSaid : Prop := fnChosenRow.holds Tryz.pinned (OpenSpec.ofChange fnChosenSpec)

/-- ITS FALSE NEIGHBOUR: 'it returns false'. Refute it at one input. -/
def fnChosenWrong : ChangeSpec := { name := "fnChosen", fn := fun _ => fun
  | [d] => { results := [.lit (.bool false)], args := [d] }
  | _ => none }
def FnChosenWrongFalsely : Prop := fnChosenRow.holds Tryz.pinned (OpenSpec.ofChange fnChosenWrong)

/-- 'laws.FnWfTy': WHATEVER THE INPUT: true; the input reads as it did. -/
def fnWfTySpec : ChangeSpec := { name := "fnWfTy", fn := fun _ => fun
  | [d] => { results := [.lit (.bool true)], args := [d] }
  | _ => none }
def fnWfTyRow : OpenClaim := { program := "ytpioomclpaiomaagreat", sum := "8b7c945fd1a122237059aae61ea8fff578350f017be2ee2238df5a4620c4a391", func := "loop.example/g00508/laws.FnWfTy", spec := "fnWfTy", unfollowed := true, recurses := true, apart := false }
def FnWfTySaid : Prop := fnWfTyRow.holds Tryz.pinned (OpenSpec.ofChange fnWfTySpec)

/-- ITS FALSE NEIGHBOUR: 'it returns false'. Refute it at one input. -/
def fnWfTyWrong : ChangeSpec := { name := "fnWfTy", fn := fun _ => fun
  | [d] => { results := [.lit (.bool false)], args := [d] }
  | _ => none }
def FnWfTyWrongFalsely : Prop := fnWfTyRow.holds Tryz.pinned (OpenSpec.ofChange fnWfTyWrong)

/-- 'laws.FnWfExpr': WHATEVER THE INPUT: true; the input reads as it did. -/
def fnWfExprSpec : ChangeSpec := { name := "fnWfExpr", fn := fun _ => fun
  | [d] => { results := [.lit (.bool true)], args := [d] }
  | _ => none }
def fnWfExprRow : OpenClaim := { program := "ytpioomclpaiomaagreat", sum := "8b7c945fd1a122237059aae61ea8fff578350f017be2ee2238df5a4620c4a391", func := "loop.example/g00508/laws.FnWfExpr", spec := "fnWfExpr", unfollowed := true, recurses := true, apart := false }
def FnWfExprSaid : Prop := fnWfExprRow.holds Tryz.pinned (OpenSpec.ofChange fnWfExprSpec)

/-- ITS FALSE NEIGHBOUR: 'it returns false'. Refute it at one input. -/
def fnWfExprWrong : ChangeSpec := { name := "fnWfExpr", fn := fun _ => fun
  | [d] => { results := [.lit (.bool false)], args := [d] }
  | _ => none }
def FnWfExprWrongFalsely : Prop := fnWfExprRow.holds Tryz.pinned (OpenSpec.ofChange fnWfExprWrong)

/- THE SECOND FORM. 'bulk': how many values and letters a reading holds, each counted each time it is reached (what is shared counts as often as it is met; a slice's spare places count too). A statement '..UptoSaid' is the law's where the arguments, and the package variables that the reading takes, are together of bulk at most 1048576: NARROWER than '..Said'. Prove '..Said' where nothing that the law and all that it calls make is longer than what came in: it says more and counts as full. Else prove '..UptoSaid'. A law counts once. -/
mutual
def uptoBulk {H : Type} : DataW H → Nat
  | .lit (.string bytes) => bytes.length + 1
  | .lit _ => 1
  | .nil => 1
  | .ptr d => uptoBulk d + 1
  | .slice elems spare => uptoBulkAll elems + uptoBulkAll spare + 1
  | .agg parts => uptoBulkAll parts + 1
  | .iface _ d => uptoBulk d + 1
  | .map entries => uptoBulkEntries entries + 1
  | .held _ => 1
def uptoBulkAll {H : Type} : List (DataW H) → Nat
  | [] => 0
  | d :: r => uptoBulk d + uptoBulkAll r
def uptoBulkEntries {H : Type} : List (Lit × DataW H) → Nat
  | [] => 0
  | x :: r => uptoBulkEntry x + uptoBulkEntries r
def uptoBulkEntry {H : Type} : Lit × DataW H → Nat
  | (.string bytes, d) => bytes.length + uptoBulk d + 1
  | (_, d) => uptoBulk d + 1
 end
def uptoSmall : (H : Type) → List (DataW H) → Bool := fun _ ds => decide (uptoBulkAll ds ≤ 1048576)
def OpenSpec.upto (s : _root_.Go.ChangeSpec) : _root_.Go.OpenSpec := { _root_.Go.OpenSpec.ofChange s with cond := some uptoSmall }

/-- 'laws.FnFacts', WHERE WHAT IT READS IS OF BULK AT MOST 1048576: true; the input reads as it did. -/
def fnFactsUptoRow : OpenClaim := { program := "ytpioomclpaiomaagreat", sum := "8b7c945fd1a122237059aae61ea8fff578350f017be2ee2238df5a4620c4a391", func := "loop.example/g00508/laws.FnFacts", spec := "fnFacts", unfollowed := true, recurses := true, apart := false, narrowed := true }
def FnFactsUptoSaid : Prop := fnFactsUptoRow.holds Tryz.pinned (OpenSpec.upto fnFactsSpec)

/-- 'laws.FnAbove', WHERE WHAT IT READS IS OF BULK AT MOST 1048576: true; the input reads as it did. -/
def fnAboveUptoRow : OpenClaim := { program := "ytpioomclpaiomaagreat", sum := "8b7c945fd1a122237059aae61ea8fff578350f017be2ee2238df5a4620c4a391", func := "loop.example/g00508/laws.FnAbove", spec := "fnAbove", unfollowed := true, recurses := true, apart := false, narrowed := true }
def FnAboveUptoSaid : Prop := fnAboveUptoRow.holds Tryz.pinned (OpenSpec.upto fnAboveSpec)

/-- 'laws.FnOrphan', WHERE WHAT IT READS IS OF BULK AT MOST 1048576: true; the input reads as it did. -/
def fnOrphanUptoRow : OpenClaim := { program := "ytpioomclpaiomaagreat", sum := "8b7c945fd1a122237059aae61ea8fff578350f017be2ee2238df5a4620c4a391", func := "loop.example/g00508/laws.FnOrphan", spec := "fnOrphan", unfollowed := true, recurses := true, apart := false, narrowed := true }
def FnOrphanUptoSaid : Prop := fnOrphanUptoRow.holds Tryz.pinned (OpenSpec.upto fnOrphanSpec)

/-- 'laws.FnOwnOf', WHERE WHAT IT READS IS OF BULK AT MOST 1048576: true; the input reads as it did. -/
def fnOwnOfUptoRow : OpenClaim := { program := "ytpioomclpaiomaagreat", sum := "8b7c945fd1a122237059aae61ea8fff578350f017be2ee2238df5a4620c4a391", func := "loop.example/g00508/laws.FnOwnOf", spec := "fnOwnOf", unfollowed := true, recurses := true, apart := false, narrowed := true }
def FnOwnOfUptoSaid : Prop := fnOwnOfUptoRow.holds Tryz.pinned (OpenSpec.upto fnOwnOfSpec)

/-- 'laws.FnChosen', WHERE WHAT IT READS IS OF BULK AT MOST 1048576: true; the input reads as it did. -/
def fnChosenUptoRow : OpenClaim := { program := "ytpioomclpaiomaagreat", sum := "8b7c945fd1a122237059aae61ea8fff578350f017be2ee2238df5a4620c4a391", func := "loop.example/g00508/laws.FnChosen", spec := "fnChosen", unfollowed := true, recurses := true, apart := false, narrowed := true }
def FnChosenUptoSaid : Prop := fnChosenUptoRow.holds Tryz.pinned (OpenSpec.upto fnChosenSpec)

/-- 'laws.FnWfTy', WHERE WHAT IT READS IS OF BULK AT MOST 1048576: true; the input reads as it did. -/
def fnWfTyUptoRow : OpenClaim := { program := "ytpioomclpaiomaagreat", sum := "8b7c945fd1a122237059aae61ea8fff578350f017be2ee2238df5a4620c4a391", func := "loop.example/g00508/laws.FnWfTy", spec := "fnWfTy", unfollowed := true, recurses := true, apart := false, narrowed := true }
def FnWfTyUptoSaid : Prop := fnWfTyUptoRow.holds Tryz.pinned (OpenSpec.upto fnWfTySpec)

/-- 'laws.FnWfExpr', WHERE WHAT IT READS IS OF BULK AT MOST 1048576: true; the input reads as it did. -/
def fnWfExprUptoRow : OpenClaim := { program := "ytpioomclpaiomaagreat", sum := "8b7c945fd1a122237059aae61ea8fff578350f017be2ee2238df5a4620c4a391", func := "loop.example/g00508/laws.FnWfExpr", spec := "fnWfExpr", unfollowed := true, recurses := true, apart := false, narrowed := true }
def FnWfExprUptoSaid : Prop := fnWfExprUptoRow.holds Tryz.pinned (OpenSpec.upto fnWfExprSpec)

end Rows
end Go.Proofs.YtpioomclpaiomaaGreat
