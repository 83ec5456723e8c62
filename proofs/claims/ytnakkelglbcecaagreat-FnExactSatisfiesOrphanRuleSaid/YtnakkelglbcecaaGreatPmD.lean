/- The program's data as abstract values: a struct's cells, told by its fields. No conditions. -/
import Derived.Test.YtnakkelglbcecaaGreatPm10
import Derived.Test.YtnakkelglbcecaaGreatData
namespace Go.Proofs.YtnakkelglbcecaaGreat
open Go.RowKit

theorem LeL.refl : ∀ ps : List PV, LeL ps ps
  | [] => .nil
  | p :: ps => .cons (.refl p) (LeL.refl ps)
theorem PV.Le.of_eq {p q : PV} (h : p = q) : PV.Le p q := h ▸ .refl p
theorem strTrs_cs {l : List ByteArray} {k : Nat} (h : k < l.length) : (strTrs l)[k]? = some [.leaf (.string l[k])] := strTrs_get h
theorem intTrs_cs {l : List Int} {k : Nat} (h : k < l.length) : (intTrs l)[k]? = some [.leaf (.int .i64 l[k])] := intTrs_get h
theorem strTrs_snoc (l : List ByteArray) (x : ByteArray) : strTrs l ++ [[.leaf (.string x)]] = strTrs (l ++ [x]) := by simp [strTrs]
theorem intTrs_snoc (l : List Int) (x : Int) : intTrs l ++ [[.leaf (.int .i64 x)]] = intTrs (l ++ [x]) := by simp [intTrs]

def GInstanceRef.cs (x : GInstanceRef) : List Tr := [.leaf (.int .i64 x.gPackage), .leaf (.int .i64 x.gAt)]
def GInstanceRef.pv (x : GInstanceRef) : PV := .agg [.t (.leaf (.int .i64 x.gPackage)), .t (.leaf (.int .i64 x.gAt))]
theorem GInstanceRef.tr_cs (x : GInstanceRef) : x.tr = x.cs := by
  obtain ⟨v0, v1⟩ := x
  simp [GInstanceRef.tr, GInstanceRef.cs]
theorem GInstanceRef.trs_cs {l : List GInstanceRef} {k : Nat} (h : k < l.length) : (GInstanceRef.trs l)[k]? = some (l[k]).cs := by rw [← GInstanceRef.tr_cs]; exact GInstanceRef.trs_get h
theorem GInstanceRef.trs_snoc' (l : List GInstanceRef) (x : GInstanceRef) : GInstanceRef.trs l ++ [x.cs] = GInstanceRef.trs (l ++ [x]) := by rw [GInstanceRef.trs_map, GInstanceRef.trs_map, ← GInstanceRef.tr_cs]; simp
theorem GInstanceRef.cs_len (x : GInstanceRef) : x.cs.length = 2 := rfl
def GSExpr.cs (x : GSExpr) : List Tr := [.leaf (.string x.gAtom), .row 2 (GSExpr.trs (x.gList))]
def GSExpr.pv (x : GSExpr) : PV := .agg [.t (.leaf (.string x.gAtom)), .t (.row 2 (GSExpr.trs (x.gList)))]
theorem GSExpr.tr_cs (x : GSExpr) : x.tr = x.cs := by
  obtain ⟨v0, v1⟩ := x
  simp [GSExpr.tr, GSExpr.cs]
theorem GSExpr.trs_cs {l : List GSExpr} {k : Nat} (h : k < l.length) : (GSExpr.trs l)[k]? = some (l[k]).cs := by rw [← GSExpr.tr_cs]; exact GSExpr.trs_get h
theorem GSExpr.trs_snoc' (l : List GSExpr) (x : GSExpr) : GSExpr.trs l ++ [x.cs] = GSExpr.trs (l ++ [x]) := by rw [GSExpr.trs_map, GSExpr.trs_map, ← GSExpr.tr_cs]; simp
theorem GSExpr.cs_len (x : GSExpr) : x.cs.length = 2 := rfl
def GType.cs (x : GType) : List Tr := [.leaf (.int .i64 x.gKind), .leaf (.string x.gName), .row 3 (GType.trs (x.gArgs))]
def GType.pv (x : GType) : PV := .agg [.t (.leaf (.int .i64 x.gKind)), .t (.leaf (.string x.gName)), .t (.row 3 (GType.trs (x.gArgs)))]
theorem GType.tr_cs (x : GType) : x.tr = x.cs := by
  obtain ⟨v0, v1, v2⟩ := x
  simp [GType.tr, GType.cs]
theorem GType.trs_cs {l : List GType} {k : Nat} (h : k < l.length) : (GType.trs l)[k]? = some (l[k]).cs := by rw [← GType.tr_cs]; exact GType.trs_get h
theorem GType.trs_snoc' (l : List GType) (x : GType) : GType.trs l ++ [x.cs] = GType.trs (l ++ [x]) := by rw [GType.trs_map, GType.trs_map, ← GType.tr_cs]; simp
theorem GType.cs_len (x : GType) : x.cs.length = 3 := rfl
def GBinding.cs (x : GBinding) : List Tr := [.leaf (.string x.gVar), .leaf (.int .i64 x.gType.gKind), .leaf (.string x.gType.gName), .row 3 (GType.trs (x.gType.gArgs))]
def GBinding.pv (x : GBinding) : PV := .agg [.t (.leaf (.string x.gVar)), .t (.leaf (.int .i64 x.gType.gKind)), .t (.leaf (.string x.gType.gName)), .t (.row 3 (GType.trs (x.gType.gArgs)))]
theorem GBinding.tr_cs (x : GBinding) : x.tr = x.cs := by
  obtain ⟨v0, v1⟩ := x
  simp [GBinding.tr, GBinding.cs, GType.tr_cs, GType.cs]
theorem GBinding.trs_cs {l : List GBinding} {k : Nat} (h : k < l.length) : (GBinding.trs l)[k]? = some (l[k]).cs := by rw [← GBinding.tr_cs]; exact GBinding.trs_get h
theorem GBinding.trs_snoc' (l : List GBinding) (x : GBinding) : GBinding.trs l ++ [x.cs] = GBinding.trs (l ++ [x]) := by rw [GBinding.trs_map, GBinding.trs_map, ← GBinding.tr_cs]; simp
theorem GBinding.cs_len (x : GBinding) : x.cs.length = 4 := rfl
def GExpr.cs (x : GExpr) : List Tr := [.leaf (.int .i64 x.gKind), .leaf (.string x.gTrait), .leaf (.string x.gName), .leaf (.int .i64 x.gN), .leaf (.int .i64 x.gType.gKind), .leaf (.string x.gType.gName), .row 3 (GType.trs (x.gType.gArgs)), .row 9 (GExpr.trs (x.gArgs)), .row 11 (GArm.trs (x.gArms))]
def GExpr.pv (x : GExpr) : PV := .agg [.t (.leaf (.int .i64 x.gKind)), .t (.leaf (.string x.gTrait)), .t (.leaf (.string x.gName)), .t (.leaf (.int .i64 x.gN)), .t (.leaf (.int .i64 x.gType.gKind)), .t (.leaf (.string x.gType.gName)), .t (.row 3 (GType.trs (x.gType.gArgs))), .t (.row 9 (GExpr.trs (x.gArgs))), .t (.row 11 (GArm.trs (x.gArms)))]
theorem GExpr.tr_cs (x : GExpr) : x.tr = x.cs := by
  obtain ⟨v0, v1, v2, v3, v4, v5, v6⟩ := x
  simp [GExpr.tr, GExpr.cs, GType.tr_cs, GType.cs]
theorem GExpr.trs_cs {l : List GExpr} {k : Nat} (h : k < l.length) : (GExpr.trs l)[k]? = some (l[k]).cs := by rw [← GExpr.tr_cs]; exact GExpr.trs_get h
theorem GExpr.trs_snoc' (l : List GExpr) (x : GExpr) : GExpr.trs l ++ [x.cs] = GExpr.trs (l ++ [x]) := by rw [GExpr.trs_map, GExpr.trs_map, ← GExpr.tr_cs]; simp
theorem GExpr.cs_len (x : GExpr) : x.cs.length = 9 := rfl
def GArm.cs (x : GArm) : List Tr := [.leaf (.string x.gConstructor), .row 1 (strTrs (x.gVars)), .leaf (.int .i64 x.gBody.gKind), .leaf (.string x.gBody.gTrait), .leaf (.string x.gBody.gName), .leaf (.int .i64 x.gBody.gN), .leaf (.int .i64 x.gBody.gType.gKind), .leaf (.string x.gBody.gType.gName), .row 3 (GType.trs (x.gBody.gType.gArgs)), .row 9 (GExpr.trs (x.gBody.gArgs)), .row 11 (GArm.trs (x.gBody.gArms))]
def GArm.pv (x : GArm) : PV := .agg [.t (.leaf (.string x.gConstructor)), .t (.row 1 (strTrs (x.gVars))), .t (.leaf (.int .i64 x.gBody.gKind)), .t (.leaf (.string x.gBody.gTrait)), .t (.leaf (.string x.gBody.gName)), .t (.leaf (.int .i64 x.gBody.gN)), .t (.leaf (.int .i64 x.gBody.gType.gKind)), .t (.leaf (.string x.gBody.gType.gName)), .t (.row 3 (GType.trs (x.gBody.gType.gArgs))), .t (.row 9 (GExpr.trs (x.gBody.gArgs))), .t (.row 11 (GArm.trs (x.gBody.gArms)))]
theorem GArm.tr_cs (x : GArm) : x.tr = x.cs := by
  obtain ⟨v0, v1, v2⟩ := x
  simp [GArm.tr, GArm.cs, GExpr.tr_cs, GExpr.cs]
theorem GArm.trs_cs {l : List GArm} {k : Nat} (h : k < l.length) : (GArm.trs l)[k]? = some (l[k]).cs := by rw [← GArm.tr_cs]; exact GArm.trs_get h
theorem GArm.trs_snoc' (l : List GArm) (x : GArm) : GArm.trs l ++ [x.cs] = GArm.trs (l ++ [x]) := by rw [GArm.trs_map, GArm.trs_map, ← GArm.tr_cs]; simp
theorem GArm.cs_len (x : GArm) : x.cs.length = 11 := rfl
def GSignature.cs (x : GSignature) : List Tr := [.leaf (.string x.gName), .row 3 (GType.trs (x.gParams)), .leaf (.int .i64 x.gResult.gKind), .leaf (.string x.gResult.gName), .row 3 (GType.trs (x.gResult.gArgs)), .leaf (.bool x.gHasDefault), .row 1 (strTrs (x.gVars)), .leaf (.int .i64 x.gBody.gKind), .leaf (.string x.gBody.gTrait), .leaf (.string x.gBody.gName), .leaf (.int .i64 x.gBody.gN), .leaf (.int .i64 x.gBody.gType.gKind), .leaf (.string x.gBody.gType.gName), .row 3 (GType.trs (x.gBody.gType.gArgs)), .row 9 (GExpr.trs (x.gBody.gArgs)), .row 11 (GArm.trs (x.gBody.gArms))]
def GSignature.pv (x : GSignature) : PV := .agg [.t (.leaf (.string x.gName)), .t (.row 3 (GType.trs (x.gParams))), .t (.leaf (.int .i64 x.gResult.gKind)), .t (.leaf (.string x.gResult.gName)), .t (.row 3 (GType.trs (x.gResult.gArgs))), .t (.leaf (.bool x.gHasDefault)), .t (.row 1 (strTrs (x.gVars))), .t (.leaf (.int .i64 x.gBody.gKind)), .t (.leaf (.string x.gBody.gTrait)), .t (.leaf (.string x.gBody.gName)), .t (.leaf (.int .i64 x.gBody.gN)), .t (.leaf (.int .i64 x.gBody.gType.gKind)), .t (.leaf (.string x.gBody.gType.gName)), .t (.row 3 (GType.trs (x.gBody.gType.gArgs))), .t (.row 9 (GExpr.trs (x.gBody.gArgs))), .t (.row 11 (GArm.trs (x.gBody.gArms)))]
theorem GSignature.tr_cs (x : GSignature) : x.tr = x.cs := by
  obtain ⟨v0, v1, v2, v3, v4, v5⟩ := x
  simp [GSignature.tr, GSignature.cs, GType.tr_cs, GType.cs, GExpr.tr_cs, GExpr.cs]
theorem GSignature.trs_cs {l : List GSignature} {k : Nat} (h : k < l.length) : (GSignature.trs l)[k]? = some (l[k]).cs := by rw [← GSignature.tr_cs]; exact GSignature.trs_get h
theorem GSignature.trs_snoc' (l : List GSignature) (x : GSignature) : GSignature.trs l ++ [x.cs] = GSignature.trs (l ++ [x]) := by rw [GSignature.trs_map, GSignature.trs_map, ← GSignature.tr_cs]; simp
theorem GSignature.cs_len (x : GSignature) : x.cs.length = 16 := rfl
def GTrait.cs (x : GTrait) : List Tr := [.leaf (.string x.gName), .row 1 (strTrs (x.gSupertraits)), .leaf (.bool x.gAuto), .leaf (.bool x.gAssoc), .row 16 (GSignature.trs (x.gSignatures))]
def GTrait.pv (x : GTrait) : PV := .agg [.t (.leaf (.string x.gName)), .t (.row 1 (strTrs (x.gSupertraits))), .t (.leaf (.bool x.gAuto)), .t (.leaf (.bool x.gAssoc)), .t (.row 16 (GSignature.trs (x.gSignatures)))]
theorem GTrait.tr_cs (x : GTrait) : x.tr = x.cs := by
  obtain ⟨v0, v1, v2, v3, v4⟩ := x
  simp [GTrait.tr, GTrait.cs]
theorem GTrait.trs_cs {l : List GTrait} {k : Nat} (h : k < l.length) : (GTrait.trs l)[k]? = some (l[k]).cs := by rw [← GTrait.tr_cs]; exact GTrait.trs_get h
theorem GTrait.trs_snoc' (l : List GTrait) (x : GTrait) : GTrait.trs l ++ [x.cs] = GTrait.trs (l ++ [x]) := by rw [GTrait.trs_map, GTrait.trs_map, ← GTrait.tr_cs]; simp
theorem GTrait.cs_len (x : GTrait) : x.cs.length = 5 := rfl
def GConstructor.cs (x : GConstructor) : List Tr := [.leaf (.string x.gName), .row 3 (GType.trs (x.gFields))]
def GConstructor.pv (x : GConstructor) : PV := .agg [.t (.leaf (.string x.gName)), .t (.row 3 (GType.trs (x.gFields)))]
theorem GConstructor.tr_cs (x : GConstructor) : x.tr = x.cs := by
  obtain ⟨v0, v1⟩ := x
  simp [GConstructor.tr, GConstructor.cs]
theorem GConstructor.trs_cs {l : List GConstructor} {k : Nat} (h : k < l.length) : (GConstructor.trs l)[k]? = some (l[k]).cs := by rw [← GConstructor.tr_cs]; exact GConstructor.trs_get h
theorem GConstructor.trs_snoc' (l : List GConstructor) (x : GConstructor) : GConstructor.trs l ++ [x.cs] = GConstructor.trs (l ++ [x]) := by rw [GConstructor.trs_map, GConstructor.trs_map, ← GConstructor.tr_cs]; simp
theorem GConstructor.cs_len (x : GConstructor) : x.cs.length = 2 := rfl
def GDataType.cs (x : GDataType) : List Tr := [.leaf (.string x.gName), .row 1 (strTrs (x.gVars)), .row 2 (GConstructor.trs (x.gConstructors))]
def GDataType.pv (x : GDataType) : PV := .agg [.t (.leaf (.string x.gName)), .t (.row 1 (strTrs (x.gVars))), .t (.row 2 (GConstructor.trs (x.gConstructors)))]
theorem GDataType.tr_cs (x : GDataType) : x.tr = x.cs := by
  obtain ⟨v0, v1, v2⟩ := x
  simp [GDataType.tr, GDataType.cs]
theorem GDataType.trs_cs {l : List GDataType} {k : Nat} (h : k < l.length) : (GDataType.trs l)[k]? = some (l[k]).cs := by rw [← GDataType.tr_cs]; exact GDataType.trs_get h
theorem GDataType.trs_snoc' (l : List GDataType) (x : GDataType) : GDataType.trs l ++ [x.cs] = GDataType.trs (l ++ [x]) := by rw [GDataType.trs_map, GDataType.trs_map, ← GDataType.tr_cs]; simp
theorem GDataType.cs_len (x : GDataType) : x.cs.length = 3 := rfl
def GBound.cs (x : GBound) : List Tr := [.leaf (.string x.gTrait), .leaf (.int .i64 x.gType.gKind), .leaf (.string x.gType.gName), .row 3 (GType.trs (x.gType.gArgs))]
def GBound.pv (x : GBound) : PV := .agg [.t (.leaf (.string x.gTrait)), .t (.leaf (.int .i64 x.gType.gKind)), .t (.leaf (.string x.gType.gName)), .t (.row 3 (GType.trs (x.gType.gArgs)))]
theorem GBound.tr_cs (x : GBound) : x.tr = x.cs := by
  obtain ⟨v0, v1⟩ := x
  simp [GBound.tr, GBound.cs, GType.tr_cs, GType.cs]
theorem GBound.trs_cs {l : List GBound} {k : Nat} (h : k < l.length) : (GBound.trs l)[k]? = some (l[k]).cs := by rw [← GBound.tr_cs]; exact GBound.trs_get h
theorem GBound.trs_snoc' (l : List GBound) (x : GBound) : GBound.trs l ++ [x.cs] = GBound.trs (l ++ [x]) := by rw [GBound.trs_map, GBound.trs_map, ← GBound.tr_cs]; simp
theorem GBound.cs_len (x : GBound) : x.cs.length = 4 := rfl
def GMethod.cs (x : GMethod) : List Tr := [.leaf (.string x.gName), .row 1 (strTrs (x.gVars)), .leaf (.int .i64 x.gBody.gKind), .leaf (.string x.gBody.gTrait), .leaf (.string x.gBody.gName), .leaf (.int .i64 x.gBody.gN), .leaf (.int .i64 x.gBody.gType.gKind), .leaf (.string x.gBody.gType.gName), .row 3 (GType.trs (x.gBody.gType.gArgs)), .row 9 (GExpr.trs (x.gBody.gArgs)), .row 11 (GArm.trs (x.gBody.gArms))]
def GMethod.pv (x : GMethod) : PV := .agg [.t (.leaf (.string x.gName)), .t (.row 1 (strTrs (x.gVars))), .t (.leaf (.int .i64 x.gBody.gKind)), .t (.leaf (.string x.gBody.gTrait)), .t (.leaf (.string x.gBody.gName)), .t (.leaf (.int .i64 x.gBody.gN)), .t (.leaf (.int .i64 x.gBody.gType.gKind)), .t (.leaf (.string x.gBody.gType.gName)), .t (.row 3 (GType.trs (x.gBody.gType.gArgs))), .t (.row 9 (GExpr.trs (x.gBody.gArgs))), .t (.row 11 (GArm.trs (x.gBody.gArms)))]
theorem GMethod.tr_cs (x : GMethod) : x.tr = x.cs := by
  obtain ⟨v0, v1, v2⟩ := x
  simp [GMethod.tr, GMethod.cs, GExpr.tr_cs, GExpr.cs]
theorem GMethod.trs_cs {l : List GMethod} {k : Nat} (h : k < l.length) : (GMethod.trs l)[k]? = some (l[k]).cs := by rw [← GMethod.tr_cs]; exact GMethod.trs_get h
theorem GMethod.trs_snoc' (l : List GMethod) (x : GMethod) : GMethod.trs l ++ [x.cs] = GMethod.trs (l ++ [x]) := by rw [GMethod.trs_map, GMethod.trs_map, ← GMethod.tr_cs]; simp
theorem GMethod.cs_len (x : GMethod) : x.cs.length = 11 := rfl
def GInstance.cs (x : GInstance) : List Tr := [.leaf (.string x.gTrait), .row 1 (strTrs (x.gVars)), .leaf (.int .i64 x.gHead.gKind), .leaf (.string x.gHead.gName), .row 3 (GType.trs (x.gHead.gArgs)), .row 4 (GBound.trs (x.gWhere)), .leaf (.bool x.gDefault), .leaf (.bool x.gHasAssoc), .leaf (.int .i64 x.gAssoc.gKind), .leaf (.string x.gAssoc.gName), .row 3 (GType.trs (x.gAssoc.gArgs)), .row 11 (GMethod.trs (x.gMethods))]
def GInstance.pv (x : GInstance) : PV := .agg [.t (.leaf (.string x.gTrait)), .t (.row 1 (strTrs (x.gVars))), .t (.leaf (.int .i64 x.gHead.gKind)), .t (.leaf (.string x.gHead.gName)), .t (.row 3 (GType.trs (x.gHead.gArgs))), .t (.row 4 (GBound.trs (x.gWhere))), .t (.leaf (.bool x.gDefault)), .t (.leaf (.bool x.gHasAssoc)), .t (.leaf (.int .i64 x.gAssoc.gKind)), .t (.leaf (.string x.gAssoc.gName)), .t (.row 3 (GType.trs (x.gAssoc.gArgs))), .t (.row 11 (GMethod.trs (x.gMethods)))]
theorem GInstance.tr_cs (x : GInstance) : x.tr = x.cs := by
  obtain ⟨v0, v1, v2, v3, v4, v5, v6, v7⟩ := x
  simp [GInstance.tr, GInstance.cs, GType.tr_cs, GType.cs]
theorem GInstance.trs_cs {l : List GInstance} {k : Nat} (h : k < l.length) : (GInstance.trs l)[k]? = some (l[k]).cs := by rw [← GInstance.tr_cs]; exact GInstance.trs_get h
theorem GInstance.trs_snoc' (l : List GInstance) (x : GInstance) : GInstance.trs l ++ [x.cs] = GInstance.trs (l ++ [x]) := by rw [GInstance.trs_map, GInstance.trs_map, ← GInstance.tr_cs]; simp
theorem GInstance.cs_len (x : GInstance) : x.cs.length = 12 := rfl
def GParam.cs (x : GParam) : List Tr := [.leaf (.string x.gName), .leaf (.int .i64 x.gType.gKind), .leaf (.string x.gType.gName), .row 3 (GType.trs (x.gType.gArgs))]
def GParam.pv (x : GParam) : PV := .agg [.t (.leaf (.string x.gName)), .t (.leaf (.int .i64 x.gType.gKind)), .t (.leaf (.string x.gType.gName)), .t (.row 3 (GType.trs (x.gType.gArgs)))]
theorem GParam.tr_cs (x : GParam) : x.tr = x.cs := by
  obtain ⟨v0, v1⟩ := x
  simp [GParam.tr, GParam.cs, GType.tr_cs, GType.cs]
theorem GParam.trs_cs {l : List GParam} {k : Nat} (h : k < l.length) : (GParam.trs l)[k]? = some (l[k]).cs := by rw [← GParam.tr_cs]; exact GParam.trs_get h
theorem GParam.trs_snoc' (l : List GParam) (x : GParam) : GParam.trs l ++ [x.cs] = GParam.trs (l ++ [x]) := by rw [GParam.trs_map, GParam.trs_map, ← GParam.tr_cs]; simp
theorem GParam.cs_len (x : GParam) : x.cs.length = 4 := rfl
def GFunction.cs (x : GFunction) : List Tr := [.leaf (.string x.gName), .row 1 (strTrs (x.gVars)), .row 4 (GBound.trs (x.gWhere)), .row 4 (GParam.trs (x.gParams)), .leaf (.int .i64 x.gResult.gKind), .leaf (.string x.gResult.gName), .row 3 (GType.trs (x.gResult.gArgs)), .leaf (.int .i64 x.gBody.gKind), .leaf (.string x.gBody.gTrait), .leaf (.string x.gBody.gName), .leaf (.int .i64 x.gBody.gN), .leaf (.int .i64 x.gBody.gType.gKind), .leaf (.string x.gBody.gType.gName), .row 3 (GType.trs (x.gBody.gType.gArgs)), .row 9 (GExpr.trs (x.gBody.gArgs)), .row 11 (GArm.trs (x.gBody.gArms))]
def GFunction.pv (x : GFunction) : PV := .agg [.t (.leaf (.string x.gName)), .t (.row 1 (strTrs (x.gVars))), .t (.row 4 (GBound.trs (x.gWhere))), .t (.row 4 (GParam.trs (x.gParams))), .t (.leaf (.int .i64 x.gResult.gKind)), .t (.leaf (.string x.gResult.gName)), .t (.row 3 (GType.trs (x.gResult.gArgs))), .t (.leaf (.int .i64 x.gBody.gKind)), .t (.leaf (.string x.gBody.gTrait)), .t (.leaf (.string x.gBody.gName)), .t (.leaf (.int .i64 x.gBody.gN)), .t (.leaf (.int .i64 x.gBody.gType.gKind)), .t (.leaf (.string x.gBody.gType.gName)), .t (.row 3 (GType.trs (x.gBody.gType.gArgs))), .t (.row 9 (GExpr.trs (x.gBody.gArgs))), .t (.row 11 (GArm.trs (x.gBody.gArms)))]
theorem GFunction.tr_cs (x : GFunction) : x.tr = x.cs := by
  obtain ⟨v0, v1, v2, v3, v4, v5⟩ := x
  simp [GFunction.tr, GFunction.cs, GType.tr_cs, GType.cs, GExpr.tr_cs, GExpr.cs]
theorem GFunction.trs_cs {l : List GFunction} {k : Nat} (h : k < l.length) : (GFunction.trs l)[k]? = some (l[k]).cs := by rw [← GFunction.tr_cs]; exact GFunction.trs_get h
theorem GFunction.trs_snoc' (l : List GFunction) (x : GFunction) : GFunction.trs l ++ [x.cs] = GFunction.trs (l ++ [x]) := by rw [GFunction.trs_map, GFunction.trs_map, ← GFunction.tr_cs]; simp
theorem GFunction.cs_len (x : GFunction) : x.cs.length = 16 := rfl
def GPackage.cs (x : GPackage) : List Tr := [.leaf (.string x.gName), .row 1 (strTrs (x.gDeps)), .row 5 (GTrait.trs (x.gTraits)), .row 3 (GDataType.trs (x.gDataTypes)), .row 12 (GInstance.trs (x.gInstances)), .row 16 (GFunction.trs (x.gFunctions))]
def GPackage.pv (x : GPackage) : PV := .agg [.t (.leaf (.string x.gName)), .t (.row 1 (strTrs (x.gDeps))), .t (.row 5 (GTrait.trs (x.gTraits))), .t (.row 3 (GDataType.trs (x.gDataTypes))), .t (.row 12 (GInstance.trs (x.gInstances))), .t (.row 16 (GFunction.trs (x.gFunctions)))]
theorem GPackage.tr_cs (x : GPackage) : x.tr = x.cs := by
  obtain ⟨v0, v1, v2, v3, v4, v5⟩ := x
  simp [GPackage.tr, GPackage.cs]
theorem GPackage.trs_cs {l : List GPackage} {k : Nat} (h : k < l.length) : (GPackage.trs l)[k]? = some (l[k]).cs := by rw [← GPackage.tr_cs]; exact GPackage.trs_get h
theorem GPackage.trs_snoc' (l : List GPackage) (x : GPackage) : GPackage.trs l ++ [x.cs] = GPackage.trs (l ++ [x]) := by rw [GPackage.trs_map, GPackage.trs_map, ← GPackage.tr_cs]; simp
theorem GPackage.cs_len (x : GPackage) : x.cs.length = 6 := rfl
def GProgram.cs (x : GProgram) : List Tr := [.row 6 (GPackage.trs (x.gPackages))]
def GProgram.pv (x : GProgram) : PV := .agg [.t (.row 6 (GPackage.trs (x.gPackages)))]
theorem GProgram.tr_cs (x : GProgram) : x.tr = x.cs := by
  obtain ⟨v0⟩ := x
  simp [GProgram.tr, GProgram.cs]
theorem GProgram.trs_cs {l : List GProgram} {k : Nat} (h : k < l.length) : (GProgram.trs l)[k]? = some (l[k]).cs := by rw [← GProgram.tr_cs]; exact GProgram.trs_get h
theorem GProgram.trs_snoc' (l : List GProgram) (x : GProgram) : GProgram.trs l ++ [x.cs] = GProgram.trs (l ++ [x]) := by rw [GProgram.trs_map, GProgram.trs_map, ← GProgram.tr_cs]; simp
theorem GProgram.cs_len (x : GProgram) : x.cs.length = 1 := rfl
def GEvidence.cs (x : GEvidence) : List Tr := [.leaf (.int .i64 x.gKind), .leaf (.int .i64 x.gN), .leaf (.int .i64 x.gAt.gPackage), .leaf (.int .i64 x.gAt.gAt), .row 5 (GEvidence.trs (x.gArgs))]
def GEvidence.pv (x : GEvidence) : PV := .agg [.t (.leaf (.int .i64 x.gKind)), .t (.leaf (.int .i64 x.gN)), .t (.leaf (.int .i64 x.gAt.gPackage)), .t (.leaf (.int .i64 x.gAt.gAt)), .t (.row 5 (GEvidence.trs (x.gArgs)))]
theorem GEvidence.tr_cs (x : GEvidence) : x.tr = x.cs := by
  obtain ⟨v0, v1, v2, v3⟩ := x
  simp [GEvidence.tr, GEvidence.cs, GInstanceRef.tr_cs, GInstanceRef.cs]
theorem GEvidence.trs_cs {l : List GEvidence} {k : Nat} (h : k < l.length) : (GEvidence.trs l)[k]? = some (l[k]).cs := by rw [← GEvidence.tr_cs]; exact GEvidence.trs_get h
theorem GEvidence.trs_snoc' (l : List GEvidence) (x : GEvidence) : GEvidence.trs l ++ [x.cs] = GEvidence.trs (l ++ [x]) := by rw [GEvidence.trs_map, GEvidence.trs_map, ← GEvidence.tr_cs]; simp
theorem GEvidence.cs_len (x : GEvidence) : x.cs.length = 5 := rfl
def GAssumption.cs (x : GAssumption) : List Tr := [.leaf (.string x.gGoal.gTrait), .leaf (.int .i64 x.gGoal.gType.gKind), .leaf (.string x.gGoal.gType.gName), .row 3 (GType.trs (x.gGoal.gType.gArgs)), .leaf (.int .i64 x.gFrom), .row 1 (intTrs (x.gSteps))]
def GAssumption.pv (x : GAssumption) : PV := .agg [.t (.leaf (.string x.gGoal.gTrait)), .t (.leaf (.int .i64 x.gGoal.gType.gKind)), .t (.leaf (.string x.gGoal.gType.gName)), .t (.row 3 (GType.trs (x.gGoal.gType.gArgs))), .t (.leaf (.int .i64 x.gFrom)), .t (.row 1 (intTrs (x.gSteps)))]
theorem GAssumption.tr_cs (x : GAssumption) : x.tr = x.cs := by
  obtain ⟨v0, v1, v2⟩ := x
  simp [GAssumption.tr, GAssumption.cs, GBound.tr_cs, GBound.cs]
theorem GAssumption.trs_cs {l : List GAssumption} {k : Nat} (h : k < l.length) : (GAssumption.trs l)[k]? = some (l[k]).cs := by rw [← GAssumption.tr_cs]; exact GAssumption.trs_get h
theorem GAssumption.trs_snoc' (l : List GAssumption) (x : GAssumption) : GAssumption.trs l ++ [x.cs] = GAssumption.trs (l ++ [x]) := by rw [GAssumption.trs_map, GAssumption.trs_map, ← GAssumption.tr_cs]; simp
theorem GAssumption.cs_len (x : GAssumption) : x.cs.length = 6 := rfl
def GCache.cs (x : GCache) : List Tr := [.row 4 (GBound.trs (x.gGoals)), .row 1 (intTrs (x.gCodes)), .row 5 (GEvidence.trs (x.gEvidence))]
def GCache.pv (x : GCache) : PV := .agg [.t (.row 4 (GBound.trs (x.gGoals))), .t (.row 1 (intTrs (x.gCodes))), .t (.row 5 (GEvidence.trs (x.gEvidence)))]
theorem GCache.tr_cs (x : GCache) : x.tr = x.cs := by
  obtain ⟨v0, v1, v2⟩ := x
  simp [GCache.tr, GCache.cs]
theorem GCache.trs_cs {l : List GCache} {k : Nat} (h : k < l.length) : (GCache.trs l)[k]? = some (l[k]).cs := by rw [← GCache.tr_cs]; exact GCache.trs_get h
theorem GCache.trs_snoc' (l : List GCache) (x : GCache) : GCache.trs l ++ [x.cs] = GCache.trs (l ++ [x]) := by rw [GCache.trs_map, GCache.trs_map, ← GCache.tr_cs]; simp
theorem GCache.cs_len (x : GCache) : x.cs.length = 3 := rfl
end Go.Proofs.YtnakkelglbcecaaGreat
