/- The laws' own helpers at the typed trees. No conditions. -/
import Derived.Test.YtnakkelglbcecaaGreatData
import Derived.Test.YtnakkelglbcecaaGreatBInstanceRef
import Derived.Test.YtnakkelglbcecaaGreatBType
import Derived.Test.YtnakkelglbcecaaGreatBBound
import Derived.Test.YtnakkelglbcecaaGreatBExpr
import Derived.Test.YtnakkelglbcecaaGreatBArm
import Derived.Test.YtnakkelglbcecaaGreatBMethod
import Derived.Test.YtnakkelglbcecaaGreatBInstance
import Derived.Test.YtnakkelglbcecaaGreatBSignature
import Derived.Test.YtnakkelglbcecaaGreatBTrait
import Derived.Test.YtnakkelglbcecaaGreatBConstructor
import Derived.Test.YtnakkelglbcecaaGreatBDataType
import Derived.Test.YtnakkelglbcecaaGreatBParam
import Derived.Test.YtnakkelglbcecaaGreatBFunction
import Derived.Test.YtnakkelglbcecaaGreatBPackage
import Derived.Test.YtnakkelglbcecaaGreatBProgram
import Derived.Test.YtnakkelglbcecaaGreatBLeaf
namespace Go.Proofs.YtnakkelglbcecaaGreat
open Go.RowKit Go.Proofs

theorem bulk0_InstanceRef (x : GInstanceRef) : Tr.bulkL x.tr = 0 := by
  obtain ⟨v0, v1⟩ := x
  simp [GInstanceRef.tr, Tr.bulkL, Tr.bulk]

theorem toInstanceRef_all (x : GInstanceRef) : ToC 18 x.tr := by
  obtain ⟨v0, v1⟩ := x
  exact toInstanceRef_of v0 v1

theorem eqInstanceRef_all (x : GInstanceRef) : EqC 25 x.tr := by
  obtain ⟨v0, v1⟩ := x
  exact eqInstanceRef_of v0 v1

theorem eqInstanceRefS_all (l : List GInstanceRef) : EqSC 40 2 (GInstanceRef.trs l) := eqInstanceRefS_of _ (GInstanceRef.sz l) (GInstanceRef.all fun x _ => eqInstanceRef_all x)

theorem szType_all : ∀ x : GType, SzC 43 x.tr :=
  GType.ind fun v0 v1 v2 ih => szType_of v0 v1 (GType.trs v2) (szTypeS_of _ (GType.sz v2) (GType.all ih))

theorem szTypeS_all (l : List GType) : SzSC 101 3 (GType.trs l) := szTypeS_of _ (GType.sz l) (GType.all fun x _ => szType_all x)

theorem toType_all : ∀ x : GType, ToC 45 x.tr :=
  GType.ind fun v0 v1 v2 ih => toType_of v0 v1 (GType.trs v2) (toTypeS_of _ (GType.sz v2) (GType.all ih))

theorem toTypeS_all (l : List GType) : ToSC 104 3 (GType.trs l) := toTypeS_of _ (GType.sz l) (GType.all fun x _ => toType_all x)

theorem eqType_all : ∀ x : GType, EqC 47 x.tr :=
  GType.ind fun v0 v1 v2 ih => eqType_of v0 v1 (GType.trs v2) (eqTypeS_of _ (GType.sz v2) (GType.all ih))

theorem eqTypeS_all (l : List GType) : EqSC 107 3 (GType.trs l) := eqTypeS_of _ (GType.sz l) (GType.all fun x _ => eqType_all x)

theorem szBound_all (x : GBound) : SzC 21 x.tr := by
  obtain ⟨v0, v1⟩ := x
  exact szBound_of v0 (GType.tr v1) (GType.tr_len v1) (szType_all v1)

theorem szBoundS_all (l : List GBound) : SzSC 50 4 (GBound.trs l) := szBoundS_of _ (GBound.sz l) (GBound.all fun x _ => szBound_all x)

theorem toBound_all (x : GBound) : ToC 23 x.tr := by
  obtain ⟨v0, v1⟩ := x
  exact toBound_of v0 (GType.tr v1) (GType.tr_len v1) (toType_all v1)

theorem toBoundS_all (l : List GBound) : ToSC 52 4 (GBound.trs l) := toBoundS_of _ (GBound.sz l) (GBound.all fun x _ => toBound_all x)

theorem eqBound_all (x : GBound) : EqC 26 x.tr := by
  obtain ⟨v0, v1⟩ := x
  exact eqBound_of v0 (GType.tr v1) (GType.tr_len v1) (eqType_all v1)

theorem eqBoundS_all (l : List GBound) : EqSC 55 4 (GBound.trs l) := eqBoundS_of _ (GBound.sz l) (GBound.all fun x _ => eqBound_all x)

theorem szArm_in (x : GArm) (h : SzC 220 x.gBody.tr) : SzC 245 x.tr := by
  obtain ⟨v0, v1, v2⟩ := x
  exact szArm_of v0 (strTrs v1) (GExpr.tr v2) (GExpr.tr_len v2) (szStringS_all v1) h

theorem szExpr_all : ∀ x : GExpr, SzC 220 x.tr :=
  GExpr.ind fun v0 v1 v2 v3 v4 v5 v6 ih5 ih6 => szExpr_of v0 v1 v2 v3 (GType.tr v4) (GType.tr_len v4) (GExpr.trs v5) (GArm.trs v6) (szType_all v4) (szExprS_of _ (GExpr.sz v5) (GExpr.all ih5)) (szArmS_of _ (GArm.sz v6) (GArm.all fun x hx => szArm_in x (ih6 x hx)))

theorem szExprS_all (l : List GExpr) : SzSC 234 9 (GExpr.trs l) := szExprS_of _ (GExpr.sz l) (GExpr.all fun x _ => szExpr_all x)

theorem toArm_in (x : GArm) (h : ToC 225 x.gBody.tr) : ToC 246 x.tr := by
  obtain ⟨v0, v1, v2⟩ := x
  exact toArm_of v0 (strTrs v1) (GExpr.tr v2) (GExpr.tr_len v2) (toStringS_all v1) h

theorem toExpr_all : ∀ x : GExpr, ToC 225 x.tr :=
  GExpr.ind fun v0 v1 v2 v3 v4 v5 v6 ih5 ih6 => toExpr_of v0 v1 v2 v3 (GType.tr v4) (GType.tr_len v4) (GExpr.trs v5) (GArm.trs v6) (toType_all v4) (toExprS_of _ (GExpr.sz v5) (GExpr.all ih5)) (toArmS_of _ (GArm.sz v6) (GArm.all fun x hx => toArm_in x (ih6 x hx)))

theorem toExprS_all (l : List GExpr) : ToSC 240 9 (GExpr.trs l) := toExprS_of _ (GExpr.sz l) (GExpr.all fun x _ => toExpr_all x)

theorem eqArm_in (x : GArm) (h : EqC 130 x.gBody.tr) : EqC 202 x.tr := by
  obtain ⟨v0, v1, v2⟩ := x
  exact eqArm_of v0 (strTrs v1) (GExpr.tr v2) (GExpr.tr_len v2) (eqStringS_all v1) h

theorem eqExpr_all : ∀ x : GExpr, EqC 130 x.tr :=
  GExpr.ind fun v0 v1 v2 v3 v4 v5 v6 ih5 ih6 => eqExpr_of v0 v1 v2 v3 (GType.tr v4) (GType.tr_len v4) (GExpr.trs v5) (GArm.trs v6) (eqType_all v4) (eqExprS_of _ (GExpr.sz v5) (GExpr.all ih5)) (eqArmS_of _ (GArm.sz v6) (GArm.all fun x hx => eqArm_in x (ih6 x hx)))

theorem eqExprS_all (l : List GExpr) : EqSC 176 9 (GExpr.trs l) := eqExprS_of _ (GExpr.sz l) (GExpr.all fun x _ => eqExpr_all x)

theorem szMethod_all (x : GMethod) : SzC 232 x.tr := by
  obtain ⟨v0, v1, v2⟩ := x
  exact szMethod_of v0 (strTrs v1) (GExpr.tr v2) (GExpr.tr_len v2) (szStringS_all v1) (szExpr_all v2)

theorem szMethodS_all (l : List GMethod) : SzSC 218 11 (GMethod.trs l) := szMethodS_of _ (GMethod.sz l) (GMethod.all fun x _ => szMethod_all x)

theorem toMethod_all (x : GMethod) : ToC 238 x.tr := by
  obtain ⟨v0, v1, v2⟩ := x
  exact toMethod_of v0 (strTrs v1) (GExpr.tr v2) (GExpr.tr_len v2) (toStringS_all v1) (toExpr_all v2)

theorem toMethodS_all (l : List GMethod) : ToSC 223 11 (GMethod.trs l) := toMethodS_of _ (GMethod.sz l) (GMethod.all fun x _ => toMethod_all x)

theorem eqMethod_all (x : GMethod) : EqC 243 x.tr := by
  obtain ⟨v0, v1, v2⟩ := x
  exact eqMethod_of v0 (strTrs v1) (GExpr.tr v2) (GExpr.tr_len v2) (eqStringS_all v1) (eqExpr_all v2)

theorem eqMethodS_all (l : List GMethod) : EqSC 227 11 (GMethod.trs l) := eqMethodS_of _ (GMethod.sz l) (GMethod.all fun x _ => eqMethod_all x)

theorem szInstance_all (x : GInstance) : SzC 205 x.tr := by
  obtain ⟨v0, v1, v2, v3, v4, v5, v6, v7⟩ := x
  exact szInstance_of v0 (strTrs v1) (GType.tr v2) (GType.tr_len v2) (GBound.trs v3) v4 v5 (GType.tr v6) (GType.tr_len v6) (GMethod.trs v7) (szStringS_all v1) (szType_all v2) (szBoundS_all v3) (szType_all v6) (szMethodS_all v7)

theorem szInstanceS_all (l : List GInstance) : SzSC 181 12 (GInstance.trs l) := szInstanceS_of _ (GInstance.sz l) (GInstance.all fun x _ => szInstance_all x)

theorem toInstance_all (x : GInstance) : ToC 209 x.tr := by
  obtain ⟨v0, v1, v2, v3, v4, v5, v6, v7⟩ := x
  exact toInstance_of v0 (strTrs v1) (GType.tr v2) (GType.tr_len v2) (GBound.trs v3) v4 v5 (GType.tr v6) (GType.tr_len v6) (GMethod.trs v7) (toStringS_all v1) (toType_all v2) (toBoundS_all v3) (toType_all v6) (toMethodS_all v7)

theorem toInstanceS_all (l : List GInstance) : ToSC 186 12 (GInstance.trs l) := toInstanceS_of _ (GInstance.sz l) (GInstance.all fun x _ => toInstance_all x)

theorem eqInstance_all (x : GInstance) : EqC 212 x.tr := by
  obtain ⟨v0, v1, v2, v3, v4, v5, v6, v7⟩ := x
  exact eqInstance_of v0 (strTrs v1) (GType.tr v2) (GType.tr_len v2) (GBound.trs v3) v4 v5 (GType.tr v6) (GType.tr_len v6) (GMethod.trs v7) (eqStringS_all v1) (eqType_all v2) (eqBoundS_all v3) (eqType_all v6) (eqMethodS_all v7)

theorem eqInstanceS_all (l : List GInstance) : EqSC 190 12 (GInstance.trs l) := eqInstanceS_of _ (GInstance.sz l) (GInstance.all fun x _ => eqInstance_all x)

theorem szSignature_all (x : GSignature) : SzC 230 x.tr := by
  obtain ⟨v0, v1, v2, v3, v4, v5⟩ := x
  exact szSignature_of v0 (GType.trs v1) (GType.tr v2) (GType.tr_len v2) v3 (strTrs v4) (GExpr.tr v5) (GExpr.tr_len v5) (szTypeS_all v1) (szType_all v2) (szStringS_all v4) (szExpr_all v5)

theorem szSignatureS_all (l : List GSignature) : SzSC 216 16 (GSignature.trs l) := szSignatureS_of _ (GSignature.sz l) (GSignature.all fun x _ => szSignature_all x)

theorem toSignature_all (x : GSignature) : ToC 236 x.tr := by
  obtain ⟨v0, v1, v2, v3, v4, v5⟩ := x
  exact toSignature_of v0 (GType.trs v1) (GType.tr v2) (GType.tr_len v2) v3 (strTrs v4) (GExpr.tr v5) (GExpr.tr_len v5) (toTypeS_all v1) (toType_all v2) (toStringS_all v4) (toExpr_all v5)

theorem toSignatureS_all (l : List GSignature) : ToSC 221 16 (GSignature.trs l) := toSignatureS_of _ (GSignature.sz l) (GSignature.all fun x _ => toSignature_all x)

theorem eqSignature_all (x : GSignature) : EqC 167 x.tr := by
  obtain ⟨v0, v1, v2, v3, v4, v5⟩ := x
  exact eqSignature_of v0 (GType.trs v1) (GType.tr v2) (GType.tr_len v2) v3 (strTrs v4) (GExpr.tr v5) (GExpr.tr_len v5) (eqTypeS_all v1) (eqType_all v2) (eqStringS_all v4) (eqExpr_all v5)

theorem eqSignatureS_all (l : List GSignature) : EqSC 122 16 (GSignature.trs l) := eqSignatureS_of _ (GSignature.sz l) (GSignature.all fun x _ => eqSignature_all x)

theorem szTrait_all (x : GTrait) : SzC 203 x.tr := by
  obtain ⟨v0, v1, v2, v3, v4⟩ := x
  exact szTrait_of v0 (strTrs v1) v2 v3 (GSignature.trs v4) (szStringS_all v1) (szSignatureS_all v4)

theorem szTraitS_all (l : List GTrait) : SzSC 179 5 (GTrait.trs l) := szTraitS_of _ (GTrait.sz l) (GTrait.all fun x _ => szTrait_all x)

theorem toTrait_all (x : GTrait) : ToC 207 x.tr := by
  obtain ⟨v0, v1, v2, v3, v4⟩ := x
  exact toTrait_of v0 (strTrs v1) v2 v3 (GSignature.trs v4) (toStringS_all v1) (toSignatureS_all v4)

theorem toTraitS_all (l : List GTrait) : ToSC 184 5 (GTrait.trs l) := toTraitS_of _ (GTrait.sz l) (GTrait.all fun x _ => toTrait_all x)

theorem eqTrait_all (x : GTrait) : EqC 68 x.tr := by
  obtain ⟨v0, v1, v2, v3, v4⟩ := x
  exact eqTrait_of v0 (strTrs v1) v2 v3 (GSignature.trs v4) (eqStringS_all v1) (eqSignatureS_all v4)

theorem eqTraitS_all (l : List GTrait) : EqSC 188 5 (GTrait.trs l) := eqTraitS_of _ (GTrait.sz l) (GTrait.all fun x _ => eqTrait_all x)

theorem szConstructor_all (x : GConstructor) : SzC 231 x.tr := by
  obtain ⟨v0, v1⟩ := x
  exact szConstructor_of v0 (GType.trs v1) (szTypeS_all v1)

theorem szConstructorS_all (l : List GConstructor) : SzSC 217 2 (GConstructor.trs l) := szConstructorS_of _ (GConstructor.sz l) (GConstructor.all fun x _ => szConstructor_all x)

theorem toConstructor_all (x : GConstructor) : ToC 237 x.tr := by
  obtain ⟨v0, v1⟩ := x
  exact toConstructor_of v0 (GType.trs v1) (toTypeS_all v1)

theorem toConstructorS_all (l : List GConstructor) : ToSC 222 2 (GConstructor.trs l) := toConstructorS_of _ (GConstructor.sz l) (GConstructor.all fun x _ => toConstructor_all x)

theorem eqConstructor_all (x : GConstructor) : EqC 242 x.tr := by
  obtain ⟨v0, v1⟩ := x
  exact eqConstructor_of v0 (GType.trs v1) (eqTypeS_all v1)

theorem eqConstructorS_all (l : List GConstructor) : EqSC 226 2 (GConstructor.trs l) := eqConstructorS_of _ (GConstructor.sz l) (GConstructor.all fun x _ => eqConstructor_all x)

theorem szDataType_all (x : GDataType) : SzC 204 x.tr := by
  obtain ⟨v0, v1, v2⟩ := x
  exact szDataType_of v0 (strTrs v1) (GConstructor.trs v2) (szStringS_all v1) (szConstructorS_all v2)

theorem szDataTypeS_all (l : List GDataType) : SzSC 180 3 (GDataType.trs l) := szDataTypeS_of _ (GDataType.sz l) (GDataType.all fun x _ => szDataType_all x)

theorem toDataType_all (x : GDataType) : ToC 208 x.tr := by
  obtain ⟨v0, v1, v2⟩ := x
  exact toDataType_of v0 (strTrs v1) (GConstructor.trs v2) (toStringS_all v1) (toConstructorS_all v2)

theorem toDataTypeS_all (l : List GDataType) : ToSC 185 3 (GDataType.trs l) := toDataTypeS_of _ (GDataType.sz l) (GDataType.all fun x _ => toDataType_all x)

theorem eqDataType_all (x : GDataType) : EqC 211 x.tr := by
  obtain ⟨v0, v1, v2⟩ := x
  exact eqDataType_of v0 (strTrs v1) (GConstructor.trs v2) (eqStringS_all v1) (eqConstructorS_all v2)

theorem eqDataTypeS_all (l : List GDataType) : EqSC 189 3 (GDataType.trs l) := eqDataTypeS_of _ (GDataType.sz l) (GDataType.all fun x _ => eqDataType_all x)

theorem szParam_all (x : GParam) : SzC 233 x.tr := by
  obtain ⟨v0, v1⟩ := x
  exact szParam_of v0 (GType.tr v1) (GType.tr_len v1) (szType_all v1)

theorem szParamS_all (l : List GParam) : SzSC 219 4 (GParam.trs l) := szParamS_of _ (GParam.sz l) (GParam.all fun x _ => szParam_all x)

theorem toParam_all (x : GParam) : ToC 239 x.tr := by
  obtain ⟨v0, v1⟩ := x
  exact toParam_of v0 (GType.tr v1) (GType.tr_len v1) (toType_all v1)

theorem toParamS_all (l : List GParam) : ToSC 224 4 (GParam.trs l) := toParamS_of _ (GParam.sz l) (GParam.all fun x _ => toParam_all x)

theorem eqParam_all (x : GParam) : EqC 175 x.tr := by
  obtain ⟨v0, v1⟩ := x
  exact eqParam_of v0 (GType.tr v1) (GType.tr_len v1) (eqType_all v1)

theorem eqParamS_all (l : List GParam) : EqSC 129 4 (GParam.trs l) := eqParamS_of _ (GParam.sz l) (GParam.all fun x _ => eqParam_all x)

theorem szFunction_all (x : GFunction) : SzC 206 x.tr := by
  obtain ⟨v0, v1, v2, v3, v4, v5⟩ := x
  exact szFunction_of v0 (strTrs v1) (GBound.trs v2) (GParam.trs v3) (GType.tr v4) (GType.tr_len v4) (GExpr.tr v5) (GExpr.tr_len v5) (szStringS_all v1) (szBoundS_all v2) (szParamS_all v3) (szType_all v4) (szExpr_all v5)

theorem szFunctionS_all (l : List GFunction) : SzSC 182 16 (GFunction.trs l) := szFunctionS_of _ (GFunction.sz l) (GFunction.all fun x _ => szFunction_all x)

theorem toFunction_all (x : GFunction) : ToC 210 x.tr := by
  obtain ⟨v0, v1, v2, v3, v4, v5⟩ := x
  exact toFunction_of v0 (strTrs v1) (GBound.trs v2) (GParam.trs v3) (GType.tr v4) (GType.tr_len v4) (GExpr.tr v5) (GExpr.tr_len v5) (toStringS_all v1) (toBoundS_all v2) (toParamS_all v3) (toType_all v4) (toExpr_all v5)

theorem toFunctionS_all (l : List GFunction) : ToSC 187 16 (GFunction.trs l) := toFunctionS_of _ (GFunction.sz l) (GFunction.all fun x _ => toFunction_all x)

theorem eqFunction_all (x : GFunction) : EqC 73 x.tr := by
  obtain ⟨v0, v1, v2, v3, v4, v5⟩ := x
  exact eqFunction_of v0 (strTrs v1) (GBound.trs v2) (GParam.trs v3) (GType.tr v4) (GType.tr_len v4) (GExpr.tr v5) (GExpr.tr_len v5) (eqStringS_all v1) (eqBoundS_all v2) (eqParamS_all v3) (eqType_all v4) (eqExpr_all v5)

theorem eqFunctionS_all (l : List GFunction) : EqSC 191 16 (GFunction.trs l) := eqFunctionS_of _ (GFunction.sz l) (GFunction.all fun x _ => eqFunction_all x)

theorem szPackage_all (x : GPackage) : SzC 136 x.tr := by
  obtain ⟨v0, v1, v2, v3, v4, v5⟩ := x
  exact szPackage_of v0 (strTrs v1) (GTrait.trs v2) (GDataType.trs v3) (GInstance.trs v4) (GFunction.trs v5) (szStringS_all v1) (szTraitS_all v2) (szDataTypeS_all v3) (szInstanceS_all v4) (szFunctionS_all v5)

theorem szPackageS_all (l : List GPackage) : SzSC 76 6 (GPackage.trs l) := szPackageS_of _ (GPackage.sz l) (GPackage.all fun x _ => szPackage_all x)

theorem toPackage_all (x : GPackage) : ToC 140 x.tr := by
  obtain ⟨v0, v1, v2, v3, v4, v5⟩ := x
  exact toPackage_of v0 (strTrs v1) (GTrait.trs v2) (GDataType.trs v3) (GInstance.trs v4) (GFunction.trs v5) (toStringS_all v1) (toTraitS_all v2) (toDataTypeS_all v3) (toInstanceS_all v4) (toFunctionS_all v5)

theorem toPackageS_all (l : List GPackage) : ToSC 80 6 (GPackage.trs l) := toPackageS_of _ (GPackage.sz l) (GPackage.all fun x _ => toPackage_all x)

theorem eqPackage_all (x : GPackage) : EqC 143 x.tr := by
  obtain ⟨v0, v1, v2, v3, v4, v5⟩ := x
  exact eqPackage_of v0 (strTrs v1) (GTrait.trs v2) (GDataType.trs v3) (GInstance.trs v4) (GFunction.trs v5) (eqStringS_all v1) (eqTraitS_all v2) (eqDataTypeS_all v3) (eqInstanceS_all v4) (eqFunctionS_all v5)

theorem eqPackageS_all (l : List GPackage) : EqSC 84 6 (GPackage.trs l) := eqPackageS_of _ (GPackage.sz l) (GPackage.all fun x _ => eqPackage_all x)

theorem szProgram_all (x : GProgram) : SzC 15 x.tr := by
  obtain ⟨v0⟩ := x
  exact szProgram_of (GPackage.trs v0) (szPackageS_all v0)

theorem toProgram_all (x : GProgram) : ToC 17 x.tr := by
  obtain ⟨v0⟩ := x
  exact toProgram_of (GPackage.trs v0) (toPackageS_all v0)

theorem eqProgram_all (x : GProgram) : EqC 20 x.tr := by
  obtain ⟨v0⟩ := x
  exact eqProgram_of (GPackage.trs v0) (eqPackageS_all v0)

end Go.Proofs.YtnakkelglbcecaaGreat
