/- The laws' own helpers at the typed trees. No conditions. -/
import Derived.Test.YtoifjkggpanceaaData
import Derived.Test.YtoifjkggpanceaaBInstanceRef
import Derived.Test.YtoifjkggpanceaaBEvidence
import Derived.Test.YtoifjkggpanceaaBType
import Derived.Test.YtoifjkggpanceaaBBound
import Derived.Test.YtoifjkggpanceaaBAssumption
import Derived.Test.YtoifjkggpanceaaBCache
import Derived.Test.YtoifjkggpanceaaBArm
import Derived.Test.YtoifjkggpanceaaBExpr
import Derived.Test.YtoifjkggpanceaaBMethod
import Derived.Test.YtoifjkggpanceaaBInstance
import Derived.Test.YtoifjkggpanceaaBLeaf
namespace Go.Proofs.Ytoifjkggpanceaa
open Go.RowKit Go.Proofs

theorem bulk0_InstanceRef (x : GInstanceRef) : Tr.bulkL x.tr = 0 := by
  obtain ⟨v0, v1⟩ := x
  simp [GInstanceRef.tr, Tr.bulkL, Tr.bulk]

theorem toInstanceRef_all (x : GInstanceRef) : ToC 91 x.tr := by
  obtain ⟨v0, v1⟩ := x
  exact toInstanceRef_of v0 v1

theorem eqInstanceRef_all (x : GInstanceRef) : EqC 94 x.tr := by
  obtain ⟨v0, v1⟩ := x
  exact eqInstanceRef_of v0 v1

theorem szEvidence_all : ∀ x : GEvidence, SzC 23 x.tr :=
  GEvidence.ind fun v0 v1 v2 v3 ih => szEvidence_of v0 v1 (GInstanceRef.tr v2) (GInstanceRef.tr_len v2) (GEvidence.trs v3) (szEvidenceS_of _ (GEvidence.sz v3) (GEvidence.all ih)) (bulk0_InstanceRef v2)

theorem szEvidenceS_all (l : List GEvidence) : SzSC 89 5 (GEvidence.trs l) := szEvidenceS_of _ (GEvidence.sz l) (GEvidence.all fun x _ => szEvidence_all x)

theorem toEvidence_all : ∀ x : GEvidence, ToC 25 x.tr :=
  GEvidence.ind fun v0 v1 v2 v3 ih => toEvidence_of v0 v1 (GInstanceRef.tr v2) (GInstanceRef.tr_len v2) (GEvidence.trs v3) (toInstanceRef_all v2) (toEvidenceS_of _ (GEvidence.sz v3) (GEvidence.all ih))

theorem toEvidenceS_all (l : List GEvidence) : ToSC 92 5 (GEvidence.trs l) := toEvidenceS_of _ (GEvidence.sz l) (GEvidence.all fun x _ => toEvidence_all x)

theorem eqEvidence_all : ∀ x : GEvidence, EqC 28 x.tr :=
  GEvidence.ind fun v0 v1 v2 v3 ih => eqEvidence_of v0 v1 (GInstanceRef.tr v2) (GInstanceRef.tr_len v2) (GEvidence.trs v3) (eqInstanceRef_all v2) (eqEvidenceS_of _ (GEvidence.sz v3) (GEvidence.all ih))

theorem eqEvidenceS_all (l : List GEvidence) : EqSC 95 5 (GEvidence.trs l) := eqEvidenceS_of _ (GEvidence.sz l) (GEvidence.all fun x _ => eqEvidence_all x)

theorem szType_all : ∀ x : GType, SzC 16 x.tr :=
  GType.ind fun v0 v1 v2 ih => szType_of v0 v1 (GType.trs v2) (szTypeS_of _ (GType.sz v2) (GType.all ih))

theorem szTypeS_all (l : List GType) : SzSC 81 3 (GType.trs l) := szTypeS_of _ (GType.sz l) (GType.all fun x _ => szType_all x)

theorem toType_all : ∀ x : GType, ToC 19 x.tr :=
  GType.ind fun v0 v1 v2 ih => toType_of v0 v1 (GType.trs v2) (toTypeS_of _ (GType.sz v2) (GType.all ih))

theorem toTypeS_all (l : List GType) : ToSC 85 3 (GType.trs l) := toTypeS_of _ (GType.sz l) (GType.all fun x _ => toType_all x)

theorem eqType_all : ∀ x : GType, EqC 22 x.tr :=
  GType.ind fun v0 v1 v2 ih => eqType_of v0 v1 (GType.trs v2) (eqTypeS_of _ (GType.sz v2) (GType.all ih))

theorem eqTypeS_all (l : List GType) : EqSC 88 3 (GType.trs l) := eqTypeS_of _ (GType.sz l) (GType.all fun x _ => eqType_all x)

theorem szBound_all (x : GBound) : SzC 15 x.tr := by
  obtain ⟨v0, v1⟩ := x
  exact szBound_of v0 (GType.tr v1) (GType.tr_len v1) (szType_all v1)

theorem szBoundS_all (l : List GBound) : SzSC 132 4 (GBound.trs l) := szBoundS_of _ (GBound.sz l) (GBound.all fun x _ => szBound_all x)

theorem toBound_all (x : GBound) : ToC 18 x.tr := by
  obtain ⟨v0, v1⟩ := x
  exact toBound_of v0 (GType.tr v1) (GType.tr_len v1) (toType_all v1)

theorem toBoundS_all (l : List GBound) : ToSC 134 4 (GBound.trs l) := toBoundS_of _ (GBound.sz l) (GBound.all fun x _ => toBound_all x)

theorem eqBound_all (x : GBound) : EqC 21 x.tr := by
  obtain ⟨v0, v1⟩ := x
  exact eqBound_of v0 (GType.tr v1) (GType.tr_len v1) (eqType_all v1)

theorem eqBoundS_all (l : List GBound) : EqSC 51 4 (GBound.trs l) := eqBoundS_of _ (GBound.sz l) (GBound.all fun x _ => eqBound_all x)

theorem szAssumption_all (x : GAssumption) : SzC 109 x.tr := by
  obtain ⟨v0, v1, v2⟩ := x
  exact szAssumption_of (GBound.tr v0) (GBound.tr_len v0) v1 (intTrs v2) (szBound_all v0) (szIntS_all v2)

theorem szAssumptionS_all (l : List GAssumption) : SzSC 44 6 (GAssumption.trs l) := szAssumptionS_of _ (GAssumption.sz l) (GAssumption.all fun x _ => szAssumption_all x)

theorem toAssumption_all (x : GAssumption) : ToC 111 x.tr := by
  obtain ⟨v0, v1, v2⟩ := x
  exact toAssumption_of (GBound.tr v0) (GBound.tr_len v0) v1 (intTrs v2) (toBound_all v0) (toIntS_all v2)

theorem toAssumptionS_all (l : List GAssumption) : ToSC 46 6 (GAssumption.trs l) := toAssumptionS_of _ (GAssumption.sz l) (GAssumption.all fun x _ => toAssumption_all x)

theorem eqAssumption_all (x : GAssumption) : EqC 114 x.tr := by
  obtain ⟨v0, v1, v2⟩ := x
  exact eqAssumption_of (GBound.tr v0) (GBound.tr_len v0) v1 (intTrs v2) (eqBound_all v0) (eqIntS_all v2)

theorem eqAssumptionS_all (l : List GAssumption) : EqSC 48 6 (GAssumption.trs l) := eqAssumptionS_of _ (GAssumption.sz l) (GAssumption.all fun x _ => eqAssumption_all x)

theorem szCache_all (x : GCache) : SzC 60 x.tr := by
  obtain ⟨v0, v1, v2⟩ := x
  exact szCache_of (GBound.trs v0) (intTrs v1) (GEvidence.trs v2) (szBoundS_all v0) (szIntS_all v1) (szEvidenceS_all v2)

theorem toCache_all (x : GCache) : ToC 62 x.tr := by
  obtain ⟨v0, v1, v2⟩ := x
  exact toCache_of (GBound.trs v0) (intTrs v1) (GEvidence.trs v2) (toBoundS_all v0) (toIntS_all v1) (toEvidenceS_all v2)

theorem eqCache_all (x : GCache) : EqC 64 x.tr := by
  obtain ⟨v0, v1, v2⟩ := x
  exact eqCache_of (GBound.trs v0) (intTrs v1) (GEvidence.trs v2) (eqBoundS_all v0) (eqIntS_all v1) (eqEvidenceS_all v2)

theorem szArm_in (x : GArm) (h : SzC 227 x.gBody.tr) : SzC 258 x.tr := by
  obtain ⟨v0, v1, v2⟩ := x
  exact szArm_of v0 (strTrs v1) (GExpr.tr v2) (GExpr.tr_len v2) (szStringS_all v1) h

theorem szExpr_all : ∀ x : GExpr, SzC 227 x.tr :=
  GExpr.ind fun v0 v1 v2 v3 v4 v5 v6 ih5 ih6 => szExpr_of v0 v1 v2 v3 (GType.tr v4) (GType.tr_len v4) (GExpr.trs v5) (GArm.trs v6) (szType_all v4) (szExprS_of _ (GExpr.sz v5) (GExpr.all ih5)) (szArmS_of _ (GArm.sz v6) (GArm.all fun x hx => szArm_in x (ih6 x hx)))

theorem szExprS_all (l : List GExpr) : SzSC 246 9 (GExpr.trs l) := szExprS_of _ (GExpr.sz l) (GExpr.all fun x _ => szExpr_all x)

theorem toArm_in (x : GArm) (h : ToC 228 x.gBody.tr) : ToC 259 x.tr := by
  obtain ⟨v0, v1, v2⟩ := x
  exact toArm_of v0 (strTrs v1) (GExpr.tr v2) (GExpr.tr_len v2) (toStringS_all v1) h

theorem toExpr_all : ∀ x : GExpr, ToC 228 x.tr :=
  GExpr.ind fun v0 v1 v2 v3 v4 v5 v6 ih5 ih6 => toExpr_of v0 v1 v2 v3 (GType.tr v4) (GType.tr_len v4) (GExpr.trs v5) (GArm.trs v6) (toType_all v4) (toExprS_of _ (GExpr.sz v5) (GExpr.all ih5)) (toArmS_of _ (GArm.sz v6) (GArm.all fun x hx => toArm_in x (ih6 x hx)))

theorem toExprS_all (l : List GExpr) : ToSC 248 9 (GExpr.trs l) := toExprS_of _ (GExpr.sz l) (GExpr.all fun x _ => toExpr_all x)

theorem eqArm_in (x : GArm) (h : EqC 229 x.gBody.tr) : EqC 260 x.tr := by
  obtain ⟨v0, v1, v2⟩ := x
  exact eqArm_of v0 (strTrs v1) (GExpr.tr v2) (GExpr.tr_len v2) (eqStringS_all v1) h

theorem eqExpr_all : ∀ x : GExpr, EqC 229 x.tr :=
  GExpr.ind fun v0 v1 v2 v3 v4 v5 v6 ih5 ih6 => eqExpr_of v0 v1 v2 v3 (GType.tr v4) (GType.tr_len v4) (GExpr.trs v5) (GArm.trs v6) (eqType_all v4) (eqExprS_of _ (GExpr.sz v5) (GExpr.all ih5)) (eqArmS_of _ (GArm.sz v6) (GArm.all fun x hx => eqArm_in x (ih6 x hx)))

theorem eqExprS_all (l : List GExpr) : EqSC 250 9 (GExpr.trs l) := eqExprS_of _ (GExpr.sz l) (GExpr.all fun x _ => eqExpr_all x)

theorem szMethod_all (x : GMethod) : SzC 191 x.tr := by
  obtain ⟨v0, v1, v2⟩ := x
  exact szMethod_of v0 (strTrs v1) (GExpr.tr v2) (GExpr.tr_len v2) (szStringS_all v1) (szExpr_all v2)

theorem szMethodS_all (l : List GMethod) : SzSC 150 11 (GMethod.trs l) := szMethodS_of _ (GMethod.sz l) (GMethod.all fun x _ => szMethod_all x)

theorem toMethod_all (x : GMethod) : ToC 192 x.tr := by
  obtain ⟨v0, v1, v2⟩ := x
  exact toMethod_of v0 (strTrs v1) (GExpr.tr v2) (GExpr.tr_len v2) (toStringS_all v1) (toExpr_all v2)

theorem toMethodS_all (l : List GMethod) : ToSC 152 11 (GMethod.trs l) := toMethodS_of _ (GMethod.sz l) (GMethod.all fun x _ => toMethod_all x)

theorem eqMethod_all (x : GMethod) : EqC 193 x.tr := by
  obtain ⟨v0, v1, v2⟩ := x
  exact eqMethod_of v0 (strTrs v1) (GExpr.tr v2) (GExpr.tr_len v2) (eqStringS_all v1) (eqExpr_all v2)

theorem eqMethodS_all (l : List GMethod) : EqSC 154 11 (GMethod.trs l) := eqMethodS_of _ (GMethod.sz l) (GMethod.all fun x _ => eqMethod_all x)

theorem szInstance_all (x : GInstance) : SzC 74 x.tr := by
  obtain ⟨v0, v1, v2, v3, v4, v5, v6, v7⟩ := x
  exact szInstance_of v0 (strTrs v1) (GType.tr v2) (GType.tr_len v2) (GBound.trs v3) v4 v5 (GType.tr v6) (GType.tr_len v6) (GMethod.trs v7) (szStringS_all v1) (szType_all v2) (szBoundS_all v3) (szType_all v6) (szMethodS_all v7)

theorem toInstance_all (x : GInstance) : ToC 75 x.tr := by
  obtain ⟨v0, v1, v2, v3, v4, v5, v6, v7⟩ := x
  exact toInstance_of v0 (strTrs v1) (GType.tr v2) (GType.tr_len v2) (GBound.trs v3) v4 v5 (GType.tr v6) (GType.tr_len v6) (GMethod.trs v7) (toStringS_all v1) (toType_all v2) (toBoundS_all v3) (toType_all v6) (toMethodS_all v7)

theorem eqInstance_all (x : GInstance) : EqC 76 x.tr := by
  obtain ⟨v0, v1, v2, v3, v4, v5, v6, v7⟩ := x
  exact eqInstance_of v0 (strTrs v1) (GType.tr v2) (GType.tr_len v2) (GBound.trs v3) v4 v5 (GType.tr v6) (GType.tr_len v6) (GMethod.trs v7) (eqStringS_all v1) (eqType_all v2) (eqBoundS_all v3) (eqType_all v6) (eqMethodS_all v7)

end Go.Proofs.Ytoifjkggpanceaa
