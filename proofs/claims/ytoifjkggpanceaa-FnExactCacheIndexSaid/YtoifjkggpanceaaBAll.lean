/- The laws' own helpers at the typed trees. No conditions. -/
import Derived.Test.YtoifjkggpanceaaData
import Derived.Test.YtoifjkggpanceaaBInstanceRef
import Derived.Test.YtoifjkggpanceaaBEvidence
import Derived.Test.YtoifjkggpanceaaBType
import Derived.Test.YtoifjkggpanceaaBBound
import Derived.Test.YtoifjkggpanceaaBAssumption
import Derived.Test.YtoifjkggpanceaaBCache
import Derived.Test.YtoifjkggpanceaaBLeaf
namespace Go.Proofs.Ytoifjkggpanceaa
open Go.RowKit Go.Proofs

theorem bulk0_InstanceRef (x : GInstanceRef) : Tr.bulkL x.tr = 0 := by
  obtain ⟨v0, v1⟩ := x
  simp [GInstanceRef.tr, Tr.bulkL, Tr.bulk]

theorem toInstanceRef_all (x : GInstanceRef) : ToC 91 x.tr := by
  obtain ⟨v0, v1⟩ := x
  exact toInstanceRef_of v0 v1

theorem eqInstanceRef_all (x : GInstanceRef) : EqC 94 x.tr := by
  obtain ⟨v0, v1⟩ := x
  exact eqInstanceRef_of v0 v1

theorem szEvidence_all : ∀ x : GEvidence, SzC 23 x.tr :=
  GEvidence.ind fun v0 v1 v2 v3 ih => szEvidence_of v0 v1 (GInstanceRef.tr v2) (GInstanceRef.tr_len v2) (GEvidence.trs v3) (szEvidenceS_of _ (GEvidence.sz v3) (GEvidence.all ih)) (bulk0_InstanceRef v2)

theorem szEvidenceS_all (l : List GEvidence) : SzSC 89 5 (GEvidence.trs l) := szEvidenceS_of _ (GEvidence.sz l) (GEvidence.all fun x _ => szEvidence_all x)

theorem toEvidence_all : ∀ x : GEvidence, ToC 25 x.tr :=
  GEvidence.ind fun v0 v1 v2 v3 ih => toEvidence_of v0 v1 (GInstanceRef.tr v2) (GInstanceRef.tr_len v2) (GEvidence.trs v3) (toInstanceRef_all v2) (toEvidenceS_of _ (GEvidence.sz v3) (GEvidence.all ih))

theorem toEvidenceS_all (l : List GEvidence) : ToSC 92 5 (GEvidence.trs l) := toEvidenceS_of _ (GEvidence.sz l) (GEvidence.all fun x _ => toEvidence_all x)

theorem eqEvidence_all : ∀ x : GEvidence, EqC 28 x.tr :=
  GEvidence.ind fun v0 v1 v2 v3 ih => eqEvidence_of v0 v1 (GInstanceRef.tr v2) (GInstanceRef.tr_len v2) (GEvidence.trs v3) (eqInstanceRef_all v2) (eqEvidenceS_of _ (GEvidence.sz v3) (GEvidence.all ih))

theorem eqEvidenceS_all (l : List GEvidence) : EqSC 95 5 (GEvidence.trs l) := eqEvidenceS_of _ (GEvidence.sz l) (GEvidence.all fun x _ => eqEvidence_all x)

theorem szType_all : ∀ x : GType, SzC 16 x.tr :=
  GType.ind fun v0 v1 v2 ih => szType_of v0 v1 (GType.trs v2) (szTypeS_of _ (GType.sz v2) (GType.all ih))

theorem szTypeS_all (l : List GType) : SzSC 81 3 (GType.trs l) := szTypeS_of _ (GType.sz l) (GType.all fun x _ => szType_all x)

theorem toType_all : ∀ x : GType, ToC 19 x.tr :=
  GType.ind fun v0 v1 v2 ih => toType_of v0 v1 (GType.trs v2) (toTypeS_of _ (GType.sz v2) (GType.all ih))

theorem toTypeS_all (l : List GType) : ToSC 85 3 (GType.trs l) := toTypeS_of _ (GType.sz l) (GType.all fun x _ => toType_all x)

theorem eqType_all : ∀ x : GType, EqC 22 x.tr :=
  GType.ind fun v0 v1 v2 ih => eqType_of v0 v1 (GType.trs v2) (eqTypeS_of _ (GType.sz v2) (GType.all ih))

theorem eqTypeS_all (l : List GType) : EqSC 88 3 (GType.trs l) := eqTypeS_of _ (GType.sz l) (GType.all fun x _ => eqType_all x)

theorem szBound_all (x : GBound) : SzC 15 x.tr := by
  obtain ⟨v0, v1⟩ := x
  exact szBound_of v0 (GType.tr v1) (GType.tr_len v1) (szType_all v1)

theorem szBoundS_all (l : List GBound) : SzSC 132 4 (GBound.trs l) := szBoundS_of _ (GBound.sz l) (GBound.all fun x _ => szBound_all x)

theorem toBound_all (x : GBound) : ToC 18 x.tr := by
  obtain ⟨v0, v1⟩ := x
  exact toBound_of v0 (GType.tr v1) (GType.tr_len v1) (toType_all v1)

theorem toBoundS_all (l : List GBound) : ToSC 134 4 (GBound.trs l) := toBoundS_of _ (GBound.sz l) (GBound.all fun x _ => toBound_all x)

theorem eqBound_all (x : GBound) : EqC 21 x.tr := by
  obtain ⟨v0, v1⟩ := x
  exact eqBound_of v0 (GType.tr v1) (GType.tr_len v1) (eqType_all v1)

theorem eqBoundS_all (l : List GBound) : EqSC 51 4 (GBound.trs l) := eqBoundS_of _ (GBound.sz l) (GBound.all fun x _ => eqBound_all x)

theorem szAssumption_all (x : GAssumption) : SzC 109 x.tr := by
  obtain ⟨v0, v1, v2⟩ := x
  exact szAssumption_of (GBound.tr v0) (GBound.tr_len v0) v1 (intTrs v2) (szBound_all v0) (szIntS_all v2)

theorem szAssumptionS_all (l : List GAssumption) : SzSC 44 6 (GAssumption.trs l) := szAssumptionS_of _ (GAssumption.sz l) (GAssumption.all fun x _ => szAssumption_all x)

theorem toAssumption_all (x : GAssumption) : ToC 111 x.tr := by
  obtain ⟨v0, v1, v2⟩ := x
  exact toAssumption_of (GBound.tr v0) (GBound.tr_len v0) v1 (intTrs v2) (toBound_all v0) (toIntS_all v2)

theorem toAssumptionS_all (l : List GAssumption) : ToSC 46 6 (GAssumption.trs l) := toAssumptionS_of _ (GAssumption.sz l) (GAssumption.all fun x _ => toAssumption_all x)

theorem eqAssumption_all (x : GAssumption) : EqC 114 x.tr := by
  obtain ⟨v0, v1, v2⟩ := x
  exact eqAssumption_of (GBound.tr v0) (GBound.tr_len v0) v1 (intTrs v2) (eqBound_all v0) (eqIntS_all v2)

theorem eqAssumptionS_all (l : List GAssumption) : EqSC 48 6 (GAssumption.trs l) := eqAssumptionS_of _ (GAssumption.sz l) (GAssumption.all fun x _ => eqAssumption_all x)

theorem szCache_all (x : GCache) : SzC 60 x.tr := by
  obtain ⟨v0, v1, v2⟩ := x
  exact szCache_of (GBound.trs v0) (intTrs v1) (GEvidence.trs v2) (szBoundS_all v0) (szIntS_all v1) (szEvidenceS_all v2)

theorem toCache_all (x : GCache) : ToC 62 x.tr := by
  obtain ⟨v0, v1, v2⟩ := x
  exact toCache_of (GBound.trs v0) (intTrs v1) (GEvidence.trs v2) (toBoundS_all v0) (toIntS_all v1) (toEvidenceS_all v2)

theorem eqCache_all (x : GCache) : EqC 64 x.tr := by
  obtain ⟨v0, v1, v2⟩ := x
  exact eqCache_of (GBound.trs v0) (intTrs v1) (GEvidence.trs v2) (eqBoundS_all v0) (eqIntS_all v1) (eqEvidenceS_all v2)

end Go.Proofs.Ytoifjkggpanceaa
