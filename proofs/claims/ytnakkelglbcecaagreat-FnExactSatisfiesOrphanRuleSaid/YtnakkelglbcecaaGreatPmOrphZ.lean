/- SatisfiesOrphanRule in plain contracts. No conditions. -/
import Derived.Test.YtnakkelglbcecaaGreatPmZ
import Derived.Test.YtnakkelglbcecaaGreatPmOrph
namespace Go.Proofs.YtnakkelglbcecaaGreat
open Go.RowKit

theorem orphanPlain_impl (x0 : GProgram) (x1 : GInstanceRef) (w : World) (c0 c1 : List Value) (h0 : RepL w x0.tr c0) (h1 : RepL w x1.tr c1) : Calls Tryz.prog 19 #[.agg ⟨c0⟩, .agg ⟨c1⟩] w fun e w' => e = .returned (.bool (GProgram.orphan x0 x1)) ∧ Ext w w' := by
  rw [GProgram.tr_cs] at h0
  rw [GInstanceRef.tr_cs] at h1
  exact AFun.plain (orphan_impl x0 x1) ⟨RV0.agg h0, RV0.agg h1, trivial⟩
theorem orphanPlain_spec (x0 : GProgram) (x1 : GInstanceRef) (w : World) (c0 c1 : List Value) (h0 : RepL w x0.tr c0) (h1 : RepL w x1.tr c1) : Calls Tryz.prog 16 #[.agg ⟨c0⟩, .agg ⟨c1⟩] w fun e w' => e = .returned (.bool (GProgram.orphan x0 x1)) ∧ Ext w w' := by
  rw [GProgram.tr_cs] at h0
  rw [GInstanceRef.tr_cs] at h1
  exact AFun.plain (orphan_spec x0 x1) ⟨RV0.agg h0, RV0.agg h1, trivial⟩

end Go.Proofs.YtnakkelglbcecaaGreat
