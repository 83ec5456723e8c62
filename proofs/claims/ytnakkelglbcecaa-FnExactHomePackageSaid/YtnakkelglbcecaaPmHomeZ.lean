/- HomePackage in plain contracts. No conditions. -/
import Derived.Test.YtnakkelglbcecaaPmZ
import Derived.Test.YtnakkelglbcecaaPmHome
namespace Go.Proofs.Ytnakkelglbcecaa
set_option linter.unusedSimpArgs false
set_option linter.unusedVariables false
open Go.RowKit

theorem homePlain_impl (x0 : GProgram) (x1 : GType) (w : World) (c0 c1 : List Value) (h0 : RepL w x0.tr c0) (h1 : RepL w x1.tr c1) : Calls Try.prog 10 #[.agg ⟨c0⟩, .agg ⟨c1⟩] w fun e w' => e = .returned (.int .i64 (GProgram.home x0 x1)) ∧ Ext w w' := by
  rw [GProgram.tr_cs] at h0
  rw [GType.tr_cs] at h1
  exact AFun.plain (home_impl x0 x1) ⟨RV0.agg h0, RV0.agg h1, trivial⟩
theorem homePlain_spec (x0 : GProgram) (x1 : GType) (w : World) (c0 c1 : List Value) (h0 : RepL w x0.tr c0) (h1 : RepL w x1.tr c1) : Calls Try.prog 7 #[.agg ⟨c0⟩, .agg ⟨c1⟩] w fun e w' => e = .returned (.int .i64 (GProgram.home x0 x1)) ∧ Ext w w' := by
  rw [GProgram.tr_cs] at h0
  rw [GType.tr_cs] at h1
  exact AFun.plain (home_spec x0 x1) ⟨RV0.agg h0, RV0.agg h1, trivial⟩

end Go.Proofs.Ytnakkelglbcecaa
