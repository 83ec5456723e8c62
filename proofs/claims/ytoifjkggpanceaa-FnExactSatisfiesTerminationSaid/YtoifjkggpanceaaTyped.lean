/- From the reading of an argument to the typed tree. No conditions. -/
import Derived.Test.YtoifjkggpanceaaProg
import Derived.Test.YtoifjkggpanceaaData
import Derived.Test.YtoifjkggpanceaaOpen
namespace Go.Proofs.Ytoifjkggpanceaa
open Go.RowKit Go.Proofs

def plainTypes : List TypeId := [3, 4, 9, 22, 24, 26, 41, 42, 44, 45, 66, 79, 98, 100, 116, 118, 157, 235, 236, 238, 240, 290]
theorem plainClosed : closedPlain Try.prog plainTypes = true := by kernel_rfl
theorem cellsOf3 : Try.prog.cellsOf 3 = 1 := by kernel_rfl
theorem cellsOf4 : Try.prog.cellsOf 4 = 1 := by kernel_rfl
theorem cellsOf9 : Try.prog.cellsOf 9 = 1 := by kernel_rfl
theorem cellsOf22 : Try.prog.cellsOf 22 = 1 := by kernel_rfl
theorem cellsOf24 : Try.prog.cellsOf 24 = 3 := by kernel_rfl
theorem cellsOf26 : Try.prog.cellsOf 26 = 4 := by kernel_rfl
theorem cellsOf41 : Try.prog.cellsOf 41 = 2 := by kernel_rfl
theorem cellsOf42 : Try.prog.cellsOf 42 = 1 := by kernel_rfl
theorem cellsOf44 : Try.prog.cellsOf 44 = 5 := by kernel_rfl
theorem cellsOf45 : Try.prog.cellsOf 45 = 1 := by kernel_rfl
theorem cellsOf66 : Try.prog.cellsOf 66 = 1 := by kernel_rfl
theorem cellsOf79 : Try.prog.cellsOf 79 = 1 := by kernel_rfl
theorem cellsOf98 : Try.prog.cellsOf 98 = 1 := by kernel_rfl
theorem cellsOf100 : Try.prog.cellsOf 100 = 3 := by kernel_rfl
theorem cellsOf116 : Try.prog.cellsOf 116 = 1 := by kernel_rfl
theorem cellsOf118 : Try.prog.cellsOf 118 = 12 := by kernel_rfl
theorem cellsOf157 : Try.prog.cellsOf 157 = 6 := by kernel_rfl
theorem cellsOf235 : Try.prog.cellsOf 235 = 1 := by kernel_rfl
theorem cellsOf236 : Try.prog.cellsOf 236 = 1 := by kernel_rfl
theorem cellsOf238 : Try.prog.cellsOf 238 = 9 := by kernel_rfl
theorem cellsOf240 : Try.prog.cellsOf 240 = 11 := by kernel_rfl
theorem cellsOf290 : Try.prog.cellsOf 290 = 11 := by kernel_rfl
theorem tyof_InstanceRef {ts : List Tr} (ht : TyOf Try.prog 41 ts) : ∃ x : GInstanceRef, ts = x.tr := by
  obtain ⟨parts, rfl, h⟩ := TyOf.struct_inv ht Try.underlying41
  obtain ⟨v0, e0⟩ := (h 0 _ rfl).int_inv Try.underlying3
  obtain ⟨v1, e1⟩ := (h 1 _ rfl).int_inv Try.underlying3
  refine ⟨.mk v0 v1, ?_⟩
  simp [List.range_succ, e0, e1, GInstanceRef.tr]
theorem tyof_Type_fuel : ∀ (N : Nat) (ts : List Tr), SizeOf.sizeOf ts < N → TyOf Try.prog 24 ts → ∃ x : GType, ts = x.tr := by
  intro N
  induction N with
  | zero => intro ts h; omega
  | succ N ih_Type =>
    intro ts hN ht
    obtain ⟨parts, rfl, h⟩ := TyOf.struct_inv ht Try.underlying24
    obtain ⟨v0, e0⟩ := (h 0 _ rfl).int_inv Try.underlying3
    obtain ⟨v1, e1⟩ := (h 1 _ rfl).str_inv Try.underlying9
    obtain ⟨es2, e2, m2⟩ := (h 2 _ rfl).slice_inv Try.underlying22
    obtain ⟨v2, rfl⟩ := list_of (tr := GType.tr) (es := es2) fun e he => ih_Type e (by have h1 := List.sizeOf_lt_of_mem he; have h2 := List.sizeOf_lt_of_mem (mem_part (k := 2) (n := 3) (by omega) e2); simp only [Tr.row.sizeOf_spec] at h2; have hN' : SizeOf.sizeOf ((List.range 3).flatMap parts) < N + 1 := hN; omega) (m2 e he)
    refine ⟨.mk v0 v1 v2, ?_⟩
    simp [List.range_succ, e0, e1, e2, GType.tr, GType.trs_map, cellsOf24]
theorem tyof_Type {ts : List Tr} (h : TyOf Try.prog 24 ts) : ∃ x : GType, ts = x.tr := tyof_Type_fuel _ ts (Nat.lt_succ_self _) h
theorem tyof_Expr_fuel : ∀ (N : Nat), (∀ ts, SizeOf.sizeOf ts < N → TyOf Try.prog 290 ts → ∃ x : GArm, ts = x.tr) ∧ (∀ ts, SizeOf.sizeOf ts < N → TyOf Try.prog 238 ts → ∃ x : GExpr, ts = x.tr) := by
  intro N
  induction N with
  | zero => exact ⟨fun ts h => by omega, fun ts h => by omega⟩
  | succ N ih =>
    obtain ⟨ih_Arm, ih_Expr⟩ := ih
    refine ⟨fun ts hN ht => ?_, fun ts hN ht => ?_⟩
    · obtain ⟨parts, rfl, h⟩ := TyOf.struct_inv ht Try.underlying290
      obtain ⟨v0, e0⟩ := (h 0 _ rfl).str_inv Try.underlying9
      obtain ⟨es1, e1, m1⟩ := (h 1 _ rfl).slice_inv Try.underlying66
      obtain ⟨v1, rfl⟩ := list_of (tr := fun s => [Tr.leaf (.string s)]) (es := es1) fun e he => (m1 e he).str_inv Try.underlying9
      obtain ⟨v2, e2⟩ := ih_Expr (parts 2) (by simp [List.range_succ, e0, e1] at hN; omega) (h 2 _ rfl)
      refine ⟨.mk v0 v1 v2, ?_⟩
      simp [List.range_succ, e0, e1, e2, GArm.tr, strTrs, intTrs, cellsOf9]
    · obtain ⟨parts, rfl, h⟩ := TyOf.struct_inv ht Try.underlying238
      obtain ⟨v0, e0⟩ := (h 0 _ rfl).int_inv Try.underlying3
      obtain ⟨v1, e1⟩ := (h 1 _ rfl).str_inv Try.underlying9
      obtain ⟨v2, e2⟩ := (h 2 _ rfl).str_inv Try.underlying9
      obtain ⟨v3, e3⟩ := (h 3 _ rfl).int_inv Try.underlying3
      obtain ⟨v4, e4⟩ := tyof_Type (h 4 _ rfl)
      obtain ⟨es5, e5, m5⟩ := (h 5 _ rfl).slice_inv Try.underlying235
      obtain ⟨v5, rfl⟩ := list_of (tr := GExpr.tr) (es := es5) fun e he => ih_Expr e (by have h1 := List.sizeOf_lt_of_mem he; have h2 := List.sizeOf_lt_of_mem (mem_part (k := 5) (n := 7) (by omega) e5); simp only [Tr.row.sizeOf_spec] at h2; have hN' : SizeOf.sizeOf ((List.range 7).flatMap parts) < N + 1 := hN; omega) (m5 e he)
      obtain ⟨es6, e6, m6⟩ := (h 6 _ rfl).slice_inv Try.underlying236
      obtain ⟨v6, rfl⟩ := list_of (tr := GArm.tr) (es := es6) fun e he => ih_Arm e (by have h1 := List.sizeOf_lt_of_mem he; have h2 := List.sizeOf_lt_of_mem (mem_part (k := 6) (n := 7) (by omega) e6); simp only [Tr.row.sizeOf_spec] at h2; have hN' : SizeOf.sizeOf ((List.range 7).flatMap parts) < N + 1 := hN; omega) (m6 e he)
      refine ⟨.mk v0 v1 v2 v3 v4 v5 v6, ?_⟩
      simp [List.range_succ, e0, e1, e2, e3, e4, e5, e6, GExpr.tr, GExpr.trs_map, GArm.trs_map, cellsOf238, cellsOf290]
theorem tyof_Arm {ts : List Tr} (h : TyOf Try.prog 290 ts) : ∃ x : GArm, ts = x.tr := (tyof_Expr_fuel _).1 ts (Nat.lt_succ_self _) h
theorem tyof_Expr {ts : List Tr} (h : TyOf Try.prog 238 ts) : ∃ x : GExpr, ts = x.tr := (tyof_Expr_fuel _).2 ts (Nat.lt_succ_self _) h
theorem tyof_Bound {ts : List Tr} (ht : TyOf Try.prog 26 ts) : ∃ x : GBound, ts = x.tr := by
  obtain ⟨parts, rfl, h⟩ := TyOf.struct_inv ht Try.underlying26
  obtain ⟨v0, e0⟩ := (h 0 _ rfl).str_inv Try.underlying9
  obtain ⟨v1, e1⟩ := tyof_Type (h 1 _ rfl)
  refine ⟨.mk v0 v1, ?_⟩
  simp [List.range_succ, e0, e1, GBound.tr]
theorem tyof_Method {ts : List Tr} (ht : TyOf Try.prog 240 ts) : ∃ x : GMethod, ts = x.tr := by
  obtain ⟨parts, rfl, h⟩ := TyOf.struct_inv ht Try.underlying240
  obtain ⟨v0, e0⟩ := (h 0 _ rfl).str_inv Try.underlying9
  obtain ⟨es1, e1, m1⟩ := (h 1 _ rfl).slice_inv Try.underlying66
  obtain ⟨v1, rfl⟩ := list_of (tr := fun s => [Tr.leaf (.string s)]) (es := es1) fun e he => (m1 e he).str_inv Try.underlying9
  obtain ⟨v2, e2⟩ := tyof_Expr (h 2 _ rfl)
  refine ⟨.mk v0 v1 v2, ?_⟩
  simp [List.range_succ, e0, e1, e2, GMethod.tr, strTrs, intTrs, cellsOf9]
theorem tyof_Instance {ts : List Tr} (ht : TyOf Try.prog 118 ts) : ∃ x : GInstance, ts = x.tr := by
  obtain ⟨parts, rfl, h⟩ := TyOf.struct_inv ht Try.underlying118
  obtain ⟨v0, e0⟩ := (h 0 _ rfl).str_inv Try.underlying9
  obtain ⟨es1, e1, m1⟩ := (h 1 _ rfl).slice_inv Try.underlying66
  obtain ⟨v1, rfl⟩ := list_of (tr := fun s => [Tr.leaf (.string s)]) (es := es1) fun e he => (m1 e he).str_inv Try.underlying9
  obtain ⟨v2, e2⟩ := tyof_Type (h 2 _ rfl)
  obtain ⟨es3, e3, m3⟩ := (h 3 _ rfl).slice_inv Try.underlying98
  obtain ⟨v3, rfl⟩ := list_of (tr := GBound.tr) (es := es3) fun e he => tyof_Bound (m3 e he)
  obtain ⟨v4, e4⟩ := (h 4 _ rfl).bool_inv Try.underlying4
  obtain ⟨v5, e5⟩ := (h 5 _ rfl).bool_inv Try.underlying4
  obtain ⟨v6, e6⟩ := tyof_Type (h 6 _ rfl)
  obtain ⟨es7, e7, m7⟩ := (h 7 _ rfl).slice_inv Try.underlying116
  obtain ⟨v7, rfl⟩ := list_of (tr := GMethod.tr) (es := es7) fun e he => tyof_Method (m7 e he)
  refine ⟨.mk v0 v1 v2 v3 v4 v5 v6 v7, ?_⟩
  simp [List.range_succ, e0, e1, e2, e3, e4, e5, e6, e7, GInstance.tr, GBound.trs_map, GMethod.trs_map, strTrs, intTrs, cellsOf9, cellsOf26, cellsOf240]
theorem tyof_Evidence_fuel : ∀ (N : Nat) (ts : List Tr), SizeOf.sizeOf ts < N → TyOf Try.prog 44 ts → ∃ x : GEvidence, ts = x.tr := by
  intro N
  induction N with
  | zero => intro ts h; omega
  | succ N ih_Evidence =>
    intro ts hN ht
    obtain ⟨parts, rfl, h⟩ := TyOf.struct_inv ht Try.underlying44
    obtain ⟨v0, e0⟩ := (h 0 _ rfl).int_inv Try.underlying3
    obtain ⟨v1, e1⟩ := (h 1 _ rfl).int_inv Try.underlying3
    obtain ⟨v2, e2⟩ := tyof_InstanceRef (h 2 _ rfl)
    obtain ⟨es3, e3, m3⟩ := (h 3 _ rfl).slice_inv Try.underlying42
    obtain ⟨v3, rfl⟩ := list_of (tr := GEvidence.tr) (es := es3) fun e he => ih_Evidence e (by have h1 := List.sizeOf_lt_of_mem he; have h2 := List.sizeOf_lt_of_mem (mem_part (k := 3) (n := 4) (by omega) e3); simp only [Tr.row.sizeOf_spec] at h2; have hN' : SizeOf.sizeOf ((List.range 4).flatMap parts) < N + 1 := hN; omega) (m3 e he)
    refine ⟨.mk v0 v1 v2 v3, ?_⟩
    simp [List.range_succ, e0, e1, e2, e3, GEvidence.tr, GEvidence.trs_map, cellsOf44]
theorem tyof_Evidence {ts : List Tr} (h : TyOf Try.prog 44 ts) : ∃ x : GEvidence, ts = x.tr := tyof_Evidence_fuel _ ts (Nat.lt_succ_self _) h
theorem tyof_Assumption {ts : List Tr} (ht : TyOf Try.prog 157 ts) : ∃ x : GAssumption, ts = x.tr := by
  obtain ⟨parts, rfl, h⟩ := TyOf.struct_inv ht Try.underlying157
  obtain ⟨v0, e0⟩ := tyof_Bound (h 0 _ rfl)
  obtain ⟨v1, e1⟩ := (h 1 _ rfl).int_inv Try.underlying3
  obtain ⟨es2, e2, m2⟩ := (h 2 _ rfl).slice_inv Try.underlying45
  obtain ⟨v2, rfl⟩ := list_of (tr := fun s => [Tr.leaf (.int .i64 s)]) (es := es2) fun e he => (m2 e he).int_inv Try.underlying3
  refine ⟨.mk v0 v1 v2, ?_⟩
  simp [List.range_succ, e0, e1, e2, GAssumption.tr, strTrs, intTrs, cellsOf3]
theorem tyof_Cache {ts : List Tr} (ht : TyOf Try.prog 100 ts) : ∃ x : GCache, ts = x.tr := by
  obtain ⟨parts, rfl, h⟩ := TyOf.struct_inv ht Try.underlying100
  obtain ⟨es0, e0, m0⟩ := (h 0 _ rfl).slice_inv Try.underlying98
  obtain ⟨v0, rfl⟩ := list_of (tr := GBound.tr) (es := es0) fun e he => tyof_Bound (m0 e he)
  obtain ⟨es1, e1, m1⟩ := (h 1 _ rfl).slice_inv Try.underlying45
  obtain ⟨v1, rfl⟩ := list_of (tr := fun s => [Tr.leaf (.int .i64 s)]) (es := es1) fun e he => (m1 e he).int_inv Try.underlying3
  obtain ⟨es2, e2, m2⟩ := (h 2 _ rfl).slice_inv Try.underlying42
  obtain ⟨v2, rfl⟩ := list_of (tr := GEvidence.tr) (es := es2) fun e he => tyof_Evidence (m2 e he)
  refine ⟨.mk v0 v1 v2, ?_⟩
  simp [List.range_succ, e0, e1, e2, GCache.tr, GBound.trs_map, GEvidence.trs_map, strTrs, intTrs, cellsOf3, cellsOf26, cellsOf44]
end Go.Proofs.Ytoifjkggpanceaa
