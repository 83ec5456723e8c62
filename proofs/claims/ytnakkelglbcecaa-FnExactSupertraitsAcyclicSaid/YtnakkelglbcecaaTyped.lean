/- From the reading of an argument to the typed tree. No conditions. -/
import Derived.Test.YtnakkelglbcecaaProg
import Derived.Test.YtnakkelglbcecaaData
import Derived.Test.YtnakkelglbcecaaOpen
namespace Go.Proofs.Ytnakkelglbcecaa
open Go.RowKit Go.Proofs

def plainTypes : List TypeId := [3, 4, 9, 22, 24, 25, 27, 47, 70, 71, 72, 73, 75, 100, 102, 104, 106, 108, 109, 111, 113, 114, 115, 117, 119, 159, 162, 165, 168, 171, 200]
theorem plainClosed : closedPlain Try.prog plainTypes = true := by kernel_rfl
theorem cellsOf3 : Try.prog.cellsOf 3 = 1 := by kernel_rfl
theorem cellsOf4 : Try.prog.cellsOf 4 = 1 := by kernel_rfl
theorem cellsOf9 : Try.prog.cellsOf 9 = 1 := by kernel_rfl
theorem cellsOf22 : Try.prog.cellsOf 22 = 1 := by kernel_rfl
theorem cellsOf24 : Try.prog.cellsOf 24 = 1 := by kernel_rfl
theorem cellsOf25 : Try.prog.cellsOf 25 = 1 := by kernel_rfl
theorem cellsOf27 : Try.prog.cellsOf 27 = 3 := by kernel_rfl
theorem cellsOf47 : Try.prog.cellsOf 47 = 1 := by kernel_rfl
theorem cellsOf70 : Try.prog.cellsOf 70 = 1 := by kernel_rfl
theorem cellsOf71 : Try.prog.cellsOf 71 = 1 := by kernel_rfl
theorem cellsOf72 : Try.prog.cellsOf 72 = 1 := by kernel_rfl
theorem cellsOf73 : Try.prog.cellsOf 73 = 1 := by kernel_rfl
theorem cellsOf75 : Try.prog.cellsOf 75 = 6 := by kernel_rfl
theorem cellsOf100 : Try.prog.cellsOf 100 = 1 := by kernel_rfl
theorem cellsOf102 : Try.prog.cellsOf 102 = 5 := by kernel_rfl
theorem cellsOf104 : Try.prog.cellsOf 104 = 1 := by kernel_rfl
theorem cellsOf106 : Try.prog.cellsOf 106 = 3 := by kernel_rfl
theorem cellsOf108 : Try.prog.cellsOf 108 = 1 := by kernel_rfl
theorem cellsOf109 : Try.prog.cellsOf 109 = 1 := by kernel_rfl
theorem cellsOf111 : Try.prog.cellsOf 111 = 12 := by kernel_rfl
theorem cellsOf113 : Try.prog.cellsOf 113 = 1 := by kernel_rfl
theorem cellsOf114 : Try.prog.cellsOf 114 = 1 := by kernel_rfl
theorem cellsOf115 : Try.prog.cellsOf 115 = 1 := by kernel_rfl
theorem cellsOf117 : Try.prog.cellsOf 117 = 9 := by kernel_rfl
theorem cellsOf119 : Try.prog.cellsOf 119 = 16 := by kernel_rfl
theorem cellsOf159 : Try.prog.cellsOf 159 = 16 := by kernel_rfl
theorem cellsOf162 : Try.prog.cellsOf 162 = 2 := by kernel_rfl
theorem cellsOf165 : Try.prog.cellsOf 165 = 4 := by kernel_rfl
theorem cellsOf168 : Try.prog.cellsOf 168 = 11 := by kernel_rfl
theorem cellsOf171 : Try.prog.cellsOf 171 = 4 := by kernel_rfl
theorem cellsOf200 : Try.prog.cellsOf 200 = 11 := by kernel_rfl
theorem tyof_Type_fuel : ∀ (N : Nat) (ts : List Tr), SizeOf.sizeOf ts < N → TyOf Try.prog 27 ts → ∃ x : GType, ts = x.tr := by
  intro N
  induction N with
  | zero => intro ts h; omega
  | succ N ih_Type =>
    intro ts hN ht
    obtain ⟨parts, rfl, h⟩ := TyOf.struct_inv ht Try.underlying27
    obtain ⟨v0, e0⟩ := (h 0 _ rfl).int_inv Try.underlying3
    obtain ⟨v1, e1⟩ := (h 1 _ rfl).str_inv Try.underlying9
    obtain ⟨es2, e2, m2⟩ := (h 2 _ rfl).slice_inv Try.underlying25
    obtain ⟨v2, rfl⟩ := list_of (tr := GType.tr) (es := es2) fun e he => ih_Type e (by have h1 := List.sizeOf_lt_of_mem he; have h2 := List.sizeOf_lt_of_mem (mem_part (k := 2) (n := 3) (by omega) e2); simp only [Tr.row.sizeOf_spec] at h2; have hN' : SizeOf.sizeOf ((List.range 3).flatMap parts) < N + 1 := hN; omega) (m2 e he)
    refine ⟨.mk v0 v1 v2, ?_⟩
    simp [List.range_succ, e0, e1, e2, GType.tr, GType.trs_map, cellsOf27]
theorem tyof_Type {ts : List Tr} (h : TyOf Try.prog 27 ts) : ∃ x : GType, ts = x.tr := tyof_Type_fuel _ ts (Nat.lt_succ_self _) h
theorem tyof_Expr_fuel : ∀ (N : Nat), (∀ ts, SizeOf.sizeOf ts < N → TyOf Try.prog 200 ts → ∃ x : GArm, ts = x.tr) ∧ (∀ ts, SizeOf.sizeOf ts < N → TyOf Try.prog 117 ts → ∃ x : GExpr, ts = x.tr) := by
  intro N
  induction N with
  | zero => exact ⟨fun ts h => by omega, fun ts h => by omega⟩
  | succ N ih =>
    obtain ⟨ih_Arm, ih_Expr⟩ := ih
    refine ⟨fun ts hN ht => ?_, fun ts hN ht => ?_⟩
    · obtain ⟨parts, rfl, h⟩ := TyOf.struct_inv ht Try.underlying200
      obtain ⟨v0, e0⟩ := (h 0 _ rfl).str_inv Try.underlying9
      obtain ⟨es1, e1, m1⟩ := (h 1 _ rfl).slice_inv Try.underlying47
      obtain ⟨v1, rfl⟩ := list_of (tr := fun s => [Tr.leaf (.string s)]) (es := es1) fun e he => (m1 e he).str_inv Try.underlying9
      obtain ⟨v2, e2⟩ := ih_Expr (parts 2) (by simp [List.range_succ, e0, e1] at hN; omega) (h 2 _ rfl)
      refine ⟨.mk v0 v1 v2, ?_⟩
      simp [List.range_succ, e0, e1, e2, GArm.tr, strTrs, intTrs, cellsOf9]
    · obtain ⟨parts, rfl, h⟩ := TyOf.struct_inv ht Try.underlying117
      obtain ⟨v0, e0⟩ := (h 0 _ rfl).int_inv Try.underlying3
      obtain ⟨v1, e1⟩ := (h 1 _ rfl).str_inv Try.underlying9
      obtain ⟨v2, e2⟩ := (h 2 _ rfl).str_inv Try.underlying9
      obtain ⟨v3, e3⟩ := (h 3 _ rfl).int_inv Try.underlying3
      obtain ⟨v4, e4⟩ := tyof_Type (h 4 _ rfl)
      obtain ⟨es5, e5, m5⟩ := (h 5 _ rfl).slice_inv Try.underlying114
      obtain ⟨v5, rfl⟩ := list_of (tr := GExpr.tr) (es := es5) fun e he => ih_Expr e (by have h1 := List.sizeOf_lt_of_mem he; have h2 := List.sizeOf_lt_of_mem (mem_part (k := 5) (n := 7) (by omega) e5); simp only [Tr.row.sizeOf_spec] at h2; have hN' : SizeOf.sizeOf ((List.range 7).flatMap parts) < N + 1 := hN; omega) (m5 e he)
      obtain ⟨es6, e6, m6⟩ := (h 6 _ rfl).slice_inv Try.underlying115
      obtain ⟨v6, rfl⟩ := list_of (tr := GArm.tr) (es := es6) fun e he => ih_Arm e (by have h1 := List.sizeOf_lt_of_mem he; have h2 := List.sizeOf_lt_of_mem (mem_part (k := 6) (n := 7) (by omega) e6); simp only [Tr.row.sizeOf_spec] at h2; have hN' : SizeOf.sizeOf ((List.range 7).flatMap parts) < N + 1 := hN; omega) (m6 e he)
      refine ⟨.mk v0 v1 v2 v3 v4 v5 v6, ?_⟩
      simp [List.range_succ, e0, e1, e2, e3, e4, e5, e6, GExpr.tr, GExpr.trs_map, GArm.trs_map, cellsOf117, cellsOf200]
theorem tyof_Arm {ts : List Tr} (h : TyOf Try.prog 200 ts) : ∃ x : GArm, ts = x.tr := (tyof_Expr_fuel _).1 ts (Nat.lt_succ_self _) h
theorem tyof_Expr {ts : List Tr} (h : TyOf Try.prog 117 ts) : ∃ x : GExpr, ts = x.tr := (tyof_Expr_fuel _).2 ts (Nat.lt_succ_self _) h
theorem tyof_Signature {ts : List Tr} (ht : TyOf Try.prog 159 ts) : ∃ x : GSignature, ts = x.tr := by
  obtain ⟨parts, rfl, h⟩ := TyOf.struct_inv ht Try.underlying159
  obtain ⟨v0, e0⟩ := (h 0 _ rfl).str_inv Try.underlying9
  obtain ⟨es1, e1, m1⟩ := (h 1 _ rfl).slice_inv Try.underlying25
  obtain ⟨v1, rfl⟩ := list_of (tr := GType.tr) (es := es1) fun e he => tyof_Type (m1 e he)
  obtain ⟨v2, e2⟩ := tyof_Type (h 2 _ rfl)
  obtain ⟨v3, e3⟩ := (h 3 _ rfl).bool_inv Try.underlying4
  obtain ⟨es4, e4, m4⟩ := (h 4 _ rfl).slice_inv Try.underlying47
  obtain ⟨v4, rfl⟩ := list_of (tr := fun s => [Tr.leaf (.string s)]) (es := es4) fun e he => (m4 e he).str_inv Try.underlying9
  obtain ⟨v5, e5⟩ := tyof_Expr (h 5 _ rfl)
  refine ⟨.mk v0 v1 v2 v3 v4 v5, ?_⟩
  simp [List.range_succ, e0, e1, e2, e3, e4, e5, GSignature.tr, GType.trs_map, strTrs, intTrs, cellsOf9, cellsOf27]
theorem tyof_Trait {ts : List Tr} (ht : TyOf Try.prog 102 ts) : ∃ x : GTrait, ts = x.tr := by
  obtain ⟨parts, rfl, h⟩ := TyOf.struct_inv ht Try.underlying102
  obtain ⟨v0, e0⟩ := (h 0 _ rfl).str_inv Try.underlying9
  obtain ⟨es1, e1, m1⟩ := (h 1 _ rfl).slice_inv Try.underlying47
  obtain ⟨v1, rfl⟩ := list_of (tr := fun s => [Tr.leaf (.string s)]) (es := es1) fun e he => (m1 e he).str_inv Try.underlying9
  obtain ⟨v2, e2⟩ := (h 2 _ rfl).bool_inv Try.underlying4
  obtain ⟨v3, e3⟩ := (h 3 _ rfl).bool_inv Try.underlying4
  obtain ⟨es4, e4, m4⟩ := (h 4 _ rfl).slice_inv Try.underlying100
  obtain ⟨v4, rfl⟩ := list_of (tr := GSignature.tr) (es := es4) fun e he => tyof_Signature (m4 e he)
  refine ⟨.mk v0 v1 v2 v3 v4, ?_⟩
  simp [List.range_succ, e0, e1, e2, e3, e4, GTrait.tr, GSignature.trs_map, strTrs, intTrs, cellsOf9, cellsOf159]
theorem tyof_Constructor {ts : List Tr} (ht : TyOf Try.prog 162 ts) : ∃ x : GConstructor, ts = x.tr := by
  obtain ⟨parts, rfl, h⟩ := TyOf.struct_inv ht Try.underlying162
  obtain ⟨v0, e0⟩ := (h 0 _ rfl).str_inv Try.underlying9
  obtain ⟨es1, e1, m1⟩ := (h 1 _ rfl).slice_inv Try.underlying25
  obtain ⟨v1, rfl⟩ := list_of (tr := GType.tr) (es := es1) fun e he => tyof_Type (m1 e he)
  refine ⟨.mk v0 v1, ?_⟩
  simp [List.range_succ, e0, e1, GConstructor.tr, GType.trs_map, cellsOf27]
theorem tyof_DataType {ts : List Tr} (ht : TyOf Try.prog 106 ts) : ∃ x : GDataType, ts = x.tr := by
  obtain ⟨parts, rfl, h⟩ := TyOf.struct_inv ht Try.underlying106
  obtain ⟨v0, e0⟩ := (h 0 _ rfl).str_inv Try.underlying9
  obtain ⟨es1, e1, m1⟩ := (h 1 _ rfl).slice_inv Try.underlying47
  obtain ⟨v1, rfl⟩ := list_of (tr := fun s => [Tr.leaf (.string s)]) (es := es1) fun e he => (m1 e he).str_inv Try.underlying9
  obtain ⟨es2, e2, m2⟩ := (h 2 _ rfl).slice_inv Try.underlying104
  obtain ⟨v2, rfl⟩ := list_of (tr := GConstructor.tr) (es := es2) fun e he => tyof_Constructor (m2 e he)
  refine ⟨.mk v0 v1 v2, ?_⟩
  simp [List.range_succ, e0, e1, e2, GDataType.tr, GConstructor.trs_map, strTrs, intTrs, cellsOf9, cellsOf162]
theorem tyof_Bound {ts : List Tr} (ht : TyOf Try.prog 165 ts) : ∃ x : GBound, ts = x.tr := by
  obtain ⟨parts, rfl, h⟩ := TyOf.struct_inv ht Try.underlying165
  obtain ⟨v0, e0⟩ := (h 0 _ rfl).str_inv Try.underlying9
  obtain ⟨v1, e1⟩ := tyof_Type (h 1 _ rfl)
  refine ⟨.mk v0 v1, ?_⟩
  simp [List.range_succ, e0, e1, GBound.tr]
theorem tyof_Method {ts : List Tr} (ht : TyOf Try.prog 168 ts) : ∃ x : GMethod, ts = x.tr := by
  obtain ⟨parts, rfl, h⟩ := TyOf.struct_inv ht Try.underlying168
  obtain ⟨v0, e0⟩ := (h 0 _ rfl).str_inv Try.underlying9
  obtain ⟨es1, e1, m1⟩ := (h 1 _ rfl).slice_inv Try.underlying47
  obtain ⟨v1, rfl⟩ := list_of (tr := fun s => [Tr.leaf (.string s)]) (es := es1) fun e he => (m1 e he).str_inv Try.underlying9
  obtain ⟨v2, e2⟩ := tyof_Expr (h 2 _ rfl)
  refine ⟨.mk v0 v1 v2, ?_⟩
  simp [List.range_succ, e0, e1, e2, GMethod.tr, strTrs, intTrs, cellsOf9]
theorem tyof_Instance {ts : List Tr} (ht : TyOf Try.prog 111 ts) : ∃ x : GInstance, ts = x.tr := by
  obtain ⟨parts, rfl, h⟩ := TyOf.struct_inv ht Try.underlying111
  obtain ⟨v0, e0⟩ := (h 0 _ rfl).str_inv Try.underlying9
  obtain ⟨es1, e1, m1⟩ := (h 1 _ rfl).slice_inv Try.underlying47
  obtain ⟨v1, rfl⟩ := list_of (tr := fun s => [Tr.leaf (.string s)]) (es := es1) fun e he => (m1 e he).str_inv Try.underlying9
  obtain ⟨v2, e2⟩ := tyof_Type (h 2 _ rfl)
  obtain ⟨es3, e3, m3⟩ := (h 3 _ rfl).slice_inv Try.underlying108
  obtain ⟨v3, rfl⟩ := list_of (tr := GBound.tr) (es := es3) fun e he => tyof_Bound (m3 e he)
  obtain ⟨v4, e4⟩ := (h 4 _ rfl).bool_inv Try.underlying4
  obtain ⟨v5, e5⟩ := (h 5 _ rfl).bool_inv Try.underlying4
  obtain ⟨v6, e6⟩ := tyof_Type (h 6 _ rfl)
  obtain ⟨es7, e7, m7⟩ := (h 7 _ rfl).slice_inv Try.underlying109
  obtain ⟨v7, rfl⟩ := list_of (tr := GMethod.tr) (es := es7) fun e he => tyof_Method (m7 e he)
  refine ⟨.mk v0 v1 v2 v3 v4 v5 v6 v7, ?_⟩
  simp [List.range_succ, e0, e1, e2, e3, e4, e5, e6, e7, GInstance.tr, GBound.trs_map, GMethod.trs_map, strTrs, intTrs, cellsOf9, cellsOf165, cellsOf168]
theorem tyof_Param {ts : List Tr} (ht : TyOf Try.prog 171 ts) : ∃ x : GParam, ts = x.tr := by
  obtain ⟨parts, rfl, h⟩ := TyOf.struct_inv ht Try.underlying171
  obtain ⟨v0, e0⟩ := (h 0 _ rfl).str_inv Try.underlying9
  obtain ⟨v1, e1⟩ := tyof_Type (h 1 _ rfl)
  refine ⟨.mk v0 v1, ?_⟩
  simp [List.range_succ, e0, e1, GParam.tr]
theorem tyof_Function {ts : List Tr} (ht : TyOf Try.prog 119 ts) : ∃ x : GFunction, ts = x.tr := by
  obtain ⟨parts, rfl, h⟩ := TyOf.struct_inv ht Try.underlying119
  obtain ⟨v0, e0⟩ := (h 0 _ rfl).str_inv Try.underlying9
  obtain ⟨es1, e1, m1⟩ := (h 1 _ rfl).slice_inv Try.underlying47
  obtain ⟨v1, rfl⟩ := list_of (tr := fun s => [Tr.leaf (.string s)]) (es := es1) fun e he => (m1 e he).str_inv Try.underlying9
  obtain ⟨es2, e2, m2⟩ := (h 2 _ rfl).slice_inv Try.underlying108
  obtain ⟨v2, rfl⟩ := list_of (tr := GBound.tr) (es := es2) fun e he => tyof_Bound (m2 e he)
  obtain ⟨es3, e3, m3⟩ := (h 3 _ rfl).slice_inv Try.underlying113
  obtain ⟨v3, rfl⟩ := list_of (tr := GParam.tr) (es := es3) fun e he => tyof_Param (m3 e he)
  obtain ⟨v4, e4⟩ := tyof_Type (h 4 _ rfl)
  obtain ⟨v5, e5⟩ := tyof_Expr (h 5 _ rfl)
  refine ⟨.mk v0 v1 v2 v3 v4 v5, ?_⟩
  simp [List.range_succ, e0, e1, e2, e3, e4, e5, GFunction.tr, GBound.trs_map, GParam.trs_map, strTrs, intTrs, cellsOf9, cellsOf165, cellsOf171]
theorem tyof_Package {ts : List Tr} (ht : TyOf Try.prog 75 ts) : ∃ x : GPackage, ts = x.tr := by
  obtain ⟨parts, rfl, h⟩ := TyOf.struct_inv ht Try.underlying75
  obtain ⟨v0, e0⟩ := (h 0 _ rfl).str_inv Try.underlying9
  obtain ⟨es1, e1, m1⟩ := (h 1 _ rfl).slice_inv Try.underlying47
  obtain ⟨v1, rfl⟩ := list_of (tr := fun s => [Tr.leaf (.string s)]) (es := es1) fun e he => (m1 e he).str_inv Try.underlying9
  obtain ⟨es2, e2, m2⟩ := (h 2 _ rfl).slice_inv Try.underlying70
  obtain ⟨v2, rfl⟩ := list_of (tr := GTrait.tr) (es := es2) fun e he => tyof_Trait (m2 e he)
  obtain ⟨es3, e3, m3⟩ := (h 3 _ rfl).slice_inv Try.underlying71
  obtain ⟨v3, rfl⟩ := list_of (tr := GDataType.tr) (es := es3) fun e he => tyof_DataType (m3 e he)
  obtain ⟨es4, e4, m4⟩ := (h 4 _ rfl).slice_inv Try.underlying72
  obtain ⟨v4, rfl⟩ := list_of (tr := GInstance.tr) (es := es4) fun e he => tyof_Instance (m4 e he)
  obtain ⟨es5, e5, m5⟩ := (h 5 _ rfl).slice_inv Try.underlying73
  obtain ⟨v5, rfl⟩ := list_of (tr := GFunction.tr) (es := es5) fun e he => tyof_Function (m5 e he)
  refine ⟨.mk v0 v1 v2 v3 v4 v5, ?_⟩
  simp [List.range_succ, e0, e1, e2, e3, e4, e5, GPackage.tr, GTrait.trs_map, GDataType.trs_map, GInstance.trs_map, GFunction.trs_map, strTrs, intTrs, cellsOf9, cellsOf102, cellsOf106, cellsOf111, cellsOf119]
theorem tyof_Program {ts : List Tr} (ht : TyOf Try.prog 24 ts) : ∃ x : GProgram, ts = x.tr := by
  obtain ⟨parts, rfl, h⟩ := TyOf.struct_inv ht Try.underlying24
  obtain ⟨es0, e0, m0⟩ := (h 0 _ rfl).slice_inv Try.underlying22
  obtain ⟨v0, rfl⟩ := list_of (tr := GPackage.tr) (es := es0) fun e he => tyof_Package (m0 e he)
  refine ⟨.mk v0, ?_⟩
  simp [List.range_succ, e0, GProgram.tr, GPackage.trs_map, cellsOf75]
end Go.Proofs.Ytnakkelglbcecaa
