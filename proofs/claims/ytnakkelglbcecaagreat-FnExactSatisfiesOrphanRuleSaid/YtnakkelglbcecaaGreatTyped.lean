/- From the reading of an argument to the typed tree. No conditions. -/
import Derived.Test.YtnakkelglbcecaaGreatProg
import Derived.Test.YtnakkelglbcecaaGreatData
import Derived.Test.YtnakkelglbcecaaGreatOpen
namespace Go.Proofs.YtnakkelglbcecaaGreat
open Go.RowKit Go.Proofs

def plainTypes : List TypeId := [3, 4, 9, 22, 24, 26, 37, 39, 41, 54, 60, 78, 161, 162, 163, 164, 166, 232, 234, 236, 238, 240, 242, 244, 245, 246, 248, 250, 277, 280, 283, 286, 299]
theorem plainClosed : closedPlain Tryz.prog plainTypes = true := by kernel_rfl
theorem cellsOf3 : Tryz.prog.cellsOf 3 = 1 := by kernel_rfl
theorem cellsOf4 : Tryz.prog.cellsOf 4 = 1 := by kernel_rfl
theorem cellsOf9 : Tryz.prog.cellsOf 9 = 1 := by kernel_rfl
theorem cellsOf22 : Tryz.prog.cellsOf 22 = 1 := by kernel_rfl
theorem cellsOf24 : Tryz.prog.cellsOf 24 = 1 := by kernel_rfl
theorem cellsOf26 : Tryz.prog.cellsOf 26 = 2 := by kernel_rfl
theorem cellsOf37 : Tryz.prog.cellsOf 37 = 1 := by kernel_rfl
theorem cellsOf39 : Tryz.prog.cellsOf 39 = 3 := by kernel_rfl
theorem cellsOf41 : Tryz.prog.cellsOf 41 = 4 := by kernel_rfl
theorem cellsOf54 : Tryz.prog.cellsOf 54 = 1 := by kernel_rfl
theorem cellsOf60 : Tryz.prog.cellsOf 60 = 1 := by kernel_rfl
theorem cellsOf78 : Tryz.prog.cellsOf 78 = 1 := by kernel_rfl
theorem cellsOf161 : Tryz.prog.cellsOf 161 = 1 := by kernel_rfl
theorem cellsOf162 : Tryz.prog.cellsOf 162 = 1 := by kernel_rfl
theorem cellsOf163 : Tryz.prog.cellsOf 163 = 1 := by kernel_rfl
theorem cellsOf164 : Tryz.prog.cellsOf 164 = 1 := by kernel_rfl
theorem cellsOf166 : Tryz.prog.cellsOf 166 = 6 := by kernel_rfl
theorem cellsOf232 : Tryz.prog.cellsOf 232 = 1 := by kernel_rfl
theorem cellsOf234 : Tryz.prog.cellsOf 234 = 5 := by kernel_rfl
theorem cellsOf236 : Tryz.prog.cellsOf 236 = 1 := by kernel_rfl
theorem cellsOf238 : Tryz.prog.cellsOf 238 = 3 := by kernel_rfl
theorem cellsOf240 : Tryz.prog.cellsOf 240 = 1 := by kernel_rfl
theorem cellsOf242 : Tryz.prog.cellsOf 242 = 12 := by kernel_rfl
theorem cellsOf244 : Tryz.prog.cellsOf 244 = 1 := by kernel_rfl
theorem cellsOf245 : Tryz.prog.cellsOf 245 = 1 := by kernel_rfl
theorem cellsOf246 : Tryz.prog.cellsOf 246 = 1 := by kernel_rfl
theorem cellsOf248 : Tryz.prog.cellsOf 248 = 9 := by kernel_rfl
theorem cellsOf250 : Tryz.prog.cellsOf 250 = 16 := by kernel_rfl
theorem cellsOf277 : Tryz.prog.cellsOf 277 = 16 := by kernel_rfl
theorem cellsOf280 : Tryz.prog.cellsOf 280 = 2 := by kernel_rfl
theorem cellsOf283 : Tryz.prog.cellsOf 283 = 11 := by kernel_rfl
theorem cellsOf286 : Tryz.prog.cellsOf 286 = 4 := by kernel_rfl
theorem cellsOf299 : Tryz.prog.cellsOf 299 = 11 := by kernel_rfl
theorem tyof_InstanceRef {ts : List Tr} (ht : TyOf Tryz.prog 26 ts) : ∃ x : GInstanceRef, ts = x.tr := by
  obtain ⟨parts, rfl, h⟩ := TyOf.struct_inv ht Tryz.underlying26
  obtain ⟨v0, e0⟩ := (h 0 _ rfl).int_inv Tryz.underlying3
  obtain ⟨v1, e1⟩ := (h 1 _ rfl).int_inv Tryz.underlying3
  refine ⟨.mk v0 v1, ?_⟩
  simp [List.range_succ, e0, e1, GInstanceRef.tr]
theorem tyof_Type_fuel : ∀ (N : Nat) (ts : List Tr), SizeOf.sizeOf ts < N → TyOf Tryz.prog 39 ts → ∃ x : GType, ts = x.tr := by
  intro N
  induction N with
  | zero => intro ts h; omega
  | succ N ih_Type =>
    intro ts hN ht
    obtain ⟨parts, rfl, h⟩ := TyOf.struct_inv ht Tryz.underlying39
    obtain ⟨v0, e0⟩ := (h 0 _ rfl).int_inv Tryz.underlying3
    obtain ⟨v1, e1⟩ := (h 1 _ rfl).str_inv Tryz.underlying9
    obtain ⟨es2, e2, m2⟩ := (h 2 _ rfl).slice_inv Tryz.underlying37
    obtain ⟨v2, rfl⟩ := list_of (tr := GType.tr) (es := es2) fun e he => ih_Type e (by have h1 := List.sizeOf_lt_of_mem he; have h2 := List.sizeOf_lt_of_mem (mem_part (k := 2) (n := 3) (by omega) e2); simp only [Tr.row.sizeOf_spec] at h2; have hN' : SizeOf.sizeOf ((List.range 3).flatMap parts) < N + 1 := hN; omega) (m2 e he)
    refine ⟨.mk v0 v1 v2, ?_⟩
    simp [List.range_succ, e0, e1, e2, GType.tr, GType.trs_map, cellsOf39]
theorem tyof_Type {ts : List Tr} (h : TyOf Tryz.prog 39 ts) : ∃ x : GType, ts = x.tr := tyof_Type_fuel _ ts (Nat.lt_succ_self _) h
theorem tyof_Expr_fuel : ∀ (N : Nat), (∀ ts, SizeOf.sizeOf ts < N → TyOf Tryz.prog 299 ts → ∃ x : GArm, ts = x.tr) ∧ (∀ ts, SizeOf.sizeOf ts < N → TyOf Tryz.prog 248 ts → ∃ x : GExpr, ts = x.tr) := by
  intro N
  induction N with
  | zero => exact ⟨fun ts h => by omega, fun ts h => by omega⟩
  | succ N ih =>
    obtain ⟨ih_Arm, ih_Expr⟩ := ih
    refine ⟨fun ts hN ht => ?_, fun ts hN ht => ?_⟩
    · obtain ⟨parts, rfl, h⟩ := TyOf.struct_inv ht Tryz.underlying299
      obtain ⟨v0, e0⟩ := (h 0 _ rfl).str_inv Tryz.underlying9
      obtain ⟨es1, e1, m1⟩ := (h 1 _ rfl).slice_inv Tryz.underlying54
      obtain ⟨v1, rfl⟩ := list_of (tr := fun s => [Tr.leaf (.string s)]) (es := es1) fun e he => (m1 e he).str_inv Tryz.underlying9
      obtain ⟨v2, e2⟩ := ih_Expr (parts 2) (by simp [List.range_succ, e0, e1] at hN; omega) (h 2 _ rfl)
      refine ⟨.mk v0 v1 v2, ?_⟩
      simp [List.range_succ, e0, e1, e2, GArm.tr, strTrs, intTrs, cellsOf9]
    · obtain ⟨parts, rfl, h⟩ := TyOf.struct_inv ht Tryz.underlying248
      obtain ⟨v0, e0⟩ := (h 0 _ rfl).int_inv Tryz.underlying3
      obtain ⟨v1, e1⟩ := (h 1 _ rfl).str_inv Tryz.underlying9
      obtain ⟨v2, e2⟩ := (h 2 _ rfl).str_inv Tryz.underlying9
      obtain ⟨v3, e3⟩ := (h 3 _ rfl).int_inv Tryz.underlying3
      obtain ⟨v4, e4⟩ := tyof_Type (h 4 _ rfl)
      obtain ⟨es5, e5, m5⟩ := (h 5 _ rfl).slice_inv Tryz.underlying245
      obtain ⟨v5, rfl⟩ := list_of (tr := GExpr.tr) (es := es5) fun e he => ih_Expr e (by have h1 := List.sizeOf_lt_of_mem he; have h2 := List.sizeOf_lt_of_mem (mem_part (k := 5) (n := 7) (by omega) e5); simp only [Tr.row.sizeOf_spec] at h2; have hN' : SizeOf.sizeOf ((List.range 7).flatMap parts) < N + 1 := hN; omega) (m5 e he)
      obtain ⟨es6, e6, m6⟩ := (h 6 _ rfl).slice_inv Tryz.underlying246
      obtain ⟨v6, rfl⟩ := list_of (tr := GArm.tr) (es := es6) fun e he => ih_Arm e (by have h1 := List.sizeOf_lt_of_mem he; have h2 := List.sizeOf_lt_of_mem (mem_part (k := 6) (n := 7) (by omega) e6); simp only [Tr.row.sizeOf_spec] at h2; have hN' : SizeOf.sizeOf ((List.range 7).flatMap parts) < N + 1 := hN; omega) (m6 e he)
      refine ⟨.mk v0 v1 v2 v3 v4 v5 v6, ?_⟩
      simp [List.range_succ, e0, e1, e2, e3, e4, e5, e6, GExpr.tr, GExpr.trs_map, GArm.trs_map, cellsOf248, cellsOf299]
theorem tyof_Arm {ts : List Tr} (h : TyOf Tryz.prog 299 ts) : ∃ x : GArm, ts = x.tr := (tyof_Expr_fuel _).1 ts (Nat.lt_succ_self _) h
theorem tyof_Expr {ts : List Tr} (h : TyOf Tryz.prog 248 ts) : ∃ x : GExpr, ts = x.tr := (tyof_Expr_fuel _).2 ts (Nat.lt_succ_self _) h
theorem tyof_Signature {ts : List Tr} (ht : TyOf Tryz.prog 277 ts) : ∃ x : GSignature, ts = x.tr := by
  obtain ⟨parts, rfl, h⟩ := TyOf.struct_inv ht Tryz.underlying277
  obtain ⟨v0, e0⟩ := (h 0 _ rfl).str_inv Tryz.underlying9
  obtain ⟨es1, e1, m1⟩ := (h 1 _ rfl).slice_inv Tryz.underlying37
  obtain ⟨v1, rfl⟩ := list_of (tr := GType.tr) (es := es1) fun e he => tyof_Type (m1 e he)
  obtain ⟨v2, e2⟩ := tyof_Type (h 2 _ rfl)
  obtain ⟨v3, e3⟩ := (h 3 _ rfl).bool_inv Tryz.underlying4
  obtain ⟨es4, e4, m4⟩ := (h 4 _ rfl).slice_inv Tryz.underlying54
  obtain ⟨v4, rfl⟩ := list_of (tr := fun s => [Tr.leaf (.string s)]) (es := es4) fun e he => (m4 e he).str_inv Tryz.underlying9
  obtain ⟨v5, e5⟩ := tyof_Expr (h 5 _ rfl)
  refine ⟨.mk v0 v1 v2 v3 v4 v5, ?_⟩
  simp [List.range_succ, e0, e1, e2, e3, e4, e5, GSignature.tr, GType.trs_map, strTrs, intTrs, cellsOf9, cellsOf39]
theorem tyof_Trait {ts : List Tr} (ht : TyOf Tryz.prog 234 ts) : ∃ x : GTrait, ts = x.tr := by
  obtain ⟨parts, rfl, h⟩ := TyOf.struct_inv ht Tryz.underlying234
  obtain ⟨v0, e0⟩ := (h 0 _ rfl).str_inv Tryz.underlying9
  obtain ⟨es1, e1, m1⟩ := (h 1 _ rfl).slice_inv Tryz.underlying54
  obtain ⟨v1, rfl⟩ := list_of (tr := fun s => [Tr.leaf (.string s)]) (es := es1) fun e he => (m1 e he).str_inv Tryz.underlying9
  obtain ⟨v2, e2⟩ := (h 2 _ rfl).bool_inv Tryz.underlying4
  obtain ⟨v3, e3⟩ := (h 3 _ rfl).bool_inv Tryz.underlying4
  obtain ⟨es4, e4, m4⟩ := (h 4 _ rfl).slice_inv Tryz.underlying232
  obtain ⟨v4, rfl⟩ := list_of (tr := GSignature.tr) (es := es4) fun e he => tyof_Signature (m4 e he)
  refine ⟨.mk v0 v1 v2 v3 v4, ?_⟩
  simp [List.range_succ, e0, e1, e2, e3, e4, GTrait.tr, GSignature.trs_map, strTrs, intTrs, cellsOf9, cellsOf277]
theorem tyof_Constructor {ts : List Tr} (ht : TyOf Tryz.prog 280 ts) : ∃ x : GConstructor, ts = x.tr := by
  obtain ⟨parts, rfl, h⟩ := TyOf.struct_inv ht Tryz.underlying280
  obtain ⟨v0, e0⟩ := (h 0 _ rfl).str_inv Tryz.underlying9
  obtain ⟨es1, e1, m1⟩ := (h 1 _ rfl).slice_inv Tryz.underlying37
  obtain ⟨v1, rfl⟩ := list_of (tr := GType.tr) (es := es1) fun e he => tyof_Type (m1 e he)
  refine ⟨.mk v0 v1, ?_⟩
  simp [List.range_succ, e0, e1, GConstructor.tr, GType.trs_map, cellsOf39]
theorem tyof_DataType {ts : List Tr} (ht : TyOf Tryz.prog 238 ts) : ∃ x : GDataType, ts = x.tr := by
  obtain ⟨parts, rfl, h⟩ := TyOf.struct_inv ht Tryz.underlying238
  obtain ⟨v0, e0⟩ := (h 0 _ rfl).str_inv Tryz.underlying9
  obtain ⟨es1, e1, m1⟩ := (h 1 _ rfl).slice_inv Tryz.underlying54
  obtain ⟨v1, rfl⟩ := list_of (tr := fun s => [Tr.leaf (.string s)]) (es := es1) fun e he => (m1 e he).str_inv Tryz.underlying9
  obtain ⟨es2, e2, m2⟩ := (h 2 _ rfl).slice_inv Tryz.underlying236
  obtain ⟨v2, rfl⟩ := list_of (tr := GConstructor.tr) (es := es2) fun e he => tyof_Constructor (m2 e he)
  refine ⟨.mk v0 v1 v2, ?_⟩
  simp [List.range_succ, e0, e1, e2, GDataType.tr, GConstructor.trs_map, strTrs, intTrs, cellsOf9, cellsOf280]
theorem tyof_Bound {ts : List Tr} (ht : TyOf Tryz.prog 41 ts) : ∃ x : GBound, ts = x.tr := by
  obtain ⟨parts, rfl, h⟩ := TyOf.struct_inv ht Tryz.underlying41
  obtain ⟨v0, e0⟩ := (h 0 _ rfl).str_inv Tryz.underlying9
  obtain ⟨v1, e1⟩ := tyof_Type (h 1 _ rfl)
  refine ⟨.mk v0 v1, ?_⟩
  simp [List.range_succ, e0, e1, GBound.tr]
theorem tyof_Method {ts : List Tr} (ht : TyOf Tryz.prog 283 ts) : ∃ x : GMethod, ts = x.tr := by
  obtain ⟨parts, rfl, h⟩ := TyOf.struct_inv ht Tryz.underlying283
  obtain ⟨v0, e0⟩ := (h 0 _ rfl).str_inv Tryz.underlying9
  obtain ⟨es1, e1, m1⟩ := (h 1 _ rfl).slice_inv Tryz.underlying54
  obtain ⟨v1, rfl⟩ := list_of (tr := fun s => [Tr.leaf (.string s)]) (es := es1) fun e he => (m1 e he).str_inv Tryz.underlying9
  obtain ⟨v2, e2⟩ := tyof_Expr (h 2 _ rfl)
  refine ⟨.mk v0 v1 v2, ?_⟩
  simp [List.range_succ, e0, e1, e2, GMethod.tr, strTrs, intTrs, cellsOf9]
theorem tyof_Instance {ts : List Tr} (ht : TyOf Tryz.prog 242 ts) : ∃ x : GInstance, ts = x.tr := by
  obtain ⟨parts, rfl, h⟩ := TyOf.struct_inv ht Tryz.underlying242
  obtain ⟨v0, e0⟩ := (h 0 _ rfl).str_inv Tryz.underlying9
  obtain ⟨es1, e1, m1⟩ := (h 1 _ rfl).slice_inv Tryz.underlying54
  obtain ⟨v1, rfl⟩ := list_of (tr := fun s => [Tr.leaf (.string s)]) (es := es1) fun e he => (m1 e he).str_inv Tryz.underlying9
  obtain ⟨v2, e2⟩ := tyof_Type (h 2 _ rfl)
  obtain ⟨es3, e3, m3⟩ := (h 3 _ rfl).slice_inv Tryz.underlying78
  obtain ⟨v3, rfl⟩ := list_of (tr := GBound.tr) (es := es3) fun e he => tyof_Bound (m3 e he)
  obtain ⟨v4, e4⟩ := (h 4 _ rfl).bool_inv Tryz.underlying4
  obtain ⟨v5, e5⟩ := (h 5 _ rfl).bool_inv Tryz.underlying4
  obtain ⟨v6, e6⟩ := tyof_Type (h 6 _ rfl)
  obtain ⟨es7, e7, m7⟩ := (h 7 _ rfl).slice_inv Tryz.underlying240
  obtain ⟨v7, rfl⟩ := list_of (tr := GMethod.tr) (es := es7) fun e he => tyof_Method (m7 e he)
  refine ⟨.mk v0 v1 v2 v3 v4 v5 v6 v7, ?_⟩
  simp [List.range_succ, e0, e1, e2, e3, e4, e5, e6, e7, GInstance.tr, GBound.trs_map, GMethod.trs_map, strTrs, intTrs, cellsOf9, cellsOf41, cellsOf283]
theorem tyof_Param {ts : List Tr} (ht : TyOf Tryz.prog 286 ts) : ∃ x : GParam, ts = x.tr := by
  obtain ⟨parts, rfl, h⟩ := TyOf.struct_inv ht Tryz.underlying286
  obtain ⟨v0, e0⟩ := (h 0 _ rfl).str_inv Tryz.underlying9
  obtain ⟨v1, e1⟩ := tyof_Type (h 1 _ rfl)
  refine ⟨.mk v0 v1, ?_⟩
  simp [List.range_succ, e0, e1, GParam.tr]
theorem tyof_Function {ts : List Tr} (ht : TyOf Tryz.prog 250 ts) : ∃ x : GFunction, ts = x.tr := by
  obtain ⟨parts, rfl, h⟩ := TyOf.struct_inv ht Tryz.underlying250
  obtain ⟨v0, e0⟩ := (h 0 _ rfl).str_inv Tryz.underlying9
  obtain ⟨es1, e1, m1⟩ := (h 1 _ rfl).slice_inv Tryz.underlying54
  obtain ⟨v1, rfl⟩ := list_of (tr := fun s => [Tr.leaf (.string s)]) (es := es1) fun e he => (m1 e he).str_inv Tryz.underlying9
  obtain ⟨es2, e2, m2⟩ := (h 2 _ rfl).slice_inv Tryz.underlying78
  obtain ⟨v2, rfl⟩ := list_of (tr := GBound.tr) (es := es2) fun e he => tyof_Bound (m2 e he)
  obtain ⟨es3, e3, m3⟩ := (h 3 _ rfl).slice_inv Tryz.underlying244
  obtain ⟨v3, rfl⟩ := list_of (tr := GParam.tr) (es := es3) fun e he => tyof_Param (m3 e he)
  obtain ⟨v4, e4⟩ := tyof_Type (h 4 _ rfl)
  obtain ⟨v5, e5⟩ := tyof_Expr (h 5 _ rfl)
  refine ⟨.mk v0 v1 v2 v3 v4 v5, ?_⟩
  simp [List.range_succ, e0, e1, e2, e3, e4, e5, GFunction.tr, GBound.trs_map, GParam.trs_map, strTrs, intTrs, cellsOf9, cellsOf41, cellsOf286]
theorem tyof_Package {ts : List Tr} (ht : TyOf Tryz.prog 166 ts) : ∃ x : GPackage, ts = x.tr := by
  obtain ⟨parts, rfl, h⟩ := TyOf.struct_inv ht Tryz.underlying166
  obtain ⟨v0, e0⟩ := (h 0 _ rfl).str_inv Tryz.underlying9
  obtain ⟨es1, e1, m1⟩ := (h 1 _ rfl).slice_inv Tryz.underlying54
  obtain ⟨v1, rfl⟩ := list_of (tr := fun s => [Tr.leaf (.string s)]) (es := es1) fun e he => (m1 e he).str_inv Tryz.underlying9
  obtain ⟨es2, e2, m2⟩ := (h 2 _ rfl).slice_inv Tryz.underlying161
  obtain ⟨v2, rfl⟩ := list_of (tr := GTrait.tr) (es := es2) fun e he => tyof_Trait (m2 e he)
  obtain ⟨es3, e3, m3⟩ := (h 3 _ rfl).slice_inv Tryz.underlying162
  obtain ⟨v3, rfl⟩ := list_of (tr := GDataType.tr) (es := es3) fun e he => tyof_DataType (m3 e he)
  obtain ⟨es4, e4, m4⟩ := (h 4 _ rfl).slice_inv Tryz.underlying163
  obtain ⟨v4, rfl⟩ := list_of (tr := GInstance.tr) (es := es4) fun e he => tyof_Instance (m4 e he)
  obtain ⟨es5, e5, m5⟩ := (h 5 _ rfl).slice_inv Tryz.underlying164
  obtain ⟨v5, rfl⟩ := list_of (tr := GFunction.tr) (es := es5) fun e he => tyof_Function (m5 e he)
  refine ⟨.mk v0 v1 v2 v3 v4 v5, ?_⟩
  simp [List.range_succ, e0, e1, e2, e3, e4, e5, GPackage.tr, GTrait.trs_map, GDataType.trs_map, GInstance.trs_map, GFunction.trs_map, strTrs, intTrs, cellsOf9, cellsOf234, cellsOf238, cellsOf242, cellsOf250]
theorem tyof_Program {ts : List Tr} (ht : TyOf Tryz.prog 24 ts) : ∃ x : GProgram, ts = x.tr := by
  obtain ⟨parts, rfl, h⟩ := TyOf.struct_inv ht Tryz.underlying24
  obtain ⟨es0, e0, m0⟩ := (h 0 _ rfl).slice_inv Tryz.underlying22
  obtain ⟨v0, rfl⟩ := list_of (tr := GPackage.tr) (es := es0) fun e he => tyof_Package (m0 e he)
  refine ⟨.mk v0, ?_⟩
  simp [List.range_succ, e0, GProgram.tr, GPackage.trs_map, cellsOf166]
end Go.Proofs.YtnakkelglbcecaaGreat
