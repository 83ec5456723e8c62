/- From the reading of an argument to the typed tree. No conditions. -/
import Derived.Test.YtimjeckffegleaaProg
import Derived.Test.YtimjeckffegleaaData
import Derived.Test.YtimjeckffegleaaOpen
namespace Go.Proofs.Ytimjeckffegleaa
open Go.RowKit Go.Proofs

def plainTypes : List TypeId := [3, 9, 25, 26, 28, 39, 41, 43]
theorem plainClosed : closedPlain Try.prog plainTypes = true := by kernel_rfl
theorem cellsOf3 : Try.prog.cellsOf 3 = 1 := by kernel_rfl
theorem cellsOf9 : Try.prog.cellsOf 9 = 1 := by kernel_rfl
theorem cellsOf25 : Try.prog.cellsOf 25 = 2 := by kernel_rfl
theorem cellsOf26 : Try.prog.cellsOf 26 = 1 := by kernel_rfl
theorem cellsOf28 : Try.prog.cellsOf 28 = 5 := by kernel_rfl
theorem cellsOf39 : Try.prog.cellsOf 39 = 1 := by kernel_rfl
theorem cellsOf41 : Try.prog.cellsOf 41 = 3 := by kernel_rfl
theorem cellsOf43 : Try.prog.cellsOf 43 = 4 := by kernel_rfl
theorem tyof_InstanceRef {ts : List Tr} (ht : TyOf Try.prog 25 ts) : ∃ x : GInstanceRef, ts = x.tr := by
  obtain ⟨parts, rfl, h⟩ := TyOf.struct_inv ht Try.underlying25
  obtain ⟨v0, e0⟩ := (h 0 _ rfl).int_inv Try.underlying3
  obtain ⟨v1, e1⟩ := (h 1 _ rfl).int_inv Try.underlying3
  refine ⟨.mk v0 v1, ?_⟩
  simp [List.range_succ, e0, e1, GInstanceRef.tr, cellsOf3, cellsOf9, cellsOf25, cellsOf26, cellsOf28, cellsOf39, cellsOf41, cellsOf43]
theorem tyof_Type_fuel : ∀ (N : Nat) (ts : List Tr), SizeOf.sizeOf ts < N → TyOf Try.prog 41 ts → ∃ x : GType, ts = x.tr := by
  intro N
  induction N with
  | zero => intro ts h; omega
  | succ N ih_Type =>
    intro ts hN ht
    obtain ⟨parts, rfl, h⟩ := TyOf.struct_inv ht Try.underlying41
    obtain ⟨v0, e0⟩ := (h 0 _ rfl).int_inv Try.underlying3
    obtain ⟨v1, e1⟩ := (h 1 _ rfl).str_inv Try.underlying9
    obtain ⟨es2, e2, m2⟩ := (h 2 _ rfl).slice_inv Try.underlying39
    obtain ⟨v2, rfl⟩ := list_of (tr := GType.tr) (es := es2) fun e he => ih_Type e (by have h1 := List.sizeOf_lt_of_mem he; have h2 := List.sizeOf_lt_of_mem (mem_part (k := 2) (n := 3) (by omega) e2); simp only [Tr.row.sizeOf_spec] at h2; have hN' : SizeOf.sizeOf ((List.range 3).flatMap parts) < N + 1 := hN; omega) (m2 e he)
    refine ⟨.mk v0 v1 v2, ?_⟩
    simp [List.range_succ, e0, e1, e2, GType.tr, GType.trs_map, cellsOf3, cellsOf9, cellsOf25, cellsOf26, cellsOf28, cellsOf39, cellsOf41, cellsOf43]
theorem tyof_Type {ts : List Tr} (h : TyOf Try.prog 41 ts) : ∃ x : GType, ts = x.tr := tyof_Type_fuel _ ts (Nat.lt_succ_self _) h
theorem tyof_Bound {ts : List Tr} (ht : TyOf Try.prog 43 ts) : ∃ x : GBound, ts = x.tr := by
  obtain ⟨parts, rfl, h⟩ := TyOf.struct_inv ht Try.underlying43
  obtain ⟨v0, e0⟩ := (h 0 _ rfl).str_inv Try.underlying9
  obtain ⟨v1, e1⟩ := tyof_Type (h 1 _ rfl)
  refine ⟨.mk v0 v1, ?_⟩
  simp [List.range_succ, e0, e1, GBound.tr, cellsOf3, cellsOf9, cellsOf25, cellsOf26, cellsOf28, cellsOf39, cellsOf41, cellsOf43]
theorem tyof_Evidence_fuel : ∀ (N : Nat) (ts : List Tr), SizeOf.sizeOf ts < N → TyOf Try.prog 28 ts → ∃ x : GEvidence, ts = x.tr := by
  intro N
  induction N with
  | zero => intro ts h; omega
  | succ N ih_Evidence =>
    intro ts hN ht
    obtain ⟨parts, rfl, h⟩ := TyOf.struct_inv ht Try.underlying28
    obtain ⟨v0, e0⟩ := (h 0 _ rfl).int_inv Try.underlying3
    obtain ⟨v1, e1⟩ := (h 1 _ rfl).int_inv Try.underlying3
    obtain ⟨v2, e2⟩ := tyof_InstanceRef (h 2 _ rfl)
    obtain ⟨es3, e3, m3⟩ := (h 3 _ rfl).slice_inv Try.underlying26
    obtain ⟨v3, rfl⟩ := list_of (tr := GEvidence.tr) (es := es3) fun e he => ih_Evidence e (by have h1 := List.sizeOf_lt_of_mem he; have h2 := List.sizeOf_lt_of_mem (mem_part (k := 3) (n := 4) (by omega) e3); simp only [Tr.row.sizeOf_spec] at h2; have hN' : SizeOf.sizeOf ((List.range 4).flatMap parts) < N + 1 := hN; omega) (m3 e he)
    refine ⟨.mk v0 v1 v2 v3, ?_⟩
    simp [List.range_succ, e0, e1, e2, e3, GEvidence.tr, GEvidence.trs_map, cellsOf3, cellsOf9, cellsOf25, cellsOf26, cellsOf28, cellsOf39, cellsOf41, cellsOf43]
theorem tyof_Evidence {ts : List Tr} (h : TyOf Try.prog 28 ts) : ∃ x : GEvidence, ts = x.tr := tyof_Evidence_fuel _ ts (Nat.lt_succ_self _) h
end Go.Proofs.Ytimjeckffegleaa
