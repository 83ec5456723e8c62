/- What the laws' own helpers do, said once for all types. No conditions. -/
import Derived.Test.YtimjeckffegleaaProg
import Derived.Test.YtimjeckffegleaaOwn
namespace Go.Proofs.Ytimjeckffegleaa
open Go.RowKit Go.Proofs

def SzC (f : FuncId) (ts : List Tr) : Prop := ∀ (cs : List Value) (left : Int) (w : World), RepL w ts cs → 0 ≤ left → left ≤ 1048576 →
  Calls Try.prog f #[.agg ⟨cs⟩, .int .i64 left] w fun e w' => ∃ r : Int, e = .returned (.int .i64 r) ∧ Ext w w' ∧ r ≤ left ∧ -1 ≤ r ∧ (0 ≤ r → r + Tr.bulkL ts ≤ left)
def SzSC (f : FuncId) (sz : Nat) (es : List (List Tr)) : Prop := ∀ (s : Value) (left : Int) (w : World), Rep w (.row sz es) s → 0 ≤ left → left ≤ 1048576 →
  Calls Try.prog f #[s, .int .i64 left] w fun e w' => ∃ r : Int, e = .returned (.int .i64 r) ∧ Ext w w' ∧ r ≤ left ∧ -1 ≤ r ∧ (0 ≤ r → r + Tr.bulk (.row sz es) ≤ left)
def ToC (f : FuncId) (ts : List Tr) : Prop := ∀ (cs : List Value) (w : World), RepL w ts cs → Tr.bulkL ts ≤ 1099511627776 →
  Calls Try.prog f #[.agg ⟨cs⟩] w fun e w' => ∃ cs', e = .returned (.agg ⟨cs'⟩) ∧ Ext w w' ∧ OwnL w' ts cs' (Between w w')
def ToSC (f : FuncId) (sz : Nat) (es : List (List Tr)) : Prop := ∀ (s : Value) (w : World), Rep w (.row sz es) s → es.length + Tr.bulkAll es ≤ 1099511627776 →
  Calls Try.prog f #[s] w fun e w' => ∃ s', e = .returned s' ∧ Ext w w' ∧ Own w' (.row sz es) s' (Between w w')
def EqC (f : FuncId) (ts : List Tr) : Prop := ∀ (cs ds : List Value) (w : World), RepL w ts cs → RepL w ts ds →
  Calls Try.prog f #[.agg ⟨cs⟩, .agg ⟨ds⟩] w fun e w' => e = .returned (.bool true) ∧ Ext w w'
def EqSC (f : FuncId) (sz : Nat) (es : List (List Tr)) : Prop := ∀ (s u : Value) (w : World), Rep w (.row sz es) s → Rep w (.row sz es) u →
  Calls Try.prog f #[s, u] w fun e w' => e = .returned (.bool true) ∧ Ext w w'

theorem isz3 : (Try.prog.info? 3).map (·.size) = some 1 := by kernel_rfl
theorem iszb3 : (Try.prog.info? 3).map (fun i => (i.zero.isSome, i.size, i.bytes)) = some (true, 1, 8) := by kernel_rfl
theorem isz9 : (Try.prog.info? 9).map (·.size) = some 1 := by kernel_rfl
theorem iszb9 : (Try.prog.info? 9).map (fun i => (i.zero.isSome, i.size, i.bytes)) = some (true, 1, 16) := by kernel_rfl
theorem isz25 : (Try.prog.info? 25).map (·.size) = some 2 := by kernel_rfl
theorem iszb25 : (Try.prog.info? 25).map (fun i => (i.zero.isSome, i.size, i.bytes)) = some (true, 2, 16) := by kernel_rfl
theorem isz28 : (Try.prog.info? 28).map (·.size) = some 5 := by kernel_rfl
theorem iszb28 : (Try.prog.info? 28).map (fun i => (i.zero.isSome, i.size, i.bytes)) = some (true, 5, 56) := by kernel_rfl
theorem isz31 : (Try.prog.info? 31).map (·.size) = some 2 := by kernel_rfl
theorem iszb31 : (Try.prog.info? 31).map (fun i => (i.zero.isSome, i.size, i.bytes)) = some (true, 2, 16) := by kernel_rfl
theorem isz32 : (Try.prog.info? 32).map (·.size) = some 1 := by kernel_rfl
theorem iszb32 : (Try.prog.info? 32).map (fun i => (i.zero.isSome, i.size, i.bytes)) = some (true, 1, 24) := by kernel_rfl
theorem isz34 : (Try.prog.info? 34).map (·.size) = some 5 := by kernel_rfl
theorem iszb34 : (Try.prog.info? 34).map (fun i => (i.zero.isSome, i.size, i.bytes)) = some (true, 5, 56) := by kernel_rfl
theorem isz41 : (Try.prog.info? 41).map (·.size) = some 3 := by kernel_rfl
theorem iszb41 : (Try.prog.info? 41).map (fun i => (i.zero.isSome, i.size, i.bytes)) = some (true, 3, 48) := by kernel_rfl
theorem isz43 : (Try.prog.info? 43).map (·.size) = some 4 := by kernel_rfl
theorem iszb43 : (Try.prog.info? 43).map (fun i => (i.zero.isSome, i.size, i.bytes)) = some (true, 4, 64) := by kernel_rfl
theorem isz46 : (Try.prog.info? 46).map (·.size) = some 1 := by kernel_rfl
theorem iszb46 : (Try.prog.info? 46).map (fun i => (i.zero.isSome, i.size, i.bytes)) = some (true, 1, 24) := by kernel_rfl
theorem isz48 : (Try.prog.info? 48).map (·.size) = some 3 := by kernel_rfl
theorem iszb48 : (Try.prog.info? 48).map (fun i => (i.zero.isSome, i.size, i.bytes)) = some (true, 3, 48) := by kernel_rfl
theorem isz50 : (Try.prog.info? 50).map (·.size) = some 4 := by kernel_rfl
theorem iszb50 : (Try.prog.info? 50).map (fun i => (i.zero.isSome, i.size, i.bytes)) = some (true, 4, 64) := by kernel_rfl

end Go.Proofs.Ytimjeckffegleaa
